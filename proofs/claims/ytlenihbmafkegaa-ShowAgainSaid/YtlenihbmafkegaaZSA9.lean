/- Walks over functions of the program, words for them, and what the functions come to; of each text only what this claim uses; no condition. -/
import Derived.Test.YtlenihbmafkegaaZSA0
import Derived.Test.YtlenihbmafkegaaZSA1
import Derived.Test.YtlenihbmafkegaaZSA3
import Derived.Test.YtlenihbmafkegaaZSA4
import Derived.Test.YtlenihbmafkegaaZSA8
section
set_option linter.unusedVariables false
set_option linter.unusedSimpArgs false
namespace Go.Proofs.Ytlenihbmafkegaa.Q
open Go Go.RowKit Go.Proofs.YtlenihbmafkegaaW.PrintWords Go.Proofs.YtlenihbmafkegaaW.PrintLast Go.Proofs.YtlenihbmafkegaaW.PrintMore
/-- The state (type T) at block g: a list that came in by w0, a place in it, and whether the token there can't stand. -/
def Rd (T : Nat) (w0 W : World) (g : Nat) (f0 : List S56) (f1 : Int) (f2 : Bool) : Prop := ∃ A0 c0, W.heap[g]? = some (.cells #[.slice A0 f0.length c0, .int .i64 f1, .bool f2] T (0, 0)) ∧ w0.heap.size ≤ g ∧ Kd.C k56 w0 A0 f0.length f0
/-- Rows of trees that were made since w; what a row leads to is none of the rows ahead of it. -/
def KL (W w : World) (g : Nat) : List (Value × List (List S40)) → Prop
 | [] => True
 | (v, xs) :: r => (∃ ok : Nat → Prop, Kd.N (Kd.slice 40 k40) 22 W w.heap.size ok v xs ∧ (∀ k, ok k → k ≠ g ∧ w.heap.size ≤ k) ∧ ∀ p ∈ r, ∀ k, ok k → some k ≠ p.1.ownBlock) ∧ KL W w g r
theorem KL.own {W w : World} {g : Nat} : ∀ {ks}, KL W w g ks → ∀ p ∈ ks, ∀ k, p.1.ownBlock = some k → k < W.heap.size ∧ ∃ cells, W.heap[k]? = some (.cells cells 22 (0, 0))
 | (v, xs) :: r, ⟨⟨ok, h, _⟩, _⟩, _, .head _, k, hk => ⟨Kd.OO h k hk, Kd.Kq h k hk⟩
 | _ :: r, ⟨_, h⟩, p, .tail _ hp, k, hk => KL.own h p hp k hk
theorem KL.keep {W W' w : World} {g : Nat} (hk : aX W W' g none) : ∀ {ks}, KL W w g ks → KL W' w g ks
 | [], _ => trivial
 | (v, xs) :: r, ⟨⟨ok, h, h1, h2⟩, h3⟩ => ⟨⟨ok, Kd.Ns h hk (fun k h => (h1 k h).1), h1, h2⟩, KL.keep hk h3⟩
/-- What stays as it is besides: blocks that are known whole, rows of texts. -/
structure Ext where
 bs : List (Nat × Obj)
 ss : List (Value × List ByteArray)
/-- With what was made since w: trees, and rows of trees. -/
structure St (T : Nat) (w0 w W : World) (g : Nat) (f0 : List S56) (f1 : Int) (f2 : Bool) (os : List (Value × List S40)) (ks : List (Value × List (List S40))) (Z : Ext) : Prop where
 t : T ≠ 40 ∧ T ≠ 22 ∧ T ≠ 9
 z : w0.heap.size ≤ w.heap.size
 rd : Rd T w0 W g f0 f1 f2
 below : Below w0.heap.size w0 W
 keep : aX w W g none
 o : ∀ p ∈ os, Kd.R k40 40 W w.heap.size (fun _ => True) p.1 p.2
 s : KL W w g ks
 b : ∀ p ∈ Z.bs, W.heap[p.1]? = some p.2 ∧ p.1 ≠ g
 ss : ∀ p ∈ Z.ss, Kd.R Kd.string 9 W w.heap.size (fun _ => True) p.1 p.2
section
variable {T : Nat} {w0 w W W' : World} {g : Nat} {f0 : List S56} {f1 q : Int} {f2 b : Bool} {os : List (Value × List S40)} {ks : List (Value × List (List S40))} {Z : Ext}
theorem Rd.types (h : Rd T w0 W g f0 f1 f2) (ht : T ≠ 40 ∧ T ≠ 22 ∧ T ≠ 9) {base : Nat} {v : Value} {xs : List S40} (ho : Kd.R k40 40 W base (fun _ => True) v xs) : Kd.R k40 40 W base (fun k => k ≠ g) v xs := by
 obtain ⟨A0, c0, hb, hg, hr⟩ := h
 refine Kd.fK (Kd.qQ ho hb (fun q hq => ?_)) (fun _ hk => hk.2)
 have : q = 40 := by simpa [show k40.E = [] from rfl] using hq
 subst this
 exact fun e => ht.1 e.symm
theorem Rd.Ld (h : Rd T w0 W g f0 f1 f2) (ht : T ≠ 40 ∧ T ≠ 22 ∧ T ≠ 9) {base : Nat} {v : Value} {xs : List ByteArray} (ho : Kd.R Kd.string 9 W base (fun _ => True) v xs) : Kd.R Kd.string 9 W base (fun k => k ≠ g) v xs := by
 obtain ⟨A0, c0, hb, hg, hr⟩ := h
 refine Kd.fK (Kd.qQ ho hb (fun q hq => ?_)) (fun _ hk => hk.2)
 have : q = 9 := by simpa [show Kd.string.E = [] from rfl] using hq
 subst this
 exact fun e => ht.2.2 e.symm
theorem Rd.lt (h : Rd T w0 W g f0 f1 f2) : g < W.heap.size := by
 obtain ⟨A0, c0, hb, hg, hr⟩ := h
 exact jO hb
theorem Rd.ge (h : Rd T w0 W g f0 f1 f2) : w0.heap.size ≤ g := by
 obtain ⟨A0, c0, hb, hg, hr⟩ := h
 exact hg
theorem Rd.below (h : Rd T w0 W g f0 f1 f2) (hw : Below W.heap.size W W') : Rd T w0 W' g f0 f1 f2 := by
 obtain ⟨A0, c0, hb, hg, hr⟩ := h
 exact ⟨A0, c0, eH hb hw, hg, hr⟩
theorem Rd.cell1 (h : Rd T w0 W g f0 f1 f2) : W.cell? ⟨g, 1, none⟩ = some (.int .i64 f1) := by
 obtain ⟨A0, c0, hb, hg, hr⟩ := h
 exact (ah hb 1).trans rfl
theorem Rd.cell2 (h : Rd T w0 W g f0 f1 f2) : W.cell? ⟨g, 2, none⟩ = some (.bool f2) := by
 obtain ⟨A0, c0, hb, hg, hr⟩ := h
 exact (ah hb 2).trans rfl
theorem Rd.fro (h : Rd T w0 W g f0 f1 f2) (i : Nat) : W.frozen? ⟨g, i, none⟩ = false := by
 obtain ⟨A0, c0, hb, hg, hr⟩ := h
 exact af hb i
theorem St.new (ht : T ≠ 40 ∧ T ≠ 22 ∧ T ≠ 9) (hI : Rd T w0 w g f0 f1 f2) (hB : Below w0.heap.size w0 w) : St T w0 w w g f0 f1 f2 [] [] ⟨[], []⟩ := ⟨ht, hB.size, hI, hB, aX.refl w g none, fun _ h => (nomatch h), trivial, fun _ h => (nomatch h), fun _ h => (nomatch h)⟩
/-- The world went on: nothing but the state was written. -/
theorem St.step (h : St T w0 w W g f0 f1 f2 os ks Z) (hk : aX W W' g none) (hI : Rd T w0 W' g f0 q b) (hB : Below w0.heap.size w0 W') : St T w0 w W' g f0 q b os ks Z :=
 ⟨h.t, h.z, hI, hB, h.keep.trans hk (.inl rfl), fun p hp => Kd.fK (Kd.CY (h.rd.types h.t (h.o p hp)) hk (fun _ h => h)) (fun _ _ => trivial), KL.keep hk h.s, fun p hp => ⟨(hk.2 p.1 (jO (h.b p hp).1) (h.b p hp).2 (by simp)).trans (h.b p hp).1, (h.b p hp).2⟩, fun p hp => Kd.fK (Kd.CY (h.rd.Ld h.t (h.ss p hp)) hk (fun _ h => h)) (fun _ _ => trivial)⟩
theorem St.jT (h : St T w0 w W g f0 f1 f2 os ks Z) (hb : Below W.heap.size W W') : St T w0 w W' g f0 f1 f2 os ks Z :=
 h.step (aX.of_below hb g none) (h.rd.below hb) (aj h.below hb)
theorem St.drewN (h : St T w0 w W g f0 f1 f2 os ks Z) (n : Nat) : St T w0 w (W.drewN n) g f0 f1 f2 os ks Z := h.jT (fH (Below.refl _ _) n)
theorem St.drew (h : St T w0 w W g f0 f1 f2 os ks Z) : St T w0 w W.drew g f0 f1 f2 os ks Z := h.jT (Below.refl _ _).drew
theorem St.alloc (h : St T w0 w W g f0 f1 f2 os ks Z) (o : Obj) : St T w0 w (W.alloc o) g f0 f1 f2 os ks Z := h.jT (fB (Below.refl _ _) o)
theorem St.set1 (h : St T w0 w W g f0 f1 f2 os ks Z) (x : Int) : St T w0 w (W.setCell ⟨g, 1, none⟩ (.int .i64 x)) g f0 x f2 os ks Z := by
 refine h.step ((aX.refl W g none).Ez 1 _) ?_ (gQ h.below h.rd.ge)
 obtain ⟨A0, c0, hb, hg, hr0⟩ := h.rd
 exact ⟨A0, c0, by simpa using mP hb 1 (.int .i64 x), hg, hr0⟩
theorem St.set2 (h : St T w0 w W g f0 f1 f2 os ks Z) (x : Bool) : St T w0 w (W.setCell ⟨g, 2, none⟩ (.bool x)) g f0 f1 x os ks Z := by
 refine h.step ((aX.refl W g none).Ez 2 _) ?_ (gQ h.below h.rd.ge)
 obtain ⟨A0, c0, hb, hg, hr0⟩ := h.rd
 exact ⟨A0, c0, by simpa using mP hb 2 (.bool x), hg, hr0⟩
theorem St.push (h : St T w0 w W g f0 f1 f2 os ks Z) {v : Value} {xs : List S40} {base : Nat} (hb : w.heap.size ≤ base) (ho : Kd.R k40 40 W base (fun _ => True) v xs) : St T w0 w W g f0 f1 f2 ((v, xs) :: os) ks Z :=
 ⟨h.t, h.z, h.rd, h.below, h.keep, fun p hp => (by
  rcases List.mem_cons.1 hp with rfl | hp
  ·exact Kd.dm ho hb
  exact h.o p hp), h.s, h.b, h.ss⟩
theorem St.Dv (h : St T w0 w W g f0 f1 f2 os ks Z) {v : Value} {xs : List (List S40)} {ok : Nat → Prop} (ho : Kd.N (Kd.slice 40 k40) 22 W w.heap.size ok v xs) (h1 : ∀ k, ok k → k ≠ g ∧ w.heap.size ≤ k) (h2 : ∀ p ∈ ks, ∀ k, ok k → some k ≠ p.1.ownBlock) : St T w0 w W g f0 f1 f2 os ((v, xs) :: ks) Z :=
 ⟨h.t, h.z, h.rd, h.below, h.keep, h.o, ⟨⟨ok, ho, h1, h2⟩, h.s⟩, h.b, h.ss⟩
theorem St.pop {p : Value × List (List S40)} (h : St T w0 w W g f0 f1 f2 os (p :: ks) Z) : St T w0 w W g f0 f1 f2 os ks Z := ⟨h.t, h.z, h.rd, h.below, h.keep, h.o, h.s.2, h.b, h.ss⟩
theorem St.clear (h : St T w0 w W g f0 f1 f2 os ks Z) : St T w0 w W g f0 f1 f2 [] [] Z := ⟨h.t, h.z, h.rd, h.below, h.keep, fun _ h => (nomatch h), trivial, h.b, h.ss⟩
theorem St.KH {o : Value × List S40} (h : St T w0 w W g f0 f1 f2 (o :: os) ks Z) : St T w0 w W g f0 f1 f2 [o] [] ⟨[], []⟩ :=
 ⟨h.t, h.z, h.rd, h.below, h.keep, fun p hp => (by
  rcases List.mem_cons.1 hp with rfl | hp
  ·exact h.o _ (.head _)
  cases hp), trivial, fun _ h => (nomatch h), fun _ h => (nomatch h)⟩
theorem St.yE (h : St T w0 w W g f0 f1 f2 os ks Z) : St T w0 w W g f0 f1 f2 os ((.slice none 0 0, []) :: ks) Z := h.Dv (ok := fun _ => False) (Kd.KU _ _ _ _ _) (fun _ h => h.elim) (fun _ _ _ h => h.elim)
/-- A store into a struct of the call's own, while nothing else is held. -/
theorem St.setB {gb : Nat} {cs : Array Value} {t : TypeId} (h : St T w0 w W g f0 f1 f2 [] [] ⟨[(gb, .cells cs t (0, 0))], []⟩) (hge : w.heap.size ≤ gb) (i : Nat) (u : Value) : St T w0 w (W.setCell ⟨gb, i, none⟩ u) g f0 f1 f2 [] [] ⟨[(gb, .cells (cs.setIfInBounds i u) t (0, 0))], []⟩ := by
 obtain ⟨hc, hne⟩ := h.b _ (.head _)
 obtain ⟨A0, c0, hb, hg, hr⟩ := h.rd
 refine ⟨h.t, h.z, ⟨A0, c0, iW hb (p := ⟨gb, i, none⟩) (Ne.symm hne) u, hg, hr⟩, gQ h.below (Nat.le_trans h.z hge), wG h.keep hge u, fun _ h => (nomatch h), trivial, fun p hp => ?_, fun _ h => (nomatch h)⟩
 rcases List.mem_cons.1 hp with rfl | hp
 ·exact ⟨mP hc i u, hne⟩
 cases hp
theorem stT {W0 : World} {p : Int} {c : Bool} (H : St T w0 w W0 g f0 p c os ks Z) (f : St T w0 w W0 g f0 p c os ks Z → St T w0 w W g f0 f1 f2 os ks Z := by (intro h_; repeat (first | (with_reducible exact h_) | apply St.drewN | apply St.drew | apply St.set1 | apply St.set2 | apply St.alloc))) : St T w0 w W g f0 f1 f2 os ks Z := f H
end
section
variable {P : Program} {ops : Array Oper} {Q : Exit → Act → World → Prop} {T : Nat} {w0 w W : World} {g : Nat} {f0 : List S56} {f1 : Int} {f2 : Bool} {os : List (Value × List S40)} {ks : List (Value × List (List S40))} {Z : Ext}
 {rest : List Oper} {oi : Oper} {a : Act} {fn : Func} {ar : Array Operand} {ts : Array TypeId} {args : Array Value} {ρ β : Type} {R : β}
/-- What a call with the state gives back: E of the result and the world. -/
def Back (T : Nat) (w0 W : World) (g : Nat) (f0 : List S56) (q : Int) (b : Bool) (E : Ending → World → Prop) (e : Ending) (w' : World) : Prop := E e w' ∧ Rd T w0 w' g f0 q b ∧ Below w0.heap.size w0 w' ∧ aX W w' g none
theorem sB (f : FuncId) {N : Tmp} (hop : oi.op = .call { callee := .value (.func f), args := ar, argTypes := ts }) (hf : P.funcs[f]? = some fn) {F : Option (Bool × Int × Bool)} {K : Bool × Int × Bool → Option β}
 (HS : St T w0 w W g f0 f1 f2 os ks Z) (H : ae (F.bind K = some R))
 (hC : ∀ t q b, Rd T w0 W g f0 f1 f2 → Below w0.heap.size w0 W → F = some (t, q, b) → Calls P f args W (Back T w0 W g f0 q b fun e _ => e = .returned (.bool t)))
 (h : ∀ t q b w', St T w0 w w' g f0 q b os ks Z → ae (K (t, q, b) = some R) → wpList P ops Q rest (a.put (some N) (.bool t)) w')
 (hd : oi.dst = some N := by rfl) (hg : oi.guard = none := by rfl) (hname : (fn.name == "runtime.NumGoroutine") = false := by kernel_rfl) (hb : fn.body.isSome = true := by rfl)
 (hargs : ar.map a.eval = args := by ((try simp only [List.map_toArray, List.map_cons, List.map_nil]); first | done | rfl)) : wpList P ops Q (oi :: rest) a W := by
 obtain ⟨⟨t, q, b⟩, h1, h2⟩ := Option.bind_eq_some_iff.mp H.out
 refine jM (some N) hd hg hf hname hb args hop hargs ((hC t q b HS.rd HS.below h1).mono ?_)
 rintro _ w' ⟨rfl, hi, hb, hk⟩
 exact ⟨_, rfl, h t q b w' (HS.step hk hi hb) ⟨h2⟩⟩
theorem sU (f : FuncId) {N : Tmp} (hop : oi.op = .call { callee := .value (.func f), args := ar, argTypes := ts }) (hf : P.funcs[f]? = some fn) {F : Option (Int × Bool)} {K : Int × Bool → Option β}
 (HS : St T w0 w W g f0 f1 f2 os ks Z) (H : ae (F.bind K = some R))
 (hC : ∀ q b, Rd T w0 W g f0 f1 f2 → Below w0.heap.size w0 W → F = some (q, b) → Calls P f args W (Back T w0 W g f0 q b fun e _ => e = .returned (.tuple #[])))
 (h : ∀ q b w', St T w0 w w' g f0 q b os ks Z → ae (K (q, b) = some R) → wpList P ops Q rest (a.put (some N) (.tuple #[])) w')
 (hd : oi.dst = some N := by rfl) (hg : oi.guard = none := by rfl) (hname : (fn.name == "runtime.NumGoroutine") = false := by kernel_rfl) (hb : fn.body.isSome = true := by rfl)
 (hargs : ar.map a.eval = args := by ((try simp only [List.map_toArray, List.map_cons, List.map_nil]); first | done | rfl)) : wpList P ops Q (oi :: rest) a W := by
 obtain ⟨⟨q, b⟩, h1, h2⟩ := Option.bind_eq_some_iff.mp H.out
 refine jM (some N) hd hg hf hname hb args hop hargs ((hC q b HS.rd HS.below h1).mono ?_)
 rintro _ w' ⟨rfl, hi, hb, hk⟩
 exact ⟨_, rfl, h q b w' (HS.step hk hi hb) ⟨h2⟩⟩
/-- A token is given back. -/
theorem sN (f : FuncId) {N : Tmp} (hop : oi.op = .call { callee := .value (.func f), args := ar, argTypes := ts }) (hf : P.funcs[f]? = some fn) {F : Option (Int × ByteArray × Int × Int × Int × Bool)} {K : Int × ByteArray × Int × Int × Int × Bool → Option β}
 (HS : St T w0 w W g f0 f1 f2 os ks Z) (H : ae (F.bind K = some R))
 (hC : ∀ t1 t2 t3 t4 q b, Rd T w0 W g f0 f1 f2 → Below w0.heap.size w0 W → F = some (t1, t2, t3, t4, q, b) → Calls P f args W (Back T w0 W g f0 q b fun e _ => e = .returned (.agg #[.int .i64 t1, .string t2, .int .i64 t3, .int .i64 t4])))
 (h : ∀ t1 t2 t3 t4 q b w', St T w0 w w' g f0 q b os ks Z → ae (K (t1, t2, t3, t4, q, b) = some R) → wpList P ops Q rest (a.put (some N) (.agg #[.int .i64 t1, .string t2, .int .i64 t3, .int .i64 t4])) w')
 (hd : oi.dst = some N := by rfl) (hg : oi.guard = none := by rfl) (hname : (fn.name == "runtime.NumGoroutine") = false := by kernel_rfl) (hb : fn.body.isSome = true := by rfl)
 (hargs : ar.map a.eval = args := by ((try simp only [List.map_toArray, List.map_cons, List.map_nil]); first | done | rfl)) : wpList P ops Q (oi :: rest) a W := by
 obtain ⟨⟨t1, t2, t3, t4, q, b⟩, h1, h2⟩ := Option.bind_eq_some_iff.mp H.out
 refine jM (some N) hd hg hf hname hb args hop hargs ((hC t1 t2 t3 t4 q b HS.rd HS.below h1).mono ?_)
 rintro _ w' ⟨rfl, hi, hb, hk⟩
 exact ⟨_, rfl, h t1 t2 t3 t4 q b w' (HS.step hk hi hb) ⟨h2⟩⟩
/-- A text is given back. -/
theorem sS (f : FuncId) {N : Tmp} (hop : oi.op = .call { callee := .value (.func f), args := ar, argTypes := ts }) (hf : P.funcs[f]? = some fn) {F : Option (ByteArray × Int × Bool)} {K : ByteArray × Int × Bool → Option β}
 (HS : St T w0 w W g f0 f1 f2 os ks Z) (H : ae (F.bind K = some R))
 (hC : ∀ t q b, Rd T w0 W g f0 f1 f2 → Below w0.heap.size w0 W → F = some (t, q, b) → Calls P f args W (Back T w0 W g f0 q b fun e _ => e = .returned (.string t)))
 (h : ∀ t q b w', St T w0 w w' g f0 q b os ks Z → ae (K (t, q, b) = some R) → wpList P ops Q rest (a.put (some N) (.string t)) w')
 (hd : oi.dst = some N := by rfl) (hg : oi.guard = none := by rfl) (hname : (fn.name == "runtime.NumGoroutine") = false := by kernel_rfl) (hb : fn.body.isSome = true := by rfl)
 (hargs : ar.map a.eval = args := by ((try simp only [List.map_toArray, List.map_cons, List.map_nil]); first | done | rfl)) : wpList P ops Q (oi :: rest) a W := by
 obtain ⟨⟨t, q, b⟩, h1, h2⟩ := Option.bind_eq_some_iff.mp H.out
 refine jM (some N) hd hg hf hname hb args hop hargs ((hC t q b HS.rd HS.below h1).mono ?_)
 rintro _ w' ⟨rfl, hi, hb, hk⟩
 exact ⟨_, rfl, h t q b w' (HS.step hk hi hb) ⟨h2⟩⟩
/-- A tree is given back; a row of trees is. -/
def IsL (w : World) (r : List S40) (e : Ending) (w' : World) : Prop := ∃ v, e = .returned v ∧ Kd.R k40 40 w' w.heap.size (fun _ => True) v r
def IsK (w : World) (g : Nat) (r : List (List S40)) (e : Ending) (w' : World) : Prop := ∃ v, e = .returned v ∧ Kd.N (Kd.slice 40 k40) 22 w' w.heap.size (fun k => k ≠ g ∧ w.heap.size ≤ k) v r
theorem sL (f : FuncId) {N : Tmp} (hop : oi.op = .call { callee := .value (.func f), args := ar, argTypes := ts }) (hf : P.funcs[f]? = some fn) {F : Option (List S40 × Int × Bool)} {K : List S40 × Int × Bool → Option β}
 (HS : St T w0 w W g f0 f1 f2 os ks Z) (H : ae (F.bind K = some R))
 (hC : ∀ t q b, Rd T w0 W g f0 f1 f2 → Below w0.heap.size w0 W → F = some (t, q, b) → Calls P f args W (Back T w0 W g f0 q b (IsL W t)))
 (h : ∀ t q b w' A c, St T w0 w w' g f0 q b ((.slice A t.length c, t) :: os) ks Z → ae (K (t, q, b) = some R) → wpList P ops Q rest (a.put (some N) (.slice A t.length c)) w')
 (hd : oi.dst = some N := by rfl) (hg : oi.guard = none := by rfl) (hname : (fn.name == "runtime.NumGoroutine") = false := by kernel_rfl) (hb : fn.body.isSome = true := by rfl)
 (hargs : ar.map a.eval = args := by ((try simp only [List.map_toArray, List.map_cons, List.map_nil]); first | done | rfl)) : wpList P ops Q (oi :: rest) a W := by
 obtain ⟨⟨t, q, b⟩, h1, h2⟩ := Option.bind_eq_some_iff.mp H.out
 refine jM (some N) hd hg hf hname hb args hop hargs ((hC t q b HS.rd HS.below h1).mono ?_)
 rintro _ w' ⟨⟨v, rfl, ho⟩, hi, hb, hk⟩
 obtain ⟨A, c, rfl⟩ := Kd.bY ho
 exact ⟨_, rfl, h t q b w' A c ((HS.step hk hi hb).push (dK HS.keep) ho) ⟨h2⟩⟩
theorem sK (f : FuncId) {N : Tmp} (hop : oi.op = .call { callee := .value (.func f), args := ar, argTypes := ts }) (hf : P.funcs[f]? = some fn) {F : Option (List (List S40) × Int × Bool)} {K : List (List S40) × Int × Bool → Option β}
 (HS : St T w0 w W g f0 f1 f2 os ks Z) (H : ae (F.bind K = some R))
 (hC : ∀ t q b, Rd T w0 W g f0 f1 f2 → Below w0.heap.size w0 W → F = some (t, q, b) → Calls P f args W (Back T w0 W g f0 q b (IsK W g t)))
 (h : ∀ t q b w' A c, St T w0 w w' g f0 q b os ((.slice A t.length c, t) :: ks) Z → ae (K (t, q, b) = some R) → wpList P ops Q rest (a.put (some N) (.slice A t.length c)) w')
 (hd : oi.dst = some N := by rfl) (hg : oi.guard = none := by rfl) (hname : (fn.name == "runtime.NumGoroutine") = false := by kernel_rfl) (hb : fn.body.isSome = true := by rfl)
 (hargs : ar.map a.eval = args := by ((try simp only [List.map_toArray, List.map_cons, List.map_nil]); first | done | rfl)) : wpList P ops Q (oi :: rest) a W := by
 obtain ⟨⟨t, q, b⟩, h1, h2⟩ := Option.bind_eq_some_iff.mp H.out
 refine jM (some N) hd hg hf hname hb args hop hargs ((hC t q b HS.rd HS.below h1).mono ?_)
 rintro _ w' ⟨⟨v, rfl, ho⟩, hi, hb, hk⟩
 obtain ⟨A, c, rfl⟩ := Kd.zx ho
 exact ⟨_, rfl, h t q b w' A c ((HS.step hk hi hb).Dv (Kd.zy ho (dK HS.keep)) (fun k h => ⟨h.1, Nat.le_trans (dK HS.keep) h.2⟩) (fun p hp k h e => by have := (KL.own HS.s p hp k e.symm).1; omega)) ⟨h2⟩⟩
/-- A tree is made of the row that was made last. -/
theorem sJ (f : FuncId) {N : Tmp} (hop : oi.op = .call { callee := .value (.func f), args := ar, argTypes := ts }) (hf : P.funcs[f]? = some fn) {F : Option (List S40)} {K : List S40 → Option β} {A : Option Addr} {c : Nat} {l : List (List S40)}
 (HS : St T w0 w W g f0 f1 f2 os ((.slice A l.length c, l) :: ks) Z) (H : ae (F.bind K = some R))
 (hC : ∀ t, Kd.C (Kd.slice 40 k40) W A l.length l → l.length ≤ c → F = some t → Calls P f args W (fun e w' => ∃ v, e = .returned v ∧ Kd.R k40 40 w' W.heap.size (fun _ => True) v t ∧ Below W.heap.size W w'))
 (h : ∀ t w' A c, St T w0 w w' g f0 f1 f2 ((.slice A t.length c, t) :: os) ks Z → ae (K t = some R) → wpList P ops Q rest (a.put (some N) (.slice A t.length c)) w')
 (hd : oi.dst = some N := by rfl) (hg : oi.guard = none := by rfl) (hname : (fn.name == "runtime.NumGoroutine") = false := by kernel_rfl) (hb : fn.body.isSome = true := by rfl)
 (hargs : ar.map a.eval = args := by ((try simp only [List.map_toArray, List.map_cons, List.map_nil]); first | done | rfl)) : wpList P ops Q (oi :: rest) a W := by
 obtain ⟨t, h1, h2⟩ := Option.bind_eq_some_iff.mp H.out
 obtain ⟨⟨ok, hn, _⟩, _⟩ := HS.s
 obtain ⟨_, hc, hr⟩ := Kd.ug hn
 refine jM (some N) hd hg hf hname hb args hop hargs ((hC t hr hc h1).mono ?_)
 rintro _ w' ⟨v, rfl, ho, hb⟩
 obtain ⟨A, c, rfl⟩ := Kd.bY ho
 exact ⟨_, rfl, h t w' A c ((HS.pop.jT hb).push (dK HS.keep) ho) ⟨h2⟩⟩
/-- The end. -/
theorem St.back {q : Int} {b : Bool} {E : Ending → World → Prop} {e : Ending} (h : St T w0 w W g f0 q b os ks Z) (he : E e W) : Back T w0 w g f0 q b E e W := ⟨he, h.rd, h.below, h.keep⟩
theorem St.lC {q : Int} {b : Bool} {v : Value} {t : List S40} (h : St T w0 w W g f0 q b os ks Z) (ho : (v, t) ∈ os) : Back T w0 w g f0 q b (IsL w t) (.returned v) W := ⟨⟨v, rfl, h.o _ ho⟩, h.rd, h.below, h.keep⟩
theorem St.KP {q : Int} {b : Bool} (h : St T w0 w W g f0 q b os ks Z) : Back T w0 w g f0 q b (IsL w []) (.returned (.slice none 0 0)) W := ⟨⟨_, rfl, Kd.pR _ _ _ _ _⟩, h.rd, h.below, h.keep⟩
theorem St.KQ {q : Int} {b : Bool} {v : Value} {t : List (List S40)} (h : St T w0 w W g f0 q b os ((v, t) :: ks) Z) : Back T w0 w g f0 q b (IsK w g t) (.returned v) W := by
 obtain ⟨⟨ok, hn, h1, _⟩, _⟩ := h.s
 exact ⟨⟨v, rfl, Kd.Iu hn h1⟩, h.rd, h.below, h.keep⟩
theorem hB {x : ρ} {K : ρ → Option β} (H : ae ((some x).bind K = some R)) : ae (K x = some R) := H
theorem hI {c : Prop} [Decidable c] {X Y : Option β} (hc : c) (H : ae ((if c then X else Y) = some R)) : ae (X = some R) := ⟨by have := H.out; rwa [if_pos hc] at this⟩
theorem hE {c : Prop} [Decidable c] {X Y : Option β} (hc : ¬c) (H : ae ((if c then X else Y) = some R)) : ae (Y = some R) := ⟨by have := H.out; rwa [if_neg hc] at this⟩
theorem St.fk (HS : St T w0 w W g f0 f1 f2 os ks Z) {A : Option Addr} {n c : Nat} {r : List S40} (hm : (.slice A n c, r) ∈ os) : Kd.FK (Kd.slice 40 k40) W (fun k => w.heap.size ≤ k ∧ ∃ cells, W.heap[k]? = some (.cells cells 40 (0, 0))) r [.slice A n c] := by
 have h := Kd.fK (ok' := fun k => w.heap.size ≤ k ∧ ∃ cells, W.heap[k]? = some (.cells cells 40 (0, 0))) (Kd.lq (HS.o _ hm)) (fun k ⟨_, h1, _, q, hq, cells, h2⟩ => ⟨h1, cells, by
  have : q = 40 := by simpa [show k40.E = [] from rfl] using hq
  rw [← this]; exact h2⟩)
 have hn : n = r.length := (Kd.aI h).1
 subst hn
 exact Kd.Bh (Kd.aI h).2.1 fun W' hW => (Kd.aI (Kd.rX h hW)).2.2
theorem NR {N : Tmp} {n : Nat} (xs : List (List S40)) (inner : List Value) (HS : St T w0 w W g f0 f1 f2 os ks Z)
 (hrun : (execOp a.eval oi).run P W = .ok (.value (.slice (some ⟨W.heap.size, 0, none⟩) n n)) (W.alloc (.cells inner.toArray 22)))
 (hn : xs.length = n) (h3 : n ≤ 3) (hrep : dV (Kd.FK (Kd.slice 40 k40) W fun k => w.heap.size ≤ k ∧ ∃ cells, W.heap[k]? = some (.cells cells 40 (0, 0))) 1 xs inner)
 (h : ∀ A c w', St T w0 w w' g f0 f1 f2 os ((.slice A n c, xs) :: ks) Z → wpList P ops Q rest (a.put (some N) (.slice A n c)) w')
 (hd : oi.dst = some N := by rfl) (hg : oi.guard = none := by rfl) : wpList P ops Q (oi :: rest) a W := by
 subst hn
 refine Kd.Oy (Kd.slice 40 k40) W.heap.size 22 hg hd (xs := xs) (inner := inner) (ok := fun k => w.heap.size ≤ k ∧ ((∃ cells, W.heap[k]? = some (.cells cells 40 (0, 0))) ∨ W.heap.size ≤ k)) hrun hrep (fun _ hk => ⟨hk.1, .inl hk.2⟩) ⟨dK HS.keep, .inr (Nat.le_refl _)⟩ (Below.refl _ _) (Nat.le_refl _) (by omega) ?_
 intro v1 w1 ho hb _ _
 obtain ⟨A, c, rfl⟩ := Kd.zx ho
 rw [hd]
 refine h A c w1 ((HS.jT hb).Dv (Kd.zy ho (dK HS.keep)) (fun k hk => ⟨?_, hk.1⟩) (fun p hp k hk e => ?_))
 ·rintro rfl
  rcases hk.2 with ⟨cells, hc⟩ | hk
  ·obtain ⟨A0, c0, hb, _⟩ := HS.rd
   rw [hb] at hc
   injection hc with hc
   injection hc with _ hc
   exact HS.t.1 hc
  exact absurd HS.rd.lt (by omega)
 obtain ⟨h1, c1, h2⟩ := KL.own HS.s p hp k e.symm
 rcases hk.2 with ⟨cells, hc⟩ | hk
 ·rw [h2] at hc
  injection hc with hc
  injection hc with _ hc
  exact absurd hc (by decide)
 omega
theorem oC {N : Tmp} {A : Option Addr} {c n1 : Nat} {r : List S40} (HS : St T w0 w W g f0 f1 f2 os ks Z)
 (hrun : (execOp a.eval oi).run P W = .ok (.value (.slice (some ⟨W.heap.size, 0, none⟩) 1 1)) (W.alloc (.cells #[.slice A n1 c] 22)))
 (h : ∀ A' c' w', St T w0 w w' g f0 f1 f2 os ((.slice A' ([r] : List (List S40)).length c', [r]) :: ks) Z → wpList P ops Q rest (a.put (some N) (.slice A' 1 c')) w')
 (hm : (Value.slice A n1 c, r) ∈ os := by repeat (first | exact .head _ | apply List.Mem.tail)) (hd : oi.dst = some N := by rfl) (hg : oi.guard = none := by rfl) : wpList P ops Q (oi :: rest) a W :=
 NR [r] [.slice A n1 c] HS hrun rfl (by omega) (dV.one (HS.fk hm) (dV.none _ _)) h hd hg
theorem GL {N : Tmp} {A B : Option Addr} {c d n1 n2 : Nat} {r s : List S40} (HS : St T w0 w W g f0 f1 f2 os ks Z)
 (hrun : (execOp a.eval oi).run P W = .ok (.value (.slice (some ⟨W.heap.size, 0, none⟩) 2 2)) (W.alloc (.cells #[.slice A n1 c, .slice B n2 d] 22)))
 (h : ∀ A' c' w', St T w0 w w' g f0 f1 f2 os ((.slice A' ([r, s] : List (List S40)).length c', [r, s]) :: ks) Z → wpList P ops Q rest (a.put (some N) (.slice A' 2 c')) w')
 (hm : (Value.slice A n1 c, r) ∈ os := by repeat (first | exact .head _ | apply List.Mem.tail)) (hm2 : (Value.slice B n2 d, s) ∈ os := by repeat (first | exact .head _ | apply List.Mem.tail)) (hd : oi.dst = some N := by rfl) (hg : oi.guard = none := by rfl) : wpList P ops Q (oi :: rest) a W :=
 NR [r, s] [.slice A n1 c, .slice B n2 d] HS hrun rfl (by omega) (dV.one (HS.fk hm) (dV.one (HS.fk hm2) (dV.none _ _))) h hd hg
/-- A row that was made, and behind it the row that was made last: what an append asks, and what it gives back. -/
theorem St.grew {B : Option Addr} {m d : Nat} {v : Value} {r s : List (List S40)} (HS : St T w0 w W g f0 f1 f2 os ((.slice B m d, s) :: (v, r) :: ks) Z) : ∃ ok okp : Nat → Prop, Kd.N (Kd.slice 40 k40) 22 W w.heap.size ok v r ∧ Kd.F (Kd.slice 40 k40) W okp B m s ∧ (∀ k, okp k → ok k ∧ some k ≠ v.ownBlock) ∧ (∀ k, W.heap.size ≤ k → ok k) ∧ m = s.length ∧ w.heap.size ≤ W.heap.size ∧
 ∀ v1 w1 l, Kd.N (Kd.slice 40 k40) 22 w1 w.heap.size ok v1 l → Below w.heap.size W w1 → W.grownBy w1 v.ownBlock → (∀ p ∈ Z.bs, ∃ cs t, p.2 = .cells cs t (0, 0) ∧ t ≠ 22) → ∃ A c, v1 = .slice A l.length c ∧ St T w0 w w1 g f0 f1 f2 [] [(.slice A l.length c, l)] ⟨Z.bs, []⟩ := by
 obtain ⟨⟨ok, hu, u1, u2⟩, ⟨ok', hv, v1, _⟩, _⟩ := HS.s
 refine ⟨fun k => ok k ∨ ok' k ∨ W.heap.size ≤ k, ok, Kd.Iu hv fun k h => .inr (.inl h), Kd.N_F hu, fun k h => ⟨.inl h, u2 _ (.head _) k h⟩, fun k h => .inr (.inr h), (Kd.ug hu).1, dK HS.keep, ?_⟩
 intro v1' w1 l ho hb hgr hz
 obtain ⟨A, c, rfl⟩ := Kd.zx ho
 obtain ⟨A0, c0, hb0, hg0, hr0⟩ := HS.rd
 have hne : some g ≠ v.ownBlock := Kd.Ox hv hb0 (fun e => HS.t.2.1 e.symm)
 refine ⟨A, c, rfl, HS.t, HS.z, ⟨A0, c0, kV hb0 hgr hne, hg0, hr0⟩, zk HS.below HS.z hb, HS.keep.trans (aX.wo hgr g) (Kd.Kr hv), fun _ h => (nomatch h), ⟨⟨_, ho, fun k hk => ?_, fun _ h => (nomatch h)⟩, trivial⟩, fun p hp => ?_, fun _ h => (nomatch h)⟩
 ·rcases hk with hk | hk | hk
  ·exact u1 k hk
  ·exact v1 k hk
  exact ⟨by have := HS.rd.lt; omega, Nat.le_trans (dK HS.keep) hk⟩
 obtain ⟨h1, h2⟩ := HS.b p hp
 obtain ⟨cs, t, e, ht⟩ := hz p hp
 refine ⟨?_, h2⟩
 rw [e] at h1 ⊢
 exact kV h1 hgr (Kd.Ox hv h1 (fun e => ht e.symm))
theorem zo {N : Tmp} (x y : Operand) {B : Option Addr} {m d : Nat} {v : Value} {r s : List (List S40)} {X : Option β} {cn : Prop} [Decidable cn] (ho : oi.op = .call { callee := .builtin .append, args := #[x, y], argTypes := #[86, 86] })
 (ht : P.underlying 86 = some (.slice 22)) (hinfo : (P.info? 22).map (fun i => (i.zero, i.size, i.bytes)) = some (some (.slice none 0 0), 1, 24))
 (HS : St T w0 w W g f0 f1 f2 os ((.slice B m d, s) :: (v, r) :: ks) Z) (hx : a.eval x = v) (hy : a.eval y = .slice B m d)
 (H : ae ((if cn then X else none) = some R))
 (h : ∀ A' c' w', St T w0 w w' g f0 f1 f2 [] [(.slice A' (r ++ s).length c', r ++ s)] ⟨Z.bs, []⟩ → ae (X = some R) → wpList P ops Q rest (a.put (some N) (.slice A' (r ++ s).length c')) w')
 (hcn : cn → r.length + s.length ≤ 5864062014805 := by (intro h_; simp only [List.length_cons, List.length_nil]; omega)) (hz : ∀ p ∈ Z.bs, ∃ cs t, p.2 = .cells cs t (0, 0) ∧ t ≠ 22 := by (intro p hp; first | (rcases List.mem_cons.1 hp with rfl | hp; exact ⟨_, _, rfl, by decide⟩; cases hp) | cases hp)) (hd : oi.dst = some N := by rfl) (hg : oi.guard = none := by rfl) : wpList P ops Q (oi :: rest) a W := by
 by_cases hl : cn
 ·have hle := hcn hl
  obtain ⟨ok, okp, h1, h2, h3, h4, h5, h6, h7⟩ := HS.grew
  refine Kd.xy (Kd.slice 40 k40) w.heap.size hg x y 86 22 (.slice none 0 0) 24 ho ht hinfo rfl (by decide) (by omega) v r s B m d ok okp hx hy h1 h2 h3 h4 (Below.refl _ _) h6 (by omega) ?_
  intro v1' w1 ho hb hgr _
  obtain ⟨A, c, rfl, hs⟩ := h7 v1' w1 _ ho hb hgr hz
  rw [hd]
  exact h A c w1 hs (hI hl H)
 exact absurd (hE hl H).out (by simp)
/-- The same in a region whose operations go in any order. -/
theorem OL {Kc : Act → World → Prop} {N : Tmp} (x y : Operand) {B : Option Addr} {m d : Nat} {v : Value} {r s : List (List S40)} {X : Option β} {cn : Prop} [Decidable cn] (ho : oi.op = .call { callee := .builtin .append, args := #[x, y], argTypes := #[86, 86] })
 (ht : P.underlying 86 = some (.slice 22)) (hinfo : (P.info? 22).map (fun i => (i.zero, i.size, i.bytes)) = some (some (.slice none 0 0), 1, 24))
 (HS : St T w0 w W g f0 f1 f2 os ((.slice B m d, s) :: (v, r) :: ks) Z) (hw : Region.wanted oi (yielded ops a.tmps) = true) (hx : a.eval x = v) (hy : a.eval y = .slice B m d)
 (H : ae ((if cn then X else none) = some R))
 (h : ∀ A' c' w' n, ae (n = (r ++ s).length) → St T w0 w w' g f0 f1 f2 [] [(.slice A' n c', r ++ s)] ⟨Z.bs, []⟩ → ae (X = some R) → Kc (a.put (some N) (.slice A' n c')) w')
 (hcn : cn → r.length + s.length ≤ 5864062014805 := by (intro h_; simp only [List.length_cons, List.length_nil]; omega)) (hz : ∀ p ∈ Z.bs, ∃ cs t, p.2 = .cells cs t (0, 0) ∧ t ≠ 22 := by (intro p hp; first | (rcases List.mem_cons.1 hp with rfl | hp; exact ⟨_, _, rfl, by decide⟩; cases hp) | cases hp)) (hd : oi.dst = some N := by rfl) : if Region.wanted oi (yielded ops a.tmps) = true then Oper.wp P oi a W Kc Q else Kc (a.put oi.dst undef) W := by
 by_cases hl : cn
 ·have hle := hcn hl
  obtain ⟨ok, okp, h1, h2, h3, h4, h5, h6, h7⟩ := HS.grew
  refine Kd.rZ (Kd.slice 40 k40) w.heap.size hw x y 86 22 (.slice none 0 0) 24 ho ht hinfo rfl (by decide) (by omega) v r s B m d ok okp hx hy h1 h2 h3 h4 (Below.refl _ _) h6 (by omega) ?_
  intro v1' w1 ho hb hgr _
  obtain ⟨A, c, rfl, hs⟩ := h7 v1' w1 _ ho hb hgr hz
  rw [hd]
  exact h A c w1 _ ⟨rfl⟩ hs (hI hl H)
 exact absurd (hE hl H).out (by simp)
theorem app {N : Tmp} (x y : Operand) {B : Option Addr} {m d : Nat} {v : Value} {r s : List (List S40)} {X : Option β} {cn : Prop} [Decidable cn] (ho : oi.op = .call { callee := .builtin .append, args := #[x, y], argTypes := #[86, 86] })
 (ht : P.underlying 86 = some (.slice 22)) (hinfo : (P.info? 22).map (fun i => (i.zero, i.size, i.bytes)) = some (some (.slice none 0 0), 1, 24))
 (HS : St T w0 w W g f0 f1 f2 os ((.slice B m d, s) :: (v, r) :: ks) Z) (hx : a.eval x = v) (hy : a.eval y = .slice B m d)
 (H : ae ((if cn then X else none) = some R))
 (h : ∀ A' c' w', St T w0 w w' g f0 f1 f2 [] [(.slice A' (r ++ s).length c', r ++ s)] ⟨[], []⟩ → ae (X = some R) → wpList P ops Q rest (a.put (some N) (.slice A' (r ++ s).length c')) w')
 (hcn : cn → r.length + s.length ≤ 5864062014805 := by (intro h_; simp only [List.length_cons, List.length_nil]; omega)) (hd : oi.dst = some N := by rfl) (hg : oi.guard = none := by rfl) : wpList P ops Q (oi :: rest) a W :=
 zo x y ho ht hinfo (Z := ⟨[], []⟩) ⟨HS.t, HS.z, HS.rd, HS.below, HS.keep, HS.o, HS.s, fun _ h => (nomatch h), fun _ h => (nomatch h)⟩ hx hy H h hcn (fun _ h => (nomatch h)) hd hg
theorem NQ {α : Type} (d : Kd α) {W : World} {base e : Nat} {xs : List α} {inner : List Value} {ok okp : Nat → Prop} (hrep : dV (d.M W base okp) d.sz xs inner) (hok : ∀ k, okp k → ok k) (hfresh : ok W.heap.size) (hbase : base ≤ W.heap.size) (hm : xs.length ≤ 9223372036854775807) :
 Kd.R d e (W.alloc (.cells inner.toArray e)) base ok (.slice (some ⟨W.heap.size, 0, none⟩) xs.length xs.length) xs := by
 refine ⟨fun k hk => ?_, inner, ?_, ?_⟩
 ·have : W.heap.size = k := by simpa [Value.ownBlock] using hk
  subst this
  exact hfresh
 ·have h2 := World.ownsRow_lit (base := base) (e := e) (size := d.sz) W inner.toArray xs.length hbase (by simpa [maxLen] using hm) (by simpa using hrep.1)
  simpa using h2
 refine hrep.oU (fun p c hp => d.M_mono (fun k hk => ⟨hok k hk.1, fun he => ?_⟩) (Kd.En (d.M_bound hp) (fB (Below.refl _ _) _)))
 have h3 : k = W.heap.size := by simpa [Value.ownBlock] using he
 have := hk.2.2.1
 omega
theorem O9 {α : Type} (d : Kd α) {W : World} {base e : Nat} {xs : List α} {inner : List Value} {ok okp : Nat → Prop} (hrep : dV (Kd.FK d W okp) d.sz xs inner) (hok : ∀ k, okp k → ok k) (hfresh : ok W.heap.size) (hbase : base ≤ W.heap.size) (hm : xs.length ≤ 9223372036854775807) :
 Kd.N d e (W.alloc (.cells inner.toArray e)) base ok (.slice (some ⟨W.heap.size, 0, none⟩) xs.length xs.length) xs := by
 have hr := NQ (Kd.raw d.sz) (W := W) (base := base) (e := e) (xs := Kd.chunks d.sz xs.length inner) (inner := inner) (ok := fun k => k = W.heap.size) (okp := fun _ => False) (Kd.vU hrep (fun y c hk => ⟨d.K_len (Kd.pF hk), d.K_one (Kd.pF hk)⟩)) (fun _ hk => hk.elim) rfl hbase (by rw [Kd.eX]; exact hm)
 rw [Kd.eX] at hr
 exact Kd.Iw hr (World.grownBy_alloc W _ none) ⟨_, rfl, Nat.le_refl _⟩ (Kd.eX _ _ _) (fun j y c hy hc => by rw [Kd.lI hc]; exact hrep.2 j y hy) hok hfresh
/-- A row of trees that is made just now. -/
theorem St.lits {n : Nat} {xs : List (List S40)} {inner : List Value} (HS : St T w0 w W g f0 f1 f2 os ks Z) (hn : xs.length = n) (h3 : n ≤ 3) (hrep : dV (Kd.FK (Kd.slice 40 k40) W fun k => w.heap.size ≤ k ∧ ∃ cells, W.heap[k]? = some (.cells cells 40 (0, 0))) 1 xs inner) :
 St T w0 w (W.alloc (.cells inner.toArray 22)) g f0 f1 f2 os ((.slice (some ⟨W.heap.size, 0, none⟩) n n, xs) :: ks) Z := by
 subst hn
 have ho := O9 (Kd.slice 40 k40) (W := W) (base := W.heap.size) (e := 22) (xs := xs) (inner := inner) (ok := fun k => w.heap.size ≤ k ∧ ((∃ cells, W.heap[k]? = some (.cells cells 40 (0, 0))) ∨ W.heap.size ≤ k)) hrep (fun _ hk => ⟨hk.1, .inl hk.2⟩) ⟨dK HS.keep, .inr (Nat.le_refl _)⟩ (Nat.le_refl _) (by omega)
 refine (HS.alloc _).Dv (Kd.zy ho (dK HS.keep)) (fun k hk => ⟨?_, hk.1⟩) (fun p hp k hk e => ?_)
 ·rintro rfl
  rcases hk.2 with ⟨cells, hc⟩ | hk
  ·obtain ⟨A0, c0, hb, _⟩ := HS.rd
   rw [hb] at hc
   injection hc with hc
   injection hc with _ hc
   exact HS.t.1 hc
  exact absurd HS.rd.lt (by omega)
 obtain ⟨h1, c1, h2⟩ := KL.own HS.s p hp k e.symm
 rcases hk.2 with ⟨cells, hc⟩ | hk
 ·rw [h2] at hc
  injection hc with hc
  injection hc with _ hc
  exact absurd hc (by decide)
 omega
theorem St.NP {A : Option Addr} {c n1 : Nat} {r : List S40} (HS : St T w0 w W g f0 f1 f2 os ks Z) (hm : (Value.slice A n1 c, r) ∈ os := by repeat (first | exact .head _ | apply List.Mem.tail)) :
 St T w0 w (W.alloc (.cells #[.slice A n1 c] 22)) g f0 f1 f2 os ((.slice (some ⟨W.heap.size, 0, none⟩) ([r] : List (List S40)).length 1, [r]) :: ks) Z := HS.lits (inner := [.slice A n1 c]) rfl (by simp) (dV.one (HS.fk hm) (dV.none _ _))
theorem St.NM {A B C : Option Addr} {c d e n1 n2 n3 : Nat} {r s t : List S40} (HS : St T w0 w W g f0 f1 f2 os ks Z) (hm : (Value.slice A n1 c, r) ∈ os := by repeat (first | exact .head _ | apply List.Mem.tail)) (hm2 : (Value.slice B n2 d, s) ∈ os := by repeat (first | exact .head _ | apply List.Mem.tail)) (hm3 : (Value.slice C n3 e, t) ∈ os := by repeat (first | exact .head _ | apply List.Mem.tail)) :
 St T w0 w (W.alloc (.cells #[.slice A n1 c, .slice B n2 d, .slice C n3 e] 22)) g f0 f1 f2 os ((.slice (some ⟨W.heap.size, 0, none⟩) ([r, s, t] : List (List S40)).length 3, [r, s, t]) :: ks) Z := HS.lits (inner := [.slice A n1 c, .slice B n2 d, .slice C n3 e]) rfl (by simp) (dV.one (HS.fk hm) (dV.one (HS.fk hm2) (dV.one (HS.fk hm3) (dV.none _ _))))
theorem cL {f : FuncId} {post : Ending → World → Prop} {F : Option (List S40 × Int × Bool)} {K : List S40 × Int × Bool → Option β} (HS : St T w0 w W g f0 f1 f2 os ks Z) (H : ae (F.bind K = some R))
 (hC : ∀ t q b, Rd T w0 W g f0 f1 f2 → Below w0.heap.size w0 W → F = some (t, q, b) → Calls P f args W (Back T w0 W g f0 q b (IsL W t)))
 (h : ∀ t q b w' A c, St T w0 w w' g f0 q b ((.slice A t.length c, t) :: os) ks Z → ae (K (t, q, b) = some R) → post (.returned (.slice A t.length c)) w') : Calls P f args W post := by
 obtain ⟨⟨t, q, b⟩, h1, h2⟩ := Option.bind_eq_some_iff.mp H.out
 refine (hC t q b HS.rd HS.below h1).mono ?_
 rintro _ w' ⟨⟨v, rfl, ho⟩, hi, hb, hk⟩
 obtain ⟨A, c, rfl⟩ := Kd.bY ho
 exact h t q b w' A c ((HS.step hk hi hb).push (dK HS.keep) ho) ⟨h2⟩
theorem DW {W : World} {o : Obj} {p : Addr} {v : Value} (h : W.cell? p = some v) : (W.alloc o).cell? p = some v := (World.cell?_alloc_lt W o p (World.block_lt_of_cell? _ _ h)).trans h
theorem cJ {f : FuncId} {post : Ending → World → Prop} {F : Option (List S40)} {K : List S40 → Option β} {A : Option Addr} {c : Nat} {l : List (List S40)}
 (HS : St T w0 w W g f0 f1 f2 os ((.slice A l.length c, l) :: ks) Z) (H : ae (F.bind K = some R))
 (hC : ∀ t, Kd.C (Kd.slice 40 k40) W A l.length l → l.length ≤ c → F = some t → Calls P f args W (fun e w' => ∃ v, e = .returned v ∧ Kd.R k40 40 w' W.heap.size (fun _ => True) v t ∧ Below W.heap.size W w'))
 (h : ∀ t w' A c, St T w0 w w' g f0 f1 f2 ((.slice A t.length c, t) :: os) ks Z → Below W.heap.size W w' → ae (K t = some R) → post (.returned (.slice A t.length c)) w') : Calls P f args W post := by
 obtain ⟨t, h1, h2⟩ := Option.bind_eq_some_iff.mp H.out
 obtain ⟨⟨ok, hn, _⟩, _⟩ := HS.s
 obtain ⟨_, hc, hr⟩ := Kd.ug hn
 refine (hC t hr hc h1).mono ?_
 rintro _ w' ⟨v, rfl, ho, hb⟩
 obtain ⟨A, c, rfl⟩ := Kd.bY ho
 exact h t w' A c ((HS.pop.jT hb).push (dK HS.keep) ho) hb ⟨h2⟩
/-- A tree is made of one that was made. -/
theorem cS {f : FuncId} {post : Ending → World → Prop} {F : Option (List S40)} {K : List S40 → Option β} {A : Option Addr} {n c : Nat} {l : List S40}
 (HS : St T w0 w W g f0 f1 f2 os ks Z) (H : ae (F.bind K = some R)) (hm : (Value.slice A n c, l) ∈ os)
 (hC : ∀ t, n = l.length → Kd.C k40 W A l.length l → l.length ≤ c → F = some t → Calls P f args W (fun e w' => ∃ v, e = .returned v ∧ Kd.R k40 40 w' W.heap.size (fun _ => True) v t ∧ Below W.heap.size W w'))
 (h : ∀ t w' A c, St T w0 w w' g f0 f1 f2 ((.slice A t.length c, t) :: os) ks Z → Below W.heap.size W w' → ae (K t = some R) → post (.returned (.slice A t.length c)) w') : Calls P f args W post := by
 obtain ⟨t, h1, h2⟩ := Option.bind_eq_some_iff.mp H.out
 obtain ⟨hn, hc, hr⟩ := Kd.aI (HS.o _ hm)
 refine (hC t hn hr (by rw [← hn]; exact hc) h1).mono ?_
 rintro _ w' ⟨v, rfl, ho, hb⟩
 obtain ⟨A, c, rfl⟩ := Kd.bY ho
 exact h t w' A c ((HS.jT hb).push (dK HS.keep) ho) hb ⟨h2⟩
/-- The first node of a tree that was made. -/
theorem St.node {A : Option Addr} {n c : Nat} {t : List S40} (HS : St T w0 w W g f0 f1 f2 os ks Z) (hm : (Value.slice A n c, t) ∈ os) (h : 0 < (t.length : Int)) : ∃ ad, A = some ad ∧ W.cell? ad = some (.int .i64 (au t 0).f0) ∧ W.cell? ⟨ad.block, ad.off + 2, none⟩ = some (.string (au t 0).f2) := by
 obtain ⟨ad, e, h0, h1, h2, h3, h4⟩ := kF (Kd.aI (HS.o _ hm)).2.2 0 (by omega) h
 refine ⟨ad, e, ?_, ?_⟩
 ·rwa [show (0 : Int).toNat * 5 = 0 from rfl, Addr.add_zero'] at h0
 rwa [show (0 : Int).toNat * 5 = 0 from rfl, Addr.add_zero'] at h2
theorem St.NL {ad : Addr} {n c : Nat} {t : List S40} (HS : St T w0 w W g f0 f1 f2 os ks Z) (hm : (Value.slice (some ad) n c, t) ∈ os) (h : (0 < (t.length : Int)) = True) : W.cell? ad = some (.int .i64 (au t 0).f0) ∧ W.cell? ⟨ad.block, ad.off + 2, none⟩ = some (.string (au t 0).f2) := by
 obtain ⟨ad', e, h1⟩ := HS.node hm (of_eq_true h)
 cases e
 exact h1
structure JW (p : Prop) : Prop where
 h : p
/-- A struct that is boxed. -/
theorem boxS {N : Tmp} {cs : Array Value} {t : TypeId} (HS : St T w0 w W g f0 f1 f2 os ks Z) (hrun : (execOp a.eval oi).run P W = .ok (.value (.pointer (some ⟨W.heap.size, 0, none⟩))) (W.alloc (.cells cs t (0, 0))))
 (h : ∀ gb w', St T w0 w w' g f0 f1 f2 os ks ⟨(gb, .cells cs t (0, 0)) :: Z.bs, Z.ss⟩ → gb ≠ g → w.heap.size ≤ gb → wpList P ops Q rest (a.put (some N) (.pointer (some ⟨gb, 0, none⟩))) w')
 (hd : oi.dst = some N := by rfl) (hg : oi.guard = none := by rfl) : wpList P ops Q (oi :: rest) a W := by
 refine dW hg hd hrun ?_
 intro gb hgb w1 hc hb
 have hne : gb ≠ g := by rw [hgb]; exact Nat.ne_of_gt HS.rd.lt
 have h1 := HS.jT hb
 rw [hd]
 exact h gb w1 ⟨h1.t, h1.z, h1.rd, h1.below, h1.keep, h1.o, h1.s, fun p hp => (by
  rcases List.mem_cons.1 hp with rfl | hp
  ·exact ⟨hc, hne⟩
  exact h1.b p hp), h1.ss⟩ hne (by rw [hgb]; exact dK HS.keep)
theorem St.box (HS : St T w0 w W g f0 f1 f2 os ks Z) {gb : Nat} {cs : Array Value} {t : TypeId} {l : List (Nat × Obj)} {ss : List (Value × List ByteArray)} (hZ : Z = ⟨(gb, .cells cs t (0, 0)) :: l, ss⟩) : W.heap[gb]? = some (.cells cs t (0, 0)) := by
 subst hZ
 exact (HS.b _ (.head _)).1
end
theorem pM (a : Int) (b : ByteArray) (c d : Int) (w : World) : (Instr.field 56 (.agg #[.int .i64 a, .string b, .int .i64 c, .int .i64 d]) 0).run Try.prog w = .ok (.int .i64 a) w := by kernel_rfl
theorem pK (a : Int) (b : ByteArray) (c d : Int) (w : World) : (Instr.field 56 (.agg #[.int .i64 a, .string b, .int .i64 c, .int .i64 d]) 1).run Try.prog w = .ok (.string b) w := by kernel_rfl
theorem pJ (a : Int) (b : ByteArray) (c d : Int) (w : World) : (Instr.field 56 (.agg #[.int .i64 a, .string b, .int .i64 c, .int .i64 d]) 2).run Try.prog w = .ok (.int .i64 c) w := by kernel_rfl
theorem pI (a : Int) (b : ByteArray) (c d : Int) (w : World) : (Instr.field 56 (.agg #[.int .i64 a, .string b, .int .i64 c, .int .i64 d]) 3).run Try.prog w = .ok (.int .i64 d) w := by kernel_rfl
end Go.Proofs.Ytlenihbmafkegaa.Q
end
section
set_option linter.unusedVariables false
set_option linter.unusedSimpArgs false
namespace Go.Proofs.Ytlenihbmafkegaa.Q
open Go.RowKit Go.Proofs.YtlenihbmafkegaaW.PrintWords Go.Proofs.YtlenihbmafkegaaW.PrintLast Go.Proofs.YtlenihbmafkegaaW.PrintMore
structure Fam where
 expr : List S56 → Int → Bool → Option (List S40 × Int × Bool)
 block : List S56 → Int → Bool → Option (List S40 × Int × Bool)
 bound : List S56 → Int → Bool → Int → Option (List S40 × Int × Bool)
 unary : List S56 → Int → Bool → Option (List S40 × Int × Bool)
/-- What a call of the reader's does: nodes are made, the reader goes on. -/
def Reads (f : Nat) (args : Array Value) (g : Nat) (s0 : List S56) (r1 : List S40) (r2 : Int) (r3 : Bool) (w0 w : World) : Prop :=
 Calls Try.prog f (#[.pointer (some ⟨g, 0, none⟩)] ++ args) w fun e w' => ∃ v0_ : Value, e = .returned (v0_) ∧ Kd.R k40 40 w' w.heap.size (fun _ => True) v0_ r1 ∧ bf w0 w' g s0 r2 r3 ∧ Below w0.heap.size w0 w' ∧ aX w w' g none
structure kD (F : Fam) : Prop where
 expr : ∀ g s0 s1 s2 r1 r2 r3 w0 w, bf w0 w g s0 s1 s2 → Below w0.heap.size w0 w → F.expr s0 s1 s2 = some (r1, r2, r3) → Reads 83 #[] g s0 r1 r2 r3 w0 w
 block : ∀ g s0 s1 s2 r1 r2 r3 w0 w, bf w0 w g s0 s1 s2 → Below w0.heap.size w0 w → F.block s0 s1 s2 = some (r1, r2, r3) → Reads 78 #[] g s0 r1 r2 r3 w0 w
 bound : ∀ g s0 s1 s2 a1 r1 r2 r3 w0 w, bf w0 w g s0 s1 s2 → Below w0.heap.size w0 w → F.bound s0 s1 s2 a1 = some (r1, r2, r3) → Reads 86 #[.int .i64 a1] g s0 r1 r2 r3 w0 w
 unary : ∀ g s0 s1 s2 r1 r2 r3 w0 w, bf w0 w g s0 s1 s2 → Below w0.heap.size w0 w → F.unary s0 s1 s2 = some (r1, r2, r3) → Reads 87 #[] g s0 r1 r2 r3 w0 w
structure jR (F F' : Fam) : Prop where
 expr : ∀ a b c, LeO (F.expr a b c) (F'.expr a b c)
 block : ∀ a b c, LeO (F.block a b c) (F'.block a b c)
 bound : ∀ a b c d, LeO (F.bound a b c d) (F'.bound a b c d)
 unary : ∀ a b c, LeO (F.unary a b c) (F'.unary a b c)
def iV.f (F : Fam) (_k : Nat) (s0 : List S56) (s1 : Int) (s2 : Bool) : Option (List S40 × Int × Bool) := F.expr s0 s1 s2
def kX.f (F : Fam) (_k : Nat) (s0 : List S56) (s1 : Int) (s2 : Bool) : Option (List S40 × Int × Bool) := F.block s0 s1 s2
def oN.f (F : Fam) (_k : Nat) (s0 : List S56) (s1 : Int) (s2 : Bool) (a1 : Int) : Option (List S40 × Int × Bool) := F.bound s0 s1 s2 a1
def o5.f (F : Fam) (_k : Nat) (s0 : List S56) (s1 : Int) (s2 : Bool) : Option (List S40 × Int × Bool) := F.unary s0 s1 s2
theorem iV.mono {F F' : Fam} (HLE : jR F F') (a b c) (k : Nat) : LeO (iV.f F k a b c) (iV.f F' (k + 1) a b c) := HLE.expr a b c
theorem kX.mono {F F' : Fam} (HLE : jR F F') (a b c) (k : Nat) : LeO (kX.f F k a b c) (kX.f F' (k + 1) a b c) := HLE.block a b c
theorem oN.mono {F F' : Fam} (HLE : jR F F') (a b c d) (k : Nat) : LeO (oN.f F k a b c d) (oN.f F' (k + 1) a b c d) := HLE.bound a b c d
theorem o5.mono {F F' : Fam} (HLE : jR F F') (a b c) (k : Nat) : LeO (o5.f F k a b c) (o5.f F' (k + 1) a b c) := HLE.unary a b c
theorem iV.calls (F : Fam) (HF : kD F) (k : Nat) (g : Nat) (s0_0 : List S56) (s0_1 : Int) (s0_2 : Bool) (r1 : List S40) (r2 : Int) (r3 : Bool) (w0 w : World) (hI : bf w0 w g s0_0 s0_1 s0_2) (hB : Below w0.heap.size w0 w) (h : iV.f F k s0_0 s0_1 s0_2 = some (r1, r2, r3)) :
 Calls Try.prog 83 #[.pointer (some ⟨g, 0, none⟩)] w fun e w' => ∃ v0_ : Value, e = .returned (v0_) ∧ Kd.R k40 40 w' w.heap.size (fun _ => True) v0_ r1 ∧ bf w0 w' g s0_0 r2 r3 ∧ Below w0.heap.size w0 w' ∧ aX w w' g none := HF.expr g s0_0 s0_1 s0_2 r1 r2 r3 w0 w hI hB h
theorem kX.calls (F : Fam) (HF : kD F) (k : Nat) (g : Nat) (s0_0 : List S56) (s0_1 : Int) (s0_2 : Bool) (r1 : List S40) (r2 : Int) (r3 : Bool) (w0 w : World) (hI : bf w0 w g s0_0 s0_1 s0_2) (hB : Below w0.heap.size w0 w) (h : kX.f F k s0_0 s0_1 s0_2 = some (r1, r2, r3)) :
 Calls Try.prog 78 #[.pointer (some ⟨g, 0, none⟩)] w fun e w' => ∃ v0_ : Value, e = .returned (v0_) ∧ Kd.R k40 40 w' w.heap.size (fun _ => True) v0_ r1 ∧ bf w0 w' g s0_0 r2 r3 ∧ Below w0.heap.size w0 w' ∧ aX w w' g none := HF.block g s0_0 s0_1 s0_2 r1 r2 r3 w0 w hI hB h
theorem o5.calls (F : Fam) (HF : kD F) (k : Nat) (g : Nat) (s0_0 : List S56) (s0_1 : Int) (s0_2 : Bool) (r1 : List S40) (r2 : Int) (r3 : Bool) (w0 w : World) (hI : bf w0 w g s0_0 s0_1 s0_2) (hB : Below w0.heap.size w0 w) (h : o5.f F k s0_0 s0_1 s0_2 = some (r1, r2, r3)) :
 Calls Try.prog 87 #[.pointer (some ⟨g, 0, none⟩)] w fun e w' => ∃ v0_ : Value, e = .returned (v0_) ∧ Kd.R k40 40 w' w.heap.size (fun _ => True) v0_ r1 ∧ bf w0 w' g s0_0 r2 r3 ∧ Below w0.heap.size w0 w' ∧ aX w w' g none := HF.unary g s0_0 s0_1 s0_2 r1 r2 r3 w0 w hI hB h
theorem oN.calls (F : Fam) (HF : kD F) (k : Nat) (g : Nat) (s0_0 : List S56) (s0_1 : Int) (s0_2 : Bool) (a1 : Int) (r1 : List S40) (r2 : Int) (r3 : Bool) (w0 w : World) (hI : bf w0 w g s0_0 s0_1 s0_2) (hB : Below w0.heap.size w0 w) (h : oN.f F k s0_0 s0_1 s0_2 a1 = some (r1, r2, r3)) :
 Calls Try.prog 86 #[.pointer (some ⟨g, 0, none⟩), .int .i64 a1] w fun e w' => ∃ v0_ : Value, e = .returned (v0_) ∧ Kd.R k40 40 w' w.heap.size (fun _ => True) v0_ r1 ∧ bf w0 w' g s0_0 r2 r3 ∧ Below w0.heap.size w0 w' ∧ aX w w' g none := HF.bound g s0_0 s0_1 s0_2 a1 r1 r2 r3 w0 w hI hB h
end Go.Proofs.Ytlenihbmafkegaa.Q
end
section
namespace Go.Proofs.Ytlenihbmafkegaa.Q
open Go.RowKit Go.Proofs.YtlenihbmafkegaaW.PrintWords Go.Proofs.YtlenihbmafkegaaW.PrintLast Go.Proofs.YtlenihbmafkegaaW.PrintMore
attribute [local go_sem] jH jG jF jE dC dA dP dO cZ cO dB dw
set_option linter.unusedVariables false
set_option linter.unusedSimpArgs false
/-! ### aH: function 58 -/
def aH.f (s0_0 : List (S56)) (s0_1 : Int) (s0_2 : Bool) (a1 : ByteArray) : Option (Bool × Int × Bool) := if a1.toList = ([] : List UInt8) then (some (false, s0_1, s0_2)) else ((bC.f s0_0 s0_1 s0_2).bind fun bt260 => (if bt260.1.toList = a1.toList then (some (true, wrap64 (bt260.2.1 + 1), bt260.2.2)) else (some (false, bt260.2.1, bt260.2.2))))
set_option maxHeartbeats 8000000 in
set_option maxRecDepth 100000 in
theorem aH.calls (g : Nat) (s0_0 : List (S56)) (s0_1 : Int) (s0_2 : Bool) (a1 : ByteArray) (r1 : Bool) (r2 : Int) (r3 : Bool) (w0 w : World) (hI : bf w0 w g s0_0 s0_1 s0_2) (hB : Below w0.heap.size w0 w) (h : aH.f s0_0 s0_1 s0_2 a1 = some (r1, r2, r3)) :
 Calls Try.prog 58 #[.pointer (some ⟨g, 0, none⟩), .string a1] w fun e w' => e = .returned (.bool r1) ∧ bf w0 w' g s0_0 r2 r3 ∧ Below w0.heap.size w0 w' ∧ aX w w' g none := by
 have HI0 := ae.mk hI
 have HK := ae.mk (aX.refl w g none)
 have HL := ae.mk hB.size
 clear hI
 have HW0 := ae.mk hB.size
 have HB := ae.mk hB
 clear hB
 have H := h
 clear h
 unfold aH.f at H
 revert H
 refine bn (fun c3b0 c3b1 H => ?_) fun c3 c3b0 c3b1 H => ?_
 ·simp only [Option.some.injEq, Prod.mk.injEq] at H
  obtain ⟨rfl, rfl, rfl⟩ := H
  go_enter Try.func58, Try.ntmps58
  go_wp2
  go_ret
  exact ⟨eT, Z2, bT HB, kT HK⟩
 revert H
 refine yB3 fun t260 t261 t262 A4 H => ?_
 try dsimp only at H
 revert H
 refine bn (fun c5b0 c5b1 H => ?_) fun c5 c5b0 c5b1 H => ?_
 ·simp only [Option.some.injEq, Prod.mk.injEq] at H
  obtain ⟨rfl, rfl, rfl⟩ := H
  go_enter Try.func58, Try.ntmps58
  go_wp2_with (first | (go_at_call 75; (with_reducible refine (bC.calls g s0_0 s0_1 s0_2 t260 t261 t262 w0 _ ?side1 ?side2 A4.out).mono ?_); (case side1 => exact Z2); (case side2 => repeat (first | (with_reducible first | exact HB.out | apply fB | apply fH | apply iC | refine gQ ?_ (bf.ge HI0.out)) | exact HB.out)); rintro e w6 ⟨rfl, hi, hb, hk⟩; refine yA3 (aX.trans (kT HK) hk (.inl rfl)) (hb) (hi) ?_; clear HK HB HI0; intro HK HB HI0; (try clear hb); obtain ⟨ASz7_0, cSz7_0, HGz7, hgz7, HSz7_0⟩ := HI0.out; have hcz7_0 := jq HGz7; have hcz7_1 := jo HGz7; have hcz7_2 := jm HGz7; have hfz7_1 := af HGz7 1; have hfz7_2 := af HGz7 2; clear HGz7 hgz7))
  go_ret
  exact ⟨eT, Z2, bT HB, kT HK⟩
 simp only [Option.some.injEq, Prod.mk.injEq] at H
 obtain ⟨rfl, rfl, rfl⟩ := H
 go_enter Try.func58, Try.ntmps58
 go_wp2_with (first | (go_at_call 75; (with_reducible refine (bC.calls g s0_0 s0_1 s0_2 t260 t261 t262 w0 _ ?side1 ?side2 A4.out).mono ?_); (case side1 => exact Z2); (case side2 => repeat (first | (with_reducible first | exact HB.out | apply fB | apply fH | apply iC | refine gQ ?_ (bf.ge HI0.out)) | exact HB.out)); rintro e w8 ⟨rfl, hi, hb, hk⟩; refine yA3 (aX.trans (kT HK) hk (.inl rfl)) (hb) (hi) ?_; clear HK HB HI0; intro HK HB HI0; (try clear hb)))
 go_ret
 exact ⟨eT, Z2, bT HB, kT HK⟩
/-! ### aC: function 56 -/
def aC.f (s0_0 : List (S56)) (s0_1 : Int) (s0_2 : Bool) (a1 : ByteArray) : Option (Int × Bool) := (aH.f s0_0 s0_1 s0_2 a1).bind fun bt263 => (if bt263.1 = true then (some (bt263.2.1, bt263.2.2)) else (some (bt263.2.1, true)))
set_option maxHeartbeats 8000000 in
set_option maxRecDepth 100000 in
theorem aC.calls (g : Nat) (s0_0 : List (S56)) (s0_1 : Int) (s0_2 : Bool) (a1 : ByteArray) (r1 : Int) (r2 : Bool) (w0 w : World) (hI : bf w0 w g s0_0 s0_1 s0_2) (hB : Below w0.heap.size w0 w) (h : aC.f s0_0 s0_1 s0_2 a1 = some (r1, r2)) :
 Calls Try.prog 56 #[.pointer (some ⟨g, 0, none⟩), .string a1] w fun e w' => e = .returned (.tuple #[]) ∧ bf w0 w' g s0_0 r1 r2 ∧ Below w0.heap.size w0 w' ∧ aX w w' g none := by
 have HI0 := ae.mk hI
 have HK := ae.mk (aX.refl w g none)
 have HL := ae.mk hB.size
 clear hI
 have HW0 := ae.mk hB.size
 have HB := ae.mk hB
 clear hB
 have H := h
 clear h
 unfold aC.f at H
 revert H
 refine yB3 fun t263 t264 t265 A3 H => ?_
 try dsimp only at H
 cases t263
 rotate_left
 ·replace H := yT H
  simp only [Option.some.injEq, Prod.mk.injEq] at H
  obtain ⟨rfl, rfl⟩ := H
  go_enter Try.func56, Try.ntmps56
  go_wp2_with (first | ((with_reducible refine gC 58 rfl ?_); refine gM 58 7 rfl Try.func58 (aH.calls g s0_0 s0_1 s0_2 a1 true t264 t265 w0 _ Z2 (bT HB) A3.out) ?_; rintro _ w5 ⟨rfl, hi, hb, hk⟩; refine ⟨_, rfl, yA3 (aX.trans (kT HK) hk (.inl rfl)) (hb) (hi) ?_⟩; clear HK HB HI0 hb; intro HK HB HI0; obtain ⟨ASz6_0, cSz6_0, HGz6, hgz6, HSz6_0⟩ := HI0.out; have hcz6_0 := jq HGz6; have hcz6_1 := jo HGz6; have hcz6_2 := jm HGz6; have hfz6_1 := af HGz6 1; have hfz6_2 := af HGz6 2; clear HGz6 hgz6))
  first | go_end0 | ((try simp only [Exit.inBlock, Exit.then]); refine bodyPost_ret (results_none rfl _ _ _) rfl ?_)
  exact ⟨eT, Z2, bT HB, kT HK⟩
 replace H := yF H
 simp only [Option.some.injEq, Prod.mk.injEq] at H
 obtain ⟨rfl, rfl⟩ := H
 go_enter Try.func56, Try.ntmps56
 go_wp2_with (first | ((with_reducible refine gC 58 rfl ?_); refine gM 58 7 rfl Try.func58 (aH.calls g s0_0 s0_1 s0_2 a1 false t264 t265 w0 _ Z2 (bT HB) A3.out) ?_; rintro _ w7 ⟨rfl, hi, hb, hk⟩; refine ⟨_, rfl, yA3 (aX.trans (kT HK) hk (.inl rfl)) (hb) (hi) ?_⟩; clear HK HB HI0 hb; intro HK HB HI0; obtain ⟨ASz8_0, cSz8_0, HGz8, hgz8, HSz8_0⟩ := HI0.out; have hcz8_0 := jq HGz8; have hcz8_1 := jo HGz8; have hcz8_2 := jm HGz8; have hfz8_1 := af HGz8 1; have hfz8_2 := af HGz8 2; clear HGz8 hgz8))
 first | go_end0 | ((try simp only [Exit.inBlock, Exit.then]); refine bodyPost_ret (results_none rfl _ _ _) rfl ?_)
 exact ⟨eT, Z2, bT HB, kT HK⟩
/-! ### bD: function 57 -/
def bD.f (s0_0 : List (S56)) (s0_1 : Int) (s0_2 : Bool) (a1 : Int) : Option (Int × ByteArray × Int × Int × Int × Bool) := (jB.f s0_0 s0_1 s0_2).bind fun bt267 => (if bt267.2.2.2.2.1 = true then (if bt267.1 = a1 then (some (bt267.1, bt267.2.1, bt267.2.2.1, bt267.2.2.2.1, wrap64 (bt267.2.2.2.2.2.1 + 1), bt267.2.2.2.2.2.2)) else (some (0, (⟨#[]⟩ : ByteArray), 0, 0, bt267.2.2.2.2.2.1, true))) else (some (0, (⟨#[]⟩ : ByteArray), 0, 0, bt267.2.2.2.2.2.1, true)))
set_option maxHeartbeats 8000000 in
set_option maxRecDepth 100000 in
theorem bD.calls (g : Nat) (s0_0 : List (S56)) (s0_1 : Int) (s0_2 : Bool) (a1 : Int) (r1 : Int) (r2 : ByteArray) (r3 : Int) (r4 : Int) (r5 : Int) (r6 : Bool) (w0 w : World) (hI : bf w0 w g s0_0 s0_1 s0_2) (hB : Below w0.heap.size w0 w) (h : bD.f s0_0 s0_1 s0_2 a1 = some (r1, r2, r3, r4, r5, r6)) :
 Calls Try.prog 57 #[.pointer (some ⟨g, 0, none⟩), .int .i64 a1] w fun e w' => e = .returned (.agg #[.int .i64 r1, .string r2, .int .i64 r3, .int .i64 r4]) ∧ bf w0 w' g s0_0 r5 r6 ∧ Below w0.heap.size w0 w' ∧ aX w w' g none := by
 have hu56 := Try.underlying56
 have HI0 := ae.mk hI
 have HK := ae.mk (aX.refl w g none)
 have HL := ae.mk hB.size
 clear hI
 have HW0 := ae.mk hB.size
 have HB := ae.mk hB
 clear hB
 have H := h
 clear h
 unfold bD.f at H
 revert H
 refine yB7 fun t267 t268 t269 t270 t271 t272 t273 A3 H => ?_
 try dsimp only at H
 cases t271
 rotate_left
 ·replace H := yT H
  revert H
  refine bn (fun c5b0 c5b1 H => ?_) fun c5 c5b0 c5b1 H => ?_
  ·simp only [Option.some.injEq, Prod.mk.injEq] at H
   obtain ⟨rfl, rfl, rfl, rfl, rfl, rfl⟩ := H
   go_enter Try.func57, Try.ntmps57
   go_wp2_with (first | ((with_reducible refine bI (N := 4) rfl ?_); refine dW ?hg (N := 4) ?hd (cs := #[.int .i64 0, .string (⟨#[]⟩ : ByteArray), .int .i64 0, .int .i64 0]) (t := 56) ?hr ?_; (case hd => rfl); (case hg => rfl); (case hr => first | (go_simp; done) | (go_simp; rfl)); intro gb266 hg w6 hbox hb; refine yA8 (bf.below Z2 hb) (aX.trans (kT HK) (aX.of_below hb g none) (.inl rfl)) (aj (bT HB) hb) (hbox) ((by rw [hg]; exact (dK (w := w) (g := g) (row := none) (kT HK)) : w.heap.size ≤ gb266)) ((Nat.le_trans HW0.out (by rw [hg]; exact (dK (w := w) (g := g) (row := none) (kT HK)) : w.heap.size ≤ gb266) : w0.heap.size ≤ gb266)) ((by rw [hg]; exact Nat.ne_of_lt (bf.lt (show bf w0 _ g s0_0 s0_1 s0_2 from Z2)) : g ≠ gb266)) ((by rw [hg]; exact Nat.ne_of_gt (bf.lt (show bf w0 _ g s0_0 s0_1 s0_2 from Z2)) : gb266 ≠ g)) ?_; clear HI0 HK HB; intro HI0 HK HB BK266 GW266 GE266 NB0_266 NB266_0; clear hb hbox hg) | ((with_reducible refine gC 74 rfl ?_); refine gM 74 9 rfl Try.func74 (jB.calls g s0_0 s0_1 s0_2 t267 t268 t269 t270 true t272 t273 w0 _ Z4 (bT HB) A3.out) ?_; rintro _ w7 ⟨rfl, hi, hb, hk⟩; refine ⟨_, rfl, yA4 (aX.blk hk (g' := gb266) (o := .cells #[.int .i64 0, .string (⟨#[]⟩ : ByteArray), .int .i64 0, .int .i64 0] 56 (0, 0)) (by exact BK266.out) NB266_0.out (by simp)) (aX.trans (kT HK) hk (.inl rfl)) (hb) (hi) ?_⟩; clear BK266 HK HB HI0 hb; intro BK266 HK HB HI0) | ((with_reducible refine bI (N := 5) rfl ?_); refine dW ?hg (N := 5) ?hd (cs := #[.int .i64 0, .string (⟨#[]⟩ : ByteArray), .int .i64 0, .int .i64 0]) (t := 56) ?hr ?_; (case hd => rfl); (case hg => rfl); (case hr => first | (go_simp; done) | (go_simp; rfl)); intro gb274 hg w8 hbox hb; have n0_ := ae.mk (bf.below Z4 hb); have n1_ := ae.mk (eH (g := gb266) (o := .cells #[.int .i64 0, .string (⟨#[]⟩ : ByteArray), .int .i64 0, .int .i64 0] 56 (0, 0)) (by exact BK266.out) hb); have n2_ := ae.mk (aX.trans (kT HK) (aX.of_below hb g none) (.inl rfl)); have n3_ := ae.mk (aj (bT HB) hb); have n4_ := ae.mk (hbox); have n5_ := ae.mk ((by rw [hg]; exact (dK (w := w) (g := g) (row := none) (kT HK)) : w.heap.size ≤ gb274)); have n6_ := ae.mk ((Nat.le_trans HW0.out (by rw [hg]; exact (dK (w := w) (g := g) (row := none) (kT HK)) : w.heap.size ≤ gb274) : w0.heap.size ≤ gb274)); have n7_ := ae.mk ((by rw [hg]; exact Nat.ne_of_lt (jO (g := gb266) (o := .cells #[.int .i64 0, .string (⟨#[]⟩ : ByteArray), .int .i64 0, .int .i64 0] 56 (0, 0)) (by exact BK266.out)) : gb266 ≠ gb274)); have n8_ := ae.mk ((by rw [hg]; exact Nat.ne_of_gt (jO (g := gb266) (o := .cells #[.int .i64 0, .string (⟨#[]⟩ : ByteArray), .int .i64 0, .int .i64 0] 56 (0, 0)) (by exact BK266.out)) : gb274 ≠ gb266)); have n9_ := ae.mk ((by rw [hg]; exact Nat.ne_of_lt (bf.lt (show bf w0 _ g s0_0 t272 t273 from Z4)) : g ≠ gb274)); have n10_ := ae.mk ((by rw [hg]; exact Nat.ne_of_gt (bf.lt (show bf w0 _ g s0_0 t272 t273 from Z4)) : gb274 ≠ g)); clear HI0; clear BK266; clear HK; clear HB; have HI0 := n0_; have BK266 := n1_; have HK := n2_; have HB := n3_; have BK274 := n4_; have GW274 := n5_; have GE274 := n6_; have NB266_274 := n7_; have NB274_266 := n8_; have NB0_274 := n9_; have NB274_0 := n10_; clear n0_ n1_ n2_ n3_ n4_ n5_ n6_ n7_ n8_ n9_ n10_; clear hb hbox hg; have hnb9 := NB274_266.out; have hnc9 := NB266_274.out; have hnb10 := NB274_0.out; have hnc10 := NB0_274.out; have hcz11_0 : w8.cell? ⟨gb274, 0, none⟩ = some (.int .i64 0) := (ah BK274.out 0).trans rfl; have hcz11_1 : w8.cell? ⟨gb274, 1, none⟩ = some (.string (⟨#[]⟩ : ByteArray)) := (ah BK274.out 1).trans rfl; have hcz11_2 : w8.cell? ⟨gb274, 2, none⟩ = some (.int .i64 0) := (ah BK274.out 2).trans rfl; have hcz11_3 : w8.cell? ⟨gb274, 3, none⟩ = some (.int .i64 0) := (ah BK274.out 3).trans rfl; have hfz11_0 := af BK274.out 0; have hfz11_1 := af BK274.out 1; have hfz11_2 := af BK274.out 2; have hfz11_3 := af BK274.out 3; obtain ⟨ASz12_0, cSz12_0, HGz12, hgz12, HSz12_0⟩ := HI0.out; have hcz12_0 := jq HGz12; have hcz12_1 := jo HGz12; have hcz12_2 := jm HGz12; have hfz12_1 := af HGz12 1; have hfz12_2 := af HGz12 2; clear HGz12 hgz12; have hnb13 := NB266_0.out; have hnc13 := NB0_266.out; have hcz14_0 : w8.cell? ⟨gb266, 0, none⟩ = some (.int .i64 0) := (ah BK266.out 0).trans rfl; have hcz14_1 : w8.cell? ⟨gb266, 1, none⟩ = some (.string (⟨#[]⟩ : ByteArray)) := (ah BK266.out 1).trans rfl; have hcz14_2 : w8.cell? ⟨gb266, 2, none⟩ = some (.int .i64 0) := (ah BK266.out 2).trans rfl; have hcz14_3 : w8.cell? ⟨gb266, 3, none⟩ = some (.int .i64 0) := (ah BK266.out 3).trans rfl; have hfz14_0 := af BK266.out 0; have hfz14_1 := af BK266.out 1; have hfz14_2 := af BK266.out 2; have hfz14_3 := af BK266.out 3))
   refine bodyPost_ret (results_cell_row rfl _ _ gb266 56 #[.int .i64 t267, .string t268, .int .i64 t269, .int .i64 t270] (0, 0) _ rfl (by refine dE (cs := #[.int .i64 t267, .string t268, .int .i64 t269, .int .i64 0]) ?_ 3 _ rfl; refine dE (cs := #[.int .i64 t267, .string t268, .int .i64 0, .int .i64 0]) ?_ 2 _ rfl; refine dE (cs := #[.int .i64 t267, .string (⟨#[]⟩ : ByteArray), .int .i64 0, .int .i64 0]) ?_ 1 _ rfl; refine dE (cs := #[.int .i64 0, .string (⟨#[]⟩ : ByteArray), .int .i64 0, .int .i64 0]) ?_ 0 _ rfl; refine iW ?_ NB266_0.out _; refine iW ?_ NB266_274.out _; refine iW ?_ NB266_274.out _; refine iW ?_ NB266_274.out _; refine iW ?_ NB266_274.out _; exact BK266.out) Try.underlying56 rfl (by kernel_rfl)) rfl ?_
   exact ⟨eT, Z12, bT HB, kT HK⟩
  simp only [Option.some.injEq, Prod.mk.injEq] at H
  obtain ⟨rfl, rfl, rfl, rfl, rfl, rfl⟩ := H
  go_enter Try.func57, Try.ntmps57
  go_wp2_with (first | ((with_reducible refine bI (N := 4) rfl ?_); refine dW ?hg (N := 4) ?hd (cs := #[.int .i64 0, .string (⟨#[]⟩ : ByteArray), .int .i64 0, .int .i64 0]) (t := 56) ?hr ?_; (case hd => rfl); (case hg => rfl); (case hr => first | (go_simp; done) | (go_simp; rfl)); intro gb266 hg w15 hbox hb; refine yA8 (bf.below Z2 hb) (aX.trans (kT HK) (aX.of_below hb g none) (.inl rfl)) (aj (bT HB) hb) (hbox) ((by rw [hg]; exact (dK (w := w) (g := g) (row := none) (kT HK)) : w.heap.size ≤ gb266)) ((Nat.le_trans HW0.out (by rw [hg]; exact (dK (w := w) (g := g) (row := none) (kT HK)) : w.heap.size ≤ gb266) : w0.heap.size ≤ gb266)) ((by rw [hg]; exact Nat.ne_of_lt (bf.lt (show bf w0 _ g s0_0 s0_1 s0_2 from Z2)) : g ≠ gb266)) ((by rw [hg]; exact Nat.ne_of_gt (bf.lt (show bf w0 _ g s0_0 s0_1 s0_2 from Z2)) : gb266 ≠ g)) ?_; clear HI0 HK HB; intro HI0 HK HB BK266 GW266 GE266 NB0_266 NB266_0; clear hb hbox hg) | ((with_reducible refine gC 74 rfl ?_); refine gM 74 9 rfl Try.func74 (jB.calls g s0_0 s0_1 s0_2 t267 t268 t269 t270 true t272 t273 w0 _ Z4 (bT HB) A3.out) ?_; rintro _ w16 ⟨rfl, hi, hb, hk⟩; refine ⟨_, rfl, yA4 (aX.blk hk (g' := gb266) (o := .cells #[.int .i64 0, .string (⟨#[]⟩ : ByteArray), .int .i64 0, .int .i64 0] 56 (0, 0)) (by exact BK266.out) NB266_0.out (by simp)) (aX.trans (kT HK) hk (.inl rfl)) (hb) (hi) ?_⟩; clear BK266 HK HB HI0 hb; intro BK266 HK HB HI0) | ((with_reducible refine bI (N := 5) rfl ?_); refine dW ?hg (N := 5) ?hd (cs := #[.int .i64 0, .string (⟨#[]⟩ : ByteArray), .int .i64 0, .int .i64 0]) (t := 56) ?hr ?_; (case hd => rfl); (case hg => rfl); (case hr => first | (go_simp; done) | (go_simp; rfl)); intro gb274 hg w17 hbox hb; have n0_ := ae.mk (bf.below Z4 hb); have n1_ := ae.mk (eH (g := gb266) (o := .cells #[.int .i64 0, .string (⟨#[]⟩ : ByteArray), .int .i64 0, .int .i64 0] 56 (0, 0)) (by exact BK266.out) hb); have n2_ := ae.mk (aX.trans (kT HK) (aX.of_below hb g none) (.inl rfl)); have n3_ := ae.mk (aj (bT HB) hb); have n4_ := ae.mk (hbox); have n5_ := ae.mk ((by rw [hg]; exact (dK (w := w) (g := g) (row := none) (kT HK)) : w.heap.size ≤ gb274)); have n6_ := ae.mk ((Nat.le_trans HW0.out (by rw [hg]; exact (dK (w := w) (g := g) (row := none) (kT HK)) : w.heap.size ≤ gb274) : w0.heap.size ≤ gb274)); have n7_ := ae.mk ((by rw [hg]; exact Nat.ne_of_lt (jO (g := gb266) (o := .cells #[.int .i64 0, .string (⟨#[]⟩ : ByteArray), .int .i64 0, .int .i64 0] 56 (0, 0)) (by exact BK266.out)) : gb266 ≠ gb274)); have n8_ := ae.mk ((by rw [hg]; exact Nat.ne_of_gt (jO (g := gb266) (o := .cells #[.int .i64 0, .string (⟨#[]⟩ : ByteArray), .int .i64 0, .int .i64 0] 56 (0, 0)) (by exact BK266.out)) : gb274 ≠ gb266)); have n9_ := ae.mk ((by rw [hg]; exact Nat.ne_of_lt (bf.lt (show bf w0 _ g s0_0 t272 t273 from Z4)) : g ≠ gb274)); have n10_ := ae.mk ((by rw [hg]; exact Nat.ne_of_gt (bf.lt (show bf w0 _ g s0_0 t272 t273 from Z4)) : gb274 ≠ g)); clear HI0; clear BK266; clear HK; clear HB; have HI0 := n0_; have BK266 := n1_; have HK := n2_; have HB := n3_; have BK274 := n4_; have GW274 := n5_; have GE274 := n6_; have NB266_274 := n7_; have NB274_266 := n8_; have NB0_274 := n9_; have NB274_0 := n10_; clear n0_ n1_ n2_ n3_ n4_ n5_ n6_ n7_ n8_ n9_ n10_; clear hb hbox hg; have hnb18 := NB274_266.out; have hnc18 := NB266_274.out; have hnb19 := NB274_0.out; have hnc19 := NB0_274.out; have hcz20_0 : w17.cell? ⟨gb274, 0, none⟩ = some (.int .i64 0) := (ah BK274.out 0).trans rfl; have hcz20_1 : w17.cell? ⟨gb274, 1, none⟩ = some (.string (⟨#[]⟩ : ByteArray)) := (ah BK274.out 1).trans rfl; have hcz20_2 : w17.cell? ⟨gb274, 2, none⟩ = some (.int .i64 0) := (ah BK274.out 2).trans rfl; have hcz20_3 : w17.cell? ⟨gb274, 3, none⟩ = some (.int .i64 0) := (ah BK274.out 3).trans rfl; have hfz20_0 := af BK274.out 0; have hfz20_1 := af BK274.out 1; have hfz20_2 := af BK274.out 2; have hfz20_3 := af BK274.out 3; obtain ⟨ASz21_0, cSz21_0, HGz21, hgz21, HSz21_0⟩ := HI0.out; have hcz21_0 := jq HGz21; have hcz21_1 := jo HGz21; have hcz21_2 := jm HGz21; have hfz21_1 := af HGz21 1; have hfz21_2 := af HGz21 2; clear HGz21 hgz21; have hnb22 := NB266_0.out; have hnc22 := NB0_266.out; have hcz23_0 : w17.cell? ⟨gb266, 0, none⟩ = some (.int .i64 0) := (ah BK266.out 0).trans rfl; have hcz23_1 : w17.cell? ⟨gb266, 1, none⟩ = some (.string (⟨#[]⟩ : ByteArray)) := (ah BK266.out 1).trans rfl; have hcz23_2 : w17.cell? ⟨gb266, 2, none⟩ = some (.int .i64 0) := (ah BK266.out 2).trans rfl; have hcz23_3 : w17.cell? ⟨gb266, 3, none⟩ = some (.int .i64 0) := (ah BK266.out 3).trans rfl; have hfz23_0 := af BK266.out 0; have hfz23_1 := af BK266.out 1; have hfz23_2 := af BK266.out 2; have hfz23_3 := af BK266.out 3))
  refine bodyPost_ret (results_cell_row rfl _ _ gb266 56 #[.int .i64 0, .string (⟨#[]⟩ : ByteArray), .int .i64 0, .int .i64 0] (0, 0) _ rfl (by refine dE (cs := #[.int .i64 0, .string (⟨#[]⟩ : ByteArray), .int .i64 0, .int .i64 0]) ?_ 3 _ rfl; refine dE (cs := #[.int .i64 0, .string (⟨#[]⟩ : ByteArray), .int .i64 0, .int .i64 0]) ?_ 2 _ rfl; refine dE (cs := #[.int .i64 0, .string (⟨#[]⟩ : ByteArray), .int .i64 0, .int .i64 0]) ?_ 1 _ rfl; refine dE (cs := #[.int .i64 0, .string (⟨#[]⟩ : ByteArray), .int .i64 0, .int .i64 0]) ?_ 0 _ rfl; refine iW ?_ NB266_0.out _; refine iW ?_ NB266_274.out _; refine iW ?_ NB266_274.out _; refine iW ?_ NB266_274.out _; refine iW ?_ NB266_274.out _; exact BK266.out) Try.underlying56 rfl (by kernel_rfl)) rfl ?_
  exact ⟨eT, Z12, bT HB, kT HK⟩
 replace H := yF H
 simp only [Option.some.injEq, Prod.mk.injEq] at H
 obtain ⟨rfl, rfl, rfl, rfl, rfl, rfl⟩ := H
 go_enter Try.func57, Try.ntmps57
 go_wp2_with (first | ((with_reducible refine bI (N := 4) rfl ?_); refine dW ?hg (N := 4) ?hd (cs := #[.int .i64 0, .string (⟨#[]⟩ : ByteArray), .int .i64 0, .int .i64 0]) (t := 56) ?hr ?_; (case hd => rfl); (case hg => rfl); (case hr => first | (go_simp; done) | (go_simp; rfl)); intro gb266 hg w24 hbox hb; refine yA8 (bf.below Z2 hb) (aX.trans (kT HK) (aX.of_below hb g none) (.inl rfl)) (aj (bT HB) hb) (hbox) ((by rw [hg]; exact (dK (w := w) (g := g) (row := none) (kT HK)) : w.heap.size ≤ gb266)) ((Nat.le_trans HW0.out (by rw [hg]; exact (dK (w := w) (g := g) (row := none) (kT HK)) : w.heap.size ≤ gb266) : w0.heap.size ≤ gb266)) ((by rw [hg]; exact Nat.ne_of_lt (bf.lt (show bf w0 _ g s0_0 s0_1 s0_2 from Z2)) : g ≠ gb266)) ((by rw [hg]; exact Nat.ne_of_gt (bf.lt (show bf w0 _ g s0_0 s0_1 s0_2 from Z2)) : gb266 ≠ g)) ?_; clear HI0 HK HB; intro HI0 HK HB BK266 GW266 GE266 NB0_266 NB266_0; clear hb hbox hg) | ((with_reducible refine gC 74 rfl ?_); refine gM 74 9 rfl Try.func74 (jB.calls g s0_0 s0_1 s0_2 t267 t268 t269 t270 false t272 t273 w0 _ Z4 (bT HB) A3.out) ?_; rintro _ w25 ⟨rfl, hi, hb, hk⟩; refine ⟨_, rfl, yA4 (aX.blk hk (g' := gb266) (o := .cells #[.int .i64 0, .string (⟨#[]⟩ : ByteArray), .int .i64 0, .int .i64 0] 56 (0, 0)) (by exact BK266.out) NB266_0.out (by simp)) (aX.trans (kT HK) hk (.inl rfl)) (hb) (hi) ?_⟩; clear BK266 HK HB HI0 hb; intro BK266 HK HB HI0) | ((with_reducible refine bI (N := 5) rfl ?_); refine dW ?hg (N := 5) ?hd (cs := #[.int .i64 0, .string (⟨#[]⟩ : ByteArray), .int .i64 0, .int .i64 0]) (t := 56) ?hr ?_; (case hd => rfl); (case hg => rfl); (case hr => first | (go_simp; done) | (go_simp; rfl)); intro gb274 hg w26 hbox hb; have n0_ := ae.mk (bf.below Z4 hb); have n1_ := ae.mk (eH (g := gb266) (o := .cells #[.int .i64 0, .string (⟨#[]⟩ : ByteArray), .int .i64 0, .int .i64 0] 56 (0, 0)) (by exact BK266.out) hb); have n2_ := ae.mk (aX.trans (kT HK) (aX.of_below hb g none) (.inl rfl)); have n3_ := ae.mk (aj (bT HB) hb); have n4_ := ae.mk (hbox); have n5_ := ae.mk ((by rw [hg]; exact (dK (w := w) (g := g) (row := none) (kT HK)) : w.heap.size ≤ gb274)); have n6_ := ae.mk ((Nat.le_trans HW0.out (by rw [hg]; exact (dK (w := w) (g := g) (row := none) (kT HK)) : w.heap.size ≤ gb274) : w0.heap.size ≤ gb274)); have n7_ := ae.mk ((by rw [hg]; exact Nat.ne_of_lt (jO (g := gb266) (o := .cells #[.int .i64 0, .string (⟨#[]⟩ : ByteArray), .int .i64 0, .int .i64 0] 56 (0, 0)) (by exact BK266.out)) : gb266 ≠ gb274)); have n8_ := ae.mk ((by rw [hg]; exact Nat.ne_of_gt (jO (g := gb266) (o := .cells #[.int .i64 0, .string (⟨#[]⟩ : ByteArray), .int .i64 0, .int .i64 0] 56 (0, 0)) (by exact BK266.out)) : gb274 ≠ gb266)); have n9_ := ae.mk ((by rw [hg]; exact Nat.ne_of_lt (bf.lt (show bf w0 _ g s0_0 t272 t273 from Z4)) : g ≠ gb274)); have n10_ := ae.mk ((by rw [hg]; exact Nat.ne_of_gt (bf.lt (show bf w0 _ g s0_0 t272 t273 from Z4)) : gb274 ≠ g)); clear HI0; clear BK266; clear HK; clear HB; have HI0 := n0_; have BK266 := n1_; have HK := n2_; have HB := n3_; have BK274 := n4_; have GW274 := n5_; have GE274 := n6_; have NB266_274 := n7_; have NB274_266 := n8_; have NB0_274 := n9_; have NB274_0 := n10_; clear n0_ n1_ n2_ n3_ n4_ n5_ n6_ n7_ n8_ n9_ n10_; clear hb hbox hg; have hnb27 := NB274_266.out; have hnc27 := NB266_274.out; have hnb28 := NB274_0.out; have hnc28 := NB0_274.out; have hcz29_0 : w26.cell? ⟨gb274, 0, none⟩ = some (.int .i64 0) := (ah BK274.out 0).trans rfl; have hcz29_1 : w26.cell? ⟨gb274, 1, none⟩ = some (.string (⟨#[]⟩ : ByteArray)) := (ah BK274.out 1).trans rfl; have hcz29_2 : w26.cell? ⟨gb274, 2, none⟩ = some (.int .i64 0) := (ah BK274.out 2).trans rfl; have hcz29_3 : w26.cell? ⟨gb274, 3, none⟩ = some (.int .i64 0) := (ah BK274.out 3).trans rfl; have hfz29_0 := af BK274.out 0; have hfz29_1 := af BK274.out 1; have hfz29_2 := af BK274.out 2; have hfz29_3 := af BK274.out 3; obtain ⟨ASz30_0, cSz30_0, HGz30, hgz30, HSz30_0⟩ := HI0.out; have hcz30_0 := jq HGz30; have hcz30_1 := jo HGz30; have hcz30_2 := jm HGz30; have hfz30_1 := af HGz30 1; have hfz30_2 := af HGz30 2; clear HGz30 hgz30; have hnb31 := NB266_0.out; have hnc31 := NB0_266.out; have hcz32_0 : w26.cell? ⟨gb266, 0, none⟩ = some (.int .i64 0) := (ah BK266.out 0).trans rfl; have hcz32_1 : w26.cell? ⟨gb266, 1, none⟩ = some (.string (⟨#[]⟩ : ByteArray)) := (ah BK266.out 1).trans rfl; have hcz32_2 : w26.cell? ⟨gb266, 2, none⟩ = some (.int .i64 0) := (ah BK266.out 2).trans rfl; have hcz32_3 : w26.cell? ⟨gb266, 3, none⟩ = some (.int .i64 0) := (ah BK266.out 3).trans rfl; have hfz32_0 := af BK266.out 0; have hfz32_1 := af BK266.out 1; have hfz32_2 := af BK266.out 2; have hfz32_3 := af BK266.out 3))
 refine bodyPost_ret (results_cell_row rfl _ _ gb266 56 #[.int .i64 0, .string (⟨#[]⟩ : ByteArray), .int .i64 0, .int .i64 0] (0, 0) _ rfl (by refine dE (cs := #[.int .i64 0, .string (⟨#[]⟩ : ByteArray), .int .i64 0, .int .i64 0]) ?_ 3 _ rfl; refine dE (cs := #[.int .i64 0, .string (⟨#[]⟩ : ByteArray), .int .i64 0, .int .i64 0]) ?_ 2 _ rfl; refine dE (cs := #[.int .i64 0, .string (⟨#[]⟩ : ByteArray), .int .i64 0, .int .i64 0]) ?_ 1 _ rfl; refine dE (cs := #[.int .i64 0, .string (⟨#[]⟩ : ByteArray), .int .i64 0, .int .i64 0]) ?_ 0 _ rfl; refine iW ?_ NB266_0.out _; refine iW ?_ NB266_274.out _; refine iW ?_ NB266_274.out _; refine iW ?_ NB266_274.out _; refine iW ?_ NB266_274.out _; exact BK266.out) Try.underlying56 rfl (by kernel_rfl)) rfl ?_
 exact ⟨eT, Z12, bT HB, kT HK⟩
/-! ### az: function 61 -/
def az.l0 : Nat → List (S40) → List (List (S40)) → Int → Int → Option ((List (S40)))
 | 0, _, _, _, _ => none
 | k + 1, x5, x13, x14, x15 => if x15 < x14 then (if 0 ≤ x15 then (if x15 < (x13.length : Int) then (if x5.length + (qX x13 x15).length < 2513169434916 then (az.l0 k (x5 ++ (qX x13 x15)) x13 x14 (wrap64 (x15 + 1))) else (none)) else (none)) else (none)) else (some x5)
def az.f (k : Nat) (a0_0 : Int) (a0_1 : Int) (a0_2 : ByteArray) (a0_3 : Int) (a0_4 : ByteArray) (l1 : List (List (S40))) : Option ((List (S40))) := az.l0 k (([(⟨a0_0, (l1.length : Int), a0_2, a0_3, a0_4⟩ : S40)] : List (S40))) l1 (l1.length : Int) 0
theorem az.cu : ∀ k, (∀ y0 y1 y2 y3, LeO (az.l0 k y0 y1 y2 y3) (az.l0 (k + 1) y0 y1 y2 y3))
 | 0 => fun _ _ _ _ r h => by simp [az.l0] at h
 | k + 1 => by
  have ih0 := az.cu k
  intro y0 y1 y2 y3
  unfold az.l0
  exact yL
theorem az.mono : ∀ a0 a1 a2 a3 a4 a5 k, LeO (az.f k a0 a1 a2 a3 a4 a5) (az.f (k + 1) a0 a1 a2 a3 a4 a5) := by
 intro a0 a1 a2 a3 a4 a5 k
 have ih0 := az.cu k
 unfold az.f
 exact yL
set_option maxHeartbeats 8000000 in
set_option maxRecDepth 100000 in
theorem az.calls (k : Nat) (a0_0 : Int) (a0_1 : Int) (a0_2 : ByteArray) (a0_3 : Int) (a0_4 : ByteArray) (A1 : Option Addr) (c1 : Nat) (l1 : List (List (S40))) (r : List (S40)) (w : World) (hr1 : Kd.C (Kd.slice 40 k40) w A1 l1.length l1) (hc1 : l1.length ≤ c1) (h : az.f k a0_0 a0_1 a0_2 a0_3 a0_4 l1 = some r) :
 Calls Try.prog 61 #[.agg #[.int .i64 a0_0, .int .i64 a0_1, .string a0_2, .int .i64 a0_3, .string a0_4], .slice A1 l1.length c1] w fun e w' => ∃ v0_ : Value, e = .returned (v0_) ∧ Kd.R k40 40 w' w.heap.size (fun _ => True) v0_ r ∧ Below w.heap.size w w' := by
 have hu40 := Try.underlying40
 have HR1 := ae.mk hr1
 have HC1 := ae.mk hc1
 clear hr1 hc1
 have HB := ae.mk (Below.refl w.heap.size w)
 have H := h
 clear h
 unfold az.f at H
 obtain ⟨y276, hy276⟩ : ∃ y_ : List (S40), y_ = (([(⟨a0_0, (l1.length : Int), a0_2, a0_3, a0_4⟩ : S40)] : List (S40))) := ⟨_, rfl⟩
 replace H : (az.l0 k y276 l1 (l1.length : Int) 0) = some r := by first | (rw [hy276]; with_reducible exact H) | (have H2_ := (Option.bind_some _ _).symm.trans H; rw [hy276]; with_reducible exact H2_) | (have H2_ := (Option.bind_some _ _).symm.trans H; with_reducible exact H2_) | with_reducible exact H | (rw [hy276]; exact H) | exact H
 have Ny276 := ae.mk hy276
 clear hy276
 have H' := ae.mk H
 clear H
 go_enter Try.func61, Try.ntmps61
 go_wp2_with (first | ((with_reducible refine bI (N := 2) rfl ?_); refine dW ?hg (N := 2) ?hd (cs := #[.int .i64 a0_0, .int .i64 a0_1, .string a0_2, .int .i64 a0_3, .string a0_4]) (t := 40) ?hr ?_; (case hd => rfl); (case hg => rfl); (case hr => first | (go_simp; done) | (go_simp; rfl)); intro gb275 hg w3 hbox hb; refine yA4 (aj (bT HB) hb) (hbox) ((by rw [hg]; exact (aG (bT HB)) : w.heap.size ≤ gb275)) ((by rw [hg]; exact (aG (bT HB)) : w.heap.size ≤ gb275)) ?_; clear HB; intro HB BK275 GW275 GE275; clear hb hbox hg; have hcz4_0 : w3.cell? ⟨gb275, 0, none⟩ = some (.int .i64 a0_0) := (ah BK275.out 0).trans rfl; have hcz4_1 : w3.cell? ⟨gb275, 1, none⟩ = some (.int .i64 a0_1) := (ah BK275.out 1).trans rfl; have hcz4_2 : w3.cell? ⟨gb275, 2, none⟩ = some (.string a0_2) := (ah BK275.out 2).trans rfl; have hcz4_3 : w3.cell? ⟨gb275, 3, none⟩ = some (.int .i64 a0_3) := (ah BK275.out 3).trans rfl; have hcz4_4 : w3.cell? ⟨gb275, 4, none⟩ = some (.string a0_4) := (ah BK275.out 4).trans rfl; have hfz4_0 := af BK275.out 0; have hfz4_1 := af BK275.out 1; have hfz4_2 := af BK275.out 2; have hfz4_3 := af BK275.out 3; have hfz4_4 := af BK275.out 4) | ((with_reducible refine bI (N := 12) rfl ?_); refine Kd.uN k40 _ 40 ?hg (N := 12) ?hd (xs := ([(⟨a0_0, (l1.length : Int), a0_2, a0_3, a0_4⟩ : S40)] : List (S40))) (inner := [.int .i64 a0_0, .int .i64 (l1.length : Int), .string a0_2, .int .i64 a0_3, .string a0_4]) (ok := fun _ => True) (okp := fun _ => True) ?hr ?hp (fun _ hk => hk) trivial (Below.refl _ _) (Nat.le_refl _) (by simp) ?_; (case hd => rfl); (case hg => rfl); (case hr => first | (go_simp; done) | (go_simp; rfl)); (case hp => exact (dV.c5 (show Kd.M k40 _ _ _ (⟨a0_0, (l1.length : Int), a0_2, a0_3, a0_4⟩ : S40) [.int .i64 a0_0, .int .i64 (l1.length : Int), .string a0_2, .int .i64 a0_3, .string a0_4] from (tu _ _ _ (⟨a0_0, (l1.length : Int), a0_2, a0_3, a0_4⟩ : S40) )) (dV.none _ _))); intro v277 w5 ho6 hb hg_ hnew_; clear hg_ hnew_; (first | rw [← Ny276.out] at ho6 | (simp only [Int.reduceToNat] at ho6; rw [← Ny276.out] at ho6)); refine yA3 (Kd.dm (Kd.Np ho6 (g := gb275) (o := .cells #[.int .i64 a0_0, .int .i64 (l1.length : Int), .string a0_2, .int .i64 a0_3, .string a0_4] 40 (0, 0)) (by refine dE (cs := #[.int .i64 a0_0, .int .i64 a0_1, .string a0_2, .int .i64 a0_3, .string a0_4]) ?_ 1 _ rfl; exact BK275.out)) (aG (bT HB))) (eH (g := gb275) (o := .cells #[.int .i64 a0_0, .int .i64 (l1.length : Int), .string a0_2, .int .i64 a0_3, .string a0_4] 40 (0, 0)) (by refine dE (cs := #[.int .i64 a0_0, .int .i64 a0_1, .string a0_2, .int .i64 a0_3, .string a0_4]) ?_ 1 _ rfl; exact BK275.out) hb) (aj (bT HB) hb) ?_; clear BK275 HB; intro HO278 BK275 HB; clear hb ho6))
 (try simp only [Act.put, List.setIfInBounds_toArray, List.set_cons_zero, List.set_cons_succ])
 go_loopg [5, 15] k (fun kq v5 v15 w' => ∃ (x5_1 : List (S40)) (x15_1 : Int), v15 = .int .i64 x15_1 ∧ ae (az.l0 kq x5_1 l1 (l1.length : Int) x15_1 = some r) ∧ ae (kq ≤ k) ∧ ae (Kd.R k40 40 w' w.heap.size (fun k_ => k_ ≠ gb275) v5 x5_1) ∧ ae (w'.heap[gb275]? = some (.cells #[.int .i64 a0_0, .int .i64 (l1.length : Int), .string a0_2, .int .i64 a0_3, .string a0_4] 40 (0, 0))) ∧ ae (Below w.heap.size w w'))
 case atStart => exact ⟨(y276), (0), fT, H', ⟨Nat.le_refl _⟩, ⟨by (with_reducible repeat (first | apply Kd.jQ | apply Kd.kw | apply Kd.lM)); exact Kd.fK HO278.out (fun _ hk => hk.2)⟩, ⟨by exact BK275.out⟩, ⟨bT HB⟩⟩
 case round =>
  clear H'
  try clear c1
  try clear p2
  try clear c5
  try clear c6
  try clear hcz4_0
  try clear hcz4_1
  try clear hcz4_2
  try clear hcz4_3
  try clear hcz4_4
  try clear hfz4_0
  try clear hfz4_1
  try clear hfz4_2
  try clear hfz4_3
  try clear hfz4_4
  obtain ⟨x5_1, x15_1, rfl, HA, HK1, HO_5, BK275, HB⟩ := hrel
  cases gk with
  | zero => exact absurd HA.out (by simp [az.l0])
  | succ k1 =>
   have H := HA.out
   clear HA
   simp only [az.l0] at H
   revert H
   refine jU (fun c7b0 H => ?_) fun c7b0 H => ?_
   ·revert H
    refine gY (fun c8b0 H => ?_) fun c8 H => ?_
    ·revert H
     refine gY (fun c9b0 H => ?_) fun c9 H => ?_
     ·revert H
      refine gZ (fun c10 H => ?_) fun c10 H => ?_
      ·have LMc10 := ae.mk c10
       clear c10
       obtain ⟨y280, hy280⟩ : ∃ y_ : List (S40), y_ = (x5_1 ++ (qX l1 x15_1)) := ⟨_, rfl⟩
       replace H : (az.l0 k1 y280 l1 (l1.length : Int) (wrap64 (x15_1 + 1))) = some r := by first | (rw [hy280]; with_reducible exact H) | (have H2_ := (Option.bind_some _ _).symm.trans H; rw [hy280]; with_reducible exact H2_) | (have H2_ := (Option.bind_some _ _).symm.trans H; with_reducible exact H2_) | with_reducible exact H | (rw [hy280]; exact H) | exact H
       have Ny280 := ae.mk hy280
       clear hy280
       have H' := ae.mk H
       clear H
       have p279 : 0 ≤ (x15_1 : Int) := of_decide_eq_true aT
       have q279 : x15_1 < (l1.length : Int) := of_decide_eq_true aT
       obtain ⟨ad279, A279_0, c279_0, e279, hx279_0, hl279_0, hi279_0⟩ := Oh HR1.out x15_1 p279 q279
       cases e279
       replace hx279_0 := (HB.out.cell (World.block_lt_of_cell? w _ hx279_0)).trans hx279_0
       have HR279_0 := ae.mk hi279_0
       have HC279_0 := ae.mk hl279_0
       clear hi279_0 hl279_0
       replace p279 := eq_true p279
       replace q279 := eq_true q279
       go_wp2_with (first | ((with_reducible refine dR (b := .append) (xs := #[.tmp 19, .tmp 20]) rfl ?_); at_builtin; refine Kd.jb k40 (w0 := w) w.heap.size rfl (.tmp 19) (.tmp 20) 22 40 (.agg #[(.int .i64 0), (.int .i64 0), (.string ⟨#[]⟩), (.int .i64 0), (.string ⟨#[]⟩)]) 56 rfl Try.underlying22 yO rfl (by decide) (by omega) u5 x5_1 (qX l1 x15_1) _ _ _ (fun k_ => k_ ≠ gb275) (fun _ => False) rfl rfl ?aO ?aR (fun _ _ h => h) (fun _ h => h.elim) ?aF ?aB ?aS ?aL ?_; (case aR => repeat (first | exact (Kd.ik HR279_0.out HB.out) | (with_reducible refine Kd.fZ ?_ _) | (with_reducible refine Kd.fV ?_ _) | (with_reducible refine Kd.iq ?_))); (case aB => exact (bT HB)); (case aF => exact (fun k_ hk => Kd.CE (g := gb275) (o := .cells #[.int .i64 a0_0, .int .i64 (l1.length : Int), .string a0_2, .int .i64 a0_3, .string a0_4] 40 (0, 0)) (by exact BK275.out) k_ hk)); (case aO => exact (qR HO_5)); (case aS => exact (aG (bT HB))); (case aL => have := LMc10.out; omega); intro v281 w11 ho hb hg hat; rw [← Ny280.out] at ho; refine yA3 (kV (g := gb275) (o := .cells #[.int .i64 a0_0, .int .i64 (l1.length : Int), .string a0_2, .int .i64 a0_3, .string a0_4] 40 (0, 0)) (by exact BK275.out) hg (Kd.Iq HO_5.out (fun _ hk => hk))) (hb) (ho) ?_; clear BK275 HB HO_5; intro BK275 HB HO282; clear ho hb hg hat))
       go_roundg k1
       case measure => have := HK1.out; omega
       case rel => exact ⟨(y280), (wrap64 (x15_1 + 1)), fT, H', ⟨by have := HK1.out; omega⟩, ⟨qR HO282⟩, ⟨by exact BK275.out⟩, ⟨bT HB⟩⟩
      exact absurd H (by simp)
     exact absurd H (by simp)
    exact absurd H (by simp)
   obtain rfl := Option.some.inj H
   go_wp2
   go_ret
   exact ⟨_, eT, by (with_reducible repeat (first | apply Kd.jQ | apply Kd.kw | apply Kd.lM)); exact Kd.fK HO_5.out (fun _ hk => trivial), bT HB⟩
end Go.Proofs.Ytlenihbmafkegaa.Q
end
section
namespace Go.Proofs.Ytlenihbmafkegaa.Q
open Go.RowKit Go.Proofs.YtlenihbmafkegaaW.PrintWords Go.Proofs.YtlenihbmafkegaaW.PrintLast Go.Proofs.YtlenihbmafkegaaW.PrintMore
attribute [local go_sem] jH jG jF jE dC dA dP dO cZ cO dB dw
set_option linter.unusedVariables false
set_option linter.unusedSimpArgs false
/-! ### eu: function 59 -/
def eu.f (k : Nat) (s0_0 : List (S56)) (s0_1 : Int) (s0_2 : Bool) : Option ((List (S40)) × Int × Bool) := (bD.f s0_0 s0_1 s0_2 1).bind fun bt283 => ((aC.f s0_0 bt283.2.2.2.2.1 bt283.2.2.2.2.2 (⟨#[46]⟩ : ByteArray)).bind fun bt290 => ((bD.f s0_0 bt290.1 bt290.2 1).bind fun bt292 => ((aC.f s0_0 bt292.2.2.2.2.1 bt292.2.2.2.2.2 (⟨#[47]⟩ : ByteArray)).bind fun bt298 => ((bD.f s0_0 bt298.1 bt298.2 2).bind fun bt300 => ((aC.f s0_0 bt300.2.2.2.2.1 bt300.2.2.2.2.2 (⟨#[59]⟩ : ByteArray)).bind fun bt306 => ((az.f k 2 0 bt283.2.1 bt300.2.2.1 bt292.2.1 ([] : List (List (S40)))).bind fun t308 => (some (t308, bt306.1, bt306.2))))))))
theorem eu.mono : ∀ a0 a1 a2 k, LeO (eu.f k a0 a1 a2) (eu.f (k + 1) a0 a1 a2) := by
 intro a0 a1 a2 k
 unfold eu.f
 have m0 := az.mono
 exact yL
-- BY HAND: function 91 (runtime_boundsError_Error)
/-! ### bH: function 82 -/
def bH.f (F : Fam) (k : Nat) (s0_0 : List (S56)) (s0_1 : Int) (s0_2 : Bool) (a1_0 : Int) (a1_1 : Int) (a1_2 : ByteArray) (a1_3 : Int) (a1_4 : ByteArray) : Option ((List (S40)) × Int × Bool) := (iV.f F k s0_0 s0_1 s0_2).bind fun bt312 => ((aC.f s0_0 bt312.2.1 bt312.2.2 (⟨#[59]⟩ : ByteArray)).bind fun bt317 => ((az.f k a1_0 a1_1 a1_2 a1_3 a1_4 (([bt312.1] : List (List (S40))))).bind fun t322 => (some (t322, bt317.1, bt317.2))))
theorem bH.mono {F F' : Fam} (HLE : jR F F') : ∀ a0 a1 a2 a3 a4 a5 a6 a7 k, LeO (bH.f F k a0 a1 a2 a3 a4 a5 a6 a7) (bH.f F' (k + 1) a0 a1 a2 a3 a4 a5 a6 a7) := by
 intro a0 a1 a2 a3 a4 a5 a6 a7 k
 unfold bH.f
 have m0 := az.mono
 have m1 := (iV.mono HLE)
 exact yL
/-! ### dU: function 84 -/
def dU.f (k : Nat) (s0_0 : List (S56)) (s0_1 : Int) (s0_2 : Bool) (a1 : Int) : Option ((List (S40)) × Int × Bool) := (aC.f s0_0 s0_1 s0_2 (⟨#[59]⟩ : ByteArray)).bind fun bt325 => ((az.f k a1 0 (⟨#[]⟩ : ByteArray) 0 (⟨#[]⟩ : ByteArray) ([] : List (List (S40)))).bind fun t327 => (some (t327, bt325.1, bt325.2)))
theorem dU.mono : ∀ a0 a1 a2 a3 k, LeO (dU.f k a0 a1 a2 a3) (dU.f (k + 1) a0 a1 a2 a3) := by
 intro a0 a1 a2 a3 k
 unfold dU.f
 have m0 := az.mono
 exact yL
/-! ### fM: function 25 -/
def fM.f (k : Nat) (l0 : List (S40)) (a1 : Int) : Option ((List (S40))) := (bK.f k l0 a1).bind fun t330 => (if t330 < 0 then (some ([] : List (S40))) else (if 0 ≤ a1 then (if a1 ≤ t330 then (if t330 ≤ (l0.length : Int) then ((some ((l0.take (t330 : Int).toNat).drop (a1 : Int).toNat : List (S40))).bind fun y331 => (if ([] : List (S40)).length + y331.length < 2513169434916 then (some (([] : List (S40)) ++ y331)) else (none))) else (none)) else (none)) else (none)))
theorem fM.mono : ∀ a0 a1 k, LeO (fM.f k a0 a1) (fM.f (k + 1) a0 a1) := by
 intro a0 a1 k
 unfold fM.f
 have m0 := bK.mono
 exact yL
set_option maxHeartbeats 8000000 in
set_option maxRecDepth 100000 in
theorem fM.calls (k : Nat) (A0 : Option Addr) (c0 : Nat) (l0 : List (S40)) (a1 : Int) (r : List (S40)) (w : World) (hr0 : Kd.C k40 w A0 l0.length l0) (hc0 : l0.length ≤ c0) (h : fM.f k l0 a1 = some r) :
 Calls Try.prog 25 #[.slice A0 l0.length c0, .int .i64 a1] w fun e w' => ∃ v0_ : Value, e = .returned (v0_) ∧ Kd.R k40 40 w' w.heap.size (fun _ => True) v0_ r ∧ Below w.heap.size w w' := by
 have HR0 := ae.mk hr0
 have HC0 := ae.mk hc0
 clear hr0 hc0
 have HB := ae.mk (Below.refl w.heap.size w)
 have H := h
 clear h
 unfold fM.f at H
 revert H
 refine yB1 fun t330 A3 H => ?_
 revert H
 refine jU (fun c4b0 H => ?_) fun c4b0 H => ?_
 ·obtain rfl := Option.some.inj H
  go_enter Try.func25, Try.ntmps25
  go_wp2_with (first | ((with_reducible refine gC 16 rfl ?_); refine gM 16 8 rfl Try.func16 (bK.calls k _ _ l0 a1 t330 _ Z7 HC0.out A3.out) ?_; rintro _ w' ⟨rfl, ⟨nd, rfl⟩⟩; refine ⟨_, rfl, ?_⟩))
  go_ret
  exact ⟨_, eT, Z5, bT HB⟩
 revert H
 refine jL (fun c5b0 c5b1 H => ?_) fun c5 H => ?_
 ·revert H
  refine jL (fun c6b0 c6b1 H => ?_) fun c6 H => ?_
  ·revert H
   refine jL (fun c7b0 c7b1 H => ?_) fun c7 H => ?_
   ·obtain ⟨y331, hy331⟩ : ∃ y_ : List (S40), y_ = ((l0.take (t330 : Int).toNat).drop (a1 : Int).toNat) := ⟨_, rfl⟩
    replace H : (if ([] : List (S40)).length + y331.length < 2513169434916 then (some (([] : List (S40)) ++ y331)) else (none)) = some r := by first | (rw [hy331]; with_reducible exact H) | (have H2_ := (Option.bind_some _ _).symm.trans H; rw [hy331]; with_reducible exact H2_) | (have H2_ := (Option.bind_some _ _).symm.trans H; with_reducible exact H2_) | with_reducible exact H | (rw [hy331]; exact H) | exact H
    have Ny331 := ae.mk hy331
    clear hy331
    revert H
    refine gZ (fun c8 H => ?_) fun c8 H => ?_
    ·have LMc8 := ae.mk c8
     clear c8
     obtain ⟨y335, hy335⟩ : ∃ y_ : List (S40), y_ = (([] : List (S40)) ++ y331) := ⟨_, rfl⟩
     replace H : (some y335) = some r := by first | (rw [hy335]; with_reducible exact H) | (have H2_ := (Option.bind_some _ _).symm.trans H; rw [hy335]; with_reducible exact H2_) | (have H2_ := (Option.bind_some _ _).symm.trans H; with_reducible exact H2_) | with_reducible exact H | (rw [hy335]; exact H) | exact H
     have Ny335 := ae.mk hy335
     clear hy335
     obtain rfl := Option.some.inj H
     go_enter Try.func25, Try.ntmps25
     go_wp2_with (first | ((with_reducible refine gC 16 rfl ?_); refine gM 16 8 rfl Try.func16 (bK.calls k _ _ l0 a1 t330 _ Z7 HC0.out A3.out) ?_; rintro _ w' ⟨rfl, ⟨nd, rfl⟩⟩; refine ⟨_, rfl, ?_⟩; have q9 : (t330 : Int) ≤ ((l0.length : Int) : Int) := of_decide_eq_true aT; obtain ⟨i09, hi09, _, hsz9, _⟩ := info_parts yO; have hroom9 : l0.length ≤ c0 := HC0.out; have hC9 : Kd.C k40 _ A0 l0.length l0 := HR0.out; have ql9 : (a1 : Int) ≤ (t330 : Int) := of_decide_eq_true aT; have q09 : (0 : Int) ≤ (a1 : Int) := of_decide_eq_true aT; have hcut9 := JO (P := Try.prog) 22 40 .i64 .i64 Try.underlying22 hi09 5 hsz9 A0 l0.length c0 a1 t330 q09 ql9 q9 hroom9; have hr9 := Kd.O3 (lo := (a1 : Int).toNat) (hi := (t330 : Int).toNat) (c := c0) hC9 (by omega) (by omega) hroom9; obtain ⟨A9, hA9⟩ : ∃ A1, A1 = (if c0 = (a1 : Int).toNat then A0 else (A0 : Option Addr).map (·.add ((a1 : Int).toNat * 5))) := ⟨_, rfl⟩; obtain ⟨c9, hc9⟩ : ∃ c1, c1 = c0 - (a1 : Int).toNat := ⟨_, rfl⟩; have hy9 : y331.length = (t330 : Int).toNat - (a1 : Int).toNat := (by rw [Ny331.out, List.length_drop, List.length_take] <;> omega); rw [show ((l0).take (t330 : Int).toNat).drop (a1 : Int).toNat = y331 from Ny331.out.symm] at hr9; replace hr9 : Kd.C k40 _ A9 y331.length y331 := (by rw [hA9]; exact hr9); rw [← hy9, ← hA9, ← hc9] at hcut9; have HR334 := ae.mk hr9; have HC334 := ae.mk (show y331.length ≤ c9 from by rw [hy9, hc9]; exact Nat.sub_le_sub_right (Nat.le_trans (by omega) hroom9) _); clear hr9 hC9 hroom9 hi09 hsz9 hc9; have KY9 := ae.mk hy9; have KA9 := ae.mk hA9; clear hy9 hA9; replace q9 := eq_true q9) | ((with_reducible refine dR (b := .append) (xs := #[.const (.slice none 0 0), .tmp 14]) rfl ?_); at_builtin; refine Kd.jb k40 (w0 := w) w.heap.size rfl (.const (.slice none 0 0)) (.tmp 14) 22 40 (.agg #[(.int .i64 0), (.int .i64 0), (.string ⟨#[]⟩), (.int .i64 0), (.string ⟨#[]⟩)]) 56 rfl Try.underlying22 yO rfl (by decide) (by omega) (.slice none 0 0) ([] : List (S40)) y331 _ _ _ (fun _ => True) (fun _ => False) rfl rfl ?aO ?aR (fun _ _ h => h) (fun _ h => h.elim) ?aF ?aB ?aS ?aL ?_; (case aR => repeat (first | exact HR334.out | (with_reducible refine Kd.fZ ?_ _) | (with_reducible refine Kd.fV ?_ _) | (with_reducible refine Kd.iq ?_))); (case aB => exact (bT HB)); (case aF => exact (fun _ _ => trivial)); (case aO => exact ((Kd.pR _ _ _ _ (fun _ => True)))); (case aS => exact (aG (bT HB))); (case aL => have := LMc8.out; omega); intro v336 w10 ho hb hg hat; rw [← Ny335.out] at ho; refine yA2 (hb) (ho) ?_; clear HB; intro HB HO337; clear ho hb hg hat))
     go_ret
     exact ⟨_, eT, qR HO337, bT HB⟩
    exact absurd H (by simp)
   exact absurd H (by simp)
  exact absurd H (by simp)
 exact absurd H (by simp)
end Go.Proofs.Ytlenihbmafkegaa.Q
end
