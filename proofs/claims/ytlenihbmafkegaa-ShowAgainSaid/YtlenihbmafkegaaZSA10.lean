/- Walks over functions of the program, words for them, and what the functions come to; of each text only what this claim uses; no condition. -/
import Derived.Test.YtlenihbmafkegaaZSA0
import Derived.Test.YtlenihbmafkegaaZSA1
import Derived.Test.YtlenihbmafkegaaZSA3
import Derived.Test.YtlenihbmafkegaaZSA4
import Derived.Test.YtlenihbmafkegaaZSA7
import Derived.Test.YtlenihbmafkegaaZSA8
import Derived.Test.YtlenihbmafkegaaZSA9
section
set_option linter.unusedVariables false
set_option linter.unusedSimpArgs false
namespace Go.Proofs.Ytlenihbmafkegaa.Q
open Go Go.RowKit Go.Proofs.YtlenihbmafkegaaW.PrintWords Go.Proofs.YtlenihbmafkegaaW.PrintLast Go.Proofs.YtlenihbmafkegaaW.PrintMore
def lT : List S40 := [⟨1, 1, ⟨#[109]⟩, 1, ⟨#[]⟩⟩, ⟨3, 1, ⟨#[102]⟩, 0, ⟨#[]⟩⟩, ⟨5, 1, ⟨#[]⟩, 0, ⟨#[]⟩⟩, ⟨13, 1, ⟨#[]⟩, 0, ⟨#[]⟩⟩]
def zn : Array Value := #[.int .i64 1, .int .i64 1, .string ⟨#[109]⟩, .int .i64 1, .string ⟨#[]⟩, .int .i64 3, .int .i64 1, .string ⟨#[102]⟩, .int .i64 0, .string ⟨#[]⟩, .int .i64 5, .int .i64 1, .string ⟨#[]⟩, .int .i64 0, .string ⟨#[]⟩, .int .i64 13, .int .i64 1, .string ⟨#[]⟩, .int .i64 0, .string ⟨#[]⟩]
def kM.f (k : Nat) (l0 : List S40) : Option ByteArray :=
 (fM.f k l0 0).bind fun e => if e.length = 0 then some ⟨#[]⟩ else (fF.f (au e 0).f0).bind fun b => if b = true ∧ e.length ≤ 1000000000000 then (aW.f k (lT ++ e)).bind fun c => if c.1 = 0 then (lG k e 0 []).bind fun t => dM.f k t else none else none
theorem kM.mono (a0 : List S40) (k : Nat) : LeO (kM.f k a0) (kM.f (k + 1) a0) := by
 unfold kM.f
 repeat' first
 | exact fM.mono _ _ k
 | exact aW.mono _ k
 | exact dM.mono _ k
 | exact yS k _ _ _
 | exact LeO.refl _
 | refine LeO.ite ?_ ?_
 | refine LeO.bind ?_ (fun _ => ?_)
theorem JV (W : World) : Kd.R k40 40 (W.alloc (.cells zn 40)) W.heap.size (fun k => k = W.heap.size) (.slice (some ⟨W.heap.size, 0, none⟩) 4 4) lT := by
 have hrep : dV (k40.M W W.heap.size fun _ => False) k40.sz lT zn.toList := by
  have h := fun (x : S40) => tu W W.heap.size (fun _ => False) x
  refine dV.snoc (ps := [_, _, _]) (dV.snoc (ps := [_, _]) (dV.snoc (ps := [_]) (dV.snoc (ps := []) (dV.none _ _) (h ⟨1, 1, ⟨#[109]⟩, 1, ⟨#[]⟩⟩) rfl) (h ⟨3, 1, ⟨#[102]⟩, 0, ⟨#[]⟩⟩) rfl) (h ⟨5, 1, ⟨#[]⟩, 0, ⟨#[]⟩⟩) rfl) (h ⟨13, 1, ⟨#[]⟩, 0, ⟨#[]⟩⟩) rfl
 exact NQ k40 (e := 40) hrep (fun _ h => h.elim) rfl (Nat.le_refl _) (by decide)
section
variable {P : Program} {ops : Array Oper} {Q : Exit → Act → World → Prop} {w0 w W : World} {base : Nat} {e : List S40} {v : Value}
 {rest : List Oper} {oi : Oper} {a : Act}
theorem OA {N : Tmp} (hrun : (execOp a.eval oi).run P W = .ok (.value (.slice (some ⟨W.heap.size, 0, none⟩) 4 4)) (W.alloc (.cells zn 40)))
 (HE : Kd.R k40 40 W base (fun _ => True) v e) (HB : Below base w0 W) (hbase : base ≤ W.heap.size)
 (h : ∀ b w', Kd.R k40 40 w' base (fun k => k ≠ b) v e → Kd.R k40 40 w' base (fun k => k = b) (.slice (some ⟨b, 0, none⟩) 4 4) lT → Below base w0 w' → base ≤ w'.heap.size → wpList P ops Q rest (a.put (some N) (.slice (some ⟨b, 0, none⟩) 4 4)) w')
 (hd : oi.dst = some N := by rfl) (hg : oi.guard = none := by rfl) : wpList P ops Q (oi :: rest) a W := by
 refine Kd.uw hg hrun ?_
 rw [hd]
 refine h _ _ (Kd.jQ (Kd.fK (Kd.lq HE) (fun k hk => by have := hk.2.2.1; omega)) _) (Kd.dm (JV W) hbase) (HB.alloc hbase _) (Nat.le_trans hbase (fB (Below.refl _ _) _).size)
theorem OM {N : Tmp} (x y : Operand) {b m c : Nat} {A : Option Addr} (ho : oi.op = .call { callee := .builtin .append, args := #[x, y], argTypes := #[22, 22] })
 (ht : P.underlying 22 = some (.slice 40)) (hinfo : (P.info? 40).map (fun i => (i.zero, i.size, i.bytes)) = some (some (.agg #[.int .i64 0, .int .i64 0, .string ⟨#[]⟩, .int .i64 0, .string ⟨#[]⟩]), 5, 56))
 (HE : Kd.R k40 40 W base (fun k => k ≠ b) (.slice A m c) e) (HA : Kd.R k40 40 W base (fun k => k = b) (.slice (some ⟨b, 0, none⟩) 4 4) lT) (HB : Below base w0 W) (hbase : base ≤ W.heap.size) (hl : e.length ≤ 1000000000000) (hx : a.eval x = .slice (some ⟨b, 0, none⟩) 4 4) (hy : a.eval y = .slice A m c)
 (h : ∀ A' n' c' w', n' = (lT ++ e).length → Kd.R k40 40 w' base (fun _ => True) (.slice A' n' c') (lT ++ e) → Kd.R k40 40 w' base (fun _ => True) (.slice A m c) e → Below base w0 w' → wpList P ops Q rest (a.put (some N) (.slice A' n' c')) w')
 (hd : oi.dst = some N := by rfl) (hg : oi.guard = none := by rfl) : wpList P ops Q (oi :: rest) a W := by
 have hm : m = e.length := (Kd.aI HE).1
 subst hm
 refine Kd.jb k40 (Rr := k40.K W) base hg x y 22 40 _ 56 ho ht hinfo (by rfl) (by decide) (by decide) _ lT e A e.length c (fun k => k = b ∨ W.heap.size ≤ k) (fun _ => False) hx hy (Kd.fK HA (fun _ h => .inl h)) (Kd.aI HE).2.2 (fun z cs hz => by rw [Af hz]; exact tu _ _ _ z) (fun _ h => h.elim) (fun _ h => .inr h) HB hbase (by simp only [lT, List.length_cons, List.length_nil]; omega) ?_
 intro v1 w1 hr hb hgr _
 obtain ⟨A', c', rfl⟩ := Kd.bY hr
 rw [hd]
 exact h A' _ c' w1 rfl (Kd.fK hr (fun _ _ => trivial)) (Kd.fK (Kd.JY HE hgr (fun k hk e => hk (by simpa [Value.ownBlock] using e))) (fun _ _ => trivial)) hb
end
set_option maxHeartbeats 8000000 in
set_option maxRecDepth 100000 in
theorem kM.calls (k : Nat) (A0 : Option Addr) (c0 : Nat) (l0 : List S40) (r : ByteArray) (w : World) (hr0 : Kd.C k40 w A0 l0.length l0) (hc0 : l0.length ≤ c0) (h : kM.f k l0 = some r) :
 Calls Try.prog 14 #[.slice A0 l0.length c0] w fun e w' => e = .returned (.string r) ∧ Below w.heap.size w w' := by
 unfold kM.f at h
 obtain ⟨e, he, h⟩ := Option.bind_eq_some_iff.mp h
 have AP := ae.mk he
 have HC := ae.mk hr0
 have HL := ae.mk hc0
 have hu52 := Try.underlying52
 clear he hr0 hc0
 by_cases c : e.length = 0
 ·rw [if_pos c] at h
  cases h
  obtain rfl : e = [] := List.eq_nil_of_length_eq_zero c
  clear c
  go_enter Try.func14, Try.ntmps14
  go_wp2_with (first
   | ((with_reducible refine gC 25 rfl ?_); refine gM 25 9 rfl Try.func25 (fM.calls k _ _ l0 0 _ _ HC.out HL.out AP.out) ?_; rintro _ w1 ⟨v, rfl, ho, hb⟩; obtain ⟨A1, c1, rfl⟩ := Kd.bY ho; refine ⟨_, rfl, ?_⟩; have HB1 := ae.mk hb; clear hb ho)
   | (go_at_call 25; refine (fM.calls k _ _ l0 0 _ _ HC.out HL.out AP.out).mono ?_; rintro _ w1 ⟨v, rfl, ho, hb⟩; obtain ⟨A1, c1, rfl⟩ := Kd.bY ho; have HB1 := ae.mk hb; clear hb ho))
  go_ret
  exact ⟨rfl, HB1.out⟩
 rw [if_neg c] at h
 obtain ⟨b, hb, h⟩ := Option.bind_eq_some_iff.mp h
 by_cases c2 : b = true ∧ e.length ≤ 1000000000000
 rotate_left
 ·rw [if_neg c2] at h; cases h
 rw [if_pos c2] at h
 obtain ⟨rfl, hle⟩ := c2
 obtain ⟨⟨p1, p2⟩, hp, h⟩ := Option.bind_eq_some_iff.mp h
 dsimp only at h
 by_cases c3 : p1 = 0
 rotate_left
 ·rw [if_neg c3] at h; cases h
 rw [if_pos c3] at h
 subst c3
 obtain ⟨t, ht, h⟩ := Option.bind_eq_some_iff.mp h
 have AE := ae.mk hb
 have AC := ae.mk hp
 have AT := ae.mk ht
 have AX := ae.mk h
 have HLE := ae.mk hle
 clear hb hp ht h hle
 have q1 := eq_true (show 0 < e.length by omega)
 have q2 := eq_false (show ¬ (e.length = 0) by omega)
 have q3 : ((e.length : Int) == 0) = false := beq_eq_false_iff_ne.mpr (by omega)
 have q4 := eq_true (show (0 : Int) < (e.length : Int) by omega)
 clear c
 go_enter Try.func14, Try.ntmps14
 have HSub : ae (∀ w', Below w.heap.size w w' → Calls Try.prog 25 #[.slice A0 l0.length c0, .int .i64 0] w' fun e_ w'' => ∃ A1 c1 ad, e_ = .returned (.slice A1 e.length c1) ∧ A1 = some ad ∧ w''.cell? ad = some (.int .i64 (au e 0).f0) ∧ ae (Kd.R k40 40 w'' w'.heap.size (fun _ => True) (.slice A1 e.length c1) e) ∧ Below w'.heap.size w' w'') := ⟨fun w' hb => (fM.calls k _ _ l0 0 _ _ (Kd.ik HC.out hb) HL.out AP.out).mono (fun e_ w'' ⟨v, h1, ho, h2⟩ => by
  obtain ⟨A1, c1, rfl⟩ := Kd.bY ho
  obtain ⟨ad, h3, h4, _⟩ := kF (Kd.aI ho).2.2 0 (by omega) (of_eq_true q4)
  refine ⟨A1, c1, ad, h1, h3, ?_, ⟨ho⟩, h2⟩
  rwa [show (0 : Int).toNat * 5 = 0 from rfl, Addr.add_zero'] at h4)⟩
 have HB := ae.mk (Below.refl w.heap.size w)
 go_wp2_with (first | ((with_reducible refine gC 25 rfl ?_); refine gM 25 9 rfl Try.func25 (HSub.out _ HB.out) ?_; rintro _ w1 ⟨A1, c1, ad, rfl, rfl, hx, HE1, hb⟩; refine ⟨_, rfl, ?_⟩; have HE := ae.mk (Kd.dm HE1.out (HB.out.size)); have HB1 := ae.mk (aj HB.out hb); clear HE1 hb HB; have HB := HB1; clear HB1) | (go_at_call 25; refine (HSub.out _ HB.out).mono ?_; rintro _ w1 ⟨A1, c1, ad, rfl, rfl, hx, HE1, hb⟩; have HE := ae.mk (Kd.dm HE1.out (HB.out.size)); have HB1 := ae.mk (aj HB.out hb); clear HE1 hb HB; have HB := HB1; clear HB1) | (go_at_call 26; refine (fF.calls _ true _ AE.out).mono ?_; rintro _ w7 ⟨rfl, ⟨nd, rfl⟩⟩) | ((with_reducible refine bI (N := 25) rfl ?_); refine OA (N := 25) (by first | (go_simp; done) | (go_simp; rfl)) (qR HE) (bT HB) (bT HB).size ?_; clear HE HB hx; intro b w2 HE HA HB hbs) | ((with_reducible refine dR (b := .append) (xs := #[.tmp 27, .tmp 28]) rfl ?_); at_builtin; refine OM (N := 29) (.tmp 27) (.tmp 28) rfl Try.underlying22 yO HE HA HB hbs HLE.out rfl rfl ?_; clear HE HA HB hbs; intro A' n' c' w3 hn HX HE HB; have hn := ae.mk hn) | ((with_reducible refine gC 8 rfl ?_); obtain rfl := hn.out; refine gM 8 30 rfl Try.func8 (aW.calls k _ _ (lT ++ e) 0 p2 _ (Kd.aI HX).2.2 (Kd.aI HX).2.1 AC.out) ?_; rintro _ w4 ⟨rfl, hb⟩; refine ⟨_, rfl, ?_⟩; have HB1 := ae.mk (aj HB hb); have HE1 := ae.mk (Kd.aQ HE hb); clear hb HB HE HX; have HB := HB1; have HE := HE1; clear HB1 HE1) | ((with_reducible refine bI (N := 37) rfl ?_); refine dW ?hg (N := 37) ?hd (cs := #[.slice (some ad) e.length c1, .slice none 0 0]) (t := 52) ?hr ?_; (case hd => rfl); (case hg => rfl); (case hr => first | (go_simp; done) | (go_simp; rfl)); intro g hg w5 hbox hb; have HB2 := ae.mk hb; have HI := ae.mk (show Wr w4 w5 g e [] from ⟨_, c1, _, hbox, by rw [hg]; exact Nat.le_refl _, (Kd.aI HE.out).2.2, (Kd.aI HE.out).2.1, Kd.pR _ _ _ _ _⟩); clear hbox hb hg) | (go_at_call 22; refine (tN k g e [] 0 t w4 _ HI.out HB2.out AT.out).mono ?_; rintro _ w6 ⟨rfl, hi, hb, hk⟩; obtain ⟨A5, c5, v, HV⟩ := hi; obtain ⟨A6, c6, rfl⟩ := Kd.bY HV.2.2.2.2; have hc1 := HV.g1; have HO := ae.mk HV.2.2.2.2; have HB3 := ae.mk (aj HB.out hb); clear hb hk HV HB2 HI HB) | ((with_reducible refine gC 22 rfl ?_); refine gM 22 39 rfl Try.func22 (tN k g e [] 0 t w4 _ HI.out HB2.out AT.out) ?_; rintro _ w6 ⟨rfl, hi, hb, hk⟩; refine ⟨_, rfl, ?_⟩; obtain ⟨A5, c5, v, HV⟩ := hi; obtain ⟨A6, c6, rfl⟩ := Kd.bY HV.2.2.2.2; have hc1 := HV.g1; have HO := ae.mk HV.2.2.2.2; have HB3 := ae.mk (aj HB.out hb); clear hb hk HV HB2 HI HB) | (go_at_call 15; refine (dM.calls k _ _ t r _ (Kd.aI HO.out).2.2 (Kd.aI HO.out).2.1 AX.out).mono ?_; rintro _ w8 ⟨rfl, hb⟩; have HB4 := ae.mk (aj HB3.out hb); clear hb) | ((with_reducible refine gC 15 rfl ?_); refine gM 15 44 rfl Try.func15 (dM.calls k _ _ t r _ (Kd.aI HO.out).2.2 (Kd.aI HO.out).2.1 AX.out) ?_; rintro _ w8 ⟨rfl, hb⟩; refine ⟨_, rfl, ?_⟩; have HB4 := ae.mk (aj HB3.out hb); clear hb))
 go_ret
 exact ⟨rfl, HB4.out⟩
end Go.Proofs.Ytlenihbmafkegaa.Q
end
section
set_option linter.unusedVariables false
namespace Go.Proofs.Ytlenihbmafkegaa.Q
open Go Go.RowKit Go.Proofs.YtlenihbmafkegaaW.PrintWords Go.Proofs.YtlenihbmafkegaaW.PrintLast Go.Proofs.YtlenihbmafkegaaW.PrintMore
theorem toL {P : Program} {f : FuncId} {args : Array Value} {w0 w : World} {g : Nat} {s0 : List S56} {q : Int} {b : Bool} {r : List S40}
 (h : Calls P f args w fun e w' => ∃ v0_ : Value, e = .returned (v0_) ∧ Kd.R k40 40 w' w.heap.size (fun _ => True) v0_ r ∧ bf w0 w' g s0 q b ∧ Below w0.heap.size w0 w' ∧ aX w w' g none) : Calls P f args w (Back 72 w0 w g s0 q b (IsL w r)) :=
 h.mono fun e w' ⟨v, h1, h2, h3, h4, h5⟩ => ⟨⟨v, h1, h2⟩, h3, h4, h5⟩
theorem ofL {P : Program} {f : FuncId} {args : Array Value} {w0 w : World} {g : Nat} {s0 : List S56} {q : Int} {b : Bool} {r : List S40}
 (h : Calls P f args w (Back 72 w0 w g s0 q b (IsL w r))) : Calls P f args w fun e w' => ∃ v0_ : Value, e = .returned (v0_) ∧ Kd.R k40 40 w' w.heap.size (fun _ => True) v0_ r ∧ bf w0 w' g s0 q b ∧ Below w0.heap.size w0 w' ∧ aX w w' g none :=
 h.mono fun e w' ⟨⟨v, h1, h2⟩, h3, h4, h5⟩ => ⟨v, h1, h2, h3, h4, h5⟩
section
variable {P : Program} {ops : Array Oper} {Q : Exit → Act → World → Prop} {T : Nat} {w0 w W : World} {g : Nat} {f0 : List S56} {f1 : Int} {f2 : Bool} {os : List (Value × List S40)} {ks : List (Value × List (List S40))} {Z : Ext}
 {rest : List Oper} {oi : Oper} {a : Act} {fn : Func} {ar : Array Operand} {ts : Array TypeId} {args : Array Value} {ρ β : Type} {R : β}
/-- A text is what it is asked for, or isn't. -/
theorem tS (t : ByteArray) (K : List UInt8) : (t.toList = K ∧ (t.toList == K) = true ∧ (t.toList != K) = false) ∨ (t.toList ≠ K ∧ (t.toList == K) = false ∧ (t.toList != K) = true) := by
 by_cases h : t.toList = K
 ·exact .inl ⟨h, beq_iff_eq.mpr h, bne_eq_false_iff_eq.mpr h⟩
 exact .inr ⟨h, beq_eq_false_iff_ne.mpr h, bne_iff_ne.mpr h⟩
theorem nS (x y : Int) : (x = y ∧ (x == y) = true ∧ (x != y) = false) ∨ (x ≠ y ∧ (x == y) = false ∧ (x != y) = true) := by
 by_cases h : x = y
 ·exact .inl ⟨h, beq_iff_eq.mpr h, bne_eq_false_iff_eq.mpr h⟩
 exact .inr ⟨h, beq_eq_false_iff_ne.mpr h, bne_iff_ne.mpr h⟩
/-- The state goes on over stores into it or into a struct of the call's own, draws, blocks that are made. -/
theorem stX {W0 : World} {p : Int} {c : Bool} {os' : List (Value × List S40)} {ks' : List (Value × List (List S40))} {Z' : Ext} (H : St T w0 w W0 g f0 p c os ks Z) (f : St T w0 w W0 g f0 p c os ks Z → St T w0 w W g f0 f1 f2 os' ks' Z' := by (intro h_; repeat (first | (with_reducible exact h_) | apply St.drewN | apply St.drew | apply St.set1 | apply St.set2 | apply St.alloc | apply St.setB (hge := by assumption)))) : St T w0 w W g f0 f1 f2 os' ks' Z' := f H
theorem cX {f : FuncId} {post : Ending → World → Prop} {F : Option (ByteArray × Int × Bool)} {K : ByteArray × Int × Bool → Option β} (HS : St T w0 w W g f0 f1 f2 os ks Z) (H : ae (F.bind K = some R))
 (hC : ∀ t q b, Rd T w0 W g f0 f1 f2 → Below w0.heap.size w0 W → F = some (t, q, b) → Calls P f args W (Back T w0 W g f0 q b fun e _ => e = .returned (.string t)))
 (h : ∀ t q b w', St T w0 w w' g f0 q b os ks Z → ae (K (t, q, b) = some R) → post (.returned (.string t)) w') : Calls P f args W post := by
 obtain ⟨⟨t, q, b⟩, h1, h2⟩ := Option.bind_eq_some_iff.mp H.out
 refine (hC t q b HS.rd HS.below h1).mono ?_
 rintro _ w' ⟨rfl, hi, hb, hk⟩
 exact h t q b w' (HS.step hk hi hb) ⟨h2⟩
/-- A token, and whether there is one. -/
theorem sX (f : FuncId) {N : Tmp} (hop : oi.op = .call { callee := .value (.func f), args := ar, argTypes := ts }) (hf : P.funcs[f]? = some fn) {F : Option (Int × ByteArray × Int × Int × Bool × Int × Bool)} {K : Int × ByteArray × Int × Int × Bool × Int × Bool → Option β}
 (HS : St T w0 w W g f0 f1 f2 os ks Z) (H : ae (F.bind K = some R))
 (hC : ∀ t1 t2 t3 t4 o q b, Rd T w0 W g f0 f1 f2 → Below w0.heap.size w0 W → F = some (t1, t2, t3, t4, o, q, b) → Calls P f args W (Back T w0 W g f0 q b fun e _ => e = .returned (.tuple #[.agg #[.int .i64 t1, .string t2, .int .i64 t3, .int .i64 t4], .bool o])))
 (h : ∀ t1 t2 t3 t4 o q b w', St T w0 w w' g f0 q b os ks Z → ae (K (t1, t2, t3, t4, o, q, b) = some R) → wpList P ops Q rest (a.put (some N) (.tuple #[.agg #[.int .i64 t1, .string t2, .int .i64 t3, .int .i64 t4], .bool o])) w')
 (hd : oi.dst = some N := by rfl) (hg : oi.guard = none := by rfl) (hname : (fn.name == "runtime.NumGoroutine") = false := by kernel_rfl) (hb : fn.body.isSome = true := by rfl)
 (hargs : ar.map a.eval = args := by ((try simp only [List.map_toArray, List.map_cons, List.map_nil]); first | done | rfl)) : wpList P ops Q (oi :: rest) a W := by
 obtain ⟨⟨t1, t2, t3, t4, o, q, b⟩, h1, h2⟩ := Option.bind_eq_some_iff.mp H.out
 refine jM (some N) hd hg hf hname hb args hop hargs ((hC t1 t2 t3 t4 o q b HS.rd HS.below h1).mono ?_)
 rintro _ w' ⟨rfl, hi, hb, hk⟩
 exact ⟨_, rfl, h t1 t2 t3 t4 o q b w' (HS.step hk hi hb) ⟨h2⟩⟩
/-- A number that hangs on no world. -/
theorem sV (f : FuncId) {N : Tmp} (hop : oi.op = .call { callee := .value (.func f), args := ar, argTypes := ts }) (hf : P.funcs[f]? = some fn) {F : Option Int} {K : Int → Option β}
 (HS : St T w0 w W g f0 f1 f2 os ks Z) (H : ae (F.bind K = some R))
 (hC : ∀ t, F = some t → Calls P f args W (fun e w' => e = .returned (.int .i64 t) ∧ dQ W w'))
 (h : ∀ t w', St T w0 w w' g f0 f1 f2 os ks Z → ae (K t = some R) → wpList P ops Q rest (a.put (some N) (.int .i64 t)) w')
 (hd : oi.dst = some N := by rfl) (hg : oi.guard = none := by rfl) (hname : (fn.name == "runtime.NumGoroutine") = false := by kernel_rfl) (hb : fn.body.isSome = true := by rfl)
 (hargs : ar.map a.eval = args := by ((try simp only [List.map_toArray, List.map_cons, List.map_nil]); first | done | rfl)) : wpList P ops Q (oi :: rest) a W := by
 obtain ⟨t, h1, h2⟩ := Option.bind_eq_some_iff.mp H.out
 refine jM (some N) hd hg hf hname hb args hop hargs ((hC t h1).mono ?_)
 rintro _ w' ⟨rfl, hk⟩
 exact ⟨_, rfl, h t w' (HS.jT hk.below) ⟨h2⟩⟩
/-- Numbers are made of a tree that was made; what they lead to stays. -/
theorem sI2 (f : FuncId) {N : Tmp} (hop : oi.op = .call { callee := .value (.func f), args := ar, argTypes := ts }) (hf : P.funcs[f]? = some fn) {F : Option (List Int)} {K : List Int → Option β} {A : Option Addr} {n c : Nat} {l : List S40}
 (HS : St T w0 w W g f0 f1 f2 os ks Z) (H : ae (F.bind K = some R)) (hm : (Value.slice A n c, l) ∈ os)
 (hC : ∀ t, n = l.length → Kd.C k40 W A l.length l → l.length ≤ c → F = some t → Calls P f args W (fun e w' => ∃ v, e = .returned v ∧ Kd.R (Kd.int .i64) 3 w' W.heap.size (fun _ => True) v t ∧ Below W.heap.size W w'))
 (h : ∀ t w' A c, St T w0 w w' g f0 f1 f2 os ks Z → Kd.R (Kd.int .i64) 3 w' W.heap.size (fun _ => True) (.slice A t.length c) t → ae (K t = some R) → wpList P ops Q rest (a.put (some N) (.slice A t.length c)) w')
 (hd : oi.dst = some N := by rfl) (hg : oi.guard = none := by rfl) (hname : (fn.name == "runtime.NumGoroutine") = false := by kernel_rfl) (hb : fn.body.isSome = true := by rfl)
 (hargs : ar.map a.eval = args := by ((try simp only [List.map_toArray, List.map_cons, List.map_nil]); first | done | rfl)) : wpList P ops Q (oi :: rest) a W := by
 obtain ⟨t, h1, h2⟩ := Option.bind_eq_some_iff.mp H.out
 obtain ⟨hn, hc, hr⟩ := Kd.aI (HS.o _ hm)
 refine jM (some N) hd hg hf hname hb args hop hargs ((hC t hn hr (by rw [← hn]; exact hc) h1).mono ?_)
 rintro _ w' ⟨v, rfl, ho, hb⟩
 obtain ⟨A, c, rfl⟩ := Kd.bY ho
 exact ⟨_, rfl, h t w' A c (HS.jT hb) ho ⟨h2⟩⟩
theorem St.ints {W' : World} {base : Nat} {v : Value} {xs : List Int} (h : St T w0 w W g f0 f1 f2 os ks Z) (ht : T ≠ 3) (ho : Kd.R (Kd.int .i64) 3 W base (fun _ => True) v xs) (hk : aX W W' g none) : Kd.R (Kd.int .i64) 3 W' base (fun k => k ≠ g) v xs := by
 obtain ⟨A0, c0, hb, hg, hr⟩ := h.rd
 refine Kd.CY (Kd.fK (Kd.qQ ho hb (fun q hq => ?_)) (fun _ hk => hk.2)) hk (fun _ h => h)
 have : q = 3 := by simpa [show (Kd.int .i64).E = [] from rfl] using hq
 subst this
 exact fun e => ht e.symm
end
end Go.Proofs.Ytlenihbmafkegaa.Q
end
section
namespace Go.Proofs.Ytlenihbmafkegaa.Q
open Go.RowKit Go.Proofs.YtlenihbmafkegaaW.PrintWords Go.Proofs.YtlenihbmafkegaaW.PrintLast Go.Proofs.YtlenihbmafkegaaW.PrintMore
attribute [local go_sem] jH jG jF jE dC dA dP dO cZ cO dB dw
set_option linter.unusedVariables false
set_option linter.unusedSimpArgs false
/-! ### aZ: function 85 -/
def aZ.j0 (F : Fam) : Nat → List (S40) → Bool → List (S56) → Int → Bool → Option ((List (S40)) × Int × Bool)
 | 0, _, _, _, _, _ => none
 | k + 1, x3, x8, x1000, x1001, x1002 => if x8 = true then ((aC.f x1000 x1001 x1002 (⟨#[59]⟩ : ByteArray)).bind fun bt346 => ((az.f k 17 0 (⟨#[]⟩ : ByteArray) 0 (⟨#[]⟩ : ByteArray) (([x3] : List (List (S40))))).bind fun t351 => (some (t351, bt346.1, bt346.2)))) else (if 0 < (x3.length : Int) then (if ((au x3 0).f0) = 21 then ((aC.f x1000 x1001 x1002 (⟨#[61]⟩ : ByteArray)).bind fun bt355 => ((bH.f F k x1000 bt355.1 bt355.2 7 0 ((au x3 0).f2) 0 (⟨#[]⟩ : ByteArray)).bind fun bt358 => (some (bt358.1, bt358.2.1, bt358.2.2)))) else (if ((au x3 0).f0) = 26 then ((aC.f x1000 x1001 x1002 (⟨#[61]⟩ : ByteArray)).bind fun bt364 => ((bU.f k x3 0).bind fun t366 => ((iV.f F k x1000 bt364.1 bt364.2).bind fun bt369 => ((aC.f x1000 bt369.2.1 bt369.2.2 (⟨#[59]⟩ : ByteArray)).bind fun bt374 => (if 0 < (t366.length : Int) then ((fM.f k x3 (rd t366 0)).bind fun t377 => (if 1 < (t366.length : Int) then ((fM.f k x3 (rd t366 1)).bind fun t381 => ((az.f k 8 0 (⟨#[]⟩ : ByteArray) 0 (⟨#[]⟩ : ByteArray) (([t377, t381, bt369.1] : List (List (S40))))).bind fun t387 => (some (t387, bt374.1, bt374.2)))) else (none))) else (none)))))) else (some (([] : List (S40)), x1001, true)))) else (none))
def aZ.f (F : Fam) (k : Nat) (s0_0 : List (S56)) (s0_1 : Int) (s0_2 : Bool) : Option ((List (S40)) × Int × Bool) := (iV.f F k s0_0 s0_1 s0_2).bind fun bt338 => (if bt338.2.2 = true then (aZ.j0 F k bt338.1 true s0_0 bt338.2.1 bt338.2.2) else ((bC.f s0_0 bt338.2.1 bt338.2.2).bind fun bt343 => (aZ.j0 F k bt338.1 (bt343.1.toList != ([61] : List UInt8)) s0_0 bt343.2.1 bt343.2.2)))
theorem aZ.cu {F F' : Fam} (HLE : jR F F') : ∀ k, (∀ y0 y1 y2 y3 y4, LeO (aZ.j0 F k y0 y1 y2 y3 y4) (aZ.j0 F' (k + 1) y0 y1 y2 y3 y4))
 | 0 => fun _ _ _ _ _ r h => by simp [aZ.j0] at h
 | k + 1 => by
  have ih0 := aZ.cu HLE k
  intro y0 y1 y2 y3 y4
  unfold aZ.j0
  have m0 := az.mono
  have m1 := (bH.mono HLE)
  have m2 := (iV.mono HLE)
  have m3 := bU.mono
  have m4 := fM.mono
  exact yL
theorem aZ.mono {F F' : Fam} (HLE : jR F F') : ∀ a0 a1 a2 k, LeO (aZ.f F k a0 a1 a2) (aZ.f F' (k + 1) a0 a1 a2) := by
 intro a0 a1 a2 k
 have ih0 := aZ.cu HLE k
 unfold aZ.f
 have m0 := az.mono
 have m1 := (bH.mono HLE)
 have m2 := (iV.mono HLE)
 have m3 := bU.mono
 have m4 := fM.mono
 exact yL
end Go.Proofs.Ytlenihbmafkegaa.Q
end
section
namespace Go.Proofs.Ytlenihbmafkegaa.Q
open Go.RowKit Go.Proofs.YtlenihbmafkegaaW.PrintWords Go.Proofs.YtlenihbmafkegaaW.PrintLast Go.Proofs.YtlenihbmafkegaaW.PrintMore
attribute [local go_sem] jH jG jF jE dC dA dP dO cZ cO dB dw
set_option linter.unusedVariables false
set_option linter.unusedSimpArgs false
/-! ### ay: function 81 -/
mutual
def ay.j1 (F : Fam) : Nat → ByteArray → Int → List (S56) → Int → Bool → Option ((List (S40)) × Int × Bool)
 | 0, _, _, _, _, _ => none
 | k + 1, x3, x4, x1000, x1001, x1002 => if x4 = 0 then ((aZ.f F k x1000 x1001 x1002).bind fun bt480 => (some (bt480.1, bt480.2.1, bt480.2.2))) else ((aH.f x1000 x1001 x1002 x3).bind fun bt485 => ((bH.f F k x1000 bt485.2.1 bt485.2.2 x4 0 (⟨#[]⟩ : ByteArray) 0 (⟨#[]⟩ : ByteArray)).bind fun bt488 => (some (bt488.1, bt488.2.1, bt488.2.2))))
def ay.j0 (F : Fam) : Nat → ByteArray → Int → List (S56) → Int → Bool → Option ((List (S40)) × Int × Bool)
 | 0, _, _, _, _, _ => none
 | k + 1, x3, x4, x1000, x1001, x1002 => if x4 = 0 then ((aH.f x1000 x1001 x1002 x3).bind fun bt464 => ((dU.f k x1000 bt464.2.1 bt464.2.2 16).bind fun bt467 => (some (bt467.1, bt467.2.1, bt467.2.2)))) else ((aH.f x1000 x1001 x1002 x3).bind fun bt472 => ((dU.f k x1000 bt472.2.1 bt472.2.2 x4).bind fun bt475 => (some (bt475.1, bt475.2.1, bt475.2.2))))
end
def ay.f (F : Fam) (k : Nat) (s0_0 : List (S56)) (s0_1 : Int) (s0_2 : Bool) : Option ((List (S40)) × Int × Bool) := (bC.f s0_0 s0_1 s0_2).bind fun bt390 => (if bt390.1.toList = ([108, 101, 116] : List UInt8) then ((aH.f s0_0 bt390.2.1 bt390.2.2 bt390.1).bind fun bt393 => ((bD.f s0_0 bt393.2.1 bt393.2.2 1).bind fun bt396 => ((aC.f s0_0 bt396.2.2.2.2.1 bt396.2.2.2.2.2 (⟨#[61]⟩ : ByteArray)).bind fun bt402 => ((bH.f F k s0_0 bt402.1 bt402.2 6 0 bt396.2.1 0 (⟨#[]⟩ : ByteArray)).bind fun bt404 => (some (bt404.1, bt404.2.1, bt404.2.2)))))) else (if bt390.1.toList = ([105, 102] : List UInt8) then ((aH.f s0_0 bt390.2.1 bt390.2.2 bt390.1).bind fun bt409 => ((iV.f F k s0_0 bt409.2.1 bt409.2.2).bind fun bt412 => ((some (([bt412.1] : List (List (S40))) : List (List (S40)))).bind fun y417 => ((kX.f F k s0_0 bt412.2.1 bt412.2.2).bind fun bt420 => (if y417.length < 5864062014805 then ((some (y417 ++ [bt420.1] : List (List (S40)))).bind fun y425 => ((aH.f s0_0 bt420.2.1 bt420.2.2 (⟨#[101, 108, 115, 101]⟩ : ByteArray)).bind fun bt428 => (if bt428.1 = true then ((kX.f F k s0_0 bt428.2.1 bt428.2.2).bind fun bt431 => (if y425.length < 5864062014805 then ((az.f k 9 0 (⟨#[]⟩ : ByteArray) 0 (⟨#[]⟩ : ByteArray) (y425 ++ [bt431.1])).bind fun t439 => (some (t439, bt431.2.1, bt431.2.2))) else (none))) else ((az.f k 9 0 (⟨#[]⟩ : ByteArray) 0 (⟨#[]⟩ : ByteArray) y425).bind fun t442 => (some (t442, bt428.2.1, bt428.2.2)))))) else (none)))))) else (if bt390.1.toList = ([119, 104, 105, 108, 101] : List UInt8) then ((aH.f s0_0 bt390.2.1 bt390.2.2 bt390.1).bind fun bt445 => ((iV.f F k s0_0 bt445.2.1 bt445.2.2).bind fun bt448 => ((kX.f F k s0_0 bt448.2.1 bt448.2.2).bind fun bt453 => ((az.f k 10 0 (⟨#[]⟩ : ByteArray) 0 (⟨#[]⟩ : ByteArray) (([bt448.1, bt453.1] : List (List (S40))))).bind fun t461 => (some (t461, bt453.2.1, bt453.2.2)))))) else (if bt390.1.toList = ([98, 114, 101, 97, 107] : List UInt8) then (if 11 = 0 then (ay.j0 F k bt390.1 12 s0_0 bt390.2.1 bt390.2.2) else (ay.j0 F k bt390.1 11 s0_0 bt390.2.1 bt390.2.2)) else (if bt390.1.toList = ([99, 111, 110, 116, 105, 110, 117, 101] : List UInt8) then (if 0 = 0 then (ay.j0 F k bt390.1 12 s0_0 bt390.2.1 bt390.2.2) else (ay.j0 F k bt390.1 0 s0_0 bt390.2.1 bt390.2.2)) else (if bt390.1.toList = ([121, 105, 101, 108, 100] : List UInt8) then (ay.j0 F k bt390.1 0 s0_0 bt390.2.1 bt390.2.2) else (if bt390.1.toList = ([114, 101, 116, 117, 114, 110] : List UInt8) then (ay.j1 F k bt390.1 13 s0_0 bt390.2.1 bt390.2.2) else (if bt390.1.toList = ([112, 117, 116] : List UInt8) then (ay.j1 F k bt390.1 14 s0_0 bt390.2.1 bt390.2.2) else (if bt390.1.toList = ([101, 109, 105, 116] : List UInt8) then (ay.j1 F k bt390.1 15 s0_0 bt390.2.1 bt390.2.2) else (ay.j1 F k bt390.1 0 s0_0 bt390.2.1 bt390.2.2))))))))))
theorem ay.cu {F F' : Fam} (HLE : jR F F') : ∀ k, (∀ y0 y1 y2 y3 y4, LeO (ay.j1 F k y0 y1 y2 y3 y4) (ay.j1 F' (k + 1) y0 y1 y2 y3 y4)) ∧ (∀ y0 y1 y2 y3 y4, LeO (ay.j0 F k y0 y1 y2 y3 y4) (ay.j0 F' (k + 1) y0 y1 y2 y3 y4))
 | 0 => ⟨fun _ _ _ _ _ r h => by simp [ay.j1] at h, fun _ _ _ _ _ r h => by simp [ay.j0] at h⟩
 | k + 1 => by
  obtain ⟨ih0, ih1⟩ := ay.cu HLE k
  refine ⟨?_, ?_⟩
  ·intro y0 y1 y2 y3 y4
   unfold ay.j1
   have m0 := az.mono
   have m1 := dU.mono
   have m2 := (bH.mono HLE)
   have m3 := (aZ.mono HLE)
   have m4 := (kX.mono HLE)
   have m5 := (iV.mono HLE)
   exact yL
  intro y0 y1 y2 y3 y4
  unfold ay.j0
  have m0 := az.mono
  have m1 := dU.mono
  have m2 := (bH.mono HLE)
  have m3 := (aZ.mono HLE)
  have m4 := (kX.mono HLE)
  have m5 := (iV.mono HLE)
  exact yL
theorem ay.mono {F F' : Fam} (HLE : jR F F') : ∀ a0 a1 a2 k, LeO (ay.f F k a0 a1 a2) (ay.f F' (k + 1) a0 a1 a2) := by
 intro a0 a1 a2 k
 obtain ⟨ih0, ih1⟩ := ay.cu HLE k
 unfold ay.f
 have m0 := az.mono
 have m1 := dU.mono
 have m2 := (bH.mono HLE)
 have m3 := (aZ.mono HLE)
 have m4 := (kX.mono HLE)
 have m5 := (iV.mono HLE)
 exact yL
end Go.Proofs.Ytlenihbmafkegaa.Q
end
section
namespace Go.Proofs.Ytlenihbmafkegaa.Q
open Go.RowKit Go.Proofs.YtlenihbmafkegaaW.PrintWords Go.Proofs.YtlenihbmafkegaaW.PrintLast Go.Proofs.YtlenihbmafkegaaW.PrintMore
attribute [local go_sem] jH jG jF jE dC dA dP dO cZ cO dB dw
set_option linter.unusedVariables false
set_option linter.unusedSimpArgs false
/-! ### aN: function 78 -/
def aN.l0 (F : Fam) : Nat → List (List (S40)) → List (S56) → Int → Bool → Option ((List (S40)) × Int × Bool)
 | 0, _, _, _, _ => none
 | k + 1, x3, x1000, x1001, x1002 => if x1002 = true then ((aC.f x1000 x1001 x1002 (⟨#[125]⟩ : ByteArray)).bind fun bt495 => ((az.f k 5 0 (⟨#[]⟩ : ByteArray) 0 (⟨#[]⟩ : ByteArray) x3).bind fun t497 => (some (t497, bt495.1, bt495.2)))) else ((bC.f x1000 x1001 x1002).bind fun bt500 => (if bt500.1.toList = ([125] : List UInt8) then ((aC.f x1000 bt500.2.1 bt500.2.2 (⟨#[125]⟩ : ByteArray)).bind fun bt503 => ((az.f k 5 0 (⟨#[]⟩ : ByteArray) 0 (⟨#[]⟩ : ByteArray) x3).bind fun t505 => (some (t505, bt503.1, bt503.2)))) else ((ay.f F k x1000 bt500.2.1 bt500.2.2).bind fun bt508 => (if x3.length < 5864062014805 then (aN.l0 F k (x3 ++ [bt508.1]) x1000 bt508.2.1 bt508.2.2) else (none)))))
def aN.f (F : Fam) (k : Nat) (s0_0 : List (S56)) (s0_1 : Int) (s0_2 : Bool) : Option ((List (S40)) × Int × Bool) := (aC.f s0_0 s0_1 s0_2 (⟨#[123]⟩ : ByteArray)).bind fun bt493 => (aN.l0 F k ([] : List (List (S40))) s0_0 bt493.1 bt493.2)
theorem aN.cu {F F' : Fam} (HLE : jR F F') : ∀ k, (∀ y0 y1 y2 y3, LeO (aN.l0 F k y0 y1 y2 y3) (aN.l0 F' (k + 1) y0 y1 y2 y3))
 | 0 => fun _ _ _ _ r h => by simp [aN.l0] at h
 | k + 1 => by
  have ih0 := aN.cu HLE k
  intro y0 y1 y2 y3
  unfold aN.l0
  have m0 := az.mono
  have m1 := (ay.mono HLE)
  exact yL
theorem aN.mono {F F' : Fam} (HLE : jR F F') : ∀ a0 a1 a2 k, LeO (aN.f F k a0 a1 a2) (aN.f F' (k + 1) a0 a1 a2) := by
 intro a0 a1 a2 k
 have ih0 := aN.cu HLE k
 unfold aN.f
 have m0 := az.mono
 have m1 := (ay.mono HLE)
 exact yL
/-! ### dF: function 77 -/
def dF.f (k : Nat) (s0_0 : List (S56)) (s0_1 : Int) (s0_2 : Bool) : Option ((List (S40)) × Int × Bool) := (bD.f s0_0 s0_1 s0_2 1).bind fun bt516 => ((az.f k 4 0 bt516.2.1 0 (⟨#[]⟩ : ByteArray) ([] : List (List (S40)))).bind fun t522 => (some (t522, bt516.2.2.2.2.1, bt516.2.2.2.2.2)))
theorem dF.mono : ∀ a0 a1 a2 k, LeO (dF.f k a0 a1 a2) (dF.f (k + 1) a0 a1 a2) := by
 intro a0 a1 a2 k
 unfold dF.f
 have m0 := az.mono
 exact yL
end Go.Proofs.Ytlenihbmafkegaa.Q
end
section
set_option linter.unusedVariables false
set_option linter.unusedSimpArgs false
namespace Go.Proofs.Ytlenihbmafkegaa.Q
open Go Go.RowKit Go.Proofs.YtlenihbmafkegaaW.PrintWords Go.Proofs.YtlenihbmafkegaaW.PrintLast Go.Proofs.YtlenihbmafkegaaW.PrintMore
attribute [local go_sem] pM pK pJ pI
set_option maxHeartbeats 8000000 in
set_option maxRecDepth 100000 in
theorem xJ (F : Fam) (HF : kD F) (k : Nat) (g : Nat) (s0 : List S56) (s1 : Int) (s2 : Bool) (a0 : Int) (a1 : Int) (a2 : ByteArray) (a3 : Int) (a4 : ByteArray) (r : List S40) (e1 : Int) (e2 : Bool) (w0 w : World) (hI : Rd 72 w0 w g s0 s1 s2) (hB : Below w0.heap.size w0 w) (h : bH.f F k s0 s1 s2 a0 a1 a2 a3 a4 = some (r, e1, e2)) :
 Calls Try.prog 82 #[.pointer (some ⟨g, 0, none⟩), .agg #[.int .i64 a0, .int .i64 a1, .string a2, .int .i64 a3, .string a4]] w (Back 72 w0 w g s0 e1 e2 (IsL w r)) := by
 unfold bH.f at h
 have HS := St.new (T := 72) (by decide) hI hB
 have H := ae.mk h
 clear h hI hB
 go_enter Try.func82, Try.ntmps82
 go_wp2_with (first | ((with_reducible refine bI (N := 3) rfl ?_); refine boxS (N := 3) (stT HS) (by first | (go_simp; done) | (go_simp; rfl)) ?_; clear HS; intro gb w' HS hne hge; (try (have hb_ := HS.box rfl; have hx0 := (ah hb_ 0).trans rfl; have hf0 := af hb_ 0; have hx1 := (ah hb_ 1).trans rfl; have hf1 := af hb_ 1; have hx2 := (ah hb_ 2).trans rfl; have hf2 := af hb_ 2; have hx3 := (ah hb_ 3).trans rfl; have hf3 := af hb_ 3; have hx4 := (ah hb_ 4).trans rfl; have hf4 := af hb_ 4; clear hb_))) | ((with_reducible refine gC 83 rfl ?_); refine sL 83 rfl Try.func83 (stX HS) H (fun t q b hI hB h => toL (HF.expr g _ _ _ t q b w0 _ hI hB h)) ?_; (try clear hx0 hx1 hx2 hx3 hx4 hf0 hf1 hf2 hf3 hf4); clear HS H; intro t q b w' A c HS H; (try dsimp only at H)) | ((with_reducible refine gC 56 rfl ?_); refine sU 56 rfl Try.func56 (stX HS) H (fun q b hI hB => aC.calls g _ _ _ _ q b w0 _ hI hB) ?_; (try clear hx0 hx1 hx2 hx3 hx4 hf0 hf1 hf2 hf3 hf4); clear HS H; intro q b w' HS H; (try dsimp only at H); (try (have hb_ := HS.box rfl; have hx0 := (ah hb_ 0).trans rfl; have hf0 := af hb_ 0; have hx1 := (ah hb_ 1).trans rfl; have hf1 := af hb_ 1; have hx2 := (ah hb_ 2).trans rfl; have hf2 := af hb_ 2; have hx3 := (ah hb_ 3).trans rfl; have hf3 := af hb_ 3; have hx4 := (ah hb_ 4).trans rfl; have hf4 := af hb_ 4; clear hb_))) | ((with_reducible refine bI (N := 12) rfl ?_); refine oC (N := 12) (stX HS) (by first | (go_simp; done) | (go_simp; rfl)) ?_; clear HS; intro A c w' HS) | ((with_reducible refine gC 61 rfl ?_); refine sJ 61 rfl Try.func61 (stX HS) H (fun t hr hc => az.calls _ _ _ _ _ _ _ _ _ t _ hr hc) ?_; (try clear hx0 hx1 hx2 hx3 hx4 hf0 hf1 hf2 hf3 hf4); clear HS H; intro t w' A c HS H; (try dsimp only at H)))
 all_goals
  have h_ := H.out; simp only [Option.some.injEq, Prod.mk.injEq] at h_; obtain ⟨rfl, rfl, rfl⟩ := h_
  go_ret
  exact (stT HS).lC (.head _)
set_option maxHeartbeats 8000000 in
set_option maxRecDepth 100000 in
theorem Jf (k : Nat) (g : Nat) (s0 : List S56) (s1 : Int) (s2 : Bool) (a : Int) (r : List S40) (e1 : Int) (e2 : Bool) (w0 w : World) (hI : Rd 72 w0 w g s0 s1 s2) (hB : Below w0.heap.size w0 w) (h : dU.f k s0 s1 s2 a = some (r, e1, e2)) :
 Calls Try.prog 84 #[.pointer (some ⟨g, 0, none⟩), .int .i64 a] w (Back 72 w0 w g s0 e1 e2 (IsL w r)) := by
 unfold dU.f at h
 have HS := St.new (T := 72) (by decide) hI hB
 have H := ae.mk h
 clear h hI hB
 go_enter Try.func84, Try.ntmps84
 go_wp2_with (first | ((with_reducible refine gC 56 rfl ?_); refine sU 56 rfl Try.func56 (stT HS) H (fun q b hI hB => aC.calls g _ _ _ _ q b w0 _ hI hB) ?_; clear HS H; intro q b w' HS H; (try dsimp only at H)) | ((with_reducible refine gC 61 rfl ?_); refine sJ 61 rfl Try.func61 (stT HS).yE H (fun t hr hc => az.calls _ _ _ _ _ _ _ _ _ t _ hr hc) ?_; clear HS H; intro t w' A c HS H; (try dsimp only at H)))
 all_goals
  have h_ := H.out; simp only [Option.some.injEq, Prod.mk.injEq] at h_; obtain ⟨rfl, rfl, rfl⟩ := h_
  go_ret
  exact (stT HS).lC (.head _)
set_option maxHeartbeats 8000000 in
set_option maxRecDepth 100000 in
theorem LJ (k : Nat) (g : Nat) (s0 : List S56) (s1 : Int) (s2 : Bool) (r : List S40) (e1 : Int) (e2 : Bool) (w0 w : World) (hI : Rd 72 w0 w g s0 s1 s2) (hB : Below w0.heap.size w0 w) (h : eu.f k s0 s1 s2 = some (r, e1, e2)) :
 Calls Try.prog 59 #[.pointer (some ⟨g, 0, none⟩)] w (Back 72 w0 w g s0 e1 e2 (IsL w r)) := by
 unfold eu.f at h
 have HS := St.new (T := 72) (by decide) hI hB
 have H := ae.mk h
 clear h hI hB
 go_enter Try.func59, Try.ntmps59
 go_wp2_with (first | ((with_reducible refine bI (N := 3) rfl ?_); refine boxS (N := 3) (stT HS) (by first | (go_simp; done) | (go_simp; rfl)) ?_; clear HS; intro gb w' HS hne hge; (try (have hb_ := HS.box rfl; have hx0 := (ah hb_ 0).trans rfl; have hf0 := af hb_ 0; have hx1 := (ah hb_ 1).trans rfl; have hf1 := af hb_ 1; have hx2 := (ah hb_ 2).trans rfl; have hf2 := af hb_ 2; have hx3 := (ah hb_ 3).trans rfl; have hf3 := af hb_ 3; have hx4 := (ah hb_ 4).trans rfl; have hf4 := af hb_ 4; clear hb_))) | ((with_reducible refine gC 57 rfl ?_); refine sN 57 rfl Try.func57 (stX HS) H (fun t1 t2 t3 t4 q b hI hB => bD.calls g _ _ _ _ t1 t2 t3 t4 q b w0 _ hI hB) ?_; (try clear hx0 hx1 hx2 hx3 hx4 hf0 hf1 hf2 hf3 hf4); clear HS H; intro t1 t2 t3 t4 q b w' HS H; (try dsimp only at H); (try (have hb_ := HS.box rfl; have hx0 := (ah hb_ 0).trans rfl; have hf0 := af hb_ 0; have hx1 := (ah hb_ 1).trans rfl; have hf1 := af hb_ 1; have hx2 := (ah hb_ 2).trans rfl; have hf2 := af hb_ 2; have hx3 := (ah hb_ 3).trans rfl; have hf3 := af hb_ 3; have hx4 := (ah hb_ 4).trans rfl; have hf4 := af hb_ 4; clear hb_))) | ((with_reducible refine gC 56 rfl ?_); refine sU 56 rfl Try.func56 (stX HS) H (fun q b hI hB => aC.calls g _ _ _ _ q b w0 _ hI hB) ?_; (try clear hx0 hx1 hx2 hx3 hx4 hf0 hf1 hf2 hf3 hf4); clear HS H; intro q b w' HS H; (try dsimp only at H); (try (have hb_ := HS.box rfl; have hx0 := (ah hb_ 0).trans rfl; have hf0 := af hb_ 0; have hx1 := (ah hb_ 1).trans rfl; have hf1 := af hb_ 1; have hx2 := (ah hb_ 2).trans rfl; have hf2 := af hb_ 2; have hx3 := (ah hb_ 3).trans rfl; have hf3 := af hb_ 3; have hx4 := (ah hb_ 4).trans rfl; have hf4 := af hb_ 4; clear hb_))) | ((with_reducible refine gC 61 rfl ?_); refine sJ 61 rfl Try.func61 (stX HS).yE H (fun t hr hc => az.calls _ _ _ _ _ _ _ _ _ t _ hr hc) ?_; (try clear hx0 hx1 hx2 hx3 hx4 hf0 hf1 hf2 hf3 hf4); clear HS H; intro t w' A c HS H; (try dsimp only at H)))
 all_goals
  have h_ := H.out; simp only [Option.some.injEq, Prod.mk.injEq] at h_; obtain ⟨rfl, rfl, rfl⟩ := h_
  go_ret
  exact (stT HS).lC (.head _)
set_option maxHeartbeats 8000000 in
set_option maxRecDepth 100000 in
theorem FZ (k : Nat) (g : Nat) (s0 : List S56) (s1 : Int) (s2 : Bool) (r : List S40) (e1 : Int) (e2 : Bool) (w0 w : World) (hI : Rd 72 w0 w g s0 s1 s2) (hB : Below w0.heap.size w0 w) (h : dF.f k s0 s1 s2 = some (r, e1, e2)) :
 Calls Try.prog 77 #[.pointer (some ⟨g, 0, none⟩)] w (Back 72 w0 w g s0 e1 e2 (IsL w r)) := by
 unfold dF.f at h
 have HS := St.new (T := 72) (by decide) hI hB
 have H := ae.mk h
 clear h hI hB
 go_enter Try.func77, Try.ntmps77
 go_wp2_with (first | ((with_reducible refine gC 57 rfl ?_); refine sN 57 rfl Try.func57 (stT HS) H (fun t1 t2 t3 t4 q b hI hB => bD.calls g _ _ _ _ t1 t2 t3 t4 q b w0 _ hI hB) ?_; clear HS H; intro t1 t2 t3 t4 q b w' HS H; (try dsimp only at H)) | ((with_reducible refine gC 61 rfl ?_); refine sJ 61 rfl Try.func61 (stT HS).yE H (fun t hr hc => az.calls _ _ _ _ _ _ _ _ _ t _ hr hc) ?_; clear HS H; intro t w' A c HS H; (try dsimp only at H)))
 all_goals
  have h_ := H.out; simp only [Option.some.injEq, Prod.mk.injEq] at h_; obtain ⟨rfl, rfl, rfl⟩ := h_
  go_ret
  exact (stT HS).lC (.head _)
end Go.Proofs.Ytlenihbmafkegaa.Q
end
section
namespace Go.Proofs.Ytlenihbmafkegaa.Q
open Go.RowKit Go.Proofs.YtlenihbmafkegaaW.PrintWords Go.Proofs.YtlenihbmafkegaaW.PrintLast Go.Proofs.YtlenihbmafkegaaW.PrintMore
attribute [local go_sem] jH jG jF jE dC dA dP dO cZ cO dB dw
set_option linter.unusedVariables false
set_option linter.unusedSimpArgs false
/-! ### fA: function 96 -/
mutual
def fA.l0 (F : Fam) : Nat → List (List (S40)) → List (S56) → Int → Bool → Option ((List (List (S40))) × Int × Bool)
 | 0, _, _, _, _ => none
 | k + 1, x5, x1000, x1001, x1002 => if x1002 = true then (fA.j1 F k x5 false x1000 x1001 x1002) else ((bC.f x1000 x1001 x1002).bind fun bt619 => (fA.j1 F k x5 (bt619.1.toList != ([41] : List UInt8)) x1000 bt619.2.1 bt619.2.2))
def fA.j1 (F : Fam) : Nat → List (List (S40)) → Bool → List (S56) → Int → Bool → Option ((List (List (S40))) × Int × Bool)
 | 0, _, _, _, _, _ => none
 | k + 1, x5, x17, x1000, x1001, x1002 => if x17 = true then (if (x5.length : Int) > 0 then ((aC.f x1000 x1001 x1002 (⟨#[44]⟩ : ByteArray)).bind fun bt624 => ((iV.f F k x1000 bt624.1 bt624.2).bind fun bt626 => (if x5.length < 5864062014805 then (fA.l0 F k (x5 ++ [bt626.1]) x1000 bt626.2.1 bt626.2.2) else (none)))) else ((iV.f F k x1000 x1001 x1002).bind fun bt634 => (if x5.length < 5864062014805 then (fA.l0 F k (x5 ++ [bt634.1]) x1000 bt634.2.1 bt634.2.2) else (none)))) else ((aC.f x1000 x1001 x1002 (⟨#[41]⟩ : ByteArray)).bind fun bt622 => (some (x5, bt622.1, bt622.2)))
end
def fA.f (F : Fam) (k : Nat) (s0_0 : List (S56)) (s0_1 : Int) (s0_2 : Bool) : Option ((List (List (S40))) × Int × Bool) := (aC.f s0_0 s0_1 s0_2 (⟨#[40]⟩ : ByteArray)).bind fun bt617 => (fA.l0 F k ([] : List (List (S40))) s0_0 bt617.1 bt617.2)
theorem fA.cu {F F' : Fam} (HLE : jR F F') : ∀ k, (∀ y0 y1 y2 y3, LeO (fA.l0 F k y0 y1 y2 y3) (fA.l0 F' (k + 1) y0 y1 y2 y3)) ∧ (∀ y0 y1 y2 y3 y4, LeO (fA.j1 F k y0 y1 y2 y3 y4) (fA.j1 F' (k + 1) y0 y1 y2 y3 y4))
 | 0 => ⟨fun _ _ _ _ r h => by simp [fA.l0] at h, fun _ _ _ _ _ r h => by simp [fA.j1] at h⟩
 | k + 1 => by
  obtain ⟨ih0, ih1⟩ := fA.cu HLE k
  refine ⟨?_, ?_⟩
  ·intro y0 y1 y2 y3
   unfold fA.l0
   have m0 := (iV.mono HLE)
   exact yL
  intro y0 y1 y2 y3 y4
  unfold fA.j1
  have m0 := (iV.mono HLE)
  exact yL
theorem fA.mono {F F' : Fam} (HLE : jR F F') : ∀ a0 a1 a2 k, LeO (fA.f F k a0 a1 a2) (fA.f F' (k + 1) a0 a1 a2) := by
 intro a0 a1 a2 k
 obtain ⟨ih0, ih1⟩ := fA.cu HLE k
 unfold fA.f
 have m0 := (iV.mono HLE)
 exact yL
end Go.Proofs.Ytlenihbmafkegaa.Q
end
section
set_option linter.unusedVariables false
set_option linter.unusedSimpArgs false
namespace Go.Proofs.Ytlenihbmafkegaa.Q
open Go Go.RowKit Go.Proofs.YtlenihbmafkegaaW.PrintWords Go.Proofs.YtlenihbmafkegaaW.PrintLast Go.Proofs.YtlenihbmafkegaaW.PrintMore
attribute [local go_sem] pM pK pJ pI
set_option maxHeartbeats 8000000 in
set_option maxRecDepth 100000 in
theorem zV (F : Fam) (HF : kD F) (k : Nat) (g : Nat) (s0 : List S56) (s1 : Int) (s2 : Bool) (r : List (List S40)) (e1 : Int) (e2 : Bool) (w0 w : World) (hI : Rd 72 w0 w g s0 s1 s2) (hB : Below w0.heap.size w0 w) (h : fA.f F k s0 s1 s2 = some (r, e1, e2)) :
 Calls Try.prog 76 #[.pointer (some ⟨g, 0, none⟩), .func (.func 83) #[.pointer (some ⟨g, 0, none⟩)] #[]] w (Back 72 w0 w g s0 e1 e2 (IsK w g r)) := by
 unfold fA.f at h
 have HS := St.new (T := 72) (by decide) hI hB
 have H := ae.mk h
 clear h hI hB
 go_enter Try.func76, Try.ntmps76
 go_wp2_with (first | ((with_reducible refine gC 56 rfl ?_); refine sU 56 rfl Try.func56 (stT HS) H (fun q b hI hB => aC.calls g _ _ _ _ q b w0 _ hI hB) ?_; clear HS H; intro q b w' HS H; (try dsimp only at H)))
 (try simp only [Act.put, List.setIfInBounds_toArray, List.set_cons_zero, List.set_cons_succ])
 go_loopg [5] k (fun kq v3 w' => ∃ (x3 : List (List S40)) (p : Int) (d : Bool) (A : Option Addr) (c : Nat), v3 = .slice A x3.length c ∧ ae (fA.l0 F kq x3 s0 p d = some (r, e1, e2)) ∧ ae (kq ≤ k) ∧ St 72 w0 w w' g s0 p d [] [(.slice A x3.length c, x3)] ⟨[], []⟩)
 case atStart => exact ⟨[], _, _, none, 0, rfl, H, ⟨Nat.le_refl _⟩, (stT HS).clear.yE⟩
 case round =>
  clear HS H
  obtain ⟨x3, p, d, A, c, rfl, H, HK1, HS⟩ := hrel
  cases gk with
  | zero => exact absurd H.out (by simp [fA.l0])
  | succ k1 =>
   simp only [fA.l0] at H
   cases k1 with
   | zero => exact absurd H.out (by cases d <;> simp [fA.j1])
   | succ k2 =>
   simp only [fA.j1] at H
   have hc2 := HS.rd.cell2
   by_cases hx : (x3.length : Int) > 0
   all_goals
    simp only [hx, if_true, if_false] at H
    first | (have hxb : decide (0 < (x3.length : Int)) = true := decide_eq_true hx; have hxc : decide (0 < x3.length) = true := decide_eq_true (by omega)) | (have hxb : decide (0 < (x3.length : Int)) = false := decide_eq_false hx; have hxc : decide (0 < x3.length) = false := decide_eq_false (by omega))
    clear hx
   all_goals
    cases d <;> (try simp only [if_true, if_false, eq_self, Bool.false_eq_true, Bool.not_true, Bool.not_false] at H)
   all_goals go_wp2_with (first | (go_at_call 75; refine cX (stT HS) H (fun t q b hI hB => bC.calls g _ _ _ t q b w0 _ hI hB) ?_; clear HS H; intro t q b w' HS H; (try dsimp only at H); rcases tS t ([41] : List UInt8) with ⟨c, cb1, cn1⟩ | ⟨c, cb1, cn1⟩ <;> (simp only [cn1, if_true, if_false, eq_self, Bool.false_eq_true] at H; clear c)) | ((with_reducible refine gC 56 rfl ?_); refine sU 56 rfl Try.func56 (stT HS) H (fun q b hI hB => aC.calls g _ _ _ _ q b w0 _ hI hB) ?_; clear HS H; intro q b w' HS H; (try dsimp only at H)) | (go_at_call 83; refine cL (stT HS) H (fun t q b hI hB h => toL (HF.expr g _ _ _ t q b w0 _ hI hB h)) ?_; clear HS H; intro t q b w' A c HS H; (try dsimp only at H)) | ((with_reducible refine bI (N := 26) rfl ?_); refine oC (N := 26) (stT HS) (by first | (go_simp; done) | (go_simp; rfl)) ?_; clear HS; intro A c w' HS) | ((with_reducible refine dR (b := .append) (xs := #[.tmp 23, .tmp 26]) rfl ?_); at_builtin; refine zo (N := 27) (.tmp 23) (.tmp 26) rfl Try.underlying86 info22 (stT HS) rfl rfl H ?_; clear HS H; intro A c w' HS H; (try replace H := hB H); (try dsimp only at H)))
   all_goals first
    | (go_roundg k2; (case measure => have := HK1.out; omega); (case rel => exact ⟨_, _, _, _, _, by first | rfl | simp, H, ⟨by have := HK1.out; omega⟩, stT HS⟩))
    | (have h_ := H.out; simp only [Option.some.injEq, Prod.mk.injEq] at h_; obtain ⟨rfl, rfl, rfl⟩ := h_; go_ret; exact (stT HS).KQ)
end Go.Proofs.Ytlenihbmafkegaa.Q
end
section
namespace Go.Proofs.Ytlenihbmafkegaa.Q
open Go.RowKit Go.Proofs.YtlenihbmafkegaaW.PrintWords Go.Proofs.YtlenihbmafkegaaW.PrintLast Go.Proofs.YtlenihbmafkegaaW.PrintMore
attribute [local go_sem] jH jG jF jE dC dA dP dO cZ cO dB dw
set_option linter.unusedVariables false
set_option linter.unusedSimpArgs false
/-! ### dX: function 90 -/
def dX.f (F : Fam) (k : Nat) (s0_0 : List (S56)) (s0_1 : Int) (s0_2 : Bool) : Option ((List (S40)) × Int × Bool) := (jB.f s0_0 s0_1 s0_2).bind fun bt642 => (if bt642.2.2.2.2.1 = true then (if bt642.1 = 2 then ((az.f k 19 0 (⟨#[]⟩ : ByteArray) bt642.2.2.1 (⟨#[]⟩ : ByteArray) ([] : List (List (S40)))).bind fun t650 => (some (t650, wrap64 (bt642.2.2.2.2.2.1 + 1), bt642.2.2.2.2.2.2))) else (if bt642.1 = 3 then ((az.f k 20 0 (⟨#[]⟩ : ByteArray) 0 bt642.2.1 ([] : List (List (S40)))).bind fun t653 => (some (t653, wrap64 (bt642.2.2.2.2.2.1 + 1), bt642.2.2.2.2.2.2))) else ((bD.f s0_0 bt642.2.2.2.2.2.1 bt642.2.2.2.2.2.2 1).bind fun bt656 => ((aH.f s0_0 bt656.2.2.2.2.1 bt656.2.2.2.2.2 (⟨#[46]⟩ : ByteArray)).bind fun bt662 => (if bt662.1 = true then ((bD.f s0_0 bt662.2.1 bt662.2.2 1).bind fun bt665 => ((fA.f F k s0_0 bt665.2.2.2.2.1 bt665.2.2.2.2.2).bind fun bt671 => ((az.f k 23 0 bt656.2.1 0 bt665.2.1 bt671.1).bind fun t676 => (some (t676, bt671.2.1, bt671.2.2))))) else ((az.f k 21 0 bt656.2.1 0 (⟨#[]⟩ : ByteArray) ([] : List (List (S40)))).bind fun t679 => (some (t679, bt662.2.1, bt662.2.2)))))))) else (some (([] : List (S40)), bt642.2.2.2.2.2.1, true)))
theorem dX.mono {F F' : Fam} (HLE : jR F F') : ∀ a0 a1 a2 k, LeO (dX.f F k a0 a1 a2) (dX.f F' (k + 1) a0 a1 a2) := by
 intro a0 a1 a2 k
 unfold dX.f
 have m0 := az.mono
 have m1 := (fA.mono HLE)
 exact yL
end Go.Proofs.Ytlenihbmafkegaa.Q
end
section
set_option linter.unusedVariables false
set_option linter.unusedSimpArgs false
namespace Go.Proofs.Ytlenihbmafkegaa.Q
open Go Go.RowKit Go.Proofs.YtlenihbmafkegaaW.PrintWords Go.Proofs.YtlenihbmafkegaaW.PrintLast Go.Proofs.YtlenihbmafkegaaW.PrintMore
attribute [local go_sem] pM pK pJ pI
set_option maxHeartbeats 8000000 in
set_option maxRecDepth 100000 in
theorem Jd (F : Fam) (HF : kD F) (k : Nat) (g : Nat) (s0 : List S56) (s1 : Int) (s2 : Bool) (r : List S40) (e1 : Int) (e2 : Bool) (w0 w : World) (hI : Rd 72 w0 w g s0 s1 s2) (hB : Below w0.heap.size w0 w) (h : dX.f F k s0 s1 s2 = some (r, e1, e2)) :
 Calls Try.prog 90 #[.pointer (some ⟨g, 0, none⟩)] w (Back 72 w0 w g s0 e1 e2 (IsL w r)) := by
 unfold dX.f at h
 have HS := St.new (T := 72) (by decide) hI hB
 have H := ae.mk h
 clear h hI hB
 go_enter Try.func90, Try.ntmps90
 go_wp2_with (first | ((with_reducible refine gC 74 rfl ?_); refine sX 74 rfl Try.func74 (stT HS) H (fun t1 t2 t3 t4 o q b hI hB => jB.calls g _ _ _ t1 t2 t3 t4 o q b w0 _ hI hB) ?_; clear HS H; intro t1 t2 t3 t4 o q b w' HS H; (try dsimp only at H); cases o <;> (try simp only [if_true, if_false, eq_self, Bool.false_eq_true] at H); rotate_left; rcases nS t1 2 with ⟨c, cb1, cn1⟩ | ⟨c, cb1, cn1⟩; replace H := hI c H; clear c; rotate_left; replace H := hE c H; clear c; rcases nS t1 3 with ⟨c, cb2, cn2⟩ | ⟨c, cb2, cn2⟩; replace H := hI c H; clear c; rotate_left; replace H := hE c H; clear c) | ((with_reducible refine bI (N := 3) rfl ?_); refine boxS (N := 3) (cs := #[.int .i64 0, .string (⟨#[]⟩ : ByteArray), .int .i64 0, .int .i64 0]) (t := 56) (stT HS) (by first | (go_simp; done) | (go_simp; rfl)) ?_; clear HS; intro gb w' HS hne hge; have hnc := Ne.symm hne; (try (have hb_ := HS.box rfl; have hx0 := (ah hb_ 0).trans rfl; have hf0 := af hb_ 0; have hx1 := (ah hb_ 1).trans rfl; have hf1 := af hb_ 1; have hx2 := (ah hb_ 2).trans rfl; have hf2 := af hb_ 2; have hx3 := (ah hb_ 3).trans rfl; have hf3 := af hb_ 3; clear hb_)); have hc1 := HS.rd.cell1; have hf1 := HS.rd.fro 1; have hc2 := HS.rd.cell2; have hf2 := HS.rd.fro 2) | ((with_reducible refine gC 57 rfl ?_); refine sN 57 rfl Try.func57 (stX HS) H (fun t1 t2 t3 t4 q b hI hB => bD.calls g _ _ _ _ t1 t2 t3 t4 q b w0 _ hI hB) ?_; (try clear hx0 hx1 hx2 hx3 hx4 hf0 hf1 hf2 hf3 hf4); (try clear hc1 hf1 hc2 hf2); clear HS H; intro t1 t2 t3 t4 q b w' HS H; (try dsimp only at H)) | ((with_reducible refine gC 58 rfl ?_); refine sB 58 rfl Try.func58 (stX HS) H (fun t q b hI hB => aH.calls g _ _ _ _ t q b w0 _ hI hB) ?_; (try clear hx0 hx1 hx2 hx3 hx4 hf0 hf1 hf2 hf3 hf4); (try clear hc1 hf1 hc2 hf2); clear HS H; intro t q b w' HS H; (try dsimp only at H); cases t <;> (try simp only [if_true, if_false, eq_self, Bool.false_eq_true, Bool.not_true, Bool.not_false] at H)) | ((with_reducible refine gC 76 rfl ?_); refine sK 76 rfl Try.func76 (stX HS) H (fun t q b hI hB h => zV F HF _ g _ _ _ t q b w0 _ hI hB h) ?_; (try clear hx0 hx1 hx2 hx3 hx4 hf0 hf1 hf2 hf3 hf4); (try clear hc1 hf1 hc2 hf2); clear HS H; intro t q b w' A c HS H; (try dsimp only at H)) | ((with_reducible refine gC 61 rfl ?_); refine sJ 61 rfl Try.func61 (stX HS) H (fun t hr hc => az.calls _ _ _ _ _ _ _ _ _ t _ hr hc) ?_; (try clear hx0 hx1 hx2 hx3 hx4 hf0 hf1 hf2 hf3 hf4); (try clear hc1 hf1 hc2 hf2); clear HS H; intro t w' A c HS H; (try dsimp only at H)) | ((with_reducible refine gC 61 rfl ?_); refine sJ 61 rfl Try.func61 (stX HS).yE H (fun t hr hc => az.calls _ _ _ _ _ _ _ _ _ t _ hr hc) ?_; (try clear hx0 hx1 hx2 hx3 hx4 hf0 hf1 hf2 hf3 hf4); (try clear hc1 hf1 hc2 hf2); clear HS H; intro t w' A c HS H; (try dsimp only at H)))
 all_goals first
  | (have h_ := H.out; simp only [Option.some.injEq, Prod.mk.injEq] at h_; obtain ⟨rfl, rfl, rfl⟩ := h_; go_ret; exact (stT HS).lC (.head _))
  | (have h_ := H.out; simp only [Option.some.injEq, Prod.mk.injEq] at h_; obtain ⟨rfl, rfl, rfl⟩ := h_; go_ret; exact St.KP (stX HS))
end Go.Proofs.Ytlenihbmafkegaa.Q
end
section
set_option linter.unusedVariables false
set_option linter.unusedSimpArgs false
namespace Go.Proofs.Ytlenihbmafkegaa.Q
open Go Go.RowKit Go.Proofs.YtlenihbmafkegaaW.PrintWords Go.Proofs.YtlenihbmafkegaaW.PrintLast Go.Proofs.YtlenihbmafkegaaW.PrintMore
attribute [local go_sem] pM pK pJ pI
set_option maxHeartbeats 8000000 in
set_option maxRecDepth 100000 in
theorem FY (F : Fam) (HF : kD F) (k : Nat) (g : Nat) (s0 : List S56) (s1 : Int) (s2 : Bool) (r : List S40) (e1 : Int) (e2 : Bool) (w0 w : World) (hI : Rd 72 w0 w g s0 s1 s2) (hB : Below w0.heap.size w0 w) (h : aZ.f F k s0 s1 s2 = some (r, e1, e2)) :
 Calls Try.prog 85 #[.pointer (some ⟨g, 0, none⟩)] w (Back 72 w0 w g s0 e1 e2 (IsL w r)) := by
 unfold aZ.f at h
 have HS := St.new (T := 72) (by decide) hI hB
 have H := ae.mk h
 clear h hI hB
 go_enter Try.func85, Try.ntmps85
 go_wp2_with (first | ((with_reducible refine bI (N := 7) rfl ?_); (with_reducible refine gC 83 rfl ?_); refine sL 83 rfl Try.func83 (stT HS) H (fun t q b hI hB h => toL (HF.expr g _ _ _ t q b w0 _ hI hB h)) ?_; clear HS H; intro te q b w' Ae ce HS H; (try dsimp only at H); have hc2 := HS.rd.cell2; cases b <;> (try simp only [if_true, if_false, eq_self, Bool.false_eq_true, Bool.not_true, Bool.not_false] at H); rotate_left; (cases k; exact absurd H.out (by simp [aZ.j0]); simp only [aZ.j0, if_true, if_false, eq_self, Bool.false_eq_true, Bool.not_true, Bool.not_false] at H); rotate_left) | (go_at_call 75; refine cX (stT HS) H (fun t q b hI hB => bC.calls g _ _ _ t q b w0 _ hI hB) ?_; clear HS H; intro t1 q b w' HS H; (try dsimp only at H); (cases k; exact absurd H.out (by simp [aZ.j0]); simp only [aZ.j0] at H); rcases tS t1 ([61] : List UInt8) with ⟨c, cb1, cn1⟩ | ⟨c, cb1, cn1⟩ <;> (simp only [cn1, if_true, if_false, eq_self, Bool.false_eq_true] at H; clear c); refine JW.h ?_; rotate_left) | ((with_reducible refine gC 56 rfl ?_); refine sU 56 rfl Try.func56 (stT HS) H (fun q b hI hB => aC.calls g _ _ _ _ q b w0 _ hI hB) ?_; clear HS H; intro q b w' HS H; (try dsimp only at H)) | ((with_reducible refine bI (N := 22) rfl ?_); refine oC (N := 22) (stT HS) (by first | (go_simp; done) | (go_simp; rfl)) ?_; clear HS; intro A c w' HS) | ((with_reducible refine gC 61 rfl ?_); refine sJ 61 rfl Try.func61 (stT HS) H (fun t hr hc => az.calls _ _ _ _ _ _ _ _ _ t _ hr hc) ?_; clear HS H; intro t w' A c HS H; (try dsimp only at H)))
 all_goals first
  | (have h_ := H.out; simp only [Option.some.injEq, Prod.mk.injEq] at h_; obtain ⟨rfl, rfl, rfl⟩ := h_; go_ret; exact (stT HS).lC (.head _))
  | skip
 refine ⟨?_⟩
 by_cases c1 : 0 < (te.length : Int)
 rotate_left
 ·exact absurd (hE c1 H).out (by simp)
 replace H := hI c1 H
 obtain ⟨ad, rfl, hx0, hx2⟩ := HS.node (.head _) c1
 have q3 := eq_true c1
 have qi := eq_true (show 0 < te.length by omega)
 clear c1
 rcases nS (au te 0).f0 21 with ⟨c2, c2b, c2n⟩ | ⟨c2, c2b, c2n⟩
 ·replace H := hI c2 H
  clear c2
  go_wp2_with (first | ((with_reducible refine gC 56 rfl ?_); refine sU 56 rfl Try.func56 (stT HS) H (fun q b hI hB => aC.calls g _ _ _ _ q b w0 _ hI hB) ?_; clear HS H; intro q b w' HS H; (try dsimp only at H); obtain ⟨hx0, hx2⟩ := HS.NL (.head _) q3) | ((with_reducible refine gC 82 rfl ?_); refine sL 82 rfl Try.func82 (stT HS) H (fun t q b hI hB h => xJ F HF _ g _ _ _ _ _ _ _ _ t q b w0 _ hI hB h) ?_; clear HS H; intro t q b w' A c HS H; (try dsimp only at H)))
  have h_ := H.out; simp only [Option.some.injEq, Prod.mk.injEq] at h_; obtain ⟨rfl, rfl, rfl⟩ := h_
  go_ret
  exact (stT HS).lC (.head _)
 replace H := hE c2 H
 clear c2
 rcases nS (au te 0).f0 26 with ⟨c3, c3b, c3n⟩ | ⟨c3, c3b, c3n⟩
 rotate_left
 ·replace H := hE c3 H
  clear c3
  have hc2 := HS.rd.cell2
  have hf2 := HS.rd.fro 2
  go_wp2
  have h_ := H.out; simp only [Option.some.injEq, Prod.mk.injEq] at h_; obtain ⟨rfl, rfl, rfl⟩ := h_
  go_ret
  exact (stT HS).KP
 replace H := hI c3 H
 clear c3
 go_wp2_with (first | ((with_reducible refine bI (N := 52) rfl ?_); (with_reducible refine gC 56 rfl ?_); refine sU 56 rfl Try.func56 (stT HS) H (fun q b hI hB => aC.calls g _ _ _ _ q b w0 _ hI hB) ?_; clear HS H; intro q b w' HS H; (try dsimp only at H); skip) | ((with_reducible refine gC 56 rfl ?_); refine sU 56 rfl Try.func56 (stT HS) H (fun q b hI hB => aC.calls g _ _ _ _ q b w0 _ hI hB) ?_; clear HS H; intro q b w' HS H; (try dsimp only at H)) | ((with_reducible refine gC 83 rfl ?_); refine sL 83 rfl Try.func83 (stT HS) H (fun t q b hI hB h => toL (HF.expr g _ _ _ t q b w0 _ hI hB h)) ?_; clear HS H; intro t q b w' A c HS H; (try dsimp only at H)) | ((with_reducible refine gC 18 rfl ?_); refine sI2 18 rfl Try.func18 (stT HS) H (l := te) (by repeat (first | exact .head _ | apply List.Mem.tail)) (fun t hn hr hc => bU.calls _ _ _ _ _ t _ hr hc) ?_; clear HS H; intro ti w' Ai ci HS HC H; (try dsimp only at H); have HS0 := HS; clear HS; have HS := St.new HS0.t HS0.rd HS0.below))
 (try simp only [Act.put, List.setIfInBounds_toArray, List.set_cons_zero, List.set_cons_succ])
 have hk := HS.keep
 replace HC := (Kd.aI (HS0.ints (by decide) HC hk)).2.2
 replace HS := (HS0.step hk HS.rd HS.below).push (dK HS0.keep) (HS.o _ (.head _))
 clear hk HS0
 by_cases c5 : 1 < (ti.length : Int)
 rotate_left
 ·exact absurd H.out (by simp [c5])
 replace H := hI (show 0 < (ti.length : Int) by omega) H
 have q5 := eq_true c5
 have q6 := eq_true (show 0 < (ti.length : Int) by omega)
 have q7 := eq_true (show 1 < ti.length by omega)
 have q8 := eq_true (show 0 < ti.length by omega)
 obtain ⟨ai, rfl, hy0⟩ := Kd.lK HC 0 (by omega) (by omega)
 obtain ⟨ai', e2, hy1⟩ := Kd.lK HC 1 (by omega) (by omega)
 obtain rfl : ai = ai' := by injection e2
 (try rw [show (0 : Int).toNat = 0 from rfl, Addr.add_zero'] at hy0)
 (try simp only [show (1 : Int).toNat = 1 from rfl, Nat.reduceMul, Nat.reduceEqDiff, Go.Addr.add, ↓reduceIte] at hy1)
 clear c5 HC e2
 go_region_held3 (fun w' => w'.cell? ai = some (.int .i64 (rd ti 0)) ∧ w'.cell? ⟨ai.block, ai.off + 1, none⟩ = some (.int .i64 (rd ti 1))) (first | exact ⟨hy0, hy1⟩ | go_keep) (first | (go_at_call 25; refine cS (stT HS) H (l := te) (by repeat (first | exact .head _ | apply List.Mem.tail)) (fun t hn hr hc => fM.calls _ _ _ _ _ t _ hr hc) ?_; clear HS H; intro t w' A c HS hb H; (try dsimp only at H); (try replace H := hI (of_eq_true q5) H); have y0 := (hb.cell (World.block_lt_of_cell? _ _ hy0)).trans hy0; have y1 := (hb.cell (World.block_lt_of_cell? _ _ hy1)).trans hy1; clear hy0 hy1 hb; have hy0 := y0; have hy1 := y1; clear y0 y1) | (go_at_call 61; refine cJ (stT HS).NM H (fun t hr hc => az.calls _ _ _ _ _ _ _ _ _ t _ hr hc) ?_; clear HS H; intro t w' A c HS hb H; (try dsimp only at H); have y0 := (hb.cell (World.block_lt_of_cell? _ _ (DW hy0))).trans (DW hy0); have y1 := (hb.cell (World.block_lt_of_cell? _ _ (DW hy1))).trans (DW hy1); clear hy0 hy1 hb; have hy0 := y0; have hy1 := y1; clear y0 y1))
 go_wp2
 have h_ := H.out; simp only [Option.some.injEq, Prod.mk.injEq] at h_; obtain ⟨rfl, rfl, rfl⟩ := h_
 go_ret
 exact (stT HS).lC (.head _)
end Go.Proofs.Ytlenihbmafkegaa.Q
end
section
set_option linter.unusedVariables false
set_option linter.unusedSimpArgs false
namespace Go.Proofs.Ytlenihbmafkegaa.Q
open Go Go.RowKit Go.Proofs.YtlenihbmafkegaaW.PrintWords Go.Proofs.YtlenihbmafkegaaW.PrintLast Go.Proofs.YtlenihbmafkegaaW.PrintMore
attribute [local go_sem] pM pK pJ pI
set_option maxHeartbeats 8000000 in
set_option maxRecDepth 100000 in
theorem Jb (F : Fam) (HF : kD F) (k : Nat) (g : Nat) (s0 : List S56) (s1 : Int) (s2 : Bool) (r : List S40) (e1 : Int) (e2 : Bool) (w0 w : World) (hI : Rd 72 w0 w g s0 s1 s2) (hB : Below w0.heap.size w0 w) (h : ay.f F k s0 s1 s2 = some (r, e1, e2)) :
 Calls Try.prog 81 #[.pointer (some ⟨g, 0, none⟩)] w (Back 72 w0 w g s0 e1 e2 (IsL w r)) := by
 unfold ay.f at h
 have HS := St.new (T := 72) (by decide) hI hB
 have H := ae.mk h
 clear h hI hB
 go_enter Try.func81, Try.ntmps81
 go_wp2_with (first | ((with_reducible refine gC 75 rfl ?_); refine sS 75 rfl Try.func75 (stT HS) H (fun t q b hI hB => bC.calls g _ _ _ t q b w0 _ hI hB) ?_; clear HS H; intro t q b w' HS H; (try dsimp only at H); rcases tS t ([108, 101, 116] : List UInt8) with ⟨c, cb1, cn1⟩ | ⟨c, cb1, cn1⟩; replace H := hI c H; clear c; rotate_left; replace H := hE c H; clear c; rcases tS t ([105, 102] : List UInt8) with ⟨c, cb2, cn2⟩ | ⟨c, cb2, cn2⟩; replace H := hI c H; clear c; rotate_left; replace H := hE c H; clear c; rcases tS t ([119, 104, 105, 108, 101] : List UInt8) with ⟨c, cb3, cn3⟩ | ⟨c, cb3, cn3⟩; replace H := hI c H; clear c; rotate_left; replace H := hE c H; clear c; rcases tS t ([98, 114, 101, 97, 107] : List UInt8) with ⟨c, cb4, cn4⟩ | ⟨c, cb4, cn4⟩; replace H := hI c H; clear c; (try replace H := hE (by decide) H); rcases k with _ | k; exact absurd H.out (by simp [ay.j0]); simp only [ay.j0] at H; (try replace H := hE (by decide) H); rotate_left; replace H := hE c H; clear c; rcases tS t ([99, 111, 110, 116, 105, 110, 117, 101] : List UInt8) with ⟨c, cb5, cn5⟩ | ⟨c, cb5, cn5⟩; replace H := hI c H; clear c; (try replace H := hI rfl H); rcases k with _ | k; exact absurd H.out (by simp [ay.j0]); simp only [ay.j0] at H; (try replace H := hE (by decide) H); rotate_left; replace H := hE c H; clear c; rcases tS t ([121, 105, 101, 108, 100] : List UInt8) with ⟨c, cb6, cn6⟩ | ⟨c, cb6, cn6⟩; replace H := hI c H; clear c; rcases k with _ | k; exact absurd H.out (by simp [ay.j0]); simp only [ay.j0] at H; (try replace H := hI rfl H); rotate_left; replace H := hE c H; clear c; rcases tS t ([114, 101, 116, 117, 114, 110] : List UInt8) with ⟨c, cb7, cn7⟩ | ⟨c, cb7, cn7⟩; replace H := hI c H; clear c; rcases k with _ | k; exact absurd H.out (by simp [ay.j1]); simp only [ay.j1] at H; (try replace H := hE (by decide) H); rotate_left; replace H := hE c H; clear c; rcases tS t ([112, 117, 116] : List UInt8) with ⟨c, cb8, cn8⟩ | ⟨c, cb8, cn8⟩; replace H := hI c H; clear c; rcases k with _ | k; exact absurd H.out (by simp [ay.j1]); simp only [ay.j1] at H; (try replace H := hE (by decide) H); rotate_left; replace H := hE c H; clear c; rcases tS t ([101, 109, 105, 116] : List UInt8) with ⟨c, cb9, cn9⟩ | ⟨c, cb9, cn9⟩; replace H := hI c H; clear c; rcases k with _ | k; exact absurd H.out (by simp [ay.j1]); simp only [ay.j1] at H; (try replace H := hE (by decide) H); rotate_left; replace H := hE c H; clear c; rcases k with _ | k; exact absurd H.out (by simp [ay.j1]); simp only [ay.j1] at H; (try replace H := hI rfl H)) | ((with_reducible refine bI (N := 53) rfl ?_); (with_reducible refine gC 58 rfl ?_); refine sB 58 rfl Try.func58 (stT HS) H (fun t q b hI hB => aH.calls g _ _ _ _ t q b w0 _ hI hB) ?_; clear HS H; intro t q b w' HS H; (try dsimp only at H); cases t <;> (try simp only [if_true, if_false, eq_self, Bool.false_eq_true, Bool.not_true, Bool.not_false] at H)) | ((with_reducible refine gC 58 rfl ?_); refine sB 58 rfl Try.func58 (stT HS) H (fun t q b hI hB => aH.calls g _ _ _ _ t q b w0 _ hI hB) ?_; clear HS H; intro t q b w' HS H; (try dsimp only at H)) | ((with_reducible refine gC 57 rfl ?_); refine sN 57 rfl Try.func57 (stT HS) H (fun t1 t2 t3 t4 q b hI hB => bD.calls g _ _ _ _ t1 t2 t3 t4 q b w0 _ hI hB) ?_; clear HS H; intro t1 t2 t3 t4 q b w' HS H; (try dsimp only at H)) | ((with_reducible refine gC 56 rfl ?_); refine sU 56 rfl Try.func56 (stT HS) H (fun q b hI hB => aC.calls g _ _ _ _ q b w0 _ hI hB) ?_; clear HS H; intro q b w' HS H; (try dsimp only at H)) | ((with_reducible refine gC 83 rfl ?_); refine sL 83 rfl Try.func83 (stT HS) H (fun t q b hI hB h => toL (HF.expr g _ _ _ t q b w0 _ hI hB h)) ?_; clear HS H; intro t q b w' A c HS H; (try dsimp only at H)) | ((with_reducible refine gC 78 rfl ?_); refine sL 78 rfl Try.func78 (stT HS) H (fun t q b hI hB h => toL (HF.block g _ _ _ t q b w0 _ hI hB h)) ?_; clear HS H; intro t q b w' A c HS H; (try dsimp only at H)) | ((with_reducible refine gC 82 rfl ?_); refine sL 82 rfl Try.func82 (stT HS) H (fun t q b hI hB h => xJ F HF _ g _ _ _ _ _ _ _ _ t q b w0 _ hI hB h) ?_; clear HS H; intro t q b w' A c HS H; (try dsimp only at H)) | ((with_reducible refine gC 84 rfl ?_); refine sL 84 rfl Try.func84 (stT HS) H (fun t q b hI hB h => Jf _ g _ _ _ _ t q b w0 _ hI hB h) ?_; clear HS H; intro t q b w' A c HS H; (try dsimp only at H)) | ((with_reducible refine gC 85 rfl ?_); refine sL 85 rfl Try.func85 (stT HS) H (fun t q b hI hB h => FY F HF _ g _ _ _ t q b w0 _ hI hB h) ?_; clear HS H; intro t q b w' A c HS H; (try dsimp only at H)) | ((with_reducible refine bI (N := 46) rfl ?_); refine oC (N := 46) (stT HS) (by first | (go_simp; done) | (go_simp; rfl)) ?_; clear HS; intro A c w' HS; replace H := hB H; (try dsimp only at H)) | ((with_reducible refine bI (N := 50) rfl ?_); refine oC (N := 50) (stT HS) (by first | (go_simp; done) | (go_simp; rfl)) ?_; clear HS; intro A c w' HS) | ((with_reducible refine dR (b := .append) (xs := #[.tmp 47, .tmp 50]) rfl ?_); at_builtin; refine zo (N := 51) (.tmp 47) (.tmp 50) rfl Try.underlying86 info22 (stT HS) rfl rfl H ?_; clear HS H; intro A c w' HS H; (try replace H := hB H); (try dsimp only at H)) | ((with_reducible refine bI (N := 57) rfl ?_); refine oC (N := 57) (stT HS) (by first | (go_simp; done) | (go_simp; rfl)) ?_; clear HS; intro A c w' HS) | ((with_reducible refine dR (b := .append) (xs := #[.tmp 54, .tmp 57]) rfl ?_); at_builtin; refine zo (N := 58) (.tmp 54) (.tmp 57) rfl Try.underlying86 info22 (stT HS) rfl rfl H ?_; clear HS H; intro A c w' HS H; (try replace H := hB H); (try dsimp only at H)) | ((with_reducible refine bI (N := 71) rfl ?_); refine GL (N := 71) (stT HS) (by first | (go_simp; done) | (go_simp; rfl)) ?_; clear HS; intro A c w' HS) | ((with_reducible refine gC 61 rfl ?_); refine sJ 61 rfl Try.func61 (stT HS) H (fun t hr hc => az.calls _ _ _ _ _ _ _ _ _ t _ hr hc) ?_; clear HS H; intro t w' A c HS H; (try dsimp only at H)))
 all_goals
  have h_ := H.out; simp only [Option.some.injEq, Prod.mk.injEq] at h_; obtain ⟨rfl, rfl, rfl⟩ := h_
  go_ret
  exact (stT HS).lC (.head _)
end Go.Proofs.Ytlenihbmafkegaa.Q
end
section
set_option linter.unusedVariables false
set_option linter.unusedSimpArgs false
namespace Go.Proofs.Ytlenihbmafkegaa.Q
open Go Go.RowKit Go.Proofs.YtlenihbmafkegaaW.PrintWords Go.Proofs.YtlenihbmafkegaaW.PrintLast Go.Proofs.YtlenihbmafkegaaW.PrintMore
attribute [local go_sem] pM pK pJ pI
set_option maxHeartbeats 8000000 in
set_option maxRecDepth 100000 in
theorem zX (F : Fam) (HF : kD F) (k : Nat) (g : Nat) (s0 : List S56) (s1 : Int) (s2 : Bool) (r : List S40) (e1 : Int) (e2 : Bool) (w0 w : World) (hI : Rd 72 w0 w g s0 s1 s2) (hB : Below w0.heap.size w0 w) (h : aN.f F k s0 s1 s2 = some (r, e1, e2)) :
 Calls Try.prog 78 #[.pointer (some ⟨g, 0, none⟩)] w (Back 72 w0 w g s0 e1 e2 (IsL w r)) := by
 unfold aN.f at h
 have HS := St.new (T := 72) (by decide) hI hB
 have H := ae.mk h
 clear h hI hB
 go_enter Try.func78, Try.ntmps78
 go_wp2_with (first | ((with_reducible refine gC 56 rfl ?_); refine sU 56 rfl Try.func56 (stT HS) H (fun q b hI hB => aC.calls g _ _ _ _ q b w0 _ hI hB) ?_; clear HS H; intro q b w' HS H; (try dsimp only at H)))
 (try simp only [Act.put, List.setIfInBounds_toArray, List.set_cons_zero, List.set_cons_succ])
 go_loopg [3] k (fun kq v3 w' => ∃ (x3 : List (List S40)) (p : Int) (d : Bool) (A : Option Addr) (c : Nat), v3 = .slice A x3.length c ∧ ae (aN.l0 F kq x3 s0 p d = some (r, e1, e2)) ∧ ae (kq ≤ k) ∧ St 72 w0 w w' g s0 p d [] [(.slice A x3.length c, x3)] ⟨[], []⟩)
 case atStart => exact ⟨[], _, _, none, 0, rfl, H, ⟨Nat.le_refl _⟩, (stT HS).clear.yE⟩
 case round =>
  clear HS H
  obtain ⟨x3, p, d, A, c, rfl, H, HK1, HS⟩ := hrel
  cases gk with
  | zero => exact absurd H.out (by simp [aN.l0])
  | succ k1 =>
   simp only [aN.l0] at H
   have hc2 := HS.rd.cell2
   all_goals
    cases d <;> (try simp only [if_true, if_false, eq_self, Bool.false_eq_true, Bool.not_true, Bool.not_false] at H)
   all_goals go_wp2_with (first | (go_at_call 75; refine cX (stT HS) H (fun t q b hI hB => bC.calls g _ _ _ t q b w0 _ hI hB) ?_; clear HS H; intro t q b w' HS H; (try dsimp only at H); rcases tS t ([125] : List UInt8) with ⟨c, cb1, cn1⟩ | ⟨c, cb1, cn1⟩; replace H := hI c H; clear c; rotate_left; replace H := hE c H; clear c) | ((with_reducible refine gC 56 rfl ?_); refine sU 56 rfl Try.func56 (stT HS) H (fun q b hI hB => aC.calls g _ _ _ _ q b w0 _ hI hB) ?_; clear HS H; intro q b w' HS H; (try dsimp only at H)) | ((with_reducible refine gC 81 rfl ?_); refine sL 81 rfl Try.func81 (stT HS) H (fun t q b hI hB h => Jb F HF _ g _ _ _ t q b w0 _ hI hB h) ?_; clear HS H; intro t q b w' A c HS H; (try dsimp only at H)) | ((with_reducible refine bI (N := 19) rfl ?_); refine oC (N := 19) (stT HS) (by first | (go_simp; done) | (go_simp; rfl)) ?_; clear HS; intro A c w' HS) | ((with_reducible refine dR (b := .append) (xs := #[.tmp 16, .tmp 19]) rfl ?_); at_builtin; refine zo (N := 20) (.tmp 16) (.tmp 19) rfl Try.underlying86 info22 (stT HS) rfl rfl H ?_; clear HS H; intro A c w' HS H; (try replace H := hB H); (try dsimp only at H)) | ((with_reducible refine gC 61 rfl ?_); refine sJ 61 rfl Try.func61 (stT HS) H (fun t hr hc => az.calls _ _ _ _ _ _ _ _ _ t _ hr hc) ?_; clear HS H; intro t w' A c HS H; (try dsimp only at H)))
   all_goals first
    | (go_roundg k1; (case measure => have := HK1.out; omega); (case rel => exact ⟨_, _, _, _, _, by first | rfl | simp, H, ⟨by have := HK1.out; omega⟩, stT HS⟩))
    | (have h_ := H.out; simp only [Option.some.injEq, Prod.mk.injEq] at h_; obtain ⟨rfl, rfl, rfl⟩ := h_; go_ret; exact (stT HS).lC (.head _))
theorem aN.calls (F : Fam) (HF : kD F) (k : Nat) (g : Nat) (s0 : List S56) (s1 : Int) (s2 : Bool) (r1 : List S40) (r2 : Int) (r3 : Bool) (w0 w : World) (hI : bf w0 w g s0 s1 s2) (hB : Below w0.heap.size w0 w) (h : aN.f F k s0 s1 s2 = some (r1, r2, r3)) : Reads 78 #[] g s0 r1 r2 r3 w0 w :=
 ofL (zX F HF k g s0 s1 s2 r1 r2 r3 w0 w hI hB h)
end Go.Proofs.Ytlenihbmafkegaa.Q
end
section
namespace Go.Proofs.Ytlenihbmafkegaa.Q
open Go.RowKit Go.Proofs.YtlenihbmafkegaaW.PrintWords Go.Proofs.YtlenihbmafkegaaW.PrintLast Go.Proofs.YtlenihbmafkegaaW.PrintMore
attribute [local go_sem] jH jG jF jE dC dA dP dO cZ cO dB dw
set_option linter.unusedVariables false
set_option linter.unusedSimpArgs false
/-! ### dZ: function 95 -/
mutual
def dZ.l0 : Nat → List (List (S40)) → List (S56) → Int → Bool → Option ((List (List (S40))) × Int × Bool)
 | 0, _, _, _, _ => none
 | k + 1, x5, x1000, x1001, x1002 => if x1002 = true then (dZ.j1 k x5 false x1000 x1001 x1002) else ((bC.f x1000 x1001 x1002).bind fun bt527 => (dZ.j1 k x5 (bt527.1.toList != ([41] : List UInt8)) x1000 bt527.2.1 bt527.2.2))
def dZ.j1 : Nat → List (List (S40)) → Bool → List (S56) → Int → Bool → Option ((List (List (S40))) × Int × Bool)
 | 0, _, _, _, _, _ => none
 | k + 1, x5, x17, x1000, x1001, x1002 => if x17 = true then (if (x5.length : Int) > 0 then ((aC.f x1000 x1001 x1002 (⟨#[44]⟩ : ByteArray)).bind fun bt532 => ((dF.f k x1000 bt532.1 bt532.2).bind fun bt534 => (if x5.length < 5864062014805 then (dZ.l0 k (x5 ++ [bt534.1]) x1000 bt534.2.1 bt534.2.2) else (none)))) else ((dF.f k x1000 x1001 x1002).bind fun bt542 => (if x5.length < 5864062014805 then (dZ.l0 k (x5 ++ [bt542.1]) x1000 bt542.2.1 bt542.2.2) else (none)))) else ((aC.f x1000 x1001 x1002 (⟨#[41]⟩ : ByteArray)).bind fun bt530 => (some (x5, bt530.1, bt530.2)))
end
def dZ.f (k : Nat) (s0_0 : List (S56)) (s0_1 : Int) (s0_2 : Bool) : Option ((List (List (S40))) × Int × Bool) := (aC.f s0_0 s0_1 s0_2 (⟨#[40]⟩ : ByteArray)).bind fun bt525 => (dZ.l0 k ([] : List (List (S40))) s0_0 bt525.1 bt525.2)
theorem dZ.cu : ∀ k, (∀ y0 y1 y2 y3, LeO (dZ.l0 k y0 y1 y2 y3) (dZ.l0 (k + 1) y0 y1 y2 y3)) ∧ (∀ y0 y1 y2 y3 y4, LeO (dZ.j1 k y0 y1 y2 y3 y4) (dZ.j1 (k + 1) y0 y1 y2 y3 y4))
 | 0 => ⟨fun _ _ _ _ r h => by simp [dZ.l0] at h, fun _ _ _ _ _ r h => by simp [dZ.j1] at h⟩
 | k + 1 => by
  obtain ⟨ih0, ih1⟩ := dZ.cu k
  refine ⟨?_, ?_⟩
  ·intro y0 y1 y2 y3
   unfold dZ.l0
   have m0 := dF.mono
   exact yL
  intro y0 y1 y2 y3 y4
  unfold dZ.j1
  have m0 := dF.mono
  exact yL
theorem dZ.mono : ∀ a0 a1 a2 k, LeO (dZ.f k a0 a1 a2) (dZ.f (k + 1) a0 a1 a2) := by
 intro a0 a1 a2 k
 obtain ⟨ih0, ih1⟩ := dZ.cu k
 unfold dZ.f
 have m0 := dF.mono
 exact yL
end Go.Proofs.Ytlenihbmafkegaa.Q
end
section
set_option linter.unusedVariables false
set_option linter.unusedSimpArgs false
namespace Go.Proofs.Ytlenihbmafkegaa.Q
open Go Go.RowKit Go.Proofs.YtlenihbmafkegaaW.PrintWords Go.Proofs.YtlenihbmafkegaaW.PrintLast Go.Proofs.YtlenihbmafkegaaW.PrintMore
attribute [local go_sem] pM pK pJ pI
set_option maxHeartbeats 8000000 in
set_option maxRecDepth 100000 in
theorem Gf (k : Nat) (g : Nat) (s0 : List S56) (s1 : Int) (s2 : Bool) (r : List (List S40)) (e1 : Int) (e2 : Bool) (w0 w : World) (hI : Rd 72 w0 w g s0 s1 s2) (hB : Below w0.heap.size w0 w) (h : dZ.f k s0 s1 s2 = some (r, e1, e2)) :
 Calls Try.prog 76 #[.pointer (some ⟨g, 0, none⟩), .func (.func 77) #[.pointer (some ⟨g, 0, none⟩)] #[]] w (Back 72 w0 w g s0 e1 e2 (IsK w g r)) := by
 unfold dZ.f at h
 have HS := St.new (T := 72) (by decide) hI hB
 have H := ae.mk h
 clear h hI hB
 go_enter Try.func76, Try.ntmps76
 go_wp2_with (first | ((with_reducible refine gC 56 rfl ?_); refine sU 56 rfl Try.func56 (stT HS) H (fun q b hI hB => aC.calls g _ _ _ _ q b w0 _ hI hB) ?_; clear HS H; intro q b w' HS H; (try dsimp only at H)))
 (try simp only [Act.put, List.setIfInBounds_toArray, List.set_cons_zero, List.set_cons_succ])
 go_loopg [5] k (fun kq v3 w' => ∃ (x3 : List (List S40)) (p : Int) (d : Bool) (A : Option Addr) (c : Nat), v3 = .slice A x3.length c ∧ ae (dZ.l0 kq x3 s0 p d = some (r, e1, e2)) ∧ ae (kq ≤ k) ∧ St 72 w0 w w' g s0 p d [] [(.slice A x3.length c, x3)] ⟨[], []⟩)
 case atStart => exact ⟨[], _, _, none, 0, rfl, H, ⟨Nat.le_refl _⟩, (stT HS).clear.yE⟩
 case round =>
  clear HS H
  obtain ⟨x3, p, d, A, c, rfl, H, HK1, HS⟩ := hrel
  cases gk with
  | zero => exact absurd H.out (by simp [dZ.l0])
  | succ k1 =>
   simp only [dZ.l0] at H
   cases k1 with
   | zero => exact absurd H.out (by cases d <;> simp [dZ.j1])
   | succ k2 =>
   simp only [dZ.j1] at H
   have hc2 := HS.rd.cell2
   by_cases hx : (x3.length : Int) > 0
   all_goals
    simp only [hx, if_true, if_false] at H
    first | (have hxb : decide (0 < (x3.length : Int)) = true := decide_eq_true hx; have hxc : decide (0 < x3.length) = true := decide_eq_true (by omega)) | (have hxb : decide (0 < (x3.length : Int)) = false := decide_eq_false hx; have hxc : decide (0 < x3.length) = false := decide_eq_false (by omega))
    clear hx
   all_goals
    cases d <;> (try simp only [if_true, if_false, eq_self, Bool.false_eq_true, Bool.not_true, Bool.not_false] at H)
   all_goals go_wp2_with (first | (go_at_call 75; refine cX (stT HS) H (fun t q b hI hB => bC.calls g _ _ _ t q b w0 _ hI hB) ?_; clear HS H; intro t q b w' HS H; (try dsimp only at H); rcases tS t ([41] : List UInt8) with ⟨c, cb1, cn1⟩ | ⟨c, cb1, cn1⟩ <;> (simp only [cn1, if_true, if_false, eq_self, Bool.false_eq_true] at H; clear c)) | ((with_reducible refine gC 56 rfl ?_); refine sU 56 rfl Try.func56 (stT HS) H (fun q b hI hB => aC.calls g _ _ _ _ q b w0 _ hI hB) ?_; clear HS H; intro q b w' HS H; (try dsimp only at H)) | (go_at_call 77; refine cL (stT HS) H (fun t q b hI hB h => FZ _ g _ _ _ t q b w0 _ hI hB h) ?_; clear HS H; intro t q b w' A c HS H; (try dsimp only at H)) | ((with_reducible refine bI (N := 26) rfl ?_); refine oC (N := 26) (stT HS) (by first | (go_simp; done) | (go_simp; rfl)) ?_; clear HS; intro A c w' HS) | ((with_reducible refine dR (b := .append) (xs := #[.tmp 23, .tmp 26]) rfl ?_); at_builtin; refine zo (N := 27) (.tmp 23) (.tmp 26) rfl Try.underlying86 info22 (stT HS) rfl rfl H ?_; clear HS H; intro A c w' HS H; (try replace H := hB H); (try dsimp only at H)))
   all_goals first
    | (go_roundg k2; (case measure => have := HK1.out; omega); (case rel => exact ⟨_, _, _, _, _, by first | rfl | simp, H, ⟨by have := HK1.out; omega⟩, stT HS⟩))
    | (have h_ := H.out; simp only [Option.some.injEq, Prod.mk.injEq] at h_; obtain ⟨rfl, rfl, rfl⟩ := h_; go_ret; exact (stT HS).KQ)
end Go.Proofs.Ytlenihbmafkegaa.Q
end
section
namespace Go.Proofs.Ytlenihbmafkegaa.Q
open Go.RowKit Go.Proofs.YtlenihbmafkegaaW.PrintWords Go.Proofs.YtlenihbmafkegaaW.PrintLast Go.Proofs.YtlenihbmafkegaaW.PrintMore
attribute [local go_sem] jH jG jF jE dC dA dP dO cZ cO dB dw
set_option linter.unusedVariables false
set_option linter.unusedSimpArgs false
/-! ### bg: function 60 -/
def bg.f (F : Fam) (k : Nat) (s0_0 : List (S56)) (s0_1 : Int) (s0_2 : Bool) (a1_0 : Int) (a1_1 : Int) (a1_2 : ByteArray) (a1_3 : Int) (a1_4 : ByteArray) : Option ((List (S40)) × Int × Bool) := (dZ.f k s0_0 s0_1 s0_2).bind fun bt551 => ((aN.f F k s0_0 bt551.2.1 bt551.2.2).bind fun bt556 => (if bt551.1.length < 5864062014805 then ((az.f k a1_0 a1_1 a1_2 a1_3 a1_4 (bt551.1 ++ [bt556.1])).bind fun t564 => (some (t564, bt556.2.1, bt556.2.2))) else (none)))
theorem bg.mono {F F' : Fam} (HLE : jR F F') : ∀ a0 a1 a2 a3 a4 a5 a6 a7 k, LeO (bg.f F k a0 a1 a2 a3 a4 a5 a6 a7) (bg.f F' (k + 1) a0 a1 a2 a3 a4 a5 a6 a7) := by
 intro a0 a1 a2 a3 a4 a5 a6 a7 k
 unfold bg.f
 have m0 := az.mono
 have m1 := (aN.mono HLE)
 have m2 := dZ.mono
 exact yL
def bg.T2 : Bool × List (List Nat × List Nat) := (true, [([], []), ([], []), ([], []), ([2], [2]), ([3], [3]), ([1, 4, 3], [1, 4]), ([0, 5, 5], [0, 5]), ([6, 6, 0, 1, 2, 3, 4, 5, 6], [6])])
def bg.B2 : List Nat := [0, 0, 0, 4, 12, 30, 63, 127]
theorem bg.FI : nH .any (opsOf Try.f60 2) = bg.T2 := by kernel_rfl
theorem bg.Ba : oM bg.T2.2 bg.B2 = true := by kernel_rfl
end Go.Proofs.Ytlenihbmafkegaa.Q
end
section
set_option linter.unusedVariables false
set_option linter.unusedSimpArgs false
namespace Go.Proofs.Ytlenihbmafkegaa.Q
open Go Go.RowKit Go.Proofs.YtlenihbmafkegaaW.PrintWords Go.Proofs.YtlenihbmafkegaaW.PrintLast Go.Proofs.YtlenihbmafkegaaW.PrintMore
attribute [local go_sem] pM pK pJ pI
set_option maxHeartbeats 8000000 in
set_option maxRecDepth 100000 in
theorem uG (F : Fam) (HF : kD F) (k : Nat) (g : Nat) (s0 : List S56) (s1 : Int) (s2 : Bool) (a0 : Int) (a1 : Int) (a2 : ByteArray) (a3 : Int) (a4 : ByteArray) (r : List S40) (e1 : Int) (e2 : Bool) (w0 w : World) (hI : Rd 72 w0 w g s0 s1 s2) (hB : Below w0.heap.size w0 w) (h : bg.f F k s0 s1 s2 a0 a1 a2 a3 a4 = some (r, e1, e2)) :
 Calls Try.prog 60 #[.pointer (some ⟨g, 0, none⟩), .agg #[.int .i64 a0, .int .i64 a1, .string a2, .int .i64 a3, .string a4]] w (Back 72 w0 w g s0 e1 e2 (IsL w r)) := by
 unfold bg.f at h
 have HS := St.new (T := 72) (by decide) hI hB
 have H := ae.mk h
 clear h hI hB
 go_enter Try.func60, Try.ntmps60
 go_wp2_with (first | ((with_reducible refine bI (N := 3) rfl ?_); refine boxS (N := 3) (stT HS) (by first | (go_simp; done) | (go_simp; rfl)) ?_; clear HS; intro gb w' HS hne hge; (try (have hb_ := HS.box rfl; have hx0 := (ah hb_ 0).trans rfl; have hf0 := af hb_ 0; have hx1 := (ah hb_ 1).trans rfl; have hf1 := af hb_ 1; have hx2 := (ah hb_ 2).trans rfl; have hf2 := af hb_ 2; have hx3 := (ah hb_ 3).trans rfl; have hf3 := af hb_ 3; have hx4 := (ah hb_ 4).trans rfl; have hf4 := af hb_ 4; clear hb_))) | ((with_reducible refine gC 76 rfl ?_); refine sK 76 rfl Try.func76 (stX HS) H (fun t q b hI hB h => Gf _ g _ _ _ t q b w0 _ hI hB h) ?_; (try clear hx0 hx1 hx2 hx3 hx4 hf0 hf1 hf2 hf3 hf4); clear HS H; intro t q b w' A c HS H; (try dsimp only at H); (try (have hb_ := HS.box rfl; have hx0 := (ah hb_ 0).trans rfl; have hf0 := af hb_ 0; have hx1 := (ah hb_ 1).trans rfl; have hf1 := af hb_ 1; have hx2 := (ah hb_ 2).trans rfl; have hf2 := af hb_ 2; have hx3 := (ah hb_ 3).trans rfl; have hf3 := af hb_ 3; have hx4 := (ah hb_ 4).trans rfl; have hf4 := af hb_ 4; clear hb_))))
 (try simp only [Act.put, List.setIfInBounds_toArray, List.set_cons_zero, List.set_cons_succ])
 go_region_held3 (fun w' => w'.cell? ⟨gb, 0, none⟩ = some (.int .i64 a0) ∧ w'.cell? ⟨gb, 1, none⟩ = some (.int .i64 a1) ∧ w'.cell? ⟨gb, 2, none⟩ = some (.string a2) ∧ w'.cell? ⟨gb, 3, none⟩ = some (.int .i64 a3) ∧ w'.cell? ⟨gb, 4, none⟩ = some (.string a4)) (first | exact ⟨hx0, hx1, hx2, hx3, hx4⟩ | go_keep) (first | (go_at_call 78; refine cL (stT HS) H (fun t q b hI hB h => zX F HF _ g _ _ _ t q b w0 _ hI hB h) ?_; (try clear hx0 hx1 hx2 hx3 hx4 hf0 hf1 hf2 hf3 hf4); clear HS H; intro t q b w' A c HS H; (try dsimp only at H); (try (have hb_ := HS.box rfl; have hx0 := (ah hb_ 0).trans rfl; have hf0 := af hb_ 0; have hx1 := (ah hb_ 1).trans rfl; have hf1 := af hb_ 1; have hx2 := (ah hb_ 2).trans rfl; have hf2 := af hb_ 2; have hx3 := (ah hb_ 3).trans rfl; have hf3 := af hb_ 3; have hx4 := (ah hb_ 4).trans rfl; have hf4 := af hb_ 4; clear hb_))) | (go_at_call 61; obtain rfl := hn.out; refine cJ (stT HS) H (fun t hr hc => az.calls _ _ _ _ _ _ _ _ _ t _ hr hc) ?_; (try clear hx0 hx1 hx2 hx3 hx4 hf0 hf1 hf2 hf3 hf4); clear HS H; intro t w' A c HS hb H; (try dsimp only at H); clear hb; (try (have hb_ := HS.box rfl; have hx0 := (ah hb_ 0).trans rfl; have hf0 := af hb_ 0; have hx1 := (ah hb_ 1).trans rfl; have hf1 := af hb_ 1; have hx2 := (ah hb_ 2).trans rfl; have hf2 := af hb_ 2; have hx3 := (ah hb_ 3).trans rfl; have hf3 := af hb_ 3; have hx4 := (ah hb_ 4).trans rfl; have hf4 := af hb_ 4; clear hb_))) | (refine OL (N := 15) (.tmp 11) (.tmp 14) rfl Try.underlying86 info22 HS.NP (by rfl) rfl rfl H ?_; (try clear hx0 hx1 hx2 hx3 hx4 hf0 hf1 hf2 hf3 hf4); clear HS H; intro A c w' n hn HS H; (try (have hb_ := HS.box rfl; have hx0 := (ah hb_ 0).trans rfl; have hf0 := af hb_ 0; have hx1 := (ah hb_ 1).trans rfl; have hf1 := af hb_ 1; have hx2 := (ah hb_ 2).trans rfl; have hf2 := af hb_ 2; have hx3 := (ah hb_ 3).trans rfl; have hf3 := af hb_ 3; have hx4 := (ah hb_ 4).trans rfl; have hf4 := af hb_ 4; clear hb_))))
 go_wp2
 all_goals
  have h_ := H.out; simp only [Option.some.injEq, Prod.mk.injEq] at h_; obtain ⟨rfl, rfl, rfl⟩ := h_
  go_ret
  exact (stT HS).lC (.head _)
end Go.Proofs.Ytlenihbmafkegaa.Q
end
section
namespace Go.Proofs.Ytlenihbmafkegaa.Q
open Go.RowKit Go.Proofs.YtlenihbmafkegaaW.PrintWords Go.Proofs.YtlenihbmafkegaaW.PrintLast Go.Proofs.YtlenihbmafkegaaW.PrintMore
attribute [local go_sem] jH jG jF jE dC dA dP dO cZ cO dB dw
set_option linter.unusedVariables false
set_option linter.unusedSimpArgs false
/-! ### dN: function 89 -/
def dN.f (F : Fam) (k : Nat) (s0_0 : List (S56)) (s0_1 : Int) (s0_2 : Bool) : Option ((List (S40)) × Int × Bool) := (bC.f s0_0 s0_1 s0_2).bind fun bt682 => (if bt682.1.toList = ([110, 105, 108] : List UInt8) then ((aH.f s0_0 bt682.2.1 bt682.2.2 bt682.1).bind fun bt685 => ((az.f k 18 0 (⟨#[]⟩ : ByteArray) 0 (⟨#[]⟩ : ByteArray) ([] : List (List (S40)))).bind fun t688 => (some (t688, bt685.2.1, bt685.2.2)))) else (if bt682.1.toList = ([115, 116, 97, 116, 101] : List UInt8) then ((aH.f s0_0 bt682.2.1 bt682.2.2 bt682.1).bind fun bt691 => ((az.f k 29 0 (⟨#[]⟩ : ByteArray) 0 (⟨#[]⟩ : ByteArray) ([] : List (List (S40)))).bind fun t694 => (some (t694, bt691.2.1, bt691.2.2)))) else (if bt682.1.toList = ([123] : List UInt8) then ((aH.f s0_0 bt682.2.1 bt682.2.2 bt682.1).bind fun bt697 => ((aC.f s0_0 bt697.2.1 bt697.2.2 (⟨#[125]⟩ : ByteArray)).bind fun bt700 => ((az.f k 25 0 (⟨#[]⟩ : ByteArray) 0 (⟨#[]⟩ : ByteArray) ([] : List (List (S40)))).bind fun t702 => (some (t702, bt700.1, bt700.2))))) else (if bt682.1.toList = ([102, 110] : List UInt8) then ((aH.f s0_0 bt682.2.1 bt682.2.2 bt682.1).bind fun bt705 => ((bg.f F k s0_0 bt705.2.1 bt705.2.2 24 0 (⟨#[]⟩ : ByteArray) 0 (⟨#[]⟩ : ByteArray)).bind fun bt708 => (some (bt708.1, bt708.2.1, bt708.2.2)))) else (if bt682.1.toList = ([40] : List UInt8) then ((aH.f s0_0 bt682.2.1 bt682.2.2 bt682.1).bind fun bt713 => ((iV.f F k s0_0 bt713.2.1 bt713.2.2).bind fun bt716 => ((aC.f s0_0 bt716.2.1 bt716.2.2 (⟨#[41]⟩ : ByteArray)).bind fun bt721 => (some (bt716.1, bt721.1, bt721.2))))) else ((dX.f F k s0_0 bt682.2.1 bt682.2.2).bind fun bt723 => (some (bt723.1, bt723.2.1, bt723.2.2))))))))
theorem dN.mono {F F' : Fam} (HLE : jR F F') : ∀ a0 a1 a2 k, LeO (dN.f F k a0 a1 a2) (dN.f F' (k + 1) a0 a1 a2) := by
 intro a0 a1 a2 k
 unfold dN.f
 have m0 := az.mono
 have m1 := (bg.mono HLE)
 have m2 := (dX.mono HLE)
 have m3 := (iV.mono HLE)
 exact yL
-- BY HAND: function 94 (runtime_errorString_RuntimeError)
end Go.Proofs.Ytlenihbmafkegaa.Q
end
section
set_option linter.unusedVariables false
set_option linter.unusedSimpArgs false
namespace Go.Proofs.Ytlenihbmafkegaa.Q
open Go Go.RowKit Go.Proofs.YtlenihbmafkegaaW.PrintWords Go.Proofs.YtlenihbmafkegaaW.PrintLast Go.Proofs.YtlenihbmafkegaaW.PrintMore
attribute [local go_sem] pM pK pJ pI
set_option maxHeartbeats 8000000 in
set_option maxRecDepth 100000 in
theorem Jc (F : Fam) (HF : kD F) (k : Nat) (g : Nat) (s0 : List S56) (s1 : Int) (s2 : Bool) (r : List S40) (e1 : Int) (e2 : Bool) (w0 w : World) (hI : Rd 72 w0 w g s0 s1 s2) (hB : Below w0.heap.size w0 w) (h : dN.f F k s0 s1 s2 = some (r, e1, e2)) :
 Calls Try.prog 89 #[.pointer (some ⟨g, 0, none⟩)] w (Back 72 w0 w g s0 e1 e2 (IsL w r)) := by
 unfold dN.f at h
 have HS := St.new (T := 72) (by decide) hI hB
 have H := ae.mk h
 clear h hI hB
 go_enter Try.func89, Try.ntmps89
 go_wp2_with (first | ((with_reducible refine gC 75 rfl ?_); refine sS 75 rfl Try.func75 (stT HS) H (fun t q b hI hB => bC.calls g _ _ _ t q b w0 _ hI hB) ?_; clear HS H; intro t q b w' HS H; (try dsimp only at H); rcases tS t ([110, 105, 108] : List UInt8) with ⟨c, cb1, cn1⟩ | ⟨c, cb1, cn1⟩; replace H := hI c H; clear c; rotate_left; replace H := hE c H; clear c; rcases tS t ([115, 116, 97, 116, 101] : List UInt8) with ⟨c, cb2, cn2⟩ | ⟨c, cb2, cn2⟩; replace H := hI c H; clear c; rotate_left; replace H := hE c H; clear c; rcases tS t ([123] : List UInt8) with ⟨c, cb3, cn3⟩ | ⟨c, cb3, cn3⟩; replace H := hI c H; clear c; rotate_left; replace H := hE c H; clear c; rcases tS t ([102, 110] : List UInt8) with ⟨c, cb4, cn4⟩ | ⟨c, cb4, cn4⟩; replace H := hI c H; clear c; rotate_left; replace H := hE c H; clear c; rcases tS t ([40] : List UInt8) with ⟨c, cb5, cn5⟩ | ⟨c, cb5, cn5⟩; replace H := hI c H; clear c; rotate_left; replace H := hE c H; clear c) | ((with_reducible refine gC 58 rfl ?_); refine sB 58 rfl Try.func58 (stT HS) H (fun t q b hI hB => aH.calls g _ _ _ _ t q b w0 _ hI hB) ?_; clear HS H; intro t q b w' HS H; (try dsimp only at H)) | ((with_reducible refine gC 61 rfl ?_); refine sJ 61 rfl Try.func61 (stT HS).yE H (fun t hr hc => az.calls _ _ _ _ _ _ _ _ _ t _ hr hc) ?_; clear HS H; intro t w' A c HS H; (try dsimp only at H)) | ((with_reducible refine gC 56 rfl ?_); refine sU 56 rfl Try.func56 (stT HS) H (fun q b hI hB => aC.calls g _ _ _ _ q b w0 _ hI hB) ?_; clear HS H; intro q b w' HS H; (try dsimp only at H)) | ((with_reducible refine gC 60 rfl ?_); refine sL 60 rfl Try.func60 (stT HS) H (fun t q b hI hB h => uG F HF _ g _ _ _ _ _ _ _ _ t q b w0 _ hI hB h) ?_; clear HS H; intro t q b w' A c HS H; (try dsimp only at H)) | ((with_reducible refine gC 83 rfl ?_); refine sL 83 rfl Try.func83 (stT HS) H (fun t q b hI hB h => toL (HF.expr g _ _ _ t q b w0 _ hI hB h)) ?_; clear HS H; intro t q b w' A c HS H; (try dsimp only at H)) | ((with_reducible refine gC 90 rfl ?_); refine sL 90 rfl Try.func90 (stT HS) H (fun t q b hI hB h => Jd F HF _ g _ _ _ t q b w0 _ hI hB h) ?_; clear HS H; intro t q b w' A c HS H; (try dsimp only at H)))
 all_goals
  have h_ := H.out; simp only [Option.some.injEq, Prod.mk.injEq] at h_; obtain ⟨rfl, rfl, rfl⟩ := h_
  go_ret
  exact (stT HS).lC (.head _)
end Go.Proofs.Ytlenihbmafkegaa.Q
end
section
namespace Go.Proofs.Ytlenihbmafkegaa.Q
open Go.RowKit Go.Proofs.YtlenihbmafkegaaW.PrintWords Go.Proofs.YtlenihbmafkegaaW.PrintLast Go.Proofs.YtlenihbmafkegaaW.PrintMore
attribute [local go_sem] jH jG jF jE dC dA dP dO cZ cO dB dw
set_option linter.unusedVariables false
set_option linter.unusedSimpArgs false
/-! ### ax: function 87 -/
mutual
def ax.j0 (F : Fam) : Nat → ByteArray → ByteArray → Bool → List (S56) → Int → Bool → Option ((List (S40)) × Int × Bool)
 | 0, _, _, _, _, _, _ => none
 | k + 1, x3, x8, x9, x1000, x1001, x1002 => if x9 = true then ((aH.f x1000 x1001 x1002 x3).bind fun bt731 => ((o5.f F k x1000 bt731.2.1 bt731.2.2).bind fun bt734 => ((az.f k 28 0 (⟨#[]⟩ : ByteArray) 0 x3 (([bt734.1] : List (List (S40))))).bind fun t742 => (some (t742, bt734.2.1, bt734.2.2))))) else (if x8.toList = ([115, 112, 97, 119, 110] : List UInt8) then ((aH.f x1000 x1001 x1002 x3).bind fun bt745 => ((o5.f F k x1000 bt745.2.1 bt745.2.2).bind fun bt748 => ((az.f k 30 0 (⟨#[]⟩ : ByteArray) 0 (⟨#[]⟩ : ByteArray) (([bt748.1] : List (List (S40))))).bind fun t756 => (some (t756, bt748.2.1, bt748.2.2))))) else ((dN.f F k x1000 x1001 x1002).bind fun bt759 => (ax.l0 F k bt759.1 x1000 bt759.2.1 bt759.2.2)))
def ax.l0 (F : Fam) : Nat → List (S40) → List (S56) → Int → Bool → Option ((List (S40)) × Int × Bool)
 | 0, _, _, _, _ => none
 | k + 1, x4, x1000, x1001, x1002 => if x1002 = true then (some (x4, x1001, x1002)) else ((bC.f x1000 x1001 x1002).bind fun bt764 => (if bt764.1.toList = ([40] : List UInt8) then ((some (([x4] : List (List (S40))) : List (List (S40)))).bind fun y767 => ((fA.f F k x1000 bt764.2.1 bt764.2.2).bind fun bt770 => (if y767.length + bt770.1.length < 5864062014805 then ((az.f k 22 0 (⟨#[]⟩ : ByteArray) 0 (⟨#[]⟩ : ByteArray) (y767 ++ bt770.1)).bind fun t778 => (ax.l0 F k t778 x1000 bt770.2.1 bt770.2.2)) else (none)))) else (if bt764.1.toList = ([91] : List UInt8) then ((aH.f x1000 bt764.2.1 bt764.2.2 (⟨#[91]⟩ : ByteArray)).bind fun bt781 => ((iV.f F k x1000 bt781.2.1 bt781.2.2).bind fun bt784 => ((az.f k 26 0 (⟨#[]⟩ : ByteArray) 0 (⟨#[]⟩ : ByteArray) (([x4, bt784.1] : List (List (S40))))).bind fun t792 => ((aC.f x1000 bt784.2.1 bt784.2.2 (⟨#[93]⟩ : ByteArray)).bind fun bt795 => (ax.l0 F k t792 x1000 bt795.1 bt795.2))))) else (some (x4, bt764.2.1, bt764.2.2)))))
end
def ax.f (F : Fam) (k : Nat) (s0_0 : List (S56)) (s0_1 : Int) (s0_2 : Bool) : Option ((List (S40)) × Int × Bool) := (bC.f s0_0 s0_1 s0_2).bind fun bt728 => (if bt728.1.toList = ([45] : List UInt8) then (ax.j0 F k bt728.1 bt728.1 (bt728.1.toList == ([45] : List UInt8)) s0_0 bt728.2.1 bt728.2.2) else (if bt728.1.toList = ([110, 111, 116] : List UInt8) then (ax.j0 F k bt728.1 bt728.1 (bt728.1.toList == ([110, 111, 116] : List UInt8)) s0_0 bt728.2.1 bt728.2.2) else (ax.j0 F k bt728.1 bt728.1 (bt728.1.toList == ([108, 101, 110] : List UInt8)) s0_0 bt728.2.1 bt728.2.2)))
theorem ax.cu {F F' : Fam} (HLE : jR F F') : ∀ k, (∀ y0 y1 y2 y3 y4 y5, LeO (ax.j0 F k y0 y1 y2 y3 y4 y5) (ax.j0 F' (k + 1) y0 y1 y2 y3 y4 y5)) ∧ (∀ y0 y1 y2 y3, LeO (ax.l0 F k y0 y1 y2 y3) (ax.l0 F' (k + 1) y0 y1 y2 y3))
 | 0 => ⟨fun _ _ _ _ _ _ r h => by simp [ax.j0] at h, fun _ _ _ _ r h => by simp [ax.l0] at h⟩
 | k + 1 => by
  obtain ⟨ih0, ih1⟩ := ax.cu HLE k
  refine ⟨?_, ?_⟩
  ·intro y0 y1 y2 y3 y4 y5
   unfold ax.j0
   have m0 := az.mono
   have m1 := (dN.mono HLE)
   have m2 := (fA.mono HLE)
   have m3 := (iV.mono HLE)
   have m4 := (o5.mono HLE)
   exact yL
  intro y0 y1 y2 y3
  unfold ax.l0
  have m0 := az.mono
  have m1 := (dN.mono HLE)
  have m2 := (fA.mono HLE)
  have m3 := (iV.mono HLE)
  have m4 := (o5.mono HLE)
  exact yL
theorem ax.mono {F F' : Fam} (HLE : jR F F') : ∀ a0 a1 a2 k, LeO (ax.f F k a0 a1 a2) (ax.f F' (k + 1) a0 a1 a2) := by
 intro a0 a1 a2 k
 obtain ⟨ih0, ih1⟩ := ax.cu HLE k
 unfold ax.f
 have m0 := az.mono
 have m1 := (dN.mono HLE)
 have m2 := (fA.mono HLE)
 have m3 := (iV.mono HLE)
 have m4 := (o5.mono HLE)
 exact yL
end Go.Proofs.Ytlenihbmafkegaa.Q
end
