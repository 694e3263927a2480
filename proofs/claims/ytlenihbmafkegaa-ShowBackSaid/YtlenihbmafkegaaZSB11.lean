/- Walks over functions of the program, words for them, and what the functions come to; of each text only what this claim uses; no condition. -/
import Derived.Test.YtlenihbmafkegaaZSB0
import Derived.Test.YtlenihbmafkegaaZSB1
import Derived.Test.YtlenihbmafkegaaZSB3
import Derived.Test.YtlenihbmafkegaaZSB7
import Derived.Test.YtlenihbmafkegaaZSB8
import Derived.Test.YtlenihbmafkegaaZSB9
import Derived.Test.YtlenihbmafkegaaZSB10
section
set_option linter.unusedVariables false
set_option linter.unusedSimpArgs false
namespace Go.Proofs.Ytlenihbmafkegaa.Q
open Go Go.RowKit Go.Proofs.YtlenihbmafkegaaW.PrintWords Go.Proofs.YtlenihbmafkegaaW.PrintLast Go.Proofs.YtlenihbmafkegaaW.PrintMore
def lM : List S40 := [⟨1, 1, ⟨#[109]⟩, 1, ⟨#[]⟩⟩, ⟨3, 1, ⟨#[102]⟩, 0, ⟨#[]⟩⟩, ⟨5, 1, ⟨#[]⟩, 0, ⟨#[]⟩⟩, ⟨13, 1, ⟨#[]⟩, 0, ⟨#[]⟩⟩]
def zn : Array Value := #[.int .i64 1, .int .i64 1, .string ⟨#[109]⟩, .int .i64 1, .string ⟨#[]⟩, .int .i64 3, .int .i64 1, .string ⟨#[102]⟩, .int .i64 0, .string ⟨#[]⟩, .int .i64 5, .int .i64 1, .string ⟨#[]⟩, .int .i64 0, .string ⟨#[]⟩, .int .i64 13, .int .i64 1, .string ⟨#[]⟩, .int .i64 0, .string ⟨#[]⟩]
def kJ.f (k : Nat) (l0 : List S40) : Option ByteArray :=
 (fH.f k l0 0).bind fun e => if e.length = 0 then some ⟨#[]⟩ else (fD.f (ak e 0).f0).bind fun b => if b = true ∧ e.length ≤ 1000000000000 then (aK.f k (lM ++ e)).bind fun c => if c.1 = 0 then (l9 k e 0 []).bind fun t => dG.f k t else none else none
theorem kJ.mono (a0 : List S40) (k : Nat) : LeO (kJ.f k a0) (kJ.f (k + 1) a0) := by
 unfold kJ.f
 repeat' first
 | exact fH.mono _ _ k
 | exact aK.mono _ k
 | exact dG.mono _ k
 | exact yS k _ _ _
 | exact LeO.refl _
 | refine LeO.ite ?_ ?_
 | refine LeO.bind ?_ (fun _ => ?_)
theorem JQ (W : World) : Kd.R k40 40 (W.alloc (.cells zn 40)) W.heap.size (fun k => k = W.heap.size) (.slice (some ⟨W.heap.size, 0, none⟩) 4 4) lM := by
 have hrep : dR (k40.M W W.heap.size fun _ => False) k40.sz lM zn.toList := by
  have h := fun (x : S40) => tq W W.heap.size (fun _ => False) x
  refine dR.snoc (ps := [_, _, _]) (dR.snoc (ps := [_, _]) (dR.snoc (ps := [_]) (dR.snoc (ps := []) (dR.none _ _) (h ⟨1, 1, ⟨#[109]⟩, 1, ⟨#[]⟩⟩) rfl) (h ⟨3, 1, ⟨#[102]⟩, 0, ⟨#[]⟩⟩) rfl) (h ⟨5, 1, ⟨#[]⟩, 0, ⟨#[]⟩⟩) rfl) (h ⟨13, 1, ⟨#[]⟩, 0, ⟨#[]⟩⟩) rfl
 exact NQ k40 (e := 40) hrep (fun _ h => h.elim) rfl (Nat.le_refl _) (by decide)
section
variable {P : Program} {ops : Array Oper} {Q : Exit → Act → World → Prop} {w0 w W : World} {base : Nat} {e : List S40} {v : Value}
 {rest : List Oper} {oi : Oper} {a : Act}
theorem OD {N : Tmp} (hrun : (execOp a.eval oi).run P W = .ok (.value (.slice (some ⟨W.heap.size, 0, none⟩) 4 4)) (W.alloc (.cells zn 40)))
 (HE : Kd.R k40 40 W base (fun _ => True) v e) (HB : Below base w0 W) (hbase : base ≤ W.heap.size)
 (h : ∀ b w', Kd.R k40 40 w' base (fun k => k ≠ b) v e → Kd.R k40 40 w' base (fun k => k = b) (.slice (some ⟨b, 0, none⟩) 4 4) lM → Below base w0 w' → base ≤ w'.heap.size → wpList P ops Q rest (a.put (some N) (.slice (some ⟨b, 0, none⟩) 4 4)) w')
 (hd : oi.dst = some N := by rfl) (hg : oi.guard = none := by rfl) : wpList P ops Q (oi :: rest) a W := by
 refine Kd.ut hg hrun ?_
 rw [hd]
 refine h _ _ (Kd.jP (Kd.fG (Kd.lg HE) (fun k hk => by have := hk.2.2.1; omega)) _) (Kd.eU (JQ W) hbase) (HB.alloc hbase _) (Nat.le_trans hbase (eY (Below.refl _ _) _).size)
theorem OQ {N : Tmp} (x y : Operand) {b m c : Nat} {A : Option Addr} (ho : oi.op = .call { callee := .builtin .append, args := #[x, y], argTypes := #[22, 22] })
 (ht : P.underlying 22 = some (.slice 40)) (hinfo : (P.info? 40).map (fun i => (i.zero, i.size, i.bytes)) = some (some (.agg #[.int .i64 0, .int .i64 0, .string ⟨#[]⟩, .int .i64 0, .string ⟨#[]⟩]), 5, 56))
 (HE : Kd.R k40 40 W base (fun k => k ≠ b) (.slice A m c) e) (HA : Kd.R k40 40 W base (fun k => k = b) (.slice (some ⟨b, 0, none⟩) 4 4) lM) (HB : Below base w0 W) (hbase : base ≤ W.heap.size) (hl : e.length ≤ 1000000000000) (hx : a.eval x = .slice (some ⟨b, 0, none⟩) 4 4) (hy : a.eval y = .slice A m c)
 (h : ∀ A' n' c' w', n' = (lM ++ e).length → Kd.R k40 40 w' base (fun _ => True) (.slice A' n' c') (lM ++ e) → Kd.R k40 40 w' base (fun _ => True) (.slice A m c) e → Below base w0 w' → wpList P ops Q rest (a.put (some N) (.slice A' n' c')) w')
 (hd : oi.dst = some N := by rfl) (hg : oi.guard = none := by rfl) : wpList P ops Q (oi :: rest) a W := by
 have hm : m = e.length := (Kd.bG HE).1
 subst hm
 refine Kd.iW k40 (Rr := k40.K W) base hg x y 22 40 _ 56 ho ht hinfo (by rfl) (by decide) (by decide) _ lM e A e.length c (fun k => k = b ∨ W.heap.size ≤ k) (fun _ => False) hx hy (Kd.fG HA (fun _ h => .inl h)) (Kd.bG HE).2.2 (fun z cs hz => by rw [Ad hz]; exact tq _ _ _ z) (fun _ h => h.elim) (fun _ h => .inr h) HB hbase (by simp only [lM, List.length_cons, List.length_nil]; omega) ?_
 intro v1 w1 hr hb hgr _
 obtain ⟨A', c', rfl⟩ := Kd.dL hr
 rw [hd]
 exact h A' _ c' w1 rfl (Kd.fG hr (fun _ _ => trivial)) (Kd.fG (Kd.JU HE hgr (fun k hk e => hk (by simpa [Value.ownBlock] using e))) (fun _ _ => trivial)) hb
end
set_option maxHeartbeats 8000000 in
set_option maxRecDepth 100000 in
theorem kJ.calls (k : Nat) (A0 : Option Addr) (c0 : Nat) (l0 : List S40) (r : ByteArray) (w : World) (hr0 : Kd.C k40 w A0 l0.length l0) (hc0 : l0.length ≤ c0) (h : kJ.f k l0 = some r) :
 Calls Try.prog 14 #[.slice A0 l0.length c0] w fun e w' => e = .returned (.string r) ∧ Below w.heap.size w w' := by
 unfold kJ.f at h
 obtain ⟨e, he, h⟩ := Option.bind_eq_some_iff.mp h
 have AP := ae.mk he
 have HC := ae.mk hr0
 have HL := ae.mk hc0
 have hu52 := Try.underlying52
 clear he hr0 hc0
 by_cases c : e.length = 0
 ·rw [if_pos c] at h
  cases h
  obtain rfl : e = [] := List.eq_nil_of_length_eq_zero c
  clear c
  go_enter Try.func14, Try.ntmps14
  go_wp2_with (first
   | ((with_reducible refine gC 25 rfl ?_); refine gM 25 9 rfl Try.func25 (fH.calls k _ _ l0 0 _ _ HC.out HL.out AP.out) ?_; rintro _ w1 ⟨v, rfl, ho, hb⟩; obtain ⟨A1, c1, rfl⟩ := Kd.dL ho; refine ⟨_, rfl, ?_⟩; have HB1 := ae.mk hb; clear hb ho)
   | (go_at_call 25; refine (fH.calls k _ _ l0 0 _ _ HC.out HL.out AP.out).mono ?_; rintro _ w1 ⟨v, rfl, ho, hb⟩; obtain ⟨A1, c1, rfl⟩ := Kd.dL ho; have HB1 := ae.mk hb; clear hb ho))
  go_ret
  exact ⟨rfl, HB1.out⟩
 rw [if_neg c] at h
 obtain ⟨b, hb, h⟩ := Option.bind_eq_some_iff.mp h
 by_cases c2 : b = true ∧ e.length ≤ 1000000000000
 rotate_left
 ·rw [if_neg c2] at h; cases h
 rw [if_pos c2] at h
 obtain ⟨rfl, hle⟩ := c2
 obtain ⟨⟨p1, p2⟩, hp, h⟩ := Option.bind_eq_some_iff.mp h
 dsimp only at h
 by_cases c3 : p1 = 0
 rotate_left
 ·rw [if_neg c3] at h; cases h
 rw [if_pos c3] at h
 subst c3
 obtain ⟨t, ht, h⟩ := Option.bind_eq_some_iff.mp h
 have AE := ae.mk hb
 have AC := ae.mk hp
 have AT := ae.mk ht
 have AX := ae.mk h
 have HLE := ae.mk hle
 clear hb hp ht h hle
 have q1 := eq_true (show 0 < e.length by omega)
 have q2 := eq_false (show ¬ (e.length = 0) by omega)
 have q3 : ((e.length : Int) == 0) = false := beq_eq_false_iff_ne.mpr (by omega)
 have q4 := eq_true (show (0 : Int) < (e.length : Int) by omega)
 clear c
 go_enter Try.func14, Try.ntmps14
 have HSub : ae (∀ w', Below w.heap.size w w' → Calls Try.prog 25 #[.slice A0 l0.length c0, .int .i64 0] w' fun e_ w'' => ∃ A1 c1 ad, e_ = .returned (.slice A1 e.length c1) ∧ A1 = some ad ∧ w''.cell? ad = some (.int .i64 (ak e 0).f0) ∧ ae (Kd.R k40 40 w'' w'.heap.size (fun _ => True) (.slice A1 e.length c1) e) ∧ Below w'.heap.size w' w'') := ⟨fun w' hb => (fH.calls k _ _ l0 0 _ _ (Kd.gX HC.out hb) HL.out AP.out).mono (fun e_ w'' ⟨v, h1, ho, h2⟩ => by
  obtain ⟨A1, c1, rfl⟩ := Kd.dL ho
  obtain ⟨ad, h3, h4, _⟩ := iV (Kd.bG ho).2.2 0 (by omega) (of_eq_true q4)
  refine ⟨A1, c1, ad, h1, h3, ?_, ⟨ho⟩, h2⟩
  rwa [show (0 : Int).toNat * 5 = 0 from rfl, Addr.add_zero'] at h4)⟩
 have HB := ae.mk (Below.refl w.heap.size w)
 go_wp2_with (first | ((with_reducible refine gC 25 rfl ?_); refine gM 25 9 rfl Try.func25 (HSub.out _ HB.out) ?_; rintro _ w1 ⟨A1, c1, ad, rfl, rfl, hx, HE1, hb⟩; refine ⟨_, rfl, ?_⟩; have HE := ae.mk (Kd.eU HE1.out (HB.out.size)); have HB1 := ae.mk (aj HB.out hb); clear HE1 hb HB; have HB := HB1; clear HB1) | (go_at_call 25; refine (HSub.out _ HB.out).mono ?_; rintro _ w1 ⟨A1, c1, ad, rfl, rfl, hx, HE1, hb⟩; have HE := ae.mk (Kd.eU HE1.out (HB.out.size)); have HB1 := ae.mk (aj HB.out hb); clear HE1 hb HB; have HB := HB1; clear HB1) | (go_at_call 26; refine (fD.calls _ true _ AE.out).mono ?_; rintro _ w7 ⟨rfl, ⟨nd, rfl⟩⟩) | ((with_reducible refine bF (N := 25) rfl ?_); refine OD (N := 25) (by first | (go_simp; done) | (go_simp; rfl)) (qR HE) (bT HB) (bT HB).size ?_; clear HE HB hx; intro b w2 HE HA HB hbs) | ((with_reducible refine dO (b := .append) (xs := #[.tmp 27, .tmp 28]) rfl ?_); at_builtin; refine OQ (N := 29) (.tmp 27) (.tmp 28) rfl Try.underlying22 yO HE HA HB hbs HLE.out rfl rfl ?_; clear HE HA HB hbs; intro A' n' c' w3 hn HX HE HB; have hn := ae.mk hn) | ((with_reducible refine gC 8 rfl ?_); obtain rfl := hn.out; refine gM 8 30 rfl Try.func8 (aK.calls k _ _ (lM ++ e) 0 p2 _ (Kd.bG HX).2.2 (Kd.bG HX).2.1 AC.out) ?_; rintro _ w4 ⟨rfl, hb⟩; refine ⟨_, rfl, ?_⟩; have HB1 := ae.mk (aj HB hb); have HE1 := ae.mk (Kd.dN HE hb); clear hb HB HE HX; have HB := HB1; have HE := HE1; clear HB1 HE1) | ((with_reducible refine bF (N := 37) rfl ?_); refine dS ?hg (N := 37) ?hd (cs := #[.slice (some ad) e.length c1, .slice none 0 0]) (t := 52) ?hr ?_; (case hd => rfl); (case hg => rfl); (case hr => first | (go_simp; done) | (go_simp; rfl)); intro g hg w5 hbox hb; have HB2 := ae.mk hb; have HI := ae.mk (show Wr w4 w5 g e [] from ⟨_, c1, _, hbox, by rw [hg]; exact Nat.le_refl _, (Kd.bG HE.out).2.2, (Kd.bG HE.out).2.1, Kd.pJ _ _ _ _ _⟩); clear hbox hb hg) | (go_at_call 22; refine (tK k g e [] 0 t w4 _ HI.out HB2.out AT.out).mono ?_; rintro _ w6 ⟨rfl, hi, hb, hk⟩; obtain ⟨A5, c5, v, HV⟩ := hi; obtain ⟨A6, c6, rfl⟩ := Kd.dL HV.2.2.2.2; have hc1 := HV.g1; have HO := ae.mk HV.2.2.2.2; have HB3 := ae.mk (aj HB.out hb); clear hb hk HV HB2 HI HB) | ((with_reducible refine gC 22 rfl ?_); refine gM 22 39 rfl Try.func22 (tK k g e [] 0 t w4 _ HI.out HB2.out AT.out) ?_; rintro _ w6 ⟨rfl, hi, hb, hk⟩; refine ⟨_, rfl, ?_⟩; obtain ⟨A5, c5, v, HV⟩ := hi; obtain ⟨A6, c6, rfl⟩ := Kd.dL HV.2.2.2.2; have hc1 := HV.g1; have HO := ae.mk HV.2.2.2.2; have HB3 := ae.mk (aj HB.out hb); clear hb hk HV HB2 HI HB) | (go_at_call 15; refine (dG.calls k _ _ t r _ (Kd.bG HO.out).2.2 (Kd.bG HO.out).2.1 AX.out).mono ?_; rintro _ w8 ⟨rfl, hb⟩; have HB4 := ae.mk (aj HB3.out hb); clear hb) | ((with_reducible refine gC 15 rfl ?_); refine gM 15 44 rfl Try.func15 (dG.calls k _ _ t r _ (Kd.bG HO.out).2.2 (Kd.bG HO.out).2.1 AX.out) ?_; rintro _ w8 ⟨rfl, hb⟩; refine ⟨_, rfl, ?_⟩; have HB4 := ae.mk (aj HB3.out hb); clear hb))
 go_ret
 exact ⟨rfl, HB4.out⟩
end Go.Proofs.Ytlenihbmafkegaa.Q
end
section
namespace Go.Proofs.Ytlenihbmafkegaa.Q
open Go.RowKit Go.Proofs.YtlenihbmafkegaaW.PrintWords Go.Proofs.YtlenihbmafkegaaW.PrintLast Go.Proofs.YtlenihbmafkegaaW.PrintMore
attribute [local go_sem] df cO dI dH bV bU cZ cu
set_option linter.unusedVariables false
set_option linter.unusedSimpArgs false
/-! ### dA: function 7 -/
def dA.f (k : Nat) (l0 : List (S40)) : Option (ByteArray × Int × Int) := (iw.f k l0).bind fun bt212 => (if bt212.2.1 = 0 then ((dG.f k bt212.1).bind fun t217 => (if (t217.size : Int) > 8192 then (some ((⟨#[]⟩ : ByteArray), 3, 0)) else (some (t217, 0, 0)))) else (some ((⟨#[]⟩ : ByteArray), bt212.2.1, bt212.2.2)))
theorem dA.mono : ∀ a0 k, LeO (dA.f k a0) (dA.f (k + 1) a0) := by
 intro a0 k
 unfold dA.f
 have m0 := dG.mono
 have m1 := iw.mono
 exact yL
set_option maxHeartbeats 8000000 in
set_option maxRecDepth 100000 in
theorem dA.calls (k : Nat) (A0 : Option Addr) (c0 : Nat) (l0 : List (S40)) (r1 : ByteArray) (r2 : Int) (r3 : Int) (w : World) (hr0 : Kd.C k40 w A0 l0.length l0) (hc0 : l0.length ≤ c0) (h : dA.f k l0 = some (r1, r2, r3)) :
 Calls Try.prog 7 #[.slice A0 l0.length c0] w fun e w' => e = .returned (.tuple #[.string r1, .int .i64 r2, .int .i64 r3]) ∧ Below w.heap.size w w' := by
 have HR0 := ae.mk hr0
 have HC0 := ae.mk hc0
 clear hr0 hc0
 have HB := ae.mk (Below.refl w.heap.size w)
 have H := h
 clear h
 unfold dA.f at H
 revert H
 refine yB3 fun t212 t213 t214 A2 H => ?_
 try dsimp only at H
 revert H
 refine bu (fun c3b0 c3b1 H => ?_) fun c3 c3b0 c3b1 H => ?_
 ·revert H
  refine yB1 fun t217 A4 H => ?_
  revert H
  refine gG (fun c5 H => ?_) fun c5 H => ?_
  ·have c5b0 : decide (8192 < (t217.size : Int)) = true := decide_eq_true c5
   have c5b1 : decide (8192 < t217.size) = true := decide_eq_true (by omega)
   clear c5
   simp only [Option.some.injEq, Prod.mk.injEq] at H
   obtain ⟨rfl, rfl, rfl⟩ := H
   go_enter Try.func7, Try.ntmps7
   go_wp2_with (first | ((with_reducible refine gC 11 rfl ?_); refine gM 11 11 rfl Try.func11 (iw.calls k _ _ l0 t212 t213 t214 _ Z1 HC0.out A2.out) ?_; rintro _ w6 ⟨v215, rfl, ho0, hb⟩; refine ⟨_, rfl, yA2 (Kd.eU ho0 (aX (bT HB))) (aj (bT HB) hb) ?_⟩; clear HB hb ho0; intro HO216 HB; obtain ⟨Ao7, co7, rfl⟩ := Kd.dL HO216.out) | ((with_reducible refine gC 15 rfl ?_); refine gM 15 20 rfl Try.func15 (dG.calls k _ _ t212 t217 _ (by repeat (first | exact (Kd.bG HO216.out).2.2 | (with_reducible refine Kd.gQ ?_ _) | (with_reducible refine Kd.gK ?_ _) | (with_reducible refine Kd.iY ?_))) ((Kd.bG HO216.out).2.1) A4.out) ?_; rintro _ w8 ⟨rfl, hb⟩; refine ⟨_, rfl, yA2 (Kd.dN (qR HO216) hb) (aj (bT HB) hb) ?_⟩; clear HO216 HB hb; intro HO216 HB))
   go_ret3
   exact ⟨eT, bT HB⟩
  have c5b0 : decide (8192 < (t217.size : Int)) = false := decide_eq_false c5
  have c5b1 : decide (8192 < t217.size) = false := decide_eq_false (by omega)
  clear c5
  simp only [Option.some.injEq, Prod.mk.injEq] at H
  obtain ⟨rfl, rfl, rfl⟩ := H
  go_enter Try.func7, Try.ntmps7
  go_wp2_with (first | ((with_reducible refine gC 11 rfl ?_); refine gM 11 11 rfl Try.func11 (iw.calls k _ _ l0 t212 t213 t214 _ Z1 HC0.out A2.out) ?_; rintro _ w9 ⟨v215, rfl, ho0, hb⟩; refine ⟨_, rfl, yA2 (Kd.eU ho0 (aX (bT HB))) (aj (bT HB) hb) ?_⟩; clear HB hb ho0; intro HO216 HB; obtain ⟨Ao10, co10, rfl⟩ := Kd.dL HO216.out) | ((with_reducible refine gC 15 rfl ?_); refine gM 15 20 rfl Try.func15 (dG.calls k _ _ t212 t217 _ (by repeat (first | exact (Kd.bG HO216.out).2.2 | (with_reducible refine Kd.gQ ?_ _) | (with_reducible refine Kd.gK ?_ _) | (with_reducible refine Kd.iY ?_))) ((Kd.bG HO216.out).2.1) A4.out) ?_; rintro _ w11 ⟨rfl, hb⟩; refine ⟨_, rfl, yA2 (Kd.dN (qR HO216) hb) (aj (bT HB) hb) ?_⟩; clear HO216 HB hb; intro HO216 HB))
  go_ret3
  exact ⟨eT, bT HB⟩
 simp only [Option.some.injEq, Prod.mk.injEq] at H
 obtain ⟨rfl, rfl, rfl⟩ := H
 go_enter Try.func7, Try.ntmps7
 go_wp2_with (first | ((with_reducible refine gC 11 rfl ?_); refine gM 11 11 rfl Try.func11 (iw.calls k _ _ l0 t212 t213 t214 _ Z1 HC0.out A2.out) ?_; rintro _ w12 ⟨v215, rfl, ho0, hb⟩; refine ⟨_, rfl, yA2 (Kd.eU ho0 (aX (bT HB))) (aj (bT HB) hb) ?_⟩; clear HB hb ho0; intro HO216 HB))
 go_ret3
 exact ⟨eT, bT HB⟩
-- BY HAND: function 23 (lex_pass)
end Go.Proofs.Ytlenihbmafkegaa.Q
end
section
namespace Go.Proofs.Ytlenihbmafkegaa.Q
open Go.RowKit Go.Proofs.YtlenihbmafkegaaW.PrintWords Go.Proofs.YtlenihbmafkegaaW.PrintLast Go.Proofs.YtlenihbmafkegaaW.PrintMore
attribute [local go_sem] df cO dI dH bV bU cZ cu
set_option linter.unusedVariables false
set_option linter.unusedSimpArgs false
/-! ### dW: function 9 -/
def dW.f (k : Nat) (a0 : ByteArray) : Option ((List (S40)) × Int × Int) := (dZ.f k a0).bind fun bt830 => (if bt830.2.1 = 0 then ((iq.f k bt830.1).bind fun bt835 => (some (bt835.1, bt835.2.1, bt835.2.2))) else (some (([] : List (S40)), bt830.2.1, bt830.2.2)))
theorem dW.mono : ∀ a0 k, LeO (dW.f k a0) (dW.f (k + 1) a0) := by
 intro a0 k
 unfold dW.f
 have m0 := dZ.mono
 have m1 := iq.mono
 exact yL
set_option maxHeartbeats 8000000 in
set_option maxRecDepth 100000 in
theorem dW.calls (k : Nat) (a0 : ByteArray) (r1 : List (S40)) (r2 : Int) (r3 : Int) (w : World) (h : dW.f k a0 = some (r1, r2, r3)) :
 Calls Try.prog 9 #[.string a0] w fun e w' => ∃ v0_ : Value, e = .returned (.tuple #[v0_, .int .i64 r2, .int .i64 r3]) ∧ Kd.R k40 40 w' w.heap.size (fun _ => True) v0_ r1 ∧ Below w.heap.size w w' := by
 have HB := ae.mk (Below.refl w.heap.size w)
 have H := h
 clear h
 unfold dW.f at H
 revert H
 refine yB3 fun t830 t831 t832 A2 H => ?_
 try dsimp only at H
 revert H
 refine bu (fun c3b0 c3b1 H => ?_) fun c3 c3b0 c3b1 H => ?_
 ·revert H
  refine yB3 fun t835 t836 t837 A4 H => ?_
  try dsimp only at H
  simp only [Option.some.injEq, Prod.mk.injEq] at H
  obtain ⟨rfl, rfl, rfl⟩ := H
  go_enter Try.func9, Try.ntmps9
  go_wp2_with (first | ((with_reducible refine gC 12 rfl ?_); refine gM 12 10 rfl Try.func12 (dZ.calls k a0 t830 t831 t832 _ A2.out) ?_; rintro _ w5 ⟨v833, rfl, ho0, hb⟩; refine ⟨_, rfl, yA2 (Kd.eU ho0 (aX (bT HB))) (aj (bT HB) hb) ?_⟩; clear HB hb ho0; intro HO834 HB; obtain ⟨Ao6, co6, rfl⟩ := Kd.dL HO834.out) | ((with_reducible refine gC 21 rfl ?_); refine gM 21 19 rfl Try.func21 (iq.calls k _ _ t830 t835 t836 t837 _ (by repeat (first | exact (Kd.bG HO834.out).2.2 | (with_reducible refine Kd.gQ ?_ _) | (with_reducible refine Kd.gK ?_ _) | (with_reducible refine Kd.iY ?_))) ((Kd.bG HO834.out).2.1) A4.out) ?_; rintro _ w7 ⟨v838, rfl, ho0, hb⟩; refine ⟨_, rfl, yA3 (Kd.dN (qR HO834) hb) (Kd.eU ho0 (aX (bT HB))) (aj (bT HB) hb) ?_⟩; clear HO834 HB hb ho0; intro HO834 HO839 HB))
  go_ret3
  exact ⟨_, eT, qR HO839, bT HB⟩
 simp only [Option.some.injEq, Prod.mk.injEq] at H
 obtain ⟨rfl, rfl, rfl⟩ := H
 go_enter Try.func9, Try.ntmps9
 go_wp2_with (first | ((with_reducible refine gC 12 rfl ?_); refine gM 12 10 rfl Try.func12 (dZ.calls k a0 t830 t831 t832 _ A2.out) ?_; rintro _ w8 ⟨v833, rfl, ho0, hb⟩; refine ⟨_, rfl, yA2 (Kd.eU ho0 (aX (bT HB))) (aj (bT HB) hb) ?_⟩; clear HB hb ho0; intro HO834 HB))
 go_ret3
 exact ⟨_, eT, Z5, bT HB⟩
-- BY HAND: function 14 (show_Expr)
/-! ### bH: function 6 -/
def bH.f (k : Nat)  : Option (Bool) := (dW.f k (⟨#[109, 111, 100, 117, 108, 101, 32, 109, 32, 49, 59, 32, 102, 110, 32, 102, 40, 97, 41, 32, 123, 32, 114, 101, 116, 117, 114, 110, 32, 97, 32, 43, 32, 49, 32, 42, 32, 50, 59, 32, 125]⟩ : ByteArray)).bind fun bt840 => ((dA.f k bt840.1).bind fun bt845 => ((dA.f k ([] : List (S40))).bind fun bt848 => (if bt840.2.1 = 0 then (if bt845.1.toList = ([109, 111, 100, 117, 108, 101, 32, 109, 32, 49, 32, 59, 32, 102, 110, 32, 102, 32, 40, 32, 97, 32, 41, 32, 123, 32, 114, 101, 116, 117, 114, 110, 32, 40, 32, 97, 32, 43, 32, 40, 32, 49, 32, 42, 32, 50, 32, 41, 32, 41, 32, 59, 32, 125] : List UInt8) then (if bt845.2.1 = 0 then (if bt848.2.1 = 2 then ((kJ.f k (([(⟨19, 0, (⟨#[]⟩ : ByteArray), 5, (⟨#[]⟩ : ByteArray)⟩ : S40)] : List (S40)))).bind fun t854 => (if t854.toList = ([53] : List UInt8) then ((kJ.f k ([] : List (S40))).bind fun t855 => (some (t855.toList == ([] : List UInt8)))) else (some false))) else (some false)) else (some false)) else (some false)) else (some false))))
theorem bH.mono : ∀ k, LeO (bH.f k ) (bH.f (k + 1) ) := by
 intro  k
 unfold bH.f
 have m0 := dW.mono
 have m1 := kJ.mono
 have m2 := dA.mono
 exact yL
set_option maxHeartbeats 8000000 in
set_option maxRecDepth 100000 in
theorem bH.calls (k : Nat)  (r : Bool) (w : World) (h : bH.f k  = some r) :
 Calls Try.prog 6 #[] w fun e w' => e = .returned (.bool r) ∧ Below w.heap.size w w' := by
 have hu40 := Try.underlying40
 have HB := ae.mk (Below.refl w.heap.size w)
 have H := h
 clear h
 unfold bH.f at H
 revert H
 refine yB3 fun t840 t841 t842 A1 H => ?_
 try dsimp only at H
 revert H
 refine yB3 fun t845 t846 t847 A2 H => ?_
 try dsimp only at H
 revert H
 refine yB3 fun t848 t849 t850 A3 H => ?_
 try dsimp only at H
 revert H
 refine bu (fun c4b0 c4b1 H => ?_) fun c4 c4b0 c4b1 H => ?_
 ·revert H
  refine bu (fun c5b0 c5b1 H => ?_) fun c5 c5b0 c5b1 H => ?_
  ·revert H
   refine bu (fun c6b0 c6b1 H => ?_) fun c6 c6b0 c6b1 H => ?_
   ·revert H
    refine bu (fun c7b0 c7b1 H => ?_) fun c7 c7b0 c7b1 H => ?_
    ·obtain ⟨y851, hy851⟩ : ∃ y_ : List (S40), y_ = (([(⟨19, 0, (⟨#[]⟩ : ByteArray), 5, (⟨#[]⟩ : ByteArray)⟩ : S40)] : List (S40))) := ⟨_, rfl⟩
     replace H : ((kJ.f k y851).bind fun t854 => (if t854.toList = ([53] : List UInt8) then ((kJ.f k ([] : List (S40))).bind fun t855 => (some (t855.toList == ([] : List UInt8)))) else (some false))) = some r := by first | (rw [hy851]; with_reducible exact H) | (have H2_ := (Option.bind_some _ _).symm.trans H; rw [hy851]; with_reducible exact H2_) | (have H2_ := (Option.bind_some _ _).symm.trans H; with_reducible exact H2_) | with_reducible exact H | (rw [hy851]; exact H) | exact H
     have Ny851 := ae.mk hy851
     clear hy851
     revert H
     refine yB1 fun t854 A8 H => ?_
     revert H
     refine bu (fun c9b0 c9b1 H => ?_) fun c9 c9b0 c9b1 H => ?_
     ·revert H
      refine yB1 fun t855 A10 H => ?_
      obtain rfl := Option.some.inj H
      go_enter Try.func6, Try.ntmps6
      go_wp2_with (first | ((with_reducible refine gC 9 rfl ?_); refine gM 9 11 rfl Try.func9 (dW.calls k (⟨#[109, 111, 100, 117, 108, 101, 32, 109, 32, 49, 59, 32, 102, 110, 32, 102, 40, 97, 41, 32, 123, 32, 114, 101, 116, 117, 114, 110, 32, 97, 32, 43, 32, 49, 32, 42, 32, 50, 59, 32, 125]⟩ : ByteArray) t840 t841 t842 _ A1.out) ?_; rintro _ w11 ⟨v843, rfl, ho0, hb⟩; refine ⟨_, rfl, yA2 (Kd.eU ho0 (aX (bT HB))) (aj (bT HB) hb) ?_⟩; clear HB hb ho0; intro HO844 HB; obtain ⟨Ao12, co12, rfl⟩ := Kd.dL HO844.out) | ((with_reducible refine gC 7 rfl ?_); refine gM 7 17 rfl Try.func7 (dA.calls k _ _ t840 t845 t846 t847 _ Z8 ((Kd.bG HO844.out).2.1) A2.out) ?_; rintro _ w13 ⟨rfl, hb⟩; refine ⟨_, rfl, yA2 (Kd.dN (qR HO844) hb) (aj (bT HB) hb) ?_⟩; clear HO844 HB hb; intro HO844 HB) | ((with_reducible refine gC 7 rfl ?_); refine gM 7 22 rfl Try.func7 (dA.calls k _ _ ([] : List (S40)) t848 t849 t850 _ (Kd.ug _ _) (Nat.le_refl _) A3.out) ?_; rintro _ w14 ⟨rfl, hb⟩; refine ⟨_, rfl, yA2 (Kd.dN (qR HO844) hb) (aj (bT HB) hb) ?_⟩; clear HO844 HB hb; intro HO844 HB) | ((with_reducible refine bF (N := 42) rfl ?_); (try (refine oQ (by rfl) ?_; dsimp only)); refine Kd.uK k40 _ 40 ?hg (N := 42) ?hd (xs := ([(⟨19, 0, (⟨#[]⟩ : ByteArray), 5, (⟨#[]⟩ : ByteArray)⟩ : S40)] : List (S40))) (inner := [.int .i64 19, .int .i64 0, .string (⟨#[]⟩ : ByteArray), .int .i64 5, .string (⟨#[]⟩ : ByteArray)]) (ok := fun _ => True) (okp := fun _ => True) ?hr ?hp (fun _ hk => hk) trivial (Below.refl _ _) (Nat.le_refl _) (by simp) ?_; (case hd => rfl); (case hg => rfl); (case hr => first | (go_simp; done) | (go_simp; rfl)); (case hp => exact (dR.c5 (show Kd.M k40 _ _ _ (⟨19, 0, (⟨#[]⟩ : ByteArray), 5, (⟨#[]⟩ : ByteArray)⟩ : S40) [.int .i64 19, .int .i64 0, .string (⟨#[]⟩ : ByteArray), .int .i64 5, .string (⟨#[]⟩ : ByteArray)] from (tq _ _ _ (⟨19, 0, (⟨#[]⟩ : ByteArray), 5, (⟨#[]⟩ : ByteArray)⟩ : S40) )) (dR.none _ _))); intro v852 w15 ho16 hb hg_ hnew_; clear hg_ hnew_; (first | rw [← Ny851.out] at ho16 | (simp only [Int.reduceToNat] at ho16; rw [← Ny851.out] at ho16)); refine yA3 (Kd.qA (qR HO844) (Kd.xh ho16) hb) (Kd.eU (Kd.xg ho16 (Kd.xy (qR HO844))) (aX (bT HB))) (aj (bT HB) hb) ?_; clear HO844 HB; intro HO844 HO853 HB; clear hb ho16; obtain ⟨Ao17, co17, rfl⟩ := Kd.dL HO853.out) | (go_at_call 14; (with_reducible refine (kJ.calls k _ _ y851 t854 _ ?side1 ?side2 A8.out).mono ?_); (case side1 => repeat (first | exact (Kd.bG HO853.out).2.2 | (with_reducible refine Kd.gQ ?_ _) | (with_reducible refine Kd.gK ?_ _) | (with_reducible refine Kd.iY ?_))); (case side2 => exact (Kd.bG HO853.out).2.1); rintro e w18 ⟨rfl, hb⟩; refine yA3 (Kd.dN (qR HO844) hb) (Kd.dN (qR HO853) hb) (aj (bT HB) hb) ?_; clear HO844 HO853 HB; intro HO844 HO853 HB; (try clear hb)) | (go_at_call 14; (refine (kJ.calls k _ _ ([] : List (S40)) t855 _ ?side1 ?side2 A10.out).mono ?_); (case side1 => exact Kd.ug _ _); (case side2 => exact Nat.le_refl _); rintro e w19 ⟨rfl, hb⟩; refine yA3 (Kd.dN (qR HO844) hb) (Kd.dN (qR HO853) hb) (aj (bT HB) hb) ?_; clear HO844 HO853 HB; intro HO844 HO853 HB; (try clear hb)))
      go_ret
      exact ⟨eT, bT HB⟩
     obtain rfl := Option.some.inj H
     go_enter Try.func6, Try.ntmps6
     go_wp2_with (first | ((with_reducible refine gC 9 rfl ?_); refine gM 9 11 rfl Try.func9 (dW.calls k (⟨#[109, 111, 100, 117, 108, 101, 32, 109, 32, 49, 59, 32, 102, 110, 32, 102, 40, 97, 41, 32, 123, 32, 114, 101, 116, 117, 114, 110, 32, 97, 32, 43, 32, 49, 32, 42, 32, 50, 59, 32, 125]⟩ : ByteArray) t840 t841 t842 _ A1.out) ?_; rintro _ w20 ⟨v843, rfl, ho0, hb⟩; refine ⟨_, rfl, yA2 (Kd.eU ho0 (aX (bT HB))) (aj (bT HB) hb) ?_⟩; clear HB hb ho0; intro HO844 HB; obtain ⟨Ao21, co21, rfl⟩ := Kd.dL HO844.out) | ((with_reducible refine gC 7 rfl ?_); refine gM 7 17 rfl Try.func7 (dA.calls k _ _ t840 t845 t846 t847 _ Z8 ((Kd.bG HO844.out).2.1) A2.out) ?_; rintro _ w22 ⟨rfl, hb⟩; refine ⟨_, rfl, yA2 (Kd.dN (qR HO844) hb) (aj (bT HB) hb) ?_⟩; clear HO844 HB hb; intro HO844 HB) | ((with_reducible refine gC 7 rfl ?_); refine gM 7 22 rfl Try.func7 (dA.calls k _ _ ([] : List (S40)) t848 t849 t850 _ (Kd.ug _ _) (Nat.le_refl _) A3.out) ?_; rintro _ w23 ⟨rfl, hb⟩; refine ⟨_, rfl, yA2 (Kd.dN (qR HO844) hb) (aj (bT HB) hb) ?_⟩; clear HO844 HB hb; intro HO844 HB) | ((with_reducible refine bF (N := 42) rfl ?_); (try (refine oQ (by rfl) ?_; dsimp only)); refine Kd.uK k40 _ 40 ?hg (N := 42) ?hd (xs := ([(⟨19, 0, (⟨#[]⟩ : ByteArray), 5, (⟨#[]⟩ : ByteArray)⟩ : S40)] : List (S40))) (inner := [.int .i64 19, .int .i64 0, .string (⟨#[]⟩ : ByteArray), .int .i64 5, .string (⟨#[]⟩ : ByteArray)]) (ok := fun _ => True) (okp := fun _ => True) ?hr ?hp (fun _ hk => hk) trivial (Below.refl _ _) (Nat.le_refl _) (by simp) ?_; (case hd => rfl); (case hg => rfl); (case hr => first | (go_simp; done) | (go_simp; rfl)); (case hp => exact (dR.c5 (show Kd.M k40 _ _ _ (⟨19, 0, (⟨#[]⟩ : ByteArray), 5, (⟨#[]⟩ : ByteArray)⟩ : S40) [.int .i64 19, .int .i64 0, .string (⟨#[]⟩ : ByteArray), .int .i64 5, .string (⟨#[]⟩ : ByteArray)] from (tq _ _ _ (⟨19, 0, (⟨#[]⟩ : ByteArray), 5, (⟨#[]⟩ : ByteArray)⟩ : S40) )) (dR.none _ _))); intro v852 w24 ho25 hb hg_ hnew_; clear hg_ hnew_; (first | rw [← Ny851.out] at ho25 | (simp only [Int.reduceToNat] at ho25; rw [← Ny851.out] at ho25)); refine yA3 (Kd.qA (qR HO844) (Kd.xh ho25) hb) (Kd.eU (Kd.xg ho25 (Kd.xy (qR HO844))) (aX (bT HB))) (aj (bT HB) hb) ?_; clear HO844 HB; intro HO844 HO853 HB; clear hb ho25; obtain ⟨Ao26, co26, rfl⟩ := Kd.dL HO853.out) | (go_at_call 14; (with_reducible refine (kJ.calls k _ _ y851 t854 _ ?side1 ?side2 A8.out).mono ?_); (case side1 => repeat (first | exact (Kd.bG HO853.out).2.2 | (with_reducible refine Kd.gQ ?_ _) | (with_reducible refine Kd.gK ?_ _) | (with_reducible refine Kd.iY ?_))); (case side2 => exact (Kd.bG HO853.out).2.1); rintro e w27 ⟨rfl, hb⟩; refine yA3 (Kd.dN (qR HO844) hb) (Kd.dN (qR HO853) hb) (aj (bT HB) hb) ?_; clear HO844 HO853 HB; intro HO844 HO853 HB; (try clear hb)))
     go_ret
     exact ⟨eT, bT HB⟩
    obtain rfl := Option.some.inj H
    go_enter Try.func6, Try.ntmps6
    go_wp2_with (first | ((with_reducible refine gC 9 rfl ?_); refine gM 9 11 rfl Try.func9 (dW.calls k (⟨#[109, 111, 100, 117, 108, 101, 32, 109, 32, 49, 59, 32, 102, 110, 32, 102, 40, 97, 41, 32, 123, 32, 114, 101, 116, 117, 114, 110, 32, 97, 32, 43, 32, 49, 32, 42, 32, 50, 59, 32, 125]⟩ : ByteArray) t840 t841 t842 _ A1.out) ?_; rintro _ w28 ⟨v843, rfl, ho0, hb⟩; refine ⟨_, rfl, yA2 (Kd.eU ho0 (aX (bT HB))) (aj (bT HB) hb) ?_⟩; clear HB hb ho0; intro HO844 HB; obtain ⟨Ao29, co29, rfl⟩ := Kd.dL HO844.out) | ((with_reducible refine gC 7 rfl ?_); refine gM 7 17 rfl Try.func7 (dA.calls k _ _ t840 t845 t846 t847 _ Z8 ((Kd.bG HO844.out).2.1) A2.out) ?_; rintro _ w30 ⟨rfl, hb⟩; refine ⟨_, rfl, yA2 (Kd.dN (qR HO844) hb) (aj (bT HB) hb) ?_⟩; clear HO844 HB hb; intro HO844 HB) | ((with_reducible refine gC 7 rfl ?_); refine gM 7 22 rfl Try.func7 (dA.calls k _ _ ([] : List (S40)) t848 t849 t850 _ (Kd.ug _ _) (Nat.le_refl _) A3.out) ?_; rintro _ w31 ⟨rfl, hb⟩; refine ⟨_, rfl, yA2 (Kd.dN (qR HO844) hb) (aj (bT HB) hb) ?_⟩; clear HO844 HB hb; intro HO844 HB))
    go_ret
    exact ⟨eT, bT HB⟩
   obtain rfl := Option.some.inj H
   go_enter Try.func6, Try.ntmps6
   go_wp2_with (first | ((with_reducible refine gC 9 rfl ?_); refine gM 9 11 rfl Try.func9 (dW.calls k (⟨#[109, 111, 100, 117, 108, 101, 32, 109, 32, 49, 59, 32, 102, 110, 32, 102, 40, 97, 41, 32, 123, 32, 114, 101, 116, 117, 114, 110, 32, 97, 32, 43, 32, 49, 32, 42, 32, 50, 59, 32, 125]⟩ : ByteArray) t840 t841 t842 _ A1.out) ?_; rintro _ w32 ⟨v843, rfl, ho0, hb⟩; refine ⟨_, rfl, yA2 (Kd.eU ho0 (aX (bT HB))) (aj (bT HB) hb) ?_⟩; clear HB hb ho0; intro HO844 HB; obtain ⟨Ao33, co33, rfl⟩ := Kd.dL HO844.out) | ((with_reducible refine gC 7 rfl ?_); refine gM 7 17 rfl Try.func7 (dA.calls k _ _ t840 t845 t846 t847 _ Z8 ((Kd.bG HO844.out).2.1) A2.out) ?_; rintro _ w34 ⟨rfl, hb⟩; refine ⟨_, rfl, yA2 (Kd.dN (qR HO844) hb) (aj (bT HB) hb) ?_⟩; clear HO844 HB hb; intro HO844 HB) | ((with_reducible refine gC 7 rfl ?_); refine gM 7 22 rfl Try.func7 (dA.calls k _ _ ([] : List (S40)) t848 t849 t850 _ (Kd.ug _ _) (Nat.le_refl _) A3.out) ?_; rintro _ w35 ⟨rfl, hb⟩; refine ⟨_, rfl, yA2 (Kd.dN (qR HO844) hb) (aj (bT HB) hb) ?_⟩; clear HO844 HB hb; intro HO844 HB))
   go_ret
   exact ⟨eT, bT HB⟩
  obtain rfl := Option.some.inj H
  go_enter Try.func6, Try.ntmps6
  go_wp2_with (first | ((with_reducible refine gC 9 rfl ?_); refine gM 9 11 rfl Try.func9 (dW.calls k (⟨#[109, 111, 100, 117, 108, 101, 32, 109, 32, 49, 59, 32, 102, 110, 32, 102, 40, 97, 41, 32, 123, 32, 114, 101, 116, 117, 114, 110, 32, 97, 32, 43, 32, 49, 32, 42, 32, 50, 59, 32, 125]⟩ : ByteArray) t840 t841 t842 _ A1.out) ?_; rintro _ w36 ⟨v843, rfl, ho0, hb⟩; refine ⟨_, rfl, yA2 (Kd.eU ho0 (aX (bT HB))) (aj (bT HB) hb) ?_⟩; clear HB hb ho0; intro HO844 HB; obtain ⟨Ao37, co37, rfl⟩ := Kd.dL HO844.out) | ((with_reducible refine gC 7 rfl ?_); refine gM 7 17 rfl Try.func7 (dA.calls k _ _ t840 t845 t846 t847 _ Z8 ((Kd.bG HO844.out).2.1) A2.out) ?_; rintro _ w38 ⟨rfl, hb⟩; refine ⟨_, rfl, yA2 (Kd.dN (qR HO844) hb) (aj (bT HB) hb) ?_⟩; clear HO844 HB hb; intro HO844 HB) | ((with_reducible refine gC 7 rfl ?_); refine gM 7 22 rfl Try.func7 (dA.calls k _ _ ([] : List (S40)) t848 t849 t850 _ (Kd.ug _ _) (Nat.le_refl _) A3.out) ?_; rintro _ w39 ⟨rfl, hb⟩; refine ⟨_, rfl, yA2 (Kd.dN (qR HO844) hb) (aj (bT HB) hb) ?_⟩; clear HO844 HB hb; intro HO844 HB))
  go_ret
  exact ⟨eT, bT HB⟩
 obtain rfl := Option.some.inj H
 go_enter Try.func6, Try.ntmps6
 go_wp2_with (first | ((with_reducible refine gC 9 rfl ?_); refine gM 9 11 rfl Try.func9 (dW.calls k (⟨#[109, 111, 100, 117, 108, 101, 32, 109, 32, 49, 59, 32, 102, 110, 32, 102, 40, 97, 41, 32, 123, 32, 114, 101, 116, 117, 114, 110, 32, 97, 32, 43, 32, 49, 32, 42, 32, 50, 59, 32, 125]⟩ : ByteArray) t840 t841 t842 _ A1.out) ?_; rintro _ w40 ⟨v843, rfl, ho0, hb⟩; refine ⟨_, rfl, yA2 (Kd.eU ho0 (aX (bT HB))) (aj (bT HB) hb) ?_⟩; clear HB hb ho0; intro HO844 HB; obtain ⟨Ao41, co41, rfl⟩ := Kd.dL HO844.out) | ((with_reducible refine gC 7 rfl ?_); refine gM 7 17 rfl Try.func7 (dA.calls k _ _ t840 t845 t846 t847 _ Z8 ((Kd.bG HO844.out).2.1) A2.out) ?_; rintro _ w42 ⟨rfl, hb⟩; refine ⟨_, rfl, yA2 (Kd.dN (qR HO844) hb) (aj (bT HB) hb) ?_⟩; clear HO844 HB hb; intro HO844 HB) | ((with_reducible refine gC 7 rfl ?_); refine gM 7 22 rfl Try.func7 (dA.calls k _ _ ([] : List (S40)) t848 t849 t850 _ (Kd.ug _ _) (Nat.le_refl _) A3.out) ?_; rintro _ w43 ⟨rfl, hb⟩; refine ⟨_, rfl, yA2 (Kd.dN (qR HO844) hb) (aj (bT HB) hb) ?_⟩; clear HO844 HB hb; intro HO844 HB))
 go_ret
 exact ⟨eT, bT HB⟩
end Go.Proofs.Ytlenihbmafkegaa.Q
end
section
namespace Go.Proofs.Ytlenihbmafkegaa.Q
open Go.RowKit Go.Proofs.YtlenihbmafkegaaW.PrintWords Go.Proofs.YtlenihbmafkegaaW.PrintLast Go.Proofs.YtlenihbmafkegaaW.PrintMore
attribute [local go_sem] df cO dI dH bV bU cZ cu
set_option linter.unusedVariables false
set_option linter.unusedSimpArgs false
/-! ### aH: function 5 -/
def aH.l0 : Nat → List (S40) → Int → Option (Bool)
 | 0, _, _ => none
 | k + 1, x0, x3 => if x3 < (x0.length : Int) then (if 0 ≤ x3 then (if (((ak x0 x3).f2).size : Int) > 2000 then (some false) else (if (((ak x0 x3).f4).size : Int) > 2000 then (some false) else (aH.l0 k x0 (wrap64 (x3 + 1))))) else (none)) else (some true)
def aH.f (k : Nat) (l0 : List (S40)) : Option (Bool) := if (l0.length : Int) > 2100 then (some false) else (aH.l0 k l0 0)
theorem aH.bW : ∀ k, (∀ y0 y1, LeO (aH.l0 k y0 y1) (aH.l0 (k + 1) y0 y1))
 | 0 => fun _ _ r h => by simp [aH.l0] at h
 | k + 1 => by
  have ih0 := aH.bW k
  intro y0 y1
  unfold aH.l0
  exact yL
theorem aH.mono : ∀ a0 k, LeO (aH.f k a0) (aH.f (k + 1) a0) := by
 intro a0 k
 have ih0 := aH.bW k
 unfold aH.f
 exact yL
set_option maxHeartbeats 8000000 in
set_option maxRecDepth 100000 in
theorem aH.calls (k : Nat) (A0 : Option Addr) (c0 : Nat) (l0 : List (S40)) (r : Bool) (w : World) (hr0 : Kd.C k40 w A0 l0.length l0) (hc0 : l0.length ≤ c0) (h : aH.f k l0 = some r) :
 Calls Try.prog 5 #[.slice A0 l0.length c0] w fun e w' => e = .returned (.bool r) ∧ dM w w' := by
 have HR0 := ae.mk hr0
 have HC0 := ae.mk hc0
 clear hr0 hc0
 have H := h
 clear h
 unfold aH.f at H
 revert H
 refine gG (fun c2 H => ?_) fun c2 H => ?_
 ·have c2b0 : decide (2100 < (l0.length : Int)) = true := decide_eq_true c2
  have c2b1 : decide (2100 < l0.length) = true := decide_eq_true (by omega)
  clear c2
  obtain rfl := Option.some.inj H
  go_enter Try.func5, Try.ntmps5
  go_wp2
  go_ret
  exact ⟨fT, Z0⟩
 have c2b0 : decide (2100 < (l0.length : Int)) = false := decide_eq_false c2
 have c2b1 : decide (2100 < l0.length) = false := decide_eq_false (by omega)
 clear c2
 have H' := ae.mk H
 clear H
 go_enter Try.func5, Try.ntmps5
 go_wp2
 go_loopg [3] k (fun kq v3 w' => ∃ (x3_1 : Int), v3 = .int .i64 x3_1 ∧ ae (aH.l0 kq l0 x3_1 = some r) ∧ ae (kq ≤ k) ∧ dM w w')
 case atStart => exact ⟨(0), fT, H', ⟨Nat.le_refl _⟩, Z0⟩
 case round =>
  clear H'
  try clear c2
  try clear c2b0
  try clear c2b1
  try clear p2
  obtain ⟨x3_1, rfl, HA, HK1, ⟨m1, rfl⟩⟩ := hrel
  cases gk with
  | zero => exact absurd HA.out (by simp [aH.l0])
  | succ k1 =>
   have H := HA.out
   clear HA
   simp only [aH.l0] at H
   revert H
   refine jT (fun c3b0 H => ?_) fun c3b0 H => ?_
   ·revert H
    refine gY (fun c4b0 H => ?_) fun c4 H => ?_
    ·revert H
     refine gG (fun c5 H => ?_) fun c5 H => ?_
     ·have c5b0 : decide (2000 < (((ak l0 x3_1).f2).size : Int)) = true := decide_eq_true c5
      have c5b1 : decide (2000 < ((ak l0 x3_1).f2).size) = true := decide_eq_true (by omega)
      clear c5
      obtain rfl := Option.some.inj H
      have p101 : 0 ≤ (x3_1 : Int) := of_decide_eq_true aT
      have q101 : x3_1 < (l0.length : Int) := of_decide_eq_true aT
      obtain ⟨ad101, e101, hx101_0, hx101_1, hx101_2, hx101_3, hx101_4⟩ := iV HR0.out x3_1 p101 q101
      cases e101
      replace p101 := eq_true p101
      replace q101 := eq_true q101
      go_wp2
      go_ret
      exact ⟨fT, Z0⟩
     have c5b0 : decide (2000 < (((ak l0 x3_1).f2).size : Int)) = false := decide_eq_false c5
     have c5b1 : decide (2000 < ((ak l0 x3_1).f2).size) = false := decide_eq_false (by omega)
     clear c5
     revert H
     refine gG (fun c6 H => ?_) fun c6 H => ?_
     ·have c6b0 : decide (2000 < (((ak l0 x3_1).f4).size : Int)) = true := decide_eq_true c6
      have c6b1 : decide (2000 < ((ak l0 x3_1).f4).size) = true := decide_eq_true (by omega)
      clear c6
      obtain rfl := Option.some.inj H
      have p101 : 0 ≤ (x3_1 : Int) := of_decide_eq_true aT
      have q101 : x3_1 < (l0.length : Int) := of_decide_eq_true aT
      obtain ⟨ad101, e101, hx101_0, hx101_1, hx101_2, hx101_3, hx101_4⟩ := iV HR0.out x3_1 p101 q101
      cases e101
      replace p101 := eq_true p101
      replace q101 := eq_true q101
      have p102 : 0 ≤ (x3_1 : Int) := of_decide_eq_true aT
      have q102 : x3_1 < (l0.length : Int) := of_decide_eq_true aT
      obtain ⟨ad102, e102, hx102_0, hx102_1, hx102_2, hx102_3, hx102_4⟩ := iV HR0.out x3_1 p102 q102
      obtain rfl : ad101 = ad102 := (by injection e102)
      replace p102 := eq_true p102
      replace q102 := eq_true q102
      go_wp2
      go_ret
      exact ⟨fT, Z0⟩
     have c6b0 : decide (2000 < (((ak l0 x3_1).f4).size : Int)) = false := decide_eq_false c6
     have c6b1 : decide (2000 < ((ak l0 x3_1).f4).size) = false := decide_eq_false (by omega)
     clear c6
     have H' := ae.mk H
     clear H
     have p101 : 0 ≤ (x3_1 : Int) := of_decide_eq_true aT
     have q101 : x3_1 < (l0.length : Int) := of_decide_eq_true aT
     obtain ⟨ad101, e101, hx101_0, hx101_1, hx101_2, hx101_3, hx101_4⟩ := iV HR0.out x3_1 p101 q101
     cases e101
     replace p101 := eq_true p101
     replace q101 := eq_true q101
     have p102 : 0 ≤ (x3_1 : Int) := of_decide_eq_true aT
     have q102 : x3_1 < (l0.length : Int) := of_decide_eq_true aT
     obtain ⟨ad102, e102, hx102_0, hx102_1, hx102_2, hx102_3, hx102_4⟩ := iV HR0.out x3_1 p102 q102
     obtain rfl : ad101 = ad102 := (by injection e102)
     replace p102 := eq_true p102
     replace q102 := eq_true q102
     go_wp2
     go_roundg k1
     case measure => have := HK1.out; omega
     case rel => exact ⟨(wrap64 (x3_1 + 1)), fT, H', ⟨by have := HK1.out; omega⟩, Z0⟩
    exact absurd H (by simp)
   obtain rfl := Option.some.inj H
   go_wp2
   go_ret
   exact ⟨fT, Z0⟩
end Go.Proofs.Ytlenihbmafkegaa.Q
end
section
namespace Go.Proofs.Ytlenihbmafkegaa.Q
open Go.RowKit Go.Proofs.YtlenihbmafkegaaW.PrintWords Go.Proofs.YtlenihbmafkegaaW.PrintLast Go.Proofs.YtlenihbmafkegaaW.PrintMore
attribute [local go_sem] df cO dI dH bV bU cZ cu
set_option linter.unusedVariables false
set_option linter.unusedSimpArgs false
theorem Og (d : Nat) (w : World) (x0 y0 : Int) (x1 y1 : Int) (x2 y2 : ByteArray) (x3 y3 : Int) (x4 y4 : ByteArray) :
 (Op.equalIn (d + 2) 40 (.agg #[.int .i64 x0, .int .i64 x1, .string x2, .int .i64 x3, .string x4]) (.agg #[.int .i64 y0, .int .i64 y1, .string y2, .int .i64 y3, .string y4])).run Try.prog w = .ok (x0 == y0 && (x1 == y1 && (x2.toList == y2.toList && (x3 == y3 && (x4.toList == y4.toList))))) w := by
 refine Nb Try.underlying40 (by kernel_rfl) ?_
 refine tV (by rfl) (by go_simp; rfl) (by go_simp; rfl) (by go_simp) ?_
 refine tV (by rfl) (by go_simp; rfl) (by go_simp; rfl) (by go_simp) ?_
 refine tV (by rfl) (by go_simp; rfl) (by go_simp; rfl) (by go_simp) ?_
 refine tV (by rfl) (by go_simp; rfl) (by go_simp; rfl) (by go_simp) ?_
 exact Hg (by rfl) (by go_simp; rfl) (by go_simp; rfl) (by go_simp)
end Go.Proofs.Ytlenihbmafkegaa.Q
end
section
namespace Go.Proofs.Ytlenihbmafkegaa.Q
open Go.RowKit Go.Proofs.YtlenihbmafkegaaW.PrintWords Go.Proofs.YtlenihbmafkegaaW.PrintLast Go.Proofs.YtlenihbmafkegaaW.PrintMore
attribute [local go_sem] df cO dI dH bV bU cZ cu
set_option linter.unusedVariables false
set_option linter.unusedSimpArgs false
attribute [local go_sem high] Og
/-! ### aU: function 10 -/
def aU.l0 : Nat → List (S40) → List (S40) → Int → Option (Bool)
 | 0, _, _, _ => none
 | k + 1, x0, x1, x5 => if x5 < (x0.length : Int) then (if 0 ≤ x5 then (if x5 < (x1.length : Int) then (if (!(((ak x0 x5).f0) == ((ak x1 x5).f0)) || (!(((ak x0 x5).f1) == ((ak x1 x5).f1)) || (!((((ak x0 x5).f2).toList) == (((ak x1 x5).f2).toList)) || (!(((ak x0 x5).f3) == ((ak x1 x5).f3)) || (!((((ak x0 x5).f4).toList) == (((ak x1 x5).f4).toList))))))) = true then (some false) else (aU.l0 k x0 x1 (wrap64 (x5 + 1)))) else (none)) else (none)) else (some true)
def aU.f (k : Nat) (l0 : List (S40)) (l1 : List (S40)) : Option (Bool) := if (l0.length : Int) = (l1.length : Int) then (aU.l0 k l0 l1 0) else (some false)
theorem aU.bW : ∀ k, (∀ y0 y1 y2, LeO (aU.l0 k y0 y1 y2) (aU.l0 (k + 1) y0 y1 y2))
 | 0 => fun _ _ _ r h => by simp [aU.l0] at h
 | k + 1 => by
  have ih0 := aU.bW k
  intro y0 y1 y2
  unfold aU.l0
  exact yL
theorem aU.mono : ∀ a0 a1 k, LeO (aU.f k a0 a1) (aU.f (k + 1) a0 a1) := by
 intro a0 a1 k
 have ih0 := aU.bW k
 unfold aU.f
 exact yL
set_option maxHeartbeats 8000000 in
set_option maxRecDepth 100000 in
theorem aU.calls (k : Nat) (A0 : Option Addr) (c0 : Nat) (l0 : List (S40)) (A1 : Option Addr) (c1 : Nat) (l1 : List (S40)) (r : Bool) (w : World) (hr0 : Kd.C k40 w A0 l0.length l0) (hc0 : l0.length ≤ c0) (hr1 : Kd.C k40 w A1 l1.length l1) (hc1 : l1.length ≤ c1) (h : aU.f k l0 l1 = some r) :
 Calls Try.prog 10 #[.slice A0 l0.length c0, .slice A1 l1.length c1] w fun e w' => e = .returned (.bool r) ∧ dM w w' := by
 have hu40 := Try.underlying40
 have HR0 := ae.mk hr0
 have HC0 := ae.mk hc0
 clear hr0 hc0
 have HR1 := ae.mk hr1
 have HC1 := ae.mk hc1
 clear hr1 hc1
 have H := h
 clear h
 unfold aU.f at H
 revert H
 refine xP (fun c3 c3b0 c3b1 H => ?_) fun c3 c3b0 c3b1 H => ?_
 ·have c3b2 : (l0.length == l1.length) = true := by first | simpa using c3 | (simp at c3 ⊢; omega)
  clear c3
  have H' := ae.mk H
  clear H
  go_enter Try.func10, Try.ntmps10
  go_wp2
  repeat (go_quiet (fail); try go_wp2)
  go_loopg [5] k (fun kq v5 w' => ∃ (x5_1 : Int), v5 = .int .i64 x5_1 ∧ ae (aU.l0 kq l0 l1 x5_1 = some r) ∧ ae (kq ≤ k) ∧ dM w w')
  case atStart => exact ⟨(0), fT, H', ⟨Nat.le_refl _⟩, Z0⟩
  case round =>
   clear H'
   try clear c1
   try clear p2
   try clear c3
   try clear c3b0
   try clear c3b1
   try clear c3b2
   obtain ⟨x5_1, rfl, HA, HK1, ⟨m1, rfl⟩⟩ := hrel
   cases gk with
   | zero => exact absurd HA.out (by simp [aU.l0])
   | succ k1 =>
    have H := HA.out
    clear HA
    simp only [aU.l0] at H
    revert H
    refine jT (fun c4b0 H => ?_) fun c4b0 H => ?_
    ·revert H
     refine gY (fun c5b0 H => ?_) fun c5 H => ?_
     ·revert H
      refine gY (fun c6b0 H => ?_) fun c6 H => ?_
      ·revert H
       refine gG (fun c7 H => ?_) fun c7 H => ?_
       ·have c7b0 : (!(((ak l0 x5_1).f0) == ((ak l1 x5_1).f0)) || (!(((ak l0 x5_1).f1) == ((ak l1 x5_1).f1)) || (!((((ak l0 x5_1).f2).toList) == (((ak l1 x5_1).f2).toList)) || (!(((ak l0 x5_1).f3) == ((ak l1 x5_1).f3)) || (!((((ak l0 x5_1).f4).toList) == (((ak l1 x5_1).f4).toList))))))) = true := c7
        clear c7
        obtain rfl := Option.some.inj H
        have p856 : 0 ≤ (x5_1 : Int) := of_decide_eq_true aT
        have q856 : x5_1 < (l0.length : Int) := of_decide_eq_true aT
        obtain ⟨ad856, e856, hx856_0, hx856_1, hx856_2, hx856_3, hx856_4⟩ := iV HR0.out x5_1 p856 q856
        cases e856
        replace p856 := eq_true p856
        replace q856 := eq_true q856
        have p857 : 0 ≤ (x5_1 : Int) := of_decide_eq_true aT
        have q857 : x5_1 < (l1.length : Int) := of_decide_eq_true aT
        obtain ⟨ad857, e857, hx857_0, hx857_1, hx857_2, hx857_3, hx857_4⟩ := iV HR1.out x5_1 p857 q857
        cases e857
        replace p857 := eq_true p857
        replace q857 := eq_true q857
        go_wp2
        repeat (go_quiet (fail); try go_wp2)
        go_ret
        exact ⟨fT, Z0⟩
       have c7b0 : (!(((ak l0 x5_1).f0) == ((ak l1 x5_1).f0)) || (!(((ak l0 x5_1).f1) == ((ak l1 x5_1).f1)) || (!((((ak l0 x5_1).f2).toList) == (((ak l1 x5_1).f2).toList)) || (!(((ak l0 x5_1).f3) == ((ak l1 x5_1).f3)) || (!((((ak l0 x5_1).f4).toList) == (((ak l1 x5_1).f4).toList))))))) = false := by simpa using c7
       clear c7
       have H' := ae.mk H
       clear H
       have p856 : 0 ≤ (x5_1 : Int) := of_decide_eq_true aT
       have q856 : x5_1 < (l0.length : Int) := of_decide_eq_true aT
       obtain ⟨ad856, e856, hx856_0, hx856_1, hx856_2, hx856_3, hx856_4⟩ := iV HR0.out x5_1 p856 q856
       cases e856
       replace p856 := eq_true p856
       replace q856 := eq_true q856
       have p857 : 0 ≤ (x5_1 : Int) := of_decide_eq_true aT
       have q857 : x5_1 < (l1.length : Int) := of_decide_eq_true aT
       obtain ⟨ad857, e857, hx857_0, hx857_1, hx857_2, hx857_3, hx857_4⟩ := iV HR1.out x5_1 p857 q857
       cases e857
       replace p857 := eq_true p857
       replace q857 := eq_true q857
       go_wp2
       repeat (go_quiet (fail); try go_wp2)
       go_roundg k1
       case measure => have := HK1.out; omega
       case rel => exact ⟨(wrap64 (x5_1 + 1)), fT, H', ⟨by have := HK1.out; omega⟩, Z0⟩
      exact absurd H (by simp)
     exact absurd H (by simp)
    obtain rfl := Option.some.inj H
    go_wp2
    repeat (go_quiet (fail); try go_wp2)
    go_ret
    exact ⟨fT, Z0⟩
 have c3b2 : (l0.length == l1.length) = false := by first | simpa using c3 | (simp at c3 ⊢; omega)
 obtain rfl := Option.some.inj H
 go_enter Try.func10, Try.ntmps10
 go_wp2
 repeat (go_quiet (fail); try go_wp2)
 go_ret
 exact ⟨fT, Z0⟩
end Go.Proofs.Ytlenihbmafkegaa.Q
end
section
namespace Go.Proofs.Ytlenihbmafkegaa.Q
open Go.RowKit Go.Proofs.YtlenihbmafkegaaW.PrintWords Go.Proofs.YtlenihbmafkegaaW.PrintLast Go.Proofs.YtlenihbmafkegaaW.PrintMore
attribute [local go_sem] df cO dI dH bV bU cZ cu
set_option linter.unusedVariables false
set_option linter.unusedSimpArgs false
/-! ### dE: function 3 -/
def dE.f (k : Nat) (l0 : List (S40)) : Option (Bool) := (aH.f k l0).bind fun t858 => (if t858 = true then ((dA.f k l0).bind fun bt860 => (if bt860.2.1 = 0 then ((dW.f k bt860.1).bind fun bt863 => (if bt863.2.1 = 0 then (if bt863.2.2 = 0 then ((aU.f k l0 bt863.1).bind fun t868 => (if t868 = true then ((bH.f k).bind fun t869 => (some t869)) else (some false))) else (some false)) else (some false))) else ((aK.f k l0).bind fun bt870 => (if bt860.1.toList = ([] : List UInt8) then (if bt870.1 = 0 then (if bt860.2.1 = 3 then ((bH.f k).bind fun t872 => (some t872)) else (some false)) else ((bH.f k).bind fun t873 => (some t873))) else (some false))))) else ((bH.f k).bind fun t859 => (some t859)))
theorem dE.mono : ∀ a0 k, LeO (dE.f k a0) (dE.f (k + 1) a0) := by
 intro a0 k
 unfold dE.f
 have m0 := bH.mono
 have m1 := aH.mono
 have m2 := aU.mono
 have m3 := dW.mono
 have m4 := dA.mono
 have m5 := aK.mono
 exact yL
set_option maxHeartbeats 8000000 in
set_option maxRecDepth 100000 in
theorem dE.calls (k : Nat) (A0 : Option Addr) (c0 : Nat) (l0 : List (S40)) (r : Bool) (w : World) (hr0 : Kd.C k40 w A0 l0.length l0) (hc0 : l0.length ≤ c0) (h : dE.f k l0 = some r) :
 Calls Try.prog 3 #[.slice A0 l0.length c0] w fun e w' => e = .returned (.bool r) ∧ Below w.heap.size w w' := by
 have HR0 := ae.mk hr0
 have HC0 := ae.mk hc0
 clear hr0 hc0
 have HB := ae.mk (Below.refl w.heap.size w)
 have H := h
 clear h
 unfold dE.f at H
 revert H
 refine yB1 fun t858 A2 H => ?_
 cases t858
 rotate_left
 ·replace H := yT H
  revert H
  refine yB3 fun t860 t861 t862 A4 H => ?_
  try dsimp only at H
  revert H
  refine bu (fun c5b0 c5b1 H => ?_) fun c5 c5b0 c5b1 H => ?_
  ·revert H
   refine yB3 fun t863 t864 t865 A6 H => ?_
   try dsimp only at H
   revert H
   refine bu (fun c7b0 c7b1 H => ?_) fun c7 c7b0 c7b1 H => ?_
   ·revert H
    refine bu (fun c8b0 c8b1 H => ?_) fun c8 c8b0 c8b1 H => ?_
    ·revert H
     refine yB1 fun t868 A9 H => ?_
     cases t868
     rotate_left
     ·replace H := yT H
      revert H
      refine yB1 fun t869 A11 H => ?_
      obtain rfl := Option.some.inj H
      go_enter Try.func3, Try.ntmps3
      go_wp2_with (first | ((with_reducible refine gC 5 rfl ?_); refine gM 5 12 rfl Try.func5 (aH.calls k _ _ l0 true _ Z1 HC0.out A2.out) ?_; rintro _ w' ⟨rfl, ⟨nd, rfl⟩⟩; refine ⟨_, rfl, ?_⟩) | ((with_reducible refine gC 7 rfl ?_); refine gM 7 17 rfl Try.func7 (dA.calls k _ _ l0 t860 t861 t862 _ Z1 HC0.out A4.out) ?_; rintro _ w12 ⟨rfl, hb⟩; refine ⟨_, rfl, yA1 (aj (bT HB) hb) ?_⟩; clear HB hb; intro HB) | ((with_reducible refine gC 9 rfl ?_); refine gM 9 43 rfl Try.func9 (dW.calls k t860 t863 t864 t865 _ A6.out) ?_; rintro _ w13 ⟨v866, rfl, ho0, hb⟩; refine ⟨_, rfl, yA2 (Kd.eU ho0 (aX (bT HB))) (aj (bT HB) hb) ?_⟩; clear HB hb ho0; intro HO867 HB; obtain ⟨Ao14, co14, rfl⟩ := Kd.dL HO867.out) | (go_at_call 10; (with_reducible refine (aU.calls k _ _ l0 _ _ t863 true _ ?side1 ?side2 ?side3 ?side4 A9.out).mono ?_); (case side1 => exact Z4); (case side2 => exact HC0.out); (case side3 => repeat (first | exact (Kd.bG HO867.out).2.2 | (with_reducible refine Kd.gQ ?_ _) | (with_reducible refine Kd.gK ?_ _) | (with_reducible refine Kd.iY ?_))); (case side4 => exact (Kd.bG HO867.out).2.1); rintro e w' ⟨rfl, ⟨nd, rfl⟩⟩) | (go_at_call 6; (with_reducible refine (bH.calls k  t869 _ A11.out).mono ?_); rintro e w15 ⟨rfl, hb⟩; refine yA2 (Kd.dN (qR HO867) hb) (aj (bT HB) hb) ?_; clear HO867 HB; intro HO867 HB; (try clear hb)))
      go_ret
      exact ⟨eT, bT HB⟩
     replace H := yF H
     obtain rfl := Option.some.inj H
     go_enter Try.func3, Try.ntmps3
     go_wp2_with (first | ((with_reducible refine gC 5 rfl ?_); refine gM 5 12 rfl Try.func5 (aH.calls k _ _ l0 true _ Z1 HC0.out A2.out) ?_; rintro _ w' ⟨rfl, ⟨nd, rfl⟩⟩; refine ⟨_, rfl, ?_⟩) | ((with_reducible refine gC 7 rfl ?_); refine gM 7 17 rfl Try.func7 (dA.calls k _ _ l0 t860 t861 t862 _ Z1 HC0.out A4.out) ?_; rintro _ w16 ⟨rfl, hb⟩; refine ⟨_, rfl, yA1 (aj (bT HB) hb) ?_⟩; clear HB hb; intro HB) | ((with_reducible refine gC 9 rfl ?_); refine gM 9 43 rfl Try.func9 (dW.calls k t860 t863 t864 t865 _ A6.out) ?_; rintro _ w17 ⟨v866, rfl, ho0, hb⟩; refine ⟨_, rfl, yA2 (Kd.eU ho0 (aX (bT HB))) (aj (bT HB) hb) ?_⟩; clear HB hb ho0; intro HO867 HB; obtain ⟨Ao18, co18, rfl⟩ := Kd.dL HO867.out) | (go_at_call 10; (with_reducible refine (aU.calls k _ _ l0 _ _ t863 false _ ?side1 ?side2 ?side3 ?side4 A9.out).mono ?_); (case side1 => exact Z4); (case side2 => exact HC0.out); (case side3 => repeat (first | exact (Kd.bG HO867.out).2.2 | (with_reducible refine Kd.gQ ?_ _) | (with_reducible refine Kd.gK ?_ _) | (with_reducible refine Kd.iY ?_))); (case side4 => exact (Kd.bG HO867.out).2.1); rintro e w' ⟨rfl, ⟨nd, rfl⟩⟩))
     go_ret
     exact ⟨eT, bT HB⟩
    obtain rfl := Option.some.inj H
    go_enter Try.func3, Try.ntmps3
    go_wp2_with (first | ((with_reducible refine gC 5 rfl ?_); refine gM 5 12 rfl Try.func5 (aH.calls k _ _ l0 true _ Z1 HC0.out A2.out) ?_; rintro _ w' ⟨rfl, ⟨nd, rfl⟩⟩; refine ⟨_, rfl, ?_⟩) | ((with_reducible refine gC 7 rfl ?_); refine gM 7 17 rfl Try.func7 (dA.calls k _ _ l0 t860 t861 t862 _ Z1 HC0.out A4.out) ?_; rintro _ w19 ⟨rfl, hb⟩; refine ⟨_, rfl, yA1 (aj (bT HB) hb) ?_⟩; clear HB hb; intro HB) | ((with_reducible refine gC 9 rfl ?_); refine gM 9 43 rfl Try.func9 (dW.calls k t860 t863 t864 t865 _ A6.out) ?_; rintro _ w20 ⟨v866, rfl, ho0, hb⟩; refine ⟨_, rfl, yA2 (Kd.eU ho0 (aX (bT HB))) (aj (bT HB) hb) ?_⟩; clear HB hb ho0; intro HO867 HB))
    go_ret
    exact ⟨eT, bT HB⟩
   obtain rfl := Option.some.inj H
   go_enter Try.func3, Try.ntmps3
   go_wp2_with (first | ((with_reducible refine gC 5 rfl ?_); refine gM 5 12 rfl Try.func5 (aH.calls k _ _ l0 true _ Z1 HC0.out A2.out) ?_; rintro _ w' ⟨rfl, ⟨nd, rfl⟩⟩; refine ⟨_, rfl, ?_⟩) | ((with_reducible refine gC 7 rfl ?_); refine gM 7 17 rfl Try.func7 (dA.calls k _ _ l0 t860 t861 t862 _ Z1 HC0.out A4.out) ?_; rintro _ w21 ⟨rfl, hb⟩; refine ⟨_, rfl, yA1 (aj (bT HB) hb) ?_⟩; clear HB hb; intro HB) | ((with_reducible refine gC 9 rfl ?_); refine gM 9 43 rfl Try.func9 (dW.calls k t860 t863 t864 t865 _ A6.out) ?_; rintro _ w22 ⟨v866, rfl, ho0, hb⟩; refine ⟨_, rfl, yA2 (Kd.eU ho0 (aX (bT HB))) (aj (bT HB) hb) ?_⟩; clear HB hb ho0; intro HO867 HB))
   go_ret
   exact ⟨eT, bT HB⟩
  revert H
  refine yB2 fun t870 t871 A23 H => ?_
  try dsimp only at H
  revert H
  refine bu (fun c24b0 c24b1 H => ?_) fun c24 c24b0 c24b1 H => ?_
  ·revert H
   refine bu (fun c25b0 c25b1 H => ?_) fun c25 c25b0 c25b1 H => ?_
   ·revert H
    refine bu (fun c26b0 c26b1 H => ?_) fun c26 c26b0 c26b1 H => ?_
    ·revert H
     refine yB1 fun t872 A27 H => ?_
     obtain rfl := Option.some.inj H
     go_enter Try.func3, Try.ntmps3
     go_wp2_with (first | ((with_reducible refine gC 5 rfl ?_); refine gM 5 12 rfl Try.func5 (aH.calls k _ _ l0 true _ Z1 HC0.out A2.out) ?_; rintro _ w' ⟨rfl, ⟨nd, rfl⟩⟩; refine ⟨_, rfl, ?_⟩) | ((with_reducible refine gC 7 rfl ?_); refine gM 7 17 rfl Try.func7 (dA.calls k _ _ l0 t860 t861 t862 _ Z1 HC0.out A4.out) ?_; rintro _ w28 ⟨rfl, hb⟩; refine ⟨_, rfl, yA1 (aj (bT HB) hb) ?_⟩; clear HB hb; intro HB) | ((with_reducible refine gC 8 rfl ?_); refine gM 8 25 rfl Try.func8 (aK.calls k _ _ l0 t870 t871 _ Z4 HC0.out A23.out) ?_; rintro _ w29 ⟨rfl, hb⟩; refine ⟨_, rfl, yA1 (aj (bT HB) hb) ?_⟩; clear HB hb; intro HB) | (go_at_call 6; (with_reducible refine (bH.calls k  t872 _ A27.out).mono ?_); rintro e w30 ⟨rfl, hb⟩; refine yA1 (aj (bT HB) hb) ?_; clear HB; intro HB; (try clear hb)))
     go_ret
     exact ⟨eT, bT HB⟩
    obtain rfl := Option.some.inj H
    go_enter Try.func3, Try.ntmps3
    go_wp2_with (first | ((with_reducible refine gC 5 rfl ?_); refine gM 5 12 rfl Try.func5 (aH.calls k _ _ l0 true _ Z1 HC0.out A2.out) ?_; rintro _ w' ⟨rfl, ⟨nd, rfl⟩⟩; refine ⟨_, rfl, ?_⟩) | ((with_reducible refine gC 7 rfl ?_); refine gM 7 17 rfl Try.func7 (dA.calls k _ _ l0 t860 t861 t862 _ Z1 HC0.out A4.out) ?_; rintro _ w31 ⟨rfl, hb⟩; refine ⟨_, rfl, yA1 (aj (bT HB) hb) ?_⟩; clear HB hb; intro HB) | ((with_reducible refine gC 8 rfl ?_); refine gM 8 25 rfl Try.func8 (aK.calls k _ _ l0 t870 t871 _ Z4 HC0.out A23.out) ?_; rintro _ w32 ⟨rfl, hb⟩; refine ⟨_, rfl, yA1 (aj (bT HB) hb) ?_⟩; clear HB hb; intro HB))
    go_ret
    exact ⟨eT, bT HB⟩
   revert H
   refine yB1 fun t873 A33 H => ?_
   obtain rfl := Option.some.inj H
   go_enter Try.func3, Try.ntmps3
   go_wp2_with (first | ((with_reducible refine gC 5 rfl ?_); refine gM 5 12 rfl Try.func5 (aH.calls k _ _ l0 true _ Z1 HC0.out A2.out) ?_; rintro _ w' ⟨rfl, ⟨nd, rfl⟩⟩; refine ⟨_, rfl, ?_⟩) | ((with_reducible refine gC 7 rfl ?_); refine gM 7 17 rfl Try.func7 (dA.calls k _ _ l0 t860 t861 t862 _ Z1 HC0.out A4.out) ?_; rintro _ w34 ⟨rfl, hb⟩; refine ⟨_, rfl, yA1 (aj (bT HB) hb) ?_⟩; clear HB hb; intro HB) | ((with_reducible refine gC 8 rfl ?_); refine gM 8 25 rfl Try.func8 (aK.calls k _ _ l0 t870 t871 _ Z4 HC0.out A23.out) ?_; rintro _ w35 ⟨rfl, hb⟩; refine ⟨_, rfl, yA1 (aj (bT HB) hb) ?_⟩; clear HB hb; intro HB) | (go_at_call 6; (with_reducible refine (bH.calls k  t873 _ A33.out).mono ?_); rintro e w36 ⟨rfl, hb⟩; refine yA1 (aj (bT HB) hb) ?_; clear HB; intro HB; (try clear hb)))
   go_ret
   exact ⟨eT, bT HB⟩
  obtain rfl := Option.some.inj H
  go_enter Try.func3, Try.ntmps3
  go_wp2_with (first | ((with_reducible refine gC 5 rfl ?_); refine gM 5 12 rfl Try.func5 (aH.calls k _ _ l0 true _ Z1 HC0.out A2.out) ?_; rintro _ w' ⟨rfl, ⟨nd, rfl⟩⟩; refine ⟨_, rfl, ?_⟩) | ((with_reducible refine gC 7 rfl ?_); refine gM 7 17 rfl Try.func7 (dA.calls k _ _ l0 t860 t861 t862 _ Z1 HC0.out A4.out) ?_; rintro _ w37 ⟨rfl, hb⟩; refine ⟨_, rfl, yA1 (aj (bT HB) hb) ?_⟩; clear HB hb; intro HB) | ((with_reducible refine gC 8 rfl ?_); refine gM 8 25 rfl Try.func8 (aK.calls k _ _ l0 t870 t871 _ Z4 HC0.out A23.out) ?_; rintro _ w38 ⟨rfl, hb⟩; refine ⟨_, rfl, yA1 (aj (bT HB) hb) ?_⟩; clear HB hb; intro HB))
  go_ret
  exact ⟨eT, bT HB⟩
 replace H := yF H
 revert H
 refine yB1 fun t859 A39 H => ?_
 obtain rfl := Option.some.inj H
 go_enter Try.func3, Try.ntmps3
 go_wp2_with (first | ((with_reducible refine gC 5 rfl ?_); refine gM 5 12 rfl Try.func5 (aH.calls k _ _ l0 false _ Z1 HC0.out A2.out) ?_; rintro _ w' ⟨rfl, ⟨nd, rfl⟩⟩; refine ⟨_, rfl, ?_⟩) | ((with_reducible refine gC 6 rfl ?_); refine gM 6 14 rfl Try.func6 (bH.calls k  t859 _ A39.out) ?_; rintro _ w40 ⟨rfl, hb⟩; refine ⟨_, rfl, yA1 (aj (bT HB) hb) ?_⟩; clear HB hb; intro HB))
 go_ret
 exact ⟨eT, bT HB⟩
end Go.Proofs.Ytlenihbmafkegaa.Q
end
