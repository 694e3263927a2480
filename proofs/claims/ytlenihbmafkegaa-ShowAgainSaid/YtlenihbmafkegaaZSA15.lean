/- Walks over functions of the program, words for them, and what the functions come to; of each text only what this claim uses; no condition. -/
import Derived.Test.YtlenihbmafkegaaZSA0
import Derived.Test.YtlenihbmafkegaaZSA7
import Derived.Test.YtlenihbmafkegaaZSA11
import Derived.Test.YtlenihbmafkegaaZSA13
import Derived.Test.YtlenihbmafkegaaZSA14
section
set_option linter.unusedVariables false
set_option linter.unusedSimpArgs false
namespace Go.Proofs.Ytlenihbmafkegaa.Show
open Go Go.RowKit Go.Proofs.YtlenihbmafkegaaW.PrintWords Go.Proofs.Ytlenihbmafkegaa.Q Go.Proofs.Ytlenihbmafkegaa.Lex Go.Proofs.Ytlenihbmafkegaa.Tree Go.Proofs.Ytlenihbmafkegaa.Par
theorem I4 {s : ByteArray} (h : (L s).isEmpty = true) : s = E := qH (by rw [List.isEmpty_iff.1 h]; rfl)
/-- What a node that is right has, by its kind's bits. -/
theorem fld {x : S40} (b : Int) (lo hi : Int) (hb : eF x = tK b true lo hi x) (h : eF x = true) : textS b x.f4 = true ∧ (if nV b 1 then dS (L x.f2) = true else x.f2 = E) ∧ (if Go.bits .and .i64 b 4 = 0 then x.f3 = 0 else lo ≤ x.f3 ∧ x.f3 ≤ hi) := by
 rw [hb] at h
 unfold tK at h
 simp only [Bool.true_and, Bool.and_eq_true] at h
 obtain ⟨h1, h2, h3, h4⟩ := h
 refine ⟨h1, ?_, ?_⟩
 ·cases c : nV b 1
  ·rw [c] at h3
   simp only [Bool.false_or] at h3
   simpa using I4 h3
  rw [c] at h2
  simpa using h2
 by_cases c : Go.bits .and .i64 b 4 = 0
 ·rw [if_pos c] at h4 ⊢
  simpa using h4
 rw [if_neg c] at h4 ⊢
 simpa using h4
theorem tx0 {s : ByteArray} {b : Int} (h : textS b s = true) (hb : Go.bits .and .i64 b 2 = 0 ∧ Go.bits .and .i64 b 8 = 0 ∧ Go.bits .and .i64 b 16 = 0 ∧ Go.bits .and .i64 b 32 = 0) : s = E := by
 unfold textS at h
 rw [if_pos hb.1, if_pos hb.2.1, if_pos hb.2.2.1, if_pos hb.2.2.2] at h
 exact I4 h
theorem g1 {x : S40} (hk : x.f0 = 3 ∨ x.f0 = 4 ∨ x.f0 = 6 ∨ x.f0 = 7 ∨ x.f0 = 21) (h : eF x = true) : dS (L x.f2) = true ∧ x.f3 = 0 ∧ x.f4 = E := by
 obtain ⟨a, b, c⟩ := fld 1 0 9223372036854775807 (by unfold eF oW rangeS; rcases hk with c | c | c | c | c <;> simp [c]) h
 exact ⟨by simpa [show nV 1 1 = true from by decide] using b, by simpa [show Go.bits .and .i64 1 4 = 0 from by decide] using c, tx0 a (by decide)⟩
theorem g0 {x : S40} (hk : x.f0 ∈ ([5, 8, 9, 10, 11, 12, 13, 14, 15, 16, 17, 18, 22, 24, 25, 26, 29, 30] : List Int)) (h : eF x = true) : x.f2 = E ∧ x.f3 = 0 ∧ x.f4 = E := by
 obtain ⟨a, b, c⟩ := fld 0 0 9223372036854775807 (by
  unfold eF oW rangeS
  simp only [List.mem_cons, List.not_mem_nil, or_false] at hk
  rcases hk with c | c | c | c | c | c | c | c | c | c | c | c | c | c | c | c | c | c <;> simp [c]) h
 exact ⟨by simpa [show nV 0 1 = false from by decide] using b, by simpa [show Go.bits .and .i64 0 4 = 0 from by decide] using c, tx0 a (by decide)⟩
theorem g19 {x : S40} (hk : x.f0 = 19) (h : eF x = true) : x.f2 = E ∧ 0 ≤ x.f3 ∧ x.f4 = E := by
 obtain ⟨a, b, c⟩ := fld 4 0 9223372036854775807 (by unfold eF oW rangeS; simp [hk]) h
 exact ⟨by simpa [show nV 4 1 = false from by decide] using b, by
  have : 0 ≤ x.f3 ∧ x.f3 ≤ 9223372036854775807 := by simpa [show ¬ Go.bits .and .i64 4 4 = 0 from by decide] using c
  exact this.1, tx0 a (by decide)⟩
theorem g20 {x : S40} (hk : x.f0 = 20) (h : eF x = true) : x.f2 = E ∧ x.f3 = 0 := by
 obtain ⟨a, b, c⟩ := fld 32 0 9223372036854775807 (by unfold eF oW rangeS; simp [hk]) h
 exact ⟨by simpa [show nV 32 1 = false from by decide] using b, by simpa [show Go.bits .and .i64 32 4 = 0 from by decide] using c⟩
theorem g23 {x : S40} (hk : x.f0 = 23) (h : eF x = true) : dS (L x.f2) = true ∧ x.f3 = 0 ∧ dS (L x.f4) = true := by
 obtain ⟨a, b, c⟩ := fld 3 0 9223372036854775807 (by unfold eF oW rangeS; simp [hk]) h
 refine ⟨by simpa [show nV 3 1 = true from by decide] using b, by simpa [show Go.bits .and .i64 3 4 = 0 from by decide] using c, ?_⟩
 unfold textS at a
 rwa [if_neg (by decide)] at a
theorem g27 {x : S40} (hk : x.f0 = 27) (h : eF x = true) : x.f2 = E ∧ x.f3 = 0 ∧ OPS.contains (L x.f4) = true := by
 obtain ⟨a, b, c⟩ := fld 8 0 9223372036854775807 (by unfold eF oW rangeS; simp [hk]) h
 refine ⟨by simpa [show nV 8 1 = false from by decide] using b, by simpa [show Go.bits .and .i64 8 4 = 0 from by decide] using c, ?_⟩
 unfold textS at a
 rwa [if_pos (by decide), if_neg (by decide)] at a
theorem g28 {x : S40} (hk : x.f0 = 28) (h : eF x = true) : x.f2 = E ∧ x.f3 = 0 ∧ UNS.contains (L x.f4) = true := by
 obtain ⟨a, b, c⟩ := fld 16 0 9223372036854775807 (by unfold eF oW rangeS; simp [hk]) h
 refine ⟨by simpa [show nV 16 1 = false from by decide] using b, by simpa [show Go.bits .and .i64 16 4 = 0 from by decide] using c, ?_⟩
 unfold textS at a
 rwa [if_pos (by decide), if_pos (by decide), if_neg (by decide)] at a
theorem g2 {x : S40} (hk : x.f0 = 2) (h : eF x = true) : dS (L x.f2) = true ∧ (0 ≤ x.f3 ∧ x.f3 ≤ 8) ∧ dS (L x.f4) = true := by
 obtain ⟨a, b, c⟩ := fld 7 0 8 (by unfold eF oW rangeS; simp [hk]) h
 refine ⟨by simpa [show nV 7 1 = true from by decide] using b, by simpa [show ¬ Go.bits .and .i64 7 4 = 0 from by decide] using c, ?_⟩
 unfold textS at a
 rwa [if_neg (by decide)] at a
theorem gm {x : S40} (hk : x.f0 = 1) (h : eF x = true) : dS (L x.f2) = true ∧ (1 ≤ x.f3 ∧ x.f3 ≤ 2147483647) ∧ x.f4 = E := by
 obtain ⟨a, b, c⟩ := fld 5 1 2147483647 (by unfold eF oW rangeS; simp [hk]) h
 exact ⟨by simpa [show nV 5 1 = true from by decide] using b, by simpa [show ¬ Go.bits .and .i64 5 4 = 0 from by decide] using c, tx0 a (by decide)⟩
theorem iG {x : S40} {es : List (List S40)} {k : Int} {nm : ByteArray} {n : Int} {tx : ByteArray} (h0 : x.f0 = k) (h1 : x.f1 = (es.length : Int)) (h2 : x.f2 = nm) (h3 : x.f3 = n) (h4 : x.f4 = tx) : x :: es.flatten = nd k nm n tx es := by
 obtain ⟨a, b, c, d, e⟩ := x
 simp only at h0 h1 h2 h3 h4
 subst h0 h1 h2 h3 h4
 rfl
/-- A tree, its kind, its tokens: how they are read. -/
structure Cl (e : List S40) (k : Int) (tk : List S56) : Prop where
 tree : ∃ D, Fo e 1 D
 ex : 18 ≤ k → ER e tk
 st : 6 ≤ k ∧ k ≤ 17 → SR e tk
 bl : k = 5 → BR e tk
 pa : k = 4 → ∃ s, dS (L s) = true ∧ e = nd 4 s 0 E [] ∧ tk = [ofT s]
 fu : k = 3 → ∃ s es b tks tb, dS (L s) = true ∧ PRs es tks ∧ BR b tb ∧ e = nd 3 s 0 E (es ++ [b]) ∧ tk = [W [102, 110], ofT s] ++ qU (tks ++ [tb])
 us : k = 2 → ∃ s u n, dS (L s) = true ∧ dS (L u) = true ∧ e = nd 2 s n u [] ∧ tk = [W [117, 115, 101], ofT s, W [46], ofT u, W [47], oQ n, W [59]]
inductive CLs : List (List S40) → List Int → List (List S56) → Prop
 | nil : CLs [] [] []
 | cons {e k tk es ks tks} (h : Cl e k tk) (t : CLs es ks tks) : CLs (e :: es) (k :: ks) (tk :: tks)
theorem CLs.len {es ks tks} (h : CLs es ks tks) : es.length = ks.length := by
 induction h with
 | nil => rfl
 | cons h t ih => simp [ih]
theorem CLs.concat {z : Int} : ∀ {q : List Int} {es tks}, CLs es (q ++ [z]) tks → ∃ es' e ts t, es = es' ++ [e] ∧ tks = ts ++ [t] ∧ CLs es' q ts ∧ Cl e z t
 | [], _, _, .cons h .nil => ⟨[], _, [], _, rfl, rfl, .nil, h⟩
 | _ :: q, _, _, .cons h t => by
  obtain ⟨es', e, ts, t', rfl, rfl, h1, h2⟩ := CLs.concat t
  exact ⟨_ :: es', e, _ :: ts, t', rfl, rfl, .cons h h1, h2⟩
theorem CLs.ers {es ks tks} (h : CLs es ks tks) (ha : ks.all kJ = true) : LRs (fun N => (fU N).expr) es tks := by
 induction h with
 | nil => exact .nil
 | cons h t ih =>
  simp only [List.all_cons, Bool.and_eq_true] at ha
  have := ha.1
  unfold kJ at this
  exact .cons (h.ex (by have := of_decide_eq_true this; omega)).item (ih ha.2)
theorem CLs.srs {es ks tks} (h : CLs es ks tks) (ha : ks.all Go.Proofs.Ytlenihbmafkegaa.jc = true) : SRs es tks := by
 induction h with
 | nil => exact .nil
 | cons h t ih =>
  simp only [List.all_cons, Bool.and_eq_true] at ha
  have := ha.1
  unfold Go.Proofs.Ytlenihbmafkegaa.jc at this
  exact .cons (h.st (by have := of_decide_eq_true this; omega)) (ih ha.2)
theorem CLs.prs {es ks tks} (h : CLs es ks tks) (ha : ks.all (· == 4) = true) : PRs es tks := by
 induction h with
 | nil => exact .nil
 | cons h t ih =>
  simp only [List.all_cons, Bool.and_eq_true, beq_iff_eq] at ha
  obtain ⟨s, hs, rfl, rfl⟩ := h.pa ha.1
  exact .cons hs (ih ha.2)
theorem Aw {es ks tks} (h : CLs es ks tks) (hk : AA ks = true) : ∃ ps b ts tb, es = ps ++ [b] ∧ tks = ts ++ [tb] ∧ PRs ps ts ∧ BR b tb := by
 unfold AA at hk
 simp only [Bool.and_eq_true, decide_eq_true_eq, beq_iff_eq] at hk
 obtain ⟨⟨h1, h2⟩, h3, h4⟩ := hk
 rcases List.eq_nil_or_concat ks with rfl | ⟨q, z, rfl⟩
 ·simp at h1
 have hl : (q ++ [z]).length - 1 = q.length := by simp
 rw [List.concat_eq_append] at *
 rw [hl] at h3 h4
 rw [List.take_left] at h4
 have hz : z = 5 := by
  rw [← h3]
  simp [rd, vW]
 obtain ⟨ps, b, ts, tb, rfl, rfl, a1, a2⟩ := h.concat
 exact ⟨ps, b, ts, tb, rfl, rfl, a1.prs h4, a2.bl hz⟩
theorem tV {es ks tks} {lo hi : Nat} (h : CLs es ks tks) (hk : exS ks lo hi = true) : lo ≤ ks.length ∧ ks.length ≤ hi ∧ LRs (fun N => (fU N).expr) es tks ∧ ∀ k ∈ ks, 18 ≤ k := by
 unfold exS at hk
 simp only [Bool.and_eq_true, decide_eq_true_eq] at hk
 refine ⟨hk.1.1, hk.1.2, h.ers hk.2, fun k hkm => ?_⟩
 have := List.all_eq_true.1 hk.2 k hkm
 unfold kJ at this
 have := of_decide_eq_true this
 omega
end Go.Proofs.Ytlenihbmafkegaa.Show
end
section
set_option linter.unusedVariables false
set_option linter.unusedSimpArgs false
namespace Go.Proofs.Ytlenihbmafkegaa.Show
open Go Go.RowKit Go.Proofs.YtlenihbmafkegaaW.PrintWords Go.Proofs.Ytlenihbmafkegaa.Q Go.Proofs.Ytlenihbmafkegaa.Lex Go.Proofs.Ytlenihbmafkegaa.Tree Go.Proofs.Ytlenihbmafkegaa.Par
theorem CLs.fo {es ks tks} (h : CLs es ks tks) : ∃ D, Fo es.flatten ks.length D := by
 induction h with
 | nil => exact ⟨0, .nil⟩
 | cons h t ih =>
  obtain ⟨D1, h1⟩ := h.tree
  obtain ⟨D2, h2⟩ := ih
  obtain ⟨D, hD⟩ := Fo.app h1 h2
  exact ⟨D, by rw [List.flatten_cons, List.length_cons, Nat.add_comm]; exact hD⟩
theorem BU {x : S40} (h : eF x = true) : 1 ≤ x.f0 ∧ x.f0 ≤ 30 := by
 rcases Decidable.em (1 ≤ x.f0 ∧ x.f0 ≤ 30) with c | c
 ·exact c
 exfalso
 have : (oW x.f0).2 = false := by
  unfold oW
  rw [if_neg (by omega), if_neg (by omega), if_neg (by omega), if_neg (by omega), if_neg (by omega), if_neg (by omega), if_neg (by omega), if_neg (by omega)]
  simpa using c
 unfold eF tK at h
 rw [this] at h
 simp at h
theorem jg {es : List (List S40)} {ks : List Int} {tks : List (List S56)} (h : CLs es ks tks) (hk : decide (ks.length = 0) = true) : es = [] ∧ tks = [] := by
 have := of_decide_eq_true hk
 cases h with
 | nil => exact ⟨rfl, rfl⟩
 | cons h t => simp at this
theorem CLs.one {es : List (List S40)} {ks : List Int} {tks : List (List S56)} (h : CLs es ks tks) (hk : exS ks 1 1 = true) : ∃ e t, es = [e] ∧ tks = [t] ∧ ER e t := by
 obtain ⟨a, b, _, c⟩ := tV h hk
 match h, a, b, c with
 | .cons h .nil, _, _, c => exact ⟨_, _, rfl, rfl, h.ex (c _ (by simp))⟩
 | .cons h (.cons h2 t), _, b, _ => simp at b
theorem CLs.two {es : List (List S40)} {ks : List Int} {tks : List (List S56)} (h : CLs es ks tks) (hk : exS ks 2 2 = true) : ∃ e t e2 t2, es = [e, e2] ∧ tks = [t, t2] ∧ ER e t ∧ ER e2 t2 := by
 obtain ⟨a, b, _, c⟩ := tV h hk
 match h, a, b, c with
 | .cons h .nil, a, _, _ => simp at a
 | .cons h (.cons h2 .nil), _, _, c => exact ⟨_, _, _, _, rfl, rfl, h.ex (c _ (by simp)), h2.ex (c _ (by simp))⟩
 | .cons h (.cons h2 (.cons h3 t)), _, b, _ => simp at b
theorem CLs.three {es : List (List S40)} {ks : List Int} {tks : List (List S56)} (h : CLs es ks tks) (hk : exS ks 3 3 = true) : ∃ e t e2 t2 e3 t3, es = [e, e2, e3] ∧ tks = [t, t2, t3] ∧ ER e t ∧ ER e2 t2 ∧ ER e3 t3 ∧ (∃ D, Fo e 1 D) ∧ ∃ D, Fo e2 1 D := by
 obtain ⟨a, b, _, c⟩ := tV h hk
 match h, a, b, c with
 | .cons h .nil, a, _, _ => simp at a
 | .cons h (.cons h2 .nil), a, _, _ => simp at a
 | .cons h (.cons h2 (.cons h3 .nil)), _, _, c => exact ⟨_, _, _, _, _, _, rfl, rfl, h.ex (c _ (by simp)), h2.ex (c _ (by simp)), h3.ex (c _ (by simp)), h.tree, h2.tree⟩
 | .cons h (.cons h2 (.cons h3 (.cons h4 t))), _, b, _ => simp at b
theorem JF {x : S40} {es kt tt} (hx : x.f1 = (kt.length : Int)) (hf : eF x = true) (hk : gX x.f0 kt = true) (h : CLs es kt tt) (h18 : 18 ≤ x.f0) : ER (x :: es.flatten) (mg x tt) := by
 have h30 := (BU hf).2
 have hl : x.f1 = (es.length : Int) := by rw [hx, h.len]
 have ht : mg x tt = exT x tt := by unfold mg; rw [if_neg (by omega), if_pos h18]
 rw [ht]
 have cs : x.f0 = 18 ∨ x.f0 = 19 ∨ x.f0 = 20 ∨ x.f0 = 21 ∨ x.f0 = 22 ∨ x.f0 = 23 ∨ x.f0 = 24 ∨ x.f0 = 25 ∨ x.f0 = 26 ∨ x.f0 = 27 ∨ x.f0 = 28 ∨ x.f0 = 29 ∨ x.f0 = 30 := by omega
 rcases cs with c | c | c | c | c | c | c | c | c | c | c | c | c
 ·obtain ⟨a, b, d⟩ := g0 (by simp [c]) hf
  obtain ⟨rfl, rfl⟩ := jg h Z8
  rw [iG c hl a b d, show exT x [] = [W [110, 105, 108]] by simp [exT, c]]
  exact MS
 ·obtain ⟨a, b, d⟩ := g19 c hf
  obtain ⟨rfl, rfl⟩ := jg h Z8
  rw [iG c hl a rfl d, show exT x [] = [oQ x.f3] by simp [exT, c]]
  exact MV _
 ·obtain ⟨a, b⟩ := g20 c hf
  obtain ⟨rfl, rfl⟩ := jg h Z8
  rw [iG c hl a b rfl, show exT x [] = [yj x.f4] by simp [exT, c]]
  exact JH _
 ·obtain ⟨a, b, d⟩ := g1 (by simp [c]) hf
  obtain ⟨rfl, rfl⟩ := jg h Z8
  rw [iG c hl rfl b d, show exT x [] = [ofT x.f2] by simp [exT, c]]
  exact vk a
 ·obtain ⟨a, b, d⟩ := g0 (by simp [c]) hf
  obtain ⟨k1, k2, k3, k4⟩ := tV (lo := 1) (hi := 9) h Z8
  rw [iG c hl a b d, show exT x tt = kT tt 0 ++ rowT (tt.drop 1) by simp [exT, c]]
  match h, k1, k3, k4 with
  | .cons h t, _, .cons _ t2, k4 => exact JI (h.ex (k4 _ (by simp))) t2
 ·obtain ⟨a, b, d⟩ := g23 c hf
  obtain ⟨k1, k2, k3, k4⟩ := tV (lo := 0) (hi := 8) h Z8
  rw [iG c hl rfl b rfl, show exT x tt = [ofT x.f2, W [46], ofT x.f4] ++ rowT tt by simp [exT, c]]
  exact Hr a d k3
 ·obtain ⟨a, b, d⟩ := g0 (by simp [c]) hf
  obtain ⟨ps, bl, ts, tb, rfl, rfl, p1, p2⟩ := Aw h Z8
  rw [iG c hl a b d, show exT x (ts ++ [tb]) = W [102, 110] :: qU (ts ++ [tb]) by simp [exT, c]]
  exact Oc p1 p2
 ·obtain ⟨a, b, d⟩ := g0 (by simp [c]) hf
  obtain ⟨rfl, rfl⟩ := jg h Z8
  rw [iG c hl a b d, show exT x [] = [W [123], W [125]] by simp [exT, c]]
  exact Hm
 ·obtain ⟨a, b, d⟩ := g0 (by simp [c]) hf
  obtain ⟨e, t, e2, t2, rfl, rfl, p1, p2⟩ := h.two Z8
  rw [iG c hl a b d, show exT x [t, t2] = t ++ [W [91]] ++ t2 ++ [W [93]] by simp [exT, c, kT]]
  exact AO p1 p2
 ·obtain ⟨a, b, d⟩ := g27 c hf
  obtain ⟨e, t, e2, t2, rfl, rfl, p1, p2⟩ := h.two Z8
  rw [iG c hl a b rfl, show exT x [t, t2] = W [40] :: (t ++ ofT x.f4 :: (t2 ++ [W [41]])) by simp [exT, c, kT]]
  exact MW d p1 p2
 ·obtain ⟨a, b, d⟩ := g28 c hf
  obtain ⟨e, t, rfl, rfl, p1⟩ := h.one Z8
  rw [iG c hl a b rfl, show exT x [t] = W [40] :: ofT x.f4 :: (t ++ [W [41]]) by simp [exT, c, kT]]
  exact Ob d p1
 ·obtain ⟨a, b, d⟩ := g0 (by simp [c]) hf
  obtain ⟨rfl, rfl⟩ := jg h Z8
  rw [iG c hl a b d, show exT x [] = [W [115, 116, 97, 116, 101]] by simp [exT, c]]
  exact Ho
 obtain ⟨a, b, d⟩ := g0 (by simp [c]) hf
 obtain ⟨e, t, rfl, rfl, p1⟩ := h.one Z8
 rw [iG c hl a b d, show exT x [t] = W [40] :: W [115, 112, 97, 119, 110] :: (t ++ [W [41]]) by simp [exT, c, kT]]
 exact Hq p1
theorem DJ {es : List (List S40)} {ks : List Int} {tks : List (List S56)} {hi : Nat} (h : CLs es ks tks) (hk : ifS hi ks = true) (hh : hi ≤ 3) : ∃ e t b tb, ER e t ∧ BR b tb ∧ ((es = [e, b] ∧ tks = [t, tb]) ∨ (hi = 3 ∧ ∃ c tc, BR c tc ∧ es = [e, b, c] ∧ tks = [t, tb, tc])) := by
 unfold ifS at hk
 simp only [Bool.and_eq_true, decide_eq_true_eq] at hk
 obtain ⟨⟨a, b⟩, c, d⟩ := hk
 match h, a, b, c, d with
 | .cons h .nil, a, _, _, _ => simp at a
 | .cons h (.cons h2 .nil), _, _, c, d =>
  have c : (18 : Int) ≤ _ := (of_decide_eq_true c).1
  simp only [List.drop_succ_cons, List.drop_zero, List.all_cons, List.all_nil, Bool.and_true, beq_iff_eq] at d
  exact ⟨_, _, _, _, h.ex c, h2.bl d, .inl ⟨rfl, rfl⟩⟩
 | .cons h (.cons h2 (.cons h3 .nil)), _, b, c, d =>
  have c : (18 : Int) ≤ _ := (of_decide_eq_true c).1
  simp only [List.drop_succ_cons, List.drop_zero, List.all_cons, List.all_nil, Bool.and_true, beq_iff_eq, Bool.and_eq_true] at d
  simp only [List.length_cons, List.length_nil] at b
  exact ⟨_, _, _, _, h.ex c, h2.bl d.1, .inr ⟨by omega, _, _, h3.bl d.2, rfl, rfl⟩⟩
 | .cons h (.cons h2 (.cons h3 (.cons h4 t))), _, b, _, _ => simp only [List.length_cons] at b; omega
theorem IX {x : S40} {es kt tt} (hx : x.f1 = (kt.length : Int)) (hf : eF x = true) (hk : gX x.f0 kt = true) (h : CLs es kt tt) (h6 : 6 ≤ x.f0 ∧ x.f0 ≤ 17) : SR (x :: es.flatten) (mg x tt) := by
 have hl : x.f1 = (es.length : Int) := by rw [hx, h.len]
 have ht : mg x tt = stT x tt := by unfold mg; rw [if_pos h6]
 rw [ht]
 have cs : x.f0 = 6 ∨ x.f0 = 7 ∨ x.f0 = 8 ∨ x.f0 = 9 ∨ x.f0 = 10 ∨ x.f0 = 11 ∨ x.f0 = 12 ∨ x.f0 = 13 ∨ x.f0 = 14 ∨ x.f0 = 15 ∨ x.f0 = 16 ∨ x.f0 = 17 := by omega
 rcases cs with c | c | c | c | c | c | c | c | c | c | c | c
 ·obtain ⟨a, b, d⟩ := g1 (by simp [c]) hf
  obtain ⟨e, t, rfl, rfl, p1⟩ := h.one Z8
  rw [iG c hl rfl b d, show stT x [t] = [W [108, 101, 116], ofT x.f2, W [61]] ++ t ++ [W [59]] by simp [stT, c, kT]]
  exact Lr a p1
 ·obtain ⟨a, b, d⟩ := g1 (by simp [c]) hf
  obtain ⟨e, t, rfl, rfl, p1⟩ := h.one Z8
  rw [iG c hl rfl b d, show stT x [t] = [ofT x.f2, W [61]] ++ t ++ [W [59]] by simp [stT, c, kT]]
  exact Ey a p1
 ·obtain ⟨a, b, d⟩ := g0 (by simp [c]) hf
  obtain ⟨e, t, e2, t2, e3, t3, rfl, rfl, p1, p2, p3, ⟨_, q1⟩, ⟨_, q2⟩⟩ := h.three Z8
  rw [iG c hl a b d, show stT x [t, t2, t3] = t ++ [W [91]] ++ t2 ++ [W [93], W [61]] ++ t3 ++ [W [59]] by simp [stT, c, kT]]
  exact FQ q1 q2 p1 p2 p3
 ·obtain ⟨a, b, d⟩ := g0 (by simp [c]) hf
  obtain ⟨e, t, b2, tb, p1, p2, q⟩ := DJ (hi := 3) h Z8 (by omega)
  rcases q with ⟨rfl, rfl⟩ | ⟨_, e3, tc, p3, rfl, rfl⟩
  ·rw [iG c hl a b d, show stT x [t, tb] = W [105, 102] :: (t ++ tb) by simp [stT, c, kT]]
   exact ND p1 p2
  rw [iG c hl a b d, show stT x [t, tb, tc] = W [105, 102] :: (t ++ tb ++ W [101, 108, 115, 101] :: tc) by simp [stT, c, kT]]
  exact IY p1 p2 p3
 ·obtain ⟨a, b, d⟩ := g0 (by simp [c]) hf
  obtain ⟨e, t, b2, tb, p1, p2, q⟩ := DJ (hi := 2) h Z8 (by omega)
  rcases q with ⟨rfl, rfl⟩ | ⟨q, _⟩
  ·rw [iG c hl a b d, show stT x [t, tb] = W [119, 104, 105, 108, 101] :: (t ++ tb) by simp [stT, c, kT]]
   exact FP p1 p2
  omega
 ·obtain ⟨a, b, d⟩ := g0 (by simp [c]) hf
  obtain ⟨rfl, rfl⟩ := jg h Z8
  rw [iG c hl a b d, show stT x [] = [W [98, 114, 101, 97, 107], W [59]] by simp [stT, c]]
  exact yu 11 _ (by simp)
 ·obtain ⟨a, b, d⟩ := g0 (by simp [c]) hf
  obtain ⟨rfl, rfl⟩ := jg h Z8
  rw [iG c hl a b d, show stT x [] = [W [99, 111, 110, 116, 105, 110, 117, 101], W [59]] by simp [stT, c]]
  exact yu 12 _ (by simp)
 ·obtain ⟨a, b, d⟩ := g0 (by simp [c]) hf
  obtain ⟨e, t, rfl, rfl, p1⟩ := h.one Z8
  rw [iG c hl a b d, show stT x [t] = W [114, 101, 116, 117, 114, 110] :: (t ++ [W [59]]) by simp [stT, c, kT]]
  exact Bv 13 _ (by simp) p1
 ·obtain ⟨a, b, d⟩ := g0 (by simp [c]) hf
  obtain ⟨e, t, rfl, rfl, p1⟩ := h.one Z8
  rw [iG c hl a b d, show stT x [t] = W [112, 117, 116] :: (t ++ [W [59]]) by simp [stT, c, kT]]
  exact Bv 14 _ (by simp) p1
 ·obtain ⟨a, b, d⟩ := g0 (by simp [c]) hf
  obtain ⟨e, t, rfl, rfl, p1⟩ := h.one Z8
  rw [iG c hl a b d, show stT x [t] = W [101, 109, 105, 116] :: (t ++ [W [59]]) by simp [stT, c, kT]]
  exact Bv 15 _ (by simp) p1
 ·obtain ⟨a, b, d⟩ := g0 (by simp [c]) hf
  obtain ⟨rfl, rfl⟩ := jg h Z8
  rw [iG c hl a b d, show stT x [] = [W [121, 105, 101, 108, 100], W [59]] by simp [stT, c]]
  exact yu 16 _ (by simp)
 obtain ⟨a, b, d⟩ := g0 (by simp [c]) hf
 obtain ⟨e, t, rfl, rfl, p1⟩ := h.one Z8
 rw [iG c hl a b d, show stT x [t] = t ++ [W [59]] by simp [stT, c, kT]]
 exact NE p1
theorem JP {x : S40} {es kt tt} (hx : x.f1 = (kt.length : Int)) (hf : eF x = true) (hk : gX x.f0 kt = true) (h : CLs es kt tt) : Cl (x :: es.flatten) x.f0 (mg x tt) := by
 have hl : x.f1 = (es.length : Int) := by rw [hx, h.len]
 refine ⟨?_, JF hx hf hk h, IX hx hf hk h, fun c => ?_, fun c => ?_, fun c => ?_, fun c => ?_⟩
 ·obtain ⟨D, hD⟩ := h.fo
  have := Fo.cons x es.flatten [] 0 D 0 (by omega) (by rw [hx, Int.toNat_natCast]; exact hD) Fo.nil
  rw [List.append_nil] at this
  exact ⟨_, this⟩
 ·obtain ⟨a, b, d⟩ := g0 (by simp [c]) hf
  rw [iG c hl a b d, show mg x tt = W [123] :: (tt.flatten ++ [W [125]]) by simp [mg, paT, c]]
  exact H8 (h.srs Z8)
 ·obtain ⟨a, b, d⟩ := g1 (by simp [c]) hf
  obtain ⟨rfl, rfl⟩ := jg h Z8
  exact ⟨x.f2, a, iG c hl rfl b d, by simp [mg, paT, c]⟩
 ·obtain ⟨a, b, d⟩ := g1 (by simp [c]) hf
  obtain ⟨ps, bl, ts, tb, rfl, rfl, p1, p2⟩ := Aw h Z8
  exact ⟨x.f2, ps, bl, ts, tb, a, p1, p2, iG c hl rfl b d, by simp [mg, paT, c]⟩
 obtain ⟨a, b, d⟩ := g2 c hf
 obtain ⟨rfl, rfl⟩ := jg h Z8
 exact ⟨x.f2, x.f4, x.f3, a, d, iG c hl rfl rfl rfl, by simp [mg, paT, c]⟩
theorem GS.cls {u : List S40} {K : List Int} {ts : List (List S56)} (h : GS u K ts) : ∃ es, u = es.flatten ∧ CLs es K ts := by
 induction h with
 | nil => exact ⟨[], rfl, .nil⟩
 | cons x t v kt kv tt tv hx hf hk ht hv ih1 ih2 =>
  obtain ⟨e1, rfl, c1⟩ := ih1
  obtain ⟨e2, rfl, c2⟩ := ih2
  exact ⟨(x :: e1.flatten) :: e2, by simp, .cons (JP hx hf hk c1) c2⟩
end Go.Proofs.Ytlenihbmafkegaa.Show
end
section
set_option linter.unusedVariables false
set_option linter.unusedSimpArgs false
namespace Go.Proofs.Ytlenihbmafkegaa.Tree
open Go Go.RowKit Go.Proofs.YtlenihbmafkegaaW.PrintWords Go.Proofs.Ytlenihbmafkegaa.Q Go.Proofs.Ytlenihbmafkegaa.Lex
/-- The kinds of a node's kids. -/
def BQ (l : List S40) (i : Nat) : List Int := (its l (au l (i : Int)).f1.toNat ((i + 1 : Nat) : Int)).map fun p => (au l p).f0
def wM (l : List S40) (i : Nat) : Bool := eF (au l (i : Int)) && gX (au l (i : Int)).f0 (BQ l i)
/-- The first node from a place on that is not right; so many are left. -/
def Ie (l : List S40) : Nat → Nat → Int × Int
 | 0, _ => (0, 0)
 | m + 1, i => if wM l i then Ie l m (i + 1) else (4, (i : Int))
def yg (l : List S40) : Bool := decide (jv l.length l 1 = some l.length)
def jV (l : List S40) : Int × Int :=
 if 2000 < l.length then (3, 0) else if yg l = false then (2, 0) else if 60 < qy l [] 0 then (3, 0) else if (au l 0).f0 ≠ 1 then (4, 0) else Ie l l.length 0
/-- Names and texts are short. -/
def short (l : List S40) : Prop := ∀ x ∈ l, x.f2.size ≤ 3000 ∧ x.f4.size ≤ 3000
theorem FT {l : List S40} (h : short l) (i : Nat) (hi : i < l.length) : (au l (i : Int)).f2.size ≤ 3000 ∧ (au l (i : Int)).f4.size ≤ 3000 := by
 rw [zY l i hi]
 exact h _ (List.getElem_mem hi)
theorem IE (l : List S40) (hl : l.length ≤ 100000) (hs : short l) (i : Nat) (hi : i < l.length) (ks : List Int) (hks : ks.length ≤ 100000) (hk : ∀ q ∈ ks, 0 ≤ q ∧ q < (l.length : Int)) (v : Int × Int)
 (hnext : ag (fun k => aW.l0 k l l (l.length : Int) ((i + 1 : Nat) : Int)) v) : ∀ (m idx : Nat) (acc : List Int), ks.length = m + idx → acc.length = idx →
 ag (fun k => aW.l1 k l (i : Int) acc l (l.length : Int) (i : Int) ks (ks.length : Int) (idx : Int) (au l (i : Int)).f0 (au l (i : Int)).f1 (au l (i : Int)).f2 (au l (i : Int)).f3 (au l (i : Int)).f4)
  (if eF (au l (i : Int)) && gX (au l (i : Int)).f0 (acc ++ (ks.drop idx).map fun p => (au l p).f0) then v else (4, (i : Int))) := by
 obtain ⟨h2, h4⟩ := FT hs i hi
 intro m
 induction m with
 | zero =>
  intro idx acc h1 ha
  refine ag.step (fun k => by rw [aW.l1]) ?_
  refine ag.neg (by omega) ?_
  rw [List.drop_eq_nil_of_le (by omega), List.map_nil, List.append_nil]
  refine ag.bind (Hl _ h2 h4) ?_
  cases eF (au l (i : Int)) with
  | false => exact ag.neg (by simp) ag.now
  | true =>
   refine ag.pos rfl (ag.bind (MK _ acc (by omega)) ?_)
   rw [Bool.true_and]
   cases gX (au l (i : Int)).f0 acc with
   | false => exact ag.neg (by simp) ag.now
   | true =>
    refine ag.pos rfl ?_
    rw [inc i (by omega)]
    exact hnext
 | succ m ih =>
  intro idx acc h1 ha
  have hx : idx < ks.length := by omega
  have hrd : rd ks (idx : Int) = ks[idx] := by simp [rd, List.getD_eq_getElem?_getD, List.getElem?_eq_getElem hx]
  have hq := hk _ (List.getElem_mem hx)
  refine ag.step (fun k => by rw [aW.l1]) ?_
  refine ag.pos (by omega) (ag.pos (by omega) (ag.pos (by omega) ?_))
  rw [hrd, inc idx (by omega)]
  refine ag.pos hq.1 (ag.pos hq.2 (ag.pos (by omega) ?_))
  have := ih (idx + 1) (acc ++ [(au l ks[idx]).f0]) (by omega) (by simp [ha])
  rw [List.append_assoc] at this
  rw [List.drop_eq_getElem_cons hx, List.map_cons]
  exact this
theorem IG (l : List S40) (hl : l.length ≤ 100000) (hs : short l) (hw : jv l.length l 1 = some l.length) : ∀ (m i : Nat), l.length = m + i → ag (fun k => aW.l0 k l l (l.length : Int) (i : Int)) (Ie l m i) := by
 intro m
 induction m with
 | zero =>
  intro i h1
  refine ag.step (fun k => by rw [aW.l0]) ?_
  exact ag.neg (by omega) ag.now
 | succ m ih =>
  intro i h1
  have hi : i < l.length := by omega
  obtain ⟨hK, hK1, hK2⟩ := CZ hl hw i hi
  refine ag.step (fun k => by rw [aW.l0]) ?_
  refine ag.pos (by omega) (ag.pos (by omega) (ag.pos (by omega) (ag.bind hK ?_)))
  have := IE l hl hs i hi _ hK1 (fun q hq => by have := hK2 q hq; omega) _ (ih (i + 1) (by omega)) _ 0 [] rfl rfl
  rw [List.drop_zero, List.nil_append] at this
  exact this
theorem xA {l : List S40} : jS l 0 = (l.length : Int) ∧ l ≠ [] ↔ jv l.length l 1 = some l.length := by
 unfold jS
 rw [if_neg (by omega), Int.toNat_zero, List.drop_zero]
 cases h : jv l.length l 1 with
 | none =>
  simp only [uy]; constructor; · intro h; omega
  intro h; cases h
 | some m =>
  have := yU _ _ _ _ h
  simp only [uy, Option.some.injEq]
  constructor
  ·intro h; omega
  intro h; exact ⟨by omega, by rintro rfl; simp at this; omega⟩
theorem Eo (l : List S40) (hl : l.length ≤ 100000) (hs : short l) : ag (fun k => aW.f k l) (jV l) := by
 unfold aW.f jV
 by_cases c : 2000 < l.length
 ·rw [if_pos c]; exact ag.pos (by omega) ag.now
 rw [if_neg c]
 refine ag.neg (by omega) ?_
 by_cases c1 : l = []
 ·subst c1
  refine ag.pos rfl (ag.step (fun k => by rw [aW.j0]) (ag.pos rfl ?_))
  exact ag.now
 have hlen : l.length ≠ 0 := fun h => c1 (List.eq_nil_of_length_eq_zero h)
 refine ag.neg (by omega) (ag.bind (yc l hl 0) ?_)
 by_cases hw : jv l.length l 1 = some l.length
 ·rw [show yg l = true from decide_eq_true hw, if_neg (by simp)]
  refine ag.step (fun k => by rw [aW.j0]) ?_
  refine ag.neg (by rw [(xA.2 hw).1]; simp) ?_
  have hwb : rF l l.length = true := Es l l.length (Nat.le_refl _) (fun q hq => by
   obtain ⟨m', _, e⟩ := DT _ _ _ _ q hw (Nat.le_refl 1) hq
   rw [e]; rfl)
  have hd := Kw l hl
  rw [hwb, if_pos rfl] at hd
  refine ag.bind hd ?_
  by_cases c2 : 60 < qy l [] 0
  ·rw [if_pos c2]; exact ag.pos (by omega) ag.now
  rw [if_neg c2]
  refine ag.neg (by omega) (ag.pos (by omega) ?_)
  by_cases c3 : (au l 0).f0 = 1
  ·rw [if_neg (fun q => q c3)]
   exact ag.pos c3 (IG l hl hs hw l.length 0 (by omega))
  rw [if_pos c3]
  exact ag.neg c3 ag.now
 rw [show yg l = false from decide_eq_false hw, if_pos rfl]
 refine ag.step (fun k => by rw [aW.j0]) ?_
 refine ag.pos ?_ ag.now
 rw [bne_iff_ne]
 intro e
 exact hw (xA.1 ⟨e, c1⟩)
/-- Of nodes that are right each one is. -/
theorem Fe (l : List S40) : ∀ (m i : Nat), (Ie l m i).1 = 0 → ∀ j, i ≤ j → j < i + m → wM l j = true := by
 intro m
 induction m with
 | zero => intro i _ j h1 h2; omega
 | succ m ih =>
  intro i h j h1 h2
  simp only [Ie] at h
  split at h
  ·rename_i hg
   rcases Nat.eq_or_lt_of_le h1 with rfl | h1
   ·exact hg
   exact ih (i + 1) h j h1 (by omega)
  simp at h
theorem xX {l : List S40} (h : (jV l).1 = 0) : l.length ≤ 2000 ∧ jv l.length l 1 = some l.length ∧ qy l [] 0 ≤ 60 ∧ (au l 0).f0 = 1 ∧ ∀ i, i < l.length → wM l i = true := by
 unfold jV at h
 split at h
 ·cases h
 split at h
 ·cases h
 split at h
 ·cases h
 split at h
 ·cases h
 rename_i h1 h2 h3 h4
 refine ⟨by omega, ?_, by omega, by simpa using h4, fun i hi => Fe l l.length 0 h i (Nat.zero_le _) (by omega)⟩
 unfold yg at h2
 simpa using h2
end Go.Proofs.Ytlenihbmafkegaa.Tree
end
section
set_option linter.unusedVariables false
set_option linter.unusedSimpArgs false
namespace Go.Proofs.Ytlenihbmafkegaa.Par
open Go Go.RowKit Go.Proofs.YtlenihbmafkegaaW.PrintWords Go.Proofs.Ytlenihbmafkegaa.Q Go.Proofs.Ytlenihbmafkegaa.Lex Go.Proofs.Ytlenihbmafkegaa.Tree
inductive GF : List S40 → List Int → Nat → Prop
 | nil : GF [] [] 0
 | cons (x : S40) (t v : List S40) (kt kv : List Int) (D1 D2 : Nat) (hx : x.f1 = (kt.length : Int)) (hf : eF x = true) (hk : gX x.f0 kt = true) (ht : GF t kt D1) (hv : GF v kv D2) : GF (x :: (t ++ v)) (x.f0 :: kv) (max (1 + D1) D2)
theorem GF.fo {u : List S40} {K : List Int} {D : Nat} (h : GF u K D) : Fo u K.length D := by
 induction h with
 | nil => exact Fo.nil
 | cons x t v kt kv D1 D2 hx hf hk ht hv ih1 ih2 => exact Fo.cons x t v kv.length D1 D2 (by omega) (by rw [hx, Int.toNat_natCast]; exact ih1) ih2
abbrev kd (l : List S40) (q : Int) : Int := (au l q).f0
theorem DD {l : List S40} {x : S40} {t : List S40} {p : Nat} (hd : l.drop p = x :: t) : au l (p : Int) = x ∧ p < l.length := by
 have hp : p < l.length := by
  rcases Nat.lt_or_ge p l.length with h1 | h1
  ·exact h1
  rw [List.drop_eq_nil_of_le h1] at hd; cases hd
 rw [zY l p hp]
 rw [List.drop_eq_getElem_cons hp] at hd
 exact ⟨(List.cons.inj hd).1, hp⟩
theorem lH {l u rest : List S40} {p : Nat} (hd : l.drop p = u ++ rest) : l.drop (p + u.length) = rest := by
 rw [← List.drop_drop, hd, List.drop_left]
theorem Fo.its {u : List S40} {w D : Nat} (h : Fo u w D) : True := trivial
theorem GF.its {u : List S40} {K : List Int} {D : Nat} (h : GF u K D) : ∀ (l rest : List S40) (p : Nat), l.drop p = u ++ rest → (∀ y ∈ u, ¬ ((l.length : Int) < y.f1)) → (its l K.length (p : Int)).map (kd l) = K := by
 induction h with
 | nil => intro l rest p hd hn; rfl
 | cons x t v kt kv D1 D2 hx hf hk ht hv ih1 ih2 =>
  intro l rest p hd hn
  have hd' : l.drop p = (x :: t) ++ (v ++ rest) := by rw [hd]; simp
  have hn1 : ∀ y ∈ x :: t, ¬ ((l.length : Int) < y.f1) := fun y hy => hn y (by
   rcases List.mem_cons.1 hy with rfl | hy
   ·exact List.mem_cons_self
   exact List.mem_cons_of_mem _ (List.mem_append.2 (Or.inl hy)))
  have e := ou (p := p) (by omega) (by rw [hx, Int.toNat_natCast]; exact ht.fo) hd' hn1
  obtain ⟨h1, _⟩ := DD (by rw [hd]; rfl : l.drop p = x :: (t ++ v ++ rest))
  show kd l (p : Int) :: (Tree.its l kv.length (jS l (p : Int))).map (kd l) = x.f0 :: kv
  rw [e, ih2 l rest _ (lH hd') (fun y hy => hn y (List.mem_cons_of_mem _ (List.mem_append.2 (Or.inr hy))))]
  unfold kd
  rw [h1]
theorem GF.good {u : List S40} {K : List Int} {D : Nat} (h : GF u K D) : ∀ (l rest : List S40) (p : Nat), l.drop p = u ++ rest → (∀ y ∈ u, ¬ ((l.length : Int) < y.f1)) → ∀ i, p ≤ i → i < p + u.length → wM l i = true := by
 induction h with
 | nil => intro l rest p hd hn i h1 h2; simp at h2; omega
 | cons x t v kt kv D1 D2 hx hf hk ht hv ih1 ih2 =>
  intro l rest p hd hn i h1 h2
  have hd' : l.drop p = [x] ++ (t ++ (v ++ rest)) := by rw [hd]; simp
  have hd1 : l.drop (p + 1) = t ++ (v ++ rest) := lH hd'
  have hd2 : l.drop (p + 1 + t.length) = v ++ rest := lH hd1
  have hn1 : ∀ y ∈ t, ¬ ((l.length : Int) < y.f1) := fun y hy => hn y (List.mem_cons_of_mem _ (List.mem_append.2 (Or.inl hy)))
  have hn2 : ∀ y ∈ v, ¬ ((l.length : Int) < y.f1) := fun y hy => hn y (List.mem_cons_of_mem _ (List.mem_append.2 (Or.inr hy)))
  simp only [List.length_cons, List.length_append] at h2
  rcases Nat.lt_or_ge i (p + 1) with c | c
  ·obtain rfl : i = p := by omega
   obtain ⟨e, _⟩ := DD (by rw [hd]; rfl : l.drop i = x :: (t ++ v ++ rest))
   unfold wM BQ
   rw [e, hx, Int.toNat_natCast]
   have := ht.its l _ (i + 1) hd1 hn1
   unfold kd at this
   rw [this, hf, hk]; rfl
  rcases Nat.lt_or_ge i (p + 1 + t.length) with c2 | c2
  ·exact ih1 l _ (p + 1) hd1 hn1 i c c2
  exact ih2 l _ (p + 1 + t.length) hd2 hn2 i c2 (by omega)
theorem GF.Jt {u : List S40} {w D : Nat} (h : Fo u w D) : ∀ (l rest : List S40) (p : Nat), l.drop p = u ++ rest → (∀ y ∈ u, ¬ ((l.length : Int) < y.f1)) → (∀ i, p ≤ i → i < p + u.length → wM l i = true) → ∃ K, K.length = w ∧ GF u K D := by
 induction h with
 | nil => intro l rest p hd hn hg; exact ⟨[], rfl, GF.nil⟩
 | cons x t v w D1 D2 hx ht hv ih1 ih2 =>
  intro l rest p hd hn hg
  have hd' : l.drop p = [x] ++ (t ++ (v ++ rest)) := by rw [hd]; simp
  have hd1 : l.drop (p + 1) = t ++ (v ++ rest) := lH hd'
  have hd2 : l.drop (p + 1 + t.length) = v ++ rest := lH hd1
  have hn1 : ∀ y ∈ t, ¬ ((l.length : Int) < y.f1) := fun y hy => hn y (List.mem_cons_of_mem _ (List.mem_append.2 (Or.inl hy)))
  have hn2 : ∀ y ∈ v, ¬ ((l.length : Int) < y.f1) := fun y hy => hn y (List.mem_cons_of_mem _ (List.mem_append.2 (Or.inr hy)))
  simp only [List.length_cons, List.length_append] at hg
  obtain ⟨kt, l1, g1⟩ := ih1 l _ (p + 1) hd1 hn1 (fun i a b => hg i (by omega) (by omega))
  obtain ⟨kv, l2, g2⟩ := ih2 l _ (p + 1 + t.length) hd2 hn2 (fun i a b => hg i (by omega) (by omega))
  have := hg p (Nat.le_refl _) (by omega)
  obtain ⟨e, _⟩ := DD (by rw [hd]; rfl : l.drop p = x :: (t ++ v ++ rest))
  unfold wM BQ at this
  have hi := g1.its l _ (p + 1) hd1 hn1
  unfold kd at hi
  rw [e, ← l1, hi, Bool.and_eq_true] at this
  exact ⟨x.f0 :: kv, by simp [l2], GF.cons x t v kt kv D1 D2 (by omega) this.1 this.2 g1 g2⟩
/-- A module's tree that is right. -/
structure Mod (l : List S40) (x : S40) (t : List S40) (K : List Int) (D : Nat) : Prop where
 eq : l = x :: t
 len : l.length ≤ 2000
 kind : x.f0 = 1
 cnt : x.f1 = (K.length : Int)
 fld : eF x = true
 kids : rP K = true
 deep : D ≤ 59
 good : GF t K D
theorem Fa {l : List S40} (h : (jV l).1 = 0) : ∃ x t K D, Mod l x t K D := by
 obtain ⟨h1, h2, h3, h4, h5⟩ := xX h
 obtain ⟨x, t, D1, e, hx, ht, hn, hF⟩ := Fq h2
 have hd := hF.depth
 obtain ⟨K, k1, g⟩ := GF.Jt hF l [] 0 (by simp) hn (fun i _ a => h5 i (by omega))
 generalize hD : 1 + D1 = D at g
 cases g with
 | nil => simp at k1
 | cons x' t' v kt kv E1 E2 hx' hf hk ht' hv =>
  simp only [List.length_cons] at k1
  have : kv = [] := List.length_eq_zero_iff.1 (by omega)
  subst this
  cases hv
  simp only [List.append_nil] at e hF ht' hd hn h1 h2 h3 h4 h5 ⊢
  have h4' : x'.f0 = 1 := h4
  refine ⟨x', t', kt, E1, rfl, h1, h4', hx', hf, ?_, by omega, ht'⟩
  rw [h4'] at hk
  exact hk
theorem Fo.uniq {u : List S40} {a D : Nat} (h : Fo u a D) : ∀ (u' r r' : List S40) (D' : Nat), Fo u' a D' → u ++ r = u' ++ r' → u = u' := by
 induction h with
 | nil => intro u' r r' D' h' e; exact (h'.none).1.symm
 | cons x t v w D1 D2 hx ht hv ih1 ih2 =>
  intro u' r r' D' h' e
  generalize hw : w + 1 = w1 at h'
  cases h' with
  | nil => omega
  | cons x' t' v' w' E1 E2 hx' ht' hv' =>
   obtain rfl : w = w' := by omega
   simp only [List.cons_append, List.append_assoc, List.cons.injEq] at e
   obtain ⟨rfl, e⟩ := e
   obtain rfl := ih1 t' _ _ _ ht' e
   obtain rfl := ih2 v' _ _ _ hv' (List.append_cancel_left e)
   rfl
def hk (e : List S40) : Int := (au e 0).f0
/-- The trees of a forest, one by one. -/
theorem GF.flat : ∀ (ks : List (List S40)) (K : List Int) (D : Nat), (∀ e ∈ ks, ∃ d, Fo e 1 d) → K.length = ks.length → GF ks.flatten K D → K = ks.map hk ∧ ∀ e ∈ ks, ∃ d, d ≤ D ∧ GF e [hk e] d
 | [], K, D, _, hl, h => ⟨List.length_eq_zero_iff.1 hl, fun e he => by cases he⟩
 | e :: ks, K, D, hF, hl, h => by
  obtain ⟨d, hd⟩ := hF e List.mem_cons_self
  obtain ⟨x, t, d1, rfl, _, hx, ht⟩ := hd.one
  rw [List.flatten_cons] at h
  generalize hu : (x :: t) ++ ks.flatten = u at h
  cases h with
  | nil => simp at hu
  | cons x' t' v kt kv E1 E2 hx' hf hk' ht' hv =>
   simp only [List.cons_append, List.cons.injEq] at hu
   obtain ⟨rfl, hu⟩ := hu
   have ht'' : Fo t' x.f1.toNat E1 := by rw [hx', Int.toNat_natCast]; exact ht'.fo
   obtain rfl := Fo.uniq ht t' _ _ _ ht'' hu
   obtain rfl := List.append_cancel_left hu
   obtain ⟨h1, h2⟩ := GF.flat ks kv E2 (fun e he => hF e (List.mem_cons_of_mem _ he)) (by simpa using hl) hv
   refine ⟨by rw [h1]; rfl, fun e he => ?_⟩
   rcases List.mem_cons.1 he with rfl | he
   ·have := GF.cons x t [] kt [] E1 0 hx' hf hk' ht' GF.nil
    rw [List.append_nil] at this
    exact ⟨max (1 + E1) 0, by omega, this⟩
   obtain ⟨d, g1, g2⟩ := h2 e he
   exact ⟨d, by omega, g2⟩
end Go.Proofs.Ytlenihbmafkegaa.Par
end
section
set_option linter.unusedVariables false
set_option linter.unusedSimpArgs false
namespace Go.Proofs.Ytlenihbmafkegaa.Show
open Go Go.RowKit Go.Proofs.YtlenihbmafkegaaW.PrintWords Go.Proofs.Ytlenihbmafkegaa.Q Go.Proofs.Ytlenihbmafkegaa.Lex Go.Proofs.Ytlenihbmafkegaa.Tree Go.Proofs.Ytlenihbmafkegaa.Par
theorem yz {G : Nat → List S56 → Option (List S56)} {t : List S56} (out : List S56) (hG : ag (fun k => G k (out ++ [W [40]])) (out ++ [W [40]] ++ t)) (hl : out.length + t.length + 2 ≤ 3000000000000) : ag (fun k => oO (G k) k out) (out ++ (W [40] :: (t ++ [W [41]]))) := by
 unfold oO
 refine ag.bind (W_E [40] out (by decide) (by omega)) (ag.bind hG (bs ?_))
 have := W_E [41] (out ++ [W [40]] ++ t) (by decide) (by simp; omega)
 show ag (fun k => fD k [S [41]] (out ++ [W [40]] ++ t)) _
 simpa using this
theorem MR {l : List S40} {x : S40} {kt : List Int} {qs ts} (h : EvL l qs ts) (hn : qs.length = kt.length) (hk : gX x.f0 kt = true) (h18 : 18 ≤ x.f0 ∧ x.f0 ≤ 30) (hw : x.f2.size ≤ 100000) (hw4 : x.f4.size ≤ 100000) (h3 : x.f0 = 19 → 0 ≤ x.f3 ∧ x.f3 ≤ 9223372036854775807) (out : List S56) (hl : out.length + (exT x ts).length ≤ 3000000000000) : ag (fun k => qo (lG k) k l x.f0 x.f2 x.f3 x.f4 qs out) (out ++ exT x ts) := by
 have hc : x.f0 = 18 ∨ x.f0 = 29 ∨ x.f0 = 19 ∨ x.f0 = 20 ∨ x.f0 = 21 ∨ x.f0 = 25 ∨ x.f0 = 24 ∨ x.f0 = 26 ∨ x.f0 = 22 ∨ x.f0 = 23 ∨ x.f0 = 27 ∨ x.f0 = 28 ∨ x.f0 = 30 := by omega
 rcases hc with h0 | h0 | h0 | h0 | h0 | h0 | h0 | h0 | h0 | h0 | h0 | h0 | h0
 all_goals simp only [qo, exT, gX, h0, Int.reduceEq, if_true, if_false, or_self, or_true, true_or, or_false, false_or, forall_const] at hl hk h3 ⊢
 ·simp only [List.length_cons, List.length_nil] at hl
  exact bs (lV [S [110, 105, 108]] out (by intro s_ hs_; simp only [List.mem_cons, List.not_mem_nil, or_false] at hs_; subst hs_; first | exact hw | exact hw4 | (rw [fC]; decide)) (by simp; omega))
 ·simp only [List.length_cons, List.length_nil] at hl
  exact bs (lV [S [115, 116, 97, 116, 101]] out (by intro s_ hs_; simp only [List.mem_cons, List.not_mem_nil, or_false] at hs_; subst hs_; first | exact hw | exact hw4 | (rw [fC]; decide)) (by simp; omega))
 ·simp only [List.length_cons, List.length_nil] at hl
  exact bs (Gw x.f3 out h3.1 h3.2 (by omega))
 ·simp only [List.length_cons, List.length_nil] at hl
  exact ag.pos (by omega) ag.now
 ·simp only [List.length_cons, List.length_nil] at hl
  exact bs (lV [x.f2] out (by intro s_ hs_; simp only [List.mem_cons, List.not_mem_nil, or_false] at hs_; subst hs_; first | exact hw | exact hw4 | (rw [fC]; decide)) (by simp; omega))
 ·simp only [List.length_cons, List.length_nil] at hl
  exact bs (lV [S [123], S [125]] out (by intro s_ hs_; simp only [List.mem_cons, List.not_mem_nil, or_false] at hs_; rcases hs_ with rfl | rfl <;> first | exact hw | exact hw4 | (rw [fC]; decide)) (by simp; omega))
 ·have h1 := Az hk
  simp only [List.length_cons] at hl
  refine ag.bind (W_E [102, 110] out (by decide) (by omega)) (bs ?_)
  have := pg h (by omega) (out ++ [W [102, 110]]) (by simp; omega)
  simpa using this
 ·obtain ⟨q, t, q2, t2, rfl, rfl, ht, ht2⟩ := h.two (by have := kL hk; omega)
  simp only [kT, List.getD_cons_zero, List.getD_cons_succ, List.length_append, List.length_cons, List.length_nil] at hl ⊢
  exact ag.pos (by simp) (bs (DI ht ht2 out (by omega)))
 ·have h1 := kL hk
  cases h with
  | nil => simp at hn; omega
  | cons ht r =>
   rename_i q t qs ts
   simp only [kT, List.getD_cons_zero, List.drop_succ_cons, List.drop_zero, List.length_append] at hl ⊢
   refine ag.pos (by simp) (ag.bind (ht out (by omega)) (bs ?_))
   have := FX r (out ++ t) Z24
   simpa using this
 ·simp only [List.length_append, List.length_cons, List.length_nil] at hl
  refine ag.bind (lV [x.f2, S [46], x.f4] out (by intro s_ hs_; simp only [List.mem_cons, List.not_mem_nil, or_false] at hs_; rcases hs_ with rfl | rfl | rfl <;> first | exact hw | exact hw4 | (rw [fC]; decide)) (by simp; omega)) (bs ?_)
  have := FX h (out ++ [x.f2, S [46], x.f4].map ofT) (by simp; omega)
  simpa [W] using this
 ·obtain ⟨q, t, q2, t2, rfl, rfl, ht, ht2⟩ := h.two (by have := kL hk; omega)
  simp only [kT, List.getD_cons_zero, List.getD_cons_succ, List.length_append, List.length_cons, List.length_nil] at hl ⊢
  have := yz (t := t ++ ofT x.f4 :: t2) (G := fun k o => if 1 < [q, q2].length then (lG k l q o).bind fun a => (fD k [x.f4] a).bind fun b => (lG k l q2 b).bind some else none) out (ag.pos (by simp) (ag.bind (ht _ (by simp; omega)) (ag.bind (lV [x.f4] _ (by intro s_ hs_; simp only [List.mem_cons, List.not_mem_nil, or_false] at hs_; subst hs_; first | exact hw | exact hw4 | (rw [fC]; decide)) (by simp; omega)) (bs (by
   have := ht2 (out ++ [W [40]] ++ t ++ [x.f4].map ofT) (by simp; omega)
   simpa using this))))) (by simp; omega)
  simpa using bs this
 ·obtain ⟨q, t, rfl, rfl, ht⟩ := h.one (by have := kL hk; omega)
  simp only [kT, List.getD_cons_zero, List.getD_cons_succ, List.length_append, List.length_cons, List.length_nil] at hl ⊢
  have := yz (t := ofT x.f4 :: t) (G := fun k o => if 0 < [q].length then (fD k [x.f4] o).bind fun a => (lG k l q a).bind some else none) out (ag.pos (by simp) (ag.bind (lV [x.f4] _ (by intro s_ hs_; simp only [List.mem_cons, List.not_mem_nil, or_false] at hs_; subst hs_; first | exact hw | exact hw4 | (rw [fC]; decide)) (by simp; omega)) (bs (by
   have := ht (out ++ [W [40]] ++ [x.f4].map ofT) (by simp; omega)
   simpa using this)))) (by simp; omega)
  simpa using bs this
 obtain ⟨q, t, rfl, rfl, ht⟩ := h.one (by have := kL hk; omega)
 simp only [kT, List.getD_cons_zero, List.getD_cons_succ, List.length_append, List.length_cons, List.length_nil] at hl ⊢
 have := yz (t := W [115, 112, 97, 119, 110] :: t) (G := fun k o => if 0 < [q].length then (fD k [S [115, 112, 97, 119, 110]] o).bind fun a => (lG k l q a).bind some else none) out (ag.pos (by simp) (ag.bind (W_E [115, 112, 97, 119, 110] _ (by decide) (by simp; omega)) (bs (by
  have := ht (out ++ [W [40]] ++ [W [115, 112, 97, 119, 110]]) (by simp; omega)
  simpa using this)))) (by simp; omega)
 show ag (fun k => (oO (fun o => if 0 < [q].length then (fD k [S [115, 112, 97, 119, 110]] o).bind fun a => (lG k l q a).bind some else none) k out).bind some) _
 simpa using bs this
theorem LU {l : List S40} {x : S40} {kt : List Int} {qs ts} (h : EvL l qs ts) (hn : qs.length = kt.length) (hk : gX x.f0 kt = true) (h1 : 1 ≤ x.f0 ∧ x.f0 ≤ 5) (hw : x.f2.size ≤ 100000) (hw4 : x.f4.size ≤ 100000) (h3 : x.f0 = 1 ∨ x.f0 = 2 → 0 ≤ x.f3 ∧ x.f3 ≤ 9223372036854775807) (out : List S56) (hl : out.length + (paT x ts).length ≤ 3000000000000) : ag (fun k => qh (lG k) k l x.f0 x.f2 x.f3 x.f4 qs out) (out ++ paT x ts) := by
 have hc : x.f0 = 1 ∨ x.f0 = 2 ∨ x.f0 = 3 ∨ x.f0 = 4 ∨ x.f0 = 5 := by omega
 rcases hc with h0 | h0 | h0 | h0 | h0
 all_goals simp only [qh, paT, gX, h0, Int.reduceEq, if_true, if_false, or_self, or_true, true_or, or_false, false_or, forall_const] at hl hk h3 ⊢
 ·simp only [List.length_append, List.length_cons, List.length_nil] at hl
  refine ag.bind (lV [S [109, 111, 100, 117, 108, 101], x.f2] out (by intro s_ hs_; simp only [List.mem_cons, List.not_mem_nil, or_false] at hs_; rcases hs_ with rfl | rfl <;> first | exact hw | exact hw4 | (rw [fC]; decide)) (by simp; omega)) (ag.bind (Gw x.f3 _ h3.1 h3.2 (by simp; omega)) (ag.bind (W_E [59] _ (by decide) (by simp; omega)) (bs ?_)))
  have := BB h (out ++ [S [109, 111, 100, 117, 108, 101], x.f2].map ofT ++ [oQ x.f3] ++ [W [59]]) (by simp only [List.length_append, List.length_cons, List.length_nil, List.length_map]; omega) true
  simpa [W] using this
 ·simp only [List.length_append, List.length_cons, List.length_nil] at hl
  refine ag.bind (lV [S [117, 115, 101], x.f2, S [46], x.f4, S [47]] out (by intro s_ hs_; simp only [List.mem_cons, List.not_mem_nil, or_false] at hs_; rcases hs_ with rfl | rfl | rfl | rfl | rfl <;> first | exact hw | exact hw4 | (rw [fC]; decide)) (by simp; omega)) (ag.bind (Gw x.f3 _ h3.1 h3.2 (by simp; omega)) (bs ?_))
  have := W_E [59] (out ++ [S [117, 115, 101], x.f2, S [46], x.f4, S [47]].map ofT ++ [oQ x.f3]) (by decide) (by simp; omega)
  refine ag.congr (G := fun k => fD k [S [59]] _) (fun _ => rfl) ?_
  simpa [W] using this
 ·have h1 := Az hk
  simp only [List.length_append, List.length_cons, List.length_nil] at hl
  refine ag.bind (lV [S [102, 110], x.f2] out (by intro s_ hs_; simp only [List.mem_cons, List.not_mem_nil, or_false] at hs_; rcases hs_ with rfl | rfl <;> first | exact hw | exact hw4 | (rw [fC]; decide)) (by simp; omega)) (bs ?_)
  have := pg h (by omega) (out ++ [S [102, 110], x.f2].map ofT) (by simp; omega)
  simpa [W] using this
 ·simp only [List.length_cons, List.length_nil] at hl
  exact bs (lV [x.f2] out (by intro s_ hs_; simp only [List.mem_cons, List.not_mem_nil, or_false] at hs_; subst hs_; first | exact hw | exact hw4 | (rw [fC]; decide)) (by simp; omega))
 simp only [List.length_append, List.length_cons, List.length_nil] at hl
 refine ag.bind (W_E [123] out (by decide) (by omega)) (ag.bind (BB h _ Z16 true) (bs ?_))
 have := W_E [125] (out ++ [W [123]] ++ ts.flatten) (by decide) Z16
 refine ag.congr (G := fun k => fD k [S [125]] _) (fun _ => rfl) ?_
 simpa using this
theorem Eh (a : Int) : gy.f a = some (decide (6 ≤ a ∧ a ≤ 17)) := by
 unfold gy.f
 by_cases c : a ≥ 6
 ·rw [if_pos c]; congr 1; rw [decide_eq_decide]; omega
 rw [if_neg c]; congr 1; symm; exact decide_eq_false (by omega)
theorem GS.fo {u K ts} (h : GS u K ts) : ∃ D, Fo u K.length D := by
 induction h with
 | nil => exact ⟨_, Fo.nil⟩
 | cons x t v kt kv tt tv hx hf hk ht hv ih1 ih2 =>
  obtain ⟨D1, h1⟩ := ih1
  obtain ⟨D2, h2⟩ := ih2
  exact ⟨_, Fo.cons x t v kv.length D1 D2 (by omega) (by rw [hx, Int.toNat_natCast]; exact h1) h2⟩
/-- Nodes whose texts are short, and whose numbers are whole numbers. -/
def O8 (u : List S40) : Prop := ∀ x ∈ u, x.f2.size ≤ 100000 ∧ x.f4.size ≤ 100000 ∧ x.f3 ≤ 9223372036854775807
theorem Hg {u K ts} (h : GS u K ts) : ∀ (l rest : List S40) (p : Nat), l.length ≤ 100000 → l.drop p = u ++ rest → (∀ y ∈ u, ¬ ((l.length : Int) < y.f1)) → O8 u → EvL l (its l K.length (p : Int)) ts := by
 induction h with
 | nil => intro l rest p _ _ _ _; exact EvL.nil
 | cons x t v kt kv tt tv hx hf hk ht hv ih1 ih2 =>
  intro l rest p hl hd hn hlt
  have hd' : l.drop p = (x :: t) ++ (v ++ rest) := by rw [hd]; simp
  have hd1 : l.drop (p + 1) = t ++ (v ++ rest) := lH (u := [x]) (by rw [hd]; simp)
  have hn1 : ∀ y ∈ x :: t, ¬ ((l.length : Int) < y.f1) := fun y hy => hn y (by
   rcases List.mem_cons.1 hy with rfl | hy
   ·exact List.mem_cons_self
   exact List.mem_cons_of_mem _ (List.mem_append.2 (Or.inl hy)))
  obtain ⟨D1, hfo⟩ := ht.fo
  have e := ou (p := p) (by omega) (by rw [hx, Int.toNat_natCast]; exact hfo) hd' hn1
  obtain ⟨h1, hp⟩ := DD (by rw [hd]; rfl : l.drop p = x :: (t ++ v ++ rest))
  show EvL l ((p : Int) :: its l kv.length (jS l (p : Int))) (mg x tt :: tv)
  refine EvL.cons ?_ (by rw [e]; exact ih2 l rest _ hl (lH hd') (fun y hy => hn y (List.mem_cons_of_mem _ (List.mem_append.2 (Or.inr hy)))) (fun y hy => hlt y (List.mem_cons_of_mem _ (List.mem_append.2 (Or.inr hy)))))
  have hE := ih1 l _ (p + 1) hl hd1 (fun y hy => hn1 y (List.mem_cons_of_mem _ hy)) (fun y hy => hlt y (List.mem_cons_of_mem _ (List.mem_append.2 (Or.inl hy))))
  intro out ho
  obtain ⟨w2, w4, w3⟩ := hlt x List.mem_cons_self
  have hkd := BU hf
  refine ag.step (fun k => show lG (k + 1) l p out = rf (lG k) k l p out from rfl) ?_
  unfold rf
  refine ag.pos (by omega) (ag.bind (I7 l hl (p : Int)) ?_)
  have ek : pG l (p : Int) = its l kt.length ((p + 1 : Nat) : Int) := by
   unfold pG
   rw [e, if_neg (by omega), h1, hx, Int.toNat_natCast]
   rfl
  rw [ek, h1]
  have hlen : (its l kt.length ((p + 1 : Nat) : Int)).length = kt.length := yK l _ _
  unfold ql
  unfold mg at ho ⊢
  by_cases c6 : 6 ≤ x.f0 ∧ x.f0 ≤ 17
  ·rw [if_pos c6] at ho ⊢
   refine ag.bind (ag.kG (fun _ => by rw [Eh, decide_eq_true c6])) (ag.pos rfl (bs ?_))
   exact Lp hE hlen hk c6 w2 out ho
  rw [if_neg c6] at ho ⊢
  refine ag.bind (ag.kG (fun _ => by rw [Eh, decide_eq_false c6])) (ag.neg (by simp) ?_)
  by_cases c18 : 18 ≤ x.f0
  ·rw [if_pos c18] at ho ⊢
   refine ag.bind (ag.kG (v := true) (fun _ => by rw [Dc]; congr 1; unfold kJ; exact decide_eq_true (by omega))) (ag.pos rfl (bs ?_))
   exact MR hE hlen hk (by omega) w2 w4 (fun h => ⟨(g19 h hf).2.1, w3⟩) out ho
  rw [if_neg c18] at ho ⊢
  refine ag.bind (ag.kG (v := false) (fun _ => by rw [Dc]; congr 1; unfold kJ; exact decide_eq_false (by omega))) (ag.neg (by simp) (bs ?_))
  exact LU hE hlen hk (by omega) w2 w4 (fun h => by
   rcases h with h | h
   ·have := (gm h hf).2.1; omega
   have := (g2 h hf).2.1; omega) out ho
end Go.Proofs.Ytlenihbmafkegaa.Show
end
section
set_option linter.unusedVariables false
set_option linter.unusedSimpArgs false
namespace Go.Proofs.Ytlenihbmafkegaa.Lex
open Go Go.RowKit Go.Proofs.YtlenihbmafkegaaW.PrintWords Go.Proofs.Ytlenihbmafkegaa.Q
/-- Alike; with their places? -/
def alike (p : Bool) (a b : S56) : Prop := a.f0 = b.f0 ∧ a.f1 = b.f1 ∧ a.f2 = b.f2 ∧ (p = true → a.f3 = b.f3)
theorem BF (l : List S56) (i : Nat) (h : i < l.length) : dD l (i : Int) = l[i] := by
 simp [dD, List.getD_eq_getElem?_getD, List.getElem?_eq_getElem h]
theorem Nh (x y : List S56) (p : Bool) (hl : x.length = y.length) (hb : x.length ≤ 4611686018427387904) (h : ∀ i (h1 : i < x.length) (h2 : i < y.length), alike p x[i] y[i]) :
 ∀ (m i : Nat), x.length = m + i → ag (fun k => aU.l0 k x y p (i : Int)) true := by
 intro m
 induction m with
 | zero =>
  intro i h1
  refine ag.step (G := fun _ => some true) (fun k => ?_) ag.now
  simp only [aU.l0]
  rw [if_neg (by omega)]
 | succ m ih =>
  intro i h1
  obtain ⟨a1, a2, a3, a4⟩ := h i (by omega) (by omega)
  refine ag.step (G := fun k => aU.l0 k x y p ((i + 1 : Nat) : Int)) (fun k => ?_) (ih (i + 1) (by omega))
  conv => lhs; simp only [aU.l0]
  rw [if_pos (by omega), if_pos (by omega), if_pos (by omega), BF x i (by omega), BF y i (by omega), if_pos a1, if_pos (by rw [a2]), if_pos a3]
  rw [show wrap64 ((i : Int) + 1) = ((i + 1 : Nat) : Int) by rw [w64 _ (by omega)]; omega]
  cases p with
  | false => rw [if_neg (by simp)]
  | true => rw [if_pos rfl, if_pos (a4 rfl)]
theorem Nk (x y : List S56) (p : Bool) (hl : x.length = y.length) (hb : x.length ≤ 4611686018427387904) (h : ∀ i (h1 : i < x.length) (h2 : i < y.length), alike p x[i] y[i]) : ag (fun k => aU.f k x y p) true := by
 unfold aU.f
 exact ag.pos (by omega) (Nh x y p hl hb h x.length 0 (by omega))
end Go.Proofs.Ytlenihbmafkegaa.Lex
end
section
set_option linter.unusedVariables false
set_option linter.unusedSimpArgs false
namespace Go.Proofs.Ytlenihbmafkegaa.Lex
open Go Go.RowKit Go.Proofs.YtlenihbmafkegaaW.PrintWords Go.Proofs.Ytlenihbmafkegaa.Q
/-- A token as it is written. -/
def wr (t : S56) : List UInt8 := if t.f0 = 3 then quo (L t.f1) else L t.f1
def kR : List (List UInt8) → List UInt8
 | [] => []
 | w :: ws => 32 :: w ++ kR ws
/-- Words with a blank between. -/
def kQ : List (List UInt8) → List UInt8
 | [] => []
 | w :: ws => w ++ kR ws
theorem Du (s : List UInt8) : (quo s).length = (s.flatMap kZ).length + 2 := by simp [quo]
theorem Ei (a b : List UInt8) : S a ++ S b = S (a ++ b) := qH (by rw [oL]; rfl)
theorem Bl (l : List S56) (i : Nat) (h : i < l.length) : kR ((l.drop i).map wr) = 32 :: wr l[i] ++ kR ((l.drop (i + 1)).map wr) := by
 rw [List.drop_eq_getElem_cons h]; rfl
theorem FD (l : List S56) (hl : l.length ≤ 4611686018427387904) (hq : ∀ t ∈ l, t.f1.size ≤ 70368744177000) : ∀ (m i : Nat) (acc : List UInt8), l.length = m + i → 0 < i → acc.length + (kR ((l.drop i).map wr)).length ≤ 4611686018427387904 →
 ag (fun k => dM.l0 k (S acc) l (l.length : Int) (i : Int)) (S (acc ++ kR ((l.drop i).map wr))) := by
 intro m
 induction m with
 | zero =>
  intro i acc h1 h2 h3
  rw [List.drop_eq_nil_of_le (by omega)]
  refine ag.step (fun k => by rw [dM.l0]) ?_
  refine ag.neg (by omega) ?_
  simp only [List.map_nil, kR, List.append_nil]
  exact ag.now
 | succ m ih =>
  intro i acc h1 h2 h3
  have hi : i < l.length := by omega
  rw [Bl l i hi] at h3 ⊢
  simp only [List.length_append, List.length_cons] at h3
  have hb := hq l[i] (List.getElem_mem _)
  have hinc : wrap64 ((i : Int) + 1) = ((i + 1 : Nat) : Int) := by rw [w64 _ (by omega)]; omega
  have h32 : S acc ++ (⟨#[32]⟩ : ByteArray) = S (acc ++ [32]) := Ei acc [32]
  have hsz : (S (acc ++ [32])).size = acc.length + 1 := by rw [fC]; simp
  refine ag.step (fun k => by rw [dM.l0]) ?_
  refine ag.pos (by omega) (ag.pos (by omega) (ag.pos (by omega) (ag.pos (by omega) (ag.pos (by rw [fC]; omega) ?_))))
  simp only [BF l i hi, hinc, h32]
  by_cases c : l[i].f0 = 3
  ·have hw : wr l[i] = quo (L l[i].f1) := by simp [wr, c]
   rw [hw] at h3 ⊢
   refine ag.pos c (ag.bind (Em _ hb) (ag.pos (by rw [hsz, fC]; omega) ?_))
   rw [Ei]
   have := ih (i + 1) (acc ++ [32] ++ quo (L l[i].f1)) (by omega) (by omega) Z16
   simpa only [List.append_assoc, List.cons_append, List.nil_append, List.singleton_append] using this
  have hw : wr l[i] = L l[i].f1 := by simp [wr, c]
  rw [hw] at h3 ⊢
  have hf : l[i].f1 = S (L l[i].f1) := (S_L _).symm
  refine ag.neg c (ag.pos (by rw [hsz, dL]; omega) ?_)
  rw [hf, Ei, ← hf]
  have := ih (i + 1) (acc ++ [32] ++ L l[i].f1) (by omega) (by omega) Z16
  simpa only [List.append_assoc, List.cons_append, List.nil_append, List.singleton_append] using this
theorem Nc (l : List S56) (hl : l.length ≤ 4611686018427387904) (hq : ∀ t ∈ l, t.f1.size ≤ 70368744177000) (h3 : (kQ (l.map wr)).length ≤ 4611686018427387904) : ag (fun k => dM.f k l) (S (kQ (l.map wr))) := by
 unfold dM.f
 cases l with
 | nil =>
  refine ag.step (fun k => by rw [dM.l0]) ?_
  exact ag.neg (by simp) ag.now
 | cons t u =>
  have hb := hq t (by simp)
  have hrd : dD (t :: u) 0 = t := rfl
  have hz : (⟨#[]⟩ : ByteArray).size = 0 := rfl
  have hn : ∀ x : List UInt8, (⟨#[]⟩ : ByteArray) ++ S x = S x := fun x => Ei [] x
  have hinc : wrap64 ((0 : Int) + 1) = ((1 : Nat) : Int) := by rw [w64 _ (by omega)]; rfl
  simp only [List.map_cons, kQ, List.length_append] at h3 ⊢
  refine ag.step (fun k => by rw [dM.l0]) ?_
  refine ag.pos Z26 (ag.pos (by omega) (ag.pos Z26 (ag.neg (by omega) ?_)))
  simp only [hrd, hinc]
  by_cases c : t.f0 = 3
  ·have hw : wr t = quo (L t.f1) := by simp [wr, c]
   rw [hw] at h3 ⊢
   refine ag.pos c (ag.bind (Em _ hb) (ag.pos (by rw [hz, fC]; omega) ?_))
   rw [hn]
   exact FD (t :: u) hl hq u.length 1 (quo (L t.f1)) (by simp) (by omega) (by simpa using h3)
  have hw : wr t = L t.f1 := by simp [wr, c]
  rw [hw] at h3 ⊢
  refine ag.neg c (ag.pos (by rw [hz, dL]; omega) ?_)
  rw [show (⟨#[]⟩ : ByteArray) ++ t.f1 = S (L t.f1) by rw [← hn, S_L]]
  exact FD (t :: u) hl hq u.length 1 (L t.f1) (by simp) (by omega) (by simpa using h3)
end Go.Proofs.Ytlenihbmafkegaa.Lex
end
section
set_option linter.unusedVariables false
set_option linter.unusedSimpArgs false
namespace Go.Proofs.Ytlenihbmafkegaa.Lex
open Go Go.RowKit Go.Proofs.YtlenihbmafkegaaW.PrintWords Go.Proofs.Ytlenihbmafkegaa.Q
theorem MH {c : UInt8} (h : le c = true) : inn c = true := by simp [inn, h]
theorem NT {c : UInt8} (h : le c = true) : bl c = false := by
 unfold le at h
 unfold bl
 simp only [decide_eq_true_eq] at h
 rw [Bool.eq_false_iff]
 intro q
 simp only [Bool.or_eq_true, beq_iff_eq] at q
 rcases q with ((rfl | rfl) | rfl) | rfl <;> simp at h
theorem NU {c : UInt8} (h : le c = true) : c ≠ 35 := by
 rintro rfl
 simp [le] at h
theorem sG {α : Type} (q : α → Bool) (l : List α) (h : l.all q = true) : l.takeWhile q = l := by
 induction l with
 | nil => rfl
 | cons a t ih =>
  simp only [List.all_cons, Bool.and_eq_true] at h
  rw [List.takeWhile_cons, if_pos h.1, ih h.2]
end Go.Proofs.Ytlenihbmafkegaa.Lex
end
section
set_option linter.unusedVariables false
set_option linter.unusedSimpArgs false
namespace Go.Proofs.Ytlenihbmafkegaa.Lex
open Go Go.RowKit Go.Proofs.YtlenihbmafkegaaW.PrintWords Go.Proofs.Ytlenihbmafkegaa.Q
theorem vM : ∀ (s r : List UInt8), unq false (s.flatMap kZ ++ 34 :: r) = some (s, r)
 | [], r => by simp [unq]
 | c :: s, r => by
  rw [List.flatMap_cons, List.append_assoc]
  have ih := vM s r
  by_cases c1 : c = 10
  ·rw [show kZ c = [92, 110] by simp [kZ, c1], c1]
   simp [unq, esc, ih]
  by_cases c2 : c = 34
  ·rw [show kZ c = [92, 34] by simp [kZ, c2], c2]
   simp [unq, esc, ih]
  by_cases c3 : c = 92
  ·rw [show kZ c = [92, 92] by simp [kZ, c3], c3]
   simp [unq, esc, ih]
  rw [show kZ c = [c] by simp [kZ, c1, c2, c3]]
  simp [unq, c1, c2, c3, ih]
theorem JG {c x : UInt8} (h : esc c = some x) : (kZ x).length = 2 := by
 unfold esc at h
 split at h
 ·cases h; rfl
 split at h
 ·cases h; rfl
 split at h
 ·cases h; rfl
 cases h
theorem qI : ∀ (t : List UInt8) (b : Bool) (x r : List UInt8), unq b t = some (x, r) → t.length + (if b then 1 else 0) = (x.flatMap kZ).length + 1 + r.length
 | [], b, x, r, h => by cases b <;> simp [unq] at h
 | c :: t, true, x, r, h => by
  simp only [unq] at h
  split at h
  ·cases h
  rename_i y he
  simp only [Option.map_eq_some_iff, Prod.mk.injEq] at h
  obtain ⟨⟨u, v⟩, h1, rfl, rfl⟩ := h
  have := qI t false u v h1
  have e := JG he
  simp only [List.flatMap_cons, List.length_append, List.length_cons, if_true, Bool.false_eq_true, if_false] at this ⊢
  omega
 | c :: t, false, x, r, h => by
  simp only [unq] at h
  by_cases c1 : c = 34
  ·rw [if_pos c1] at h
   simp only [Option.some.injEq, Prod.mk.injEq] at h
   obtain ⟨rfl, rfl⟩ := h
   simp only [List.flatMap_nil, List.length_nil, List.length_cons, Bool.false_eq_true, if_false]
   omega
  rw [if_neg c1] at h
  by_cases c2 : c = 10
  ·rw [if_pos c2] at h; cases h
  rw [if_neg c2] at h
  by_cases c3 : c = 92
  ·rw [if_pos c3] at h
   have := qI t true x r h
   simp only [List.length_cons, if_true, Bool.false_eq_true, if_false] at this ⊢
   omega
  rw [if_neg c3] at h
  simp only [Option.map_eq_some_iff, Prod.mk.injEq] at h
  obtain ⟨⟨u, v⟩, h1, rfl, rfl⟩ := h
  have := qI t false u v h1
  have e : kZ c = [c] := by simp [kZ, c1, c2, c3]
  simp only [List.flatMap_cons, e, List.length_append, List.length_cons, List.length_nil, Bool.false_eq_true, if_false] at this ⊢
  omega
/-- A token as it is written. -/
def wrt (k : Int) (x : List UInt8) : List UInt8 := if k = 3 then quo x else x
theorem oz (q : UInt8 → Bool) (r : List UInt8) (hr : ∀ c u, r = c :: u → q c = false) : ∀ w : List UInt8, w.all q = true → (w ++ r).takeWhile q = w
 | [], _ => by
  cases r with
  | nil => rfl
  | cons c u => rw [List.nil_append, List.takeWhile_cons, if_neg (by rw [hr c u rfl]; simp)]
 | a :: w, h => by
  simp only [List.all_cons, Bool.and_eq_true] at h
  rw [List.cons_append, List.takeWhile_cons, if_pos h.1, oz q r hr w h.2]
/-- A token that is written, with a blank or nothing behind it, is the same token; it has as many bytes as it had; no blank nor remark stands first. -/
theorem EI {v : List UInt8} {k : Int} {x : List UInt8} {n : Int} {m : Nat} (h : Lex.one v = .ok (k, x, n, m)) : (wrt k x).length = m ∧ ∀ r, (∀ c u, r = c :: u → c = 32) → Lex.one (wrt k x ++ r) = .ok (k, x, n, m) ∧ skp false (wrt k x ++ r) = wrt k x ++ r := by
 cases v with
 | nil => cases h
 | cons c t =>
  have hm := uY h
  simp only [Lex.one] at h
  have tw : ∀ q : UInt8 → Bool, q c = true → (c :: t).takeWhile q = c :: t.takeWhile q := fun q hq => by rw [List.takeWhile_cons, if_pos hq]
  have ta : ∀ q : UInt8 → Bool, ((c :: t).takeWhile q).all q = true := fun q => ry q _
  by_cases c1 : le c = true
  ·rw [if_pos c1] at h
   have hi := tw inn (MH c1)
   have ha := ta inn
   have hs : ∀ u, skp false (c :: u) = c :: u := fun u => by simp only [skp]; rw [if_neg (by rw [NT c1]; simp), if_neg (NU c1)]
   have base : ∀ r, (∀ c u, r = c :: u → c = 32) → ((c :: t).takeWhile inn ++ r).takeWhile inn = (c :: t).takeWhile inn := fun r hr =>
    oz inn r (fun d u e => by rw [hr d u e]; decide) _ ha
   rw [hi] at h base
   split at h
   ·rename_i hk
    simp only [Except.ok.injEq, Prod.mk.injEq] at h
    obtain ⟨rfl, rfl, rfl, rfl⟩ := h
    refine ⟨rfl, fun r hr => ⟨?_, hs _⟩⟩
    have hb := base r hr
    simp only [wrt, show ¬ (5 : Int) = 3 by omega, if_false, List.cons_append, Lex.one] at hb ⊢
    rw [if_pos c1, hb, if_pos hk]
   split at h
   ·rename_i hk hl
    simp only [Except.ok.injEq, Prod.mk.injEq] at h
    obtain ⟨rfl, rfl, rfl, rfl⟩ := h
    refine ⟨rfl, fun r hr => ⟨?_, hs _⟩⟩
    have hb := base r hr
    simp only [wrt, show ¬ (1 : Int) = 3 by omega, if_false, List.cons_append, Lex.one] at hb ⊢
    rw [if_pos c1, hb, if_neg hk, if_pos hl]
   cases h
  rw [if_neg c1] at h
  by_cases c2 : di c = true
  ·rw [if_pos c2] at h
   have hi := tw di c2
   have ha := ta di
   have hs : ∀ u, skp false (c :: u) = c :: u := fun u => by
    have h1 : bl c = false := by
     rw [Bool.eq_false_iff]
     intro q
     simp only [bl, Bool.or_eq_true, beq_iff_eq] at q
     rcases q with ((rfl | rfl) | rfl) | rfl <;> simp [di] at c2
    have h2 : c ≠ 35 := by rintro rfl; simp [di] at c2
    simp only [skp]; rw [if_neg (by rw [h1]; simp), if_neg h2]
   split at h
   ·rename_i hk
    simp only [Except.ok.injEq, Prod.mk.injEq] at h
    obtain ⟨rfl, rfl, rfl, rfl⟩ := h
    refine ⟨rfl, fun r hr => ?_⟩
    have hb := oz di r (fun d u e => by rw [hr d u e]; decide) _ ha
    rw [hi] at hb hk ⊢
    simp only [wrt, show ¬ (2 : Int) = 3 by omega, if_false, List.cons_append, Lex.one] at hb ⊢
    refine ⟨?_, hs _⟩
    rw [if_neg c1, if_pos c2, hb, if_pos hk]
   cases h
  rw [if_neg c2] at h
  by_cases c3 : c = 34
  ·rw [if_pos c3] at h
   split at h
   ·rename_i y r0 hu
    simp only [Except.ok.injEq, Prod.mk.injEq] at h
    obtain ⟨rfl, rfl, rfl, rfl⟩ := h
    have hc := qI t false _ _ hu
    simp only [Bool.false_eq_true, if_false] at hc
    have hlen : (wrt 3 y).length = (c :: t).length - r0.length := by
     simp only [wrt, if_true, Du, List.length_cons]
     omega
    refine ⟨hlen, fun r hr => ?_⟩
    have e : wrt 3 y ++ r = 34 :: (y.flatMap kZ ++ 34 :: r) := by simp [wrt, quo]
    rw [e]
    refine ⟨?_, by simp only [skp]; rw [if_neg (by decide), if_neg (by decide)]⟩
    simp only [Lex.one]
    rw [if_neg (by decide), if_neg (by decide), if_pos trivial, vM]
    simp only [Except.ok.injEq, Prod.mk.injEq, true_and]
    simp only [List.length_cons, List.length_append]
    omega
   cases h
  rw [if_neg c3] at h
  split at h
  ·cases h
  rename_i hmk
  simp only [Except.ok.injEq, Prod.mk.injEq] at h
  obtain ⟨rfl, rfl, rfl, rfl⟩ := h
  refine ⟨rfl, fun r hr => ?_⟩
  simp only [wrt, show ¬ (4 : Int) = 3 by omega, if_false]
  have key : ∃ u, Lex.mark (c :: t) = c :: u ∧ Lex.mark (c :: u ++ r) = c :: u ∧ bl c = false ∧ c ≠ 35 := by
   have hp : ∀ p ∈ PAIRS, ∀ a b, p = [a, b] → bl a = false ∧ a ≠ 35 := by
    intro p hp a b e
    subst e
    simp only [PAIRS, List.mem_cons, List.cons.injEq, and_true, List.not_mem_nil, or_false] at hp
    rcases hp with ⟨rfl, _⟩ | ⟨rfl, _⟩ | ⟨rfl, _⟩ | ⟨rfl, _⟩ <;> decide
   have hsn : ∀ a ∈ lU, bl a = false ∧ a ≠ 35 := by decide
   by_cases h1 : PAIRS.contains ((c :: t).take 2) = true
   ·have e1 : Lex.mark (c :: t) = (c :: t).take 2 := by unfold Lex.mark; rw [if_pos h1]
    cases t with
    | nil => simp [PAIRS] at h1
    | cons d u =>
     have h2 := hp _ (List.contains_iff_mem.1 h1) c d rfl
     refine ⟨[d], e1, ?_, h2⟩
     unfold Lex.mark
     rw [show (c :: [d] ++ r).take 2 = [c, d] from rfl, if_pos (show PAIRS.contains [c, d] = true from h1)]
   have e1 : Lex.mark (c :: t) = if lU.contains c = true then [c] else [] := by unfold Lex.mark; rw [if_neg h1]; rfl
   by_cases h2 : lU.contains c = true
   ·rw [if_pos h2] at e1
    refine ⟨[], e1, ?_, hsn c (List.contains_iff_mem.1 h2)⟩
    have h3 : PAIRS.contains ((c :: ([] ++ r)).take 2) = false := by
     cases r with
     | nil => simp [PAIRS]
     | cons d u =>
      rw [hr d u rfl]
      simp [PAIRS]
    unfold Lex.mark
    rw [List.cons_append, h3]
    show (if lU.contains c = true then [c] else []) = [c]
    rw [if_pos h2]
   rw [if_neg h2] at e1
   exact absurd e1 hmk
  obtain ⟨u, k1, k2, k3, k4⟩ := key
  rw [k1]
  refine ⟨?_, ?_⟩
  ·rw [List.cons_append] at k2 ⊢
   simp only [Lex.one]
   rw [if_neg c1, if_neg c2, if_neg c3, k2, if_neg (by simp)]
  rw [List.cons_append]
  simp only [skp]
  rw [if_neg (by rw [k3]; simp), if_neg k4]
def xw (t : Tk) : Int × List UInt8 × Int := (t.kind, t.text, t.n)
theorem IV (ws : List (List UInt8)) : ∀ c u, kR ws = c :: u → c = 32 := by
 intro c u h
 cases ws with
 | nil => simp [kR] at h
 | cons w ws => simp only [kR, List.cons_append, List.cons.injEq] at h; exact h.1.symm
/-- What is written of tokens that are read again has these tokens. -/
theorem xB : ∀ ts : List (Int × List UInt8 × Int), (∀ t ∈ ts, ∃ m, Lex.one (wrt t.1 t.2.1) = .ok (t.1, t.2.1, t.2.2, m)) →
 skp false (kQ (ts.map fun t => wrt t.1 t.2.1)) = kQ (ts.map fun t => wrt t.1 t.2.1) ∧ ∀ g, (kQ (ts.map fun t => wrt t.1 t.2.1)).length < g → ∃ us, toks g (kQ (ts.map fun t => wrt t.1 t.2.1)) = .ok us ∧ us.map xw = ts
 | [], _ => ⟨rfl, fun g hg => ⟨[], by cases g <;> rfl, rfl⟩⟩
 | (k, x, n) :: ts, h => by
  obtain ⟨j, ho⟩ := h _ (.head _)
  obtain ⟨h2, h3⟩ := xB ts (fun t ht => h t (.tail _ ht))
  obtain ⟨a1, a2⟩ := EI ho
  have hj := uY ho
  have a3 := a2 (kR (ts.map fun t => wrt t.1 t.2.1)) (IV _)
  have e : kQ (((k, x, n) :: ts).map fun t => wrt t.1 t.2.1) = wrt k x ++ kR (ts.map fun t => wrt t.1 t.2.1) := rfl
  have el : ts ≠ [] → kR (ts.map fun t => wrt t.1 t.2.1) = 32 :: kQ (ts.map fun t => wrt t.1 t.2.1) := by
   intro hne
   cases ts with
   | nil => exact absurd rfl hne
   | cons a b => rfl
  rw [e]
  refine ⟨a3.2, fun g hg => ?_⟩
  obtain ⟨g, rfl⟩ : ∃ i, g = i + 1 := ⟨g - 1, by omega⟩
  rw [List.length_append, a1] at hg
  have hg2 : (kQ (ts.map fun t => wrt t.1 t.2.1)).length < g := by
   by_cases hne : ts = []
   ·subst hne; simp [kQ]; omega
   rw [el hne] at hg; simp only [List.length_cons] at hg; omega
  obtain ⟨vs, v1, v2⟩ := h3 g hg2
  have hd : (wrt k x ++ kR (ts.map fun t => wrt t.1 t.2.1)).drop j = kR (ts.map fun t => wrt t.1 t.2.1) := List.drop_left' a1
  have hs : skp false (kR (ts.map fun t => wrt t.1 t.2.1)) = kQ (ts.map fun t => wrt t.1 t.2.1) := by
   by_cases hne : ts = []
   ·subst hne; rfl
   rw [el hne]
   have : skp false (32 :: kQ (ts.map fun t => wrt t.1 t.2.1)) = skp false (kQ (ts.map fun t => wrt t.1 t.2.1)) := by simp [skp, bl]
   rw [this, h2]
  rcases hz : wrt k x ++ kR (ts.map fun t => wrt t.1 t.2.1) with _ | ⟨b, w⟩
  ·have := congrArg List.length hz
   rw [List.length_append, a1] at this
   simp at this
   omega
  refine ⟨⟨k, x, n, (b :: w).length⟩ :: vs, ?_, ?_⟩
  ·have a4 := a3.1
   rw [hz] at a4 hd
   simp only [toks, a4, hd, hs, v1]
  simp only [List.map_cons, v2]; rfl
theorem E5 (ts : List (Int × List UInt8 × Int)) (h : ∀ t ∈ ts, ∃ m, Lex.one (wrt t.1 t.2.1) = .ok (t.1, t.2.1, t.2.2, m)) : ∃ us, Lex.scan (kQ (ts.map fun t => wrt t.1 t.2.1)) = .ok us ∧ us.map xw = ts := by
 obtain ⟨h2, h3⟩ := xB ts h
 unfold Lex.scan
 rw [h2]
 exact h3 _ (by omega)
end Go.Proofs.Ytlenihbmafkegaa.Lex
end
section
set_option linter.unusedVariables false
set_option linter.unusedSimpArgs false
namespace Go.Proofs.Ytlenihbmafkegaa.Show
open Go Go.RowKit Go.Proofs.YtlenihbmafkegaaW.PrintWords Go.Proofs.Ytlenihbmafkegaa.Q Go.Proofs.Ytlenihbmafkegaa.Lex Go.Proofs.Ytlenihbmafkegaa.Tree Go.Proofs.Ytlenihbmafkegaa.Par
/-- A token that is written is read as it was. -/
def uS (t : S56) : Prop := (∃ m, Lex.one (wr t) = .ok (t.f0, L t.f1, t.f2, m)) ∧ t.f1.size ≤ 3000 ∧ t.f2 ≤ 9223372036854775807
def TG (l : List S56) : Prop := ∀ t ∈ l, uS t
theorem TG.nil : TG [] := fun _ h => (nomatch h)
theorem TG.cons {t : S56} {l : List S56} (h : uS t) (r : TG l) : TG (t :: l) := fun a ha => by
 rcases List.mem_cons.1 ha with rfl | ha
 ·exact h
 exact r a ha
theorem TG.app {l m : List S56} (h : TG l) (r : TG m) : TG (l ++ m) := fun a ha => by
 rcases List.mem_append.1 ha with ha | ha
 ·exact h a ha
 exact r a ha
theorem TG.flat {ts : List (List S56)} (h : ∀ t ∈ ts, TG t) : TG ts.flatten := fun a ha => by
 obtain ⟨t, ht, h2⟩ := List.mem_flatten.1 ha
 exact h t ht a h2
theorem TG.kT {ts : List (List S56)} (h : ∀ t ∈ ts, TG t) (i : Nat) : TG (kT ts i) := by
 unfold Show.kT
 rw [List.getD_eq_getElem?_getD]
 cases e : ts[i]? with
 | none => exact TG.nil
 | some t => exact h t (List.mem_of_getElem? e)
theorem KZ {w : List UInt8} (h : dS w = true) : uS (ofT (S w)) := by
 unfold dS at h
 simp only [Bool.and_eq_true, Bool.not_eq_true', decide_eq_true_eq] at h
 obtain ⟨⟨h1, h2⟩, h3⟩ := h
 have hn : dS w = true := by unfold dS; simp [h1, h2, h3]
 have e : ofT (S w) = ⟨1, S w, 0, 0⟩ := by unfold ofT; rw [L_S, h3, hn]; rfl
 rw [e]
 refine ⟨?_, by show (S w).size ≤ 3000; rw [fC]; omega, by show (0 : Int) ≤ _; omega⟩
 cases w with
 | nil => simp [isWord] at h1
 | cons c t =>
  simp only [isWord, Bool.and_eq_true] at h1
  have hw : (c :: t).takeWhile inn = c :: t := sG inn _ h1.2
  refine ⟨(c :: t).length, ?_⟩
  simp only [wr, show ¬ ((1 : Int) = 3) by omega, if_false, L_S, Lex.one]
  rw [if_pos h1.1, hw, if_neg (by rw [h3]; simp), if_pos h2]
theorem uq {s : ByteArray} (h : dS (L s) = true) : uS (ofT s) := by
 have := KZ h
 rwa [show S (L s) = s from qH (L_S _)] at this
theorem GZ : ∀ w ∈ KEYS, uS (W w) := by
 intro w hw
 have e : W w = ⟨5, S w, 0, 0⟩ := by unfold W ofT; rw [L_S, show isKey w = true from List.contains_iff_mem.2 hw]; rfl
 rw [e]
 have hl : w.length ≤ 20 ∧ Lex.one w = .ok (5, w, 0, w.length) := by
  simp only [KEYS, List.mem_cons, List.not_mem_nil, or_false] at hw
  repeat (first | (subst hw; exact ⟨by decide, rfl⟩) | (rcases hw with rfl | hw; exact ⟨by decide, rfl⟩))
 refine ⟨⟨w.length, ?_⟩, by show (S w).size ≤ 3000; rw [fC]; omega, by show (0 : Int) ≤ _; omega⟩
 simp only [wr, show ¬ ((5 : Int) = 3) by omega, if_false, L_S]
 exact hl.2
theorem BN {w : List UInt8} (h : w ∈ PAIRS ∨ ∃ c ∈ lU, w = [c]) : uS (W w) := by
 have hl : w.length ≤ 20 ∧ Lex.one w = .ok (4, w, 0, w.length) ∧ W w = ⟨4, S w, 0, 0⟩ := by
  rcases h with hw | ⟨c, hc, rfl⟩
  ·simp only [PAIRS, List.mem_cons, List.not_mem_nil, or_false] at hw
   repeat (first | (subst hw; exact ⟨by decide, rfl, rfl⟩) | (rcases hw with rfl | hw; exact ⟨by decide, rfl, rfl⟩))
  simp only [lU, List.mem_cons, List.not_mem_nil, or_false] at hc
  repeat (first | (subst hc; exact ⟨by decide, rfl, rfl⟩) | (rcases hc with rfl | hc; exact ⟨by decide, rfl, rfl⟩))
 rw [hl.2.2]
 refine ⟨⟨w.length, ?_⟩, by show (S w).size ≤ 3000; rw [fC]; omega, by show (0 : Int) ≤ _; omega⟩
 simp only [wr, show ¬ ((4 : Int) = 3) by omega, if_false, L_S]
 exact hl.2.1
theorem mk1 (c : UInt8) (h : lU.contains c = true := by decide) : uS (W [c]) := BN (.inr ⟨c, List.contains_iff_mem.1 h, rfl⟩)
theorem NI {s : ByteArray} (h : OPS.contains (L s) = true ∨ UNS.contains (L s) = true) : uS (ofT s) := by
 have e : s = S (L s) := (qH (L_S _)).symm
 rw [e]
 generalize L s = w at h
 rcases h with h | h
 ·have hw := List.contains_iff_mem.1 h
  simp only [OPS, List.mem_cons, List.not_mem_nil, or_false] at hw
  rcases hw with rfl | rfl | rfl | rfl | rfl | rfl | rfl | rfl | rfl | rfl | rfl | rfl
  all_goals first | exact mk1 _ | exact BN (.inl (by decide)) | exact GZ _ (by decide)
 have hw := List.contains_iff_mem.1 h
 simp only [UNS, List.mem_cons, List.not_mem_nil, or_false] at hw
 rcases hw with rfl | rfl | rfl
 all_goals first | exact mk1 _ | exact BN (.inl (by decide)) | exact GZ _ (by decide)
theorem N8 {s : ByteArray} (h : s.size ≤ 3000) : uS (yj s) := by
 refine ⟨⟨(quo (L s)).length, ?_⟩, h, by show (0 : Int) ≤ _; omega⟩
 have e : wr (yj s) = 34 :: ((L s).flatMap kZ ++ 34 :: []) := by simp [wr, yj, quo]
 rw [e]
 simp only [Lex.one]
 rw [if_neg (by decide), if_neg (by decide), if_pos trivial, vM]
 simp [yj, quo]
theorem H5 : ∀ n : Nat, (dig n).all di = true
 | n => by
  rw [dig]
  split
  ·rename_i h
   simp only [List.all_cons, List.all_nil, Bool.and_true, di, decide_eq_true_eq]
   rw [UInt8.toNat_ofNat']; omega
  rename_i h
  have := H5 (n / 10)
  rw [List.all_append, this]
  simp only [List.all_cons, List.all_nil, Bool.and_true, Bool.true_and, di, decide_eq_true_eq]
  rw [UInt8.toNat_ofNat']; omega
theorem yV (n : Nat) : 0 < (dig n).length := by
 rw [dig]; split <;> simp
theorem DU : ∀ (k n : Nat), n < 10 ^ (k + 1) → (dig n).length ≤ k + 1
 | 0, n, h => by rw [dig, dif_pos (by simpa using h)]; simp
 | k + 1, n, h => by
  rw [dig]
  split
  ·simp
  have := DU k (n / 10) (by rw [Nat.pow_succ] at h; omega)
  simp; omega
theorem AU : ∀ n : Nat, 1 < (dig n).length → (dig n).head? ≠ some 48
 | n => by
  rw [dig]
  split
  ·simp
  rename_i h
  intro h2
  have ih := AU (n / 10)
  have hp := yV (n / 10)
  rw [List.head?_append]
  by_cases c : 1 < (dig (n / 10)).length
  ·intro e
   have := ih c
   cases hh : (dig (n / 10)).head? with
   | none => rw [List.head?_eq_none_iff] at hh; rw [hh] at hp; simp at hp
   | some a => rw [hh] at e this; simp at e; exact this (by rw [e])
  have h10 : n / 10 < 10 := by
   rcases Nat.lt_or_ge (n / 10) 10 with h | h
   ·exact h
   have : dig (n / 10) = dig (n / 10 / 10) ++ [UInt8.ofNat (48 + n / 10 % 10)] := by rw [dig, dif_neg (by omega)]
   have h3 := yV (n / 10 / 10)
   rw [this] at c
   simp at c
   rw [List.length_eq_zero_iff.2 c] at h3
   omega
  have e1 : dig (n / 10) = [UInt8.ofNat (48 + n / 10)] := by rw [dig, dif_pos h10]
  rw [e1]
  simp only [List.head?_cons, Option.some_or, ne_eq, Option.some.injEq]
  intro e
  have := congrArg UInt8.toNat e
  rw [UInt8.toNat_ofNat'] at this
  have h48 : (48 : UInt8).toNat = 48 := rfl
  rw [h48] at this
  omega
theorem Ju (a b : List UInt8) (i : Int) : (a ++ b).foldl qj i = b.foldl qj (a.foldl qj i) := List.foldl_append
theorem Dz (u d : Nat) (hd : d < 10) (hu : 10 * u + d < 18446744073709551616) : qj (u : Int) (UInt8.ofNat (48 + d)) = ((10 * u + d : Nat) : Int) := by
 unfold qj
 rw [UInt8.toNat_ofNat']
 have e : ((((48 + d) % 2 ^ 8 : Nat) : Int) - 48) % 256 = (d : Int) := by omega
 rw [e]
 have w : ∀ x : Int, 0 ≤ x → x < 18446744073709551616 → IntKind.u64.wrap x = x := fun x h1 h2 => by
  unfold IntKind.wrap; simp [IntKind.bits, IntKind.signed]; omega
 rw [w (10 * (u : Int)) (by omega) (by omega), w _ (by omega) (by omega)]
 omega
theorem Dy : ∀ n : Nat, n < 18446744073709551616 → num (dig n) = (n : Int)
 | n => fun h => by
  rw [dig]
  split
  ·rename_i h1
   have := Dz 0 n h1 (by omega)
   simp only [num, List.foldl_cons, List.foldl_nil]
   simpa using this
  rename_i h1
  have ih := Dy (n / 10) (by omega)
  unfold num at ih ⊢
  rw [Ju, ih, List.foldl_cons, List.foldl_nil, Dz _ _ (by omega) (by omega)]
  congr 1; omega
theorem He {n : Int} (h0 : 0 ≤ n) (h1 : n ≤ 9223372036854775807) : uS (oQ n) := by
 have hl := DU 18 n.toNat (by omega)
 have hp := yV n.toNat
 have hnum := Dy n.toNat (by omega)
 have hnO : numOf (dig n.toNat) = (n, true) := by
  unfold numOf
  have hlong : long (dig n.toNat) = false := by
   unfold long
   rw [Bool.or_eq_false_iff]
   refine ⟨decide_eq_false (by omega), ?_⟩
   by_cases c : 1 < (dig n.toNat).length
   ·have := AU n.toNat c
    simp [this]
   simp [c]
  rw [hlong, if_neg (by simp), hnum]
  have e : ((n.toNat : Nat) : Int) = n := by omega
  rw [e, decide_eq_true (by omega)]
  congr 1
  unfold wrap64; omega
 refine ⟨⟨(dig n.toNat).length, ?_⟩, by show (S (dig n.toNat)).size ≤ 3000; rw [fC]; omega, h1⟩
 have e : wr (oQ n) = dig n.toNat := by simp only [wr, oQ, show ¬ ((2 : Int) = 3) by omega, if_false, L_S]
 rw [e]
 have hd := H5 n.toNat
 rcases hx : dig n.toNat with _ | ⟨c, t⟩
 ·rw [hx] at hp; simp at hp
 rw [hx] at hnO hd
 have hc : di c = true := by simp only [List.all_cons, Bool.and_eq_true] at hd; exact hd.1
 have hle : le c = false := by
  unfold di at hc
  unfold le
  simp only [decide_eq_true_eq] at hc
  exact decide_eq_false (by omega)
 simp only [Lex.one]
 rw [if_neg (by rw [hle]; simp), if_pos hc, sG di _ hd, hnO]
 simp only [if_true, oQ, L_S, hx]
end Go.Proofs.Ytlenihbmafkegaa.Show
end
section
set_option linter.unusedVariables false
set_option linter.unusedSimpArgs false
namespace Go.Proofs.Ytlenihbmafkegaa.Show
open Go Go.RowKit Go.Proofs.YtlenihbmafkegaaW.PrintWords Go.Proofs.Ytlenihbmafkegaa.Q Go.Proofs.Ytlenihbmafkegaa.Lex Go.Proofs.Ytlenihbmafkegaa.Tree Go.Proofs.Ytlenihbmafkegaa.Par
theorem L6 : ∀ {ts : List (List S56)}, (∀ t ∈ ts, TG t) → TG (pW ts)
 | [], _ => TG.nil
 | a :: ts, h => by
  rw [uX]
  refine (h a (.head _)).app (fun x hx => ?_)
  unfold tZ at hx
  obtain ⟨t, ht, hx⟩ := List.mem_flatMap.1 hx
  rcases List.mem_cons.1 hx with rfl | hx
  ·exact mk1 44
  exact h t (.tail _ ht) x hx
theorem BA {ts : List (List S56)} (h : ∀ t ∈ ts, TG t) : TG (rowT ts) := TG.cons (mk1 40) ((L6 h).app (TG.cons (mk1 41) TG.nil))
theorem MI {ts : List (List S56)} (h : ∀ t ∈ ts, TG t) : TG (ts.getLastD []) := by
 rw [List.getLastD_eq_getLast?]
 cases e : ts.getLast? with
 | none => exact TG.nil
 | some t => exact h t (List.mem_of_getLast? e)
theorem MP {ts : List (List S56)} (h : ∀ t ∈ ts, TG t) : TG (qU ts) := (BA (fun t ht => h t (List.dropLast_subset _ ht))).app (MI h)
theorem OC (w : List UInt8) (h : KEYS.contains w = true := by decide) : uS (W w) := GZ w (List.contains_iff_mem.1 h)
/-- Texts are short, whole numbers are whole numbers. -/
def GK (u : List S40) : Prop := ∀ x ∈ u, x.f2.size ≤ 3000 ∧ x.f4.size ≤ 3000 ∧ x.f3 ≤ 9223372036854775807
theorem NC {x : S40} {kt : List Int} {tt : List (List S56)} (hf : eF x = true) (hl : x.f2.size ≤ 3000 ∧ x.f4.size ≤ 3000 ∧ x.f3 ≤ 9223372036854775807) (h : ∀ t ∈ tt, TG t) : TG (mg x tt) := by
 have hkd := BU hf
 have nm : (x.f0 = 3 ∨ x.f0 = 4 ∨ x.f0 = 6 ∨ x.f0 = 7 ∨ x.f0 = 21) → uS (ofT x.f2) := fun hk => uq (g1 hk hf).1
 have k0 := TG.kT h 0
 have k1 := TG.kT h 1
 have k2 := TG.kT h 2
 have kr := BA h
 have kd := BA (ts := tt.drop 1) (fun t ht => h t (List.mem_of_mem_drop ht))
 have kf := MP h
 have kl := TG.flat h
 unfold mg
 have hc : x.f0 = 1 ∨ x.f0 = 2 ∨ x.f0 = 3 ∨ x.f0 = 4 ∨ x.f0 = 5 ∨ x.f0 = 6 ∨ x.f0 = 7 ∨ x.f0 = 8 ∨ x.f0 = 9 ∨ x.f0 = 10 ∨ x.f0 = 11 ∨ x.f0 = 12 ∨ x.f0 = 13 ∨ x.f0 = 14 ∨ x.f0 = 15 ∨ x.f0 = 16 ∨ x.f0 = 17 ∨ x.f0 = 18 ∨ x.f0 = 19 ∨ x.f0 = 20 ∨ x.f0 = 21 ∨ x.f0 = 22 ∨ x.f0 = 23 ∨ x.f0 = 24 ∨ x.f0 = 25 ∨ x.f0 = 26 ∨ x.f0 = 27 ∨ x.f0 = 28 ∨ x.f0 = 29 ∨ x.f0 = 30 := by omega
 rcases hc with h0 | h0 | h0 | h0 | h0 | h0 | h0 | h0 | h0 | h0 | h0 | h0 | h0 | h0 | h0 | h0 | h0 | h0 | h0 | h0 | h0 | h0 | h0 | h0 | h0 | h0 | h0 | h0 | h0 | h0
 all_goals simp only [stT, exT, paT, h0, Int.reduceEq, Int.reduceLE, and_self, and_true, true_and, and_false, false_and, if_true, if_false]
 case' inl => have hm := gm h0 hf; have n2 := uq hm.1; have ni := He (n := x.f3) (by omega) (by omega)
 case' inr.inl => have hm := g2 h0 hf; have n2 := uq hm.1; have n4 := uq hm.2.2; have ni := He (n := x.f3) (by omega) (by omega)
 all_goals try have nm2 := nm (by omega)
 all_goals try (have ni2 := He (n := x.f3) (g19 h0 hf).2.1 hl.2.2)
 all_goals try (have h23 := g23 h0 hf; have n23 := uq h23.1; have n234 := uq h23.2.2)
 all_goals try (have n27 := NI (.inl (g27 h0 hf).2.2))
 all_goals try (have n28 := NI (.inr (g28 h0 hf).2.2))
 all_goals have tx := N8 hl.2.1
 all_goals (try split)
 all_goals repeat (first | exact TG.nil | assumption | exact mk1 _ | exact OC _ | apply TG.app | apply TG.cons)
theorem GS.good {u K ts} (h : GS u K ts) : GK u → ∀ t ∈ ts, TG t := by
 induction h with
 | nil => intro _ t ht; cases ht
 | cons x t v kt kv tt tv hx hf hk ht hv ih1 ih2 =>
  intro hl y hy
  rcases List.mem_cons.1 hy with rfl | hy
  ·exact NC (kt := kt) hf (hl x List.mem_cons_self) (ih1 (fun z hz => hl z (List.mem_cons_of_mem _ (List.mem_append.2 (Or.inl hz)))))
  exact ih2 (fun z hz => hl z (List.mem_cons_of_mem _ (List.mem_append.2 (Or.inr hz)))) y hy
/-- How many tokens there are. -/
def tot (ts : List (List S56)) : Nat := ts.flatten.length
theorem NV (ts : List (List S56)) : (kT ts 0).length + (kT ts 1).length + (kT ts 2).length ≤ tot ts := by
 unfold tot Show.kT
 match ts with
 | [] => simp
 | [a] => simp
 | [a, b] => simp
 | a :: b :: c :: t => simp; omega
theorem DV : ∀ ts : List (List S56), (tZ ts).length = tot ts + ts.length
 | [] => rfl
 | a :: ts => by
  have := DV ts
  unfold tZ tot at *
  simp only [List.flatMap_cons, List.length_append, List.length_cons, List.flatten_cons] at *
  omega
theorem Ja (ts : List (List S56)) : (pW ts).length ≤ tot ts + ts.length := by
 cases ts with
 | nil => simp [pW]
 | cons a ts =>
  rw [uX, List.length_append, DV]
  unfold tot
  simp only [List.flatten_cons, List.length_append, List.length_cons]
  omega
theorem yx (ts : List (List S56)) : (rowT ts).length ≤ tot ts + ts.length + 2 := by
 have := Ja ts
 simp only [rowT, List.length_cons, List.length_append, List.length_nil]
 omega
theorem JD (ts : List (List S56)) : (qU ts).length ≤ tot ts + ts.length + 2 := by
 have := yx ts.dropLast
 have h2 : tot ts.dropLast + (ts.getLastD []).length ≤ tot ts := by
  rcases List.eq_nil_or_concat ts with rfl | ⟨l, a, rfl⟩
  ·simp [tot]
  simp [tot]
 have h3 : ts.dropLast.length ≤ ts.length := by rw [List.length_dropLast]; omega
 simp only [qU, List.length_append]
 omega
theorem Hz (ts : List (List S56)) : (kT ts 0).length + (rowT (ts.drop 1)).length ≤ tot ts + ts.length + 2 := by
 have := yx (ts.drop 1)
 unfold Show.kT
 cases ts with
 | nil => simp [tot, rowT, pW]
 | cons a t =>
  simp only [List.drop_succ_cons, List.drop_zero, tot, List.flatten_cons, List.length_append, List.length_cons, List.getD_cons_zero] at *
  omega
theorem DF {c : Prop} [Decidable c] {a b : List S56} {n : Nat} (h : a.length ≤ n) (k : b.length ≤ n) : (if c then a else b).length ≤ n := by
 by_cases hc : c
 ·rwa [if_pos hc]
 rwa [if_neg hc]
theorem Hy (x y : List S56) (c : Prop) [Decidable c] (w : S56) : (if c then w :: x else []).length ≤ x.length + 1 := DF (by simp) (by simp)
theorem IQ (x : S40) (tt : List (List S56)) : (mg x tt).length ≤ tot tt + tt.length + 10 := by
 have a1 := NV tt
 have a2 := yx tt
 have a3 := JD tt
 have a4 := Hz tt
 have a5 : tt.flatten.length = tot tt := rfl
 unfold mg stT exT paT
 have a6 := Hy (kT tt 2) [] (2 < tt.length) (W [101, 108, 115, 101])
 repeat' (refine DF ?_ ?_)
 all_goals simp only [List.length_append, List.length_cons, List.length_nil]
 all_goals omega
theorem GS.O5 {u K ts} (h : GS u K ts) : tot ts + ts.length ≤ 12 * u.length := by
 induction h with
 | nil => simp [tot]
 | cons x t v kt kv tt tv hx hf hk ht hv ih1 ih2 =>
  have := IQ x tt
  unfold tot at *
  simp only [List.flatten_cons, List.length_append, List.length_cons] at *
  omega
theorem NY {u K D} (h : GF u K D) : ∃ ts, GS u K ts := by
 induction h with
 | nil => exact ⟨[], GS.nil⟩
 | cons x t v kt kv D1 D2 hx hf hk ht hv ih1 ih2 =>
  obtain ⟨tt, h1⟩ := ih1
  obtain ⟨tv, h2⟩ := ih2
  exact ⟨_, GS.cons x t v kt kv tt tv hx hf hk h1 h2⟩
end Go.Proofs.Ytlenihbmafkegaa.Show
end
section
set_option linter.unusedVariables false
set_option linter.unusedSimpArgs false
namespace Go.Proofs.Ytlenihbmafkegaa.Show
open Go Go.RowKit Go.Proofs.YtlenihbmafkegaaW.PrintWords Go.Proofs.Ytlenihbmafkegaa.Q Go.Proofs.Ytlenihbmafkegaa.Lex Go.Proofs.Ytlenihbmafkegaa.Tree Go.Proofs.Ytlenihbmafkegaa.Par
theorem Aa (n : Int) (r : List S56) : need 2 (oQ n :: r) = .ok (oQ n, r) := by simp [need, oQ]
theorem nz : wd [] = [] := by
 show (E : ByteArray).toList = []
 rw [iL]; rfl
theorem ET (nm : ByteArray) (v : Int) {es ks tks} (h : CLs es ks tks) (ha : ks.all (· == 3) = true) : ∃ N0, ∀ N, N0 ≤ N → ∀ acc m, oq (fU N) N nm v (m + es.length + 1) acc tks.flatten = .ok (nd 1 nm v E (acc ++ es), []) := by
 induction h with
 | nil => exact ⟨0, fun N _ acc m => by
  rw [oq]
  show (if wd [] = [102, 110] then _ else _) = _
  rw [nz, if_neg (by decide)]; simp⟩
 | @cons e k tk es ks tks h t ih =>
  simp only [List.all_cons, Bool.and_eq_true, beq_iff_eq] at ha
  obtain ⟨s, ps, b, ts, tb, hs, p1, p2, rfl, rfl⟩ := h.fu ha.1
  obtain ⟨N1, h1⟩ := ih ha.2
  obtain ⟨N2, h2⟩ := Au 3 s p1 p2
  refine ⟨N1 + N2, fun N hN acc m => ?_⟩
  rw [List.length_cons, ← Nat.add_assoc, oq, List.flatten_cons, List.append_assoc, List.cons_append]
  (try dsimp only)
  rw [jr, if_pos rfl, bM (gu _ _), List.cons_append, bM (jX _ hs), List.nil_append]
  have e1 : iR (fU N) N 3 (ofT s).f1 (qU (ts ++ [tb]) ++ tks.flatten) = _ := h2 N (by omega) tks.flatten
  rw [bM e1, h1 N (by omega) _ m]
  simp
theorem F5 {s u : ByteArray} (n : Int) (hs : dS (L s) = true) (hu : dS (L u) = true) (r : List S56) : yh ([ofT s, W [46], ofT u, W [47], oQ n, W [59]] ++ r) = .ok (nd 2 s n u [], r) := by
 unfold yh
 simp only [List.cons_append, List.nil_append]
 rw [bM (jX _ hs), bM (iw _), bM (jX _ hu), bM (iw _), bM (Aa _ _), bM (iw _)]
 rfl
theorem Et (nm : ByteArray) (v : Int) {es ks tks} (h : CLs es ks tks) (ha : rP ks = true) : ∃ N0, ∀ N, N0 ≤ N → ∀ acc m, mF (fU N) N nm v (m + es.length + 1) acc tks.flatten = .ok (nd 1 nm v E (acc ++ es), []) := by
 have go : ∀ {es ks tks} (h : CLs es ks tks), ks.all (· == 3) = true → ∃ N0, ∀ N, N0 ≤ N → ∀ acc m, mF (fU N) N nm v (m + 1) acc tks.flatten = .ok (nd 1 nm v E (acc ++ es), []) := by
  intro es ks tks h ha
  obtain ⟨N0, h0⟩ := ET nm v h ha
  refine ⟨N0 + es.length + 1, fun N hN acc m => ?_⟩
  have hw : wd tks.flatten ≠ [117, 115, 101] := by
   cases h with
   | nil => show wd [] ≠ _; rw [nz]; decide
   | cons h t =>
    simp only [List.all_cons, Bool.and_eq_true, beq_iff_eq] at ha
    obtain ⟨s, ps, b, ts, tb, hs, p1, p2, rfl, rfl⟩ := h.fu ha.1
    rw [List.flatten_cons, List.append_assoc, List.cons_append, jr]; decide
  rw [mF]
  (try dsimp only)
  rw [if_neg hw]
  obtain ⟨q, hq⟩ : ∃ q, N = q + es.length + 1 := ⟨N - es.length - 1, by omega⟩
  have := h0 N (by omega) acc q
  rwa [← hq] at this
 induction h with
 | nil =>
  obtain ⟨N0, h0⟩ := go .nil (by simp)
  exact ⟨N0, fun N hN acc m => h0 N hN acc m⟩
 | @cons e k tk es ks tks h t ih =>
  by_cases c : k = 2
  ·have ha' : rP ks = true := by
    unfold rP at ha ⊢
    rw [List.dropWhile_cons, if_pos (by simp [c])] at ha
    exact ha
   obtain ⟨s, u, n, hs, hu, rfl, rfl⟩ := h.us c
   obtain ⟨N1, h1⟩ := ih ha'
   refine ⟨N1, fun N hN acc m => ?_⟩
   rw [List.length_cons, ← Nat.add_assoc, mF, List.flatten_cons, List.cons_append]
   (try dsimp only)
   rw [jr, if_pos rfl, bM (gu _ _), bM (F5 n hs hu _), h1 N hN _ m]
   simp
  have ha' : (k :: ks).all (· == 3) = true := by
   unfold rP at ha
   rw [List.dropWhile_cons, if_neg (by simp [c])] at ha
   exact ha
  obtain ⟨N0, h0⟩ := go (.cons h t) ha'
  exact ⟨N0, fun N hN acc m => h0 N hN acc (m + (e :: es).length)⟩
theorem GI {x : S40} {es kt tt} (hk : x.f0 = 1) (hx : x.f1 = (kt.length : Int)) (hf : eF x = true) (hm : rP kt = true) (h : CLs es kt tt) : ∃ N0, ∀ N, N0 ≤ N → jC (fU N) N (mg x tt) = .ok (x :: es.flatten, []) := by
 obtain ⟨a, b, d⟩ := gm hk hf
 obtain ⟨N0, h0⟩ := Et x.f2 x.f3 h hm
 refine ⟨N0 + es.length + 1, fun N hN => ?_⟩
 rw [show mg x tt = W [109, 111, 100, 117, 108, 101] :: ofT x.f2 :: oQ x.f3 :: W [59] :: tt.flatten by simp [mg, paT, hk]]
 unfold jC
 rw [bM (iw _), bM (jX _ a), bM (Aa _ _), bM (iw _)]
 obtain ⟨q, hq⟩ : ∃ q, N = q + es.length + 1 := ⟨N - es.length - 1, by omega⟩
 have := h0 N (by omega) [] q
 rw [← hq] at this
 show mF (fU N) N x.f2 x.f3 N [] tt.flatten = _
 rw [this, iG hk (by rw [hx, h.len]) rfl rfl d]
 rfl
end Go.Proofs.Ytlenihbmafkegaa.Show
end
section
set_option linter.unusedVariables false
set_option linter.unusedSimpArgs false
namespace Go.Proofs.Ytlenihbmafkegaa.Par
open Go Go.RowKit Go.Proofs.YtlenihbmafkegaaW.PrintWords Go.Proofs.Ytlenihbmafkegaa.Q Go.Proofs.Ytlenihbmafkegaa.Lex Go.Proofs.Ytlenihbmafkegaa.Tree
variable {ts : List S56} {q : Int}
theorem iO (w : ByteArray) (wl : List UInt8) (hwl : L w = wl) (hw : wl ≠ []) : aC.f ts q true w = some (q, true) := G6 ts q w (by rw [iE w wl hwl]; exact hw)
theorem noE (w : List UInt8) (hw : w ≠ []) : ¬ E.toList = w := fun h => hw (h.symm.trans IB)
theorem fE (k : Int) (nm : ByteArray) (n : Int) (tx : ByteArray) (kids : List (List S40)) : (nd k nm n tx kids).length = kids.flatten.length + 1 := by simp [nd]
theorem iF {α : Type} {k0 : Int} {nm : ByteArray} {n : Int} {tx : ByteArray} {z : Int} {kids : List (List S40)} {G : Nat → List S40 → Option α} {v : α} (hk : kids.length ≤ 1000000) (hs : kids.flatten.length ≤ 100000000) (h : ag (fun k => G k (nd k0 nm n tx kids)) v) :
 ag (fun k => (az.f k k0 z nm n tx kids).bind (G k)) v := ag.bind (wu k0 nm n tx z kids hk hs) h
variable {FF : Nat → Fam}
theorem EN : ag (fun k => fA.f (FF k) k ts q true) (([] : List (List S40)), q, true) := by
 refine ag.congr (fun k => by unfold fA.f; rw [iO _ [40] rfl (by simp)]) ?_
 simp only [Option.bind_some]
 refine ag.step (fun k => by rw [fA.l0]) ?_
 refine ag.pos rfl ?_
 refine ag.step (fun k => by rw [fA.j1]) ?_
 refine ag.neg (by simp) ?_
 rw [iO _ [41] rfl (by simp)]
 exact ag.now
theorem EM : ag (fun k => dZ.f k ts q true) (([] : List (List S40)), q, true) := by
 refine ag.congr (fun k => by unfold dZ.f; rw [iO _ [40] rfl (by simp)]) ?_
 simp only [Option.bind_some]
 refine ag.step (fun k => by rw [dZ.l0]) ?_
 refine ag.pos rfl ?_
 refine ag.step (fun k => by rw [dZ.j1]) ?_
 refine ag.neg (by simp) ?_
 rw [iO _ [41] rfl (by simp)]
 exact ag.now
theorem GR : ag (fun k => dX.f (FF k) k ts q true) (([] : List S40), q, true) := by
 refine ag.kG fun k => ?_
 unfold dX.f
 rw [Gx]; rfl
theorem uB : ag (fun k => aN.f (FF k) k ts q true) (nd 5 E 0 E [], q, true) := by
 refine ag.congr (fun k => by unfold aN.f; rw [iO _ [123] rfl (by simp)]) ?_
 simp only [Option.bind_some]
 refine ag.step (fun k => by rw [aN.l0]) ?_
 refine ag.pos rfl ?_
 rw [iO _ [125] rfl (by simp)]
 exact iF (by simp) (by simp) ag.now
theorem yR (k0 : Int) (nm : ByteArray) : ag (fun k => bg.f (FF k) k ts q true k0 0 nm 0 E) (nd k0 nm 0 E [nd 5 E 0 E []], q, true) := by
 unfold bg.f
 refine ag.bind EM (ag.bind uB (ag.pos (by simp) ?_))
 exact iF (by simp) (by simp [nd]) ag.now
theorem Gj : ag (fun k => dN.f (FF k) k ts q true) (([] : List S40), q, true) := by
 refine ag.congr (fun k => by unfold dN.f; rw [vI]) ?_
 simp only [Option.bind_some]
 exact ag.neg (noE _ (by simp)) (ag.neg (noE _ (by simp)) (ag.neg (noE _ (by simp)) (ag.neg (noE _ (by simp)) (ag.neg (noE _ (by simp)) (ag.bind GR ag.now)))))
theorem qf (e : List S40) : ag (fun k => ax.l0 (FF k) k e ts q true) (e, q, true) := by
 refine ag.step (fun k => by rw [ax.l0]) ?_
 exact ag.pos rfl ag.now
theorem vN : ag (fun k => ax.f (FF k) k ts q true) (([] : List S40), q, true) := by
 refine ag.congr (fun k => by unfold ax.f; rw [vI]) ?_
 simp only [Option.bind_some]
 refine ag.neg (noE _ (by simp)) (ag.neg (noE _ (by simp)) ?_)
 refine ag.step (fun k => by rw [ax.j0]) ?_
 refine ag.neg (by rw [beq_iff_eq]; exact noE _ (by simp)) (ag.neg (noE _ (by simp)) ?_)
 exact ag.bind Gj (qf [])
/-- What the family's functions come to behind a fault. -/
structure OkB (FF : Nat → Fam) : Prop where
 expr : ∀ (ts : List S56) (q : Int), ag (fun k => (FF k).expr ts q true) (([] : List S40), q, true)
 block : ∀ (ts : List S56) (q : Int), ag (fun k => (FF k).block ts q true) (nd 5 E 0 E [], q, true)
 bound : ∀ (ts : List S56) (q : Int) (a : Int), 1 ≤ a → a ≤ 6 → ag (fun k => (FF k).bound ts q true a) (([] : List S40), q, true)
 unary : ∀ (ts : List S56) (q : Int), ag (fun k => (FF k).unary ts q true) (([] : List S40), q, true)
theorem ag.shift {α : Type} {F : Nat → Option α} {v : α} (h : ag F v) : ag (fun k => F (k + 1)) v := by
 obtain ⟨n, hn⟩ := h
 exact ⟨n, fun j hj => hn (j + 1) (by omega)⟩
theorem OkB.shift {FF : Nat → Fam} (h : OkB FF) : OkB (fun k => FF (k + 1)) :=
 ⟨fun ts q => ag.shift (h.expr ts q), fun ts q => ag.shift (h.block ts q), fun ts q a h1 h2 => ag.shift (h.bound ts q a h1 h2), fun ts q => ag.shift (h.unary ts q)⟩
theorem rW (a : Int) (e : List S40) : ag (fun k => aJ.l0 (FF k) k a e ts q true) (e, q, true) := by
 refine ag.step (fun k => by rw [aJ.l0]) ?_
 exact ag.pos rfl ag.now
theorem CS : ag (fun k => aJ.f (FF k) k ts q true 6) (([] : List S40), q, true) := by
 unfold aJ.f
 exact ag.pos rfl (ag.bind vN ag.now)
theorem mZ (a : Int) (h1 : 1 ≤ a) (h2 : a ≤ 5) (h : ag (fun k => (FF k).bound ts q true (a + 1)) (([] : List S40), q, true)) : ag (fun k => aJ.f (FF k) k ts q true a) (([] : List S40), q, true) := by
 unfold aJ.f
 rw [w64 (n := a + 1) (by omega) (by omega)]
 exact ag.neg (by omega) (ag.bind h (rW a []))
theorem mX (ts : List S56) (q : Int) (a : Int) (b : Bool) (v : List S40 × Int × Bool) (h : ag (fun k => aJ.f (fam k) k ts q b a) v) : ag (fun k => (fam k).bound ts q b a) v := ag.step (fun k => rfl) h
theorem tq : OkB fam := by
 have b6 : ∀ ts q, ag (fun k => (fam k).bound ts q true 6) (([] : List S40), q, true) := fun ts q => mX ts q 6 true _ CS
 have b5 : ∀ ts q, ag (fun k => (fam k).bound ts q true 5) (([] : List S40), q, true) := fun ts q => mX ts q 5 true _ (mZ 5 (by omega) (by omega) (b6 ts q))
 have b4 : ∀ ts q, ag (fun k => (fam k).bound ts q true 4) (([] : List S40), q, true) := fun ts q => mX ts q 4 true _ (mZ 4 (by omega) (by omega) (b5 ts q))
 have b3 : ∀ ts q, ag (fun k => (fam k).bound ts q true 3) (([] : List S40), q, true) := fun ts q => mX ts q 3 true _ (mZ 3 (by omega) (by omega) (b4 ts q))
 have b2 : ∀ ts q, ag (fun k => (fam k).bound ts q true 2) (([] : List S40), q, true) := fun ts q => mX ts q 2 true _ (mZ 2 (by omega) (by omega) (b3 ts q))
 refine ⟨fun ts q => ag.step (fun k => rfl) ?_, fun ts q => ag.step (fun k => rfl) uB, fun ts q a h1 h2 => ?_, fun ts q => ag.step (fun k => rfl) vN⟩
 ·show ag (fun k => dJ.f (fam k) k ts q true) _
  unfold dJ.f
  exact ag.bind (mZ 1 (by omega) (by omega) (b2 ts q)) ag.now
 rcases (show a = 1 ∨ a = 2 ∨ a = 3 ∨ a = 4 ∨ a = 5 ∨ a = 6 by omega) with rfl | rfl | rfl | rfl | rfl | rfl
 ·exact mX ts q 1 true _ (mZ 1 (by omega) (by omega) (b2 ts q))
 ·exact b2 ts q
 ·exact b3 ts q
 ·exact b4 ts q
 ·exact b5 ts q
 exact b6 ts q
theorem rV (H : OkB FF) (k0 : Int) (nm : ByteArray) : ag (fun k => bH.f (FF k) k ts q true k0 0 nm 0 E) (nd k0 nm 0 E [[]], q, true) := by
 unfold bH.f
 refine ag.bind (H.expr ts q) ?_
 rw [iO _ [59] rfl (by simp)]
 exact iF (by simp) (by simp) ag.now
theorem EF : ag (fun k => dF.f k ts q true) (nd 4 E 0 E [], q, true) := by
 unfold dF.f
 rw [lg]
 exact iF (by simp) (by simp) ag.now
end Go.Proofs.Ytlenihbmafkegaa.Par
end
