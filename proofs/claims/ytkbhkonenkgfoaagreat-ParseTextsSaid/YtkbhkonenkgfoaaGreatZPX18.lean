/- Walks over functions of the program, words for them, and what the functions come to; of each text only what this claim uses; no condition. -/
import Derived.Test.YtkbhkonenkgfoaaGreatZPX0
import Derived.Test.YtkbhkonenkgfoaaGreatZPX13
import Derived.Test.YtkbhkonenkgfoaaGreatZPX17
section
set_option linter.unusedVariables false
set_option linter.unusedSimpArgs false
namespace Go.Proofs.YtkbhkonenkgfoaaGreat.Lex
open Go Go.RowKit Go.Proofs.YtkbhkonenkgfoaaGreatW.PrintWords Go.Proofs.YtkbhkonenkgfoaaGreat.Q
theorem FO (n : Nat) (w l : List UInt8) (h : w.length = n) : w.isPrefixOf l = (l.take n == w) := by
 rw [Bool.eq_iff_iff, lq, beq_iff_eq, h]
 constructor
 ·exact fun q => q.2
 intro q
 refine ⟨?_, q⟩
 have := congrArg List.length q
 rw [List.length_take, h] at this
 omega
theorem Cm (n : Nat) (l : List UInt8) : ∀ P : List (List UInt8), (∀ w ∈ P, w.length = n) → P.find? (fun w => w.isPrefixOf l) = if P.contains (l.take n) = true then some (l.take n) else none
 | [], _ => by simp
 | w :: P, h => by
  rw [List.find?_cons, FO n w l (h w (by simp)), List.contains_cons, Cm n l P (fun x hx => h x (by simp [hx]))]
  by_cases c : l.take n = w
  ·rw [show (l.take n == w) = true from beq_iff_eq.2 c]
   simp [c]
  rw [show (l.take n == w) = false from beq_eq_false_iff_ne.2 c]
  simp
theorem wF (c : UInt8) : ∀ l : List UInt8, (l.map fun d => [d]).contains [c] = l.contains c
 | [] => rfl
 | d :: l => by
  rw [List.map_cons, List.contains_cons, List.contains_cons, wF c l]
  congr 1
  rw [Bool.eq_iff_iff, beq_iff_eq, beq_iff_eq]
  simp
theorem Ez (l : List UInt8) : (match (PAIRS ++ nG.map fun c => [c]).find? (fun w => w.isPrefixOf l) with | some w => w.length | none => 0) = (Lex.mark l).length := by
 rw [List.find?_append, Cm 2 l PAIRS (by decide), Cm 1 l (nG.map fun c => [c]) (by decide)]
 unfold Lex.mark
 by_cases h : PAIRS.contains (l.take 2) = true
 ·rw [if_pos h, if_pos h]; rfl
 rw [if_neg h, if_neg h]
 cases l with
 | nil =>
  rfl
 | cons c t =>
  have e : (nG.map fun c => [c]).contains ((c :: t).take 1) = nG.contains c := wF c nG
  rw [e]
  show _ = (if nG.contains c = true then [c] else []).length
  by_cases h2 : nG.contains c = true
  ·rw [if_pos h2, if_pos h2]; rfl
  rw [if_neg h2, if_neg h2]; rfl
theorem Ir (s : ByteArray) (hs : s.size ≤ 140737488351232) (at' : Nat) (ha : at' ≤ s.size) : af (fun k => bZ.f k s (at' : Int)) (((Lex.mark ((L s).drop at')).length : Nat) : Int) := by
 unfold bZ.f
 rw [← Ez]
 exact Iq s hs at' ha _ (by simp) (by decide) 20 0 (by simp)
/-! one -/
def Af (at' : Nat) : Except Int (Int × List UInt8 × Int × Nat) → Int × ByteArray × Int × Int × Int × Int
 | .ok (k, x, n, m) => (k, S x, n, (at' : Int), (m : Int), 0)
 | .error e => (0, (⟨#[]⟩ : ByteArray), 0, 0, 0, e)
theorem G9 (s : ByteArray) (p n : Nat) (x : List UInt8) (h : ((L s).drop p).take n = x) : s.extract p (p + n) = S x := yO (by rw [yP, h, L_S])
theorem JY (s : ByteArray) (hs : s.size ≤ 140737488351232) (p : Nat) (d : List UInt8) (hd0 : ((L s).drop p).takeWhile di = d) : ∀ (m n : Nat), s.size = m + (p + n) → n + (((L s).drop (p + n)).takeWhile di).length = d.length →
 af (fun k => dn.l0 k s (p : Int) (n : Int)) (Af p (if (numOf d).2 then .ok (2, d, (numOf d).1, d.length) else .error 10)) := by
 have hend : ∀ n, p + n ≤ s.size → n = d.length → af (fun k => (aV.f k (s.extract p (p + n))).bind fun (bt231 : Int × Bool) => (if bt231.2 = true then (some ((2 : Int), s.extract p (p + n), bt231.1, (p : Int), (n : Int), (0 : Int))) else (some ((0 : Int), (⟨#[]⟩ : ByteArray), (0 : Int), (0 : Int), (0 : Int), (10 : Int))))) (Af p (if (numOf d).2 then .ok (2, d, (numOf d).1, d.length) else .error 10)) := by
  intro n hn e
  subst e
  have e1 : s.extract p (p + d.length) = S d := G9 s p _ d (by rw [← hd0]; exact ou di _)
  rw [e1]
  refine af.bind (Ec _ (by rw [qN]; omega)) ?_
  rw [L_S]
  by_cases c : (numOf d).2 = true
  ·refine af.pos c ?_
   rw [if_pos c]
   exact af.now
  refine af.neg c ?_
  rw [if_neg c]
  exact af.now
 intro m
 induction m with
 | zero =>
  intro n h1 h2
  have hnil : (L s).drop (p + n) = [] := List.drop_eq_nil_of_le (by rw [← ed]; omega)
  rw [hnil] at h2
  simp only [List.takeWhile_nil, List.length_nil, Nat.add_zero] at h2
  have hw : wrap64 ((p : Int) + (n : Int)) = ((p + n : Nat) : Int) := by rw [w64 _ (by omega)]; omega
  refine af.step (fun k => by rw [dn.l0]) ?_
  simp only [hw, Int.toNat_natCast]
  exact af.neg (by omega) (af.pos (by omega) (af.pos (by omega) (af.pos (by omega) (hend n (by omega) h2))))
 | succ m ih =>
  intro n h1 h2
  have hd := jo (L s) (p + n) (by rw [← ed]; omega)
  have hb := uy s (p + n)
  generalize (L s).getD (p + n) 0 = c at hd hb
  have hw : wrap64 ((p : Int) + (n : Int)) = ((p + n : Nat) : Int) := by rw [w64 _ (by omega)]; omega
  refine af.step (fun k => by rw [dn.l0]) ?_
  simp only [hw, hb, tH, Option.bind_some, Int.toNat_natCast]
  refine af.pos (by omega) (af.pos (by omega) ?_)
  rw [hd, List.takeWhile_cons] at h2
  by_cases c1 : di c = true
  ·refine af.pos c1 ?_
   rw [if_pos c1, List.length_cons] at h2
   rw [inc n 0 (by omega)]
   exact ih (n + 1) (by omega) (by rw [show p + (n + 1) = p + n + 1 by omega]; omega)
  refine af.neg c1 ?_
  rw [if_neg c1, List.length_nil, Nat.add_zero] at h2
  exact af.pos (by omega) (af.pos (by omega) (af.pos (by omega) (hend n (by omega) h2)))
theorem JV (s : ByteArray) (hs : s.size ≤ 140737488351232) (p : Nat) (hp : p < s.size) : af (fun k => dn.f k s (p : Int)) (Af p (Lex.one ((L s).drop p))) := by
 have hd := jo (L s) p (by rw [← ed]; omega)
 have hb := uy s p
 generalize (L s).getD p 0 = c at hd hb
 generalize ht : (L s).drop (p + 1) = t at hd
 have hlen : (c :: t).length = s.size - p := by rw [← hd, List.length_drop, ← ed]
 have hwr : ∀ n, n ≤ (c :: t).length → wrap64 ((p : Int) + (n : Int)) = ((p + n : Nat) : Int) := fun n hn => by rw [w64 _ (by omega)]; omega
 unfold dn.f
 refine af.pos (by omega) (af.pos (by omega) ?_)
 simp only [hb, uC, tH, Option.bind_some]
 rw [hd]
 simp only [Lex.one]
 by_cases c1 : le c = true
 ·refine af.pos c1 (af.bind (Dh s hs p (by omega)) ?_)
  have hw : vY ((L s).drop p) = ((c :: t).takeWhile inn).length := by rw [hd]; simp only [vY, c1, if_true]
  rw [hw, if_pos c1]
  have hle := jZ inn (c :: t)
  have hcut : s.extract p (p + ((c :: t).takeWhile inn).length) = S ((c :: t).takeWhile inn) := G9 s p _ _ (by rw [hd]; exact ou inn _)
  simp only [hwr _ hle, Int.toNat_natCast, hcut]
  refine af.pos (by omega) (af.pos (by omega) (af.bind (F8 _) ?_))
  rw [L_S]
  by_cases c2 : isKey ((c :: t).takeWhile inn) = true
  ·refine af.pos c2 ?_
   rw [if_pos c2]
   exact af.now
  refine af.neg c2 ?_
  rw [if_neg c2]
  by_cases c3 : ((c :: t).takeWhile inn).length ≤ 16
  ·refine af.neg (by omega) ?_
   rw [if_pos c3]
   exact af.now
  refine af.pos (by omega) ?_
  rw [if_neg c3]
  exact af.now
 refine af.neg c1 ?_
 rw [if_neg c1]
 by_cases c2 : di c = true
 ·refine af.pos c2 ?_
  rw [if_pos c2]
  exact JY s hs p _ (by rw [hd]) (s.size - p) 0 (by omega) (by rw [Nat.add_zero, hd]; omega)
 refine af.neg c2 ?_
 rw [if_neg c2]
 have e1 : ((c.toNat : Int) = 34) ↔ c = 34 := je c 34
 by_cases c3 : c = 34
 ·refine af.pos (e1.2 c3) (af.bind (JU s hs p hp) ?_)
  rw [if_pos c3, ht]
  cases hu : unq false t with
  | none =>
   refine af.pos rfl ?_
   exact af.now
  | some r =>
   obtain ⟨x, r⟩ := r
   have := qW t false x r hu
   simp only [List.length_cons] at hlen
   have e2 : s.size - r.length - p = (c :: t).length - r.length := by simp only [List.length_cons]; omega
   simp only [zQ, List.nil_append, e2]
   refine af.neg Z36 ?_
   exact af.now
 refine af.neg (fun h => c3 (e1.1 h)) (af.bind (Ir s hs p (by omega)) ?_)
 rw [if_neg c3, hd]
 have hml := wY (c :: t)
 by_cases c4 : Lex.mark (c :: t) = []
 ·refine af.pos (by rw [c4]; rfl) ?_
  rw [if_pos c4]
  exact af.now
 have hpos : 1 ≤ (Lex.mark (c :: t)).length := by
  rcases hz : Lex.mark (c :: t) with _ | ⟨a, b⟩
  ·exact absurd hz c4
  simp
 have hcut : s.extract p (p + (Lex.mark (c :: t)).length) = S (Lex.mark (c :: t)) := G9 s p _ _ (by rw [hd]; exact Ey _)
 simp only [hwr _ hml, Int.toNat_natCast, hcut]
 refine af.neg (by omega) (af.pos (by omega) (af.pos (by omega) ?_))
 rw [if_neg c4]
 exact af.now
/-! Scan -/
theorem Il (s : ByteArray) (h0 : s.size ≤ 8192) : ∀ (f p : Nat) (acc : List S37), s.size - p < f → p ≤ s.size → acc.length ≤ p →
 af (fun k => dm.l0 k s acc (p : Int)) (rO s.size acc (toks f ((L s).drop p))) := by
 intro f
 induction f with
 | zero => intro p acc h; omega
 | succ f ih =>
  intro p acc h1 h2 h3
  have hlen : ((L s).drop p).length = s.size - p := by rw [List.length_drop, ← ed]
  refine af.step (fun k => by rw [dm.l0]) ?_
  rcases hl : (L s).drop p with _ | ⟨c, t⟩
  ·rw [hl] at hlen
   simp only [List.length_nil] at hlen
   refine af.neg (by omega) (af.jR (fun k => ?_))
   simp [toks, rO]
  rw [hl] at hlen
  simp only [List.length_cons] at hlen
  refine af.pos (by omega) (af.bind (JV s (by omega) p (by omega)) ?_)
  rw [hl]
  simp only [toks]
  cases ho : Lex.one (c :: t) with
  | error e =>
   simp only [Af]
   refine af.neg (qQ ho (by simp)) (af.jR (fun k => ?_))
   simp only [rO, List.length_cons]
   congr 3
   omega
  | ok r =>
   obtain ⟨kd, x, n, m⟩ := r
   have hm := zl ho
   simp only [List.length_cons] at hm
   simp only [Af]
   have hw : wrap64 ((p : Int) + (m : Int)) = ((p + m : Nat) : Int) := by rw [w64 _ (by omega)]; omega
   simp only [hw]
   refine af.pos trivial (af.pos (by omega) (af.bind (Di s (by omega) (p + m) (by omega)) ?_))
   have e1 : (L s).drop (p + m) = (c :: t).drop m := by rw [← hl, List.drop_drop]
   rw [e1]
   have hsl := mf ((c :: t).drop m) false
   simp only [List.length_drop, List.length_cons] at hsl
   have hsuf : skp false ((c :: t).drop m) <:+ L s := (mO _ _).trans (by rw [← e1]; exact List.drop_suffix _ _)
   have e2 : (L s).drop (s.size - (skp false ((c :: t).drop m)).length) = skp false ((c :: t).drop m) := by
    have := List.suffix_iff_eq_drop.1 hsuf
    rw [← ed] at this
    exact this.symm
   have := ih (s.size - (skp false ((c :: t).drop m)).length) (acc ++ [(⟨kd, S x, n, (p : Int)⟩ : S37)]) (by omega) (by omega) (by simp only [List.length_append, List.length_cons, List.length_nil]; omega)
   rw [e2] at this
   have e4 : (p : Int) = ((s.size - (c :: t).length : Nat) : Int) := by simp only [List.length_cons]; omega
   rw [e4] at this ⊢
   generalize toks f (skp false ((c :: t).drop m)) = o at this ⊢
   cases o with
   | error e => exact this
   | ok ts => simpa only [rO, List.map_cons, tkS, List.append_assoc, List.singleton_append] using this
theorem IB (s : ByteArray) : af (fun k => dm.f k s) (wH s) := by
 unfold dm.f wH
 by_cases h : s.size ≤ 8192
 ·refine af.neg (by omega) ?_
  rw [if_pos h]
  have hz := Di s (by omega) 0 (by omega)
  refine af.bind hz ?_
  rw [List.drop_zero]
  have hl := mf (L s) false
  have hsuf := List.suffix_iff_eq_drop.1 (mO (L s) false)
  have := Il s h (s.size + 1) (s.size - (skp false (L s)).length) [] (by omega) (by omega) (by simp)
  rw [← ed] at hsuf
  rw [← hsuf] at this
  unfold Lex.scan
  rw [← ed]
  exact this
 refine af.pos (by omega) ?_
 rw [if_neg h]
 exact af.now
end Go.Proofs.YtkbhkonenkgfoaaGreat.Lex
end
section
set_option linter.unusedVariables false
set_option linter.unusedSimpArgs false
namespace Go.Proofs.YtkbhkonenkgfoaaGreat.Lex
open Go Go.RowKit Go.Proofs.YtkbhkonenkgfoaaGreatW.PrintWords Go.Proofs.YtkbhkonenkgfoaaGreat.Q
theorem L8 {l : List UInt8} {k : Int} {x : List UInt8} {n : Int} {m : Nat} (h : Lex.one l = .ok (k, x, n, m)) : n ≤ 9223372036854775807 := by
 have w : ∀ d, (numOf d).1 ≤ 9223372036854775807 := by
  intro d
  unfold numOf
  split
  ·decide
  show RowKit.wrap64 _ ≤ _
  unfold RowKit.wrap64; omega
 cases l with
 | nil => simp [Lex.one] at h
 | cons c t =>
  simp only [Lex.one] at h
  repeat' split at h
  all_goals first
   | (cases h; done)
   | (simp only [Except.ok.injEq, Prod.mk.injEq] at h; obtain ⟨_, _, rfl, _⟩ := h; first | exact w _ | decide)
theorem ES : ∀ (f : Nat) (l : List UInt8) (ts : List Tk), toks f l = .ok ts → ∀ t ∈ ts, t.n ≤ 9223372036854775807
 | 0, l, ts, h => by
  simp only [toks, Except.ok.injEq] at h
  subst h
  exact fun t ht => by cases ht
 | f + 1, [], ts, h => by
  simp only [toks, Except.ok.injEq] at h
  subst h
  exact fun t ht => by cases ht
 | f + 1, c :: u, ts, h => by
  simp only [toks] at h
  split at h
  ·cases h
  rename_i k x n j ho
  split at h
  ·cases h
  rename_i us hu
  simp only [Except.ok.injEq] at h
  subst h
  intro t ht
  rcases List.mem_cons.1 ht with rfl | ht
  ·exact L8 ho
  exact ES f _ us hu t ht
end Go.Proofs.YtkbhkonenkgfoaaGreat.Lex
namespace Go.Proofs.YtkbhkonenkgfoaaGreat.Par
open Go Go.RowKit Go.Proofs.YtkbhkonenkgfoaaGreatW.PrintWords Go.Proofs.YtkbhkonenkgfoaaGreat.Q Go.Proofs.YtkbhkonenkgfoaaGreat.Lex Go.Proofs.YtkbhkonenkgfoaaGreat.Tree
theorem IY : af (fun k => bV.f k) true := af.Ky (fun k r h => bV.mono k r h) 300 bV.at
theorem Dx : af (fun k => (bV.f k).bind fun t => some t) true := af.bind IY af.now
theorem JR (x : List S29) (hx : x.length ≤ 100000) : ∀ (m i : Nat), x.length = m + i → af (fun k => bK.l0 k x x (i : Int)) true := by
 intro m
 induction m with
 | zero =>
  intro i h
  refine af.step (fun k => by rw [bK.l0]) ?_
  exact af.neg (by omega) af.now
 | succ m ih =>
  intro i h
  refine af.step (fun k => by rw [bK.l0]) ?_
  rw [Tree.inc i (by omega)]
  exact af.pos (by omega) (af.pos (by omega) (af.pos (by omega) (af.neg (by simp) (ih (i + 1) (by omega)))))
theorem Fe (x : List S29) (hx : x.length ≤ 100000) : af (fun k => bK.f k x x) true := by
 unfold bK.f
 exact af.pos rfl (JR x hx x.length 0 (by omega))
theorem Ha (ts : List S37) (r : R (List S29)) : (Jk ts r).1.length ≤ 2000 := by
 unfold Jk
 split
 ·rename_i x
  by_cases c : (mJ x).1 = 0
  ·rw [if_pos c]
   unfold mJ at c
   by_cases d : 2000 < x.length
   ·rw [if_pos d] at c; exact absurd c (by simp)
   exact Nat.le_of_not_lt d
  rw [if_neg c]; simp
 all_goals simp
theorem DX {s : ByteArray} (hs : s.size ≤ 3000) {us : List Tk} (h : Lex.scan (L s) = .ok us) : (us.map (tkS s.size)).length ≤ 3000 ∧ TB (us.map (tkS s.size)) ∧ small (us.map (tkS s.size)) := by
 obtain ⟨h1, h2⟩ := Fb h
 have h3 := ES _ _ us h
 rw [← ed] at h1
 have h2 : ∀ t ∈ us, 1 ≤ t.rem ∧ t.rem ≤ s.size ∧ t.text.length ≤ s.size := fun t ht => by have := h2 t ht; rw [← ed] at this; exact this
 refine ⟨by simp; omega, fun t ht => ?_, fun t ht => ?_⟩
 ·obtain ⟨u, hu, rfl⟩ := List.mem_map.1 ht
  have := h2 u hu
  exact ⟨by show (S u.text).size ≤ 3000; rw [qN]; omega, h3 u hu⟩
 obtain ⟨u, hu, rfl⟩ := List.mem_map.1 ht
 have := h2 u hu
 show -9223372036854775808 ≤ ((s.size - u.rem : Nat) : Int) ∧ ((s.size - u.rem : Nat) : Int) ≤ 4611686018427387904
 omega
/-- Both answers. -/
theorem DY (s : ByteArray) (hs : s.size ≤ 3000) : ∃ v : List S29 × Int × Int, v.1.length ≤ 2000 ∧ af (fun k => gu.f k s) v ∧ af (fun k => fJ.f k s) v := by
 have hS := La s
 have hR := IB s
 unfold wH at hS hR
 rw [if_pos (by omega)] at hS hR
 unfold gu.f fJ.f
 match h : Lex.scan (L s) with
 | .error (e, r) =>
  rw [h] at hS hR
  obtain ⟨h1, _⟩ := Fa h
  exact ⟨([], e, ((s.size - r : Nat) : Int)), by simp, af.bind hS (af.neg h1 af.now), af.bind hR (af.neg h1 af.now)⟩
 | .ok us =>
  rw [h] at hS hR
  obtain ⟨t1, t2, t3⟩ := DX hs h
  obtain ⟨n0, hr⟩ := rounds 3000
  have hn := (hr n0 (Nat.le_refl _)).2 _ t1 t2
  have hA := JK _ (by omega) t3 n0 hn
  have hB := Ig _ (by omega) t3 n0 hn
  exact ⟨_, Ha _ (kS (oZ n0) n0 (us.map (tkS s.size))), af.bind hS (af.pos rfl (af.bind hA af.now)), af.bind hR (af.pos rfl (af.bind hB af.now))⟩
theorem Ia (s : ByteArray) (v : List S29 × Int × Int) (h1 : v.1.length ≤ 2000) (h2 : af (fun k => gu.f k s) v) : ∀ (m i : Nat) (x : List S29), x.length ≤ 2000 → x.length = m + i → af (fun k => aA.l0 k s x v.1 true (i : Int)) true := by
 intro m
 induction m with
 | zero =>
  intro i x hx h
  refine af.step (fun k => by rw [aA.l0]) ?_
  exact af.neg (by omega) (af.bind h2 (af.pos rfl (af.bind (Fe _ (by omega)) (af.pos rfl Dx))))
 | succ m ih =>
  intro i x hx h
  refine af.step (fun k => by rw [aA.l0]) ?_
  rw [Tree.inc i (by omega)]
  exact af.pos (by omega) (af.pos (by omega) (ih (i + 1) _ (by simpa using hx) (by rw [List.length_set]; omega)))
theorem texts : aA.Pure := by
 intro a0 ha
 refine af.one (F := fun k => aA.f k a0) ?_
 unfold aA.f
 by_cases h : (a0.size : Int) > 3000
 ·exact af.pos h Dx
 refine af.neg h ?_
 obtain ⟨v, h1, h2, h3⟩ := DY a0 (by omega)
 refine af.bind h2 (af.bind h3 (af.bind (Fe _ (by omega)) (af.pos rfl (af.pos rfl ?_))))
 rw [show (v.2.2 == v.2.2) = true from beq_self_eq_true _]
 refine af.step (fun k => by rw [aA.j0]) ?_
 exact Ia a0 v h1 h2 v.1.length 0 v.1 h1 (by omega)
end Go.Proofs.YtkbhkonenkgfoaaGreat.Par
namespace Go.Proofs.YtkbhkonenkgfoaaGreat.Pure
theorem ParseTexts : Q.aA.Pure := Par.texts
end Go.Proofs.YtkbhkonenkgfoaaGreat.Pure
end
