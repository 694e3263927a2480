/- Walks over functions of the program, words for them, and what the functions come to; of each text only what this claim uses; no condition. -/
import Derived.Test.YtkbhkonenkgfoaaGreatZPX0
import Derived.Test.YtkbhkonenkgfoaaGreatZPX10
import Derived.Test.YtkbhkonenkgfoaaGreatZPX11
import Derived.Test.YtkbhkonenkgfoaaGreatZPX12
import Derived.Test.YtkbhkonenkgfoaaGreatZPX13
import Derived.Test.YtkbhkonenkgfoaaGreatZPX14
section
set_option linter.unusedVariables false
set_option linter.unusedSimpArgs false
namespace Go.Proofs.YtkbhkonenkgfoaaGreat.Par
open Go Go.RowKit Go.Proofs.YtkbhkonenkgfoaaGreatW.PrintWords Go.Proofs.YtkbhkonenkgfoaaGreat.Q Go.Proofs.YtkbhkonenkgfoaaGreat.Lex Go.Proofs.YtkbhkonenkgfoaaGreat.Tree
theorem yz (ts : List S37) (q : Nat) (w : ByteArray) (hw : w.toList ≠ []) : fC.f ts (q : Int) false w = some (decide (wd (ts.drop q) = w.toList), (q : Int), false) := by
 unfold fC.f
 rw [if_neg (by simp)]
 cases h : ts.drop q with
 | nil =>
  have : ts.length ≤ q := List.drop_eq_nil_iff.1 h
  rw [if_neg (by omega), yS, decide_eq_false (fun e => hw e.symm)]
 | cons t r =>
  obtain ⟨h1, h2, _⟩ := mr ts q t r h
  rw [if_pos (by omega), if_pos (by omega), h2]
  show _ = some (decide ((if t.f0 = 5 ∨ t.f0 = 4 then t.f1 else E).toList = w.toList), (q : Int), false)
  by_cases c1 : t.f0 = 5
  ·rw [if_pos c1, if_pos (Or.inl c1), eqb]
  rw [if_neg c1]
  by_cases c2 : t.f0 = 4
  ·rw [if_pos c2, if_pos (Or.inr c2), eqb]
  rw [if_neg c2, if_neg (by omega), BD, decide_eq_false (fun e => hw e.symm)]
theorem pF (ts : List S37) (q : Nat) (hq : q ≤ 100000) (w : ByteArray) (hw : w.toList ≠ []) : bG.f ts (q : Int) false w = if wd (ts.drop q) = w.toList then some (true, ((q + 1 : Nat) : Int), false) else some (false, (q : Int), false) := by
 unfold bG.f
 rw [yz ts q w hw]
 simp only [Option.bind_some]
 rw [inc q (by omega)]
 by_cases c : wd (ts.drop q) = w.toList
 ·rw [if_pos c, decide_eq_true c, if_pos rfl]
 rw [if_neg c, decide_eq_false c, if_neg (by simp)]
theorem mQ (ts : List S37) (q : Int) (w : ByteArray) : bG.f ts q true w = some (false, q, true) := rfl
theorem Fg (ts : List S37) (q : Nat) (hq : q ≤ 100000) (w : ByteArray) (hw : w.toList ≠ []) : bi.f ts (q : Int) false w = if wd (ts.drop q) = w.toList then some (((q + 1 : Nat) : Int), false) else some ((q : Int), true) := by
 unfold bi.f
 rw [pF ts q hq w hw]
 by_cases c : wd (ts.drop q) = w.toList
 ·rw [if_pos c, if_pos c]; rfl
 rw [if_neg c, if_neg c]; rfl
theorem gV (ts : List S37) (q : Int) (w : ByteArray) : bi.f ts q true w = some (q, true) := rfl
theorem lV (ts : List S37) (q : Int) (k : Int) : jT.f ts q true k = some (0, E, 0, 0, q, true) := rfl
theorem Ed (ts : List S37) (q : Nat) (k : Int) (h : ts.drop q = []) : jT.f ts (q : Int) false k = some (0, E, 0, 0, (q : Int), true) := by
 unfold jT.f
 have : ts.length ≤ q := List.drop_eq_nil_iff.1 h
 rw [if_neg (by simp), if_pos (by omega)]; rfl
theorem BL (ts : List S37) (q : Nat) (hq : q ≤ 100000) (k : Int) (t : S37) (r : List S37) (h : ts.drop q = t :: r) : jT.f ts (q : Int) false k = if t.f0 = k then some (t.f0, t.f1, t.f2, t.f3, ((q + 1 : Nat) : Int), false) else some (0, E, 0, 0, (q : Int), true) := by
 obtain ⟨h1, h2, _⟩ := mr ts q t r h
 unfold jT.f
 rw [if_neg (by simp), if_neg (by omega), if_pos (by omega), h2, if_pos (show (q : Int) < 9223372036854775807 by omega)]; rfl
theorem KI (kids : List (List S29)) (hk : kids.length ≤ 1000000) : ∀ (m i : Nat) (acc : List S29), kids.length = m + i → acc.length + ((kids.drop i).flatten).length ≤ 1000000000 →
 af (fun k => aC.l0 k kids acc (i : Int)) (acc ++ (kids.drop i).flatten) := by
 intro m
 induction m with
 | zero =>
  intro i acc h1 h2
  rw [List.drop_eq_nil_of_le (by omega), List.flatten_nil, List.append_nil]
  refine af.step (fun k => by rw [aC.l0]) ?_
  exact af.neg (by omega) af.now
 | succ m ih =>
  intro i acc h1 h2
  have hi : i < kids.length := by omega
  have hr : nN kids (i : Int) = kids[i] := by simp [nN, List.getD_eq_getElem?_getD, List.getElem?_eq_getElem hi]
  rw [List.drop_eq_getElem_cons hi, List.flatten_cons] at h2 ⊢
  rw [List.length_append] at h2
  refine af.step (fun k => by rw [aC.l0]) ?_
  rw [hr, inc i (by omega)]
  refine af.pos (by omega) (af.pos (by omega) (af.pos (by omega) ?_))
  have := ih (i + 1) (acc ++ kids[i]) (by omega) (by rw [List.length_append]; omega)
  rw [List.append_assoc] at this
  exact this
theorem uI (k0 : Int) (nm : ByteArray) (n : Int) (tx : ByteArray) (z : Int) (kids : List (List S29)) (hk : kids.length ≤ 1000000) (hs : kids.flatten.length ≤ 100000000) : af (fun k => aC.f k k0 z nm n tx kids) (nd k0 nm n tx kids) := by
 have := KI kids hk kids.length 0 [⟨k0, (kids.length : Int), nm, n, tx⟩] (by omega) (by rw [List.drop_zero]; simp only [List.length_cons, List.length_nil]; omega)
 rw [List.drop_zero] at this
 exact this
/-- A mark that must stand there. -/
theorem ah.lm {β : Type} {ts : List S37} {q p d : Nat} {sB : β → Nat} {G : Nat → Int × Bool → Option (β × Int × Bool)} {f : Unit → Ps β} (w : ByteArray) (wl : List UInt8) (hwl : w.toList = wl) (hw : wl ≠ []) (hp : p ≤ ts.length) (hts : ts.length ≤ 40000) (hq : q ≤ p)
 (hok : p + 1 ≤ ts.length → ah ts q d sB (fun k => G k (((p + 1 : Nat) : Int), false)) (f () (ts.drop (p + 1))))
 (hbad : ∃ y, sB y ≤ 2 * (p - q) + d ∧ af (fun k => G k ((p : Int), true)) (y, (p : Int), true)) :
 ah ts q d sB (fun k => (bi.f ts (p : Int) false w).bind (G k)) (bnd (Par.must wl) f (ts.drop p)) := by
 subst hwl
 rw [Fg ts p (by omega) w hw]
 unfold bnd Par.must
 by_cases c : wd (ts.drop p) = w.toList
 ·rw [if_pos c, if_pos c]
  obtain ⟨t, r, e⟩ := sO (l := ts.drop p) (by rw [c]; exact hw)
  obtain ⟨h1, _, h3⟩ := mr ts p t r e
  have := hok (by omega)
  rw [h3] at this
  rw [e]
  exact this
 rw [if_neg c, if_neg c]
 obtain ⟨y, h1, h2⟩ := hbad
 exact ⟨y, p, hq, hp, rfl, h1, h2⟩
/-- A token of a kind that must stand there. -/
theorem ah.qp {β : Type} {ts : List S37} {q p d : Nat} {sB : β → Nat} {G : Nat → Int × ByteArray × Int × Int × Int × Bool → Option (β × Int × Bool)} {f : S37 → Ps β} (kd : Int) (hp : p ≤ ts.length) (hts : ts.length ≤ 40000) (hq : q ≤ p)
 (hok : ∀ t : S37, p + 1 ≤ ts.length → t.f0 = kd → ah ts q d sB (fun k => G k (t.f0, t.f1, t.f2, t.f3, ((p + 1 : Nat) : Int), false)) (f t (ts.drop (p + 1))))
 (hbad : ∃ y, sB y ≤ 2 * (p - q) + d ∧ af (fun k => G k (0, E, 0, 0, (p : Int), true)) (y, (p : Int), true)) :
 ah ts q d sB (fun k => (jT.f ts (p : Int) false kd).bind (G k)) (bnd (Par.need kd) f (ts.drop p)) := by
 obtain ⟨y, h1, h2⟩ := hbad
 cases e : ts.drop p with
 | nil =>
  rw [Ed ts p kd e]
  exact ⟨y, p, hq, hp, e, h1, h2⟩
 | cons t r =>
  rw [BL ts p (by omega) kd t r e]
  unfold bnd Par.need
  by_cases c : t.f0 = kd
  ·simp only [if_pos c]
   obtain ⟨g1, _, g3⟩ := mr ts p t r e
   have := hok t (by omega) c
   rw [g3] at this
   exact this
  simp only [if_neg c]
  exact ⟨y, p, hq, hp, e, h1, h2⟩
/-- A word that was looked at is passed. -/
theorem ah.rtk {β : Type} {ts : List S37} {q p d : Nat} {sB : β → Nat} {G : Nat → Bool × Int × Bool → Option (β × Int × Bool)} {f : Unit → Ps β} (w : ByteArray) (hw : w.toList ≠ []) (hwd : wd (ts.drop p) = w.toList) (hts : ts.length ≤ 40000)
 (hok : p + 1 ≤ ts.length → ah ts q d sB (fun k => G k (true, ((p + 1 : Nat) : Int), false)) (f () (ts.drop (p + 1)))) :
 ah ts q d sB (fun k => (bG.f ts (p : Int) false w).bind (G k)) (bnd Par.tk f (ts.drop p)) := by
 obtain ⟨t, r, e⟩ := sO (l := ts.drop p) (by rw [hwd]; exact hw)
 obtain ⟨h1, _, h3⟩ := mr ts p t r e
 rw [pF ts p (by omega) w hw, if_pos hwd]
 have := hok (by omega)
 rw [h3] at this
 rw [e]
 exact this
variable {ts : List S37} {q : Int}
theorem ah.jA {β : Type} {q p d : Nat} {sB : β → Nat} {G : Nat → Bool × Int × Bool → Option (β × Int × Bool)} {f : Unit → Ps β} {P2 : R β} (w : ByteArray) (wl : List UInt8) (hwl : w.toList = wl) (hw : wl ≠ []) (hp : p ≤ ts.length) (hts : ts.length ≤ 40000)
 (hok : p + 1 ≤ ts.length → ah ts q d sB (fun k => G k (true, ((p + 1 : Nat) : Int), false)) (f () (ts.drop (p + 1)))) (hno : wd (ts.drop p) ≠ wl → ah ts q d sB (fun k => G k (false, (p : Int), false)) P2) :
 ah ts q d sB (fun k => (bG.f ts (p : Int) false w).bind (G k)) (if wd (ts.drop p) = wl then (bnd Par.tk f) (ts.drop p) else P2) := by
 by_cases c : wd (ts.drop p) = wl
 ·rw [if_pos c]
  exact ah.rtk w (by rw [hwl]; exact hw) (by rw [hwl]; exact c) hts hok
 rw [if_neg c, pF ts p (by omega) w (by rw [hwl]; exact hw), if_neg (by rw [hwl]; exact c)]
 exact hno c
theorem kW {α : Type} {k0 : Int} {nm : ByteArray} {n : Int} {tx : ByteArray} {z : Int} {kids : List (List S29)} {G : Nat → List S29 → Option α} {v : α} (hk : kids.length ≤ 1000000) (hs : kids.flatten.length ≤ 100000000) (h : af (fun k => G k (nd k0 nm n tx kids)) v) :
 af (fun k => (aC.f k k0 z nm n tx kids).bind (G k)) v := af.bind (uI k0 nm n tx z kids hk hs) h
/-- A node that is made at the end; behind a fault. -/
theorem ah.join {q p d : Nat} {k0 : Int} {nm : ByteArray} {n : Int} {tx : ByteArray} {z : Int} {kids : List (List S29)} (hq : q ≤ p) (hp : p ≤ ts.length) (hts : ts.length ≤ 40000) (hk : kids.length ≤ 1000000) (hs : kids.flatten.length + 2 ≤ 2 * (p - q)) :
 ah ts q d sz (fun k => (aC.f k k0 z nm n tx kids).bind fun t => some (t, (p : Int), false)) (ret (nd k0 nm n tx kids) (ts.drop p)) :=
 ah.done _ hq hp (by unfold sz; rw [dZ]; omega) (kW hk (by omega) af.now)
theorem ah.Gx {q p d : Nat} {k0 : Int} {nm : ByteArray} {n : Int} {tx : ByteArray} {z : Int} {kids : List (List S29)} (hk : kids.length ≤ 1000000) (hs : kids.flatten.length + 2 ≤ 2 * (p - q) + d) (hb : p ≤ 100000) (hd : d ≤ 1000) :
 ∃ y, sz y ≤ 2 * (p - q) + d ∧ af (fun k => (aC.f k k0 z nm n tx kids).bind fun t => some (t, (p : Int), true)) (y, (p : Int), true) :=
 ⟨nd k0 nm n tx kids, by unfold sz; rw [dZ]; omega, kW hk (by omega) af.now⟩
end Go.Proofs.YtkbhkonenkgfoaaGreat.Par
end
section
set_option linter.unusedVariables false
set_option linter.unusedSimpArgs false
namespace Go.Proofs.YtkbhkonenkgfoaaGreat.Par
open Go Go.RowKit Go.Proofs.YtkbhkonenkgfoaaGreatW.PrintWords Go.Proofs.YtkbhkonenkgfoaaGreat.Q Go.Proofs.YtkbhkonenkgfoaaGreat.Lex Go.Proofs.YtkbhkonenkgfoaaGreat.Tree
variable {ts : List S37} {q : Int} {FF : Nat → iI}
theorem BN : af (fun k => aH.f k ts q true) (([] : List (List S29)), q, true) := by
 refine af.congr (fun k => by unfold aH.f; rw [gV]) ?_
 simp only [Option.bind_some]
 refine af.step (fun k => by rw [aH.l0]) ?_
 refine af.pos rfl ?_
 refine af.step (fun k => by rw [aH.j1]) ?_
 refine af.neg (by simp) ?_
 rw [gV]
 exact af.now
theorem GV : af (fun k => aJ.f (FF k) k ts q true) (([] : List (List S29)), q, true) := by
 refine af.congr (fun k => by unfold aJ.f; rw [gV]) ?_
 simp only [Option.bind_some]
 refine af.step (fun k => by rw [aJ.l0]) ?_
 refine af.pos rfl ?_
 refine af.step (fun k => by rw [aJ.j1]) ?_
 refine af.neg (by simp) ?_
 rw [gV]
 exact af.now
theorem rX : af (fun k => bD.f (FF k) k ts q true) (nd 5 E 0 E [], q, true) := by
 refine af.congr (fun k => by unfold bD.f; rw [gV]) ?_
 simp only [Option.bind_some]
 refine af.step (fun k => Z40) ?_
 refine af.pos rfl ?_
 rw [gV]
 exact kW (by simp) (by simp) af.now
theorem xU : af (fun k => dK.f (FF k) k ts q true) ([nd 5 E 0 E []], q, true) := by
 unfold dK.f
 exact af.bind BN (af.bind rX (af.pos (by simp) af.now))
theorem DZ : af (fun k => mP.f (FF k) k ts q true) (([] : List S29), q, true) := af.jR fun k => rfl
theorem pI (e : List S29) : af (fun k => az.l1 (FF k) k e ts q true) (e, q, true) := by
 refine af.step (fun k => by rw [az.l1]) ?_
 exact af.pos rfl af.now
theorem wJ : af (fun k => az.f (FF k) k ts q true) (([] : List S29), q, true) := by
 unfold az.f
 have st : ∀ (FF : Nat → iI) (i : Nat) (v : List S29 × Int × Bool), i < 3 → af (fun k => az.l0 (FF (k + 1)) k [(⟨#[45]⟩ : ByteArray), (⟨#[110, 111, 116]⟩ : ByteArray), (⟨#[108, 101, 110]⟩ : ByteArray)] ((i + 1 : Nat) : Int) ts q true) v → af (fun k => az.l0 (FF k) k [(⟨#[45]⟩ : ByteArray), (⟨#[110, 111, 116]⟩ : ByteArray), (⟨#[108, 101, 110]⟩ : ByteArray)] (i : Int) ts q true) v := by
  intro FF i v hi h
  refine af.step (fun k => Z37) ?_
  rw [mQ]
  simp only [Option.bind_some]
  rw [inc i (by omega)]
  exact af.pos Z34 (af.pos (by omega) (af.neg (by simp) h))
 refine st FF 0 _ (by omega) (st (fun k => FF (k + 1)) 1 _ (by omega) (st (fun k => FF (k + 1 + 1)) 2 _ (by omega) ?_))
 refine af.step (fun k => Z37) ?_
 refine af.neg (by simp) ?_
 rw [mQ]
 simp only [Option.bind_some]
 exact af.neg (by simp) (af.bind DZ (pI []))
/-- What the family's functions come to behind a fault. -/
structure OkR (FF : Nat → iI) : Prop where
 expr : ∀ (ts : List S37) (q : Int), af (fun k => (FF k).expr ts q true) (([] : List S29), q, true)
 block : ∀ (ts : List S37) (q : Int), af (fun k => (FF k).block ts q true) (nd 5 E 0 E [], q, true)
 at0 : ∀ (ts : List S37) (q : Int) (a : Int), 0 ≤ a → a ≤ 5 → af (fun k => (FF k).at0 ts q true a) (([] : List S29), q, true)
 unary : ∀ (ts : List S37) (q : Int), af (fun k => (FF k).unary ts q true) (([] : List S29), q, true)
theorem OkR.shift {FF : Nat → iI} (h : OkR FF) : OkR (fun k => FF (k + 1)) :=
 ⟨fun ts q => af.shift (h.expr ts q), fun ts q => af.shift (h.block ts q), fun ts q a h1 h2 => af.shift (h.at0 ts q a h1 h2), fun ts q => af.shift (h.unary ts q)⟩
theorem xJ (a i : Int) (e : List S29) : af (fun k => aK.l0 (FF k) k a e i ts q true) (e, q, true) := by
 refine af.step (fun k => by rw [aK.l0]) ?_
 refine af.pos rfl ?_
 refine af.step (fun k => by rw [aK.j1]) ?_
 exact af.neg (by simp) af.now
theorem Jj : af (fun k => aK.f (FF k) k ts q true 5) (([] : List S29), q, true) := by
 unfold aK.f
 exact af.pos rfl (af.bind wJ af.now)
theorem at_bad (a : Int) (h1 : 0 ≤ a) (h2 : a ≤ 4) (h : af (fun k => (FF k).at0 ts q true (a + 1)) (([] : List S29), q, true)) : af (fun k => aK.f (FF k) k ts q true a) (([] : List S29), q, true) := by
 unfold aK.f
 rw [w64 (n := a + 1) (by omega) (by omega)]
 exact af.neg (by omega) (af.bind h (xJ a 0 []))
theorem ru (ts : List S37) (q : Int) (a : Int) (b : Bool) (v : List S29 × Int × Bool) (h : af (fun k => aK.f (mY k) k ts q b a) v) : af (fun k => (mY k).at0 ts q b a) v := af.step (fun k => rfl) h
theorem tX : OkR mY := by
 have b5 : ∀ ts q, af (fun k => (mY k).at0 ts q true 5) (([] : List S29), q, true) := fun ts q => ru ts q 5 true _ Jj
 have b4 : ∀ ts q, af (fun k => (mY k).at0 ts q true 4) (([] : List S29), q, true) := fun ts q => ru ts q 4 true _ (at_bad 4 (by omega) (by omega) (b5 ts q))
 have b3 : ∀ ts q, af (fun k => (mY k).at0 ts q true 3) (([] : List S29), q, true) := fun ts q => ru ts q 3 true _ (at_bad 3 (by omega) (by omega) (b4 ts q))
 have b2 : ∀ ts q, af (fun k => (mY k).at0 ts q true 2) (([] : List S29), q, true) := fun ts q => ru ts q 2 true _ (at_bad 2 (by omega) (by omega) (b3 ts q))
 have b1 : ∀ ts q, af (fun k => (mY k).at0 ts q true 1) (([] : List S29), q, true) := fun ts q => ru ts q 1 true _ (at_bad 1 (by omega) (by omega) (b2 ts q))
 refine ⟨fun ts q => af.step (fun k => rfl) ?_, fun ts q => af.step (fun k => rfl) rX, fun ts q a h1 h2 => ?_, fun ts q => af.step (fun k => rfl) wJ⟩
 ·show af (fun k => eX.f (mY k) k ts q true) _
  unfold eX.f
  exact af.bind (at_bad 0 (by omega) (by omega) (b1 ts q)) af.now
 rcases (show a = 0 ∨ a = 1 ∨ a = 2 ∨ a = 3 ∨ a = 4 ∨ a = 5 by omega) with rfl | rfl | rfl | rfl | rfl | rfl
 ·exact ru ts q 0 true _ (at_bad 0 (by omega) (by omega) (b1 ts q))
 ·exact b1 ts q
 ·exact b2 ts q
 ·exact b3 ts q
 ·exact b4 ts q
 exact b5 ts q
theorem uN (H : OkR FF) (k0 : Int) (nm : ByteArray) : af (fun k => dR.f (FF k) k ts q true k0 0 nm 0 E) (nd k0 nm 0 E [[]], q, true) := by
 unfold dR.f
 refine af.bind (H.expr ts q) ?_
 rw [gV]
 exact kW (by simp) (by simp) af.now
end Go.Proofs.YtkbhkonenkgfoaaGreat.Par
end
section
set_option linter.unusedVariables false
set_option linter.unusedSimpArgs false
namespace Go.Proofs.YtkbhkonenkgfoaaGreat.Tree
open Go Go.RowKit Go.Proofs.YtkbhkonenkgfoaaGreatW.PrintWords Go.Proofs.YtkbhkonenkgfoaaGreat.Q Go.Proofs.YtkbhkonenkgfoaaGreat.Lex
theorem Kq (l : List S29) (hl : l.length ≤ 100000) : ∀ (m i w : Nat), l.length = m + i → 1 ≤ w → w ≤ 1 + i * 100000 →
 af (fun k => aI.l0 k l (w : Int) (i : Int)) (qc i (jP l.length (l.drop i) w)) := by
 intro m
 induction m with
 | zero =>
  intro i w h1 h2 h3
  rw [List.drop_eq_nil_of_le (by omega)]
  refine af.step (fun k => by rw [aI.l0]) ?_
  exact af.neg (by omega) af.now
 | succ m ih =>
  intro i w h1 h2 h3
  have hi : i < l.length := by omega
  rw [List.drop_eq_getElem_cons hi]
  refine af.step (fun k => by rw [aI.l0]) ?_
  refine af.pos (by omega) (af.pos (by omega) ?_)
  rw [tJ l i hi]
  simp only [jP]
  by_cases c1 : l[i].f1 < 0
  ·rw [if_pos (Or.inl c1)]
   refine af.pos c1 ?_
   refine af.step (fun k => by rw [aI.j1]) ?_
   exact af.pos rfl af.now
  refine af.neg c1 ?_
  refine af.step (fun k => by rw [aI.j1]) ?_
  by_cases c2 : (l.length : Int) < l[i].f1
  ·rw [if_pos (Or.inr c2)]
   exact af.pos (decide_eq_true c2) af.now
  refine af.neg (by simpa using c2) (af.pos (by omega) (af.pos (by omega) ?_))
  rw [tJ l i hi, if_neg (show ¬ (l[i].f1 < 0 ∨ (l.length : Int) < l[i].f1) by omega)]
  have e2 : wrap64 (wrap64 ((w : Int) - 1) + l[i].f1) = ((w - 1 + l[i].f1.toNat : Nat) : Int) := by
   rw [w64 (n := (w : Int) - 1) (by omega) (by omega), w64 (by omega) (by omega)]
   omega
  rw [e2, inc i (by omega)]
  by_cases c3 : w - 1 + l[i].f1.toNat = 0
  ·rw [if_pos c3]
   refine af.pos (by omega) (af.jR fun k => ?_)
   simp only [qc]
  rw [if_neg c3, Bi]
  refine af.neg (by omega) ?_
  exact ih (i + 1) _ (by omega) (by omega) (by omega)
theorem wM (l : List S29) (hl : l.length ≤ 100000) (i : Int) : af (fun k => aI.f k l i) (kC l i) := by
 unfold aI.f kC
 by_cases c : i < 0
 ·rw [if_pos c]; exact af.pos c af.now
 rw [if_neg c]
 refine af.neg c ?_
 by_cases c2 : i.toNat ≤ l.length
 ·have h := Kq l hl (l.length - i.toNat) i.toNat 1 (by omega) (by omega) (by omega)
  rw [show ((i.toNat : Nat) : Int) = i by omega] at h
  exact h
 rw [List.drop_eq_nil_of_le (by omega)]
 refine af.step (fun k => by rw [aI.l0]) ?_
 exact af.neg (by omega) af.now
theorem Ej (l : List S29) (hl : l.length ≤ 100000) (i : Nat) (hi : i < l.length) (h0 : 0 ≤ l[i].f1) (h9 : l[i].f1 ≤ 100000) : ∀ (d : Nat) (acc : List Int) (at' : Int), l[i].f1.toNat = d + acc.length →
 af (fun k => bF.l0 k l (i : Int) acc at' (acc.length : Int)) (acc ++ its l d at') := by
 intro d
 induction d with
 | zero =>
  intro acc at' h
  refine af.step (fun k => by rw [bF.l0]) ?_
  refine af.pos (by omega) (af.pos (by omega) ?_)
  rw [tJ l i hi, its, List.append_nil]
  exact af.neg (by omega) af.now
 | succ d ih =>
  intro acc at' h
  have h1 := ih (acc ++ [at']) (kC l at') (by simp; omega)
  rw [List.append_assoc, List.length_append] at h1
  refine af.step (fun k => by rw [bF.l0]) ?_
  refine af.pos (by omega) (af.pos (by omega) ?_)
  rw [tJ l i hi, inc acc.length (by omega)]
  exact af.pos (by omega) (af.pos (by omega) (af.bind (wM l hl at') h1))
/-- A node's kids' places. -/
theorem Dl (l : List S29) (hl : l.length ≤ 100000) (i : Int) : af (fun k => bF.f k l i) (qF l i) := by
 unfold bF.f qF
 refine af.bind (wM l hl i) ?_
 by_cases c : kC l i < 0
 ·rw [if_pos c]; exact af.pos c af.now
 rw [if_neg c]
 obtain ⟨j, rfl, hj, h0, h9⟩ := D5 hl c
 rw [inc j (by omega), tJ l j hj]
 refine af.neg c ?_
 have := Ej l hl j hj h0 h9 l[j].f1.toNat [] ((j + 1 : Nat) : Int) (by simp)
 simpa using this
/-! How deep: the document takes one off the innermost node around as the next node comes. -/
def rE : List Nat → List Nat
 | [] => []
 | 0 :: st => rE st
 | (n + 1) :: st => (n + 1) :: st
def less1 : List Nat → List Nat
 | [] => []
 | n :: st => (n - 1) :: st
theorem xG : ∀ st : List Nat, close st = less1 (rE st)
 | [] => rfl
 | 0 :: st => by rw [close, rE]; exact xG st
 | (n + 1) :: st => by rw [close, rE]; rfl
theorem AB : ∀ st : List Nat, (rE st).length ≤ st.length
 | [] => Nat.le_refl _
 | 0 :: st => by simp only [rE]; have := AB st; simp; omega
 | (n + 1) :: st => by simp [rE]
theorem AA : ∀ (st : List Nat) (B : Nat), (∀ n ∈ st, n ≤ B) → ∀ n ∈ rE st, n ≤ B
 | [], _, _, n, h => by cases h
 | 0 :: st, B, hB, n, h => AA st B (fun m hm => hB m (by simp [hm])) n (by simpa [rE] using h)
 | (q + 1) :: st, B, hB, n, h => hB n h
theorem Az : ∀ st : List Nat, rE st = [] ∨ ∃ n t, rE st = (n + 1) :: t
 | [] => .inl rfl
 | 0 :: st => by rw [rE]; exact Az st
 | (n + 1) :: st => .inr ⟨n, st, rfl⟩
theorem Fp (n : Nat) (st : List Nat) : rd (ints (n :: st)) (st.length : Int) = (n : Int) := by
 rw [kX]
 simp [rd, List.getD_eq_getElem?_getD, List.getElem?_append_right, kH]
theorem Em (l : List S29) (hl : l.length ≤ 100000) (b : Int) (i : Nat) (hi : i + 1 ≤ 300000) (v : Int) : ∀ st : List Nat, st.length ≤ 300000 → (∀ n ∈ st, n ≤ 100000) →
 af (fun k => ak.l0 k l (ints (rE st)) b ((i + 1 : Nat) : Int)) v → af (fun k => ak.l1 k l (ints st) b (i : Int)) v := by
 intro st
 induction st with
 | nil =>
  intro hs hB h
  refine af.step (fun k => by rw [ak.l1]) ?_
  rw [inc i (by omega)]
  exact af.neg (by simp [ints]) h
 | cons n st ih =>
  intro hs hB h
  simp only [List.length_cons] at hs
  have hlen : ((ints (n :: st)).length : Int) = (st.length : Int) + 1 := by rw [kH]; simp
  refine af.step (fun k => by rw [ak.l1]) ?_
  rw [hlen, show wrap64 ((st.length : Int) + 1 - 1) = (st.length : Int) by unfold wrap64; omega, inc i (by omega), Fp]
  refine af.pos (by omega) (af.pos (by omega) (af.pos (by omega) ?_))
  rw [Int.toNat_natCast]
  cases n with
  | zero =>
   refine af.pos rfl (af.pos (by omega) ?_)
   have ht : (ints (0 :: st)).take st.length = ints st := by
    rw [kX]
    exact List.take_left' (kH st)
   rw [ht]
   rw [rE] at h
   exact ih (by omega) (fun q hq => hB q (by simp [hq])) h
  | succ n =>
   exact af.neg (by omega) h
theorem FB (l : List S29) (hl : l.length ≤ 100000) (i : Nat) (hi : i < l.length) (h0 : 0 ≤ l[i].f1) (h9 : l[i].f1 ≤ 100000) (b : Nat) (hb : b ≤ i) (st : List Nat) (hs : st.length ≤ i) (hB : ∀ n ∈ st, n ≤ 100000) (v : Int)
 (h : af (fun k => ak.l0 k l (ints (rE (l[i].f1.toNat :: st))) ((max b (st.length + 1) : Nat) : Int) ((i + 1 : Nat) : Int)) v) :
 af (fun k => ak.j1 k l (ints st) (b : Int) (i : Int)) v := by
 refine af.step (fun k => by rw [ak.j1]) ?_
 refine af.pos (by omega) (af.pos (by omega) (af.pos (by rw [kH]; omega) ?_))
 have hpush : ints st ++ [(ax l (i : Int)).f1] = ints (l[i].f1.toNat :: st) := by
  rw [kX, Int.toNat_of_nonneg h0, tJ l i hi]
 simp only [hpush, Option.bind_some]
 have hln : ((ints (l[i].f1.toNat :: st)).length : Int) = ((st.length + 1 : Nat) : Int) := by rw [kH]; simp
 have go : ∀ c : Nat, c = max b (st.length + 1) → af (fun k => ak.j2 k l (ints (l[i].f1.toNat :: st)) (c : Int) (i : Int)) v := by
  rintro c rfl
  refine af.step (fun k => by rw [ak.j2]) ?_
  refine Em l hl _ i (by omega) v _ (by simp; omega) ?_ h
  intro n hn
  rcases List.mem_cons.1 hn with rfl | hn
  ·omega
  exact hB n hn
 rw [hln]
 by_cases c : ((st.length + 1 : Nat) : Int) > (b : Int)
 ·exact af.pos c (go (st.length + 1) (by omega))
 exact af.neg c (go b (by omega))
theorem F9 (l : List S29) (hl : l.length ≤ 100000) : ∀ (m i : Nat) (st : List Nat) (b : Nat), l.length = m + i → st.length ≤ i → b ≤ i → (∀ n ∈ st, n ≤ 100000) → (st = [] ∨ ∃ n t, st = (n + 1) :: t) →
 af (fun k => ak.l0 k l (ints st) (b : Int) (i : Int)) (if oq l m then (uu (l.drop i) (less1 st) b : Int) else -1) := by
 intro m
 induction m with
 | zero =>
  intro i st b h1 h2 h3 h4 h5
  rw [List.drop_eq_nil_of_le (by omega)]
  refine af.step (fun k => by rw [ak.l0]) ?_
  exact af.neg (by omega) af.now
 | succ m ih =>
  intro i st b h1 h2 h3 h4 h5
  have hi : i < l.length := by omega
  refine af.step (fun k => by rw [ak.l0]) ?_
  refine af.pos (by omega) (af.bind (wM l hl (i : Int)) ?_)
  have he : kC l (i : Int) = qc i (jP l.length (l.drop i) 1) := by
   unfold kC
   rw [if_neg (by omega), Int.toNat_natCast]
  rw [he]
  simp only [oq, show l.length - (m + 1) = i by omega]
  cases hF : jP l.length (l.drop i) 1 with
  | none => exact af.pos (by simp [qc]) af.now
  | some q =>
   refine af.neg (by simp only [qc]; omega) ?_
   have hk : 0 ≤ l[i].f1 ∧ l[i].f1 ≤ 100000 := by
    rw [List.drop_eq_getElem_cons hi] at hF
    simp only [jP] at hF
    split at hF
    ·cases hF
    omega
   simp only [Option.isSome_some, Bool.true_and]
   have hl1 : (less1 st).length = st.length := by cases st <;> rfl
   have hB1 : ∀ n ∈ less1 st, n ≤ 100000 := by
    intro n hn
    cases st with
    | nil => cases hn
    | cons x t =>
     rcases List.mem_cons.1 hn with rfl | hn
     ·have := h4 x (by simp); omega
     exact h4 n (by simp [hn])
   have hm : ∀ n ∈ l[i].f1.toNat :: less1 st, n ≤ 100000 := by
    intro n hn
    rcases List.mem_cons.1 hn with rfl | hn
    ·omega
    exact hB1 n hn
   have hcl := AB (l[i].f1.toNat :: less1 st)
   simp only [List.length_cons] at hcl
   have hnext := ih (i + 1) (rE (l[i].f1.toNat :: less1 st)) (max b ((less1 st).length + 1)) (by omega) (by omega) (by omega) (AA _ 100000 hm) (Az _)
   rw [← xG] at hnext
   rw [List.drop_eq_getElem_cons hi]
   have hj := FB l hl i hi hk.1 hk.2 b h3 (less1 st) (by omega) hB1 _ hnext
   rcases h5 with rfl | ⟨n, t, rfl⟩
   ·exact af.neg (by simp [ints]) hj
   have hlen : ((ints ((n + 1) :: t)).length : Int) = (t.length : Int) + 1 := by rw [kH]; simp
   simp only [List.length_cons] at h2
   have hn := h4 (n + 1) (by simp)
   rw [hlen, show wrap64 ((t.length : Int) + 1 - 1) = (t.length : Int) by unfold wrap64; omega, Fp]
   refine af.pos (by omega) (af.pos (by omega) (af.pos (by omega) ?_))
   rw [Int.toNat_natCast]
   have hset : (ints ((n + 1) :: t)).set t.length (wrap64 (((n + 1 : Nat) : Int) - 1)) = ints (less1 ((n + 1) :: t)) := by
    rw [show wrap64 (((n + 1 : Nat) : Int) - 1) = (n : Int) by unfold wrap64; omega, less1, Nat.add_sub_cancel, kX, kX, List.set_append]
    simp [kH]
   rw [hset]
   exact hj
theorem FC (l : List S29) (hl : l.length ≤ 100000) : af (fun k => ak.f k l) (if oq l l.length then (uu l [] 0 : Int) else -1) := by
 have h := F9 l hl l.length 0 [] 0 (by omega) (by simp) (by omega) (by simp) (.inl rfl)
 exact h
theorem F7 (l : List S29) (hl : l.length ≤ 100000) (i : Int) : af (fun k => fB.f k l i) (pO l i) := by
 unfold fB.f
 refine af.bind (wM l hl i) ?_
 by_cases c : kC l i < 0
 ·have hs : pO l i = [] := by unfold pO; rw [if_pos c]
  rw [hs]
  exact af.pos c af.now
 obtain ⟨j, m, rfl, _, he, h1, h2⟩ := nX c
 have hs : pO l (j : Int) = (l.take (j + m)).drop j := by
  unfold pO
  rw [if_neg c, he, Int.toNat_natCast, Int.toNat_natCast]
 rw [hs, he]
 refine af.neg (by omega) (af.pos (by omega) (af.pos (by omega) (af.pos (by omega) ?_)))
 simp only [Option.bind_some, Int.toNat_natCast]
 refine af.pos ?_ (af.jR fun k => by simp)
 simp only [List.length_nil, List.length_drop, List.length_take]
 omega
end Go.Proofs.YtkbhkonenkgfoaaGreat.Tree
end
section
set_option linter.unusedVariables false
set_option linter.unusedSimpArgs false
namespace Go.Proofs.YtkbhkonenkgfoaaGreat.Par
open Go Go.RowKit Go.Proofs.YtkbhkonenkgfoaaGreatW.PrintWords Go.Proofs.YtkbhkonenkgfoaaGreat.Q Go.Proofs.YtkbhkonenkgfoaaGreat.Lex Go.Proofs.YtkbhkonenkgfoaaGreat.Tree
/-- What the family's functions tell. -/
structure IhR (S : PF) (FF : Nat → iI) : Prop where
 expr : ∀ (ts : List S37) (q : Nat), ts.length ≤ 40000 → q ≤ ts.length → ah ts q 2 sz (fun k => (FF k).expr ts (q : Int) false) (S.expr (ts.drop q))
 block : ∀ (ts : List S37) (q : Nat), ts.length ≤ 40000 → q ≤ ts.length → ah ts q 2 sz (fun k => (FF k).block ts (q : Int) false) (S.block (ts.drop q))
 at0 : ∀ (a : Int), 0 ≤ a → a ≤ 5 → ∀ (ts : List S37) (q : Nat), ts.length ≤ 40000 → q ≤ ts.length → ah ts q 2 sz (fun k => (FF k).at0 ts (q : Int) false a) (S.bound (a + 1) (ts.drop q))
 unary : ∀ (ts : List S37) (q : Nat), ts.length ≤ 40000 → q ≤ ts.length → ah ts q 2 sz (fun k => (FF k).unary ts (q : Int) false) (S.unary (ts.drop q))
theorem IhR.shift {S : PF} {FF : Nat → iI} (h : IhR S FF) : IhR S (fun k => FF (k + 1)) :=
 ⟨fun ts q a b => ah.shift (h.expr ts q a b), fun ts q a b => ah.shift (h.block ts q a b), fun a h1 h2 ts q b c => ah.shift (h.at0 a h1 h2 ts q b c), fun ts q a b => ah.shift (h.unary ts q a b)⟩
variable {ts : List S37} {S : PF} {FF : Nat → iI}
theorem uq (hts : ts.length ≤ 40000) (I : IhR S FF) (H : OkR FF) (k0 : Int) (nm : ByteArray) (q : Nat) (hq : q ≤ ts.length) :
 ah ts q 3 sz (fun k => dR.f (FF k) k ts (q : Int) false k0 0 nm 0 E) (lS S k0 nm (ts.drop q)) := by
 unfold dR.f lS
 refine ah.bind (I.expr ts q hts hq) (fun e p h1 h2 h3 => ?_) (fun e p h1 h2 h3 => ?_)
 ·unfold sz at h3
  dsimp only
  refine ah.lm ⟨#[59]⟩ [59] (fO _ _ rfl) (by simp) h2 hts h1 (fun h4 => ?_) ?_
  ·dsimp only
   exact ah.join (by omega) h4 hts (by simp) (by rw [jG]; omega)
  dsimp only
  exact ah.Gx (by simp) (by rw [jG]; omega) (by omega) (by omega)
 unfold sz at h3
 obtain ⟨y, g1, g2⟩ := ah.Gx (q := q) (p := p) (d := 3) (k0 := k0) (nm := nm) (n := 0) (tx := E) (z := 0) (kids := [e]) (by simp) (by rw [jG]; omega) (by omega) (by omega)
 refine ⟨y, h1, g1, ?_⟩
 dsimp only
 rw [gV]
 exact g2
theorem GU (hts : ts.length ≤ 40000) (k0 : Int) (q q0 : Nat) (hq : q ≤ ts.length) (h0 : q0 < q) : ah ts q0 3 sz (fun k => (bi.f ts (q : Int) false (⟨#[59]⟩ : ByteArray)).bind fun b => some (([(⟨k0, 0, E, 0, E⟩ : S29)] : List S29), b.1, b.2)) (uz k0 (ts.drop q)) := by
 unfold uz
 refine ah.lm ⟨#[59]⟩ [59] (fO _ _ rfl) (by simp) hq hts (by omega) (fun h4 => ?_) ?_
 ·exact ah.done (nd k0 E 0 E []) (by omega) h4 (by unfold sz; rw [dZ]; simp only [List.flatten_nil, List.length_nil]; omega) af.now
 exact ⟨nd k0 E 0 E [], by unfold sz; rw [dZ]; simp only [List.flatten_nil, List.length_nil]; omega, af.now⟩
theorem Ea (hts : ts.length ≤ 40000) (I : IhR S FF) (H : OkR FF) (e : List S29) (b : Bool) (q p : Nat) (h1 : q ≤ p) (hp : p ≤ ts.length) (h3 : e.length + 1 ≤ 2 * (p - q)) (hb : b = decide (wd (ts.drop p) ≠ [61])) :
 ah ts q 3 sz (fun k => bJ.j0 (FF k) k e b ts (p : Int) false) (uF S e (ts.drop p)) := by
 unfold uF
 refine ah.step (fun k => by rw [bJ.j0]) ?_
 by_cases c : wd (ts.drop p) ≠ [61]
 ·rw [if_pos c]
  refine ah.pos Z32 ?_
  refine ah.lm ⟨#[59]⟩ [59] (fO _ _ rfl) (by simp) hp hts h1 (fun h4 => ?_) ?_
  ·dsimp only
   exact ah.join (by omega) h4 hts (by simp) (by rw [jG]; omega)
  dsimp only
  exact ah.Gx (by simp) (by rw [jG]; omega) (by omega) (by omega)
 rw [if_neg c]
 refine ah.neg (by rw [hb]; simpa using c) ?_
 cases e with
 | nil => trivial
 | cons x t =>
  have hr : ax (x :: t) 0 = x := rfl
  refine ah.pos Z36 ?_
  simp only [hr]
  simp only [List.length_cons] at h3
  by_cases c1 : x.f0 = 21
  ·simp only [if_pos c1]
   refine ah.lm ⟨#[61]⟩ [61] (fO _ _ rfl) (by simp) hp hts h1 (fun h4 => ?_) ?_
   ·exact ah.idb (ah.from' (uq hts I.shift H.shift 7 x.f2 (p + 1) h4) (by omega) (by omega))
   exact ⟨nd 7 x.f2 0 E [[]], by unfold sz; rw [dZ, jG, List.length_nil]; omega, af.bind (uN H.shift 7 x.f2) af.now⟩
  simp only [if_neg c1]
  by_cases c2 : x.f0 = 26
  ·simp only [if_pos c2]
   unfold yX
   match hk : uh (x :: t) with
   | none => trivial
   | some (a, b') =>
    have hs := zZ _ _ _ hk
    obtain ⟨k0, k1, kl, e1, e2, e3⟩ := AQ _ _ _ hk
    simp only [List.length_cons] at hs
    have fin : ∀ (v : List S29) (p2 : Nat) (bb : Bool) {G : Nat → List S29 → Option (List S29 × Int × Bool)} {r : List S29 × Int × Bool}, v.length ≤ 100000 → af (fun k => G k (nd 8 E 0 E [a, b', v])) r →
     af (fun k => (bF.f k (x :: t) 0).bind fun t1 => if 0 < (t1.length : Int) then ((fB.f k (x :: t) (rd t1 0)).bind fun u => if 1 < (t1.length : Int) then ((fB.f k (x :: t) (rd t1 1)).bind fun v1 => (aC.f k 8 0 E 0 E [u, v1, v]).bind (G k)) else none) else none) r := by
     intro v p2 bb G r hv h
     have hl : (x :: t).length ≤ 100000 := by simp only [List.length_cons]; omega
     refine af.bind (Dl (x :: t) hl 0) ?_
     rw [e1]
     refine af.pos Z36 ?_
     rw [rd0, rd1]
     have s0 := F7 (x :: t) hl k0
     have s1 := F7 (x :: t) hl k1
     rw [e2] at s0
     rw [e3] at s1
     refine af.bind s0 (af.pos Z36 (af.bind s1 ?_))
     exact kW (by simp) (by rw [flat3]; omega) h
    refine ah.lm ⟨#[61]⟩ [61] (fO _ _ rfl) (by simp) hp hts h1 (fun h4 => ?_) ?_
    ·dsimp only
     refine ah.bind (I.shift.expr ts (p + 1) hts h4) (fun v p2 f1 f2 f3 => ?_) (fun v p2 f1 f2 f3 => ?_)
     ·unfold sz at f3
      dsimp only
      refine ah.lm ⟨#[59]⟩ [59] (fO _ _ rfl) (by simp) f2 hts (by omega) (fun h5 => ?_) ?_
      ·dsimp only
       exact ah.done (nd 8 E 0 E [a, b', v]) (by omega) h5 (by unfold sz; rw [dZ, flat3]; omega) (fin v p2 false (by omega) af.now)
      dsimp only
      exact ⟨nd 8 E 0 E [a, b', v], by unfold sz; rw [dZ, flat3]; omega, fin v p2 true (by omega) af.now⟩
     unfold sz at f3
     dsimp only
     refine ⟨nd 8 E 0 E [a, b', v], by omega, by unfold sz; rw [dZ, flat3]; omega, ?_⟩
     rw [gV]
     exact fin v p2 true (by omega) af.now
    refine ⟨nd 8 E 0 E [a, b', []], by unfold sz; rw [dZ, flat3, List.length_nil]; omega, ?_⟩
    refine af.bind (H.shift.expr ts p) ?_
    dsimp only
    rw [gV]
    exact fin [] p true (by simp) af.now
  simp only [if_neg c2]
  exact ⟨[], p, h1, hp, rfl, by unfold sz; simp only [List.length_nil]; omega, af.now⟩
end Go.Proofs.YtkbhkonenkgfoaaGreat.Par
end
section
set_option linter.unusedVariables false
set_option linter.unusedSimpArgs false
namespace Go.Proofs.YtkbhkonenkgfoaaGreat.Par
open Go Go.RowKit Go.Proofs.YtkbhkonenkgfoaaGreatW.PrintWords Go.Proofs.YtkbhkonenkgfoaaGreat.Q Go.Proofs.YtkbhkonenkgfoaaGreat.Lex Go.Proofs.YtkbhkonenkgfoaaGreat.Tree
variable {ts : List S37} {S : PF} {FF : Nat → iI}
theorem Ij (hts : ts.length ≤ 40000) (I : IhR S FF) (H : OkR FF) (q : Nat) (hq : q ≤ ts.length) :
 ah ts q 3 sz (fun k => bJ.f (FF k) k ts (q : Int) false) (lF S (ts.drop q)) := by
 unfold bJ.f lF
 refine ah.jA _ _ (fO _ _ rfl) (by simp) hq hts (fun h1 => ?_) (fun _ => ?_)
 ·refine ah.pos rfl ?_
  refine ah.qp 1 h1 hts (by omega) (fun t h2 _ => ?_) ?_
  ·refine ah.lm ⟨#[61]⟩ [61] (fO _ _ rfl) (by simp) h2 hts (by omega) (fun h3 => ?_) ?_
   ·exact ah.idb (ah.from' (uq hts I H 6 t.f1 (q + 1 + 1 + 1) h3) (by omega) (by omega))
   dsimp only
   exact ⟨nd 6 t.f1 0 E [[]], by unfold sz; rw [dZ, jG, List.length_nil]; omega, af.bind (uN H 6 t.f1) af.now⟩
  dsimp only
  refine ⟨nd 6 E 0 E [[]], by unfold sz; rw [dZ, jG, List.length_nil]; omega, ?_⟩
  rw [gV]
  simp only [Option.bind_some]
  exact af.bind (uN H 6 E) af.now
 refine ah.neg (by simp) ?_
 refine ah.jA _ _ (fO _ _ rfl) (by simp) hq hts (fun h1 => ?_) (fun _ => ?_)
 ·refine ah.pos rfl ?_
  dsimp only
  refine ah.bind (I.expr ts (q + 1) hts h1) (fun e p g1 g2 g3 => ?_) (fun e p g1 g2 g3 => ?_)
  ·unfold sz at g3
   dsimp only
   refine ah.bind (I.block ts p hts g2) (fun b p2 f1 f2 f3 => ?_) (fun b p2 f1 f2 f3 => ?_)
   ·unfold sz at f3
    dsimp only
    simp only [Option.bind_some]
    refine ah.jA _ _ (fO _ _ rfl) (by simp) f2 hts (fun h3 => ?_) (fun hn => ?_)
    ·refine ah.pos rfl ?_
     dsimp only
     refine ah.bind (I.block ts (p2 + 1) hts h3) (fun c p3 e1 e2 e3 => ?_) (fun c p3 e1 e2 e3 => ?_)
     ·unfold sz at e3
      dsimp only
      refine ah.pos (by simp) ?_
      exact ah.join (kids := [e, b, c]) (by omega) e2 hts (by simp) (by rw [flat3]; omega)
     unfold sz at e3
     dsimp only
     refine ⟨nd 9 E 0 E [e, b, c], by omega, by unfold sz; rw [dZ, flat3]; omega, af.pos (by simp) ?_⟩
     exact kW (kids := [e, b, c]) (by simp) (by rw [flat3]; omega) af.now
    refine ah.neg (by simp) ?_
    exact ah.join (kids := [e, b]) (by omega) f2 hts (by simp) (by rw [ji]; omega)
   unfold sz at f3
   dsimp only
   simp only [Option.bind_some]
   refine ⟨nd 9 E 0 E [e, b], by omega, by unfold sz; rw [dZ, ji]; omega, ?_⟩
   rw [mQ]
   simp only [Option.bind_some]
   exact af.neg (by simp) (kW (by simp) (by rw [ji]; omega) af.now)
  unfold sz at g3
  dsimp only
  refine ⟨nd 9 E 0 E [e, nd 5 E 0 E []], by omega, by unfold sz; rw [dZ, ji, l9]; omega, af.bind (H.block ts _) ?_⟩
  dsimp only
  simp only [Option.bind_some]
  rw [mQ]
  simp only [Option.bind_some]
  exact af.neg (by simp) (kW (by simp) (by rw [ji, l9]; omega) af.now)
 refine ah.neg (by simp) ?_
 refine ah.jA _ _ (fO _ _ rfl) (by simp) hq hts (fun h1 => ?_) (fun _ => ?_)
 ·refine ah.pos rfl ?_
  dsimp only
  refine ah.bind (I.expr ts (q + 1) hts h1) (fun e p g1 g2 g3 => ?_) (fun e p g1 g2 g3 => ?_)
  ·unfold sz at g3
   dsimp only
   refine ah.bind (I.block ts p hts g2) (fun b p2 f1 f2 f3 => ?_) (fun b p2 f1 f2 f3 => ?_)
   ·unfold sz at f3
    dsimp only
    exact ah.join (by omega) f2 hts (by simp) (by rw [ji]; omega)
   unfold sz at f3
   dsimp only
   exact ⟨nd 10 E 0 E [e, b], by omega, by unfold sz; rw [dZ, ji]; omega, kW (by simp) (by rw [ji]; omega) af.now⟩
  unfold sz at g3
  dsimp only
  exact ⟨nd 10 E 0 E [e, nd 5 E 0 E []], by omega, by unfold sz; rw [dZ, ji, l9]; omega, af.bind (H.block ts _) (kW (by simp) (by rw [ji, l9]; omega) af.now)⟩
 refine ah.neg (by simp) ?_
 refine ah.jA _ _ (fO _ _ rfl) (by simp) hq hts (fun h1 => ?_) (fun _ => ?_)
 ·refine ah.pos rfl ?_
  exact GU hts 11 (q + 1) q h1 (by omega)
 refine ah.neg (by simp) ?_
 refine ah.jA _ _ (fO _ _ rfl) (by simp) hq hts (fun h1 => ?_) (fun _ => ?_)
 ·refine ah.pos rfl ?_
  exact GU hts 12 (q + 1) q h1 (by omega)
 refine ah.neg (by simp) ?_
 refine ah.jA _ _ (fO _ _ rfl) (by simp) hq hts (fun h1 => ?_) (fun _ => ?_)
 ·refine ah.pos rfl ?_
  exact GU hts 16 (q + 1) q h1 (by omega)
 refine ah.neg (by simp) ?_
 refine ah.jA _ _ (fO _ _ rfl) (by simp) hq hts (fun h1 => ?_) (fun _ => ?_)
 ·refine ah.pos rfl ?_
  exact ah.idb (ah.from' (uq hts I H 13 E (q + 1) h1) (by omega) (by omega))
 refine ah.neg (by simp) ?_
 refine ah.jA _ _ (fO _ _ rfl) (by simp) hq hts (fun h1 => ?_) (fun _ => ?_)
 ·refine ah.pos rfl ?_
  exact ah.idb (ah.from' (uq hts I H 14 E (q + 1) h1) (by omega) (by omega))
 refine ah.neg (by simp) ?_
 refine ah.jA _ _ (fO _ _ rfl) (by simp) hq hts (fun h1 => ?_) (fun _ => ?_)
 ·refine ah.pos rfl ?_
  exact ah.idb (ah.from' (uq hts I H 15 E (q + 1) h1) (by omega) (by omega))
 refine ah.neg (by simp) ?_
 dsimp only
 unfold wP
 refine ah.bind (I.expr ts q hts hq) (fun e p h1 h2 h3 => ?_) (fun e p h1 h2 h3 => ?_)
 ·unfold sz at h3
  dsimp only
  refine ah.neg (by simp) ?_
  rw [yz _ _ _ (by rw [fO _ [61] rfl]; simp)]
  simp only [Option.bind_some]
  refine Ea hts I H e _ q p h1 h2 h3 ?_
  rw [fO _ [61] rfl]
  simp
 unfold sz at h3
 dsimp only
 refine ⟨nd 17 E 0 E [e], h1, by unfold sz; rw [dZ, jG]; omega, af.pos rfl ?_⟩
 refine af.step (fun k => by rw [bJ.j0]) ?_
 refine af.pos rfl ?_
 rw [gV]
 exact kW (by simp) (by rw [jG]; omega) af.now
end Go.Proofs.YtkbhkonenkgfoaaGreat.Par
end
section
set_option linter.unusedVariables false
set_option linter.unusedSimpArgs false
namespace Go.Proofs.YtkbhkonenkgfoaaGreat.Par
open Go Go.RowKit Go.Proofs.YtkbhkonenkgfoaaGreatW.PrintWords Go.Proofs.YtkbhkonenkgfoaaGreat.Q Go.Proofs.YtkbhkonenkgfoaaGreat.Lex Go.Proofs.YtkbhkonenkgfoaaGreat.Tree
variable {ts : List S37} {S : PF} {FF : Nat → Fam}
/-- What a list of lists weighs. -/
def szK (ks : List (List S29)) : Nat := ks.flatten.length + ks.length + 2
theorem jM (l : List (List S29)) (e : List S29) : (l ++ [e]).length = l.length + 1 := by simp
theorem Jh (hts : ts.length ≤ 40000) (q0 : Nat) : ∀ (n : Nat) (FF : Nat → Fam) (I : Ih S FF) (H : OkB FF) (acc : List (List S29)) (q : Nat), q0 ≤ q → q ≤ ts.length → acc.flatten.length + acc.length + 2 ≤ 2 * (q - q0) →
 ah ts q0 2 sz (fun k => bW.l0 (FF k) k acc ts (q : Int) false) (qM S n acc (ts.drop q)) := by
 intro n
 induction n with
 | zero => intro FF I H acc q h0 hq hs; trivial
 | succ n ih =>
  intro FF I H acc q h0 hq hs
  unfold qM
  refine ah.step (fun k => by rw [bW.l0]) ?_
  refine ah.neg (by simp) ?_
  rw [nz]
  simp only [Option.bind_some]
  refine ah.ite (fun c => ?_) (fun c => ?_)
  ·refine ah.must ⟨#[125]⟩ [125] (fO _ _ rfl) (by simp) hq hts h0 (fun h4 => ?_) ?_
   ·dsimp only
    refine ah.evB (wW 5 E 0 E 0 acc (by omega) (by omega)) ?_
    exact ah.done _ (by omega) h4 (by unfold sz; rw [dZ]; omega) af.now
   dsimp only
   exact ⟨nd 5 E 0 E acc, by unfold sz; rw [dZ]; omega, jJ (by omega) (by omega) af.now⟩
  refine ah.bind (JM hts I.shift H.shift q hq) (fun s p h1 h2 h3 => ?_) (fun s p h1 h2 h3 => ?_)
  ·unfold sz at h3
   dsimp only
   refine ah.pos (by omega) ?_
   exact ih (fun k => FF (k + 1)) I.shift H.shift (acc ++ [s]) p (by omega) h2 Z35
  unfold sz at h3
  dsimp only
  refine ⟨nd 5 E 0 E (acc ++ [s]), by omega, by unfold sz; rw [dZ, iG]; omega, af.pos (by omega) ?_⟩
  refine af.step (fun k => by rw [bW.l0]) ?_
  refine af.pos rfl ?_
  rw [jS _ [125] rfl (by simp)]
  exact jJ (by rw [jM]; omega) (by rw [iG]; omega) af.now
theorem DI (hts : ts.length ≤ 40000) (I : Ih S FF) (H : OkB FF) (N : Nat) (q : Nat) (hq : q ≤ ts.length) :
 ah ts q 2 sz (fun k => bW.f (FF k) k ts (q : Int) false) (qg S N (ts.drop q)) := by
 unfold bW.f qg
 refine ah.must ⟨#[123]⟩ [123] (fO _ _ rfl) (by simp) hq hts (by omega) (fun h4 => ?_) ?_
 ·dsimp only
  exact Jh hts q N FF I H [] (q + 1) (by omega) h4 Z12
 dsimp only
 refine ⟨nd 5 E 0 E [], by unfold sz; rw [l9]; omega, ?_⟩
 refine af.step (fun k => by rw [bW.l0]) ?_
 refine af.pos rfl ?_
 rw [jS _ [125] rfl (by simp)]
 exact jJ (by simp) (by simp) af.now
theorem Dp (hts : ts.length ≤ 40000) (q : Nat) (hq : q ≤ ts.length) : ah ts q 2 sz (fun k => fH.f k ts (q : Int) false) (mD (ts.drop q)) := by
 unfold fH.f mD
 refine ah.need 1 hq hts (by omega) (fun t h2 _ => ?_) ?_
 ·dsimp only
  exact ah.node (by omega) h2 hts (by simp) Z12
 dsimp only
 exact ah.yu (by simp) Z12 (by omega) (by omega)
theorem Du (acc : List (List S29)) (q : Int) : af (fun k => iJ.l0 (FF k) k acc ts q true) (acc, q, true) := by
 refine af.step (fun k => by rw [iJ.l0]) ?_
 refine af.pos rfl ?_
 refine af.step (fun k => by rw [iJ.j1]) ?_
 refine af.neg (by simp) ?_
 rw [jS _ [41] rfl (by simp)]
 exact af.now
theorem IW (hts : ts.length ≤ 40000) (q0 : Nat) : ∀ (n : Nat) (FF : Nat → Fam) (I : Ih S FF) (H : OkB FF) (acc : List (List S29)) (q : Nat), q0 ≤ q → q ≤ ts.length → acc.flatten.length + acc.length + 2 ≤ 2 * (q - q0) →
 ah ts q0 2 szK (fun k => iJ.l0 (FF k) k acc ts (q : Int) false) (nH S.expr n acc (ts.drop q)) := by
 intro n
 induction n with
 | zero => intro FF I H acc q h0 hq hs; trivial
 | succ n ih =>
  intro FF I H acc q h0 hq hs
  unfold nH
  refine ah.step (fun k => by rw [iJ.l0]) ?_
  refine ah.neg (by simp) ?_
  rw [nz]
  simp only [Option.bind_some]
  refine ah.step (fun k => by rw [iJ.j1]) ?_
  have more : ∀ (x : List S29) (p : Nat), q ≤ p → p ≤ ts.length → sz x ≤ 2 * (p - q) → ah ts q0 2 szK (fun k => if acc.length < 5864062014805 then iJ.l0 (FF (k + 2)) k (acc ++ [x]) ts (p : Int) false else none) (nH S.expr n (acc ++ [x]) (ts.drop p)) := by
   intro x p g1 g2 g3
   unfold sz at g3
   refine ah.pos (by omega) ?_
   exact ih (fun k => FF (k + 2)) I.shift.shift H.shift.shift (acc ++ [x]) p (by omega) g2 Z35
  have moreB : ∀ (x : List S29) (p : Nat), q ≤ p → p ≤ ts.length → sz x ≤ 2 * (p - q) + 2 → ∃ y : List (List S29), q0 ≤ p ∧ szK y ≤ 2 * (p - q0) + 2 ∧ af (fun k => if acc.length < 5864062014805 then iJ.l0 (FF (k + 2)) k (acc ++ [x]) ts (p : Int) true else none) (y, (p : Int), true) := by
   intro x p g1 g2 g3
   unfold sz at g3
   exact ⟨acc ++ [x], by omega, by unfold szK; rw [iG, jM]; omega, af.pos (by omega) (Du (FF := fun k => FF (k + 2)) (acc ++ [x]) _)⟩
  by_cases c : wd (ts.drop q) = [41]
  ·rw [if_pos c]
   refine ah.neg (by rw [Gf]; exact fun h => of_decide_eq_true h c) ?_
   refine ah.must ⟨#[41]⟩ [41] (fO _ _ rfl) (by simp) hq hts h0 (fun h4 => ?_) ?_
   ·dsimp only
    exact ah.done _ (by omega) h4 (by unfold szK; omega) af.now
   dsimp only
   exact ⟨acc, by unfold szK; omega, af.now⟩
  rw [if_neg c]
  refine ah.pos (by rw [Gf]; exact decide_eq_true c) ?_
  by_cases d : acc = []
  ·rw [if_pos d]
   refine ah.neg (by subst d; simp) ?_
   refine ah.bind (I.shift.shift.expr ts q hts hq) (fun x p h1 h2 h3 => ?_) (fun x p h1 h2 h3 => ?_)
   ·exact more x p h1 h2 h3
   exact moreB x p h1 h2 h3
  rw [if_neg d]
  refine ah.pos (by have := List.length_pos_iff.2 d; omega) ?_
  refine ah.must ⟨#[44]⟩ [44] (fO _ _ rfl) (by simp) hq hts h0 (fun h4 => ?_) ?_
  ·dsimp only
   refine ah.bind (I.shift.shift.expr ts (q + 1) hts h4) (fun x p h1 h2 h3 => ?_) (fun x p h1 h2 h3 => ?_)
   ·exact more x p (by omega) h2 (by omega)
   exact moreB x p (by omega) h2 (by omega)
  dsimp only
  obtain ⟨y, g1, g2, g3⟩ := moreB [] q (Nat.le_refl _) hq (by unfold sz; simp [nd])
  exact ⟨y, g2, af.bind (H.shift.shift.expr ts _) g3⟩
theorem Dv (hts : ts.length ≤ 40000) (I : Ih S FF) (H : OkB FF) (N : Nat) (q : Nat) (hq : q ≤ ts.length) :
 ah ts q 2 szK (fun k => iJ.f (FF k) k ts (q : Int) false) (gW S.expr N (ts.drop q)) := by
 unfold iJ.f Par.gW
 refine ah.must ⟨#[40]⟩ [40] (fO _ _ rfl) (by simp) hq hts (by omega) (fun h4 => ?_) ?_
 ·dsimp only
  exact IW hts q N FF I H [] (q + 1) (by omega) h4 Z12
 dsimp only
 exact ⟨[], by unfold szK; simp only [List.flatten_nil, List.length_nil]; omega, Du (FF := FF) [] _⟩
theorem Dt (acc : List (List S29)) (q : Int) : af (fun k => Q.gW.l0 k acc ts q true) (acc, q, true) := by
 refine af.step (fun k => by rw [Q.gW.l0]) ?_
 refine af.pos rfl ?_
 refine af.step (fun k => by rw [Q.gW.j1]) ?_
 refine af.neg (by simp) ?_
 rw [jS _ [41] rfl (by simp)]
 exact af.now
theorem IR (hts : ts.length ≤ 40000) (q0 : Nat) : ∀ (n : Nat) (FF : Nat → Fam) (I : Ih S FF) (H : OkB FF) (acc : List (List S29)) (q : Nat), q0 ≤ q → q ≤ ts.length → acc.flatten.length + acc.length + 2 ≤ 2 * (q - q0) →
 ah ts q0 2 szK (fun k => Q.gW.l0 k acc ts (q : Int) false) (nH mD n acc (ts.drop q)) := by
 intro n
 induction n with
 | zero => intro FF I H acc q h0 hq hs; trivial
 | succ n ih =>
  intro FF I H acc q h0 hq hs
  unfold nH
  refine ah.step (fun k => by rw [Q.gW.l0]) ?_
  refine ah.neg (by simp) ?_
  rw [nz]
  simp only [Option.bind_some]
  refine ah.step (fun k => by rw [Q.gW.j1]) ?_
  have more : ∀ (x : List S29) (p : Nat), q ≤ p → p ≤ ts.length → sz x ≤ 2 * (p - q) → ah ts q0 2 szK (fun k => if acc.length < 5864062014805 then Q.gW.l0 k (acc ++ [x]) ts (p : Int) false else none) (nH mD n (acc ++ [x]) (ts.drop p)) := by
   intro x p g1 g2 g3
   unfold sz at g3
   refine ah.pos (by omega) ?_
   exact ih (fun k => FF (k + 2)) I.shift.shift H.shift.shift (acc ++ [x]) p (by omega) g2 Z35
  have moreB : ∀ (x : List S29) (p : Nat), q ≤ p → p ≤ ts.length → sz x ≤ 2 * (p - q) + 2 → ∃ y : List (List S29), q0 ≤ p ∧ szK y ≤ 2 * (p - q0) + 2 ∧ af (fun k => if acc.length < 5864062014805 then Q.gW.l0 k (acc ++ [x]) ts (p : Int) true else none) (y, (p : Int), true) := by
   intro x p g1 g2 g3
   unfold sz at g3
   exact ⟨acc ++ [x], by omega, by unfold szK; rw [iG, jM]; omega, af.pos (by omega) (Dt (acc ++ [x]) _)⟩
  by_cases c : wd (ts.drop q) = [41]
  ·rw [if_pos c]
   refine ah.neg (by rw [Gf]; exact fun h => of_decide_eq_true h c) ?_
   refine ah.must ⟨#[41]⟩ [41] (fO _ _ rfl) (by simp) hq hts h0 (fun h4 => ?_) ?_
   ·dsimp only
    exact ah.done _ (by omega) h4 (by unfold szK; omega) af.now
   dsimp only
   exact ⟨acc, by unfold szK; omega, af.now⟩
  rw [if_neg c]
  refine ah.pos (by rw [Gf]; exact decide_eq_true c) ?_
  by_cases d : acc = []
  ·rw [if_pos d]
   refine ah.neg (by subst d; simp) ?_
   refine ah.bind (Dp hts q hq) (fun x p h1 h2 h3 => ?_) (fun x p h1 h2 h3 => ?_)
   ·exact more x p h1 h2 h3
   exact moreB x p h1 h2 h3
  rw [if_neg d]
  refine ah.pos (by have := List.length_pos_iff.2 d; omega) ?_
  refine ah.must ⟨#[44]⟩ [44] (fO _ _ rfl) (by simp) hq hts h0 (fun h4 => ?_) ?_
  ·dsimp only
   refine ah.bind (Dp hts (q + 1) h4) (fun x p h1 h2 h3 => ?_) (fun x p h1 h2 h3 => ?_)
   ·exact more x p (by omega) h2 (by omega)
   exact moreB x p (by omega) h2 (by omega)
  dsimp only
  obtain ⟨y, g1, g2, g3⟩ := moreB (nd 4 E 0 E []) q (Nat.le_refl _) hq (by unfold sz; simp [nd])
  exact ⟨y, g2, af.bind (Ep) g3⟩
theorem IU (hts : ts.length ≤ 40000) (I : Ih S FF) (H : OkB FF) (N : Nat) (q : Nat) (hq : q ≤ ts.length) :
 ah ts q 2 szK (fun k => Q.gW.f k ts (q : Int) false) (gW mD N (ts.drop q)) := by
 unfold Q.gW.f Par.gW
 refine ah.must ⟨#[40]⟩ [40] (fO _ _ rfl) (by simp) hq hts (by omega) (fun h4 => ?_) ?_
 ·dsimp only
  exact IR hts q N FF I H [] (q + 1) (by omega) h4 Z12
 dsimp only
 exact ⟨[], by unfold szK; simp only [List.flatten_nil, List.length_nil]; omega, Dt [] _⟩
theorem xw (hts : ts.length ≤ 40000) (I : Ih S FF) (H : OkB FF) (N : Nat) (k0 : Int) (nm : ByteArray) (q : Nat) (hq : q ≤ ts.length) :
 ah ts q 3 sz (fun k => dD.f (FF k) k ts (q : Int) false k0 0 nm 0 E) (lX S N k0 nm (ts.drop q)) := by
 unfold dD.f lX
 refine ah.bind (IU hts I H N q hq) (fun ps p h1 h2 h3 => ?_) (fun ps p h1 h2 h3 => ?_)
 ·unfold szK at h3
  dsimp only
  refine ah.bind (DI hts I H N p h2) (fun b p2 g1 g2 g3 => ?_) (fun b p2 g1 g2 g3 => ?_)
  ·unfold sz at g3
   dsimp only
   refine ah.pos (by omega) ?_
   exact ah.node (by omega) g2 hts (by rw [jM]; omega) (by rw [iG]; omega)
  unfold sz at g3
  dsimp only
  exact ⟨nd k0 nm 0 E (ps ++ [b]), by omega, by unfold sz; rw [dZ, iG]; omega, af.pos (by omega) (jJ (by rw [jM]; omega) (by rw [iG]; omega) af.now)⟩
 unfold szK at h3
 dsimp only
 exact ⟨nd k0 nm 0 E (ps ++ [nd 5 E 0 E []]), by omega, by unfold sz; rw [dZ, iG, l9]; omega, af.bind uO (af.pos (by omega) (jJ (by rw [jM]; omega) (by rw [iG, l9]; omega) af.now))⟩
end Go.Proofs.YtkbhkonenkgfoaaGreat.Par
end
section
set_option linter.unusedVariables false
set_option linter.unusedSimpArgs false
namespace Go.Proofs.YtkbhkonenkgfoaaGreat.Par
open Go Go.RowKit Go.Proofs.YtkbhkonenkgfoaaGreatW.PrintWords Go.Proofs.YtkbhkonenkgfoaaGreat.Q Go.Proofs.YtkbhkonenkgfoaaGreat.Lex Go.Proofs.YtkbhkonenkgfoaaGreat.Tree
variable {ts : List S37} {S : PF} {FF : Nat → iI}
theorem F5 (hts : ts.length ≤ 40000) (q0 : Nat) : ∀ (n : Nat) (FF : Nat → iI) (I : IhR S FF) (H : OkR FF) (acc : List (List S29)) (q : Nat), q0 ≤ q → q ≤ ts.length → acc.flatten.length + acc.length + 2 ≤ 2 * (q - q0) →
 ah ts q0 2 sz (fun k => bD.l0 (FF k) k acc ts (q : Int) false) (qM S n acc (ts.drop q)) := by
 intro n
 induction n with
 | zero => intro FF I H acc q h0 hq hs; trivial
 | succ n ih =>
  intro FF I H acc q h0 hq hs
  unfold qM
  refine ah.step (fun k => Z40) ?_
  refine ah.neg (by simp) ?_
  rw [yz _ _ _ (by rw [fO _ [125] rfl]; simp), fO _ [125] rfl]
  simp only [Option.bind_some]
  by_cases c : wd (ts.drop q) = [125]
  ·rw [if_pos c]
   refine ah.pos (by simp [c]) ?_
   refine ah.lm ⟨#[125]⟩ [125] (fO _ _ rfl) (by simp) hq hts h0 (fun h4 => ?_) ?_
   ·dsimp only
    refine ah.evB (uI 5 E 0 E 0 acc (by omega) (by omega)) ?_
    exact ah.done _ (by omega) h4 (by unfold sz; rw [dZ]; omega) af.now
   dsimp only
   exact ⟨nd 5 E 0 E acc, by unfold sz; rw [dZ]; omega, kW (by omega) (by omega) af.now⟩
  rw [if_neg c]
  refine ah.neg (by simp [c]) ?_
  refine ah.bind (Ij hts I.shift H.shift q hq) (fun s p h1 h2 h3 => ?_) (fun s p h1 h2 h3 => ?_)
  ·unfold sz at h3
   dsimp only
   refine ah.pos (by omega) ?_
   exact ih (fun k => FF (k + 1)) I.shift H.shift (acc ++ [s]) p (by omega) h2 Z35
  unfold sz at h3
  dsimp only
  refine ⟨nd 5 E 0 E (acc ++ [s]), by omega, by unfold sz; rw [dZ, iG]; omega, af.pos (by omega) ?_⟩
  refine af.step (fun k => Z40) ?_
  refine af.pos rfl ?_
  rw [gV]
  exact kW (by rw [jM]; omega) (by rw [iG]; omega) af.now
theorem Ar (hts : ts.length ≤ 40000) (I : IhR S FF) (H : OkR FF) (N : Nat) (q : Nat) (hq : q ≤ ts.length) :
 ah ts q 2 sz (fun k => bD.f (FF k) k ts (q : Int) false) (qg S N (ts.drop q)) := by
 unfold bD.f qg
 refine ah.lm ⟨#[123]⟩ [123] (fO _ _ rfl) (by simp) hq hts (by omega) (fun h4 => ?_) ?_
 ·dsimp only
  exact F5 hts q N FF I H [] (q + 1) (by omega) h4 Z12
 dsimp only
 refine ⟨nd 5 E 0 E [], by unfold sz; rw [l9]; omega, ?_⟩
 refine af.step (fun k => Z40) ?_
 refine af.pos rfl ?_
 rw [gV]
 exact kW (by simp) (by simp) af.now
theorem yM {β : Type} (f : List S29 → Ps β) (l : List S37) : bnd mD f l = bnd (Par.need 1) (fun t => f (nd 4 t.f1 0 E [])) l := by
 unfold mD bnd ret
 cases Par.need 1 l <;> rfl
theorem GX (acc : List (List S29)) (i q : Int) : af (fun k => aJ.l0 (FF k) k acc i ts q true) (acc, q, true) := by
 refine af.step (fun k => by rw [aJ.l0]) ?_
 refine af.pos rfl ?_
 refine af.step (fun k => by rw [aJ.j1]) ?_
 refine af.neg (by simp) ?_
 rw [gV]
 exact af.now
theorem KZ (hts : ts.length ≤ 40000) (q0 : Nat) : ∀ (n : Nat) (FF : Nat → iI) (I : IhR S FF) (H : OkR FF) (acc : List (List S29)) (q : Nat), q0 ≤ q → q ≤ ts.length → acc.flatten.length + acc.length + 2 ≤ 2 * (q - q0) →
 ah ts q0 2 szK (fun k => aJ.l0 (FF k) k acc (acc.length : Int) ts (q : Int) false) (nH S.expr n acc (ts.drop q)) := by
 intro n
 induction n with
 | zero => intro FF I H acc q h0 hq hs; trivial
 | succ n ih =>
  intro FF I H acc q h0 hq hs
  unfold nH
  refine ah.step (fun k => by rw [aJ.l0]) ?_
  refine ah.neg (by simp) ?_
  rw [yz _ _ _ (by rw [fO _ [41] rfl]; simp), fO _ [41] rfl]
  simp only [Option.bind_some]
  refine ah.step (fun k => by rw [aJ.j1]) ?_
  rw [inc acc.length (by omega)]
  have more : ∀ (x : List S29) (p : Nat), q ≤ p → p ≤ ts.length → sz x ≤ 2 * (p - q) → ah ts q0 2 szK (fun k => if acc.length < 5864062014805 then aJ.l0 (FF (k + 2)) k (acc ++ [x]) ((acc.length + 1 : Nat) : Int) ts (p : Int) false else none) (nH S.expr n (acc ++ [x]) (ts.drop p)) := by
   intro x p g1 g2 g3
   unfold sz at g3
   refine ah.pos (by omega) ?_
   have := ih (fun k => FF (k + 2)) I.shift.shift H.shift.shift (acc ++ [x]) p (by omega) g2 Z35
   rw [jM] at this
   exact this
  have moreB : ∀ (x : List S29) (p : Nat), q ≤ p → p ≤ ts.length → sz x ≤ 2 * (p - q) + 2 → ∃ y : List (List S29), q0 ≤ p ∧ szK y ≤ 2 * (p - q0) + 2 ∧ af (fun k => if acc.length < 5864062014805 then aJ.l0 (FF (k + 2)) k (acc ++ [x]) ((acc.length + 1 : Nat) : Int) ts (p : Int) true else none) (y, (p : Int), true) := by
   intro x p g1 g2 g3
   unfold sz at g3
   exact ⟨acc ++ [x], by omega, by unfold szK; rw [iG, jM]; omega, af.pos (by omega) (GX (FF := fun k => FF (k + 2)) (acc ++ [x]) _ _)⟩
  by_cases c : wd (ts.drop q) = [41]
  ·rw [if_pos c]
   refine ah.neg (by simp [c]) ?_
   refine ah.lm ⟨#[41]⟩ [41] (fO _ _ rfl) (by simp) hq hts h0 (fun h4 => ?_) ?_
   ·dsimp only
    exact ah.done _ (by omega) h4 (by unfold szK; omega) af.now
   dsimp only
   exact ⟨acc, by unfold szK; omega, af.now⟩
  rw [if_neg c]
  refine ah.pos (by simp [c]) ?_
  by_cases d : acc = []
  ·rw [if_pos d]
   refine ah.neg (by subst d; simp) ?_
   refine ah.bind (I.shift.shift.expr ts q hts hq) (fun x p h1 h2 h3 => ?_) (fun x p h1 h2 h3 => ?_)
   ·exact more x p (by omega) h2 (by omega)
   exact moreB x p (by omega) h2 (by omega)
  rw [if_neg d]
  refine ah.pos (by have := List.length_pos_iff.2 d; omega) ?_
  refine ah.lm ⟨#[44]⟩ [44] (fO _ _ rfl) (by simp) hq hts h0 (fun h4 => ?_) ?_
  ·dsimp only
   refine ah.bind (I.shift.shift.expr ts (q + 1) hts h4) (fun x p h1 h2 h3 => ?_) (fun x p h1 h2 h3 => ?_)
   ·exact more x p (by omega) h2 (by omega)
   exact moreB x p (by omega) h2 (by omega)
  dsimp only
  obtain ⟨y, g1, g2, g3⟩ := moreB [] q (Nat.le_refl _) hq (by unfold sz; simp [nd])
  exact ⟨y, g2, af.bind (H.shift.shift.expr ts _) g3⟩
theorem GY (hts : ts.length ≤ 40000) (I : IhR S FF) (H : OkR FF) (N : Nat) (q : Nat) (hq : q ≤ ts.length) :
 ah ts q 2 szK (fun k => aJ.f (FF k) k ts (q : Int) false) (Par.gW S.expr N (ts.drop q)) := by
 unfold aJ.f Par.gW
 refine ah.lm ⟨#[40]⟩ [40] (fO _ _ rfl) (by simp) hq hts (by omega) (fun h4 => ?_) ?_
 ·dsimp only
  exact KZ hts q N FF I H [] (q + 1) (by omega) h4 Z12
 dsimp only
 exact ⟨[], by unfold szK; simp only [List.flatten_nil, List.length_nil]; omega, GX (FF := FF) [] 0 _⟩
theorem AL (acc : List (List S29)) (i q : Int) : af (fun k => aH.l0 k acc i ts q true) (acc, q, true) := by
 refine af.step (fun k => by rw [aH.l0]) ?_
 refine af.pos rfl ?_
 refine af.step (fun k => by rw [aH.j1]) ?_
 refine af.neg (by simp) ?_
 rw [gV]
 exact af.now
theorem FQ (hts : ts.length ≤ 40000) (q0 : Nat) : ∀ (n : Nat) (FF : Nat → iI) (I : IhR S FF) (H : OkR FF) (acc : List (List S29)) (q : Nat), q0 ≤ q → q ≤ ts.length → acc.flatten.length + acc.length + 2 ≤ 2 * (q - q0) →
 ah ts q0 2 szK (fun k => aH.l0 k acc (acc.length : Int) ts (q : Int) false) (nH mD n acc (ts.drop q)) := by
 intro n
 induction n with
 | zero => intro FF I H acc q h0 hq hs; trivial
 | succ n ih =>
  intro FF I H acc q h0 hq hs
  unfold nH
  refine ah.step (fun k => by rw [aH.l0]) ?_
  refine ah.neg (by simp) ?_
  rw [yz _ _ _ (by rw [fO _ [41] rfl]; simp), fO _ [41] rfl]
  simp only [Option.bind_some]
  refine ah.step (fun k => by rw [aH.j1]) ?_
  rw [inc acc.length (by omega)]
  have more : ∀ (x : List S29) (p : Nat), q ≤ p → p ≤ ts.length → sz x ≤ 2 * (p - q) → ah ts q0 2 szK (fun k => if acc.length < 5864062014805 then aH.l0 k (acc ++ [x]) ((acc.length + 1 : Nat) : Int) ts (p : Int) false else none) (nH mD n (acc ++ [x]) (ts.drop p)) := by
   intro x p g1 g2 g3
   unfold sz at g3
   refine ah.pos (by omega) ?_
   have := ih (fun k => FF (k + 2)) I.shift.shift H.shift.shift (acc ++ [x]) p (by omega) g2 Z35
   rw [jM] at this
   exact this
  have moreB : ∀ (x : List S29) (p : Nat), q ≤ p → p ≤ ts.length → sz x ≤ 2 * (p - q) + 2 → ∃ y : List (List S29), q0 ≤ p ∧ szK y ≤ 2 * (p - q0) + 2 ∧ af (fun k => if acc.length < 5864062014805 then aH.l0 k (acc ++ [x]) ((acc.length + 1 : Nat) : Int) ts (p : Int) true else none) (y, (p : Int), true) := by
   intro x p g1 g2 g3
   unfold sz at g3
   exact ⟨acc ++ [x], by omega, by unfold szK; rw [iG, jM]; omega, af.pos (by omega) (AL (acc ++ [x]) _ _)⟩
  by_cases c : wd (ts.drop q) = [41]
  ·rw [if_pos c]
   refine ah.neg (by simp [c]) ?_
   refine ah.lm ⟨#[41]⟩ [41] (fO _ _ rfl) (by simp) hq hts h0 (fun h4 => ?_) ?_
   ·dsimp only
    exact ah.done _ (by omega) h4 (by unfold szK; omega) af.now
   dsimp only
   exact ⟨acc, by unfold szK; omega, af.now⟩
  rw [if_neg c]
  refine ah.pos (by simp [c]) ?_
  by_cases d : acc = []
  ·rw [if_pos d]
   refine ah.neg (by subst d; simp) ?_
   rw [yM]
   refine ah.qp 1 hq hts (by omega) (fun t h2 _ => ?_) ?_
   ·exact more (nd 4 t.f1 0 E []) (q + 1) (by omega) h2 (by unfold sz; rw [dZ]; simp only [List.flatten_nil, List.length_nil]; omega)
   obtain ⟨y, g1, g2, g3⟩ := moreB (nd 4 E 0 E []) q (by omega) hq (by unfold sz; rw [dZ]; simp only [List.flatten_nil, List.length_nil]; omega)
   exact ⟨y, g2, g3⟩
  rw [if_neg d]
  refine ah.pos (by have := List.length_pos_iff.2 d; omega) ?_
  refine ah.lm ⟨#[44]⟩ [44] (fO _ _ rfl) (by simp) hq hts h0 (fun h4 => ?_) ?_
  ·dsimp only
   rw [yM]
   refine ah.qp 1 h4 hts (by omega) (fun t h2 _ => ?_) ?_
   ·exact more (nd 4 t.f1 0 E []) ((q + 1) + 1) (by omega) h2 (by unfold sz; rw [dZ]; simp only [List.flatten_nil, List.length_nil]; omega)
   obtain ⟨y, g1, g2, g3⟩ := moreB (nd 4 E 0 E []) (q + 1) (by omega) h4 (by unfold sz; rw [dZ]; simp only [List.flatten_nil, List.length_nil]; omega)
   exact ⟨y, g2, g3⟩
  dsimp only
  obtain ⟨y, g1, g2, g3⟩ := moreB (nd 4 E 0 E []) q (Nat.le_refl _) hq (by unfold sz; rw [dZ]; simp only [List.flatten_nil, List.length_nil]; omega)
  refine ⟨y, g2, ?_⟩
  rw [lV]
  simp only [Option.bind_some]
  exact g3
theorem FT (hts : ts.length ≤ 40000) (I : IhR S FF) (H : OkR FF) (N : Nat) (q : Nat) (hq : q ≤ ts.length) :
 ah ts q 2 szK (fun k => aH.f k ts (q : Int) false) (Par.gW mD N (ts.drop q)) := by
 unfold aH.f Par.gW
 refine ah.lm ⟨#[40]⟩ [40] (fO _ _ rfl) (by simp) hq hts (by omega) (fun h4 => ?_) ?_
 ·dsimp only
  exact FQ hts q N FF I H [] (q + 1) (by omega) h4 Z12
 dsimp only
 exact ⟨[], by unfold szK; simp only [List.flatten_nil, List.length_nil]; omega, AL [] 0 _⟩
/-- A function's kids. -/
def EF (F : PF) (N : Nat) : Ps (List (List S29)) := bnd (Par.gW mD N) fun ps => bnd (qg F N) fun b => ret (ps ++ [b])
theorem vz (F : PF) (N : Nat) (k : Int) (nm : ByteArray) (l : List S37) : lX F N k nm l = bnd (EF F N) (fun ks => ret (nd k nm 0 E ks)) l := by
 unfold lX EF bnd ret
 cases Par.gW mD N l with
 | error e => rfl
 | ok x =>
  obtain ⟨ps, r⟩ := x
  dsimp only
  cases qg F N r <;> rfl
theorem uT (hts : ts.length ≤ 40000) (I : IhR S FF) (H : OkR FF) (N : Nat) (q : Nat) (hq : q ≤ ts.length) :
 ah ts q 4 szK (fun k => dK.f (FF k) k ts (q : Int) false) (EF S N (ts.drop q)) := by
 unfold dK.f EF
 refine ah.bind (FT hts I H N q hq) (fun ps p h1 h2 h3 => ?_) (fun ps p h1 h2 h3 => ?_)
 ·unfold szK at h3
  dsimp only
  refine ah.bind (Ar hts I H N p h2) (fun b p2 f1 f2 f3 => ?_) (fun b p2 f1 f2 f3 => ?_)
  ·unfold sz at f3
   dsimp only
   exact ah.pos (by omega) (ah.done _ (by omega) f2 (by unfold szK; rw [iG, jM]; omega) af.now)
  unfold sz at f3
  dsimp only
  exact ⟨ps ++ [b], by omega, by unfold szK; rw [iG, jM]; omega, af.pos (by omega) af.now⟩
 unfold szK at h3
 dsimp only
 exact ⟨ps ++ [nd 5 E 0 E []], h1, by unfold szK; rw [iG, jM, l9]; omega, af.bind rX (af.pos (by omega) af.now)⟩
end Go.Proofs.YtkbhkonenkgfoaaGreat.Par
end
section
set_option linter.unusedVariables false
set_option linter.unusedSimpArgs false
namespace Go.Proofs.YtkbhkonenkgfoaaGreat.Par
open Go Go.RowKit Go.Proofs.YtkbhkonenkgfoaaGreatW.PrintWords Go.Proofs.YtkbhkonenkgfoaaGreat.Q Go.Proofs.YtkbhkonenkgfoaaGreat.Lex Go.Proofs.YtkbhkonenkgfoaaGreat.Tree
variable {ts : List S37} {S : PF} {FF : Nat → Fam}
theorem KE (hts : ts.length ≤ 40000) (I : Ih S FF) (H : OkB FF) (N : Nat) (q : Nat) (hq : q ≤ ts.length) :
 ah ts q 2 sz (fun k => gq.f (FF k) k ts (q : Int) false) (ug S N (ts.drop q)) := by
 unfold gq.f
 cases e : ts.drop q with
 | nil =>
  rw [wX ts q e]
  unfold ug
  refine ⟨[], q, Nat.le_refl _, hq, e, by unfold sz; simp only [List.length_nil]; omega, af.now⟩
 | cons t r =>
  obtain ⟨hq1, _, hr⟩ := mr ts q t r e
  rw [uH ts q t r e]
  simp only [Option.bind_some]
  refine ah.pos (by trivial) ?_
  unfold ug
  refine ah.ite (fun c => ?_) (fun c => ?_)
  ·rw [inc q (by omega), ← hr]
   exact ah.node (p := q + 1) (nm := E) (n := t.f2) (tx := E) (kids := []) (by omega) hq1 hts (by simp) Z12
  refine ah.ite (fun c => ?_) (fun c => ?_)
  ·rw [inc q (by omega), ← hr]
   exact ah.node (p := q + 1) (nm := E) (n := 0) (tx := t.f1) (kids := []) (by omega) hq1 hts (by simp) Z12
  rw [← e]
  unfold Dq
  refine ah.need 1 hq hts (by omega) (fun t1 h2 _ => ?_) ?_
  ·dsimp only
   refine ah.yV _ _ (fO _ _ rfl) (by simp) h2 hts (fun h3 => ?_) (fun hn => ?_)
   ·refine ah.pos rfl ?_
    dsimp only
    refine ah.need 1 h3 hts (by omega) (fun t2 h4 _ => ?_) ?_
    ·dsimp only
     refine ah.bind (Dv hts I H N _ h4) (fun ks p g1 g2 g3 => ?_) (fun ks p g1 g2 g3 => ?_)
     ·unfold szK at g3
      dsimp only
      exact ah.node (by omega) g2 hts (by omega) (by omega)
     unfold szK at g3
     dsimp only
     exact ⟨nd 23 t1.f1 0 t2.f1 ks, by omega, by unfold sz; rw [dZ]; omega, jJ (by omega) (by omega) af.now⟩
    dsimp only
    exact ⟨nd 23 t1.f1 0 E [], by unfold sz; rw [dZ]; simp only [List.flatten_nil, List.length_nil]; omega, af.bind E8 (jJ (by simp) (by simp) af.now)⟩
   refine ah.neg (by simp) ?_
   exact ah.node (by omega) h2 hts (by simp) Z12
  dsimp only
  rw [takeB _ [46] rfl (by simp)]
  simp only [Option.bind_some]
  exact ⟨nd 21 E 0 E [], by unfold sz; rw [dZ]; simp only [List.flatten_nil, List.length_nil]; omega, af.neg (by simp) (jJ (by simp) (by simp) af.now)⟩
theorem Kr (hts : ts.length ≤ 40000) (I : Ih S FF) (H : OkB FF) (N : Nat) (q : Nat) (hq : q ≤ ts.length) :
 ah ts q 2 sz (fun k => fQ.f (FF k) k ts (q : Int) false) (wO S N (ts.drop q)) := by
 refine ah.congr (fun k => by unfold fQ.f; rw [nz]) ?_
 unfold wO
 simp only [Option.bind_some]
 refine ah.ite (fun hw => ah.tkw _ hw (by simp) hts (fun h1 => ?_)) (fun _ => ?_)
 ·exact ah.node (by omega) h1 hts (by simp) Z12
 refine ah.ite (fun hw => ah.tkw _ hw (by simp) hts (fun h1 => ?_)) (fun _ => ?_)
 ·exact ah.node (by omega) h1 hts (by simp) Z12
 refine ah.ite (fun hw => ah.tkw _ hw (by simp) hts (fun h1 => ?_)) (fun _ => ?_)
 ·dsimp only
  refine ah.must ⟨#[125]⟩ [125] (fO _ _ rfl) (by simp) h1 hts (by omega) (fun h4 => ?_) ?_
  ·dsimp only
   exact ah.node (by omega) h4 hts (by simp) Z12
  dsimp only
  exact ah.yu (by simp) Z12 (by omega) (by omega)
 refine ah.ite (fun hw => ah.tkw _ hw (by simp) hts (fun h1 => ?_)) (fun _ => ?_)
 ·exact ah.idb (ah.from' (xw hts I H N 24 E (q + 1) h1) (by omega) (by omega))
 refine ah.ite (fun hw => ah.tkw _ hw (by simp) hts (fun h1 => ?_)) (fun _ => ?_)
 ·dsimp only
  refine ah.bind (I.expr ts (q + 1) hts h1) (fun e p g1 g2 g3 => ?_) (fun e p g1 g2 g3 => ?_)
  ·dsimp only
   refine ah.must ⟨#[41]⟩ [41] (fO _ _ rfl) (by simp) g2 hts (by omega) (fun h4 => ?_) ?_
   ·dsimp only
    exact ah.done _ (by omega) h4 (by omega) af.now
   dsimp only
   exact ⟨e, by omega, af.now⟩
  dsimp only
  rw [jS _ [41] rfl (by simp)]
  exact ⟨e, by omega, by omega, af.now⟩
 exact ah.idb (KE hts I H N q hq)
theorem Ku (hts : ts.length ≤ 40000) (q0 N : Nat) : ∀ (n : Nat) (FF : Nat → Fam) (I : Ih S FF) (H : OkB FF) (e : List S29) (q : Nat), q0 ≤ q → q ≤ ts.length → sz e ≤ 2 * (q - q0) →
 ah ts q0 2 sz (fun k => aW.l0 (FF k) k e ts (q : Int) false) (tN S N n e (ts.drop q)) := by
 intro n
 induction n with
 | zero => intro FF I H e q h0 hq hs; trivial
 | succ n ih =>
  intro FF I H e q h0 hq hs
  have hs' := hs
  unfold sz at hs'
  unfold tN
  refine ah.step (fun k => by rw [aW.l0]) ?_
  refine ah.neg (by simp) ?_
  rw [nz]
  simp only [Option.bind_some]
  refine ah.ite (fun c => ?_) (fun c => ?_)
  ·refine ah.bind (Dv hts I.shift H.shift N q hq) (fun ks p g1 g2 g3 => ?_) (fun ks p g1 g2 g3 => ?_)
   ·unfold szK at g3
    dsimp only
    have hf : ([e] ++ ks).flatten.length = e.length + ks.flatten.length := by simp
    have hg : ([e] ++ ks).length = 1 + ks.length := by simp; omega
    refine ah.pos Z34 ?_
    refine ah.evB (wW 22 E 0 E 0 ([e] ++ ks) (by omega) (by omega)) ?_
    exact ih (fun k => FF (k + 1)) I.shift H.shift _ p (by omega) g2 (by unfold sz; rw [dZ]; omega)
   unfold szK at g3
   dsimp only
   have hf : ([e] ++ ks).flatten.length = e.length + ks.flatten.length := by simp
   have hg : ([e] ++ ks).length = 1 + ks.length := by simp; omega
   exact ⟨nd 22 E 0 E ([e] ++ ks), by omega, by unfold sz; rw [dZ]; omega, af.pos Z34 (jJ (by omega) (by omega) (qA (FF := fun k => FF (k + 1)) _))⟩
  refine ah.ite (fun c => ?_) (fun c => ?_)
  ·refine ah.tk ⟨#[91]⟩ (by rw [fO _ [91] rfl]; simp) (by rw [fO _ [91] rfl]; exact c) hts (fun h1 => ?_)
   dsimp only
   refine ah.bind (I.shift.expr ts (q + 1) hts h1) (fun i p g1 g2 g3 => ?_) (fun i p g1 g2 g3 => ?_)
   ·unfold sz at g3
    dsimp only
    refine ah.evB (wW 26 E 0 E 0 [e, i] (by simp) (by rw [ji]; omega)) ?_
    refine ah.must ⟨#[93]⟩ [93] (fO _ _ rfl) (by simp) g2 hts (by omega) (fun h4 => ?_) ?_
    ·dsimp only
     exact ih (fun k => FF (k + 1)) I.shift H.shift _ (p + 1) (by omega) h4 (by unfold sz; rw [dZ, ji]; omega)
    dsimp only
    exact ⟨nd 26 E 0 E [e, i], by unfold sz; rw [dZ, ji]; omega, qA (FF := fun k => FF (k + 1)) _⟩
   unfold sz at g3
   dsimp only
   refine ⟨nd 26 E 0 E [e, i], by omega, by unfold sz; rw [dZ, ji]; omega, jJ (by simp) (by rw [ji]; omega) ?_⟩
   rw [jS _ [93] rfl (by simp)]
   exact qA (FF := fun k => FF (k + 1)) _
  exact ah.done e h0 hq hs af.now
theorem wz (hts : ts.length ≤ 40000) (I : Ih S FF) (H : OkB FF) (N : Nat) (q : Nat) (hq : q ≤ ts.length) (b : Bool) (hb : b = decide (wd (ts.drop q) = [45] ∨ wd (ts.drop q) = [110, 111, 116] ∨ wd (ts.drop q) = [108, 101, 110])) :
 ah ts q 2 sz (fun k => aW.j0 (FF k) k (wB (ts.drop q)) (wB (ts.drop q)) b ts (q : Int) false) (pM S N (ts.drop q)) := by
 refine ah.step (fun k => by rw [aW.j0]) ?_
 unfold pM
 by_cases c : wd (ts.drop q) = [45] ∨ wd (ts.drop q) = [110, 111, 116] ∨ wd (ts.drop q) = [108, 101, 110]
 ·rw [if_pos c]
  refine ah.pos Z32 ?_
  refine ah.tkw (wd (ts.drop q)) rfl (by rcases c with c | c | c <;> rw [c] <;> simp) hts (fun h1 => ?_)
  dsimp only
  refine ah.bind (I.shift.unary ts (q + 1) hts h1) (fun e p g1 g2 g3 => ?_) (fun e p g1 g2 g3 => ?_)
  ·unfold sz at g3
   dsimp only
   exact ah.node (by omega) g2 hts (by simp) (by rw [jG]; omega)
  unfold sz at g3
  dsimp only
  exact ⟨nd 28 E 0 (wB (ts.drop q)) [e], by omega, by unfold sz; rw [dZ, jG]; omega, jJ (by simp) (by rw [jG]; omega) af.now⟩
 rw [if_neg c]
 refine ah.neg Z39 ?_
 refine ah.ite (fun c2 => ah.tkw _ c2 (by simp) hts (fun h1 => ?_)) (fun c2 => ?_)
 ·dsimp only
  refine ah.bind (I.shift.unary ts (q + 1) hts h1) (fun e p g1 g2 g3 => ?_) (fun e p g1 g2 g3 => ?_)
  ·unfold sz at g3
   dsimp only
   exact ah.node (by omega) g2 hts (by simp) (by rw [jG]; omega)
  unfold sz at g3
  dsimp only
  exact ⟨nd 30 E 0 E [e], by omega, by unfold sz; rw [dZ, jG]; omega, jJ (by simp) (by rw [jG]; omega) af.now⟩
 refine ah.bind (Kr hts I.shift H.shift N q hq) (fun e p g1 g2 g3 => ?_) (fun e p g1 g2 g3 => ?_)
 ·dsimp only
  exact Ku hts q N N (fun k => FF (k + 1)) I.shift H.shift e p (by omega) g2 g3
 dsimp only
 exact ⟨e, g1, g3, qA (FF := fun k => FF (k + 1)) e⟩
theorem CZ (hts : ts.length ≤ 40000) (I : Ih S FF) (H : OkB FF) (N : Nat) (q : Nat) (hq : q ≤ ts.length) :
 ah ts q 2 sz (fun k => aW.f (FF k) k ts (q : Int) false) (pM S N (ts.drop q)) := by
 refine ah.congr (fun k => by unfold aW.f; rw [nz]) ?_
 simp only [Option.bind_some]
 by_cases c1 : wd (ts.drop q) = [45]
 ·refine ah.pos c1 (wz hts I H N q hq _ ?_)
  rw [eqb]; exact decide_eq_decide.2 ⟨fun h => Or.inl h, fun h => c1⟩
 refine ah.neg c1 ?_
 by_cases c2 : wd (ts.drop q) = [110, 111, 116]
 ·refine ah.pos c2 (wz hts I H N q hq _ ?_)
  rw [eqb]; exact decide_eq_decide.2 ⟨fun h => Or.inr (Or.inl h), fun h => c2⟩
 refine ah.neg c2 (wz hts I H N q hq _ ?_)
 rw [eqb]; exact decide_eq_decide.2 ⟨fun h => Or.inr (Or.inr h), fun h => h.elim (fun h => absurd h c1) (fun h => h.elim (fun h => absurd h c2) id)⟩
theorem three {p q r : Prop} [Decidable p] [Decidable q] [Decidable r] {α : Type} {F : Bool → Nat → Option α} {v : α} (h : ∀ b : Bool, b = decide (p ∨ q ∨ r) → af (F b) v) :
 af (fun k => if p then F (decide p) k else if q then F (decide q) k else F (decide r) k) v := by
 by_cases c1 : p
 ·exact af.pos c1 (h _ (decide_eq_decide.2 ⟨fun x => Or.inl x, fun _ => c1⟩))
 refine af.neg c1 ?_
 by_cases c2 : q
 ·exact af.pos c2 (h _ (decide_eq_decide.2 ⟨fun x => Or.inr (Or.inl x), fun _ => c2⟩))
 exact af.neg c2 (h _ (decide_eq_decide.2 ⟨fun x => Or.inr (Or.inr x), fun x => x.elim (fun y => absurd y c1) (fun y => y.elim (fun z => absurd z c2) id)⟩))
theorem ET (w : ByteArray) (b : Bool) (hb : b = decide (w.toList = [43] ∨ w.toList = [45] ∨ w.toList = [46, 46])) :
 af (fun k => dS.j1 k w b) (if w.toList = [43] ∨ w.toList = [45] ∨ w.toList = [46, 46] then (4 : Int) else if w.toList = [42] ∨ w.toList = [47] ∨ w.toList = [37] then 5 else 0) := by
 refine af.step (fun k => by rw [dS.j1]) ?_
 by_cases c : w.toList = [43] ∨ w.toList = [45] ∨ w.toList = [46, 46]
 ·rw [if_pos c]
  exact af.pos Z32 af.now
 rw [if_neg c]
 refine af.neg Z39 ?_
 by_cases d1 : w.toList = [42]
 ·rw [if_pos (Or.inl d1)]; exact af.pos d1 af.now
 refine af.neg d1 ?_
 by_cases d2 : w.toList = [47]
 ·rw [if_pos (Or.inr (Or.inl d2))]; exact af.pos d2 af.now
 refine af.neg d2 ?_
 by_cases d3 : w.toList = [37]
 ·rw [if_pos (Or.inr (Or.inr d3))]; exact af.pos d3 af.now
 have hn : ¬(w.toList = [42] ∨ w.toList = [47] ∨ w.toList = [37]) := fun h => h.elim d1 (fun h => h.elim d2 d3)
 rw [if_neg hn]
 exact af.neg d3 af.now
theorem sQ (w : ByteArray) (b : Bool) (hb : b = decide (w.toList = [61, 61] ∨ w.toList = [33, 61] ∨ w.toList = [60] ∨ w.toList = [60, 61])) :
 af (fun k => dS.j0 k w b) (if w.toList = [61, 61] ∨ w.toList = [33, 61] ∨ w.toList = [60] ∨ w.toList = [60, 61] then (3 : Int) else if w.toList = [43] ∨ w.toList = [45] ∨ w.toList = [46, 46] then 4 else if w.toList = [42] ∨ w.toList = [47] ∨ w.toList = [37] then 5 else 0) := by
 refine af.step (fun k => by rw [dS.j0]) ?_
 by_cases c : w.toList = [61, 61] ∨ w.toList = [33, 61] ∨ w.toList = [60] ∨ w.toList = [60, 61]
 ·rw [if_pos c]
  exact af.pos Z32 af.now
 rw [if_neg c]
 refine af.neg Z39 ?_
 simp only [eqb]
 exact three (F := fun b k => dS.j1 k w b) (fun b hb => ET w b hb)
theorem HY (w : ByteArray) : af (fun k => dS.f k w) (oU w.toList) := by
 unfold dS.f oU
 by_cases c1 : w.toList = [111, 114]
 ·rw [if_pos c1]; exact af.pos c1 af.now
 rw [if_neg c1]
 refine af.neg c1 ?_
 by_cases c2 : w.toList = [97, 110, 100]
 ·rw [if_pos c2]; exact af.pos c2 af.now
 rw [if_neg c2]
 refine af.neg c2 ?_
 by_cases d1 : w.toList = [61, 61]
 ·exact af.pos d1 (sQ w _ (by rw [eqb]; exact decide_eq_decide.2 ⟨fun h => Or.inl h, fun _ => d1⟩))
 refine af.neg d1 ?_
 by_cases d2 : w.toList = [33, 61]
 ·exact af.pos d2 (sQ w _ (by rw [eqb]; exact decide_eq_decide.2 ⟨fun h => Or.inr (Or.inl h), fun _ => d2⟩))
 refine af.neg d2 ?_
 by_cases d3 : w.toList = [60]
 ·exact af.pos d3 (sQ w _ (by rw [eqb]; exact decide_eq_decide.2 ⟨fun h => Or.inr (Or.inr (Or.inl h)), fun _ => d3⟩))
 exact af.neg d3 (sQ w _ (by rw [eqb]; exact decide_eq_decide.2 ⟨fun h => Or.inr (Or.inr (Or.inr h)), fun h => h.elim (fun h => absurd h d1) (fun h => h.elim (fun h => absurd h d2) (fun h => h.elim (fun h => absurd h d3) id))⟩))
theorem zV {l : List UInt8} {a : Int} (h : oU l = a) (ha : 1 ≤ a) : l ≠ [] := by
 intro e; subst e
 have : oU [] = 0 := rfl
 omega
theorem Jf (hts : ts.length ≤ 40000) (q0 : Nat) (a : Int) (ha : 1 ≤ a) (ha5 : a ≤ 5) : ∀ (n : Nat) (FF : Nat → Fam) (I : Ih S FF) (H : OkB FF) (e : List S29) (q : Nat), q0 ≤ q → q ≤ ts.length → sz e ≤ 2 * (q - q0) →
 ah ts q0 2 sz (fun k => bM.l0 (FF k) k a e ts (q : Int) false) (qf S a n e (ts.drop q)) := by
 intro n
 induction n with
 | zero => intro FF I H e q h0 hq hs; trivial
 | succ n ih =>
  intro FF I H e q h0 hq hs
  have hs' := hs
  unfold sz at hs'
  unfold qf
  refine ah.step (fun k => by rw [bM.l0]) ?_
  refine ah.neg (by simp) ?_
  rw [nz]
  simp only [Option.bind_some]
  refine ah.evB (HY (wB (ts.drop q))) ?_
  refine ah.ite (fun c => ah.tkw _ rfl (zV c ha) hts (fun h1 => ?_)) (fun c => ah.done e h0 hq hs af.now)
  dsimp only
  rw [w64 (n := a + 1) (by omega) (by omega)]
  refine ah.bind (I.shift.bound (a + 1) (by omega) (by omega) ts (q + 1) hts h1) (fun e2 p g1 g2 g3 => ?_) (fun e2 p g1 g2 g3 => ?_)
  ·unfold sz at g3
   dsimp only
   refine ah.evB (wW 27 E 0 (wB (ts.drop q)) 0 [e, e2] (by simp) (by rw [ji]; omega)) ?_
   by_cases d : a = 3
   ·rw [if_pos d]
    refine ah.pos d ?_
    exact ah.done _ (by omega) g2 (by unfold sz; rw [dZ, ji]; omega) af.now
   rw [if_neg d]
   refine ah.neg d ?_
   exact ih (fun k => FF (k + 1)) I.shift H.shift _ p (by omega) g2 (by unfold sz; rw [dZ, ji]; omega)
  unfold sz at g3
  dsimp only
  refine ⟨nd 27 E 0 (wB (ts.drop q)) [e, e2], by omega, by unfold sz; rw [dZ, ji]; omega, jJ (by simp) (by rw [ji]; omega) ?_⟩
  by_cases d : a = 3
  ·exact af.pos d af.now
  exact af.neg d (sD (FF := fun k => FF (k + 1)) a _)
theorem DF (hts : ts.length ≤ 40000) (I : Ih S FF) (H : OkB FF) (N : Nat) (a : Int) (h1 : 1 ≤ a) (h2 : a ≤ 6) (q : Nat) (hq : q ≤ ts.length) :
 ah ts q 2 sz (fun k => bM.f (FF k) k ts (q : Int) false a) (oD S N a (ts.drop q)) := by
 unfold bM.f oD
 by_cases c : a = 6
 ·rw [if_pos c]
  exact ah.pos c (ah.idb (CZ hts I H N q hq))
 rw [if_neg c]
 refine ah.neg c ?_
 rw [w64 (n := a + 1) (by omega) (by omega)]
 refine ah.bind (I.bound (a + 1) (by omega) (by omega) ts q hts hq) (fun e p g1 g2 g3 => ?_) (fun e p g1 g2 g3 => ?_)
 ·dsimp only
  exact Jf hts q a h1 (by omega) N FF I H e p g1 g2 g3
 dsimp only
 exact ⟨e, g1, g3, sD a e⟩
theorem KW (hts : ts.length ≤ 40000) (I : Ih S FF) (H : OkB FF) (N : Nat) (q : Nat) (hq : q ≤ ts.length) :
 ah ts q 2 sz (fun k => fP.f (FF k) k ts (q : Int) false) (kQ S N (ts.drop q)) := by
 unfold fP.f kQ
 exact ah.idb (DF hts I H N 1 (by omega) (by omega) q hq)
theorem LJ : ∀ n : Nat, Ih (oZ n) fam := by
 intro n
 induction n with
 | zero => exact ⟨fun _ _ _ _ => trivial, fun _ _ _ _ => trivial, fun _ _ _ _ _ _ _ => trivial, fun _ _ _ _ => trivial⟩
 | succ n ih =>
  exact ⟨fun ts q hts hq => ah.step (fun k => rfl) (KW hts ih tY n q hq), fun ts q hts hq => ah.step (fun k => rfl) (DI hts ih tY n q hq),
   fun a h1 h2 ts q hts hq => ah.step (fun k => rfl) (DF hts ih tY n a h1 h2 q hq), fun ts q hts hq => ah.step (fun k => rfl) (CZ hts ih tY n q hq)⟩
end Go.Proofs.YtkbhkonenkgfoaaGreat.Par
end
