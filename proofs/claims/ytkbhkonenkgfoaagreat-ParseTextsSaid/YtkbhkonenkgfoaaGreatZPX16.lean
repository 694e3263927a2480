/- Walks over functions of the program, words for them, and what the functions come to; of each text only what this claim uses; no condition. -/
import Derived.Test.YtkbhkonenkgfoaaGreatZPX0
import Derived.Test.YtkbhkonenkgfoaaGreatZPX4
import Derived.Test.YtkbhkonenkgfoaaGreatZPX7
import Derived.Test.YtkbhkonenkgfoaaGreatZPX8
import Derived.Test.YtkbhkonenkgfoaaGreatZPX14
import Derived.Test.YtkbhkonenkgfoaaGreatZPX15
import Derived.IntWalk
import Derived.Laws.Shifts
section
set_option linter.unusedVariables false
set_option linter.unusedSimpArgs false
namespace Go.Proofs.YtkbhkonenkgfoaaGreat.Par
open Go Go.RowKit Go.Proofs.YtkbhkonenkgfoaaGreatW.PrintWords Go.Proofs.YtkbhkonenkgfoaaGreat.Q Go.Proofs.YtkbhkonenkgfoaaGreat.Lex Go.Proofs.YtkbhkonenkgfoaaGreat.Tree
variable {ts : List S37} {S : PF} {FF : Nat → iI}
theorem Ii (hts : ts.length ≤ 40000) (I : IhR S FF) (H : OkR FF) (N : Nat) (q : Nat) (hq : q ≤ ts.length) :
 ah ts q 2 sz (fun k => if (q : Int) ≥ (ts.length : Int) then some (([] : List S29), (q : Int), true) else if 0 ≤ (q : Int) then wI.f (FF k) k ts (q : Int) else none) (ug S N (ts.drop q)) := by
 cases e : ts.drop q with
 | nil =>
  have : ts.length ≤ q := List.drop_eq_nil_iff.1 e
  unfold ug
  exact ⟨[], q, Nat.le_refl _, hq, e, by unfold sz; simp only [List.length_nil]; omega, af.pos (by omega) af.now⟩
 | cons t r =>
  obtain ⟨hq1, ht, hr⟩ := mr ts q t r e
  refine ah.neg (by omega) (ah.pos (by omega) ?_)
  unfold wI.f ug
  rw [ht]
  refine ah.ite (fun c => ?_) (fun c => ?_)
  ·rw [← hr]
   exact ah.pos (by omega) (ah.done (nd 19 E t.f2 E []) (by omega) hq1 (by unfold sz; rw [dZ]; simp only [List.flatten_nil, List.length_nil]; omega) af.now)
  refine ah.ite (fun c => ?_) (fun c => ?_)
  ·rw [← hr]
   exact ah.pos (by omega) (ah.done (nd 20 E 0 t.f1 []) (by omega) hq1 (by unfold sz; rw [dZ]; simp only [List.flatten_nil, List.length_nil]; omega) af.now)
  rw [← e]
  unfold Dq
  refine ah.qp 1 hq hts (by omega) (fun t1 h2 _ => ?_) ?_
  ·dsimp only
   refine ah.jA _ _ (fO _ _ rfl) (by simp) h2 hts (fun h3 => ?_) (fun hn => ?_)
   ·refine ah.pos rfl ?_
    dsimp only
    refine ah.qp 1 h3 hts (by omega) (fun t2 h4 _ => ?_) ?_
    ·dsimp only
     refine ah.bind (GY hts I H N _ h4) (fun ks p g1 g2 g3 => ?_) (fun ks p g1 g2 g3 => ?_)
     ·unfold szK at g3
      dsimp only
      exact ah.join (by omega) g2 hts (by omega) (by omega)
     unfold szK at g3
     dsimp only
     exact ⟨nd 23 t1.f1 0 t2.f1 ks, by omega, by unfold sz; rw [dZ]; omega, kW (by omega) (by omega) af.now⟩
    dsimp only
    exact ⟨nd 23 t1.f1 0 E [], by unfold sz; rw [dZ]; simp only [List.flatten_nil, List.length_nil]; omega, af.bind GV (kW (by simp) (by simp) af.now)⟩
   refine ah.neg (by simp) ?_
   exact ah.done (nd 21 t1.f1 0 E []) (by omega) h2 (by unfold sz; rw [dZ]; simp only [List.flatten_nil, List.length_nil]; omega) af.now
  dsimp only
  rw [mQ]
  simp only [Option.bind_some]
  exact ⟨nd 21 E 0 E [], by unfold sz; rw [dZ]; simp only [List.flatten_nil, List.length_nil]; omega, af.neg (by simp) af.now⟩
theorem Io (hts : ts.length ≤ 40000) (I : IhR S FF) (H : OkR FF) (N : Nat) (q : Nat) (hq : q ≤ ts.length) :
 ah ts q 2 sz (fun k => mP.f (FF k) k ts (q : Int) false) (wO S N (ts.drop q)) := by
 unfold mP.f wO
 refine ah.jA _ _ (fO _ _ rfl) (by simp) hq hts (fun h1 => ah.pos rfl ?_) (fun _ => ah.neg (by simp) ?_)
 ·exact ah.done (nd 18 E 0 E []) (by omega) h1 (by unfold sz; rw [dZ]; simp only [List.flatten_nil, List.length_nil]; omega) af.now
 dsimp only
 refine ah.jA _ _ (fO _ _ rfl) (by simp) hq hts (fun h1 => ah.pos rfl ?_) (fun _ => ah.neg (by simp) ?_)
 ·exact ah.done (nd 29 E 0 E []) (by omega) h1 (by unfold sz; rw [dZ]; simp only [List.flatten_nil, List.length_nil]; omega) af.now
 dsimp only
 refine ah.jA _ _ (fO _ _ rfl) (by simp) hq hts (fun h1 => ah.pos rfl ?_) (fun _ => ah.neg (by simp) ?_)
 ·dsimp only
  refine ah.lm ⟨#[125]⟩ [125] (fO _ _ rfl) (by simp) h1 hts (by omega) (fun h4 => ?_) ?_
  ·exact ah.done (nd 25 E 0 E []) (by omega) h4 (by unfold sz; rw [dZ]; simp only [List.flatten_nil, List.length_nil]; omega) af.now
  exact ⟨nd 25 E 0 E [], by unfold sz; rw [dZ]; simp only [List.flatten_nil, List.length_nil]; omega, af.now⟩
 dsimp only
 refine ah.jA _ _ (fO _ _ rfl) (by simp) hq hts (fun h1 => ah.pos rfl ?_) (fun _ => ah.neg (by simp) ?_)
 ·dsimp only
  rw [vz]
  refine ah.bind (uT hts I H N (q + 1) h1) (fun ks p g1 g2 g3 => ?_) (fun ks p g1 g2 g3 => ?_)
  ·unfold szK at g3
   dsimp only
   exact ah.join (by omega) g2 hts (by omega) (by omega)
  unfold szK at g3
  dsimp only
  exact ⟨nd 24 E 0 E ks, by omega, by unfold sz; rw [dZ]; omega, kW (by omega) (by omega) af.now⟩
 dsimp only
 refine ah.jA _ _ (fO _ _ rfl) (by simp) hq hts (fun h1 => ah.pos rfl ?_) (fun _ => ah.neg (by simp) ?_)
 ·dsimp only
  refine ah.bind (I.expr ts (q + 1) hts h1) (fun e p g1 g2 g3 => ?_) (fun e p g1 g2 g3 => ?_)
  ·dsimp only
   refine ah.lm ⟨#[41]⟩ [41] (fO _ _ rfl) (by simp) g2 hts (by omega) (fun h4 => ?_) ?_
   ·exact ah.done _ (by omega) h4 (by omega) af.now
   exact ⟨e, by omega, af.now⟩
  dsimp only
  rw [gV]
  exact ⟨e, by omega, by omega, af.now⟩
 dsimp only
 exact ah.neg (by simp) (Ii hts I H N q hq)
theorem Ip (hts : ts.length ≤ 40000) (q0 N : Nat) : ∀ (n : Nat) (FF : Nat → iI) (I : IhR S FF) (H : OkR FF) (e : List S29) (q : Nat), q0 ≤ q → q ≤ ts.length → sz e ≤ 2 * (q - q0) →
 ah ts q0 2 sz (fun k => az.l1 (FF k) k e ts (q : Int) false) (tN S N n e (ts.drop q)) := by
 intro n
 induction n with
 | zero => intro FF I H e q h0 hq hs; trivial
 | succ n ih =>
  intro FF I H e q h0 hq hs
  have hs' := hs
  unfold sz at hs'
  unfold tN
  refine ah.step (fun k => by rw [az.l1]) ?_
  refine ah.neg (by simp) ?_
  rw [yz _ _ _ (by rw [fO _ [40] rfl]; simp), fO _ [40] rfl]
  simp only [Option.bind_some]
  by_cases c : wd (ts.drop q) = [40]
  ·rw [if_pos c]
   refine ah.pos (by simp [c]) ?_
   refine ah.bind (GY hts I.shift H.shift N q hq) (fun ks p g1 g2 g3 => ?_) (fun ks p g1 g2 g3 => ?_)
   ·unfold szK at g3
    dsimp only
    have hf : ([e] ++ ks).flatten.length = e.length + ks.flatten.length := by simp
    have hg : ([e] ++ ks).length = 1 + ks.length := by simp; omega
    refine ah.pos Z34 ?_
    refine ah.evB (uI 22 E 0 E 0 ([e] ++ ks) (by omega) (by omega)) ?_
    exact ih (fun k => FF (k + 1)) I.shift H.shift _ p (by omega) g2 (by unfold sz; rw [dZ]; omega)
   unfold szK at g3
   dsimp only
   have hf : ([e] ++ ks).flatten.length = e.length + ks.flatten.length := by simp
   have hg : ([e] ++ ks).length = 1 + ks.length := by simp; omega
   exact ⟨nd 22 E 0 E ([e] ++ ks), by omega, by unfold sz; rw [dZ]; omega, af.pos Z34 (kW (by omega) (by omega) (pI (FF := fun k => FF (k + 1)) _))⟩
  rw [if_neg c]
  refine ah.neg (by simp [c]) ?_
  refine ah.jA _ _ (fO _ _ rfl) (by simp) hq hts (fun h1 => ah.pos rfl ?_) (fun _ => ah.neg (by simp) ?_)
  ·dsimp only
   refine ah.bind (I.shift.expr ts (q + 1) hts h1) (fun i p g1 g2 g3 => ?_) (fun i p g1 g2 g3 => ?_)
   ·unfold sz at g3
    dsimp only
    refine ah.evB (uI 26 E 0 E 0 [e, i] (by simp) (by rw [ji]; omega)) ?_
    refine ah.lm ⟨#[93]⟩ [93] (fO _ _ rfl) (by simp) g2 hts (by omega) (fun h4 => ?_) ?_
    ·dsimp only
     exact ih (fun k => FF (k + 1)) I.shift H.shift _ (p + 1) (by omega) h4 (by unfold sz; rw [dZ, ji]; omega)
    dsimp only
    exact ⟨nd 26 E 0 E [e, i], by unfold sz; rw [dZ, ji]; omega, pI (FF := fun k => FF (k + 1)) _⟩
   unfold sz at g3
   dsimp only
   refine ⟨nd 26 E 0 E [e, i], by omega, by unfold sz; rw [dZ, ji]; omega, kW (by simp) (by rw [ji]; omega) ?_⟩
   rw [gV]
   exact pI (FF := fun k => FF (k + 1)) _
  exact ah.done e h0 hq hs af.now
def unW : List ByteArray := [(⟨#[45]⟩ : ByteArray), (⟨#[110, 111, 116]⟩ : ByteArray), (⟨#[108, 101, 110]⟩ : ByteArray)]
theorem Jv {l : List S37} {w : ByteArray} (c : wd l = w.toList) : w = wB l := yO (by rw [← iM, ← iM]; exact c.symm)
theorem BF (hts : ts.length ≤ 40000) (I : IhR S FF) (i : Nat) (w : ByteArray) (hi : i < 3) (hr : lZ ByteArray.empty unW (i : Int) = w) (hw : w.toList ≠ []) (q : Nat) (hq : q ≤ ts.length) (c : wd (ts.drop q) = w.toList) :
 ah ts q 2 sz (fun k => az.l0 (FF k) k unW (i : Int) ts (q : Int) false) ((bnd Par.tk fun _ => bnd S.unary fun e => ret (nd 28 E 0 (wB (ts.drop q)) [e])) (ts.drop q)) := by
 refine ah.step (fun k => Z37) ?_
 rw [hr]
 refine ah.pos (by show (i : Int) < 3; omega) (ah.pos (by omega) ?_)
 refine ah.rtk w hw c hts (fun h1 => ah.pos rfl ?_)
 dsimp only
 rw [← Jv c]
 refine ah.bind (I.shift.unary ts (q + 1) hts h1) (fun e p g1 g2 g3 => ?_) (fun e p g1 g2 g3 => ?_)
 ·unfold sz at g3
  dsimp only
  exact ah.join (by omega) g2 hts (by simp) (by rw [jG]; omega)
 unfold sz at g3
 dsimp only
 exact ⟨nd 28 E 0 w [e], by omega, by unfold sz; rw [dZ, jG]; omega, kW (by simp) (by rw [jG]; omega) af.now⟩
theorem ER (hts : ts.length ≤ 40000) (i : Nat) (w : ByteArray) (hi : i < 3) (hr : lZ ByteArray.empty unW (i : Int) = w) (hw : w.toList ≠ []) (q : Nat) (hq : q ≤ ts.length) (c : wd (ts.drop q) ≠ w.toList) {P : R (List S29)}
 (h : ah ts q 2 sz (fun k => az.l0 (FF (k + 1)) k unW ((i + 1 : Nat) : Int) ts (q : Int) false) P) : ah ts q 2 sz (fun k => az.l0 (FF k) k unW (i : Int) ts (q : Int) false) P := by
 refine ah.step (fun k => Z37) ?_
 rw [hr, pF ts q (by omega) w hw, if_neg c, inc i (by omega)]
 simp only [Option.bind_some]
 exact ah.pos (by show (i : Int) < 3; omega) (ah.pos (by omega) (ah.neg (by simp) h))
theorem Ad (hts : ts.length ≤ 40000) (I : IhR S FF) (H : OkR FF) (N : Nat) (q : Nat) (hq : q ≤ ts.length) :
 ah ts q 2 sz (fun k => az.f (FF k) k ts (q : Int) false) (pM S N (ts.drop q)) := by
 unfold az.f pM
 have l0 : (⟨#[45]⟩ : ByteArray).toList = [45] := fO _ _ rfl
 have l1 : (⟨#[110, 111, 116]⟩ : ByteArray).toList = [110, 111, 116] := fO _ _ rfl
 have l2 : (⟨#[108, 101, 110]⟩ : ByteArray).toList = [108, 101, 110] := fO _ _ rfl
 by_cases c0 : wd (ts.drop q) = [45]
 ·rw [if_pos (Or.inl c0)]
  exact BF hts I 0 ⟨#[45]⟩ (by omega) rfl (by rw [l0]; simp) q hq (by rw [l0]; exact c0)
 refine ER hts 0 ⟨#[45]⟩ (by omega) rfl (by rw [l0]; simp) q hq (by rw [l0]; exact c0) ?_
 by_cases c1 : wd (ts.drop q) = [110, 111, 116]
 ·rw [if_pos (Or.inr (Or.inl c1))]
  exact BF hts I.shift 1 ⟨#[110, 111, 116]⟩ (by omega) rfl (by rw [l1]; simp) q hq (by rw [l1]; exact c1)
 refine ER (FF := fun k => FF (k + 1)) hts 1 ⟨#[110, 111, 116]⟩ (by omega) rfl (by rw [l1]; simp) q hq (by rw [l1]; exact c1) ?_
 by_cases c2 : wd (ts.drop q) = [108, 101, 110]
 ·rw [if_pos (Or.inr (Or.inr c2))]
  exact BF hts I.shift.shift 2 ⟨#[108, 101, 110]⟩ (by omega) rfl (by rw [l2]; simp) q hq (by rw [l2]; exact c2)
 refine ER (FF := fun k => FF (k + 1 + 1)) hts 2 ⟨#[108, 101, 110]⟩ (by omega) rfl (by rw [l2]; simp) q hq (by rw [l2]; exact c2) ?_
 rw [if_neg (fun h => h.elim c0 (fun h => h.elim c1 c2))]
 refine ah.step (fun k => Z37) ?_
 refine ah.neg (by show ¬ ((3 : Int) < 3); omega) ?_
 refine ah.jA _ _ (fO _ _ rfl) (by simp) hq hts (fun h1 => ah.pos rfl ?_) (fun _ => ah.neg (by simp) ?_)
 ·dsimp only
  refine ah.bind (I.shift.shift.shift.shift.unary ts (q + 1) hts h1) (fun e p g1 g2 g3 => ?_) (fun e p g1 g2 g3 => ?_)
  ·unfold sz at g3
   dsimp only
   exact ah.join (by omega) g2 hts (by simp) (by rw [jG]; omega)
  unfold sz at g3
  dsimp only
  exact ⟨nd 30 E 0 E [e], by omega, by unfold sz; rw [dZ, jG]; omega, kW (by simp) (by rw [jG]; omega) af.now⟩
 dsimp only
 refine ah.bind (Io hts I.shift.shift.shift.shift H.shift.shift.shift.shift N q hq) (fun e p g1 g2 g3 => ?_) (fun e p g1 g2 g3 => ?_)
 ·dsimp only
  exact Ip hts q N N _ I.shift.shift.shift.shift H.shift.shift.shift.shift e p (by omega) g2 g3
 dsimp only
 exact ⟨e, g1, g3, pI (FF := fun k => FF (k + 1 + 1 + 1 + 1)) e⟩
/-- The words of a level. -/
def lvW (a : Int) : List ByteArray := if a = 0 then [(⟨#[111, 114]⟩ : ByteArray)] else if a = 1 then [(⟨#[97, 110, 100]⟩ : ByteArray)] else if a = 2 then [(⟨#[61, 61]⟩ : ByteArray), (⟨#[33, 61]⟩ : ByteArray), (⟨#[60]⟩ : ByteArray), (⟨#[60, 61]⟩ : ByteArray)] else if a = 3 then [(⟨#[43]⟩ : ByteArray), (⟨#[45]⟩ : ByteArray), (⟨#[46, 46]⟩ : ByteArray)] else [(⟨#[42]⟩ : ByteArray), (⟨#[47]⟩ : ByteArray), (⟨#[37]⟩ : ByteArray)]
theorem Dw (a : Int) : iD.f a = some (lvW a) := by
 unfold iD.f lvW
 by_cases c0 : a = 0
 ·rw [if_pos c0, if_pos c0]
 rw [if_neg c0, if_neg c0]
 by_cases c1 : a = 1
 ·rw [if_pos c1, if_pos c1]
 rw [if_neg c1, if_neg c1]
 by_cases c2 : a = 2
 ·rw [if_pos c2, if_pos c2]
 rw [if_neg c2, if_neg c2]
 by_cases c3 : a = 3
 ·rw [if_pos c3, if_pos c3]
 rw [if_neg c3, if_neg c3]
theorem zW (w : List UInt8) (a : Int) (h0 : 0 ≤ a) (h4 : a ≤ 4) : oU w = a + 1 ↔ w ∈ (lvW a).map (·.toList) := by
 have lw : (lvW a).map (·.toList) = (lvW a).map L := List.map_congr_left fun x _ => iM x
 rw [lw]
 unfold oU
 rcases (show a = 0 ∨ a = 1 ∨ a = 2 ∨ a = 3 ∨ a = 4 by omega) with rfl | rfl | rfl | rfl | rfl
 ·show _ ↔ w ∈ ([[111, 114]] : List (List UInt8))
  simp only [List.mem_cons, List.not_mem_nil, or_false]
  exact ⟨fun h => by (repeat' split at h) <;> first | assumption | (exfalso; omega), fun h => by subst h; decide⟩
 ·show _ ↔ w ∈ ([[97, 110, 100]] : List (List UInt8))
  simp only [List.mem_cons, List.not_mem_nil, or_false]
  exact ⟨fun h => by (repeat' split at h) <;> first | assumption | (exfalso; omega), fun h => by subst h; decide⟩
 ·show _ ↔ w ∈ ([[61, 61], [33, 61], [60], [60, 61]] : List (List UInt8))
  simp only [List.mem_cons, List.not_mem_nil, or_false]
  exact ⟨fun h => by (repeat' split at h) <;> first | assumption | (exfalso; omega), fun h => by rcases h with rfl | rfl | rfl | rfl <;> decide⟩
 ·show _ ↔ w ∈ ([[43], [45], [46, 46]] : List (List UInt8))
  simp only [List.mem_cons, List.not_mem_nil, or_false]
  exact ⟨fun h => by (repeat' split at h) <;> first | assumption | (exfalso; omega), fun h => by rcases h with rfl | rfl | rfl <;> decide⟩
 show _ ↔ w ∈ ([[42], [47], [37]] : List (List UInt8))
 simp only [List.mem_cons, List.not_mem_nil, or_false]
 exact ⟨fun h => by (repeat' split at h) <;> first | assumption | (exfalso; omega), fun h => by rcases h with rfl | rfl | rfl <;> decide⟩
theorem Kw (q : Nat) (hq : q ≤ 50000) (ws : List ByteArray) (hws : ∀ w ∈ ws, w.toList ≠ []) (hl : ws.length ≤ 10) : ∀ (m i : Nat), ws.length = m + i → wd (ts.drop q) ∈ (ws.drop i).map (·.toList) →
 af (fun k => bU.l0 k ws (i : Int) ts (q : Int) false) (wB (ts.drop q), ((q + 1 : Nat) : Int), false) := by
 intro m
 induction m with
 | zero => intro i h hm; rw [List.drop_eq_nil_of_le (by omega)] at hm; simp at hm
 | succ m ih =>
  intro i h hm
  have hi : i < ws.length := by omega
  have hr : lZ ByteArray.empty ws (i : Int) = ws[i] := by simp [lZ, List.getD_eq_getElem?_getD, List.getElem?_eq_getElem hi]
  rw [List.drop_eq_getElem_cons hi, List.map_cons, List.mem_cons] at hm
  refine af.step (fun k => by rw [bU.l0]) ?_
  rw [hr, inc i (by omega), pF ts q (by omega) _ (hws _ (List.getElem_mem hi))]
  refine af.pos (by omega) (af.pos (by omega) ?_)
  by_cases c : wd (ts.drop q) = ws[i].toList
  ·rw [if_pos c, ← Jv c]
   simp only [Option.bind_some]
   exact af.pos trivial af.now
  rw [if_neg c]
  simp only [Option.bind_some]
  exact af.neg (by simp) (ih (i + 1) (by omega) (hm.resolve_left c))
theorem L6 (q : Nat) (hq : q ≤ 50000) (ws : List ByteArray) (hws : ∀ w ∈ ws, w.toList ≠ []) (hl : ws.length ≤ 10) : ∀ (m i : Nat), ws.length = m + i → wd (ts.drop q) ∉ (ws.drop i).map (·.toList) →
 af (fun k => bU.l0 k ws (i : Int) ts (q : Int) false) (E, (q : Int), false) := by
 intro m
 induction m with
 | zero =>
  intro i h hm
  refine af.step (fun k => by rw [bU.l0]) ?_
  exact af.neg (by omega) af.now
 | succ m ih =>
  intro i h hm
  have hi : i < ws.length := by omega
  have hr : lZ ByteArray.empty ws (i : Int) = ws[i] := by simp [lZ, List.getD_eq_getElem?_getD, List.getElem?_eq_getElem hi]
  rw [List.drop_eq_getElem_cons hi, List.map_cons, List.mem_cons] at hm
  refine af.step (fun k => by rw [bU.l0]) ?_
  rw [hr, inc i (by omega), pF ts q (by omega) _ (hws _ (List.getElem_mem hi)), if_neg (fun c => hm (Or.inl c))]
  simp only [Option.bind_some]
  exact af.pos (by omega) (af.pos (by omega) (af.neg (by simp) (ih (i + 1) (by omega) (fun c => hm (Or.inr c)))))
theorem KD (a : Int) : (∀ w ∈ lvW a, w.toList ≠ []) ∧ (lvW a).length ≤ 10 := by
 unfold lvW
 (repeat' split) <;> exact ⟨by simp [iM, L], by simp⟩
theorem MZ (hts : ts.length ≤ 40000) (q0 : Nat) (a : Int) (ha : 0 ≤ a) (ha4 : a ≤ 4) : ∀ (n : Nat) (FF : Nat → iI) (I : IhR S FF) (H : OkR FF) (e : List S29) (i : Int) (q : Nat), (a = 2 → i = 0) → q0 ≤ q → q ≤ ts.length → sz e ≤ 2 * (q - q0) →
 ah ts q0 2 sz (fun k => aK.l0 (FF k) k a e i ts (q : Int) false) (qf S (a + 1) n e (ts.drop q)) := by
 intro n
 induction n with
 | zero => intro FF I H e i q hi h0 hq hs; trivial
 | succ n ih =>
  intro FF I H e i q hi h0 hq hs
  have hs' := hs
  unfold sz at hs'
  unfold qf
  refine ah.step (fun k => by rw [aK.l0]) ?_
  refine ah.neg (by simp) ?_
  have main : ah ts q0 2 sz (fun k => aK.j1 (FF (k + 1)) k a e i true ts (q : Int) false) (if oU (wd (ts.drop q)) = a + 1 then (bnd tk fun _ => bnd (S.bound (a + 1 + 1)) fun e2 => if a + 1 = 3 then ret (nd 27 E 0 (wB (ts.drop q)) [e, e2]) else qf S (a + 1) n (nd 27 E 0 (wB (ts.drop q)) [e, e2])) (ts.drop q) else .ok (e, ts.drop q)) := by
   refine ah.step (fun k => by rw [aK.j1]) ?_
   refine ah.pos rfl ?_
   obtain ⟨o1, o2⟩ := KD a
   by_cases c : oU (wd (ts.drop q)) = a + 1
   ·rw [if_pos c]
    have hne : wd (ts.drop q) ≠ [] := zV c (by omega)
    obtain ⟨t, r, e'⟩ := sO hne
    obtain ⟨h1, _, h3⟩ := mr ts q t r e'
    have tkE : ∀ (f : Unit → Ps (List S29)), (bnd Par.tk f) (ts.drop q) = f () (ts.drop (q + 1)) := fun f => by rw [e', h3]; rfl
    rw [tkE]
    refine ah.evB (v := (wB (ts.drop q), ((q + 1 : Nat) : Int), false)) ?_ ?_
    ·unfold bU.f
     rw [Dw]
     exact Kw q (by omega) (lvW a) o1 o2 _ 0 rfl (by rw [List.drop_zero]; exact (zW _ a ha ha4).1 c)
    refine ah.neg hne ?_
    dsimp only
    rw [w64 (n := a + 1) (by omega) (by omega)]
    refine ah.bind (I.shift.shift.at0 (a + 1) (by omega) (by omega) ts (q + 1) hts h1) (fun e2 p g1 g2 g3 => ?_) (fun e2 p g1 g2 g3 => ?_)
    ·unfold sz at g3
     dsimp only
     refine ah.evB (uI 27 E 0 (wB (ts.drop q)) 0 [e, e2] (by simp) (by rw [ji]; omega)) ?_
     by_cases d : a = 2
     ·rw [if_pos (by omega), hi d]
      refine ah.done _ (by omega) g2 (by unfold sz; rw [dZ, ji]; omega) ?_
      refine af.step (fun k => by rw [aK.l0]) ?_
      refine af.neg (by simp) (af.pos d ?_)
      refine af.step (fun k => by rw [aK.j1]) ?_
      exact af.neg (by rw [w64 (n := 0 + 1) (by omega) (by omega)]; simp) af.now
     rw [if_neg (by omega)]
     exact ih (fun k => FF (k + 2)) I.shift.shift H.shift.shift _ _ p (fun h => absurd h d) (by omega) g2 (by unfold sz; rw [dZ, ji]; omega)
    unfold sz at g3
    dsimp only
    exact ⟨nd 27 E 0 (wB (ts.drop q)) [e, e2], by omega, by unfold sz; rw [dZ, ji]; omega, kW (by simp) (by rw [ji]; omega) (xJ (FF := fun k => FF (k + 2)) a _ _)⟩
   rw [if_neg c]
   refine ah.evB (v := (E, (q : Int), false)) ?_ (ah.pos BD (ah.done e h0 hq hs af.now))
   unfold bU.f
   rw [Dw]
   exact L6 q (by omega) (lvW a) o1 o2 _ 0 rfl (by rw [List.drop_zero]; exact fun h => c ((zW _ a ha ha4).2 h))
  by_cases d : a = 2
  ·rw [hi d] at main ⊢
   exact ah.pos d main
  exact ah.neg d main
theorem LV (hts : ts.length ≤ 40000) (I : IhR S FF) (H : OkR FF) (N : Nat) (a : Int) (h1 : 0 ≤ a) (h2 : a ≤ 5) (q : Nat) (hq : q ≤ ts.length) :
 ah ts q 2 sz (fun k => aK.f (FF k) k ts (q : Int) false a) (oD S N (a + 1) (ts.drop q)) := by
 unfold aK.f oD
 by_cases c : a = 5
 ·rw [if_pos (by omega)]
  exact ah.pos c (ah.idb (Ad hts I H N q hq))
 rw [if_neg (by omega)]
 refine ah.neg c ?_
 rw [w64 (n := a + 1) (by omega) (by omega)]
 refine ah.bind (I.at0 (a + 1) (by omega) (by omega) ts q hts hq) (fun e p g1 g2 g3 => ?_) (fun e p g1 g2 g3 => ?_)
 ·dsimp only
  exact MZ hts q a h1 (by omega) N FF I H e 0 p (fun _ => rfl) g1 g2 g3
 dsimp only
 exact ⟨e, g1, g3, xJ a 0 e⟩
theorem Iy (hts : ts.length ≤ 40000) (I : IhR S FF) (H : OkR FF) (N : Nat) (q : Nat) (hq : q ≤ ts.length) :
 ah ts q 2 sz (fun k => eX.f (FF k) k ts (q : Int) false) (kQ S N (ts.drop q)) := by
 unfold eX.f kQ
 exact ah.idb (LV hts I H N 0 (by omega) (by omega) q hq)
theorem KU : ∀ n : Nat, IhR (oZ n) mY := by
 intro n
 induction n with
 | zero => exact ⟨fun _ _ _ _ => trivial, fun _ _ _ _ => trivial, fun _ _ _ _ _ _ _ => trivial, fun _ _ _ _ => trivial⟩
 | succ n ih =>
  exact ⟨fun ts q hts hq => ah.step (fun k => rfl) (Iy hts ih tX n q hq), fun ts q hts hq => ah.step (fun k => rfl) (Ar hts ih tX n q hq),
   fun a h1 h2 ts q hts hq => ah.step (fun k => rfl) (LV hts ih tX n a h1 h2 q hq), fun ts q hts hq => ah.step (fun k => rfl) (Ad hts ih tX n q hq)⟩
end Go.Proofs.YtkbhkonenkgfoaaGreat.Par
end
section
set_option linter.unusedVariables false
set_option linter.unusedSimpArgs false
namespace Go.Proofs.YtkbhkonenkgfoaaGreat.Par
open Go Go.RowKit Go.Proofs.YtkbhkonenkgfoaaGreatW.PrintWords Go.Proofs.YtkbhkonenkgfoaaGreat.Q Go.Proofs.YtkbhkonenkgfoaaGreat.Lex Go.Proofs.YtkbhkonenkgfoaaGreat.Tree
variable {ts : List S37} {S : PF} {FF : Nat → Fam}
theorem Lr (hts : ts.length ≤ 40000) (q : Nat) (hq : q ≤ ts.length) : ah ts q 2 sz (fun k => gG.f k ts (q : Int) false) (DW (ts.drop q)) := by
 unfold gG.f DW
 have nB : ∀ (p : Int) (nm tx : ByteArray) (n : Int), af (fun k => (aZ.f k 2 0 nm n tx ([] : List (List S29))).bind fun t269 => some (t269, p, true)) (nd 2 nm n tx [], p, true) := fun p nm tx n => jJ (by simp) (by simp) af.now
 have sB : ∀ (nm tx : ByteArray) (n : Int), sz (nd 2 nm n tx []) = 2 := fun nm tx n => rfl
 refine ah.need 1 hq hts (by omega) (fun a h1 _ => ?_) ?_
 ·dsimp only
  refine ah.must ⟨#[46]⟩ [46] (fO _ _ rfl) (by simp) h1 hts (by omega) (fun h2 => ?_) ?_
  ·dsimp only
   refine ah.need 1 h2 hts (by omega) (fun b h3 _ => ?_) ?_
   ·dsimp only
    refine ah.must ⟨#[47]⟩ [47] (fO _ _ rfl) (by simp) h3 hts (by omega) (fun h4 => ?_) ?_
    ·dsimp only
     refine ah.need 2 h4 hts (by omega) (fun c h5 _ => ?_) ?_
     ·dsimp only
      refine ah.must ⟨#[59]⟩ [59] (fO _ _ rfl) (by simp) h5 hts (by omega) (fun h6 => ?_) ?_
      ·dsimp only
       exact ah.node (by omega) h6 hts (by simp) Z12
      exact ⟨_, by rw [sB]; omega, nB _ _ _ _⟩
     dsimp only
     rw [jS _ [59] rfl (by simp)]
     exact ⟨_, by rw [sB]; omega, nB _ _ _ _⟩
    dsimp only
    simp only [mF, Option.bind_some]
    rw [jS _ [59] rfl (by simp)]
    exact ⟨_, by rw [sB]; omega, nB _ _ _ _⟩
   dsimp only
   rw [jS _ [47] rfl (by simp)]
   simp only [mF, Option.bind_some]
   rw [jS _ [59] rfl (by simp)]
   exact ⟨_, by rw [sB]; omega, nB _ _ _ _⟩
  dsimp only
  simp only [mF, Option.bind_some]
  rw [jS _ [47] rfl (by simp)]
  simp only [mF, Option.bind_some]
  rw [jS _ [59] rfl (by simp)]
  exact ⟨_, by rw [sB]; omega, nB _ _ _ _⟩
 dsimp only
 rw [jS _ [46] rfl (by simp)]
 simp only [mF, Option.bind_some]
 rw [jS _ [47] rfl (by simp)]
 simp only [mF, Option.bind_some]
 rw [jS _ [59] rfl (by simp)]
 exact ⟨_, by rw [sB]; omega, nB _ _ _ _⟩
theorem Cf (acc : List (List S29)) (q : Int) (nm : ByteArray) (v : Int) (h1 : acc.length ≤ 100000) (h2 : acc.flatten.length ≤ 1000000) : af (fun k => bf.l1 (FF k) k acc ts q true 1 0 nm v E) (nd 1 nm v E acc, q, true) := by
 refine af.step (fun k => by rw [bf.l1, takeB _ [102, 110] rfl (by simp)]) ?_
 simp only [Option.bind_some]
 exact af.neg (by simp) (jJ (by omega) (by omega) af.now)
theorem wu (acc : List (List S29)) (q : Int) (nm : ByteArray) (v : Int) (h1 : acc.length ≤ 100000) (h2 : acc.flatten.length ≤ 1000000) : af (fun k => bf.l0 (FF k) k acc ts q true 1 0 nm v E) (nd 1 nm v E acc, q, true) := by
 refine af.step (fun k => by rw [bf.l0, takeB _ [117, 115, 101] rfl (by simp)]) ?_
 simp only [Option.bind_some]
 exact af.neg (by simp) (Cf (FF := fun k => FF (k + 1)) acc q nm v h1 h2)
theorem KR (hts : ts.length ≤ 40000) (N : Nat) (nm : ByteArray) (v : Int) : ∀ (n : Nat) (FF : Nat → Fam) (I : Ih S FF) (H : OkB FF) (acc : List (List S29)) (q : Nat), q ≤ ts.length → acc.flatten.length + acc.length + 2 ≤ 2 * (q - 0) →
 ah ts 0 3 sz (fun k => bf.l1 (FF k) k acc ts (q : Int) false 1 0 nm v E) (vw S N nm v n acc (ts.drop q)) := by
 intro n
 induction n with
 | zero => intro FF I H acc q hq hs; trivial
 | succ n ih =>
  intro FF I H acc q hq hs
  unfold vw
  refine ah.step (fun k => by rw [bf.l1]) ?_
  refine ah.yV _ _ (fO _ _ rfl) (by simp) hq hts (fun h1 => ?_) (fun hn => ?_)
  ·refine ah.pos rfl ?_
   dsimp only
   refine ah.need 1 h1 hts (by omega) (fun t h2 _ => ?_) ?_
   ·dsimp only
    refine ah.bind (xw hts I.shift H.shift N 3 t.f1 _ h2) (fun f p g1 g2 g3 => ?_) (fun f p g1 g2 g3 => ?_)
    ·unfold sz at g3
     dsimp only
     refine ah.pos (by omega) ?_
     exact ih (fun k => FF (k + 1)) I.shift H.shift (acc ++ [f]) p g2 Z35
    unfold sz at g3
    dsimp only
    exact ⟨nd 1 nm v E (acc ++ [f]), by omega, by unfold sz; rw [dZ, iG]; omega, af.pos (by omega) (Cf (FF := fun k => FF (k + 1)) _ _ nm v (by rw [jM]; omega) (by rw [iG]; omega))⟩
   dsimp only
   have hl : (nd 3 E 0 E [nd 5 E 0 E []]).length = 2 := rfl
   exact ⟨nd 1 nm v E (acc ++ [nd 3 E 0 E [nd 5 E 0 E []]]), by unfold sz; rw [dZ, iG, hl]; omega, af.bind (zu 3 E) (af.pos (by omega) (Cf (FF := fun k => FF (k + 1)) _ _ nm v (by rw [jM]; omega) (by rw [iG, hl]; omega)))⟩
  refine ah.neg (by simp) ?_
  exact ah.node (q := 0) (by omega) hq hts (by omega) (by omega)
theorem JH (hts : ts.length ≤ 40000) (N : Nat) (nm : ByteArray) (v : Int) : ∀ (n : Nat) (FF : Nat → Fam) (I : Ih S FF) (H : OkB FF) (acc : List (List S29)) (q : Nat), q ≤ ts.length → acc.flatten.length + acc.length + 2 ≤ 2 * (q - 0) →
 ah ts 0 3 sz (fun k => bf.l0 (FF k) k acc ts (q : Int) false 1 0 nm v E) (uP S N nm v n acc (ts.drop q)) := by
 intro n
 induction n with
 | zero => intro FF I H acc q hq hs; trivial
 | succ n ih =>
  intro FF I H acc q hq hs
  unfold uP
  refine ah.step (fun k => by rw [bf.l0]) ?_
  refine ah.yV _ _ (fO _ _ rfl) (by simp) hq hts (fun h1 => ?_) (fun hn => ?_)
  ·refine ah.pos rfl ?_
   dsimp only
   refine ah.bind (Lr hts _ h1) (fun f p g1 g2 g3 => ?_) (fun f p g1 g2 g3 => ?_)
   ·unfold sz at g3
    dsimp only
    refine ah.pos (by omega) ?_
    exact ih (fun k => FF (k + 1)) I.shift H.shift (acc ++ [f]) p g2 Z35
   unfold sz at g3
   dsimp only
   exact ⟨nd 1 nm v E (acc ++ [f]), by omega, by unfold sz; rw [dZ, iG]; omega, af.pos (by omega) (wu (FF := fun k => FF (k + 1)) _ _ nm v (by rw [jM]; omega) (by rw [iG]; omega))⟩
  refine ah.neg (by simp) ?_
  exact KR hts N nm v N (fun k => FF (k + 1)) I.shift H.shift acc q hq hs
theorem Gm (hts : ts.length ≤ 40000) (I : Ih S FF) (H : OkB FF) (N : Nat) :
 ah ts 0 3 sz (fun k => bf.f (FF k) k ts 0 false) (kS S N ts) := by
 have sB : ∀ (nm : ByteArray) (v : Int), sz (nd 1 nm v E []) = 2 := fun nm v => rfl
 have key : ah ts 0 3 sz (fun k => bf.f (FF k) k ts ((0 : Nat) : Int) false) (kS S N (ts.drop 0)) := by
  unfold bf.f kS
  refine ah.must ⟨#[109, 111, 100, 117, 108, 101]⟩ [109, 111, 100, 117, 108, 101] (fO _ _ rfl) (by simp) (by omega) hts (by omega) (fun h1 => ?_) ?_
  ·dsimp only
   refine ah.need 1 h1 hts (by omega) (fun t h2 _ => ?_) ?_
   ·dsimp only
    refine ah.need 2 h2 hts (by omega) (fun u h3 _ => ?_) ?_
    ·dsimp only
     refine ah.must ⟨#[59]⟩ [59] (fO _ _ rfl) (by simp) h3 hts (by omega) (fun h4 => ?_) ?_
     ·dsimp only
      exact JH hts N t.f1 u.f2 N FF I H [] _ h4 Z12
     dsimp only
     exact ⟨_, by rw [sB]; omega, wu [] _ _ _ (by simp) (by simp)⟩
    dsimp only
    rw [jS _ [59] rfl (by simp)]
    simp only [Option.bind_some]
    exact ⟨_, by rw [sB]; omega, wu [] _ _ _ (by simp) (by simp)⟩
   dsimp only
   simp only [mF, Option.bind_some]
   rw [jS _ [59] rfl (by simp)]
   simp only [Option.bind_some]
   exact ⟨_, by rw [sB]; omega, wu [] _ _ _ (by simp) (by simp)⟩
  dsimp only
  simp only [mF, Option.bind_some]
  rw [jS _ [59] rfl (by simp)]
  simp only [Option.bind_some]
  exact ⟨_, by rw [sB]; omega, wu [] _ _ _ (by simp) (by simp)⟩
 exact key
end Go.Proofs.YtkbhkonenkgfoaaGreat.Par
end
section
set_option linter.unusedVariables false
set_option linter.unusedSimpArgs false
namespace Go.Proofs.YtkbhkonenkgfoaaGreat.Par
open Go Go.RowKit Go.Proofs.YtkbhkonenkgfoaaGreatW.PrintWords Go.Proofs.YtkbhkonenkgfoaaGreat.Q Go.Proofs.YtkbhkonenkgfoaaGreat.Lex Go.Proofs.YtkbhkonenkgfoaaGreat.Tree
def TB (l : List S37) : Prop := ∀ t ∈ l, t.f1.size ≤ 3000 ∧ t.f2 ≤ 9223372036854775807
def KT (e : List S29) : Prop := (∃ D, Fo e 1 D) ∧ ∀ x ∈ e, (x.f2.size ≤ 3000 ∧ x.f4.size ≤ 3000) ∧ x.f3 ≤ 9223372036854775807
def KN (e : List S29) : Prop := KT e ∧ ∀ x t, e = x :: t → x.f0 = 26 → x.f1 = 2
def KL (ks : List (List S29)) : Prop := ∀ e ∈ ks, KT e
/-- An answer: what is read is so, and fewer tokens are left than so many. -/
def Fn {α : Type} (K : α → Prop) (b : Nat) : R α → Prop
 | .ok (x, r) => r.length < b ∧ TB r ∧ K x
 | .error (some _) => True
 | .error none => False
theorem Fn.bind {α β : Type} {p : Ps α} {f : α → Ps β} {l : List S37} {b c : Nat} {K : α → Prop} {K' : β → Prop} (h : Fn K b (p l)) (g : ∀ x r, r.length < b → TB r → K x → Fn K' c (f x r)) : Fn K' c (bnd p f l) := by
 unfold bnd
 match hp : p l, h with
 | .ok (x, r), ⟨h1, h2, h3⟩ => exact g x r h1 h2 h3
 | .error (some r), _ => trivial
theorem Fn.weak {α : Type} {K K' : α → Prop} {b c : Nat} {r : R α} (h : Fn K b r) (hb : b ≤ c) (hk : ∀ x, K x → K' x) : Fn K' c r := by
 match r, h with
 | .ok (x, r), ⟨h1, h2, h3⟩ => exact ⟨by omega, h2, hk x h3⟩
 | .error (some r), _ => trivial
theorem TB.tail {t : S37} {r : List S37} (h : TB (t :: r)) : TB r := fun x hx => h x (List.mem_cons_of_mem _ hx)
theorem kF (w : List UInt8) (hw : w ≠ []) (l : List S37) (h : TB l) : Fn (fun _ => True) l.length (must w l) := by
 unfold must
 by_cases c : wd l = w
 ·rw [if_pos c]
  cases l with
  | nil => exact absurd (yS.symm.trans c).symm hw
  | cons t r => exact ⟨by simp, h.tail, trivial⟩
 rw [if_neg c]; trivial
theorem pg (k : Int) (l : List S37) (h : TB l) : Fn (fun t => t.f1.size ≤ 3000 ∧ t.f2 ≤ 9223372036854775807) l.length (need k l) := by
 cases l with
 | nil => trivial
 | cons t r =>
  unfold need
  by_cases c : t.f0 = k
  ·simp only [if_pos c]; exact ⟨by simp, h.tail, h t List.mem_cons_self⟩
  simp only [if_neg c]; trivial
theorem oJ (l : List S37) (h : TB l) (w : List UInt8) (c : wd l = w) (hw : w ≠ []) : Fn (fun _ => True) l.length (tk l) := by
 cases l with
 | nil => exact absurd (yS.symm.trans c).symm hw
 | cons t r => exact ⟨by simp, h.tail, trivial⟩
theorem Fo.app {u v : List S29} {a b D1 D2 : Nat} (h : Fo u a D1) (g : Fo v b D2) : ∃ D, Fo (u ++ v) (a + b) D := by
 induction h with
 | nil => exact ⟨D2, by rw [List.nil_append, Nat.zero_add]; exact g⟩
 | cons x t v' w D1 D2' hx ht hv ih1 ih2 =>
  obtain ⟨D, hD⟩ := ih2
  refine ⟨max (1 + D1) D, ?_⟩
  have := Fo.cons x t _ _ _ _ hx ht hD
  rw [List.cons_append, List.append_assoc, Nat.add_right_comm]
  exact this
theorem KL.fo : ∀ {ks : List (List S29)}, KL ks → ∃ D, Fo ks.flatten ks.length D
 | [], _ => ⟨0, Fo.nil⟩
 | e :: ks, h => by
  obtain ⟨⟨D1, h1⟩, _⟩ := h e List.mem_cons_self
  obtain ⟨D2, h2⟩ := KL.fo (ks := ks) (fun x hx => h x (List.mem_cons_of_mem _ hx))
  obtain ⟨D, hD⟩ := Fo.app h1 h2
  exact ⟨D, by rw [List.flatten_cons, List.length_cons, Nat.add_comm]; exact hD⟩
theorem nO {k : Int} {nm : ByteArray} {n : Int} {tx : ByteArray} {ks : List (List S29)} (h : KL ks) (hnm : nm.size ≤ 3000) (htx : tx.size ≤ 3000) (h26 : k ≠ 26 ∨ ks.length = 2) (h3 : n ≤ 9223372036854775807 := by omega) : KN (nd k nm n tx ks) := by
 obtain ⟨D, hD⟩ := h.fo
 refine ⟨⟨⟨max (1 + D) 0, ?_⟩, ?_⟩, ?_⟩
 ·have := Fo.cons (⟨k, (ks.length : Int), nm, n, tx⟩ : S29) ks.flatten [] 0 D 0 (by simp) (by simpa using hD) Fo.nil
  rw [List.append_nil] at this
  exact this
 ·intro x hx
  rcases List.mem_cons.1 hx with rfl | hx
  ·exact ⟨⟨hnm, htx⟩, h3⟩
  obtain ⟨e, he, hx⟩ := List.mem_flatten.1 hx
  exact (h e he).2 x hx
 intro x t e hk
 obtain ⟨rfl, _⟩ := List.cons.inj e
 rcases h26 with h | h
 ·exact absurd hk h
 show ((ks.length : Nat) : Int) = 2
 omega
theorem KL.nil : KL [] := fun e he => by cases he
theorem KL.one {e : List S29} (h : KT e) : KL [e] := fun x hx => by rw [List.mem_singleton.1 hx]; exact h
theorem KL.cons {e : List S29} {ks : List (List S29)} (h : KT e) (g : KL ks) : KL (e :: ks) := fun x hx => by
 rcases List.mem_cons.1 hx with rfl | hx
 ·exact h
 exact g x hx
theorem KL.app {ks us : List (List S29)} (g : KL ks) (h : KL us) : KL (ks ++ us) := fun x hx => by
 rcases List.mem_append.1 hx with hx | hx
 ·exact g x hx
 exact h x hx
theorem iq : E.size ≤ 3000 := by show (0 : Nat) ≤ 3000; omega
theorem Df {l rest : List S29} {x : S29} {t : List S29} {p D1 : Nat} (hx : 0 ≤ x.f1) (ht : Fo t x.f1.toNat D1) (hd : l.drop p = (x :: t) ++ rest) (hn : ∀ y ∈ x :: t, ¬ ((l.length : Int) < y.f1)) : pO l (p : Int) = x :: t := by
 unfold pO
 rw [vP hx ht hd hn, if_neg (by omega), Int.toNat_natCast, Int.toNat_natCast]
 have hlen : p + (x :: t).length ≤ l.length := by
  have := congrArg List.length hd
  rw [List.length_drop, List.length_append] at this
  simp only [List.length_cons] at this ⊢
  omega
 rw [EY hlen, hd, List.take_left]
theorem Ja {e : List S29} (h : KN e) {x : S29} {t : List S29} (he : e = x :: t) (hk : x.f0 = 26) : ∃ a b, uh e = some (a, b) ∧ KT a ∧ KT b := by
 obtain ⟨⟨⟨D, hF⟩, hs⟩, h26⟩ := h
 have h2 := h26 x t he hk
 subst he
 obtain ⟨x', t', D1, e', _, hx, ht⟩ := hF.one
 obtain ⟨rfl, rfl⟩ := List.cons.inj e'
 have ht' : Fo t (1 + 1) D1 := by rw [h2] at ht; exact ht
 obtain ⟨u1, u2, D2, D3, rfl, hu1, hu2, _⟩ := Fo.split 1 1 _ _ ht'
 obtain ⟨x1, t1, E1, rfl, _, hx1, ht1⟩ := hu1.one
 obtain ⟨x2, t2, E2, rfl, _, hx2, ht2⟩ := hu2.one
 have hn : ∀ y ∈ x :: ((x1 :: t1) ++ (x2 :: t2)), ¬ (((x :: ((x1 :: t1) ++ (x2 :: t2))).length : Int) < y.f1) := fun y hy => by have := hF.kids y hy; omega
 have m1 : ∀ y ∈ x1 :: t1, y ∈ x :: ((x1 :: t1) ++ (x2 :: t2)) := fun y hy => List.mem_cons_of_mem _ (List.mem_append.2 (Or.inl hy))
 have m2 : ∀ y ∈ x2 :: t2, y ∈ x :: ((x1 :: t1) ++ (x2 :: t2)) := fun y hy => List.mem_cons_of_mem _ (List.mem_append.2 (Or.inr hy))
 have d1 : (x :: ((x1 :: t1) ++ (x2 :: t2))).drop 1 = (x1 :: t1) ++ (x2 :: t2) := rfl
 have d2 : (x :: ((x1 :: t1) ++ (x2 :: t2))).drop (1 + (x1 :: t1).length) = (x2 :: t2) ++ [] := by
  rw [Nat.add_comm, List.drop_succ_cons, List.drop_left, List.append_nil]
 have e0 : kC (x :: ((x1 :: t1) ++ (x2 :: t2))) ((0 : Nat) : Int) = _ := vP (rest := []) hx ht (by rw [List.drop_zero, List.append_nil]) hn
 have e1 := vP (p := 1) hx1 ht1 d1 (fun y hy => hn y (m1 y hy))
 have s1 := Df (p := 1) hx1 ht1 d1 (fun y hy => hn y (m1 y hy))
 have s2 := Df hx2 ht2 d2 (fun y hy => hn y (m2 y hy))
 refine ⟨x1 :: t1, x2 :: t2, ?_, ⟨⟨_, hu1⟩, fun y hy => hs y (m1 y hy)⟩, ⟨⟨_, hu2⟩, fun y hy => hs y (m2 y hy)⟩⟩
 have hk : qF (x :: ((x1 :: t1) ++ (x2 :: t2))) 0 = [((1 : Nat) : Int), ((1 + (x1 :: t1).length : Nat) : Int)] := by
  unfold qF
  rw [if_neg (by rw [show (0 : Int) = ((0 : Nat) : Int) from rfl, e0]; omega)]
  rw [show (ax (x :: ((x1 :: t1) ++ (x2 :: t2))) 0).f1 = x.f1 from rfl, h2]
  show [(0 + 1 : Int), kC _ (0 + 1)] = _
  rw [show (0 + 1 : Int) = ((1 : Nat) : Int) from rfl, e1]
 unfold uh
 rw [hk]
 simp only [s1, s2]
end Go.Proofs.YtkbhkonenkgfoaaGreat.Par
end
section
set_option linter.unusedVariables false
set_option linter.unusedSimpArgs false
namespace Go.Proofs.YtkbhkonenkgfoaaGreat.Par
open Go Go.RowKit Go.Proofs.YtkbhkonenkgfoaaGreatW.PrintWords Go.Proofs.YtkbhkonenkgfoaaGreat.Q Go.Proofs.YtkbhkonenkgfoaaGreat.Lex Go.Proofs.YtkbhkonenkgfoaaGreat.Tree
/-- The family comes to answers, of fewer tokens than so many. -/
structure Tot (S : PF) (m : Nat) : Prop where
 expr : ∀ l, l.length < m → TB l → Fn KN l.length (S.expr l)
 block : ∀ l, l.length < m → TB l → Fn KN l.length (S.block l)
 bound : ∀ a : Int, 1 ≤ a → a ≤ 6 → ∀ l, l.length < m → TB l → Fn KN l.length (S.bound a l)
 unary : ∀ l, l.length < m → TB l → Fn KN l.length (S.unary l)
variable {S : PF} {m : Nat}
theorem mi {α : Type} {K : α → Prop} {x : α} {l : List S37} {b : Nat} (h1 : l.length < b) (h2 : TB l) (h3 : K x) : Fn K b (ret x l) := ⟨h1, h2, h3⟩
theorem qL (T : Tot S m) (k : Int) (nm : ByteArray) (hk : k ≠ 26) (hn : nm.size ≤ 3000) (l : List S37) (hl : l.length < m) (h : TB l) : Fn KN l.length (lS S k nm l) :=
 Fn.bind (T.expr l hl h) fun e r h1 h2 h3 => Fn.bind (kF [59] (by simp) r h2) fun _ r2 g1 g2 _ => mi (by omega) g2 (nO (KL.one h3.1) hn iq (Or.inl hk))
theorem CP (k : Int) (hk : k ≠ 26) (l : List S37) (h : TB l) : Fn KN l.length (uz k l) :=
 Fn.bind (kF [59] (by simp) l h) fun _ r2 g1 g2 _ => mi g1 g2 (nO KL.nil iq iq (Or.inl hk))
theorem IG (T : Tot S m) (l : List S37) (hl : l.length < m) (h : TB l) : Fn KN l.length (wP S l) := by
 refine Fn.bind (T.expr l hl h) fun e r h1 h2 h3 => ?_
 unfold uF
 by_cases c : wd r ≠ [61]
 ·rw [if_pos c]
  exact Fn.bind (kF [59] (by simp) r h2) fun _ r2 g1 g2 _ => mi (by omega) g2 (nO (KL.one h3.1) iq iq (Or.inl (by omega)))
 rw [if_neg c]
 obtain ⟨D, hD⟩ := h3.1.1
 obtain ⟨x, t, D1, rfl, _⟩ := hD.one
 have hx := h3.1.2 x List.mem_cons_self
 simp only
 by_cases c1 : x.f0 = 21
 ·rw [if_pos c1]
  exact Fn.bind (kF [61] (by simp) r h2) fun _ r2 g1 g2 _ => (qL T 7 x.f2 (by omega) hx.1.1 r2 (by omega) g2).weak (by omega) (fun _ h => h)
 rw [if_neg c1]
 by_cases c2 : x.f0 = 26
 ·rw [if_pos c2]
  obtain ⟨a, b, e, ha, hb⟩ := Ja h3 rfl c2
  unfold yX
  rw [e]
  exact Fn.bind (kF [61] (by simp) r h2) fun _ r2 g1 g2 _ => Fn.bind (T.expr r2 (by omega) g2) fun v r3 f1 f2 f3 => Fn.bind (kF [59] (by simp) r3 f2) fun _ r4 e1 e2 _ =>
   mi (by omega) e2 (nO (KL.cons ha (KL.cons hb (KL.one f3.1))) iq iq (Or.inl (by omega)))
 rw [if_neg c2]
 trivial
theorem kz {α : Type} {K : α → Prop} {b : Nat} {c : Prop} [Decidable c] {r1 r2 : R α} (h1 : c → Fn K b r1) (h2 : ¬c → Fn K b r2) : Fn K b (if c then r1 else r2) := by
 by_cases h : c
 ·rw [if_pos h]; exact h1 h
 rw [if_neg h]; exact h2 h
theorem JO (T : Tot S m) (l : List S37) (hl : l.length < m) (h : TB l) : Fn KN l.length (lF S l) := by
 unfold lF
 refine kz (fun c => Fn.bind (oJ l h _ c (by simp)) fun _ r h1 h2 _ => ?_) (fun _ => ?_)
 ·exact Fn.bind (pg 1 r h2) fun t r2 g1 g2 g3 => Fn.bind (kF [61] (by simp) r2 g2) fun _ r3 f1 f2 _ => (qL T 6 t.f1 (by omega) g3.1 r3 (by omega) f2).weak (by omega) (fun _ h => h)
 refine kz (fun c => Fn.bind (oJ l h _ c (by simp)) fun _ r h1 h2 _ => ?_) (fun _ => ?_)
 ·refine Fn.bind (T.expr r (by omega) h2) fun e r2 g1 g2 g3 => Fn.bind (T.block r2 (by omega) g2) fun b r3 f1 f2 f3 => ?_
  refine kz (fun c => Fn.bind (oJ r3 f2 _ c (by simp)) fun _ r4 e1 e2 _ => ?_) (fun _ => ?_)
  ·exact Fn.bind (T.block r4 (by omega) e2) fun b2 r5 d1 d2 d3 => mi (by omega) d2 (nO (KL.cons g3.1 (KL.cons f3.1 (KL.one d3.1))) iq iq (Or.inl (by omega)))
  exact ⟨by omega, f2, nO (KL.cons g3.1 (KL.one f3.1)) iq iq (Or.inl (by omega))⟩
 refine kz (fun c => Fn.bind (oJ l h _ c (by simp)) fun _ r h1 h2 _ => ?_) (fun _ => ?_)
 ·exact Fn.bind (T.expr r (by omega) h2) fun e r2 g1 g2 g3 => Fn.bind (T.block r2 (by omega) g2) fun b r3 f1 f2 f3 => mi (by omega) f2 (nO (KL.cons g3.1 (KL.one f3.1)) iq iq (Or.inl (by omega)))
 refine kz (fun c => Fn.bind (oJ l h _ c (by simp)) fun _ r h1 h2 _ => (CP 11 (by omega) r h2).weak (by omega) (fun _ h => h)) (fun _ => ?_)
 refine kz (fun c => Fn.bind (oJ l h _ c (by simp)) fun _ r h1 h2 _ => (CP 12 (by omega) r h2).weak (by omega) (fun _ h => h)) (fun _ => ?_)
 refine kz (fun c => Fn.bind (oJ l h _ c (by simp)) fun _ r h1 h2 _ => (CP 16 (by omega) r h2).weak (by omega) (fun _ h => h)) (fun _ => ?_)
 refine kz (fun c => Fn.bind (oJ l h _ c (by simp)) fun _ r h1 h2 _ => (qL T 13 E (by omega) iq r (by omega) h2).weak (by omega) (fun _ h => h)) (fun _ => ?_)
 refine kz (fun c => Fn.bind (oJ l h _ c (by simp)) fun _ r h1 h2 _ => (qL T 14 E (by omega) iq r (by omega) h2).weak (by omega) (fun _ h => h)) (fun _ => ?_)
 refine kz (fun c => Fn.bind (oJ l h _ c (by simp)) fun _ r h1 h2 _ => (qL T 15 E (by omega) iq r (by omega) h2).weak (by omega) (fun _ h => h)) (fun _ => ?_)
 exact IG T l hl h
theorem GK (T : Tot S m) (c : Nat) : ∀ (n : Nat) (acc : List (List S29)) (l : List S37), l.length < n → l.length < m → l.length < c → TB l → KL acc → Fn KN c (qM S n acc l) := by
 intro n
 induction n with
 | zero => intro acc l h1; omega
 | succ n ih =>
  intro acc l h1 h2 h3 h4 h5
  unfold qM
  refine kz (fun d => ?_) (fun d => ?_)
  ·exact Fn.bind (kF [125] (by simp) l h4) fun _ r g1 g2 _ => mi (by omega) g2 (nO h5 iq iq (Or.inl (by omega)))
  exact Fn.bind (JO T l h2 h4) fun s r g1 g2 g3 => ih _ r (by omega) (by omega) (by omega) g2 (KL.app h5 (KL.one g3.1))
theorem DJ (T : Tot S m) (N : Nat) (l : List S37) (hl : l.length ≤ m) (hN : l.length ≤ N) (h : TB l) : Fn KN l.length (qg S N l) :=
 Fn.bind (kF [123] (by simp) l h) fun _ r g1 g2 _ => GK T _ N [] r (by omega) (by omega) g1 g2 KL.nil
theorem IV {one : Ps (List S29)} (ho : ∀ l, l.length < m → TB l → Fn KT l.length (one l)) (c : Nat) : ∀ (n : Nat) (acc : List (List S29)) (l : List S37), l.length < n → l.length < m → l.length < c → TB l → KL acc → Fn KL c (nH one n acc l) := by
 intro n
 induction n with
 | zero => intro acc l h1; omega
 | succ n ih =>
  intro acc l h1 h2 h3 h4 h5
  unfold nH
  refine kz (fun d => ?_) (fun d => kz (fun _ => ?_) (fun _ => ?_))
  ·exact Fn.bind (kF [41] (by simp) l h4) fun _ r g1 g2 _ => mi (by omega) g2 h5
  ·exact Fn.bind (ho l h2 h4) fun s r g1 g2 g3 => ih _ r (by omega) (by omega) (by omega) g2 (KL.app h5 (KL.one g3))
  exact Fn.bind (kF [44] (by simp) l h4) fun _ r f1 f2 _ => Fn.bind (ho r (by omega) f2) fun s r g1 g2 g3 => ih _ r (by omega) (by omega) (by omega) g2 (KL.app h5 (KL.one g3))
theorem Gq {one : Ps (List S29)} (ho : ∀ l, l.length < m → TB l → Fn KT l.length (one l)) (N : Nat) (l : List S37) (hl : l.length ≤ m) (hN : l.length ≤ N) (h : TB l) : Fn KL l.length (Par.gW one N l) :=
 Fn.bind (kF [40] (by simp) l h) fun _ r g1 g2 _ => IV ho _ N [] r (by omega) (by omega) g1 g2 KL.nil
theorem IK (l : List S37) (h : TB l) : Fn KT l.length (mD l) :=
 Fn.bind (pg 1 l h) fun t r h1 h2 h3 => mi h1 h2 (nO KL.nil h3.1 iq (Or.inl (by omega))).1
theorem D8 (T : Tot S m) (N : Nat) (l : List S37) (hl : l.length ≤ m) (hN : l.length ≤ N) (h : TB l) : Fn KL l.length (Par.gW S.expr N l) :=
 Gq (fun l a b => (T.expr l a b).weak (Nat.le_refl _) (fun _ h => h.1)) N l hl hN h
theorem xx (T : Tot S m) (N : Nat) (k : Int) (nm : ByteArray) (hk : k ≠ 26) (hn : nm.size ≤ 3000) (l : List S37) (hl : l.length ≤ m) (hN : l.length ≤ N) (h : TB l) : Fn KN l.length (lX S N k nm l) :=
 Fn.bind (Gq (fun l a b => IK l b) N l hl hN h) fun ps r h1 h2 h3 => Fn.bind (DJ T N r (by omega) (by omega) h2) fun b r2 g1 g2 g3 => mi (by omega) g2 (nO (KL.app h3 (KL.one g3.1)) hn iq (Or.inl hk))
theorem KF (T : Tot S m) (N : Nat) (l : List S37) (hl : l.length ≤ m) (hN : l.length ≤ N) (h : TB l) : Fn KN l.length (ug S N l) := by
 cases l with
 | nil => trivial
 | cons t r =>
  unfold ug
  refine kz (fun _ => ⟨by simp, h.tail, nO KL.nil iq iq (Or.inl (by omega)) (h t List.mem_cons_self).2⟩) (fun _ => kz (fun _ => ⟨by simp, h.tail, nO KL.nil iq (h t List.mem_cons_self).1 (Or.inl (by omega))⟩) (fun _ => ?_))
  unfold Dq
  refine Fn.bind (pg 1 _ h) fun t1 r1 h1 h2 h3 => kz (fun c => ?_) (fun c => ⟨h1, h2, nO KL.nil h3.1 iq (Or.inl (by omega))⟩)
  exact Fn.bind (oJ r1 h2 _ c (by simp)) fun _ r2 g1 g2 _ => Fn.bind (pg 1 r2 g2) fun u r3 f1 f2 f3 => Fn.bind (D8 T N r3 (by omega) (by omega) f2) fun ks r4 e1 e2 e3 => mi (by omega) e2 (nO e3 h3.1 f3.1 (Or.inl (by omega)))
theorem Kt (T : Tot S m) (N : Nat) (l : List S37) (hl : l.length ≤ m) (hN : l.length ≤ N) (h : TB l) : Fn KN l.length (wO S N l) := by
 unfold wO
 refine kz (fun c => Fn.bind (oJ l h _ c (by simp)) fun _ r h1 h2 _ => mi (by omega) h2 (nO KL.nil iq iq (Or.inl (by omega)))) (fun _ => ?_)
 refine kz (fun c => Fn.bind (oJ l h _ c (by simp)) fun _ r h1 h2 _ => mi (by omega) h2 (nO KL.nil iq iq (Or.inl (by omega)))) (fun _ => ?_)
 refine kz (fun c => Fn.bind (oJ l h _ c (by simp)) fun _ r h1 h2 _ => Fn.bind (kF [125] (by simp) r h2) fun _ r2 g1 g2 _ => mi (by omega) g2 (nO KL.nil iq iq (Or.inl (by omega)))) (fun _ => ?_)
 refine kz (fun c => Fn.bind (oJ l h _ c (by simp)) fun _ r h1 h2 _ => (xx T N 24 E (by omega) iq r (by omega) (by omega) h2).weak (by omega) (fun _ h => h)) (fun _ => ?_)
 refine kz (fun c => Fn.bind (oJ l h _ c (by simp)) fun _ r h1 h2 _ => Fn.bind (T.expr r (by omega) h2) fun e r2 g1 g2 g3 => Fn.bind (kF [41] (by simp) r2 g2) fun _ r3 f1 f2 _ => mi (by omega) f2 g3) (fun _ => ?_)
 exact KF T N l hl hN h
theorem IC (T : Tot S m) (N c : Nat) : ∀ (n : Nat) (e : List S29) (l : List S37), l.length < n → l.length ≤ m → l.length ≤ N → l.length < c → TB l → KN e → Fn KN c (tN S N n e l) := by
 intro n
 induction n with
 | zero => intro e l h1; omega
 | succ n ih =>
  intro e l h1 h2 h3 h4 h5 h6
  unfold tN
  refine kz (fun d => ?_) (fun d => kz (fun d2 => ?_) (fun _ => ⟨h4, h5, h6⟩))
  ·exact Fn.bind (D8 T N l h2 h3 h5) fun ks r g1 g2 g3 => ih _ r (by omega) (by omega) (by omega) (by omega) g2 (nO (KL.app (KL.one h6.1) g3) iq iq (Or.inl (by omega)))
  exact Fn.bind (oJ l h5 _ d2 (by simp)) fun _ r g1 g2 _ => Fn.bind (T.expr r (by omega) g2) fun i r2 f1 f2 f3 => Fn.bind (kF [93] (by simp) r2 f2) fun _ r3 e1 e2 _ =>
   ih _ r3 (by omega) (by omega) (by omega) (by omega) e2 (nO (KL.cons h6.1 (KL.one f3.1)) iq iq (Or.inr rfl))
theorem CX (l : List S37) (h : TB l) : (wB l).size ≤ 3000 := by
 cases l with
 | nil => exact iq
 | cons t r =>
  unfold wB
  by_cases c : t.f0 = 5 ∨ t.f0 = 4
  ·simp only [if_pos c]; exact (h t List.mem_cons_self).1
  simp only [if_neg c]; exact iq
theorem Dc (T : Tot S m) (N : Nat) (l : List S37) (hl : l.length ≤ m) (hN : l.length ≤ N) (h : TB l) : Fn KN l.length (pM S N l) := by
 unfold pM
 refine kz (fun c => Fn.bind (oJ l h (wd l) rfl (by rcases c with c | c | c <;> rw [c] <;> simp)) fun _ r h1 h2 _ => ?_) (fun _ => ?_)
 ·exact Fn.bind (T.unary r (by omega) h2) fun e r2 g1 g2 g3 => mi (by omega) g2 (nO (KL.one g3.1) iq (CX l h) (Or.inl (by omega)))
 refine kz (fun c => Fn.bind (oJ l h _ c (by simp)) fun _ r h1 h2 _ => ?_) (fun _ => ?_)
 ·exact Fn.bind (T.unary r (by omega) h2) fun e r2 g1 g2 g3 => mi (by omega) g2 (nO (KL.one g3.1) iq iq (Or.inl (by omega)))
 exact Fn.bind (Kt T N l hl hN h) fun e r g1 g2 g3 => IC T N _ N e r (by omega) (by omega) (by omega) g1 g2 g3
theorem GI {S : PF} (a : Int) (ha : 1 ≤ a) (M c : Nat) (B : ∀ l, l.length ≤ M → TB l → Fn KN l.length (S.bound (a + 1) l)) : ∀ (n : Nat) (e : List S29) (l : List S37), l.length < n → l.length ≤ M → l.length < c → TB l → KN e → Fn KN c (qf S a n e l) := by
 intro n
 induction n with
 | zero => intro e l h1; omega
 | succ n ih =>
  intro e l h1 h2 h4 h5 h6
  unfold qf
  refine kz (fun d => Fn.bind (oJ l h5 (wd l) rfl (fun w => by rw [w] at d; have : oU [] = 0 := rfl; omega)) fun _ r g1 g2 _ => Fn.bind (B r (by omega) g2) fun e2 r2 f1 f2 f3 => ?_) (fun _ => ⟨h4, h5, h6⟩)
  have hk := nO (k := 27) (nm := E) (n := 0) (tx := wB l) (KL.cons h6.1 (KL.one f3.1)) iq (CX l h5) (Or.inl (by omega))
  by_cases d3 : a = 3
  ·rw [if_pos d3]; exact mi (by omega) f2 hk
  rw [if_neg d3]; exact ih _ r2 (by omega) (by omega) (by omega) f2 hk
theorem Jg {S : PF} (N M : Nat) (a : Int) (h1 : 1 ≤ a) (h6 : a ≠ 6) (hM : M ≤ N) (B : ∀ l, l.length ≤ M → TB l → Fn KN l.length (S.bound (a + 1) l)) (l : List S37) (hl : l.length ≤ M) (h : TB l) : Fn KN l.length (oD S N a l) := by
 unfold oD
 rw [if_neg h6]
 exact Fn.bind (B l hl h) fun e r g1 g2 g3 => GI a h1 M _ B N e r (by omega) (by omega) g1 g2 g3
theorem tot : ∀ m : Nat, ∃ n0, ∀ n, n0 ≤ n → Tot (oZ n) m := by
 intro m
 induction m with
 | zero => exact ⟨0, fun n _ => ⟨fun l h => by omega, fun l h => by omega, fun a _ _ l h => by omega, fun l h => by omega⟩⟩
 | succ m ih =>
  obtain ⟨n0, h0⟩ := ih
  have b6 : ∀ n, n0 + m + 1 ≤ n → ∀ l, l.length ≤ m → TB l → Fn KN l.length ((oZ n).bound 6 l) := by
   intro n hn l hl h
   obtain ⟨k, rfl⟩ : ∃ k, n = k + 1 := ⟨n - 1, by omega⟩
   show Fn KN l.length (oD (oZ k) k 6 l)
   unfold oD
   rw [if_pos rfl]
   exact Dc (h0 k (by omega)) k l hl (by omega) h
  have st : ∀ (a : Int) (d : Nat), 1 ≤ a → a ≤ 5 → (∀ n, n0 + m + d ≤ n → ∀ l, l.length ≤ m → TB l → Fn KN l.length ((oZ n).bound (a + 1) l)) → ∀ n, n0 + m + (d + 1) ≤ n → ∀ l, l.length ≤ m → TB l → Fn KN l.length ((oZ n).bound a l) := by
   intro a d h1 h2 hB n hn l hl h
   obtain ⟨k, rfl⟩ : ∃ k, n = k + 1 := ⟨n - 1, by omega⟩
   show Fn KN l.length (oD (oZ k) k a l)
   exact Jg k m a h1 (by omega) (by omega) (hB k (by omega)) l hl h
  have b5 := st 5 1 (by omega) (by omega) b6
  have b4 := st 4 2 (by omega) (by omega) b5
  have b3 := st 3 3 (by omega) (by omega) b4
  have b2 := st 2 4 (by omega) (by omega) b3
  have b1 := st 1 5 (by omega) (by omega) b2
  refine ⟨n0 + m + 6, fun n hn => ⟨fun l hl h => ?_, fun l hl h => ?_, fun a h1 h2 l hl h => ?_, fun l hl h => ?_⟩⟩
  ·obtain ⟨k, rfl⟩ : ∃ k, n = k + 1 := ⟨n - 1, by omega⟩
   exact b1 (k + 1) hn l (by omega) h
  ·obtain ⟨k, rfl⟩ : ∃ k, n = k + 1 := ⟨n - 1, by omega⟩
   exact DJ (h0 k (by omega)) k l (by omega) (by omega) h
  ·rcases (show a = 1 ∨ a = 2 ∨ a = 3 ∨ a = 4 ∨ a = 5 ∨ a = 6 by omega) with rfl | rfl | rfl | rfl | rfl | rfl
   ·exact b1 n (by omega) l (by omega) h
   ·exact b2 n (by omega) l (by omega) h
   ·exact b3 n (by omega) l (by omega) h
   ·exact b4 n (by omega) l (by omega) h
   ·exact b5 n (by omega) l (by omega) h
   exact b6 n (by omega) l (by omega) h
  obtain ⟨k, rfl⟩ : ∃ k, n = k + 1 := ⟨n - 1, by omega⟩
  exact Dc (h0 k (by omega)) k l (by omega) (by omega) h
theorem Ls (l : List S37) (h : TB l) : Fn KN l.length (DW l) :=
 Fn.bind (pg 1 l h) fun a r h1 h2 h3 => Fn.bind (kF [46] (by simp) r h2) fun _ r g1 g2 _ => Fn.bind (pg 1 r g2) fun b r f1 f2 f3 => Fn.bind (kF [47] (by simp) r f2) fun _ r e1 e2 _ =>
  Fn.bind (pg 2 r e2) fun c r d1 d2 d3 => Fn.bind (kF [59] (by simp) r d2) fun _ r c1 c2 _ => mi (by omega) c2 (nO KL.nil h3.1 f3.1 (Or.inl (by omega)) d3.2)
theorem Jc (T : Tot S m) (N : Nat) (nm : ByteArray) (v : Int) (hn : nm.size ≤ 3000) (hv : v ≤ 9223372036854775807) (c : Nat) : ∀ (n : Nat) (acc : List (List S29)) (l : List S37), l.length < n → l.length ≤ m → l.length ≤ N → l.length < c → TB l → KL acc → Fn KN c (vw S N nm v n acc l) := by
 intro n
 induction n with
 | zero => intro e l h1; omega
 | succ n ih =>
  intro acc l h1 h2 h3 h4 h5 h6
  unfold vw
  refine kz (fun d => ?_) (fun _ => ⟨h4, h5, nO h6 hn iq (Or.inl (by omega))⟩)
  exact Fn.bind (oJ l h5 _ d (by simp)) fun _ r g1 g2 _ => Fn.bind (pg 1 r g2) fun t r2 f1 f2 f3 => Fn.bind (xx T N 3 t.f1 (by omega) f3.1 r2 (by omega) (by omega) f2) fun f r3 e1 e2 e3 =>
   ih _ r3 (by omega) (by omega) (by omega) (by omega) e2 (KL.app h6 (KL.one e3.1))
theorem H9 (T : Tot S m) (N : Nat) (nm : ByteArray) (v : Int) (hn : nm.size ≤ 3000) (hv : v ≤ 9223372036854775807) (c : Nat) : ∀ (n : Nat) (acc : List (List S29)) (l : List S37), l.length < n → l.length ≤ m → l.length < N → l.length < c → TB l → KL acc → Fn KN c (uP S N nm v n acc l) := by
 intro n
 induction n with
 | zero => intro e l h1; omega
 | succ n ih =>
  intro acc l h1 h2 h3 h4 h5 h6
  unfold uP
  refine kz (fun d => ?_) (fun _ => Jc T N nm v hn hv c N acc l h3 h2 (by omega) h4 h5 h6)
  exact Fn.bind (oJ l h5 _ d (by simp)) fun _ r g1 g2 _ => Fn.bind (Ls r g2) fun t r2 f1 f2 f3 => ih _ r2 (by omega) (by omega) (by omega) (by omega) f2 (KL.app h6 (KL.one f3.1))
theorem Gn (T : Tot S m) (N : Nat) (l : List S37) (hl : l.length ≤ m) (hN : l.length ≤ N) (h : TB l) : Fn KN l.length (kS S N l) :=
 Fn.bind (kF _ (by simp) l h) fun _ r h1 h2 _ => Fn.bind (pg 1 r h2) fun t r g1 g2 g3 => Fn.bind (pg 2 r g2) fun u r f1 f2 f3 => Fn.bind (kF [59] (by simp) r f2) fun _ r e1 e2 _ =>
  H9 T N t.f1 u.f2 g3.1 f3.2 _ N [] r (by omega) (by omega) (by omega) (by omega) e2 KL.nil
end Go.Proofs.YtkbhkonenkgfoaaGreat.Par
end
section
set_option linter.unusedVariables false
set_option linter.unusedSimpArgs false
namespace Go.Proofs.YtkbhkonenkgfoaaGreat.Lex
open Go Go.RowKit Go.Proofs.YtkbhkonenkgfoaaGreatW.PrintWords Go.Proofs.YtkbhkonenkgfoaaGreat.Q
theorem w64 (n : Int) (h : -9223372036854775808 ≤ n ∧ n ≤ 9223372036854775807) : wrap64 n = n := IntWalk.wrap64_in n h
theorem bt0 (s : ByteArray) (c : UInt8) (t : List UInt8) (h : L s = c :: t) : bt s 0 = (c.toNat : Int) := by
 have := uy s 0
 rw [h] at this
 simpa using this
theorem JG (s : ByteArray) (i : Int) : wrap32 (bt s i) = bt s i := by
 have := GG s i
 exact IntWalk.wrap32_in _ (by omega)
theorem isE (s : ByteArray) : (s.toList = ([] : List UInt8)) ↔ L s = [] := by rw [iM]
theorem xg (c : UInt8) : jL.f (c.toNat : Int) = some (le c) := by
 unfold jL.f le
 by_cases h : (c.toNat : Int) ≥ 97
 ·rw [if_pos h]
  congr 1
  rw [Bool.eq_iff_iff]
  simp only [decide_eq_true_eq]
  omega
 rw [if_neg h]
 congr 1
 symm
 rw [decide_eq_false_iff_not]
 omega
theorem DC (c : UInt8) : lW.f (c.toNat : Int) = some (di c) := by
 unfold lW.f di
 by_cases h : (c.toNat : Int) ≥ 48
 ·rw [if_pos h]
  congr 1
  rw [Bool.eq_iff_iff]
  simp only [decide_eq_true_eq]
  omega
 rw [if_neg h]
 congr 1
 symm
 rw [decide_eq_false_iff_not]
 omega
theorem rJ {α : Type} (q : α → Bool) (l : List α) : ((l.takeWhile q).length = l.length) ↔ l.all q = true := by
 induction l with
 | nil => simp
 | cons a t ih =>
  rw [List.takeWhile_cons, List.all_cons]
  by_cases h : q a = true
  ·rw [if_pos h]
   simp only [List.length_cons, h, Bool.true_and]
   rw [← ih]; omega
  rw [if_neg h]
  simp [h]
theorem EO (s : ByteArray) : kG.f s = some (isWord (L s)) := by
 unfold kG.f
 rcases hl : L s with _ | ⟨c, t⟩
 ·rw [if_pos ((isE s).2 hl)]; rfl
 rw [if_neg (by rw [isE, hl]; simp), if_pos (by rw [ed, hl]; simp), JG, bt0 s c t hl, xg]
 simp only [Option.bind_some]
 by_cases h : le c = true
 ·rw [if_pos h]
  unfold lC.f
  simp only [Option.bind_some]
  congr 1
  rw [isWord, h, Bool.true_and, ← hl, Bool.eq_iff_iff]
  rw [beq_iff_eq, ed, ed, xm mW inn xk, ← rJ]
  omega
 rw [if_neg h]
 simp [isWord, h]
/-! within -/
theorem yP (a : ByteArray) (i n : Nat) : L (a.extract i (i + n)) = ((L a).drop i).take n := by
 rw [oh, Nat.add_sub_cancel_left]
/-- Does a list stand in another one, from a place on? -/
def mX (b : List UInt8) : List UInt8 → Bool
 | [] => b.isPrefixOf []
 | c :: t => b.isPrefixOf (c :: t) || mX b t
theorem lq (b l : List UInt8) : b.isPrefixOf l = true ↔ (b.length ≤ l.length ∧ l.take b.length = b) := by
 rw [List.isPrefixOf_iff_prefix]
 constructor
 ·rintro ⟨r, rfl⟩
  simp
 rintro ⟨h1, h2⟩
 have h3 := List.take_append_drop b.length l
 rw [h2] at h3
 exact ⟨_, h3⟩
theorem o9 (b : List UInt8) : ∀ l : List UInt8, l.length < b.length → mX b l = false
 | [], h => by
  cases b with
  | nil => simp at h
  | cons x y => rfl
 | c :: t, h => by
  simp only [mX]
  rw [o9 b t (by simp at h; omega), Bool.or_false, Bool.eq_false_iff, ne_eq, lq]
  omega
theorem EP (a b : ByteArray) (hb : 1 ≤ b.size) (hs : a.size + b.size ≤ 4611686018427387904) : ∀ (m i : Nat), a.size ≤ m + i → i ≤ a.size + 1 → af (fun k => eH.l0 k a b (i : Int)) (mX (L b) ((L a).drop i)) := by
 intro m
 induction m with
 | zero =>
  intro i h1 h2
  refine af.step (G := fun _ => some false) (fun k => ?_) (by
   rw [o9 _ _ (by rw [List.length_drop, ← ed, ← ed]; omega)]
   exact af.now)
  simp only [eH.l0]
  rw [w64 _ (by omega), if_neg (by omega)]
 | succ m ih =>
  intro i h1 h2
  by_cases c : i + b.size ≤ a.size
  ·by_cases e : ((L a).drop i).take b.size = L b
   ·refine af.step (G := fun _ => some true) (fun k => ?_) ?_
    ·simp only [eH.l0]
     rw [w64 _ (by omega), if_pos (by omega), if_pos (by omega), if_pos (by omega)]
     have e1 : ((i : Int)).toNat = i := by omega
     have e2 : ((i : Int) + (b.size : Int)).toNat = i + b.size := by omega
     rw [e1, e2, iM, iM, yP, if_pos e]
    have : mX (L b) ((L a).drop i) = true := by
     rw [jo (L a) i (by rw [← ed]; omega)] at *
     simp only [mX]
     rw [Bool.or_eq_true, lq]
     refine Or.inl ⟨?_, ?_⟩
     ·rw [← jo (L a) i (by rw [← ed]; omega), List.length_drop, ← ed, ← ed]; omega
     rw [← ed]; exact e
    rw [this]
    exact af.now
   refine af.step (G := fun k => eH.l0 k a b ((i + 1 : Nat) : Int)) (fun k => ?_) ?_
   ·simp only [eH.l0]
    rw [w64 _ (by omega), if_pos (by omega), if_pos (by omega), if_pos (by omega)]
    have e1 : ((i : Int)).toNat = i := by omega
    have e2 : ((i : Int) + (b.size : Int)).toNat = i + b.size := by omega
    rw [e1, e2, iM, iM, yP, if_neg e, w64 _ (by omega)]
    rfl
   have : mX (L b) ((L a).drop i) = mX (L b) ((L a).drop (i + 1)) := by
    rw [jo (L a) i (by rw [← ed]; omega)]
    simp only [mX]
    rw [← jo (L a) i (by rw [← ed]; omega)]
    have : List.isPrefixOf (L b) ((L a).drop i) = false := by
     rw [Bool.eq_false_iff, ne_eq, lq]
     rintro ⟨_, q⟩
     rw [← ed] at q
     exact e q
    rw [this, Bool.false_or]
   rw [this]
   exact ih (i + 1) (by omega) (by omega)
  refine af.step (G := fun _ => some false) (fun k => ?_) (by
   rw [o9 _ _ (by rw [List.length_drop, ← ed, ← ed]; omega)]
   exact af.now)
  simp only [eH.l0]
  rw [w64 _ (by omega), if_neg (by omega)]
theorem vZ (a b : ByteArray) (hb : 1 ≤ b.size) (hs : a.size + b.size ≤ 4611686018427387904) : af (fun k => eH.f k a b) (mX (L b) (L a)) := by
 have := EP a b hb hs a.size 0 (by omega) (by omega)
 simpa [eH.f] using this
/-! Key -/
def KT : List UInt8 := [32, 109, 111, 100, 117, 108, 101, 32, 117, 115, 101, 32, 102, 110, 32, 108, 101, 116, 32, 105, 102, 32, 101, 108, 115, 101, 32, 119, 104, 105, 108, 101, 32, 98, 114, 101, 97, 107, 32, 99, 111, 110, 116, 105, 110, 117, 101, 32, 114, 101, 116, 117, 114, 110, 32, 112, 117, 116, 32, 101, 109, 105, 116, 32, 121, 105, 101, 108, 100, 32, 110, 105, 108, 32, 115, 116, 97, 116, 101, 32, 115, 112, 97, 119, 110, 32, 108, 101, 110, 32, 110, 111, 116, 32, 97, 110, 100, 32, 111, 114, 32]
def KB : ByteArray := (⟨#[32, 109, 111, 100, 117, 108, 101, 32, 117, 115, 101, 32, 102, 110, 32, 108, 101, 116, 32, 105, 102, 32, 101, 108, 115, 101, 32, 119, 104, 105, 108, 101, 32, 98, 114, 101, 97, 107, 32, 99, 111, 110, 116, 105, 110, 117, 101, 32, 114, 101, 116, 117, 114, 110, 32, 112, 117, 116, 32, 101, 109, 105, 116, 32, 121, 105, 101, 108, 100, 32, 110, 105, 108, 32, 115, 116, 97, 116, 101, 32, 115, 112, 97, 119, 110, 32, 108, 101, 110, 32, 110, 111, 116, 32, 97, 110, 100, 32, 111, 114, 32]⟩ : ByteArray)
theorem Jq : KB.size = 101 := rfl
def qm (c : UInt8) : Bool := c != 32
/-- The words between blanks. -/
def wordsOf : List UInt8 → List (List UInt8)
 | [] => []
 | c :: t => if c == 32 && !(t.dropWhile qm).isEmpty then t.takeWhile qm :: wordsOf t else wordsOf t
theorem EN : wordsOf KT = KEYS := by decide +kernel
theorem uY : ∀ (s t : List UInt8), s.all qm = true → (s ++ [32]).isPrefixOf t = (t.takeWhile qm == s && !(t.dropWhile qm).isEmpty)
 | [], [], _ => rfl
 | [], c :: t, _ => by
  by_cases h : c = 32
  ·subst h
   simp [List.takeWhile_cons, List.dropWhile_cons, qm, List.isPrefixOf]
  have h2 : (32 == c) = false := beq_eq_false_iff_ne.2 (fun e => h e.symm)
  simp [List.takeWhile_cons, List.dropWhile_cons, qm, List.isPrefixOf, h, h2]
 | x :: s, [], _ => by simp [List.isPrefixOf]
 | x :: s, c :: t, hs => by
  simp only [List.all_cons, Bool.and_eq_true] at hs
  have ih := uY s t hs.2
  rw [List.cons_append, List.isPrefixOf_cons_cons, ih]
  by_cases h : x = c
  ·subst h
   rw [List.takeWhile_cons, List.dropWhile_cons, if_pos hs.1, if_pos hs.1]
   simp
  have h2 : (x == c) = false := beq_eq_false_iff_ne.2 h
  rw [h2, Bool.false_and]
  symm
  rw [List.takeWhile_cons]
  split
  ·have : (c :: t.takeWhile qm == x :: s) = false := by
    apply beq_eq_false_iff_ne.2
    intro e
    exact h (List.cons.inj e).1.symm
   rw [this, Bool.false_and]
  simp
theorem rZ (s : List UInt8) (hs : s.all qm = true) : ∀ l : List UInt8, mX (32 :: (s ++ [32])) l = (wordsOf l).contains s
 | [] => by simp [mX, wordsOf, List.isPrefixOf]
 | c :: t => by
  rw [mX, rZ s hs t, List.isPrefixOf_cons_cons, uY s t hs, wordsOf]
  by_cases h : c = 32
  ·subst h
   by_cases h2 : (t.dropWhile qm).isEmpty = true
   ·simp [h2]
   have h3 : (t.dropWhile qm).isEmpty = false := by simpa using h2
   rw [h3]
   simp only [Bool.not_false, Bool.and_true, beq_self_eq_true, Bool.true_and, if_true, List.contains_cons]
   rw [show (List.takeWhile qm t == s) = (s == List.takeWhile qm t) from Bool.eq_iff_iff.2 (by simp only [beq_iff_eq]; exact eq_comm)]
  have h2 : (32 == c) = false := beq_eq_false_iff_ne.2 (fun e => h e.symm)
  have h3 : (c == 32) = false := beq_eq_false_iff_ne.2 h
  rw [h2, h3]
  simp
theorem DU {s : List UInt8} (h : isWord s = true) : s.all qm = true := by
 cases s with
 | nil => cases h
 | cons c t =>
  simp only [isWord, Bool.and_eq_true] at h
  rw [List.all_eq_true] at h ⊢
  intro x hx
  have h1 := h.2 x hx
  simp only [qm, bne_iff_ne, ne_eq]
  rintro rfl
  exact absurd h1 (by decide)
theorem Gu {s : List UInt8} (h : isKey s = true) : isWord s = true := by
 have : ∀ x ∈ KEYS, isWord x = true := by decide +kernel
 exact this s (List.contains_iff_mem.1 h)
theorem JD (s : ByteArray) (hs : s.size ≤ 140737488351232) : af (fun k => kD.f k s) (isKey (L s)) := by
 unfold kD.f
 rw [EO]
 simp only [Option.bind_some]
 by_cases h : isWord (L s) = true
 ·rw [h]
  simp only [if_true]
  have e1 : ((⟨#[32]⟩ : ByteArray) ++ s).size = 1 + s.size := by rw [ByteArray.size_append]; rfl
  simp only [e1]
  refine af.pos (by omega) (af.pos (by omega) ?_)
  have h0 : ByteArray.size (⟨#[32]⟩ : ByteArray) = 1 := rfl
  have hw := vZ KB (((⟨#[32]⟩ : ByteArray) ++ s) ++ (⟨#[32]⟩ : ByteArray)) (by rw [ByteArray.size_append, e1]; omega) (by rw [ByteArray.size_append, e1, h0, Jq]; omega)
  have e2 : L (((⟨#[32]⟩ : ByteArray) ++ s) ++ (⟨#[32]⟩ : ByteArray)) = 32 :: (L s ++ [32]) := by
   rw [qU, qU]; rfl
  rw [e2] at hw
  rw [show mX (32 :: (L s ++ [32])) (L KB) = isKey (L s) from (rZ _ (DU h) KT).trans (by rw [EN]; rfl)] at hw
  exact af.bind (G := fun _ t => some t) hw af.now
 have h2 : isWord (L s) = false := by simpa using h
 have h3 : isKey (L s) = false := by
  rw [Bool.eq_false_iff]
  intro e
  exact h (Gu e)
 rw [h2, h3]
 simp only [Bool.false_eq_true, if_false]
 exact af.now
theorem CW (s : ByteArray) (hs : s.size ≤ 140737488351232) : af (fun k => iH.f k s) (gm (L s)) := by
 unfold iH.f
 rw [EO]
 simp only [Option.bind_some]
 by_cases h : isWord (L s) = true
 ·rw [h]
  simp only [if_true]
  by_cases h2 : (s.size : Int) ≤ 16
  ·refine af.pos h2 ?_
   have e : gm (L s) = !isKey (L s) := by
    unfold gm
    rw [h, show decide ((L s).length ≤ 16) = true from decide_eq_true (by rw [← ed]; omega)]
    rfl
   rw [e]
   exact af.bind (G := fun _ t => some (!t)) (JD s hs) af.now
  refine af.neg h2 ?_
  have e : gm (L s) = false := by
   unfold gm
   rw [show decide ((L s).length ≤ 16) = false from decide_eq_false (by rw [← ed]; omega)]
   simp
  rw [e]
  exact af.now
 have h2 : isWord (L s) = false := by simpa using h
 rw [h2]
 simp only [Bool.false_eq_true, if_false]
 have e : gm (L s) = false := by
  unfold gm
  rw [h2]; rfl
 rw [e]
 exact af.now
end Go.Proofs.YtkbhkonenkgfoaaGreat.Lex
end
section
set_option linter.unusedVariables false
set_option linter.unusedSimpArgs false
namespace Go.Proofs.YtkbhkonenkgfoaaGreat.Tree
open Go Go.RowKit Go.Proofs.YtkbhkonenkgfoaaGreatW.PrintWords Go.Proofs.YtkbhkonenkgfoaaGreat.Q Go.Proofs.YtkbhkonenkgfoaaGreat.Lex
theorem af.both {α : Type} {F G : Nat → Option α} {v u : α} {c : Prop} [Decidable c] (f : c → af F v) (g : ¬c → af G u) : af (fun k => if c then F k else G k) (if c then v else u) := by
 by_cases h : c
 ·rw [if_pos h]; exact af.pos h (f h)
 rw [if_neg h]; exact af.neg h (g h)
def OPS : List (List UInt8) := [[43], [45], [42], [47], [37], [46, 46], [61, 61], [33, 61], [60], [60, 61], [97, 110, 100], [111, 114]]
def UNS : List (List UInt8) := [[45], [110, 111, 116], [108, 101, 110]]
def OB : ByteArray := (⟨#[32, 43, 32, 45, 32, 42, 32, 47, 32, 37, 32, 46, 46, 32, 61, 61, 32, 33, 61, 32, 60, 32, 60, 61, 32, 97, 110, 100, 32, 111, 114, 32]⟩ : ByteArray)
def UB : ByteArray := (⟨#[32, 45, 32, 110, 111, 116, 32, 108, 101, 110, 32]⟩ : ByteArray)
theorem zO : wordsOf (L OB) = OPS := by decide +kernel
theorem zN : wordsOf (L UB) = UNS := by decide +kernel
theorem He (w s : ByteArray) (hs : s.size ≤ 3000) (hw : w.size ≤ 1000) (hne : ¬ s.toList = ([] : List UInt8)) : ∀ (m i : Nat), w.size ≤ m + i → i ≤ w.size + 1 →
 af (fun k => dF.l1 k w s ((s.size + 2 : Nat) : Int) (i : Int)) (mX (32 :: (L s ++ [32])) ((L w).drop i)) := by
 have hb : (32 :: (L s ++ [32])).length = s.size + 2 := by rw [ed]; simp
 have hwL := ed w
 have h1s : ((⟨#[32]⟩ : ByteArray) ++ s).size = 1 + s.size := by rw [ByteArray.size_append]; rfl
 have hLb : (((⟨#[32]⟩ : ByteArray) ++ s) ++ (⟨#[32]⟩ : ByteArray)).toList = 32 :: (L s ++ [32]) := by
  rw [iM, qU, qU]; rfl
 intro m
 induction m with
 | zero =>
  intro i h1 h2
  refine af.step (fun k => by rw [dF.l1]) (af.neg hne ?_)
  refine af.step (fun k => by rw [dF.j2]) (af.neg ?_ ?_)
  ·rw [w64 (by omega) (by omega)]; simp; omega
  rw [o9 _ _ (by rw [List.length_drop, hb]; omega)]
  exact af.now
 | succ m ih =>
  intro i h1 h2
  refine af.step (fun k => by rw [dF.l1]) (af.neg hne ?_)
  have hwr : wrap64 ((i : Int) + ((s.size + 2 : Nat) : Int)) = ((i + (s.size + 2) : Nat) : Int) := by rw [w64 (by omega) (by omega)]; omega
  rw [hwr]
  refine af.step (fun k => by rw [dF.j2]) ?_
  rw [hwr]
  by_cases c : i + (s.size + 2) ≤ w.size
  ·refine af.pos (decide_eq_true (by omega)) (af.pos (by omega) (af.pos (by omega) (af.pos (by omega) (af.pos (by omega) (af.pos (by omega) ?_)))))
   rw [Int.toNat_natCast, Int.toNat_natCast, iM, yP, hLb, inc i (by omega)]
   have hd := jo (L w) i (by omega)
   by_cases e : ((L w).drop i).take (s.size + 2) = 32 :: (L s ++ [32])
   ·refine af.pos e ?_
    have : mX (32 :: (L s ++ [32])) ((L w).drop i) = true := by
     rw [hd] at e ⊢
     rw [mX, Bool.or_eq_true, lq]
     refine Or.inl ⟨?_, by rw [hb]; exact e⟩
     rw [hb, ← hd, List.length_drop]; omega
    rw [this]
    exact af.now
   refine af.neg e ?_
   have : mX (32 :: (L s ++ [32])) ((L w).drop i) = mX (32 :: (L s ++ [32])) ((L w).drop (i + 1)) := by
    rw [hd, mX, ← hd]
    have : List.isPrefixOf (32 :: (L s ++ [32])) ((L w).drop i) = false := by
     rw [Bool.eq_false_iff, ne_eq, lq]
     rintro ⟨_, q⟩
     rw [hb] at q
     exact e q
    rw [this, Bool.false_or]
   rw [this]
   exact ih (i + 1) (by omega) (by omega)
  refine af.neg (by simp; omega) ?_
  rw [o9 _ _ (by rw [List.length_drop, hb]; omega)]
  exact af.now
theorem xK (q : UInt8 → Bool) (l : List UInt8) : (l.takeWhile q).all q = true := by
 induction l with
 | nil => rfl
 | cons a t ih =>
  rw [List.takeWhile_cons]
  split
  ·rename_i h; rw [List.all_cons, h, ih]; rfl
  rfl
theorem rV : ∀ (l x : List UInt8), x ∈ wordsOf l → x.all qm = true
 | [], x, h => by simp [wordsOf] at h
 | c :: t, x, h => by
  rw [wordsOf] at h
  split at h
  ·rcases List.mem_cons.1 h with rfl | h
   ·exact xK _ _
   exact rV t x h
  exact rV t x h
theorem Hf (w s : ByteArray) (hs : s.size ≤ 3000) (hw : w.size ≤ 1000) (hn : (wordsOf (L w)).contains [] = false) : ∀ (m i : Nat), s.size = m + i →
 (∀ j, j < i → (L s).getD j 0 ≠ 32) → af (fun k => dF.l0 k w s (s.size : Int) (i : Int)) ((wordsOf (L w)).contains (L s)) := by
 have hL := ed s
 intro m
 induction m with
 | zero =>
  intro i h1 h2
  refine af.step (fun k => by rw [dF.l0]) (af.neg (by omega) ?_)
  have hall : (L s).all qm = true := by
   rw [List.all_eq_true]
   intro x hx
   obtain ⟨j, hj, rfl⟩ := List.getElem_of_mem hx
   have := h2 j (by omega)
   rw [List.getD_eq_getElem?_getD, List.getElem?_eq_getElem hj] at this
   simpa [qm] using this
  rw [w64 (n := (s.size : Int) + 2) (by omega) (by omega), show (s.size : Int) + 2 = ((s.size + 2 : Nat) : Int) by omega]
  by_cases e : s.toList = ([] : List UInt8)
  ·rw [(isE s).1 e, hn]
   refine af.step (fun k => by rw [dF.l1]) (af.pos e ?_)
   exact af.step (fun k => by rw [dF.j2]) (af.neg (by simp) af.now)
  rw [← rZ _ hall]
  have := He w s hs hw e w.size 0 (by omega) (by omega)
  rw [List.drop_zero] at this
  exact this
 | succ m ih =>
  intro i h1 h2
  refine af.step (fun k => by rw [dF.l0]) (af.pos (by omega) (af.pos (by omega) (af.pos (by omega) ?_)))
  rw [uy, inc i (by omega)]
  have hsplit : ((((L s).getD i 0).toNat : Int) = 32) ↔ (L s).getD i 0 = 32 := je _ 32
  by_cases c : (L s).getD i 0 = 32
  ·refine af.pos (hsplit.2 c) ?_
   have : (wordsOf (L w)).contains (L s) = false := by
    rw [Bool.eq_false_iff]
    intro h
    have := rV _ _ (List.contains_iff_mem.1 h)
    rw [List.all_eq_true] at this
    have hi : i < (L s).length := by omega
    have := this _ (List.getElem_mem hi)
    rw [List.getD_eq_getElem?_getD, List.getElem?_eq_getElem hi] at c
    simp at c
    rw [c] at this
    exact absurd this (by decide)
   rw [this]
   exact af.now
  refine af.neg (fun h => c (hsplit.1 h)) (ih (i + 1) (by omega) (fun j hj => ?_))
  rcases Nat.eq_or_lt_of_le (Nat.lt_succ_iff.1 hj) with rfl | hj
  ·exact c
  exact h2 j hj
theorem DL (w s : ByteArray) (hs : s.size ≤ 3000) (hw : w.size ≤ 1000) (hn : (wordsOf (L w)).contains [] = false) : af (fun k => dF.f k w s) ((wordsOf (L w)).contains (L s)) := by
 have := Hf w s hs hw hn s.size 0 (by omega) (fun j hj => by omega)
 exact this
/-- What a node of a kind has, and whether there is such a kind; what its number may be. -/
def nI (a : Int) : Int × Bool :=
 if a = 1 then (5, true) else if a = 2 then (7, true) else if a = 3 ∨ a = 4 ∨ a = 6 ∨ a = 7 ∨ a = 21 then (1, true) else if a = 19 then (4, true) else if a = 20 then (32, true)
 else if a = 23 then (3, true) else if a = 27 then (8, true) else if a = 28 then (16, true) else (0, decide (1 ≤ a ∧ a ≤ 30))
def rangeS (a : Int) : Int × Int := if a = 1 then (1, 2147483647) else if a = 2 then (0, 8) else (0, 9223372036854775807)
theorem Be (a : Int) (b : Bool) (h : b = decide (a = 3 ∨ a = 4 ∨ a = 6 ∨ a = 7 ∨ a = 21)) (h1 : a ≠ 1) (h2 : a ≠ 2) : af (fun k => gy.j0 k a a b) (nI a) := by
 refine af.step (fun k => by rw [gy.j0]) ?_
 unfold nI
 rw [if_neg h1, if_neg h2]
 by_cases c : a = 3 ∨ a = 4 ∨ a = 6 ∨ a = 7 ∨ a = 21
 ·rw [if_pos c]
  exact af.pos (by rw [h]; exact decide_eq_true c) af.now
 rw [if_neg c]
 refine af.neg (by rw [h]; simpa using c) ?_
 refine af.both (fun _ => af.now) (fun c1 => af.both (fun _ => af.now) (fun c2 => af.both (fun _ => af.now) (fun c3 => af.both (fun _ => af.now) (fun c4 => af.both (fun _ => af.now) (fun c5 => ?_)))))
 by_cases c6 : a ≥ 1
 ·refine af.pos c6 ?_
  rw [show (decide (1 ≤ a ∧ a ≤ 30)) = decide (a ≤ 30) from by simp; omega]
  exact af.now
 refine af.neg c6 ?_
 rw [show (decide (1 ≤ a ∧ a ≤ 30)) = false from decide_eq_false (by omega)]
 exact af.now
theorem LG (a : Int) : af (fun k => gy.f k a) (nI a) := by
 unfold gy.f
 by_cases h1 : a = 1
 ·subst h1; exact af.pos rfl af.now
 refine af.neg h1 ?_
 by_cases h2 : a = 2
 ·subst h2; exact af.pos rfl af.now
 refine af.neg h2 ?_
 by_cases h3 : a = 3
 ·exact af.pos h3 (Be a _ (by simp [h3]) h1 h2)
 refine af.neg h3 ?_
 by_cases h4 : a = 4
 ·exact af.pos h4 (Be a _ (by simp [h4]) h1 h2)
 refine af.neg h4 ?_
 by_cases h5 : a = 6
 ·exact af.pos h5 (Be a _ (by simp [h5]) h1 h2)
 refine af.neg h5 ?_
 by_cases h6 : a = 7
 ·exact af.pos h6 (Be a _ (by simp [h6]) h1 h2)
 refine af.neg h6 (Be a _ ?_ h1 h2)
 rw [Bool.eq_iff_iff, beq_iff_eq, decide_eq_true_eq]; omega
def pz (b m : Int) : Bool := Go.bits .and .i64 b m != 0
def textS (b : Int) (s : ByteArray) : Bool :=
 if Go.bits .and .i64 b 2 = 0 then if Go.bits .and .i64 b 8 = 0 then if Go.bits .and .i64 b 16 = 0 then if Go.bits .and .i64 b 32 = 0 then (L s).isEmpty else decide (s.size ≤ 1024) else UNS.contains (L s) else OPS.contains (L s) else gm (L s)
theorem JL (b : Int) (s : ByteArray) (hs : s.size ≤ 3000) : af (fun k => jq.f k b s) (textS b s) := by
 unfold jq.f textS
 refine af.both (fun _ => af.both (fun _ => af.both (fun _ => af.both (fun _ => af.jR fun k => ?_) (fun _ => af.jR fun k => ?_)) (fun _ => ?_)) (fun _ => ?_)) (fun _ => ?_)
 ·rw [iM]
  cases L s <;> rfl
 ·congr 1
  rw [decide_eq_decide]; omega
 ·have := DL UB s hs (by decide) (by rw [zN]; decide)
  rw [zN] at this
  exact af.bind (G := fun _ t => some t) this af.now
 ·have := DL OB s hs (by decide) (by rw [zO]; decide)
  rw [zO] at this
  exact af.bind (G := fun _ t => some t) this af.now
 exact af.bind (G := fun _ t => some t) (CW s (by omega)) af.now
/-- A node has just what it may. -/
def jB (b : Int) (ok : Bool) (lo hi : Int) (x : S29) : Bool :=
 ok && (textS b x.f4 && ((pz b 1 == gm (L x.f2)) && ((pz b 1 || (L x.f2).isEmpty) && (if Go.bits .and .i64 b 4 = 0 then x.f3 == 0 else decide (lo ≤ x.f3 ∧ x.f3 ≤ hi)))))
def lD (x : S29) : Bool := jB (nI x.f0).1 (nI x.f0).2 (rangeS x.f0).1 (rangeS x.f0).2 x
theorem I9 (a : Int) : jU.f a = some (rangeS a) := by
 unfold jU.f rangeS
 split
 ·rfl
 split <;> rfl
theorem uM (x : S29) (b lo hi : Int) (c : Bool) : af (fun k => dP.j1 k b lo hi c x.f0 x.f1 x.f2 x.f3 x.f4) (!c && (if Go.bits .and .i64 b 4 = 0 then x.f3 == 0 else decide (lo ≤ x.f3 ∧ x.f3 ≤ hi))) := by
 refine af.step (fun k => by rw [dP.j1]) ?_
 cases c with
 | true => exact af.pos rfl af.now
 | false =>
  refine af.neg (by simp) ?_
  rw [Bool.not_false, Bool.true_and]
  refine af.both (fun _ => af.now) (fun c4 => ?_)
  by_cases c5 : x.f3 ≥ lo
  ·refine af.pos c5 ?_
   rw [show decide (lo ≤ x.f3 ∧ x.f3 ≤ hi) = decide (x.f3 ≤ hi) from by rw [decide_eq_decide]; omega]
   exact af.now
  refine af.neg c5 ?_
  rw [show decide (lo ≤ x.f3 ∧ x.f3 ≤ hi) = false from decide_eq_false (by omega)]
  exact af.now
theorem yD (x : S29) (h2 : x.f2.size ≤ 3000) (b lo hi : Int) (c : Bool) : af (fun k => dP.j0 k b lo hi c x.f0 x.f1 x.f2 x.f3 x.f4)
 (!c && ((pz b 1 == gm (L x.f2)) && ((pz b 1 || (L x.f2).isEmpty) && (if Go.bits .and .i64 b 4 = 0 then x.f3 == 0 else decide (lo ≤ x.f3 ∧ x.f3 ≤ hi))))) := by
 refine af.step (fun k => by rw [dP.j0]) ?_
 cases c with
 | true => exact af.pos rfl af.now
 | false =>
  refine af.neg (by simp) (af.bind (CW x.f2 (by omega)) ?_)
  rw [Bool.not_false, Bool.true_and]
  by_cases c1 : pz b 1 = gm (L x.f2)
  ·rw [beq_iff_eq.2 c1, Bool.true_and]
   refine af.neg (by unfold pz at c1; rw [c1]; simp) ?_
   by_cases c2 : Go.bits .and .i64 b 1 = 0
   ·refine af.pos c2 ?_
    have hb : pz b 1 = false := by unfold pz; rw [c2]; rfl
    rw [hb, Bool.false_or]
    have := uM x b lo hi (x.f2.toList != ([] : List UInt8))
    rwa [show (!(x.f2.toList != ([] : List UInt8))) = (L x.f2).isEmpty from by rw [iM]; cases L x.f2 <;> rfl] at this
   refine af.neg c2 ?_
   have hb : pz b 1 = true := by unfold pz; simpa using c2
   rw [hb, Bool.true_or, Bool.true_and]
   have := uM x b lo hi false
   rwa [Bool.not_false, Bool.true_and] at this
  rw [show (pz b 1 == gm (L x.f2)) = false from beq_eq_false_iff_ne.2 c1, Bool.false_and]
  exact af.pos (by unfold pz at c1; simpa using c1) (uM x b lo hi true)
theorem Gz (x : S29) (h2 : x.f2.size ≤ 3000) (h4 : x.f4.size ≤ 3000) : af (fun k => dP.f k x.f0 x.f1 x.f2 x.f3 x.f4) (lD x) := by
 unfold dP.f lD jB
 refine af.bind (LG x.f0) ?_
 simp only [I9, Option.bind_some]
 cases hok : (nI x.f0).2 with
 | false =>
  rw [Bool.false_and]
  exact af.neg (by simp) (yD x h2 _ _ _ true)
 | true =>
  rw [Bool.true_and]
  refine af.pos rfl (af.bind (JL _ _ h4) ?_)
  have := yD x h2 (nI x.f0).1 (rangeS x.f0).1 (rangeS x.f0).2 (!textS (nI x.f0).1 x.f4)
  rwa [Bool.not_not] at this
/-! Kids. -/
def exS (l : List Int) (lo hi : Nat) : Bool := decide (lo ≤ l.length ∧ l.length ≤ hi) && l.all kQ
def ifS (hi : Nat) (l : List Int) : Bool := decide (2 ≤ l.length ∧ l.length ≤ hi) && (kQ (rd l 0) && (l.drop 1).all (· == 5))
def Cj (l : List Int) : Bool := decide (1 ≤ l.length ∧ l.length ≤ 9) && (rd l ((l.length - 1 : Nat) : Int) == 5 && (l.take (l.length - 1)).all (· == 4))
def qC (l : List Int) : Bool := (l.dropWhile (· == 2)).all (· == 3)
def jh (a : Int) (l : List Int) : Bool :=
 if a = 1 then qC l else if a = 3 ∨ a = 24 then Cj l else if a = 5 then l.all lF else if a = 9 then ifS 3 l else if a = 10 then ifS 2 l else if a = 8 then exS l 3 3
 else if a = 6 ∨ a = 7 ∨ a = 13 ∨ a = 14 ∨ a = 15 ∨ a = 17 ∨ a = 28 ∨ a = 30 then exS l 1 1 else if a = 22 then exS l 1 9 else if a = 23 then exS l 0 8 else if a = 26 ∨ a = 27 then exS l 2 2 else decide (l.length = 0)
theorem ry (l : List Int) (lo hi : Nat) : jr.f l (lo : Int) (hi : Int) = some (exS l lo hi) := by
 unfold jr.f exS qI.f
 by_cases c : lo ≤ l.length
 ·rw [if_pos (by omega)]
  by_cases c2 : l.length ≤ hi
  ·rw [if_pos (by omega), decide_eq_true ⟨c, c2⟩]; rfl
  rw [if_neg (by omega), decide_eq_false (by omega)]; rfl
 rw [if_neg (by omega), decide_eq_false (by omega)]; rfl
theorem Lj (a : Int) : kE.f a = some (kQ a) := by
 unfold kE.f kQ
 by_cases c : a ≥ 18
 ·rw [if_pos c]; congr 1; rw [decide_eq_decide]; omega
 rw [if_neg c]; congr 1; symm; exact decide_eq_false (by omega)
theorem Ci (l : List Int) (hl : l.length ≤ 200000) : fM.f l = some (Cj l) := by
 unfold fM.f Cj mG.f
 by_cases c : 1 ≤ l.length
 ·rw [w64 (by omega) (by omega), show (l.length : Int) - 1 = ((l.length - 1 : Nat) : Int) by omega, if_pos (by omega)]
  by_cases c2 : l.length ≤ 9
  ·rw [if_pos (by omega), if_pos (by omega), if_pos (by omega), decide_eq_true ⟨c, c2⟩, Bool.true_and]
   by_cases c3 : rd l ((l.length - 1 : Nat) : Int) = 5
   ·rw [if_pos c3, if_pos (by omega), c3]; rfl
   rw [if_neg c3, show (rd l ((l.length - 1 : Nat) : Int) == 5) = false from beq_eq_false_iff_ne.2 c3]; rfl
  rw [if_neg (by omega), decide_eq_false (by omega)]; rfl
 rw [w64 (by omega) (by omega), if_neg (by omega), decide_eq_false (by omega)]; rfl
theorem Gj (l : List Int) (hl : l.length ≤ 200000) : ∀ (m i : Nat), l.length = m + i → af (fun k => fA.l0 k l (i : Int)) (qC (l.drop i)) := by
 intro m
 induction m with
 | zero =>
  intro i h
  refine af.step (fun k => by rw [fA.l0]) (af.neg (by omega) (af.pos (by omega) (af.pos (by omega) ?_)))
  rw [Int.toNat_natCast, List.drop_eq_nil_of_le (by omega)]
  exact af.now
 | succ m ih =>
  intro i h
  have hi : i < l.length := by omega
  have hrd : rd l (i : Int) = l[i] := by simp [rd, List.getD_eq_getElem?_getD, List.getElem?_eq_getElem hi]
  refine af.step (fun k => by rw [fA.l0]) (af.pos (by omega) (af.pos (by omega) ?_))
  rw [hrd, inc i (by omega)]
  by_cases c : l[i] = 2
  ·refine af.pos c ?_
   rw [show qC (l.drop i) = qC (l.drop (i + 1)) from by unfold qC; rw [List.drop_eq_getElem_cons hi, List.dropWhile_cons, if_pos (by rw [c]; rfl)]]
   exact ih (i + 1) (by omega)
  refine af.neg c (af.pos (by omega) ?_)
  rw [Int.toNat_natCast, show qC (l.drop i) = (l.drop i).all (· == 3) from by unfold qC; rw [List.drop_eq_getElem_cons hi, List.dropWhile_cons, if_neg (by simpa using c)]]
  exact af.now
theorem Gp (l : List Int) (hl : l.length ≤ 200000) : af (fun k => fA.f k l) (qC l) := by
 have := Gj l hl l.length 0 (by omega)
 exact this
theorem rP {α : Type} {F : Nat → Option α} {v : α} (h : af F v) : af (fun k => (F k).bind fun t => some t) v := af.bind h af.now
theorem IZ (a : Int) (l : List Int) (hl : l.length ≤ 200000) (b : Bool) (hb : b = decide (a = 6 ∨ a = 7 ∨ a = 13 ∨ a = 14 ∨ a = 15 ∨ a = 17 ∨ a = 28 ∨ a = 30)) (h1 : a ≠ 1) (h2 : ¬ (a = 3 ∨ a = 24)) (h3 : a ≠ 5) (h4 : a ≠ 9) (h5 : a ≠ 10) (h6 : a ≠ 8) :
 af (fun k => dw.j2 k l (l.length : Int) a b) (jh a l) := by
 unfold jh
 rw [if_neg h1, if_neg h2, if_neg h3, if_neg h4, if_neg h5, if_neg h6]
 refine af.step (fun k => by rw [dw.j2]) ?_
 by_cases c : a = 6 ∨ a = 7 ∨ a = 13 ∨ a = 14 ∨ a = 15 ∨ a = 17 ∨ a = 28 ∨ a = 30
 ·rw [if_pos c]
  exact af.pos Z32 (rP (af.jR fun k => ry l 1 1))
 rw [if_neg c]
 refine af.neg (by rw [hb]; simpa using c) ?_
 refine af.both (fun _ => rP (af.jR fun k => ry l 1 9)) (fun _ => af.both (fun _ => rP (af.jR fun k => ry l 0 8)) (fun _ => ?_))
 by_cases c3 : a = 26
 ·rw [if_pos (Or.inl c3)]; exact af.pos c3 (rP (af.jR fun k => ry l 2 2))
 refine af.neg c3 ?_
 by_cases c4 : a = 27
 ·rw [if_pos (Or.inr c4)]; exact af.pos c4 (rP (af.jR fun k => ry l 2 2))
 rw [if_neg (show ¬ (a = 26 ∨ a = 27) by omega)]
 refine af.neg c4 (af.jR fun k => ?_)
 congr 1
 rw [Bool.eq_iff_iff, beq_iff_eq, decide_eq_true_eq]; omega
theorem J8 {F : Nat → Option Bool} (l : List Int) (hi : Nat) (hF : ∀ k, F k = if (l.length : Int) ≥ 2 then (if (l.length : Int) ≤ (hi : Int) then (if 0 < (l.length : Int) then ((kE.f (rd l 0)).bind fun t153 => (if t153 = true then (if 1 ≤ (l.length : Int) then ((mG.f (l.drop 1) 5).bind fun t155 => (some t155)) else (none)) else (some false))) else (none)) else (some false)) else (some false)) :
 af F (ifS hi l) := by
 refine af.jR fun k => ?_
 rw [hF]
 unfold ifS
 by_cases c : 2 ≤ l.length
 ·rw [if_pos (by omega)]
  by_cases c2 : l.length ≤ hi
  ·rw [if_pos (by omega), if_pos (by omega), Lj, decide_eq_true ⟨c, c2⟩, Bool.true_and, Option.bind_some]
   cases kQ (rd l 0)
   ·rfl
   rw [if_pos rfl, if_pos (by omega)]; rfl
  rw [if_neg (by omega), decide_eq_false (by omega)]; rfl
 rw [if_neg (by omega), decide_eq_false (by omega)]; rfl
theorem Dy (a : Int) (l : List Int) (hl : l.length ≤ 200000) (b : Bool) (hb : b = decide (a = 9 ∨ a = 10)) (h1 : a ≠ 1) (h2 : ¬ (a = 3 ∨ a = 24)) (h3 : a ≠ 5) :
 af (fun k => dw.j1 k a l (l.length : Int) a b) (jh a l) := by
 refine af.step (fun k => by rw [dw.j1]) ?_
 by_cases c1 : a = 9
 ·rw [show jh a l = ifS 3 l from by unfold jh; rw [if_neg h1, if_neg h2, if_neg h3, if_pos c1]]
  exact af.pos (by rw [hb]; exact decide_eq_true (.inl c1)) (af.pos c1 (J8 l 3 (fun k => rfl)))
 by_cases c2 : a = 10
 ·rw [show jh a l = ifS 2 l from by unfold jh; rw [if_neg h1, if_neg h2, if_neg h3, if_neg c1, if_pos c2]]
  exact af.pos (by rw [hb]; exact decide_eq_true (.inr c2)) (af.neg c1 (J8 l 2 (fun k => rfl)))
 refine af.neg (by rw [hb]; simp [c1, c2]) ?_
 by_cases c3 : a = 8
 ·refine af.pos c3 ?_
  rw [show jh a l = exS l 3 3 from by unfold jh; rw [if_neg h1, if_neg h2, if_neg h3, if_neg c1, if_neg c2, if_pos c3]]
  exact rP (af.jR fun k => ry l 3 3)
 refine af.neg c3 ?_
 have go : ∀ b : Bool, b = decide (a = 6 ∨ a = 7 ∨ a = 13 ∨ a = 14 ∨ a = 15 ∨ a = 17 ∨ a = 28 ∨ a = 30) → af (fun k => dw.j2 k l (l.length : Int) a b) (jh a l) := fun b hb => IZ a l hl b hb h1 h2 h3 c1 c2 c3
 by_cases d1 : a = 6
 ·exact af.pos d1 (go _ (by simp [d1]))
 refine af.neg d1 ?_
 by_cases d2 : a = 7
 ·exact af.pos d2 (go _ (by simp [d2]))
 refine af.neg d2 ?_
 by_cases d3 : a = 13
 ·exact af.pos d3 (go _ (by simp [d3]))
 refine af.neg d3 ?_
 by_cases d4 : a = 14
 ·exact af.pos d4 (go _ (by simp [d4]))
 refine af.neg d4 ?_
 by_cases d5 : a = 15
 ·exact af.pos d5 (go _ (by simp [d5]))
 refine af.neg d5 ?_
 by_cases d6 : a = 17
 ·exact af.pos d6 (go _ (by simp [d6]))
 refine af.neg d6 ?_
 by_cases d7 : a = 28
 ·exact af.pos d7 (go _ (by simp [d7]))
 exact af.neg d7 (go _ Z29)
theorem Dz (a : Int) (l : List Int) (hl : l.length ≤ 200000) (b : Bool) (hb : b = decide (a = 3 ∨ a = 24)) (h1 : a ≠ 1) : af (fun k => dw.j0 k a l (l.length : Int) a b) (jh a l) := by
 refine af.step (fun k => by rw [dw.j0]) ?_
 by_cases c : a = 3 ∨ a = 24
 ·refine af.pos Z32 ?_
  rw [show jh a l = Cj l from by unfold jh; rw [if_neg h1, if_pos c]]
  exact rP (af.jR fun k => Ci l hl)
 refine af.neg (by rw [hb]; simpa using c) ?_
 by_cases c1 : a = 5
 ·refine af.pos c1 ?_
  rw [show jh a l = l.all lF from by unfold jh; rw [if_neg h1, if_neg c, if_pos c1]]
  exact af.now
 refine af.neg c1 ?_
 by_cases d1 : a = 9
 ·exact af.pos d1 (Dy a l hl _ (by simp [d1]) h1 c c1)
 exact af.neg d1 (Dy a l hl _ Z29 h1 c c1)
theorem KH (a : Int) (l : List Int) (hl : l.length ≤ 200000) : af (fun k => dw.f k a l) (jh a l) := by
 unfold dw.f
 by_cases c : a = 1
 ·refine af.pos c ?_
  rw [show jh a l = qC l from by unfold jh; rw [if_pos c]]
  exact rP (Gp l hl)
 refine af.neg c ?_
 by_cases d1 : a = 3
 ·exact af.pos d1 (Dz a l hl _ (by simp [d1]) c)
 exact af.neg d1 (Dz a l hl _ Z29 c)
end Go.Proofs.YtkbhkonenkgfoaaGreat.Tree
end
section
set_option linter.unusedVariables false
set_option linter.unusedSimpArgs false
namespace Go.Proofs.YtkbhkonenkgfoaaGreat.Tree
open Go Go.RowKit Go.Proofs.YtkbhkonenkgfoaaGreatW.PrintWords Go.Proofs.YtkbhkonenkgfoaaGreat.Q Go.Proofs.YtkbhkonenkgfoaaGreat.Lex
/-- The kinds of a node's kids. -/
def KG (l : List S29) (i : Nat) : List Int := (its l (ax l (i : Int)).f1.toNat ((i + 1 : Nat) : Int)).map fun p => (ax l p).f0
def LH (l : List S29) (i : Nat) : Bool := lD (ax l (i : Int)) && jh (ax l (i : Int)).f0 (KG l i)
/-- The first node from a place on that is not right; so many are left. -/
def Ji (l : List S29) : Nat → Nat → Int × Int
 | 0, _ => (0, 0)
 | m + 1, i => if LH l i then Ji l m (i + 1) else (4, (i : Int))
def wo (l : List S29) : Bool := decide (jP l.length l 1 = some l.length)
def mJ (l : List S29) : Int × Int :=
 if 2000 < l.length then (3, 0) else if wo l = false then (2, 0) else if 60 < uu l [] 0 then (3, 0) else if (ax l 0).f0 ≠ 1 then (4, 0) else Ji l l.length 0
/-- Names and texts are short. -/
def short (l : List S29) : Prop := ∀ x ∈ l, x.f2.size ≤ 3000 ∧ x.f4.size ≤ 3000
theorem Ac {l : List S29} (h : short l) (i : Nat) (hi : i < l.length) : (ax l (i : Int)).f2.size ≤ 3000 ∧ (ax l (i : Int)).f4.size ≤ 3000 := by
 rw [tJ l i hi]
 exact h _ (List.getElem_mem hi)
theorem H6 (l : List S29) (hl : l.length ≤ 100000) (hs : short l) (i : Nat) (hi : i < l.length) (ks : List Int) (hks : ks.length ≤ 100000) (hk : ∀ q ∈ ks, 0 ≤ q ∧ q < (l.length : Int)) (v : Int × Int)
 (hnext : af (fun k => dE.l0 k l l (l.length : Int) ((i + 1 : Nat) : Int)) v) : ∀ (m idx : Nat) (acc : List Int), ks.length = m + idx → acc.length = idx →
 af (fun k => dE.l1 k l (i : Int) acc l (l.length : Int) (i : Int) ks (ks.length : Int) (idx : Int) (ax l (i : Int)).f0 (ax l (i : Int)).f1 (ax l (i : Int)).f2 (ax l (i : Int)).f3 (ax l (i : Int)).f4)
  (if lD (ax l (i : Int)) && jh (ax l (i : Int)).f0 (acc ++ (ks.drop idx).map fun p => (ax l p).f0) then v else (4, (i : Int))) := by
 obtain ⟨h2, h4⟩ := Ac hs i hi
 intro m
 induction m with
 | zero =>
  intro idx acc h1 ha
  refine af.step (fun k => by rw [dE.l1]) ?_
  refine af.neg (by omega) ?_
  rw [List.drop_eq_nil_of_le (by omega), List.map_nil, List.append_nil]
  refine af.bind (Gz _ h2 h4) ?_
  cases lD (ax l (i : Int)) with
  | false => exact af.neg (by simp) af.now
  | true =>
   refine af.pos rfl (af.bind (KH _ acc (by omega)) ?_)
   rw [Bool.true_and]
   cases jh (ax l (i : Int)).f0 acc with
   | false => exact af.neg (by simp) af.now
   | true =>
    refine af.pos rfl ?_
    rw [inc i (by omega)]
    exact hnext
 | succ m ih =>
  intro idx acc h1 ha
  have hx : idx < ks.length := by omega
  have hrd : rd ks (idx : Int) = ks[idx] := by simp [rd, List.getD_eq_getElem?_getD, List.getElem?_eq_getElem hx]
  have hq := hk _ (List.getElem_mem hx)
  refine af.step (fun k => by rw [dE.l1]) ?_
  refine af.pos (by omega) (af.pos (by omega) (af.pos (by omega) ?_))
  rw [hrd, inc idx (by omega)]
  refine af.pos hq.1 (af.pos hq.2 (af.pos (by omega) ?_))
  have := ih (idx + 1) (acc ++ [(ax l ks[idx]).f0]) (by omega) (by simp [ha])
  rw [List.append_assoc] at this
  rw [List.drop_eq_getElem_cons hx, List.map_cons]
  exact this
theorem H7 (l : List S29) (hl : l.length ≤ 100000) (hs : short l) (hw : jP l.length l 1 = some l.length) : ∀ (m i : Nat), l.length = m + i → af (fun k => dE.l0 k l l (l.length : Int) (i : Int)) (Ji l m i) := by
 intro m
 induction m with
 | zero =>
  intro i h1
  refine af.step (fun k => by rw [dE.l0]) ?_
  exact af.neg (by omega) af.now
 | succ m ih =>
  intro i h1
  have hi : i < l.length := by omega
  obtain ⟨hK, hK1, hK2⟩ := xP hl hw i hi
  refine af.step (fun k => by rw [dE.l0]) ?_
  refine af.pos (by omega) (af.pos (by omega) (af.pos (by omega) (af.bind hK ?_)))
  have := H6 l hl hs i hi _ hK1 (fun q hq => by have := hK2 q hq; omega) _ (ih (i + 1) (by omega)) _ 0 [] rfl rfl
  rw [List.drop_zero, List.nil_append] at this
  exact this
theorem qV {l : List S29} : kC l 0 = (l.length : Int) ∧ l ≠ [] ↔ jP l.length l 1 = some l.length := by
 unfold kC
 rw [if_neg (by omega), Int.toNat_zero, List.drop_zero]
 cases h : jP l.length l 1 with
 | none =>
  simp only [qc]; constructor; · intro h; omega
  intro h; cases h
 | some m =>
  have := zx _ _ _ _ h
  simp only [qc, Option.some.injEq]
  constructor
  ·intro h; omega
  intro h; exact ⟨by omega, by rintro rfl; simp at this; omega⟩
theorem Ju (l : List S29) (hl : l.length ≤ 100000) (hs : short l) : af (fun k => dE.f k l) (mJ l) := by
 unfold dE.f mJ
 by_cases c : 2000 < l.length
 ·rw [if_pos c]; exact af.pos (by omega) af.now
 rw [if_neg c]
 refine af.neg (by omega) ?_
 by_cases c1 : l = []
 ·subst c1
  refine af.pos rfl (af.step (fun k => by rw [dE.j0]) (af.pos rfl ?_))
  exact af.now
 have hlen : l.length ≠ 0 := fun h => c1 (List.eq_nil_of_length_eq_zero h)
 refine af.neg (by omega) (af.bind (yQ l hl 0) ?_)
 by_cases hw : jP l.length l 1 = some l.length
 ·rw [show wo l = true from decide_eq_true hw, if_neg (by simp)]
  refine af.step (fun k => by rw [dE.j0]) ?_
  refine af.neg (by rw [(qV.2 hw).1]; simp) ?_
  have hwb : oq l l.length = true := yc l l.length (Nat.le_refl _) (fun q hq => by
   obtain ⟨m', _, e⟩ := vS _ _ _ _ q hw (Nat.le_refl 1) hq
   rw [e]; rfl)
  have hd := Jt l hl
  rw [hwb, if_pos rfl] at hd
  refine af.bind hd ?_
  by_cases c2 : 60 < uu l [] 0
  ·rw [if_pos c2]; exact af.pos (by omega) af.now
  rw [if_neg c2]
  refine af.neg (by omega) (af.pos (by omega) ?_)
  by_cases c3 : (ax l 0).f0 = 1
  ·rw [if_neg (fun q => q c3)]
   exact af.pos c3 (H7 l hl hs hw l.length 0 (by omega))
  rw [if_pos c3]
  exact af.neg c3 af.now
 rw [show wo l = false from decide_eq_false hw, if_pos rfl]
 refine af.step (fun k => by rw [dE.j0]) ?_
 refine af.pos ?_ af.now
 rw [bne_iff_ne]
 intro e
 exact hw (qV.1 ⟨e, c1⟩)
end Go.Proofs.YtkbhkonenkgfoaaGreat.Tree
end
section
set_option linter.unusedVariables false
set_option linter.unusedSimpArgs false
namespace Go.Proofs.YtkbhkonenkgfoaaGreat.Par
open Go Go.RowKit Go.Proofs.YtkbhkonenkgfoaaGreatW.PrintWords Go.Proofs.YtkbhkonenkgfoaaGreat.Q Go.Proofs.YtkbhkonenkgfoaaGreat.Lex Go.Proofs.YtkbhkonenkgfoaaGreat.Tree
/-- Where the reader stopped. -/
def plS (ts r : List S37) : Int := match r with
 | t :: _ => t.f3
 | [] => match ts.getLast? with
  | some t => t.f3 + 1
  | none => 0
def Jk (ts : List S37) : R (List S29) → List S29 × Int × Int
 | .ok (x, []) => if (mJ x).1 = 0 then (x, 0, 0) else ([], (mJ x).1, 0)
 | .ok (_, t :: r) => ([], 10, plS ts (t :: r))
 | .error (some r) => ([], 10, plS ts r)
 | .error none => ([], 10, 0)
def small (ts : List S37) : Prop := ∀ t ∈ ts, -9223372036854775808 ≤ t.f3 ∧ t.f3 ≤ 4611686018427387904
theorem zi (ts : List S37) (hp : small ts) (hl : ts.length ≤ 40000) (p : Nat) (b : Bool) : gZ.f ts (p : Int) b = some (plS ts (ts.drop p), (p : Int), b) := by
 have key : ∀ i (hi : i < ts.length), fF ts (i : Int) = ts[i] := by
  intro i hi
  obtain ⟨_, h2, _⟩ := mr ts i _ _ (List.drop_eq_getElem_cons hi)
  exact h2
 unfold gZ.f plS
 by_cases c : p < ts.length
 ·rw [if_pos (by omega), if_pos (by omega), key p c, List.drop_eq_getElem_cons c]
 rw [if_neg (by omega), List.drop_eq_nil_of_le (by omega)]
 by_cases d : 0 < ts.length
 ·have e : wrap64 ((ts.length : Int) - 1) = ((ts.length - 1 : Nat) : Int) := by rw [Tree.w64 (by omega) (by omega)]; omega
  have h := hp _ (List.getElem_mem (show ts.length - 1 < ts.length by omega))
  rw [if_pos (by omega), e, if_pos (by omega), if_pos (by omega), key _ (by omega), Tree.w64 (by omega) (by omega), List.getLast?_eq_getElem?, List.getElem?_eq_getElem (by omega)]
 rw [if_neg (by omega), List.length_eq_zero_iff.1 (by omega : ts.length = 0)]; rfl
theorem JK (ts : List S37) (hts : ts.length ≤ 40000) (hp : small ts) (n : Nat) (hn : Fn KN ts.length (kS (oZ n) n ts)) : af (fun k => jH.f k ts) (Jk ts (kS (oZ n) n ts)) := by
 have hT := Gm hts (LJ n) tY n
 match hr : kS (oZ n) n ts, hn, hT with
 | .ok (x, r), ⟨_, _, h3⟩, ⟨p, _, hp2, hd, hs, hE⟩ =>
  unfold sz at hs
  unfold jH.f
  by_cases c : p < ts.length
  ·have h1 := zi ts hp hts p false
   cases r with
   | nil => rw [List.drop_eq_nil_iff] at hd; omega
   | cons t u =>
    refine af.bind hE (af.neg (by simp) (af.pos (show (p : Int) < (ts.length : Int) by omega) ?_))
    dsimp only
    rw [h1, hd]
    exact af.now
  rw [List.drop_eq_nil_of_le (by omega)] at hd
  subst hd
  have hC := Ju x (by omega) (fun y hy => (h3.1.2 y hy).1)
  show af _ (if (mJ x).1 = 0 then (x, 0, 0) else ([], (mJ x).1, 0))
  by_cases d : (mJ x).1 = 0
  ·rw [if_pos d]
   exact af.bind hE (af.neg (by simp) (af.neg (show ¬ (p : Int) < (ts.length : Int) by omega) (af.bind hC (af.pos d af.now))))
  rw [if_neg d]
  exact af.bind hE (af.neg (by simp) (af.neg (show ¬ (p : Int) < (ts.length : Int) by omega) (af.bind hC (af.neg d af.now))))
 | .error (some r), _, ⟨x, p, _, _, hd, _, hE⟩ =>
  have h1 := zi ts hp hts p true
  unfold jH.f
  refine af.bind hE (af.pos rfl ?_)
  dsimp only
  rw [h1, hd]
  exact af.now
/-- Rounds enough for all tokens of such a number. -/
theorem rounds (m : Nat) : ∃ n0, ∀ n, n0 ≤ n → Tot (oZ n) m ∧ ∀ l : List S37, l.length ≤ m → TB l → Fn KN l.length (kS (oZ n) n l) := by
 obtain ⟨n0, h0⟩ := tot m
 exact ⟨n0 + m, fun n hn => ⟨h0 n (by omega), fun l hl h => Gn (h0 n (by omega)) n l hl (by omega) h⟩⟩
end Go.Proofs.YtkbhkonenkgfoaaGreat.Par
end
