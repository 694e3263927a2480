/- Walks over functions of the program, words for them, and what the functions come to; of each text only what this claim uses; no condition. -/
import Derived.Test.YtendgafpkeadhaaZRO0
import Derived.Test.YtendgafpkeadhaaZRO4
import Derived.Test.YtendgafpkeadhaaZRO17
import Derived.Test.YtendgafpkeadhaaZRO18
import Derived.IntWalk
import Derived.Laws.Shifts
section
set_option linter.unusedVariables false
set_option linter.unusedSimpArgs false
namespace Go.Proofs.Ytendgafpkeadhaa.Par
open Go Go.RowKit Go.Proofs.YtendgafpkeadhaaW.PrintWords Go.Proofs.Ytendgafpkeadhaa.Q Go.Proofs.Ytendgafpkeadhaa.Lex Go.Proofs.Ytendgafpkeadhaa.Tree
variable {ts : List S38} {S : PF} {FF : Nat → Fam}
/-- What a list of lists weighs. -/
def szK (ks : List (List S41)) : Nat := ks.flatten.length + ks.length + 2
theorem mf (l : List (List S41)) (e : List S41) : (l ++ [e]).length = l.length + 1 := by simp
theorem GI (hts : ts.length ≤ 40000) (q0 : Nat) : ∀ (n : Nat) (FF : Nat → Fam) (I : Ih S FF) (H : OkB FF) (acc : List (List S41)) (q : Nat), q0 ≤ q → q ≤ ts.length → acc.flatten.length + acc.length + 2 ≤ 2 * (q - q0) →
 az ts q0 2 sz (fun k => aX.l0 (FF k) k acc ts (q : Int) false) (jl S n acc (ts.drop q)) := by
 intro n
 induction n with
 | zero => intro FF I H acc q h0 hq hs; trivial
 | succ n ih =>
  intro FF I H acc q h0 hq hs
  unfold jl
  refine az.step (fun k => by rw [aX.l0]) ?_
  refine az.neg (by simp) ?_
  rw [kG]
  simp only [Option.bind_some]
  refine az.ite (fun c => ?_) (fun c => ?_)
  ·refine az.must ⟨#[125]⟩ [125] (gy _ _ rfl) (by simp) hq hts h0 (fun h4 => ?_) ?_
   ·dsimp only
    refine az.evB (tK 5 E 0 E 0 acc (by omega) (by omega)) ?_
    exact az.done _ (by omega) h4 (by unfold sz; rw [nd_len]; omega) EvTo.now
   dsimp only
   exact ⟨nd 5 E 0 E acc, by unfold sz; rw [nd_len]; omega, gz (by omega) (by omega) EvTo.now⟩
  refine az.bind (Ig hts I.shift H.shift q hq) (fun s p h1 h2 h3 => ?_) (fun s p h1 h2 h3 => ?_)
  ·unfold sz at h3
   dsimp only
   refine az.pos (by omega) ?_
   exact ih (fun k => FF (k + 1)) I.shift H.shift (acc ++ [s]) p (by omega) h2 Z79
  unfold sz at h3
  dsimp only
  refine ⟨nd 5 E 0 E (acc ++ [s]), by omega, by unfold sz; rw [nd_len, iH]; omega, EvTo.pos (by omega) ?_⟩
  refine EvTo.step (fun k => by rw [aX.l0]) ?_
  refine EvTo.pos rfl ?_
  rw [gY _ [125] rfl (by simp)]
  exact gz (by rw [mf]; omega) (by rw [iH]; omega) EvTo.now
theorem Bq (hts : ts.length ≤ 40000) (I : Ih S FF) (H : OkB FF) (N : Nat) (q : Nat) (hq : q ≤ ts.length) :
 az ts q 2 sz (fun k => aX.f (FF k) k ts (q : Int) false) (lD S N (ts.drop q)) := by
 unfold aX.f lD
 refine az.must ⟨#[123]⟩ [123] (gy _ _ rfl) (by simp) hq hts (by omega) (fun h4 => ?_) ?_
 ·dsimp only
  exact GI hts q N FF I H [] (q + 1) (by omega) h4 Z48
 dsimp only
 refine ⟨nd 5 E 0 E [], by unfold sz; rw [mW]; omega, ?_⟩
 refine EvTo.step (fun k => by rw [aX.l0]) ?_
 refine EvTo.pos rfl ?_
 rw [gY _ [125] rfl (by simp)]
 exact gz (by simp) (by simp) EvTo.now
theorem Az (hts : ts.length ≤ 40000) (q : Nat) (hq : q ≤ ts.length) : az ts q 2 sz (fun k => cu.f k ts (q : Int) false) (lY (ts.drop q)) := by
 unfold cu.f lY
 refine az.need 1 hq hts (by omega) (fun t h2 _ => ?_) ?_
 ·dsimp only
  exact az.node (by omega) h2 hts (by simp) Z48
 dsimp only
 exact az.vz (by simp) Z48 (by omega) (by omega)
theorem AU (acc : List (List S41)) (q : Int) : EvTo (fun k => dU.l0 (FF k) k acc ts q true) (acc, q, true) := by
 refine EvTo.step (fun k => by rw [dU.l0]) ?_
 refine EvTo.pos rfl ?_
 refine EvTo.step (fun k => by rw [dU.j1]) ?_
 refine EvTo.neg (by simp) ?_
 rw [gY _ [41] rfl (by simp)]
 exact EvTo.now
theorem Gs (hts : ts.length ≤ 40000) (q0 : Nat) : ∀ (n : Nat) (FF : Nat → Fam) (I : Ih S FF) (H : OkB FF) (acc : List (List S41)) (q : Nat), q0 ≤ q → q ≤ ts.length → acc.flatten.length + acc.length + 2 ≤ 2 * (q - q0) →
 az ts q0 2 szK (fun k => dU.l0 (FF k) k acc ts (q : Int) false) (jZ S.expr n acc (ts.drop q)) := by
 intro n
 induction n with
 | zero => intro FF I H acc q h0 hq hs; trivial
 | succ n ih =>
  intro FF I H acc q h0 hq hs
  unfold jZ
  refine az.step (fun k => by rw [dU.l0]) ?_
  refine az.neg (by simp) ?_
  rw [kG]
  simp only [Option.bind_some]
  refine az.step (fun k => by rw [dU.j1]) ?_
  have more : ∀ (x : List S41) (p : Nat), q ≤ p → p ≤ ts.length → sz x ≤ 2 * (p - q) → az ts q0 2 szK (fun k => if acc.length < 5864062014805 then dU.l0 (FF (k + 2)) k (acc ++ [x]) ts (p : Int) false else none) (jZ S.expr n (acc ++ [x]) (ts.drop p)) := by
   intro x p g1 g2 g3
   unfold sz at g3
   refine az.pos (by omega) ?_
   exact ih (fun k => FF (k + 2)) I.shift.shift H.shift.shift (acc ++ [x]) p (by omega) g2 Z79
  have moreB : ∀ (x : List S41) (p : Nat), q ≤ p → p ≤ ts.length → sz x ≤ 2 * (p - q) + 2 → ∃ y : List (List S41), q0 ≤ p ∧ szK y ≤ 2 * (p - q0) + 2 ∧ EvTo (fun k => if acc.length < 5864062014805 then dU.l0 (FF (k + 2)) k (acc ++ [x]) ts (p : Int) true else none) (y, (p : Int), true) := by
   intro x p g1 g2 g3
   unfold sz at g3
   exact ⟨acc ++ [x], by omega, by unfold szK; rw [iH, mf]; omega, EvTo.pos (by omega) (AU (FF := fun k => FF (k + 2)) (acc ++ [x]) _)⟩
  by_cases c : wd (ts.drop q) = [41]
  ·rw [if_pos c]
   refine az.neg (by rw [Eh]; exact fun h => of_decide_eq_true h c) ?_
   refine az.must ⟨#[41]⟩ [41] (gy _ _ rfl) (by simp) hq hts h0 (fun h4 => ?_) ?_
   ·dsimp only
    exact az.done _ (by omega) h4 (by unfold szK; omega) EvTo.now
   dsimp only
   exact ⟨acc, by unfold szK; omega, EvTo.now⟩
  rw [if_neg c]
  refine az.pos (by rw [Eh]; exact decide_eq_true c) ?_
  by_cases d : acc = []
  ·rw [if_pos d]
   refine az.neg (by subst d; simp) ?_
   refine az.bind (I.shift.shift.expr ts q hts hq) (fun x p h1 h2 h3 => ?_) (fun x p h1 h2 h3 => ?_)
   ·exact more x p h1 h2 h3
   exact moreB x p h1 h2 h3
  rw [if_neg d]
  refine az.pos (by have := List.length_pos_iff.2 d; omega) ?_
  refine az.must ⟨#[44]⟩ [44] (gy _ _ rfl) (by simp) hq hts h0 (fun h4 => ?_) ?_
  ·dsimp only
   refine az.bind (I.shift.shift.expr ts (q + 1) hts h4) (fun x p h1 h2 h3 => ?_) (fun x p h1 h2 h3 => ?_)
   ·exact more x p (by omega) h2 (by omega)
   exact moreB x p (by omega) h2 (by omega)
  dsimp only
  obtain ⟨y, g1, g2, g3⟩ := moreB [] q (Nat.le_refl _) hq (by unfold sz; simp [nd])
  exact ⟨y, g2, EvTo.bind (H.shift.shift.expr ts _) g3⟩
theorem AV (hts : ts.length ≤ 40000) (I : Ih S FF) (H : OkB FF) (N : Nat) (q : Nat) (hq : q ≤ ts.length) :
 az ts q 2 szK (fun k => dU.f (FF k) k ts (q : Int) false) (dK S.expr N (ts.drop q)) := by
 unfold dU.f Par.dK
 refine az.must ⟨#[40]⟩ [40] (gy _ _ rfl) (by simp) hq hts (by omega) (fun h4 => ?_) ?_
 ·dsimp only
  exact Gs hts q N FF I H [] (q + 1) (by omega) h4 Z48
 dsimp only
 exact ⟨[], by unfold szK; simp only [List.flatten_nil, List.length_nil]; omega, AU (FF := FF) [] _⟩
theorem AQ (acc : List (List S41)) (q : Int) : EvTo (fun k => Q.dK.l0 k acc ts q true) (acc, q, true) := by
 refine EvTo.step (fun k => by rw [Q.dK.l0]) ?_
 refine EvTo.pos rfl ?_
 refine EvTo.step (fun k => by rw [Q.dK.j1]) ?_
 refine EvTo.neg (by simp) ?_
 rw [gY _ [41] rfl (by simp)]
 exact EvTo.now
theorem Gn (hts : ts.length ≤ 40000) (q0 : Nat) : ∀ (n : Nat) (FF : Nat → Fam) (I : Ih S FF) (H : OkB FF) (acc : List (List S41)) (q : Nat), q0 ≤ q → q ≤ ts.length → acc.flatten.length + acc.length + 2 ≤ 2 * (q - q0) →
 az ts q0 2 szK (fun k => Q.dK.l0 k acc ts (q : Int) false) (jZ lY n acc (ts.drop q)) := by
 intro n
 induction n with
 | zero => intro FF I H acc q h0 hq hs; trivial
 | succ n ih =>
  intro FF I H acc q h0 hq hs
  unfold jZ
  refine az.step (fun k => by rw [Q.dK.l0]) ?_
  refine az.neg (by simp) ?_
  rw [kG]
  simp only [Option.bind_some]
  refine az.step (fun k => by rw [Q.dK.j1]) ?_
  have more : ∀ (x : List S41) (p : Nat), q ≤ p → p ≤ ts.length → sz x ≤ 2 * (p - q) → az ts q0 2 szK (fun k => if acc.length < 5864062014805 then Q.dK.l0 k (acc ++ [x]) ts (p : Int) false else none) (jZ lY n (acc ++ [x]) (ts.drop p)) := by
   intro x p g1 g2 g3
   unfold sz at g3
   refine az.pos (by omega) ?_
   exact ih (fun k => FF (k + 2)) I.shift.shift H.shift.shift (acc ++ [x]) p (by omega) g2 Z79
  have moreB : ∀ (x : List S41) (p : Nat), q ≤ p → p ≤ ts.length → sz x ≤ 2 * (p - q) + 2 → ∃ y : List (List S41), q0 ≤ p ∧ szK y ≤ 2 * (p - q0) + 2 ∧ EvTo (fun k => if acc.length < 5864062014805 then Q.dK.l0 k (acc ++ [x]) ts (p : Int) true else none) (y, (p : Int), true) := by
   intro x p g1 g2 g3
   unfold sz at g3
   exact ⟨acc ++ [x], by omega, by unfold szK; rw [iH, mf]; omega, EvTo.pos (by omega) (AQ (acc ++ [x]) _)⟩
  by_cases c : wd (ts.drop q) = [41]
  ·rw [if_pos c]
   refine az.neg (by rw [Eh]; exact fun h => of_decide_eq_true h c) ?_
   refine az.must ⟨#[41]⟩ [41] (gy _ _ rfl) (by simp) hq hts h0 (fun h4 => ?_) ?_
   ·dsimp only
    exact az.done _ (by omega) h4 (by unfold szK; omega) EvTo.now
   dsimp only
   exact ⟨acc, by unfold szK; omega, EvTo.now⟩
  rw [if_neg c]
  refine az.pos (by rw [Eh]; exact decide_eq_true c) ?_
  by_cases d : acc = []
  ·rw [if_pos d]
   refine az.neg (by subst d; simp) ?_
   refine az.bind (Az hts q hq) (fun x p h1 h2 h3 => ?_) (fun x p h1 h2 h3 => ?_)
   ·exact more x p h1 h2 h3
   exact moreB x p h1 h2 h3
  rw [if_neg d]
  refine az.pos (by have := List.length_pos_iff.2 d; omega) ?_
  refine az.must ⟨#[44]⟩ [44] (gy _ _ rfl) (by simp) hq hts h0 (fun h4 => ?_) ?_
  ·dsimp only
   refine az.bind (Az hts (q + 1) h4) (fun x p h1 h2 h3 => ?_) (fun x p h1 h2 h3 => ?_)
   ·exact more x p (by omega) h2 (by omega)
   exact moreB x p (by omega) h2 (by omega)
  dsimp only
  obtain ⟨y, g1, g2, g3⟩ := moreB (nd 4 E 0 E []) q (Nat.le_refl _) hq (by unfold sz; simp [nd])
  exact ⟨y, g2, EvTo.bind (BU) g3⟩
theorem Gp (hts : ts.length ≤ 40000) (I : Ih S FF) (H : OkB FF) (N : Nat) (q : Nat) (hq : q ≤ ts.length) :
 az ts q 2 szK (fun k => Q.dK.f k ts (q : Int) false) (dK lY N (ts.drop q)) := by
 unfold Q.dK.f Par.dK
 refine az.must ⟨#[40]⟩ [40] (gy _ _ rfl) (by simp) hq hts (by omega) (fun h4 => ?_) ?_
 ·dsimp only
  exact Gn hts q N FF I H [] (q + 1) (by omega) h4 Z48
 dsimp only
 exact ⟨[], by unfold szK; simp only [List.flatten_nil, List.length_nil]; omega, AQ [] _⟩
theorem ug (hts : ts.length ≤ 40000) (I : Ih S FF) (H : OkB FF) (N : Nat) (k0 : Int) (nm : ByteArray) (q : Nat) (hq : q ≤ ts.length) :
 az ts q 3 sz (fun k => bf.f (FF k) k ts (q : Int) false k0 0 nm 0 E) (ig S N k0 nm (ts.drop q)) := by
 unfold bf.f ig
 refine az.bind (Gp hts I H N q hq) (fun ps p h1 h2 h3 => ?_) (fun ps p h1 h2 h3 => ?_)
 ·unfold szK at h3
  dsimp only
  refine az.bind (Bq hts I H N p h2) (fun b p2 g1 g2 g3 => ?_) (fun b p2 g1 g2 g3 => ?_)
  ·unfold sz at g3
   dsimp only
   refine az.pos (by omega) ?_
   exact az.node (by omega) g2 hts (by rw [mf]; omega) (by rw [iH]; omega)
  unfold sz at g3
  dsimp only
  exact ⟨nd k0 nm 0 E (ps ++ [b]), by omega, by unfold sz; rw [nd_len, iH]; omega, EvTo.pos (by omega) (gz (by rw [mf]; omega) (by rw [iH]; omega) EvTo.now)⟩
 unfold szK at h3
 dsimp only
 exact ⟨nd k0 nm 0 E (ps ++ [nd 5 E 0 E []]), by omega, by unfold sz; rw [nd_len, iH, mW]; omega, EvTo.bind qR (EvTo.pos (by omega) (gz (by rw [mf]; omega) (by rw [iH, mW]; omega) EvTo.now))⟩
end Go.Proofs.Ytendgafpkeadhaa.Par
end
section
set_option linter.unusedVariables false
set_option linter.unusedSimpArgs false
namespace Go.Proofs.Ytendgafpkeadhaa.Par
open Go Go.RowKit Go.Proofs.YtendgafpkeadhaaW.PrintWords Go.Proofs.Ytendgafpkeadhaa.Q Go.Proofs.Ytendgafpkeadhaa.Lex Go.Proofs.Ytendgafpkeadhaa.Tree
variable {ts : List S38} {S : PF} {FF : Nat → Fam}
theorem IQ (hts : ts.length ≤ 40000) (I : Ih S FF) (H : OkB FF) (N : Nat) (q : Nat) (hq : q ≤ ts.length) :
 az ts q 2 sz (fun k => dC.f (FF k) k ts (q : Int) false) (lT S N (ts.drop q)) := by
 unfold dC.f
 cases e : ts.drop q with
 | nil =>
  rw [tN ts q e]
  unfold lT
  refine ⟨[], q, Nat.le_refl _, hq, e, by unfold sz; simp only [List.length_nil]; omega, EvTo.now⟩
 | cons t r =>
  obtain ⟨hq1, _, hr⟩ := rd_tok ts q t r e
  rw [qM ts q t r e]
  simp only [Option.bind_some]
  refine az.pos (by trivial) ?_
  unfold lT
  refine az.ite (fun c => ?_) (fun c => ?_)
  ·rw [inc q (by omega), ← hr]
   exact az.node (p := q + 1) (nm := E) (n := t.f2) (tx := E) (kids := []) (by omega) hq1 hts (by simp) Z48
  refine az.ite (fun c => ?_) (fun c => ?_)
  ·rw [inc q (by omega), ← hr]
   exact az.node (p := q + 1) (nm := E) (n := 0) (tx := t.f1) (kids := []) (by omega) hq1 hts (by simp) Z48
  rw [← e]
  unfold ru
  refine az.need 1 hq hts (by omega) (fun t1 h2 _ => ?_) ?_
  ·dsimp only
   refine az.wz _ _ (gy _ _ rfl) (by simp) h2 hts (fun h3 => ?_) (fun hn => ?_)
   ·refine az.pos rfl ?_
    dsimp only
    refine az.need 1 h3 hts (by omega) (fun t2 h4 _ => ?_) ?_
    ·dsimp only
     refine az.bind (AV hts I H N _ h4) (fun ks p g1 g2 g3 => ?_) (fun ks p g1 g2 g3 => ?_)
     ·unfold szK at g3
      dsimp only
      exact az.node (by omega) g2 hts (by omega) (by omega)
     unfold szK at g3
     dsimp only
     exact ⟨nd 23 t1.f1 0 t2.f1 ks, by omega, by unfold sz; rw [nd_len]; omega, gz (by omega) (by omega) EvTo.now⟩
    dsimp only
    exact ⟨nd 23 t1.f1 0 E [], by unfold sz; rw [nd_len]; simp only [List.flatten_nil, List.length_nil]; omega, EvTo.bind C9 (gz (by simp) (by simp) EvTo.now)⟩
   refine az.neg (by simp) ?_
   exact az.node (by omega) h2 hts (by simp) Z48
  dsimp only
  rw [takeB _ [46] rfl (by simp)]
  simp only [Option.bind_some]
  exact ⟨nd 21 E 0 E [], by unfold sz; rw [nd_len]; simp only [List.flatten_nil, List.length_nil]; omega, EvTo.neg (by simp) (gz (by simp) (by simp) EvTo.now)⟩
theorem I5 (hts : ts.length ≤ 40000) (I : Ih S FF) (H : OkB FF) (N : Nat) (q : Nat) (hq : q ≤ ts.length) :
 az ts q 2 sz (fun k => dh.f (FF k) k ts (q : Int) false) (mD S N (ts.drop q)) := by
 refine az.congr (fun k => by unfold dh.f; rw [kG]) ?_
 unfold mD
 simp only [Option.bind_some]
 refine az.ite (fun hw => az.tkw _ hw (by simp) hts (fun h1 => ?_)) (fun _ => ?_)
 ·exact az.node (by omega) h1 hts (by simp) Z48
 refine az.ite (fun hw => az.tkw _ hw (by simp) hts (fun h1 => ?_)) (fun _ => ?_)
 ·exact az.node (by omega) h1 hts (by simp) Z48
 refine az.ite (fun hw => az.tkw _ hw (by simp) hts (fun h1 => ?_)) (fun _ => ?_)
 ·dsimp only
  refine az.must ⟨#[125]⟩ [125] (gy _ _ rfl) (by simp) h1 hts (by omega) (fun h4 => ?_) ?_
  ·dsimp only
   exact az.node (by omega) h4 hts (by simp) Z48
  dsimp only
  exact az.vz (by simp) Z48 (by omega) (by omega)
 refine az.ite (fun hw => az.tkw _ hw (by simp) hts (fun h1 => ?_)) (fun _ => ?_)
 ·exact az.idb (az.from' (ug hts I H N 24 E (q + 1) h1) (by omega) (by omega))
 refine az.ite (fun hw => az.tkw _ hw (by simp) hts (fun h1 => ?_)) (fun _ => ?_)
 ·dsimp only
  refine az.bind (I.expr ts (q + 1) hts h1) (fun e p g1 g2 g3 => ?_) (fun e p g1 g2 g3 => ?_)
  ·dsimp only
   refine az.must ⟨#[41]⟩ [41] (gy _ _ rfl) (by simp) g2 hts (by omega) (fun h4 => ?_) ?_
   ·dsimp only
    exact az.done _ (by omega) h4 (by omega) EvTo.now
   dsimp only
   exact ⟨e, by omega, EvTo.now⟩
  dsimp only
  rw [gY _ [41] rfl (by simp)]
  exact ⟨e, by omega, by omega, EvTo.now⟩
 exact az.idb (IQ hts I H N q hq)
theorem IA (hts : ts.length ≤ 40000) (q0 N : Nat) : ∀ (n : Nat) (FF : Nat → Fam) (I : Ih S FF) (H : OkB FF) (e : List S41) (q : Nat), q0 ≤ q → q ≤ ts.length → sz e ≤ 2 * (q - q0) →
 az ts q0 2 sz (fun k => aH.l0 (FF k) k e ts (q : Int) false) (jR S N n e (ts.drop q)) := by
 intro n
 induction n with
 | zero => intro FF I H e q h0 hq hs; trivial
 | succ n ih =>
  intro FF I H e q h0 hq hs
  have hs' := hs
  unfold sz at hs'
  unfold jR
  refine az.step (fun k => by rw [aH.l0]) ?_
  refine az.neg (by simp) ?_
  rw [kG]
  simp only [Option.bind_some]
  refine az.ite (fun c => ?_) (fun c => ?_)
  ·refine az.bind (AV hts I.shift H.shift N q hq) (fun ks p g1 g2 g3 => ?_) (fun ks p g1 g2 g3 => ?_)
   ·unfold szK at g3
    dsimp only
    have hf : ([e] ++ ks).flatten.length = e.length + ks.flatten.length := by simp
    have hg : ([e] ++ ks).length = 1 + ks.length := by simp; omega
    refine az.pos (by simp only [List.length_cons, List.length_nil]; omega) ?_
    refine az.evB (tK 22 E 0 E 0 ([e] ++ ks) (by omega) (by omega)) ?_
    exact ih (fun k => FF (k + 1)) I.shift H.shift _ p (by omega) g2 (by unfold sz; rw [nd_len]; omega)
   unfold szK at g3
   dsimp only
   have hf : ([e] ++ ks).flatten.length = e.length + ks.flatten.length := by simp
   have hg : ([e] ++ ks).length = 1 + ks.length := by simp; omega
   exact ⟨nd 22 E 0 E ([e] ++ ks), by omega, by unfold sz; rw [nd_len]; omega, EvTo.pos (by simp only [List.length_cons, List.length_nil]; omega) (gz (by omega) (by omega) (nI (FF := fun k => FF (k + 1)) _))⟩
  refine az.ite (fun c => ?_) (fun c => ?_)
  ·refine az.tk ⟨#[91]⟩ (by rw [gy _ [91] rfl]; simp) (by rw [gy _ [91] rfl]; exact c) hts (fun h1 => ?_)
   dsimp only
   refine az.bind (I.shift.expr ts (q + 1) hts h1) (fun i p g1 g2 g3 => ?_) (fun i p g1 g2 g3 => ?_)
   ·unfold sz at g3
    dsimp only
    refine az.evB (tK 26 E 0 E 0 [e, i] (by simp) (by rw [jS]; omega)) ?_
    refine az.must ⟨#[93]⟩ [93] (gy _ _ rfl) (by simp) g2 hts (by omega) (fun h4 => ?_) ?_
    ·dsimp only
     exact ih (fun k => FF (k + 1)) I.shift H.shift _ (p + 1) (by omega) h4 (by unfold sz; rw [nd_len, jS]; omega)
    dsimp only
    exact ⟨nd 26 E 0 E [e, i], by unfold sz; rw [nd_len, jS]; omega, nI (FF := fun k => FF (k + 1)) _⟩
   unfold sz at g3
   dsimp only
   refine ⟨nd 26 E 0 E [e, i], by omega, by unfold sz; rw [nd_len, jS]; omega, gz (by simp) (by rw [jS]; omega) ?_⟩
   rw [gY _ [93] rfl (by simp)]
   exact nI (FF := fun k => FF (k + 1)) _
  exact az.done e h0 hq hs EvTo.now
theorem sQ (hts : ts.length ≤ 40000) (I : Ih S FF) (H : OkB FF) (N : Nat) (q : Nat) (hq : q ≤ ts.length) (b : Bool) (hb : b = decide (wd (ts.drop q) = [45] ∨ wd (ts.drop q) = [110, 111, 116] ∨ wd (ts.drop q) = [108, 101, 110])) :
 az ts q 2 sz (fun k => aH.j0 (FF k) k (wB (ts.drop q)) (wB (ts.drop q)) b ts (q : Int) false) (jA S N (ts.drop q)) := by
 refine az.step (fun k => by rw [aH.j0]) ?_
 unfold jA
 by_cases c : wd (ts.drop q) = [45] ∨ wd (ts.drop q) = [110, 111, 116] ∨ wd (ts.drop q) = [108, 101, 110]
 ·rw [if_pos c]
  refine az.pos Z76 ?_
  refine az.tkw (wd (ts.drop q)) rfl (by rcases c with c | c | c <;> rw [c] <;> simp) hts (fun h1 => ?_)
  dsimp only
  refine az.bind (I.shift.unary ts (q + 1) hts h1) (fun e p g1 g2 g3 => ?_) (fun e p g1 g2 g3 => ?_)
  ·unfold sz at g3
   dsimp only
   exact az.node (by omega) g2 hts (by simp) (by rw [kR]; omega)
  unfold sz at g3
  dsimp only
  exact ⟨nd 28 E 0 (wB (ts.drop q)) [e], by omega, by unfold sz; rw [nd_len, kR]; omega, gz (by simp) (by rw [kR]; omega) EvTo.now⟩
 rw [if_neg c]
 refine az.neg Z78 ?_
 refine az.ite (fun c2 => az.tkw _ c2 (by simp) hts (fun h1 => ?_)) (fun c2 => ?_)
 ·dsimp only
  refine az.bind (I.shift.unary ts (q + 1) hts h1) (fun e p g1 g2 g3 => ?_) (fun e p g1 g2 g3 => ?_)
  ·unfold sz at g3
   dsimp only
   exact az.node (by omega) g2 hts (by simp) (by rw [kR]; omega)
  unfold sz at g3
  dsimp only
  exact ⟨nd 30 E 0 E [e], by omega, by unfold sz; rw [nd_len, kR]; omega, gz (by simp) (by rw [kR]; omega) EvTo.now⟩
 refine az.bind (I5 hts I.shift H.shift N q hq) (fun e p g1 g2 g3 => ?_) (fun e p g1 g2 g3 => ?_)
 ·dsimp only
  exact IA hts q N N (fun k => FF (k + 1)) I.shift H.shift e p (by omega) g2 g3
 dsimp only
 exact ⟨e, g1, g3, nI (FF := fun k => FF (k + 1)) e⟩
theorem Ad (hts : ts.length ≤ 40000) (I : Ih S FF) (H : OkB FF) (N : Nat) (q : Nat) (hq : q ≤ ts.length) :
 az ts q 2 sz (fun k => aH.f (FF k) k ts (q : Int) false) (jA S N (ts.drop q)) := by
 refine az.congr (fun k => by unfold aH.f; rw [kG]) ?_
 simp only [Option.bind_some]
 by_cases c1 : wd (ts.drop q) = [45]
 ·refine az.pos c1 (sQ hts I H N q hq _ ?_)
  rw [eqb]; exact decide_eq_decide.2 ⟨fun h => Or.inl h, fun h => c1⟩
 refine az.neg c1 ?_
 by_cases c2 : wd (ts.drop q) = [110, 111, 116]
 ·refine az.pos c2 (sQ hts I H N q hq _ ?_)
  rw [eqb]; exact decide_eq_decide.2 ⟨fun h => Or.inr (Or.inl h), fun h => c2⟩
 refine az.neg c2 (sQ hts I H N q hq _ ?_)
 rw [eqb]; exact decide_eq_decide.2 ⟨fun h => Or.inr (Or.inr h), fun h => h.elim (fun h => absurd h c1) (fun h => h.elim (fun h => absurd h c2) id)⟩
theorem three {p q r : Prop} [Decidable p] [Decidable q] [Decidable r] {α : Type} {F : Bool → Nat → Option α} {v : α} (h : ∀ b : Bool, b = decide (p ∨ q ∨ r) → EvTo (F b) v) :
 EvTo (fun k => if p then F (decide p) k else if q then F (decide q) k else F (decide r) k) v := by
 by_cases c1 : p
 ·exact EvTo.pos c1 (h _ (decide_eq_decide.2 ⟨fun x => Or.inl x, fun _ => c1⟩))
 refine EvTo.neg c1 ?_
 by_cases c2 : q
 ·exact EvTo.pos c2 (h _ (decide_eq_decide.2 ⟨fun x => Or.inr (Or.inl x), fun _ => c2⟩))
 exact EvTo.neg c2 (h _ (decide_eq_decide.2 ⟨fun x => Or.inr (Or.inr x), fun x => x.elim (fun y => absurd y c1) (fun y => y.elim (fun z => absurd z c2) id)⟩))
theorem Dq (w : ByteArray) (b : Bool) (hb : b = decide (w.toList = [43] ∨ w.toList = [45] ∨ w.toList = [46, 46])) :
 EvTo (fun k => bG.j1 k w b) (if w.toList = [43] ∨ w.toList = [45] ∨ w.toList = [46, 46] then (4 : Int) else if w.toList = [42] ∨ w.toList = [47] ∨ w.toList = [37] then 5 else 0) := by
 refine EvTo.step (fun k => by rw [bG.j1]) ?_
 by_cases c : w.toList = [43] ∨ w.toList = [45] ∨ w.toList = [46, 46]
 ·rw [if_pos c]
  exact EvTo.pos Z76 EvTo.now
 rw [if_neg c]
 refine EvTo.neg Z78 ?_
 by_cases d1 : w.toList = [42]
 ·rw [if_pos (Or.inl d1)]; exact EvTo.pos d1 EvTo.now
 refine EvTo.neg d1 ?_
 by_cases d2 : w.toList = [47]
 ·rw [if_pos (Or.inr (Or.inl d2))]; exact EvTo.pos d2 EvTo.now
 refine EvTo.neg d2 ?_
 by_cases d3 : w.toList = [37]
 ·rw [if_pos (Or.inr (Or.inr d3))]; exact EvTo.pos d3 EvTo.now
 have hn : ¬(w.toList = [42] ∨ w.toList = [47] ∨ w.toList = [37]) := fun h => h.elim d1 (fun h => h.elim d2 d3)
 rw [if_neg hn]
 exact EvTo.neg d3 EvTo.now
theorem pY (w : ByteArray) (b : Bool) (hb : b = decide (w.toList = [61, 61] ∨ w.toList = [33, 61] ∨ w.toList = [60] ∨ w.toList = [60, 61])) :
 EvTo (fun k => bG.j0 k w b) (if w.toList = [61, 61] ∨ w.toList = [33, 61] ∨ w.toList = [60] ∨ w.toList = [60, 61] then (3 : Int) else if w.toList = [43] ∨ w.toList = [45] ∨ w.toList = [46, 46] then 4 else if w.toList = [42] ∨ w.toList = [47] ∨ w.toList = [37] then 5 else 0) := by
 refine EvTo.step (fun k => by rw [bG.j0]) ?_
 by_cases c : w.toList = [61, 61] ∨ w.toList = [33, 61] ∨ w.toList = [60] ∨ w.toList = [60, 61]
 ·rw [if_pos c]
  exact EvTo.pos Z76 EvTo.now
 rw [if_neg c]
 refine EvTo.neg Z78 ?_
 simp only [eqb]
 exact three (F := fun b k => bG.j1 k w b) (fun b hb => Dq w b hb)
theorem F6 (w : ByteArray) : EvTo (fun k => bG.f k w) (jM w.toList) := by
 unfold bG.f jM
 by_cases c1 : w.toList = [111, 114]
 ·rw [if_pos c1]; exact EvTo.pos c1 EvTo.now
 rw [if_neg c1]
 refine EvTo.neg c1 ?_
 by_cases c2 : w.toList = [97, 110, 100]
 ·rw [if_pos c2]; exact EvTo.pos c2 EvTo.now
 rw [if_neg c2]
 refine EvTo.neg c2 ?_
 by_cases d1 : w.toList = [61, 61]
 ·exact EvTo.pos d1 (pY w _ (by rw [eqb]; exact decide_eq_decide.2 ⟨fun h => Or.inl h, fun _ => d1⟩))
 refine EvTo.neg d1 ?_
 by_cases d2 : w.toList = [33, 61]
 ·exact EvTo.pos d2 (pY w _ (by rw [eqb]; exact decide_eq_decide.2 ⟨fun h => Or.inr (Or.inl h), fun _ => d2⟩))
 refine EvTo.neg d2 ?_
 by_cases d3 : w.toList = [60]
 ·exact EvTo.pos d3 (pY w _ (by rw [eqb]; exact decide_eq_decide.2 ⟨fun h => Or.inr (Or.inr (Or.inl h)), fun _ => d3⟩))
 exact EvTo.neg d3 (pY w _ (by rw [eqb]; exact decide_eq_decide.2 ⟨fun h => Or.inr (Or.inr (Or.inr h)), fun h => h.elim (fun h => absurd h d1) (fun h => h.elim (fun h => absurd h d2) (fun h => h.elim (fun h => absurd h d3) id))⟩))
theorem Dp {l : List UInt8} {a : Int} (h : jM l = a) (ha : 1 ≤ a) : l ≠ [] := by
 intro e; subst e
 have : jM [] = 0 := rfl
 omega
theorem GG (hts : ts.length ≤ 40000) (q0 : Nat) (a : Int) (ha : 1 ≤ a) (ha5 : a ≤ 5) : ∀ (n : Nat) (FF : Nat → Fam) (I : Ih S FF) (H : OkB FF) (e : List S41) (q : Nat), q0 ≤ q → q ≤ ts.length → sz e ≤ 2 * (q - q0) →
 az ts q0 2 sz (fun k => aU.l0 (FF k) k a e ts (q : Int) false) (jg S a n e (ts.drop q)) := by
 intro n
 induction n with
 | zero => intro FF I H e q h0 hq hs; trivial
 | succ n ih =>
  intro FF I H e q h0 hq hs
  have hs' := hs
  unfold sz at hs'
  unfold jg
  refine az.step (fun k => by rw [aU.l0]) ?_
  refine az.neg (by simp) ?_
  rw [kG]
  simp only [Option.bind_some]
  refine az.evB (F6 (wB (ts.drop q))) ?_
  refine az.ite (fun c => az.tkw _ rfl (Dp c ha) hts (fun h1 => ?_)) (fun c => az.done e h0 hq hs EvTo.now)
  dsimp only
  rw [w64 (n := a + 1) (by omega) (by omega)]
  refine az.bind (I.shift.bound (a + 1) (by omega) (by omega) ts (q + 1) hts h1) (fun e2 p g1 g2 g3 => ?_) (fun e2 p g1 g2 g3 => ?_)
  ·unfold sz at g3
   dsimp only
   refine az.evB (tK 27 E 0 (wB (ts.drop q)) 0 [e, e2] (by simp) (by rw [jS]; omega)) ?_
   by_cases d : a = 3
   ·rw [if_pos d]
    refine az.pos d ?_
    exact az.done _ (by omega) g2 (by unfold sz; rw [nd_len, jS]; omega) EvTo.now
   rw [if_neg d]
   refine az.neg d ?_
   exact ih (fun k => FF (k + 1)) I.shift H.shift _ p (by omega) g2 (by unfold sz; rw [nd_len, jS]; omega)
  unfold sz at g3
  dsimp only
  refine ⟨nd 27 E 0 (wB (ts.drop q)) [e, e2], by omega, by unfold sz; rw [nd_len, jS]; omega, gz (by simp) (by rw [jS]; omega) ?_⟩
  by_cases d : a = 3
  ·exact EvTo.pos d EvTo.now
  exact EvTo.neg d (pX (FF := fun k => FF (k + 1)) a _)
theorem Bi (hts : ts.length ≤ 40000) (I : Ih S FF) (H : OkB FF) (N : Nat) (a : Int) (h1 : 1 ≤ a) (h2 : a ≤ 6) (q : Nat) (hq : q ≤ ts.length) :
 az ts q 2 sz (fun k => aU.f (FF k) k ts (q : Int) false a) (iO S N a (ts.drop q)) := by
 unfold aU.f iO
 by_cases c : a = 6
 ·rw [if_pos c]
  exact az.pos c (az.idb (Ad hts I H N q hq))
 rw [if_neg c]
 refine az.neg c ?_
 rw [w64 (n := a + 1) (by omega) (by omega)]
 refine az.bind (I.bound (a + 1) (by omega) (by omega) ts q hts hq) (fun e p g1 g2 g3 => ?_) (fun e p g1 g2 g3 => ?_)
 ·dsimp only
  exact GG hts q a h1 (by omega) N FF I H e p g1 g2 g3
 dsimp only
 exact ⟨e, g1, g3, pX a e⟩
theorem Jd (hts : ts.length ≤ 40000) (I : Ih S FF) (H : OkB FF) (N : Nat) (q : Nat) (hq : q ≤ ts.length) :
 az ts q 2 sz (fun k => dD.f (FF k) k ts (q : Int) false) (kS S N (ts.drop q)) := by
 unfold dD.f kS
 exact az.idb (Bi hts I H N 1 (by omega) (by omega) q hq)
theorem J8 : ∀ n : Nat, Ih (pfam n) fam := by
 intro n
 induction n with
 | zero => exact ⟨fun _ _ _ _ => trivial, fun _ _ _ _ => trivial, fun _ _ _ _ _ _ _ => trivial, fun _ _ _ _ => trivial⟩
 | succ n ih =>
  exact ⟨fun ts q hts hq => az.step (fun k => rfl) (Jd hts ih ql n q hq), fun ts q hts hq => az.step (fun k => rfl) (Bq hts ih ql n q hq),
   fun a h1 h2 ts q hts hq => az.step (fun k => rfl) (Bi hts ih ql n a h1 h2 q hq), fun ts q hts hq => az.step (fun k => rfl) (Ad hts ih ql n q hq)⟩
end Go.Proofs.Ytendgafpkeadhaa.Par
end
section
set_option linter.unusedVariables false
set_option linter.unusedSimpArgs false
namespace Go.Proofs.Ytendgafpkeadhaa.Par
open Go Go.RowKit Go.Proofs.YtendgafpkeadhaaW.PrintWords Go.Proofs.Ytendgafpkeadhaa.Q Go.Proofs.Ytendgafpkeadhaa.Lex Go.Proofs.Ytendgafpkeadhaa.Tree
variable {ts : List S38} {S : PF} {FF : Nat → Fam}
theorem Jy (hts : ts.length ≤ 40000) (q : Nat) (hq : q ≤ ts.length) : az ts q 2 sz (fun k => dJ.f k ts (q : Int) false) (F5 (ts.drop q)) := by
 unfold dJ.f F5
 have nB : ∀ (p : Int) (nm tx : ByteArray) (n : Int), EvTo (fun k => (au.f k 2 0 nm n tx ([] : List (List S41))).bind fun t269 => some (t269, p, true)) (nd 2 nm n tx [], p, true) := fun p nm tx n => gz (by simp) (by simp) EvTo.now
 have sB : ∀ (nm tx : ByteArray) (n : Int), sz (nd 2 nm n tx []) = 2 := fun nm tx n => rfl
 refine az.need 1 hq hts (by omega) (fun a h1 _ => ?_) ?_
 ·dsimp only
  refine az.must ⟨#[46]⟩ [46] (gy _ _ rfl) (by simp) h1 hts (by omega) (fun h2 => ?_) ?_
  ·dsimp only
   refine az.need 1 h2 hts (by omega) (fun b h3 _ => ?_) ?_
   ·dsimp only
    refine az.must ⟨#[47]⟩ [47] (gy _ _ rfl) (by simp) h3 hts (by omega) (fun h4 => ?_) ?_
    ·dsimp only
     refine az.need 2 h4 hts (by omega) (fun c h5 _ => ?_) ?_
     ·dsimp only
      refine az.must ⟨#[59]⟩ [59] (gy _ _ rfl) (by simp) h5 hts (by omega) (fun h6 => ?_) ?_
      ·dsimp only
       exact az.node (by omega) h6 hts (by simp) Z48
      exact ⟨_, by rw [sB]; omega, nB _ _ _ _⟩
     dsimp only
     rw [gY _ [59] rfl (by simp)]
     exact ⟨_, by rw [sB]; omega, nB _ _ _ _⟩
    dsimp only
    simp only [jW, Option.bind_some]
    rw [gY _ [59] rfl (by simp)]
    exact ⟨_, by rw [sB]; omega, nB _ _ _ _⟩
   dsimp only
   rw [gY _ [47] rfl (by simp)]
   simp only [jW, Option.bind_some]
   rw [gY _ [59] rfl (by simp)]
   exact ⟨_, by rw [sB]; omega, nB _ _ _ _⟩
  dsimp only
  simp only [jW, Option.bind_some]
  rw [gY _ [47] rfl (by simp)]
  simp only [jW, Option.bind_some]
  rw [gY _ [59] rfl (by simp)]
  exact ⟨_, by rw [sB]; omega, nB _ _ _ _⟩
 dsimp only
 rw [gY _ [46] rfl (by simp)]
 simp only [jW, Option.bind_some]
 rw [gY _ [47] rfl (by simp)]
 simp only [jW, Option.bind_some]
 rw [gY _ [59] rfl (by simp)]
 exact ⟨_, by rw [sB]; omega, nB _ _ _ _⟩
theorem zy (acc : List (List S41)) (q : Int) (nm : ByteArray) (v : Int) (h1 : acc.length ≤ 100000) (h2 : acc.flatten.length ≤ 1000000) : EvTo (fun k => aK.l1 (FF k) k acc ts q true 1 0 nm v E) (nd 1 nm v E acc, q, true) := by
 refine EvTo.step (fun k => by rw [aK.l1, takeB _ [102, 110] rfl (by simp)]) ?_
 simp only [Option.bind_some]
 exact EvTo.neg (by simp) (gz (by omega) (by omega) EvTo.now)
theorem sN (acc : List (List S41)) (q : Int) (nm : ByteArray) (v : Int) (h1 : acc.length ≤ 100000) (h2 : acc.flatten.length ≤ 1000000) : EvTo (fun k => aK.l0 (FF k) k acc ts q true 1 0 nm v E) (nd 1 nm v E acc, q, true) := by
 refine EvTo.step (fun k => by rw [aK.l0, takeB _ [117, 115, 101] rfl (by simp)]) ?_
 simp only [Option.bind_some]
 exact EvTo.neg (by simp) (zy (FF := fun k => FF (k + 1)) acc q nm v h1 h2)
theorem Jc (hts : ts.length ≤ 40000) (N : Nat) (nm : ByteArray) (v : Int) : ∀ (n : Nat) (FF : Nat → Fam) (I : Ih S FF) (H : OkB FF) (acc : List (List S41)) (q : Nat), q ≤ ts.length → acc.flatten.length + acc.length + 2 ≤ 2 * (q - 0) →
 az ts 0 3 sz (fun k => aK.l1 (FF k) k acc ts (q : Int) false 1 0 nm v E) (qy S N nm v n acc (ts.drop q)) := by
 intro n
 induction n with
 | zero => intro FF I H acc q hq hs; trivial
 | succ n ih =>
  intro FF I H acc q hq hs
  unfold qy
  refine az.step (fun k => by rw [aK.l1]) ?_
  refine az.wz _ _ (gy _ _ rfl) (by simp) hq hts (fun h1 => ?_) (fun hn => ?_)
  ·refine az.pos rfl ?_
   dsimp only
   refine az.need 1 h1 hts (by omega) (fun t h2 _ => ?_) ?_
   ·dsimp only
    refine az.bind (ug hts I.shift H.shift N 3 t.f1 _ h2) (fun f p g1 g2 g3 => ?_) (fun f p g1 g2 g3 => ?_)
    ·unfold sz at g3
     dsimp only
     refine az.pos (by omega) ?_
     exact ih (fun k => FF (k + 1)) I.shift H.shift (acc ++ [f]) p g2 Z79
    unfold sz at g3
    dsimp only
    exact ⟨nd 1 nm v E (acc ++ [f]), by omega, by unfold sz; rw [nd_len, iH]; omega, EvTo.pos (by omega) (zy (FF := fun k => FF (k + 1)) _ _ nm v (by rw [mf]; omega) (by rw [iH]; omega))⟩
   dsimp only
   have hl : (nd 3 E 0 E [nd 5 E 0 E []]).length = 2 := rfl
   exact ⟨nd 1 nm v E (acc ++ [nd 3 E 0 E [nd 5 E 0 E []]]), by unfold sz; rw [nd_len, iH, hl]; omega, EvTo.bind (wX 3 E) (EvTo.pos (by omega) (zy (FF := fun k => FF (k + 1)) _ _ nm v (by rw [mf]; omega) (by rw [iH, hl]; omega)))⟩
  refine az.neg (by simp) ?_
  exact az.node (q := 0) (by omega) hq hts (by omega) (by omega)
theorem Ia (hts : ts.length ≤ 40000) (N : Nat) (nm : ByteArray) (v : Int) : ∀ (n : Nat) (FF : Nat → Fam) (I : Ih S FF) (H : OkB FF) (acc : List (List S41)) (q : Nat), q ≤ ts.length → acc.flatten.length + acc.length + 2 ≤ 2 * (q - 0) →
 az ts 0 3 sz (fun k => aK.l0 (FF k) k acc ts (q : Int) false 1 0 nm v E) (qW S N nm v n acc (ts.drop q)) := by
 intro n
 induction n with
 | zero => intro FF I H acc q hq hs; trivial
 | succ n ih =>
  intro FF I H acc q hq hs
  unfold qW
  refine az.step (fun k => by rw [aK.l0]) ?_
  refine az.wz _ _ (gy _ _ rfl) (by simp) hq hts (fun h1 => ?_) (fun hn => ?_)
  ·refine az.pos rfl ?_
   dsimp only
   refine az.bind (Jy hts _ h1) (fun f p g1 g2 g3 => ?_) (fun f p g1 g2 g3 => ?_)
   ·unfold sz at g3
    dsimp only
    refine az.pos (by omega) ?_
    exact ih (fun k => FF (k + 1)) I.shift H.shift (acc ++ [f]) p g2 Z79
   unfold sz at g3
   dsimp only
   exact ⟨nd 1 nm v E (acc ++ [f]), by omega, by unfold sz; rw [nd_len, iH]; omega, EvTo.pos (by omega) (sN (FF := fun k => FF (k + 1)) _ _ nm v (by rw [mf]; omega) (by rw [iH]; omega))⟩
  refine az.neg (by simp) ?_
  exact Jc hts N nm v N (fun k => FF (k + 1)) I.shift H.shift acc q hq hs
theorem Ep (hts : ts.length ≤ 40000) (I : Ih S FF) (H : OkB FF) (N : Nat) :
 az ts 0 3 sz (fun k => aK.f (FF k) k ts 0 false) (moduleP S N ts) := by
 have sB : ∀ (nm : ByteArray) (v : Int), sz (nd 1 nm v E []) = 2 := fun nm v => rfl
 have key : az ts 0 3 sz (fun k => aK.f (FF k) k ts ((0 : Nat) : Int) false) (moduleP S N (ts.drop 0)) := by
  unfold aK.f moduleP
  refine az.must ⟨#[109, 111, 100, 117, 108, 101]⟩ [109, 111, 100, 117, 108, 101] (gy _ _ rfl) (by simp) (by omega) hts (by omega) (fun h1 => ?_) ?_
  ·dsimp only
   refine az.need 1 h1 hts (by omega) (fun t h2 _ => ?_) ?_
   ·dsimp only
    refine az.need 2 h2 hts (by omega) (fun u h3 _ => ?_) ?_
    ·dsimp only
     refine az.must ⟨#[59]⟩ [59] (gy _ _ rfl) (by simp) h3 hts (by omega) (fun h4 => ?_) ?_
     ·dsimp only
      exact Ia hts N t.f1 u.f2 N FF I H [] _ h4 Z48
     dsimp only
     exact ⟨_, by rw [sB]; omega, sN [] _ _ _ (by simp) (by simp)⟩
    dsimp only
    rw [gY _ [59] rfl (by simp)]
    simp only [Option.bind_some]
    exact ⟨_, by rw [sB]; omega, sN [] _ _ _ (by simp) (by simp)⟩
   dsimp only
   simp only [jW, Option.bind_some]
   rw [gY _ [59] rfl (by simp)]
   simp only [Option.bind_some]
   exact ⟨_, by rw [sB]; omega, sN [] _ _ _ (by simp) (by simp)⟩
  dsimp only
  simp only [jW, Option.bind_some]
  rw [gY _ [59] rfl (by simp)]
  simp only [Option.bind_some]
  exact ⟨_, by rw [sB]; omega, sN [] _ _ _ (by simp) (by simp)⟩
 exact key
end Go.Proofs.Ytendgafpkeadhaa.Par
end
section
set_option linter.unusedVariables false
set_option linter.unusedSimpArgs false
namespace Go.Proofs.Ytendgafpkeadhaa.Par
open Go Go.RowKit Go.Proofs.YtendgafpkeadhaaW.PrintWords Go.Proofs.Ytendgafpkeadhaa.Q Go.Proofs.Ytendgafpkeadhaa.Lex Go.Proofs.Ytendgafpkeadhaa.Tree
def TB (l : List S38) : Prop := ∀ t ∈ l, t.f1.size ≤ 3000
def KT (e : List S41) : Prop := (∃ D, Fo e 1 D) ∧ ∀ x ∈ e, x.f2.size ≤ 3000 ∧ x.f4.size ≤ 3000
def KN (e : List S41) : Prop := KT e ∧ ∀ x t, e = x :: t → x.f0 = 26 → x.f1 = 2
def KL (ks : List (List S41)) : Prop := ∀ e ∈ ks, KT e
/-- An answer: what is read is so, and fewer tokens are left than so many. -/
def Fn {α : Type} (K : α → Prop) (b : Nat) : R α → Prop
 | .ok (x, r) => r.length < b ∧ TB r ∧ K x
 | .error (some _) => True
 | .error none => False
theorem Fn.bind {α β : Type} {p : Ps α} {f : α → Ps β} {l : List S38} {b c : Nat} {K : α → Prop} {K' : β → Prop} (h : Fn K b (p l)) (g : ∀ x r, r.length < b → TB r → K x → Fn K' c (f x r)) : Fn K' c (bnd p f l) := by
 unfold bnd
 match hp : p l, h with
 | .ok (x, r), ⟨h1, h2, h3⟩ => exact g x r h1 h2 h3
 | .error (some r), _ => trivial
theorem Fn.weak {α : Type} {K K' : α → Prop} {b c : Nat} {r : R α} (h : Fn K b r) (hb : b ≤ c) (hk : ∀ x, K x → K' x) : Fn K' c r := by
 match r, h with
 | .ok (x, r), ⟨h1, h2, h3⟩ => exact ⟨by omega, h2, hk x h3⟩
 | .error (some r), _ => trivial
theorem TB.tail {t : S38} {r : List S38} (h : TB (t :: r)) : TB r := fun x hx => h x (List.mem_cons_of_mem _ hx)
theorem iJ (w : List UInt8) (hw : w ≠ []) (l : List S38) (h : TB l) : Fn (fun _ => True) l.length (must w l) := by
 unfold must
 by_cases c : wd l = w
 ·rw [if_pos c]
  cases l with
  | nil => exact absurd (sK.symm.trans c).symm hw
  | cons t r => exact ⟨by simp, h.tail, trivial⟩
 rw [if_neg c]; trivial
theorem lZ (k : Int) (l : List S38) (h : TB l) : Fn (fun t => t.f1.size ≤ 3000) l.length (need k l) := by
 cases l with
 | nil => trivial
 | cons t r =>
  unfold need
  by_cases c : t.f0 = k
  ·simp only [if_pos c]; exact ⟨by simp, h.tail, h t List.mem_cons_self⟩
  simp only [if_neg c]; trivial
theorem lI (l : List S38) (h : TB l) (w : List UInt8) (c : wd l = w) (hw : w ≠ []) : Fn (fun _ => True) l.length (tk l) := by
 cases l with
 | nil => exact absurd (sK.symm.trans c).symm hw
 | cons t r => exact ⟨by simp, h.tail, trivial⟩
theorem Fo.app {u v : List S41} {a b D1 D2 : Nat} (h : Fo u a D1) (g : Fo v b D2) : ∃ D, Fo (u ++ v) (a + b) D := by
 induction h with
 | nil => exact ⟨D2, by rw [List.nil_append, Nat.zero_add]; exact g⟩
 | cons x t v' w D1 D2' hx ht hv ih1 ih2 =>
  obtain ⟨D, hD⟩ := ih2
  refine ⟨max (1 + D1) D, ?_⟩
  have := Fo.cons x t _ _ _ _ hx ht hD
  rw [List.cons_append, List.append_assoc, Nat.add_right_comm]
  exact this
theorem KL.fo : ∀ {ks : List (List S41)}, KL ks → ∃ D, Fo ks.flatten ks.length D
 | [], _ => ⟨0, Fo.nil⟩
 | e :: ks, h => by
  obtain ⟨⟨D1, h1⟩, _⟩ := h e List.mem_cons_self
  obtain ⟨D2, h2⟩ := KL.fo (ks := ks) (fun x hx => h x (List.mem_cons_of_mem _ hx))
  obtain ⟨D, hD⟩ := Fo.app h1 h2
  exact ⟨D, by rw [List.flatten_cons, List.length_cons, Nat.add_comm]; exact hD⟩
theorem kU {k : Int} {nm : ByteArray} {n : Int} {tx : ByteArray} {ks : List (List S41)} (h : KL ks) (hnm : nm.size ≤ 3000) (htx : tx.size ≤ 3000) (h26 : k ≠ 26 ∨ ks.length = 2) : KN (nd k nm n tx ks) := by
 obtain ⟨D, hD⟩ := h.fo
 refine ⟨⟨⟨max (1 + D) 0, ?_⟩, ?_⟩, ?_⟩
 ·have := Fo.cons (⟨k, (ks.length : Int), nm, n, tx⟩ : S41) ks.flatten [] 0 D 0 (by simp) (by simpa using hD) Fo.nil
  rw [List.append_nil] at this
  exact this
 ·intro x hx
  rcases List.mem_cons.1 hx with rfl | hx
  ·exact ⟨hnm, htx⟩
  obtain ⟨e, he, hx⟩ := List.mem_flatten.1 hx
  exact (h e he).2 x hx
 intro x t e hk
 obtain ⟨rfl, _⟩ := List.cons.inj e
 rcases h26 with h | h
 ·exact absurd hk h
 show ((ks.length : Nat) : Int) = 2
 omega
theorem KL.nil : KL [] := fun e he => by cases he
theorem KL.one {e : List S41} (h : KT e) : KL [e] := fun x hx => by rw [List.mem_singleton.1 hx]; exact h
theorem KL.cons {e : List S41} {ks : List (List S41)} (h : KT e) (g : KL ks) : KL (e :: ks) := fun x hx => by
 rcases List.mem_cons.1 hx with rfl | hx
 ·exact h
 exact g x hx
theorem KL.app {ks us : List (List S41)} (g : KL ks) (h : KL us) : KL (ks ++ us) := fun x hx => by
 rcases List.mem_append.1 hx with hx | hx
 ·exact g x hx
 exact h x hx
theorem dW : E.size ≤ 3000 := by show (0 : Nat) ≤ 3000; omega
theorem Ak {l rest : List S41} {x : S41} {t : List S41} {p D1 : Nat} (hx : 0 ≤ x.f1) (ht : Fo t x.f1.toNat D1) (hd : l.drop p = (x :: t) ++ rest) (hn : ∀ y ∈ x :: t, ¬ ((l.length : Int) < y.f1)) : qc l (p : Int) = x :: t := by
 unfold qc
 rw [qB hx ht hd hn, if_neg (by omega), Int.toNat_natCast, Int.toNat_natCast]
 have hlen : p + (x :: t).length ≤ l.length := by
  have := congrArg List.length hd
  rw [List.length_drop, List.length_append] at this
  simp only [List.length_cons] at this ⊢
  omega
 rw [Dz hlen, hd, List.take_left]
theorem Gw {e : List S41} (h : KN e) {x : S41} {t : List S41} (he : e = x :: t) (hk : x.f0 = 26) : ∃ a b, rC e = some (a, b) ∧ KT a ∧ KT b := by
 obtain ⟨⟨⟨D, hF⟩, hs⟩, h26⟩ := h
 have h2 := h26 x t he hk
 subst he
 obtain ⟨x', t', D1, e', _, hx, ht⟩ := hF.one
 obtain ⟨rfl, rfl⟩ := List.cons.inj e'
 have ht' : Fo t (1 + 1) D1 := by rw [h2] at ht; exact ht
 obtain ⟨u1, u2, D2, D3, rfl, hu1, hu2, _⟩ := Fo.split 1 1 _ _ ht'
 obtain ⟨x1, t1, E1, rfl, _, hx1, ht1⟩ := hu1.one
 obtain ⟨x2, t2, E2, rfl, _, hx2, ht2⟩ := hu2.one
 have hn : ∀ y ∈ x :: ((x1 :: t1) ++ (x2 :: t2)), ¬ (((x :: ((x1 :: t1) ++ (x2 :: t2))).length : Int) < y.f1) := fun y hy => by have := hF.kids y hy; omega
 have m1 : ∀ y ∈ x1 :: t1, y ∈ x :: ((x1 :: t1) ++ (x2 :: t2)) := fun y hy => List.mem_cons_of_mem _ (List.mem_append.2 (Or.inl hy))
 have m2 : ∀ y ∈ x2 :: t2, y ∈ x :: ((x1 :: t1) ++ (x2 :: t2)) := fun y hy => List.mem_cons_of_mem _ (List.mem_append.2 (Or.inr hy))
 have d1 : (x :: ((x1 :: t1) ++ (x2 :: t2))).drop 1 = (x1 :: t1) ++ (x2 :: t2) := rfl
 have d2 : (x :: ((x1 :: t1) ++ (x2 :: t2))).drop (1 + (x1 :: t1).length) = (x2 :: t2) ++ [] := by
  rw [Nat.add_comm, List.drop_succ_cons, List.drop_left, List.append_nil]
 have e0 : jE (x :: ((x1 :: t1) ++ (x2 :: t2))) ((0 : Nat) : Int) = _ := qB (rest := []) hx ht (by rw [List.drop_zero, List.append_nil]) hn
 have e1 := qB (p := 1) hx1 ht1 d1 (fun y hy => hn y (m1 y hy))
 have s1 := Ak (p := 1) hx1 ht1 d1 (fun y hy => hn y (m1 y hy))
 have s2 := Ak hx2 ht2 d2 (fun y hy => hn y (m2 y hy))
 refine ⟨x1 :: t1, x2 :: t2, ?_, ⟨⟨_, hu1⟩, fun y hy => hs y (m1 y hy)⟩, ⟨⟨_, hu2⟩, fun y hy => hs y (m2 y hy)⟩⟩
 have hk : ry (x :: ((x1 :: t1) ++ (x2 :: t2))) 0 = [((1 : Nat) : Int), ((1 + (x1 :: t1).length : Nat) : Int)] := by
  unfold ry
  rw [if_neg (by rw [show (0 : Int) = ((0 : Nat) : Int) from rfl, e0]; omega)]
  rw [show (rd_T41 (x :: ((x1 :: t1) ++ (x2 :: t2))) 0).f1 = x.f1 from rfl, h2]
  show [(0 + 1 : Int), jE _ (0 + 1)] = _
  rw [show (0 + 1 : Int) = ((1 : Nat) : Int) from rfl, e1]
 unfold rC
 rw [hk]
 simp only [s1, s2]
end Go.Proofs.Ytendgafpkeadhaa.Par
end
section
set_option linter.unusedVariables false
set_option linter.unusedSimpArgs false
namespace Go.Proofs.Ytendgafpkeadhaa.Par
open Go Go.RowKit Go.Proofs.YtendgafpkeadhaaW.PrintWords Go.Proofs.Ytendgafpkeadhaa.Q Go.Proofs.Ytendgafpkeadhaa.Lex Go.Proofs.Ytendgafpkeadhaa.Tree
/-- The family comes to answers, of fewer tokens than so many. -/
structure Tot (S : PF) (m : Nat) : Prop where
 expr : ∀ l, l.length < m → TB l → Fn KN l.length (S.expr l)
 block : ∀ l, l.length < m → TB l → Fn KN l.length (S.block l)
 bound : ∀ a : Int, 1 ≤ a → a ≤ 6 → ∀ l, l.length < m → TB l → Fn KN l.length (S.bound a l)
 unary : ∀ l, l.length < m → TB l → Fn KN l.length (S.unary l)
variable {S : PF} {m : Nat}
theorem jV {α : Type} {K : α → Prop} {x : α} {l : List S38} {b : Nat} (h1 : l.length < b) (h2 : TB l) (h3 : K x) : Fn K b (ret x l) := ⟨h1, h2, h3⟩
theorem nT (T : Tot S m) (k : Int) (nm : ByteArray) (hk : k ≠ 26) (hn : nm.size ≤ 3000) (l : List S38) (hl : l.length < m) (h : TB l) : Fn KN l.length (fC S k nm l) :=
 Fn.bind (T.expr l hl h) fun e r h1 h2 h3 => Fn.bind (iJ [59] (by simp) r h2) fun _ r2 g1 g2 _ => jV (by omega) g2 (kU (KL.one h3.1) hn dW (Or.inl hk))
theorem zQ (k : Int) (hk : k ≠ 26) (l : List S38) (h : TB l) : Fn KN l.length (nD k l) :=
 Fn.bind (iJ [59] (by simp) l h) fun _ r2 g1 g2 _ => jV g1 g2 (kU KL.nil dW dW (Or.inl hk))
theorem FX (T : Tot S m) (l : List S38) (hl : l.length < m) (h : TB l) : Fn KN l.length (qK S l) := by
 refine Fn.bind (T.expr l hl h) fun e r h1 h2 h3 => ?_
 unfold lX
 by_cases c : wd r ≠ [61]
 ·rw [if_pos c]
  exact Fn.bind (iJ [59] (by simp) r h2) fun _ r2 g1 g2 _ => jV (by omega) g2 (kU (KL.one h3.1) dW dW (Or.inl (by omega)))
 rw [if_neg c]
 obtain ⟨D, hD⟩ := h3.1.1
 obtain ⟨x, t, D1, rfl, _⟩ := hD.one
 have hx := h3.1.2 x List.mem_cons_self
 simp only
 by_cases c1 : x.f0 = 21
 ·rw [if_pos c1]
  exact Fn.bind (iJ [61] (by simp) r h2) fun _ r2 g1 g2 _ => (nT T 7 x.f2 (by omega) hx.1 r2 (by omega) g2).weak (by omega) (fun _ h => h)
 rw [if_neg c1]
 by_cases c2 : x.f0 = 26
 ·rw [if_pos c2]
  obtain ⟨a, b, e, ha, hb⟩ := Gw h3 rfl c2
  unfold lu
  rw [e]
  exact Fn.bind (iJ [61] (by simp) r h2) fun _ r2 g1 g2 _ => Fn.bind (T.expr r2 (by omega) g2) fun v r3 f1 f2 f3 => Fn.bind (iJ [59] (by simp) r3 f2) fun _ r4 e1 e2 _ =>
   jV (by omega) e2 (kU (KL.cons ha (KL.cons hb (KL.one f3.1))) dW dW (Or.inl (by omega)))
 rw [if_neg c2]
 trivial
theorem iG {α : Type} {K : α → Prop} {b : Nat} {c : Prop} [Decidable c] {r1 r2 : R α} (h1 : c → Fn K b r1) (h2 : ¬c → Fn K b r2) : Fn K b (if c then r1 else r2) := by
 by_cases h : c
 ·rw [if_pos h]; exact h1 h
 rw [if_neg h]; exact h2 h
theorem Ij (T : Tot S m) (l : List S38) (hl : l.length < m) (h : TB l) : Fn KN l.length (jr S l) := by
 unfold jr
 refine iG (fun c => Fn.bind (lI l h _ c (by simp)) fun _ r h1 h2 _ => ?_) (fun _ => ?_)
 ·exact Fn.bind (lZ 1 r h2) fun t r2 g1 g2 g3 => Fn.bind (iJ [61] (by simp) r2 g2) fun _ r3 f1 f2 _ => (nT T 6 t.f1 (by omega) g3 r3 (by omega) f2).weak (by omega) (fun _ h => h)
 refine iG (fun c => Fn.bind (lI l h _ c (by simp)) fun _ r h1 h2 _ => ?_) (fun _ => ?_)
 ·refine Fn.bind (T.expr r (by omega) h2) fun e r2 g1 g2 g3 => Fn.bind (T.block r2 (by omega) g2) fun b r3 f1 f2 f3 => ?_
  refine iG (fun c => Fn.bind (lI r3 f2 _ c (by simp)) fun _ r4 e1 e2 _ => ?_) (fun _ => ?_)
  ·exact Fn.bind (T.block r4 (by omega) e2) fun b2 r5 d1 d2 d3 => jV (by omega) d2 (kU (KL.cons g3.1 (KL.cons f3.1 (KL.one d3.1))) dW dW (Or.inl (by omega)))
  exact ⟨by omega, f2, kU (KL.cons g3.1 (KL.one f3.1)) dW dW (Or.inl (by omega))⟩
 refine iG (fun c => Fn.bind (lI l h _ c (by simp)) fun _ r h1 h2 _ => ?_) (fun _ => ?_)
 ·exact Fn.bind (T.expr r (by omega) h2) fun e r2 g1 g2 g3 => Fn.bind (T.block r2 (by omega) g2) fun b r3 f1 f2 f3 => jV (by omega) f2 (kU (KL.cons g3.1 (KL.one f3.1)) dW dW (Or.inl (by omega)))
 refine iG (fun c => Fn.bind (lI l h _ c (by simp)) fun _ r h1 h2 _ => (zQ 11 (by omega) r h2).weak (by omega) (fun _ h => h)) (fun _ => ?_)
 refine iG (fun c => Fn.bind (lI l h _ c (by simp)) fun _ r h1 h2 _ => (zQ 12 (by omega) r h2).weak (by omega) (fun _ h => h)) (fun _ => ?_)
 refine iG (fun c => Fn.bind (lI l h _ c (by simp)) fun _ r h1 h2 _ => (zQ 16 (by omega) r h2).weak (by omega) (fun _ h => h)) (fun _ => ?_)
 refine iG (fun c => Fn.bind (lI l h _ c (by simp)) fun _ r h1 h2 _ => (nT T 13 E (by omega) dW r (by omega) h2).weak (by omega) (fun _ h => h)) (fun _ => ?_)
 refine iG (fun c => Fn.bind (lI l h _ c (by simp)) fun _ r h1 h2 _ => (nT T 14 E (by omega) dW r (by omega) h2).weak (by omega) (fun _ h => h)) (fun _ => ?_)
 refine iG (fun c => Fn.bind (lI l h _ c (by simp)) fun _ r h1 h2 _ => (nT T 15 E (by omega) dW r (by omega) h2).weak (by omega) (fun _ h => h)) (fun _ => ?_)
 exact FX T l hl h
theorem EO (T : Tot S m) (c : Nat) : ∀ (n : Nat) (acc : List (List S41)) (l : List S38), l.length < n → l.length < m → l.length < c → TB l → KL acc → Fn KN c (jl S n acc l) := by
 intro n
 induction n with
 | zero => intro acc l h1; omega
 | succ n ih =>
  intro acc l h1 h2 h3 h4 h5
  unfold jl
  refine iG (fun d => ?_) (fun d => ?_)
  ·exact Fn.bind (iJ [125] (by simp) l h4) fun _ r g1 g2 _ => jV (by omega) g2 (kU h5 dW dW (Or.inl (by omega)))
  exact Fn.bind (Ij T l h2 h4) fun s r g1 g2 g3 => ih _ r (by omega) (by omega) (by omega) g2 (KL.app h5 (KL.one g3.1))
theorem Bz (T : Tot S m) (N : Nat) (l : List S38) (hl : l.length ≤ m) (hN : l.length ≤ N) (h : TB l) : Fn KN l.length (lD S N l) :=
 Fn.bind (iJ [123] (by simp) l h) fun _ r g1 g2 _ => EO T _ N [] r (by omega) (by omega) g1 g2 KL.nil
theorem Gq {one : Ps (List S41)} (ho : ∀ l, l.length < m → TB l → Fn KT l.length (one l)) (c : Nat) : ∀ (n : Nat) (acc : List (List S41)) (l : List S38), l.length < n → l.length < m → l.length < c → TB l → KL acc → Fn KL c (jZ one n acc l) := by
 intro n
 induction n with
 | zero => intro acc l h1; omega
 | succ n ih =>
  intro acc l h1 h2 h3 h4 h5
  unfold jZ
  refine iG (fun d => ?_) (fun d => iG (fun _ => ?_) (fun _ => ?_))
  ·exact Fn.bind (iJ [41] (by simp) l h4) fun _ r g1 g2 _ => jV (by omega) g2 h5
  ·exact Fn.bind (ho l h2 h4) fun s r g1 g2 g3 => ih _ r (by omega) (by omega) (by omega) g2 (KL.app h5 (KL.one g3))
  exact Fn.bind (iJ [44] (by simp) l h4) fun _ r f1 f2 _ => Fn.bind (ho r (by omega) f2) fun s r g1 g2 g3 => ih _ r (by omega) (by omega) (by omega) g2 (KL.app h5 (KL.one g3))
theorem Eu {one : Ps (List S41)} (ho : ∀ l, l.length < m → TB l → Fn KT l.length (one l)) (N : Nat) (l : List S38) (hl : l.length ≤ m) (hN : l.length ≤ N) (h : TB l) : Fn KL l.length (Par.dK one N l) :=
 Fn.bind (iJ [40] (by simp) l h) fun _ r g1 g2 _ => Gq ho _ N [] r (by omega) (by omega) g1 g2 KL.nil
theorem Gf (l : List S38) (h : TB l) : Fn KT l.length (lY l) :=
 Fn.bind (lZ 1 l h) fun t r h1 h2 h3 => jV h1 h2 (kU KL.nil h3 dW (Or.inl (by omega))).1
theorem Bd (T : Tot S m) (N : Nat) (l : List S38) (hl : l.length ≤ m) (hN : l.length ≤ N) (h : TB l) : Fn KL l.length (Par.dK S.expr N l) :=
 Eu (fun l a b => (T.expr l a b).weak (Nat.le_refl _) (fun _ h => h.1)) N l hl hN h
theorem uh (T : Tot S m) (N : Nat) (k : Int) (nm : ByteArray) (hk : k ≠ 26) (hn : nm.size ≤ 3000) (l : List S38) (hl : l.length ≤ m) (hN : l.length ≤ N) (h : TB l) : Fn KN l.length (ig S N k nm l) :=
 Fn.bind (Eu (fun l a b => Gf l b) N l hl hN h) fun ps r h1 h2 h3 => Fn.bind (Bz T N r (by omega) (by omega) h2) fun b r2 g1 g2 g3 => jV (by omega) g2 (kU (KL.app h3 (KL.one g3.1)) hn dW (Or.inl hk))
theorem IU (T : Tot S m) (N : Nat) (l : List S38) (hl : l.length ≤ m) (hN : l.length ≤ N) (h : TB l) : Fn KN l.length (lT S N l) := by
 cases l with
 | nil => trivial
 | cons t r =>
  unfold lT
  refine iG (fun _ => ⟨by simp, h.tail, kU KL.nil dW dW (Or.inl (by omega))⟩) (fun _ => iG (fun _ => ⟨by simp, h.tail, kU KL.nil dW (h t List.mem_cons_self) (Or.inl (by omega))⟩) (fun _ => ?_))
  unfold ru
  refine Fn.bind (lZ 1 _ h) fun t1 r1 h1 h2 h3 => iG (fun c => ?_) (fun c => ⟨h1, h2, kU KL.nil h3 dW (Or.inl (by omega))⟩)
  exact Fn.bind (lI r1 h2 _ c (by simp)) fun _ r2 g1 g2 _ => Fn.bind (lZ 1 r2 g2) fun u r3 f1 f2 f3 => Fn.bind (Bd T N r3 (by omega) (by omega) f2) fun ks r4 e1 e2 e3 => jV (by omega) e2 (kU e3 h3 f3 (Or.inl (by omega)))
theorem I8 (T : Tot S m) (N : Nat) (l : List S38) (hl : l.length ≤ m) (hN : l.length ≤ N) (h : TB l) : Fn KN l.length (mD S N l) := by
 unfold mD
 refine iG (fun c => Fn.bind (lI l h _ c (by simp)) fun _ r h1 h2 _ => jV (by omega) h2 (kU KL.nil dW dW (Or.inl (by omega)))) (fun _ => ?_)
 refine iG (fun c => Fn.bind (lI l h _ c (by simp)) fun _ r h1 h2 _ => jV (by omega) h2 (kU KL.nil dW dW (Or.inl (by omega)))) (fun _ => ?_)
 refine iG (fun c => Fn.bind (lI l h _ c (by simp)) fun _ r h1 h2 _ => Fn.bind (iJ [125] (by simp) r h2) fun _ r2 g1 g2 _ => jV (by omega) g2 (kU KL.nil dW dW (Or.inl (by omega)))) (fun _ => ?_)
 refine iG (fun c => Fn.bind (lI l h _ c (by simp)) fun _ r h1 h2 _ => (uh T N 24 E (by omega) dW r (by omega) (by omega) h2).weak (by omega) (fun _ h => h)) (fun _ => ?_)
 refine iG (fun c => Fn.bind (lI l h _ c (by simp)) fun _ r h1 h2 _ => Fn.bind (T.expr r (by omega) h2) fun e r2 g1 g2 g3 => Fn.bind (iJ [41] (by simp) r2 g2) fun _ r3 f1 f2 _ => jV (by omega) f2 g3) (fun _ => ?_)
 exact IU T N l hl hN h
theorem FU (T : Tot S m) (N c : Nat) : ∀ (n : Nat) (e : List S41) (l : List S38), l.length < n → l.length ≤ m → l.length ≤ N → l.length < c → TB l → KN e → Fn KN c (jR S N n e l) := by
 intro n
 induction n with
 | zero => intro e l h1; omega
 | succ n ih =>
  intro e l h1 h2 h3 h4 h5 h6
  unfold jR
  refine iG (fun d => ?_) (fun d => iG (fun d2 => ?_) (fun _ => ⟨h4, h5, h6⟩))
  ·exact Fn.bind (Bd T N l h2 h3 h5) fun ks r g1 g2 g3 => ih _ r (by omega) (by omega) (by omega) (by omega) g2 (kU (KL.app (KL.one h6.1) g3) dW dW (Or.inl (by omega)))
  exact Fn.bind (lI l h5 _ d2 (by simp)) fun _ r g1 g2 _ => Fn.bind (T.expr r (by omega) g2) fun i r2 f1 f2 f3 => Fn.bind (iJ [93] (by simp) r2 f2) fun _ r3 e1 e2 _ =>
   ih _ r3 (by omega) (by omega) (by omega) (by omega) e2 (kU (KL.cons h6.1 (KL.one f3.1)) dW dW (Or.inr rfl))
theorem zZ (l : List S38) (h : TB l) : (wB l).size ≤ 3000 := by
 cases l with
 | nil => exact dW
 | cons t r =>
  unfold wB
  by_cases c : t.f0 = 5 ∨ t.f0 = 4
  ·simp only [if_pos c]; exact h t List.mem_cons_self
  simp only [if_neg c]; exact dW
theorem Af (T : Tot S m) (N : Nat) (l : List S38) (hl : l.length ≤ m) (hN : l.length ≤ N) (h : TB l) : Fn KN l.length (jA S N l) := by
 unfold jA
 refine iG (fun c => Fn.bind (lI l h (wd l) rfl (by rcases c with c | c | c <;> rw [c] <;> simp)) fun _ r h1 h2 _ => ?_) (fun _ => ?_)
 ·exact Fn.bind (T.unary r (by omega) h2) fun e r2 g1 g2 g3 => jV (by omega) g2 (kU (KL.one g3.1) dW (zZ l h) (Or.inl (by omega)))
 refine iG (fun c => Fn.bind (lI l h _ c (by simp)) fun _ r h1 h2 _ => ?_) (fun _ => ?_)
 ·exact Fn.bind (T.unary r (by omega) h2) fun e r2 g1 g2 g3 => jV (by omega) g2 (kU (KL.one g3.1) dW dW (Or.inl (by omega)))
 exact Fn.bind (I8 T N l hl hN h) fun e r g1 g2 g3 => FU T N _ N e r (by omega) (by omega) (by omega) g1 g2 g3
theorem EN {S : PF} (a : Int) (ha : 1 ≤ a) (M c : Nat) (B : ∀ l, l.length ≤ M → TB l → Fn KN l.length (S.bound (a + 1) l)) : ∀ (n : Nat) (e : List S41) (l : List S38), l.length < n → l.length ≤ M → l.length < c → TB l → KN e → Fn KN c (jg S a n e l) := by
 intro n
 induction n with
 | zero => intro e l h1; omega
 | succ n ih =>
  intro e l h1 h2 h4 h5 h6
  unfold jg
  refine iG (fun d => Fn.bind (lI l h5 (wd l) rfl (fun w => by rw [w] at d; have : jM [] = 0 := rfl; omega)) fun _ r g1 g2 _ => Fn.bind (B r (by omega) g2) fun e2 r2 f1 f2 f3 => ?_) (fun _ => ⟨h4, h5, h6⟩)
  have hk := kU (k := 27) (nm := E) (n := 0) (tx := wB l) (KL.cons h6.1 (KL.one f3.1)) dW (zZ l h5) (Or.inl (by omega))
  by_cases d3 : a = 3
  ·rw [if_pos d3]; exact jV (by omega) f2 hk
  rw [if_neg d3]; exact ih _ r2 (by omega) (by omega) (by omega) f2 hk
theorem GH {S : PF} (N M : Nat) (a : Int) (h1 : 1 ≤ a) (h6 : a ≠ 6) (hM : M ≤ N) (B : ∀ l, l.length ≤ M → TB l → Fn KN l.length (S.bound (a + 1) l)) (l : List S38) (hl : l.length ≤ M) (h : TB l) : Fn KN l.length (iO S N a l) := by
 unfold iO
 rw [if_neg h6]
 exact Fn.bind (B l hl h) fun e r g1 g2 g3 => EN a h1 M _ B N e r (by omega) (by omega) g1 g2 g3
theorem tot : ∀ m : Nat, ∃ n0, ∀ n, n0 ≤ n → Tot (pfam n) m := by
 intro m
 induction m with
 | zero => exact ⟨0, fun n _ => ⟨fun l h => by omega, fun l h => by omega, fun a _ _ l h => by omega, fun l h => by omega⟩⟩
 | succ m ih =>
  obtain ⟨n0, h0⟩ := ih
  have b6 : ∀ n, n0 + m + 1 ≤ n → ∀ l, l.length ≤ m → TB l → Fn KN l.length ((pfam n).bound 6 l) := by
   intro n hn l hl h
   obtain ⟨k, rfl⟩ : ∃ k, n = k + 1 := ⟨n - 1, by omega⟩
   show Fn KN l.length (iO (pfam k) k 6 l)
   unfold iO
   rw [if_pos rfl]
   exact Af (h0 k (by omega)) k l hl (by omega) h
  have st : ∀ (a : Int) (d : Nat), 1 ≤ a → a ≤ 5 → (∀ n, n0 + m + d ≤ n → ∀ l, l.length ≤ m → TB l → Fn KN l.length ((pfam n).bound (a + 1) l)) → ∀ n, n0 + m + (d + 1) ≤ n → ∀ l, l.length ≤ m → TB l → Fn KN l.length ((pfam n).bound a l) := by
   intro a d h1 h2 hB n hn l hl h
   obtain ⟨k, rfl⟩ : ∃ k, n = k + 1 := ⟨n - 1, by omega⟩
   show Fn KN l.length (iO (pfam k) k a l)
   exact GH k m a h1 (by omega) (by omega) (hB k (by omega)) l hl h
  have b5 := st 5 1 (by omega) (by omega) b6
  have b4 := st 4 2 (by omega) (by omega) b5
  have b3 := st 3 3 (by omega) (by omega) b4
  have b2 := st 2 4 (by omega) (by omega) b3
  have b1 := st 1 5 (by omega) (by omega) b2
  refine ⟨n0 + m + 6, fun n hn => ⟨fun l hl h => ?_, fun l hl h => ?_, fun a h1 h2 l hl h => ?_, fun l hl h => ?_⟩⟩
  ·obtain ⟨k, rfl⟩ : ∃ k, n = k + 1 := ⟨n - 1, by omega⟩
   exact b1 (k + 1) hn l (by omega) h
  ·obtain ⟨k, rfl⟩ : ∃ k, n = k + 1 := ⟨n - 1, by omega⟩
   exact Bz (h0 k (by omega)) k l (by omega) (by omega) h
  ·rcases (show a = 1 ∨ a = 2 ∨ a = 3 ∨ a = 4 ∨ a = 5 ∨ a = 6 by omega) with rfl | rfl | rfl | rfl | rfl | rfl
   ·exact b1 n (by omega) l (by omega) h
   ·exact b2 n (by omega) l (by omega) h
   ·exact b3 n (by omega) l (by omega) h
   ·exact b4 n (by omega) l (by omega) h
   ·exact b5 n (by omega) l (by omega) h
   exact b6 n (by omega) l (by omega) h
  obtain ⟨k, rfl⟩ : ∃ k, n = k + 1 := ⟨n - 1, by omega⟩
  exact Af (h0 k (by omega)) k l (by omega) (by omega) h
theorem Jz (l : List S38) (h : TB l) : Fn KN l.length (F5 l) :=
 Fn.bind (lZ 1 l h) fun a r h1 h2 h3 => Fn.bind (iJ [46] (by simp) r h2) fun _ r g1 g2 _ => Fn.bind (lZ 1 r g2) fun b r f1 f2 f3 => Fn.bind (iJ [47] (by simp) r f2) fun _ r e1 e2 _ =>
  Fn.bind (lZ 2 r e2) fun c r d1 d2 d3 => Fn.bind (iJ [59] (by simp) r d2) fun _ r c1 c2 _ => jV (by omega) c2 (kU KL.nil h3 f3 (Or.inl (by omega)))
theorem G5 (T : Tot S m) (N : Nat) (nm : ByteArray) (v : Int) (hn : nm.size ≤ 3000) (c : Nat) : ∀ (n : Nat) (acc : List (List S41)) (l : List S38), l.length < n → l.length ≤ m → l.length ≤ N → l.length < c → TB l → KL acc → Fn KN c (qy S N nm v n acc l) := by
 intro n
 induction n with
 | zero => intro e l h1; omega
 | succ n ih =>
  intro acc l h1 h2 h3 h4 h5 h6
  unfold qy
  refine iG (fun d => ?_) (fun _ => ⟨h4, h5, kU h6 hn dW (Or.inl (by omega))⟩)
  exact Fn.bind (lI l h5 _ d (by simp)) fun _ r g1 g2 _ => Fn.bind (lZ 1 r g2) fun t r2 f1 f2 f3 => Fn.bind (uh T N 3 t.f1 (by omega) f3 r2 (by omega) (by omega) f2) fun f r3 e1 e2 e3 =>
   ih _ r3 (by omega) (by omega) (by omega) (by omega) e2 (KL.app h6 (KL.one e3.1))
theorem Fz (T : Tot S m) (N : Nat) (nm : ByteArray) (v : Int) (hn : nm.size ≤ 3000) (c : Nat) : ∀ (n : Nat) (acc : List (List S41)) (l : List S38), l.length < n → l.length ≤ m → l.length < N → l.length < c → TB l → KL acc → Fn KN c (qW S N nm v n acc l) := by
 intro n
 induction n with
 | zero => intro e l h1; omega
 | succ n ih =>
  intro acc l h1 h2 h3 h4 h5 h6
  unfold qW
  refine iG (fun d => ?_) (fun _ => G5 T N nm v hn c N acc l h3 h2 (by omega) h4 h5 h6)
  exact Fn.bind (lI l h5 _ d (by simp)) fun _ r g1 g2 _ => Fn.bind (Jz r g2) fun t r2 f1 f2 f3 => ih _ r2 (by omega) (by omega) (by omega) (by omega) f2 (KL.app h6 (KL.one f3.1))
theorem Es (T : Tot S m) (N : Nat) (l : List S38) (hl : l.length ≤ m) (hN : l.length ≤ N) (h : TB l) : Fn KN l.length (moduleP S N l) :=
 Fn.bind (iJ _ (by simp) l h) fun _ r h1 h2 _ => Fn.bind (lZ 1 r h2) fun t r g1 g2 g3 => Fn.bind (lZ 2 r g2) fun u r f1 f2 f3 => Fn.bind (iJ [59] (by simp) r f2) fun _ r e1 e2 _ =>
  Fz T N t.f1 u.f2 g3 _ N [] r (by omega) (by omega) (by omega) (by omega) e2 KL.nil
end Go.Proofs.Ytendgafpkeadhaa.Par
end
section
set_option linter.unusedVariables false
set_option linter.unusedSimpArgs false
namespace Go.Proofs.Ytendgafpkeadhaa.Lex
open Go Go.RowKit Go.Proofs.YtendgafpkeadhaaW.PrintWords Go.Proofs.Ytendgafpkeadhaa.Q
theorem w64 (n : Int) (h : -9223372036854775808 ≤ n ∧ n ≤ 9223372036854775807) : wrap64 n = n := IntWalk.wrap64_in n h
theorem bt0 (s : ByteArray) (c : UInt8) (t : List UInt8) (h : L s = c :: t) : bt s 0 = (c.toNat : Int) := by
 have := pW s 0
 rw [h] at this
 simpa using this
theorem H9 (s : ByteArray) (i : Int) : wrap32 (bt s i) = bt s i := by
 have := EL s i
 exact IntWalk.wrap32_in _ (by omega)
theorem isE (s : ByteArray) : (s.toList = ([] : List UInt8)) ↔ L s = [] := by rw [eP]
theorem tX (c : UInt8) : eu.f (c.toNat : Int) = some (le c) := by
 unfold eu.f le
 by_cases h : (c.toNat : Int) ≥ 97
 ·rw [if_pos h]
  congr 1
  rw [Bool.eq_iff_iff]
  simp only [decide_eq_true_eq]
  omega
 rw [if_neg h]
 congr 1
 symm
 rw [decide_eq_false_iff_not]
 omega
theorem Bg (c : UInt8) : gq.f (c.toNat : Int) = some (di c) := by
 unfold gq.f di
 by_cases h : (c.toNat : Int) ≥ 48
 ·rw [if_pos h]
  congr 1
  rw [Bool.eq_iff_iff]
  simp only [decide_eq_true_eq]
  omega
 rw [if_neg h]
 congr 1
 symm
 rw [decide_eq_false_iff_not]
 omega
theorem uG {α : Type} (q : α → Bool) (l : List α) : ((l.takeWhile q).length = l.length) ↔ l.all q = true := by
 induction l with
 | nil => simp
 | cons a t ih =>
  rw [List.takeWhile_cons, List.all_cons]
  by_cases h : q a = true
  ·rw [if_pos h]
   simp only [List.length_cons, h, Bool.true_and]
   rw [← ih]; omega
  rw [if_neg h]
  simp [h]
theorem Dj (s : ByteArray) : iK.f s = some (isWord (L s)) := by
 unfold iK.f
 rcases hl : L s with _ | ⟨c, t⟩
 ·rw [if_pos ((isE s).2 hl)]; rfl
 rw [if_neg (by rw [isE, hl]; simp), if_pos (by rw [L_size, hl]; simp), H9, bt0 s c t hl, tX]
 simp only [Option.bind_some]
 by_cases h : le c = true
 ·rw [if_pos h]
  unfold iM.f
  simp only [Option.bind_some]
  congr 1
  rw [isWord, h, Bool.true_and, ← hl, Bool.eq_iff_iff]
  rw [beq_iff_eq, L_size, L_size, tZ kz inn tY, ← uG]
  omega
 rw [if_neg h]
 simp [isWord, h]
/-! within -/
theorem vV (a : ByteArray) (i n : Nat) : L (a.extract i (i + n)) = ((L a).drop i).take n := by
 rw [lm, Nat.add_sub_cancel_left]
/-- Does a list stand in another one, from a place on? -/
def kC (b : List UInt8) : List UInt8 → Bool
 | [] => b.isPrefixOf []
 | c :: t => b.isPrefixOf (c :: t) || kC b t
theorem jk (b l : List UInt8) : b.isPrefixOf l = true ↔ (b.length ≤ l.length ∧ l.take b.length = b) := by
 rw [List.isPrefixOf_iff_prefix]
 constructor
 ·rintro ⟨r, rfl⟩
  simp
 rintro ⟨h1, h2⟩
 have h3 := List.take_append_drop b.length l
 rw [h2] at h3
 exact ⟨_, h3⟩
theorem l9 (b : List UInt8) : ∀ l : List UInt8, l.length < b.length → kC b l = false
 | [], h => by
  cases b with
  | nil => simp at h
  | cons x y => rfl
 | c :: t, h => by
  simp only [kC]
  rw [l9 b t (by simp at h; omega), Bool.or_false, Bool.eq_false_iff, ne_eq, jk]
  omega
theorem Dk (a b : ByteArray) (hb : 1 ≤ b.size) (hs : a.size + b.size ≤ 4611686018427387904) : ∀ (m i : Nat), a.size ≤ m + i → i ≤ a.size + 1 → EvTo (fun k => bY.l0 k a b (i : Int)) (kC (L b) ((L a).drop i)) := by
 intro m
 induction m with
 | zero =>
  intro i h1 h2
  refine EvTo.step (G := fun _ => some false) (fun k => ?_) (by
   rw [l9 _ _ (by rw [List.length_drop, ← L_size, ← L_size]; omega)]
   exact EvTo.now)
  simp only [bY.l0]
  rw [w64 _ (by omega), if_neg (by omega)]
 | succ m ih =>
  intro i h1 h2
  by_cases c : i + b.size ≤ a.size
  ·by_cases e : ((L a).drop i).take b.size = L b
   ·refine EvTo.step (G := fun _ => some true) (fun k => ?_) ?_
    ·simp only [bY.l0]
     rw [w64 _ (by omega), if_pos (by omega), if_pos (by omega), if_pos (by omega)]
     have e1 : ((i : Int)).toNat = i := by omega
     have e2 : ((i : Int) + (b.size : Int)).toNat = i + b.size := by omega
     rw [e1, e2, eP, eP, vV, if_pos e]
    have : kC (L b) ((L a).drop i) = true := by
     rw [fH (L a) i (by rw [← L_size]; omega)] at *
     simp only [kC]
     rw [Bool.or_eq_true, jk]
     refine Or.inl ⟨?_, ?_⟩
     ·rw [← fH (L a) i (by rw [← L_size]; omega), List.length_drop, ← L_size, ← L_size]; omega
     rw [← L_size]; exact e
    rw [this]
    exact EvTo.now
   refine EvTo.step (G := fun k => bY.l0 k a b ((i + 1 : Nat) : Int)) (fun k => ?_) ?_
   ·simp only [bY.l0]
    rw [w64 _ (by omega), if_pos (by omega), if_pos (by omega), if_pos (by omega)]
    have e1 : ((i : Int)).toNat = i := by omega
    have e2 : ((i : Int) + (b.size : Int)).toNat = i + b.size := by omega
    rw [e1, e2, eP, eP, vV, if_neg e, w64 _ (by omega)]
    rfl
   have : kC (L b) ((L a).drop i) = kC (L b) ((L a).drop (i + 1)) := by
    rw [fH (L a) i (by rw [← L_size]; omega)]
    simp only [kC]
    rw [← fH (L a) i (by rw [← L_size]; omega)]
    have : List.isPrefixOf (L b) ((L a).drop i) = false := by
     rw [Bool.eq_false_iff, ne_eq, jk]
     rintro ⟨_, q⟩
     rw [← L_size] at q
     exact e q
    rw [this, Bool.false_or]
   rw [this]
   exact ih (i + 1) (by omega) (by omega)
  refine EvTo.step (G := fun _ => some false) (fun k => ?_) (by
   rw [l9 _ _ (by rw [List.length_drop, ← L_size, ← L_size]; omega)]
   exact EvTo.now)
  simp only [bY.l0]
  rw [w64 _ (by omega), if_neg (by omega)]
theorem sJ (a b : ByteArray) (hb : 1 ≤ b.size) (hs : a.size + b.size ≤ 4611686018427387904) : EvTo (fun k => bY.f k a b) (kC (L b) (L a)) := by
 have := Dk a b hb hs a.size 0 (by omega) (by omega)
 simpa [bY.f] using this
/-! Key -/
def KT : List UInt8 := [32, 109, 111, 100, 117, 108, 101, 32, 117, 115, 101, 32, 102, 110, 32, 108, 101, 116, 32, 105, 102, 32, 101, 108, 115, 101, 32, 119, 104, 105, 108, 101, 32, 98, 114, 101, 97, 107, 32, 99, 111, 110, 116, 105, 110, 117, 101, 32, 114, 101, 116, 117, 114, 110, 32, 112, 117, 116, 32, 101, 109, 105, 116, 32, 121, 105, 101, 108, 100, 32, 110, 105, 108, 32, 115, 116, 97, 116, 101, 32, 115, 112, 97, 119, 110, 32, 108, 101, 110, 32, 110, 111, 116, 32, 97, 110, 100, 32, 111, 114, 32]
def KB : ByteArray := (⟨#[32, 109, 111, 100, 117, 108, 101, 32, 117, 115, 101, 32, 102, 110, 32, 108, 101, 116, 32, 105, 102, 32, 101, 108, 115, 101, 32, 119, 104, 105, 108, 101, 32, 98, 114, 101, 97, 107, 32, 99, 111, 110, 116, 105, 110, 117, 101, 32, 114, 101, 116, 117, 114, 110, 32, 112, 117, 116, 32, 101, 109, 105, 116, 32, 121, 105, 101, 108, 100, 32, 110, 105, 108, 32, 115, 116, 97, 116, 101, 32, 115, 112, 97, 119, 110, 32, 108, 101, 110, 32, 110, 111, 116, 32, 97, 110, 100, 32, 111, 114, 32]⟩ : ByteArray)
theorem GX : KB.size = 101 := rfl
def nG (c : UInt8) : Bool := c != 32
/-- The words between blanks. -/
def wordsOf : List UInt8 → List (List UInt8)
 | [] => []
 | c :: t => if c == 32 && !(t.dropWhile nG).isEmpty then t.takeWhile nG :: wordsOf t else wordsOf t
theorem Di : wordsOf KT = KEYS := by decide +kernel
theorem rf : ∀ (s t : List UInt8), s.all nG = true → (s ++ [32]).isPrefixOf t = (t.takeWhile nG == s && !(t.dropWhile nG).isEmpty)
 | [], [], _ => rfl
 | [], c :: t, _ => by
  by_cases h : c = 32
  ·subst h
   simp [List.takeWhile_cons, List.dropWhile_cons, nG, List.isPrefixOf]
  have h2 : (32 == c) = false := beq_eq_false_iff_ne.2 (fun e => h e.symm)
  simp [List.takeWhile_cons, List.dropWhile_cons, nG, List.isPrefixOf, h, h2]
 | x :: s, [], _ => by simp [List.isPrefixOf]
 | x :: s, c :: t, hs => by
  simp only [List.all_cons, Bool.and_eq_true] at hs
  have ih := rf s t hs.2
  rw [List.cons_append, List.isPrefixOf_cons_cons, ih]
  by_cases h : x = c
  ·subst h
   rw [List.takeWhile_cons, List.dropWhile_cons, if_pos hs.1, if_pos hs.1]
   simp
  have h2 : (x == c) = false := beq_eq_false_iff_ne.2 h
  rw [h2, Bool.false_and]
  symm
  rw [List.takeWhile_cons]
  split
  ·have : (c :: t.takeWhile nG == x :: s) = false := by
    apply beq_eq_false_iff_ne.2
    intro e
    exact h (List.cons.inj e).1.symm
   rw [this, Bool.false_and]
  simp
theorem pR (s : List UInt8) (hs : s.all nG = true) : ∀ l : List UInt8, kC (32 :: (s ++ [32])) l = (wordsOf l).contains s
 | [] => by simp [kC, wordsOf, List.isPrefixOf]
 | c :: t => by
  rw [kC, pR s hs t, List.isPrefixOf_cons_cons, rf s t hs, wordsOf]
  by_cases h : c = 32
  ·subst h
   by_cases h2 : (t.dropWhile nG).isEmpty = true
   ·simp [h2]
   have h3 : (t.dropWhile nG).isEmpty = false := by simpa using h2
   rw [h3]
   simp only [Bool.not_false, Bool.and_true, beq_self_eq_true, Bool.true_and, if_true, List.contains_cons]
   rw [show (List.takeWhile nG t == s) = (s == List.takeWhile nG t) from Bool.eq_iff_iff.2 (by simp only [beq_iff_eq]; exact eq_comm)]
  have h2 : (32 == c) = false := beq_eq_false_iff_ne.2 (fun e => h e.symm)
  have h3 : (c == 32) = false := beq_eq_false_iff_ne.2 h
  rw [h2, h3]
  simp
theorem BH {s : List UInt8} (h : isWord s = true) : s.all nG = true := by
 cases s with
 | nil => cases h
 | cons c t =>
  simp only [isWord, Bool.and_eq_true] at h
  rw [List.all_eq_true] at h ⊢
  intro x hx
  have h1 := h.2 x hx
  simp only [nG, bne_iff_ne, ne_eq]
  rintro rfl
  exact absurd h1 (by decide)
theorem Ez {s : List UInt8} (h : isKey s = true) : isWord s = true := by
 have : ∀ x ∈ KEYS, isWord x = true := by decide +kernel
 exact this s (List.contains_iff_mem.1 h)
theorem H6 (s : ByteArray) (hs : s.size ≤ 140737488351232) : EvTo (fun k => gV.f k s) (isKey (L s)) := by
 unfold gV.f
 rw [Dj]
 simp only [Option.bind_some]
 by_cases h : isWord (L s) = true
 ·rw [h]
  simp only [if_true]
  have e1 : ((⟨#[32]⟩ : ByteArray) ++ s).size = 1 + s.size := by rw [ByteArray.size_append]; rfl
  simp only [e1]
  refine EvTo.pos (by omega) (EvTo.pos (by omega) ?_)
  have h0 : ByteArray.size (⟨#[32]⟩ : ByteArray) = 1 := rfl
  have hw := sJ KB (((⟨#[32]⟩ : ByteArray) ++ s) ++ (⟨#[32]⟩ : ByteArray)) (by rw [ByteArray.size_append, e1]; omega) (by rw [ByteArray.size_append, e1, h0, GX]; omega)
  have e2 : L (((⟨#[32]⟩ : ByteArray) ++ s) ++ (⟨#[32]⟩ : ByteArray)) = 32 :: (L s ++ [32]) := by
   rw [L_append, L_append]; rfl
  rw [e2] at hw
  rw [show kC (32 :: (L s ++ [32])) (L KB) = isKey (L s) from (pR _ (BH h) KT).trans (by rw [Di]; rfl)] at hw
  exact EvTo.bind (G := fun _ t => some t) hw EvTo.now
 have h2 : isWord (L s) = false := by simpa using h
 have h3 : isKey (L s) = false := by
  rw [Bool.eq_false_iff]
  intro e
  exact h (Ez e)
 rw [h2, h3]
 simp only [Bool.false_eq_true, if_false]
 exact EvTo.now
theorem zV (s : ByteArray) (hs : s.size ≤ 140737488351232) : EvTo (fun k => ed.f k s) (jD (L s)) := by
 unfold ed.f
 rw [Dj]
 simp only [Option.bind_some]
 by_cases h : isWord (L s) = true
 ·rw [h]
  simp only [if_true]
  by_cases h2 : (s.size : Int) ≤ 16
  ·refine EvTo.pos h2 ?_
   have e : jD (L s) = !isKey (L s) := by
    unfold jD
    rw [h, show decide ((L s).length ≤ 16) = true from decide_eq_true (by rw [← L_size]; omega)]
    rfl
   rw [e]
   exact EvTo.bind (G := fun _ t => some (!t)) (H6 s hs) EvTo.now
  refine EvTo.neg h2 ?_
  have e : jD (L s) = false := by
   unfold jD
   rw [show decide ((L s).length ≤ 16) = false from decide_eq_false (by rw [← L_size]; omega)]
   simp
  rw [e]
  exact EvTo.now
 have h2 : isWord (L s) = false := by simpa using h
 rw [h2]
 simp only [Bool.false_eq_true, if_false]
 have e : jD (L s) = false := by
  unfold jD
  rw [h2]; rfl
 rw [e]
 exact EvTo.now
end Go.Proofs.Ytendgafpkeadhaa.Lex
end
section
set_option linter.unusedVariables false
set_option linter.unusedSimpArgs false
namespace Go.Proofs.Ytendgafpkeadhaa.Lex
open Go Go.RowKit Go.Proofs.YtendgafpkeadhaaW.PrintWords Go.Proofs.Ytendgafpkeadhaa.Q
def nums (l : List UInt8) : List Int := l.map fun c => (c.toNat : Int)
theorem qm (a b : List UInt8) : nums (a ++ b) = nums a ++ nums b := by simp [nums]
theorem mF (a : List UInt8) : (nums a).length = a.length := by simp [nums]
theorem EY (l : List UInt8) : strOfNums (nums l) = S l := by
 apply uB
 rw [Fg, L_S, nums, List.map_map]
 conv => rhs; rw [← List.map_id l]
 apply List.map_congr_left
 intro a _
 simp
theorem inc (i n : Nat) (h : i + 1 ≤ 9223372036854775807) : wrap64 ((i : Int) + 1) = ((i + 1 : Nat) : Int) := by
 rw [w64 _ (by omega)]; omega
/-! Quote -/
/-! quoted -/
theorem yH (c : UInt8) : iR.f (c.toNat : Int) = some (match esc c with | some x => ((x.toNat : Int), true) | none => (0, false)) := by
 have e1 : ((c.toNat : Int) = 110) ↔ c = 110 := fA c 110
 have e2 : ((c.toNat : Int) = 34) ↔ c = 34 := fA c 34
 have e3 : ((c.toNat : Int) = 92) ↔ c = 92 := fA c 92
 unfold iR.f esc
 by_cases c1 : c = 110
 ·rw [if_pos (e1.2 c1), if_pos c1]; rfl
 rw [if_neg (fun h => c1 (e1.1 h)), if_neg c1]
 by_cases c2 : c = 34
 ·rw [if_pos (e2.2 c2), if_pos c2, c2]
 rw [if_neg (fun h => c2 (e2.1 h)), if_neg c2]
 by_cases c3 : c = 92
 ·rw [if_pos (e3.2 c3), if_pos c3, c3]
 rw [if_neg (fun h => c3 (e3.1 h)), if_neg c3]
def jK (size : Nat) (acc : List UInt8) : Option (List UInt8 × List UInt8) → ByteArray × Int
 | some (x, r) => (S (acc ++ x), ((size - r.length : Nat) : Int))
 | none => ((⟨#[]⟩ : ByteArray), 0)
theorem qi (size : Nat) (acc : List UInt8) (c : UInt8) (o : Option (List UInt8 × List UInt8)) : jK size acc (o.map fun r => (c :: r.1, r.2)) = jK size (acc ++ [c]) o := by
 cases o with
 | none => rfl
 | some r => simp [jK]
theorem DI (s : ByteArray) (hs : s.size ≤ 140737488351232) : ∀ (m i : Nat) (acc : List UInt8) (b : Bool), s.size = m + i → acc.length + m < 140737488355328 →
 EvTo (fun k => bW.l0 k s (nums acc) b (i : Int)) (jK s.size acc (unq b ((L s).drop i))) := by
 intro m
 induction m with
 | zero =>
  intro i acc b h1 h2
  rw [List.drop_eq_nil_of_le (by rw [← L_size]; omega)]
  have : unq b [] = none := by cases b <;> rfl
  rw [this]
  refine EvTo.step (G := fun _ => some (jK s.size acc none)) (fun k => ?_) EvTo.now
  simp only [bW.l0]
  rw [if_neg (by omega)]; rfl
 | succ m ih =>
  intro i acc b h1 h2
  have hd := fH (L s) i (by rw [← L_size]; omega)
  have hb := pW s i
  generalize (L s).getD i 0 = c at hd hb
  have e1 : ((c.toNat : Int) = 34) ↔ c = 34 := fA c 34
  have e2 : ((c.toNat : Int) = 10) ↔ c = 10 := fA c 10
  have e3 : ((c.toNat : Int) = 92) ↔ c = 92 := fA c 92
  rw [hd]
  cases b with
  | true =>
   simp only [unq]
   cases he : esc c with
   | none =>
    refine EvTo.step (G := fun _ => some (jK s.size acc none)) (fun k => ?_) EvTo.now
    simp only [bW.l0]
    rw [if_pos (by omega), if_pos (by omega), if_pos trivial, hb, yH, he]
    simp only [Option.bind_some]
    rfl
   | some x =>
    simp only [qi]
    refine EvTo.step (G := fun k => bW.l0 k s (nums (acc ++ [x])) false ((i + 1 : Nat) : Int)) (fun k => ?_) (ih (i + 1) (acc ++ [x]) false (by omega) (by simp; omega))
    conv => lhs; simp only [bW.l0]
    rw [if_pos (by omega), if_pos (by omega), if_pos trivial, hb, yH, he]
    simp only [Option.bind_some]
    rw [if_pos trivial, if_pos (by rw [mF]; omega), inc i 0 (by omega), qm]; rfl
  | false =>
   simp only [unq]
   by_cases c1 : c = 34
   ·rw [if_pos c1]
    refine EvTo.step (G := fun _ => some (jK s.size acc (some ([], (L s).drop (i + 1))))) (fun k => ?_) EvTo.now
    simp only [bW.l0]
    rw [if_pos (by omega), if_pos (by omega), if_neg (by simp), hb, if_pos (e1.2 c1), inc i 0 (by omega), EY]
    have : s.size - ((L s).drop (i + 1)).length = i + 1 := by rw [List.length_drop, ← L_size]; omega
    simp only [jK, this, List.append_nil]
   rw [if_neg c1]
   by_cases c2 : c = 10
   ·rw [if_pos c2]
    refine EvTo.step (G := fun _ => some (jK s.size acc none)) (fun k => ?_) EvTo.now
    simp only [bW.l0]
    rw [if_pos (by omega), if_pos (by omega), if_neg (by simp), hb, if_neg (fun h => c1 (e1.1 h)), if_pos (e2.2 c2)]; rfl
   rw [if_neg c2]
   by_cases c3 : c = 92
   ·rw [if_pos c3]
    refine EvTo.step (G := fun k => bW.l0 k s (nums acc) true ((i + 1 : Nat) : Int)) (fun k => ?_) (ih (i + 1) acc true (by omega) (by omega))
    conv => lhs; simp only [bW.l0]
    rw [if_pos (by omega), if_pos (by omega), if_neg (by simp), hb, if_neg (fun h => c1 (e1.1 h)), if_neg (fun h => c2 (e2.1 h)), if_pos (e3.2 c3), inc i 0 (by omega)]
   rw [if_neg c3, qi]
   refine EvTo.step (G := fun k => bW.l0 k s (nums (acc ++ [c])) false ((i + 1 : Nat) : Int)) (fun k => ?_) (ih (i + 1) (acc ++ [c]) false (by omega) (by simp; omega))
   conv => lhs; simp only [bW.l0]
   rw [if_pos (by omega), if_pos (by omega), if_neg (by simp), hb, if_neg (fun h => c1 (e1.1 h)), if_neg (fun h => c2 (e2.1 h)), if_neg (fun h => c3 (e3.1 h)), if_pos (by rw [mF]; omega), inc i 0 (by omega), qm]; rfl
theorem DJ (s : ByteArray) (hs : s.size ≤ 140737488351232) (h1 : 1 ≤ s.size) : EvTo (fun k => bW.f k s) (jK s.size [] (unq false ((L s).drop 1))) := by
 have := DI s hs (s.size - 1) 1 [] false (by omega) (by simp; omega)
 simpa [bW.f, nums] using this
/-! number -/
theorem Ee (s : ByteArray) (hs : s.size ≤ 140737488351232) : ∀ (m i : Nat) (n : Int), s.size = m + i → 0 ≤ n →
 EvTo (fun k => bP.l0 k s n (s.size : Int) (i : Int)) (wrap64 (((L s).drop i).foldl qo n), decide (((L s).drop i).foldl qo n < 9223372036854775808)) := by
 intro m
 induction m with
 | zero =>
  intro i n h1 h2
  rw [List.drop_eq_nil_of_le (by rw [← L_size]; omega)]
  refine EvTo.step (G := fun _ => some (wrap64 n, decide (n < 9223372036854775808))) (fun k => ?_) EvTo.now
  simp only [bP.l0]
  rw [if_neg (by omega)]
  congr 2
  rw [Bool.eq_iff_iff]
  simp only [beq_iff_eq, decide_eq_true_eq]
  omega
 | succ m ih =>
  intro i n h1 h2
  have hd := fH (L s) i (by rw [← L_size]; omega)
  have hb := pW s i
  generalize (L s).getD i 0 = c at hd hb
  rw [hd, List.foldl_cons]
  refine EvTo.step (G := fun k => bP.l0 k s (qo n c) (s.size : Int) ((i + 1 : Nat) : Int)) (fun k => ?_) (ih (i + 1) (qo n c) (by omega) (by unfold qo; exact wrap_u64_nonneg _))
  conv => lhs; simp only [bP.l0]
  rw [if_pos (by omega), if_pos (by omega), if_pos (by omega), hb, inc i 0 (by omega)]; rfl
theorem Ef (s : ByteArray) (hs : s.size ≤ 140737488351232) : EvTo (fun k => bP.f k s) (numOf (L s)) := by
 have hl := Ee s hs s.size 0 0 (by omega) (by omega)
 rw [List.drop_zero] at hl
 have hno : long (L s) = false → EvTo (fun k => bP.j0 k s false) (numOf (L s)) := by
  intro h
  refine EvTo.step (G := fun k => bP.l0 k s 0 (s.size : Int) 0) (fun k => ?_) (by unfold numOf; rw [h]; exact hl)
  simp only [bP.j0]
  rw [if_neg (by simp)]
 have hyes : long (L s) = true → EvTo (fun k => bP.j0 k s true) (numOf (L s)) := by
  intro h
  refine EvTo.step (G := fun k => some (0, false)) (fun k => ?_) (by unfold numOf; rw [h]; exact EvTo.now)
  simp only [bP.j0]
  rw [if_pos trivial]
 unfold bP.f
 by_cases h : (s.size : Int) > 19
 ·refine EvTo.pos h (hyes ?_)
  unfold long
  rw [show decide (19 < (L s).length) = true from decide_eq_true (by rw [← L_size]; omega)]; rfl
 refine EvTo.neg h ?_
 have d1 : decide (19 < (L s).length) = false := decide_eq_false (by rw [← L_size]; omega)
 by_cases h2 : (s.size : Int) > 1
 ·refine EvTo.pos h2 (EvTo.pos (by omega) ?_)
  have d2 : decide (1 < (L s).length) = true := decide_eq_true (by rw [← L_size]; omega)
  have d3 : (bt s 0 == 48) = ((L s).head? == some 48) := by
   rcases hl2 : L s with _ | ⟨c, t⟩
   ·rw [L_size, hl2] at h2; simp at h2
   rw [bt0 s c t hl2]
   have e1 : ((c.toNat : Int) = 48) ↔ c = 48 := fA c 48
   rw [Bool.eq_iff_iff]
   simp only [List.head?_cons, beq_iff_eq, Option.some.injEq, ← e1]
  rw [d3]
  cases h4 : ((L s).head? == some 48) with
  | true => exact hyes (by unfold long; rw [d1, d2, h4]; rfl)
  | false => exact hno (by unfold long; rw [d1, d2, h4]; rfl)
 refine EvTo.neg h2 (hno ?_)
 unfold long
 rw [d1, show decide (1 < (L s).length) = false from decide_eq_false (by rw [← L_size]; omega)]; rfl
end Go.Proofs.Ytendgafpkeadhaa.Lex
end
section
set_option linter.unusedVariables false
set_option linter.unusedSimpArgs false
namespace Go.Proofs.Ytendgafpkeadhaa.Lex
open Go Go.RowKit Go.Proofs.YtendgafpkeadhaaW.PrintWords Go.Proofs.Ytendgafpkeadhaa.Q
def PB : ByteArray := ⟨#[61, 61, 32, 33, 61, 32, 60, 61, 32, 46, 46, 32]⟩
def SB : ByteArray := ⟨#[40, 41, 123, 125, 91, 93, 44, 59, 46, 47, 61, 60, 43, 45, 42, 37]⟩
theorem yx (c : UInt8) : ∀ l : List UInt8, kC [c] l = l.contains c
 | [] => rfl
 | d :: t => by
  rw [kC, yx c t, List.contains_cons, List.isPrefixOf_cons_cons]
  simp [List.isPrefixOf]
theorem CE (c d : UInt8) : kC [c, d, 32] (L PB) = PAIRS.contains [c, d] := by
 show kC [c, d, 32] [61, 61, 32, 33, 61, 32, 60, 61, 32, 46, 46, 32] = _
 simp only [kC, List.isPrefixOf, PAIRS, List.contains_cons, List.contains_nil]
 rw [Bool.eq_iff_iff]
 simp
theorem take1 (s : ByteArray) : L (s.extract 0 1) = (L s).take 1 := by rw [lm]; rfl
theorem take2 (s : ByteArray) : L (s.extract 0 2) = (L s).take 2 := by rw [lm]; rfl
theorem Il (s : ByteArray) (hs : s.size ≤ 140737488351232) (h1 : 1 ≤ s.size) : EvTo (fun k => dO.f k s) (S (mark (L s))) := by
 rcases hl : L s with _ | ⟨c, t⟩
 ·rw [L_size, hl] at h1; simp at h1
 have hno : PAIRS.contains ((L s).take 2) = false → EvTo (fun k => dO.j0 k s false) (S (mark (c :: t))) := by
  intro h
  have hw := sJ SB (s.extract 0 1) (by rw [L_size, take1, hl]; simp) (by
   have e1 : (s.extract 0 1).size = 1 := by rw [L_size, take1, hl]; simp
   have e2 : SB.size = 16 := rfl
   rw [e1, e2]; omega)
  rw [take1, hl] at hw
  have e : kC [c] (L SB) = kK.contains c := yx c _
  rw [show List.take 1 (c :: t) = [c] from rfl, e] at hw
  refine EvTo.step (G := fun k => (bY.f k SB (s.extract 0 1)).bind fun t118 => (if t118 = true then (some (s.extract 0 1)) else (some (⟨#[]⟩ : ByteArray)))) (fun k => ?_) (EvTo.bind (G := fun _ t118 => (if t118 = true then (some (s.extract 0 1)) else (some (⟨#[]⟩ : ByteArray)))) hw ?_)
  ·conv => lhs; simp only [dO.j0]
   rw [if_neg (by simp), if_pos (by omega), if_pos (by omega)]; rfl
  unfold mark
  rw [← hl, h]
  rw [hl]
  simp only [Bool.false_eq_true, if_false]
  by_cases hc : kK.contains c = true
  ·refine EvTo.jv (fun k => ?_)
   rw [if_pos hc, if_pos hc]
   congr 1
   apply uB
   rw [take1, hl]; rfl
  refine EvTo.jv (fun k => ?_)
  rw [if_neg hc, if_neg hc]; rfl
 unfold dO.f
 by_cases h : (s.size : Int) > 1
 ·obtain ⟨d, u, rfl⟩ : ∃ d u, t = d :: u := by
   cases t with
   | nil => rw [L_size, hl] at h; simp at h
   | cons d u => exact ⟨d, u, rfl⟩
  have e1 : (s.extract 0 2).size = 2 := by rw [L_size, take2, hl]; simp
  refine EvTo.pos h (EvTo.pos (by omega) (EvTo.pos (by omega) (EvTo.pos (by rw [e1]; omega) ?_)))
  have hw := sJ PB ((s.extract 0 2) ++ (⟨#[32]⟩ : ByteArray)) (by rw [ByteArray.size_append, e1]; omega) (by
   have e2 : PB.size = 12 := rfl
   have e3 : (⟨#[32]⟩ : ByteArray).size = 1 := rfl
   rw [ByteArray.size_append, e1, e2, e3]; omega)
  rw [L_append, take2, hl] at hw
  have e : kC [c, d, 32] (L PB) = PAIRS.contains [c, d] := CE c d
  rw [show List.take 2 (c :: d :: u) ++ L (⟨#[32]⟩ : ByteArray) = [c, d, 32] from rfl, e] at hw
  refine EvTo.bind (G := fun k t117 => (if t117 = true then (if 1 < (s.size : Int) then (dO.j0 k s ((bt s 1) != 32)) else (none)) else (dO.j0 k s false))) hw ?_
  cases hp : PAIRS.contains [c, d] with
  | false =>
   refine EvTo.neg (by simp) (hno ?_)
   rw [hl]; exact hp
  | true =>
   refine EvTo.pos rfl (EvTo.pos (by omega) ?_)
   have hd : d ≠ 32 := by
    rintro rfl
    simp [PAIRS] at hp
   have hb : (bt s 1 != 32) = true := by
    have := pW s 1
    rw [hl] at this
    simp only [List.getD_cons_succ, List.getD_cons_zero] at this
    have e1 : ((d.toNat : Int) = 32) ↔ d = 32 := fA d 32
    rw [bne_iff_ne]
    intro q
    apply hd
    rw [← e1, ← this]
    exact q
   rw [hb]
   refine EvTo.step (G := fun _ => some (s.extract 0 2)) (fun k => ?_) ?_
   ·conv => lhs; simp only [dO.j0]
    rw [if_pos trivial, if_pos (by omega), if_pos (by omega)]
   have : S (mark (c :: d :: u)) = s.extract 0 2 := by
    apply uB
    rw [take2, hl, L_S]
    unfold mark
    rw [show List.take 2 (c :: d :: u) = [c, d] from rfl, hp]; rfl
   rw [this]
   exact EvTo.now
 refine EvTo.neg h (hno ?_)
 have : t = [] := by
  cases t with
  | nil => rfl
  | cons d u => rw [L_size, hl] at h; simp at h; omega
 subst this
 rw [hl]
 simp [PAIRS]
/-! next -/
def zg : Except Int (Int × List UInt8 × Int × Nat) → Int × ByteArray × Int × Int × Int × Int
 | .ok (k, x, n, m) => (k, S x, n, 0, (m : Int), 0)
 | .error e => (0, (⟨#[]⟩ : ByteArray), 0, 0, 0, e)
theorem yB (s : ByteArray) : iM.f s = some (S ((L s).takeWhile inn)) := by
 unfold iM.f
 rw [← tZ kz inn tY, S_L]
theorem yC (s : ByteArray) : kD.f s = some (S ((L s).takeWhile di)) := by
 unfold kD.f
 rw [← tZ jQ di vM, S_L]
theorem ni (l : List UInt8) : (S l).size = l.length := by rw [L_size, L_S]
theorem pG {α : Type} (q : α → Bool) (l : List α) : (l.takeWhile q).all q = true := by
 induction l with
 | nil => rfl
 | cons a t ih =>
  rw [List.takeWhile_cons]
  split
  ·rename_i h
   simp only [List.all_cons, h, ih, Bool.and_self]
  rfl
theorem Jw (c : UInt8) : wrap32 (c.toNat : Int) = (c.toNat : Int) := IntWalk.wrap32_in _ (by have := c.toNat_lt; omega)
theorem II (s : ByteArray) (hs : s.size ≤ 140737488351232) (h1 : 1 ≤ s.size) : EvTo (fun k => gB.f k s) (zg (Lex.one (L s))) := by
 rcases hl : L s with _ | ⟨c, t⟩
 ·rw [L_size, hl] at h1; simp at h1
 have hlen : (c :: t).length ≤ 140737488351232 := by rw [← hl, ← L_size]; exact hs
 unfold gB.f
 refine EvTo.pos (by omega) ?_
 simp only [bt0 s c t hl, Jw, tX, Bg, Option.bind_some]
 simp only [Lex.one]
 by_cases c1 : le c = true
 ·refine EvTo.pos c1 ?_
  simp only [yB, Option.bind_some, hl]
  simp only [c1, if_true]
  have hw : (S ((c :: t).takeWhile inn)).size ≤ 140737488351232 := by
   rw [ni]
   have := iw inn (c :: t)
   omega
  have hword : isWord ((c :: t).takeWhile inn) = true := by
   have hi : inn c = true := by simp [inn, c1]
   rw [List.takeWhile_cons, if_pos hi]
   simp only [isWord, c1, Bool.true_and, List.all_cons, hi]
   exact pG inn t
  refine EvTo.bind (G := fun k t122 => (if t122 = true then (some (5, S ((c :: t).takeWhile inn), 0, 0, ((S ((c :: t).takeWhile inn)).size : Int), 0)) else ((ed.f k (S ((c :: t).takeWhile inn))).bind fun t123 => (if t123 = true then (some (1, S ((c :: t).takeWhile inn), 0, 0, ((S ((c :: t).takeWhile inn)).size : Int), 0)) else (some (0, (⟨#[]⟩ : ByteArray), 0, 0, 0, 10)))))) (H6 _ hw) ?_
  rw [L_S]
  by_cases c2 : isKey ((c :: t).takeWhile inn) = true
  ·refine EvTo.pos c2 ?_
   rw [if_pos c2]
   simp only [zg, ni]
   exact EvTo.now
  refine EvTo.neg c2 ?_
  rw [if_neg c2]
  refine EvTo.bind (G := fun k t123 => (if t123 = true then (some (1, S ((c :: t).takeWhile inn), 0, 0, ((S ((c :: t).takeWhile inn)).size : Int), 0)) else (some (0, (⟨#[]⟩ : ByteArray), 0, 0, 0, 10)))) (zV _ hw) ?_
  rw [L_S]
  have hn : jD ((c :: t).takeWhile inn) = decide (((c :: t).takeWhile inn).length ≤ 16) := by
   unfold jD
   rw [hword, show isKey ((c :: t).takeWhile inn) = false by simpa using c2]
   simp
  rw [hn]
  by_cases c3 : ((c :: t).takeWhile inn).length ≤ 16
  ·refine EvTo.pos (decide_eq_true c3) ?_
   rw [if_pos c3]
   simp only [zg, ni]
   exact EvTo.now
  refine EvTo.neg (by simpa using c3) ?_
  rw [if_neg c3]
  exact EvTo.now
 refine EvTo.neg c1 ?_
 rw [if_neg c1]
 by_cases c2 : di c = true
 ·refine EvTo.pos c2 ?_
  rw [if_pos c2]
  simp only [yC, Option.bind_some, hl]
  have hw : (S ((c :: t).takeWhile di)).size ≤ 140737488351232 := by
   rw [ni]
   have := iw di (c :: t)
   omega
  refine EvTo.bind (G := fun k (bt126 : Int × Bool) => (if bt126.2 = true then (some ((2 : Int), S ((c :: t).takeWhile di), bt126.1, 0, ((S ((c :: t).takeWhile di)).size : Int), 0)) else (some (0, (⟨#[]⟩ : ByteArray), 0, 0, 0, 10)))) (Ef _ hw) ?_
  rw [L_S]
  by_cases c3 : (numOf ((c :: t).takeWhile di)).2 = true
  ·refine EvTo.pos c3 ?_
   rw [if_pos c3]
   simp only [zg, ni]
   exact EvTo.now
  refine EvTo.neg c3 ?_
  rw [if_neg c3]
  exact EvTo.now
 refine EvTo.neg c2 ?_
 rw [if_neg c2]
 have e1 : ((c.toNat : Int) = 34) ↔ c = 34 := fA c 34
 by_cases c3 : c = 34
 ·refine EvTo.pos (e1.2 c3) ?_
  rw [if_pos c3]
  refine EvTo.bind (G := fun k (bt128 : ByteArray × Int) => (if bt128.2 > 0 then (some (3, bt128.1, 0, 0, bt128.2, 0)) else (some (0, (⟨#[]⟩ : ByteArray), 0, 0, 0, 10)))) (DJ s hs h1) ?_
  rw [hl]
  simp only [List.drop_succ_cons, List.drop_zero]
  cases hu : unq false t with
  | none =>
   refine EvTo.neg (by simp [jK]) ?_
   exact EvTo.now
  | some r =>
   obtain ⟨x, r⟩ := r
   have := mP t false x r hu
   have hz : s.size = t.length + 1 := by rw [L_size, hl]; rfl
   simp only [jK, List.nil_append]
   refine EvTo.pos (by omega) ?_
   rw [hz]
   exact EvTo.now
 refine EvTo.neg (fun h => c3 (e1.1 h)) ?_
 rw [if_neg c3]
 refine EvTo.bind (G := fun k (t130 : ByteArray) => (if t130.toList = ([] : List UInt8) then (some (0, (⟨#[]⟩ : ByteArray), 0, 0, 0, 9)) else (some (4, t130, 0, 0, (t130.size : Int), 0)))) (Il s hs h1) ?_
 rw [hl]
 by_cases c4 : mark (c :: t) = []
 ·refine EvTo.pos (by rw [isE, L_S]; exact c4) ?_
  simp only [if_pos c4]
  exact EvTo.now
 refine EvTo.neg (by rw [isE, L_S]; exact c4) ?_
 simp only [if_neg c4, zg, ni]
 exact EvTo.now
/-! Scan -/
def tkS (total : Nat) (t : Tk) : S38 := ⟨t.kind, S t.text, t.n, ((total - t.rem : Nat) : Int)⟩
def oZ (total : Nat) (acc : List S38) : Except (Int × Nat) (List Tk) → List S38 × Int × Int
 | .ok ts => (acc ++ ts.map (tkS total), 0, 0)
 | .error (e, r) => ([], e, ((total - r : Nat) : Int))
theorem oq {l : List UInt8} {e : Int} (h : Lex.one l = .error e) (hl : l ≠ []) : e ≠ 0 := by
 unfold Lex.one at h
 split at h
 ·exact absurd rfl hl
 simp only [] at h
 repeat' split at h
 all_goals cases h
 all_goals decide
theorem Io (x0 : ByteArray) (h0 : x0.size ≤ 8192) : ∀ (f : Nat) (s : ByteArray) (acc : List S38), s.size < f → s.size ≤ x0.size → acc.length + s.size ≤ x0.size →
 EvTo (fun k => lex_Scan.l0 k x0 acc s) (oZ x0.size acc (toks f (L s))) := by
 intro f
 induction f with
 | zero => intro s acc h; omega
 | succ f ih =>
  intro s acc h1 h2 h3
  rcases hl : L s with _ | ⟨c, t⟩
  ·refine EvTo.step (G := fun _ => some (oZ x0.size acc (toks (f + 1) []))) (fun k => ?_) EvTo.now
   simp only [lex_Scan.l0]
   rw [if_pos (by rw [isE]; exact hl)]
   simp [toks, oZ]
  have hsz : s.size = t.length + 1 := by rw [L_size, hl]; rfl
  have hn := II s (by omega) (by omega)
  refine EvTo.step (fun k => by
   conv => lhs; simp only [lex_Scan.l0]
   rw [if_neg (by rw [isE, hl]; simp)]) (EvTo.bind hn ?_)
  rw [hl]
  simp only [toks]
  cases ho : Lex.one (c :: t) with
  | error e =>
   simp only [zg]
   refine EvTo.neg (oq ho (by simp)) ?_
   refine EvTo.jv (fun k => ?_)
   rw [w64 _ (by omega)]
   simp only [oZ, List.length_cons]
   congr 3
   omega
  | ok r =>
   obtain ⟨kd, x, n, m⟩ := r
   have hm := oI ho
   simp only [List.length_cons] at hm
   simp only [zg]
   refine EvTo.pos trivial (EvTo.pos (by omega) (EvTo.pos (by omega) (EvTo.pos (by omega) ?_)))
   simp only [kV.f, Option.bind_some]
   have e1 : L (l7 (s.extract (m : Int).toNat s.size)) = skp false ((c :: t).drop m) := by
    rw [tC, lm, hl, Int.toNat_natCast, List.take_of_length_le]
    rw [List.length_drop, hsz]; simp
   have e2 : (l7 (s.extract (m : Int).toNat s.size)).size ≤ s.size - m := by
    rw [L_size, e1]
    have := gU ((c :: t).drop m) false
    rw [List.length_drop] at this
    simp only [List.length_cons] at this
    omega
   have := ih (l7 (s.extract (m : Int).toNat s.size)) (acc ++ [(⟨kd, S x, n, wrap64 ((x0.size : Int) - (s.size : Int))⟩ : S38)]) (by omega) (by omega) (by simp only [List.length_append, List.length_cons, List.length_nil]; omega)
   rw [e1] at this
   have e4 : wrap64 ((x0.size : Int) - (s.size : Int)) = ((x0.size - (c :: t).length : Nat) : Int) := by
    rw [w64 _ (by omega)]
    simp only [List.length_cons]
    omega
   rw [e4] at this ⊢
   generalize toks f (skp false ((c :: t).drop m)) = o at this ⊢
   cases o with
   | error e => exact this
   | ok ts => simpa only [oZ, List.map_cons, tkS, List.append_assoc, List.singleton_append] using this
/-- What Scan answers. -/
def pM (s : ByteArray) : List S38 × Int × Int := if s.size ≤ 8192 then oZ s.size [] (Lex.scan (L s)) else ([], 3, 0)
theorem EW (s : ByteArray) : EvTo (fun k => lex_Scan.f k s) (pM s) := by
 unfold lex_Scan.f pM
 by_cases h : s.size ≤ 8192
 ·refine EvTo.neg (by omega) ?_
  rw [if_pos h]
  simp only [kV.f, Option.bind_some]
  have hl := gU (L s) false
  have e : (l7 s).size ≤ s.size := by rw [L_size, tC, L_size]; exact hl
  have := Io s h (s.size + 1) (l7 s) [] (by omega) e (by simpa using e)
  rw [tC] at this
  unfold Lex.scan
  rw [← L_size]
  exact this
 refine EvTo.pos (by omega) ?_
 rw [if_neg h]
 exact EvTo.now
end Go.Proofs.Ytendgafpkeadhaa.Lex
end
section
set_option linter.unusedVariables false
set_option linter.unusedSimpArgs false
namespace Go.Proofs.Ytendgafpkeadhaa.Lex
open Go Go.RowKit Go.Proofs.YtendgafpkeadhaaW.PrintWords Go.Proofs.Ytendgafpkeadhaa.Q
theorem xN : ∀ (f : Nat) (l : List UInt8) (e : Int) (r : Nat), toks f l = .error (e, r) → e ≠ 0 ∧ 1 ≤ r ∧ r ≤ l.length
 | 0, l, e, r, h => by simp [toks] at h
 | f + 1, [], e, r, h => by simp [toks] at h
 | f + 1, c :: u, e, r, h => by
  simp only [toks] at h
  split at h
  ·rename_i e1 ho
   simp only [Except.error.injEq, Prod.mk.injEq] at h
   obtain ⟨rfl, rfl⟩ := h
   exact ⟨oq ho (by simp), by simp, Nat.le_refl _⟩
  rename_i k x n m ho
  split at h
  ·rename_i e2 h2
   simp only [Except.error.injEq] at h
   subst h
   have := xN f _ e r h2
   have h3 := gU ((c :: u).drop m) false
   rw [List.length_drop] at h3
   exact ⟨this.1, this.2.1, by omega⟩
  cases h
theorem D7 {l : List UInt8} {e : Int} {r : Nat} (h : Lex.scan l = .error (e, r)) : e ≠ 0 ∧ 1 ≤ r ∧ r ≤ l.length := by
 have := xN _ _ e r h
 have h3 := gU l false
 exact ⟨this.1, this.2.1, by omega⟩
theorem rQ : ∀ (l : List UInt8) (b : Bool) (x r : List UInt8), unq b l = some (x, r) → x.length ≤ l.length
 | [], b, x, r, h => by cases b <;> simp [unq] at h
 | c :: t, true, x, r, h => by
  simp only [unq] at h
  split at h
  ·cases h
  simp only [Option.map_eq_some_iff, Prod.mk.injEq] at h
  obtain ⟨⟨y, s⟩, h1, h2, h3⟩ := h
  have := rQ t false y s h1
  subst h2
  simp only [List.length_cons]
  omega
 | c :: t, false, x, r, h => by
  simp only [unq] at h
  split at h
  ·simp only [Option.some.injEq, Prod.mk.injEq] at h
   rw [← h.1]; simp
  split at h
  ·cases h
  split at h
  ·have := rQ t true x r h
   simp only [List.length_cons]; omega
  simp only [Option.map_eq_some_iff, Prod.mk.injEq] at h
  obtain ⟨⟨y, s⟩, h1, h2, h3⟩ := h
  have := rQ t false y s h1
  subst h2
  simp only [List.length_cons]
  omega
theorem Gi {l : List UInt8} {k : Int} {x : List UInt8} {n : Int} {m : Nat} (h : Lex.one l = .ok (k, x, n, m)) : x.length ≤ l.length := by
 cases l with
 | nil => simp [Lex.one] at h
 | cons c t =>
  have h1 := iw inn (c :: t)
  have h2 := iw di (c :: t)
  have h3 := tV (c :: t)
  simp only [Lex.one] at h
  repeat' split at h
  all_goals first
   | (cases h; done)
   | (simp only [Except.ok.injEq, Prod.mk.injEq] at h; obtain ⟨_, rfl, _, _⟩ := h; first | exact h1 | exact h2 | exact h3 | (have := rQ _ _ _ _ ‹unq _ _ = some _›; simp only [List.length_cons]; omega))
theorem xO : ∀ (f : Nat) (l : List UInt8) (ts : List Tk), toks f l = .ok ts → ts.length ≤ l.length ∧ ∀ t ∈ ts, 1 ≤ t.rem ∧ t.rem ≤ l.length ∧ t.text.length ≤ l.length
 | 0, l, ts, h => by
  simp only [toks, Except.ok.injEq] at h
  subst h
  exact ⟨by simp, fun t ht => by cases ht⟩
 | f + 1, [], ts, h => by
  simp only [toks, Except.ok.injEq] at h
  subst h
  exact ⟨by simp, fun t ht => by cases ht⟩
 | f + 1, c :: u, ts, h => by
  simp only [toks] at h
  split at h
  ·cases h
  rename_i k x n j ho
  split at h
  ·cases h
  rename_i us hu
  simp only [Except.ok.injEq] at h
  subst h
  have hj := oI ho
  have hs := gU ((c :: u).drop j) false
  rw [List.length_drop] at hs
  obtain ⟨h1, h2⟩ := xO f _ us hu
  refine ⟨by simp only [List.length_cons] at *; omega, fun t ht => ?_⟩
  rcases List.mem_cons.1 ht with rfl | ht
  ·exact ⟨by simp, Nat.le_refl _, Gi ho⟩
  have := h2 t ht
  omega
theorem yf {l : List UInt8} {ts : List Tk} (h : Lex.scan l = .ok ts) : ts.length ≤ l.length ∧ ∀ t ∈ ts, 1 ≤ t.rem ∧ t.rem ≤ l.length ∧ t.text.length ≤ l.length := by
 obtain ⟨h1, h2⟩ := xO _ _ _ h
 have h3 := gU l false
 exact ⟨by omega, fun t ht => by have := h2 t ht; omega⟩
end Go.Proofs.Ytendgafpkeadhaa.Lex
end
