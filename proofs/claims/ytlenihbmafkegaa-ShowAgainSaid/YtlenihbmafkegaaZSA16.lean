/- Walks over functions of the program, words for them, and what the functions come to; of each text only what this claim uses; no condition. -/
import Derived.Test.YtlenihbmafkegaaZSA0
import Derived.Test.YtlenihbmafkegaaZSA11
import Derived.Test.YtlenihbmafkegaaZSA14
import Derived.Test.YtlenihbmafkegaaZSA15
section
set_option linter.unusedVariables false
set_option linter.unusedSimpArgs false
namespace Go.Proofs.Ytlenihbmafkegaa.Par
open Go Go.RowKit Go.Proofs.YtlenihbmafkegaaW.PrintWords Go.Proofs.Ytlenihbmafkegaa.Q Go.Proofs.Ytlenihbmafkegaa.Lex Go.Proofs.Ytlenihbmafkegaa.Tree
def sz (e : List S40) : Nat := e.length + 1
/-- What the family's functions tell. -/
structure Ih (S : PF) (FF : Nat → Fam) : Prop where
 expr : ∀ (ts : List S56) (q : Nat), ts.length ≤ 40000 → q ≤ ts.length → ak ts q 2 sz (fun k => (FF k).expr ts (q : Int) false) (S.expr (ts.drop q))
 block : ∀ (ts : List S56) (q : Nat), ts.length ≤ 40000 → q ≤ ts.length → ak ts q 2 sz (fun k => (FF k).block ts (q : Int) false) (S.block (ts.drop q))
 bound : ∀ (a : Int), 1 ≤ a → a ≤ 6 → ∀ (ts : List S56) (q : Nat), ts.length ≤ 40000 → q ≤ ts.length → ak ts q 2 sz (fun k => (FF k).bound ts (q : Int) false a) (S.bound a (ts.drop q))
 unary : ∀ (ts : List S56) (q : Nat), ts.length ≤ 40000 → q ≤ ts.length → ak ts q 2 sz (fun k => (FF k).unary ts (q : Int) false) (S.unary (ts.drop q))
theorem ak.shift {α : Type} {ts : List S56} {q c : Nat} {sA : α → Nat} {F : Nat → Option (α × Int × Bool)} {P : R α} (h : ak ts q c sA F P) : ak ts q c sA (fun k => F (k + 1)) P := by
 match P, h with
 | .ok (x, r), ⟨p, h1, h2, h3, h4, h5⟩ => exact ⟨p, h1, h2, h3, h4, ag.shift h5⟩
 | .error (some r), ⟨x, p, h1, h2, h3, h4, h5⟩ => exact ⟨x, p, h1, h2, h3, h4, ag.shift h5⟩
 | .error none, _ => trivial
theorem Ih.shift {S : PF} {FF : Nat → Fam} (h : Ih S FF) : Ih S (fun k => FF (k + 1)) :=
 ⟨fun ts q a b => ak.shift (h.expr ts q a b), fun ts q a b => ak.shift (h.block ts q a b), fun a h1 h2 ts q b c => ak.shift (h.bound a h1 h2 ts q b c), fun ts q a b => ak.shift (h.unary ts q a b)⟩
/-- From a later place on: told from an earlier one. -/
theorem ak.from' {α : Type} {ts : List S56} {q q0 c d : Nat} {sA : α → Nat} {F : Nat → Option (α × Int × Bool)} {P : R α} (h : ak ts q c sA F P) (h1 : q0 ≤ q) (h2 : c ≤ 2 * (q - q0) + d) : ak ts q0 d sA F P := by
 match P, h with
 | .ok (x, r), ⟨p, g1, g2, g3, g4, g5⟩ => exact ⟨p, by omega, g2, g3, by omega, g5⟩
 | .error (some r), ⟨x, p, g1, g2, g3, g4, g5⟩ => exact ⟨x, p, by omega, g2, g3, by omega, g5⟩
 | .error none, _ => trivial
/-- Something is found out first. -/
theorem ak.evB {α β : Type} {ts : List S56} {q c : Nat} {sz : β → Nat} {F : Nat → Option α} {G : Nat → α → Option (β × Int × Bool)} {v : α} {P : R β} (h : ag F v) (g : ak ts q c sz (fun k => G k v) P) : ak ts q c sz (fun k => (F k).bind (G k)) P := by
 match P, g with
 | .ok (x, r), ⟨p, h1, h2, h3, h4, h5⟩ => exact ⟨p, h1, h2, h3, h4, ag.bind h h5⟩
 | .error (some r), ⟨x, p, h1, h2, h3, h4, h5⟩ => exact ⟨x, p, h1, h2, h3, h4, ag.bind h h5⟩
 | .error none, _ => trivial
/-- A node that is made at the end. -/
theorem ak.node {ts : List S56} {q p d : Nat} {k0 : Int} {nm : ByteArray} {n : Int} {tx : ByteArray} {z : Int} {kids : List (List S40)} (hq : q ≤ p) (hp : p ≤ ts.length) (hts : ts.length ≤ 40000) (hk : kids.length ≤ 1000000) (hs : kids.flatten.length + 2 ≤ 2 * (p - q)) :
 ak ts q d sz (fun k => (az.f k k0 z nm n tx kids).bind fun t => some (t, (p : Int), false)) (ret (nd k0 nm n tx kids) (ts.drop p)) :=
 ak.done _ hq hp (by unfold sz; rw [fE]; omega) (iF hk (by omega) ag.now)
/-- A node that is made behind a fault. -/
theorem ak.ql {q p d : Nat} {k0 : Int} {nm : ByteArray} {n : Int} {tx : ByteArray} {z : Int} {kids : List (List S40)} (hk : kids.length ≤ 1000000) (hs : kids.flatten.length + 2 ≤ 2 * (p - q) + d) (hb : p ≤ 100000) (hd : d ≤ 1000) :
 ∃ y, sz y ≤ 2 * (p - q) + d ∧ ag (fun k => (az.f k k0 z nm n tx kids).bind fun t => some (t, (p : Int), true)) (y, (p : Int), true) :=
 ⟨nd k0 nm n tx kids, by unfold sz; rw [fE]; omega, iF hk (by omega) ag.now⟩
theorem mG (e : List S40) : ([e] : List (List S40)).flatten.length = e.length := by simp
theorem kU (a b : List S40) : ([a, b] : List (List S40)).flatten.length = a.length + b.length := by simp
theorem flat3 (a b c : List S40) : ([a, b, c] : List (List S40)).flatten.length = a.length + (b.length + c.length) := by simp
theorem je (l : List (List S40)) (e : List S40) : (l ++ [e]).flatten.length = l.flatten.length + e.length := by simp
variable {ts : List S56} {S : PF} {FF : Nat → Fam}
theorem wX (hts : ts.length ≤ 40000) (I : Ih S FF) (H : OkB FF) (k0 : Int) (nm : ByteArray) (q : Nat) (hq : q ≤ ts.length) :
 ak ts q 3 sz (fun k => bH.f (FF k) k ts (q : Int) false k0 0 nm 0 E) (iM S k0 nm (ts.drop q)) := by
 unfold bH.f iM
 refine ak.bind (I.expr ts q hts hq) (fun e p h1 h2 h3 => ?_) (fun e p h1 h2 h3 => ?_)
 ·unfold sz at h3
  dsimp only
  refine ak.must ⟨#[59]⟩ [59] (iE _ _ rfl) (by simp) h2 hts h1 (fun h4 => ?_) ?_
  ·dsimp only
   exact ak.node (by omega) h4 hts (by simp) (by rw [mG]; omega)
  dsimp only
  exact ak.ql (by simp) (by rw [mG]; omega) (by omega) (by omega)
 unfold sz at h3
 obtain ⟨y, g1, g2⟩ := ak.ql (q := q) (p := p) (d := 3) (k0 := k0) (nm := nm) (n := 0) (tx := E) (z := 0) (kids := [e]) (by simp) (by rw [mG]; omega) (by omega) (by omega)
 refine ⟨y, h1, g1, ?_⟩
 dsimp only
 rw [iO _ [59] rfl (by simp)]
 exact g2
theorem Ic (hts : ts.length ≤ 40000) (k0 : Int) (q q0 : Nat) (hq : q ≤ ts.length) (h0 : q0 < q) : ak ts q0 3 sz (fun k => dU.f k ts (q : Int) false k0) (pO k0 (ts.drop q)) := by
 unfold dU.f pO
 refine ak.must ⟨#[59]⟩ [59] (iE _ _ rfl) (by simp) hq hts (by omega) (fun h4 => ?_) ?_
 ·dsimp only
  exact ak.node (by omega) h4 hts (by simp) Z11
 dsimp only
 exact ak.ql (by simp) Z11 (by omega) (by omega)
theorem FM (e : List S40) (a b : List S40) (h : rq e = some (a, b)) : a.length + b.length + 1 ≤ e.length := by
 unfold rq pG at h
 by_cases c : jS e 0 < 0
 ·rw [if_pos c] at h; cases h
 rw [if_neg c] at h
 have hne : 1 ≤ e.length := by
  obtain ⟨j, m, _, _, _, h1, h2⟩ := oJ c
  omega
 have key : ∀ w, (match its e w (0 + 1) with | a :: b :: _ => some (sH e a, sH e b) | _ => none) = some (a, b) → a.length + b.length + 1 ≤ e.length := by
  intro w hw
  match w, hw with
  | 0, hw => cases hw
  | 1, hw => cases hw
  | w + 2, hw =>
   simp only [its] at hw
   obtain ⟨rfl, rfl⟩ := Prod.mk.inj (Option.some.inj hw)
   unfold sH
   by_cases c1 : jS e (0 + 1) < 0
   ·rw [if_pos c1, EU c1, if_pos (show jS e (-1) < 0 by unfold jS; rw [if_pos (by omega)]; omega)]
    simp; omega
   rw [if_neg c1]
   obtain ⟨j, m, hj, _, hE, h1, h2⟩ := oJ c1
   rw [hE]
   by_cases c2 : jS e ((j + m : Nat) : Int) < 0
   ·rw [if_pos c2]
    rw [List.length_drop, List.length_take]; simp; omega
   rw [if_neg c2]
   obtain ⟨j2, m2, hj2, _, hE2, g1, g2⟩ := oJ c2
   rw [hE2, List.length_drop, List.length_take, List.length_drop, List.length_take]
   omega
 exact key _ h
theorem GX (e : List S40) (a b : List S40) (h : rq e = some (a, b)) : ∃ x y l, pG e 0 = x :: y :: l ∧ sH e x = a ∧ sH e y = b := by
 unfold rq at h
 match hk : pG e 0, h with
 | x :: y :: l, h =>
  obtain ⟨h1, h2⟩ := Prod.mk.inj (Option.some.inj h)
  exact ⟨x, y, l, rfl, h1, h2⟩
theorem rd0 (x y : Int) (l : List Int) : rd (x :: y :: l) 0 = x := rfl
theorem rd1 (x y : Int) (l : List Int) : rd (x :: y :: l) 1 = y := rfl
theorem Gm (hts : ts.length ≤ 40000) (I : Ih S FF) (H : OkB FF) (e : List S40) (b : Bool) (q p : Nat) (h1 : q ≤ p) (hp : p ≤ ts.length) (h3 : e.length + 1 ≤ 2 * (p - q)) (hb : b = decide (wd (ts.drop p) ≠ [61])) :
 ak ts q 3 sz (fun k => aZ.j0 (FF k) k e b ts (p : Int) false) (qg S e (ts.drop p)) := by
 unfold qg
 refine ak.step (fun k => by rw [aZ.j0]) ?_
 by_cases c : wd (ts.drop p) ≠ [61]
 ·rw [if_pos c]
  refine ak.pos Z22 ?_
  refine ak.must ⟨#[59]⟩ [59] (iE _ _ rfl) (by simp) hp hts h1 (fun h4 => ?_) ?_
  ·dsimp only
   exact ak.node (by omega) h4 hts (by simp) (by rw [mG]; omega)
  dsimp only
  exact ak.ql (by simp) (by rw [mG]; omega) (by omega) (by omega)
 rw [if_neg c]
 refine ak.neg (by rw [hb]; simpa using c) ?_
 cases e with
 | nil => trivial
 | cons x t =>
  have hr : au (x :: t) 0 = x := rfl
  refine ak.pos Z26 ?_
  simp only [hr]
  simp only [List.length_cons] at h3
  by_cases c1 : x.f0 = 21
  ·simp only [if_pos c1]
   refine ak.must ⟨#[61]⟩ [61] (iE _ _ rfl) (by simp) hp hts h1 (fun h4 => ?_) ?_
   ·refine ak.congr (G := fun k => bH.f (FF (k + 1)) k ts ((p + 1 : Nat) : Int) false 7 0 x.f2 0 E) (fun k => ?_) ?_
    ·show (bH.f _ _ _ _ _ _ _ _ _ E).bind _ = _
     cases bH.f (FF (k + 1)) k ts ((p + 1 : Nat) : Int) false 7 0 x.f2 0 E <;> rfl
    exact ak.from' (wX hts I.shift H.shift 7 x.f2 (p + 1) h4) (by omega) (by omega)
   refine ⟨nd 7 x.f2 0 E [[]], by unfold sz; rw [fE, mG, List.length_nil]; omega, ag.bind (rV H.shift 7 x.f2) ag.now⟩
  simp only [if_neg c1]
  by_cases c2 : x.f0 = 26
  ·simp only [if_pos c2]
   unfold pY
   match hk : rq (x :: t) with
   | none => trivial
   | some (a, b') =>
    have hs := FM _ _ _ hk
    obtain ⟨k0, k1, kl, e1, e2, e3⟩ := GX _ _ _ hk
    simp only [List.length_cons] at hs
    have hlen : (x :: t).length ≤ 100000 := by simp only [List.length_cons]; omega
    have hKK := I7 (x :: t) hlen 0
    rw [e1] at hKK
    have hS0 := KR (x :: t) hlen k0
    have hS1 := KR (x :: t) hlen k1
    rw [e2] at hS0
    rw [e3] at hS1
    have hl0 : (0 : Int) < ((k0 :: k1 :: kl).length : Int) := by simp only [List.length_cons]; omega
    have hl1 : (1 : Int) < ((k0 :: k1 :: kl).length : Int) := by simp only [List.length_cons]; omega
    have tailE : ∀ (v : List S40) (p2 : Nat) (bb : Bool) (z : List S40 × Int × Bool), ag (fun k => (az.f k 8 0 E 0 E [a, b', v]).bind fun t => some (t, (p2 : Int), bb)) z →
     ag (fun k => (if 0 < ((k0 :: k1 :: kl).length : Int) then ((fM.f k (x :: t) (rd (k0 :: k1 :: kl) 0)).bind fun t338 => (if 1 < ((k0 :: k1 :: kl).length : Int) then ((fM.f k (x :: t) (rd (k0 :: k1 :: kl) 1)).bind fun t342 => ((az.f k 8 0 E 0 E (([t338, t342, v] : List (List S40)))).bind fun t348 => (some (t348, (p2 : Int), bb)))) else (none))) else (none))) z := by
     intro v p2 bb z hz
     refine ag.pos hl0 ?_
     rw [rd0]
     refine ag.bind hS0 (ag.pos hl1 ?_)
     rw [rd1]
     exact ag.bind hS1 hz
    refine ak.must ⟨#[61]⟩ [61] (iE _ _ rfl) (by simp) hp hts h1 (fun h4 => ?_) ?_
    ·dsimp only
     refine ak.evB hKK ?_
     refine ak.bind (I.shift.expr ts (p + 1) hts h4) (fun v p2 g1 g2 g3 => ?_) (fun v p2 g1 g2 g3 => ?_)
     ·unfold sz at g3
      dsimp only
      refine ak.must ⟨#[59]⟩ [59] (iE _ _ rfl) (by simp) g2 hts (by omega) (fun h5 => ?_) ?_
      ·dsimp only
       refine ak.done _ (by omega) h5 ?_ (tailE _ _ _ _ (iF (by simp) (by rw [flat3]; omega) ag.now))
       unfold sz; rw [fE, flat3]; omega
      dsimp only
      refine ⟨_, ?_, tailE _ _ _ _ (iF (by simp) (by rw [flat3]; omega) ag.now)⟩
      unfold sz; rw [fE, flat3]; omega
     unfold sz at g3
     dsimp only
     refine ⟨nd 8 E 0 E [a, b', v], by omega, ?_, ?_⟩
     ·unfold sz; rw [fE, flat3]; omega
     rw [iO _ [59] rfl (by simp)]
     exact tailE _ _ _ _ (iF (by simp) (by rw [flat3]; omega) ag.now)
    dsimp only
    refine ⟨nd 8 E 0 E [a, b', []], ?_, ?_⟩
    ·unfold sz; rw [fE, flat3, List.length_nil]; omega
    refine ag.bind hKK (ag.bind (H.shift.expr ts _) ?_)
    dsimp only
    rw [iO _ [59] rfl (by simp)]
    exact tailE _ _ _ _ (iF (by simp) (by rw [flat3, List.length_nil]; omega) ag.now)
  simp only [if_neg c2]
  exact ⟨[], p, h1, hp, rfl, by unfold sz; simp only [List.length_nil]; omega, ag.now⟩
end Go.Proofs.Ytlenihbmafkegaa.Par
end
section
set_option linter.unusedVariables false
set_option linter.unusedSimpArgs false
namespace Go.Proofs.Ytlenihbmafkegaa.Par
open Go Go.RowKit Go.Proofs.YtlenihbmafkegaaW.PrintWords Go.Proofs.Ytlenihbmafkegaa.Q Go.Proofs.Ytlenihbmafkegaa.Lex Go.Proofs.Ytlenihbmafkegaa.Tree
variable {ts : List S56} {S : PF} {FF : Nat → Fam}
theorem Gy (a b : List UInt8) : (a != b) = decide (a ≠ b) := by by_cases h : a = b <;> simp [h]
theorem eqb (a b : List UInt8) : (a == b) = decide (a = b) := by by_cases h : a = b <;> simp [h]
theorem ak.ite {α : Type} {q d : Nat} {sA : α → Nat} {F G : Nat → Option (α × Int × Bool)} {P1 P2 : R α} {c : Prop} [Decidable c] (h1 : c → ak ts q d sA F P1) (h2 : ¬c → ak ts q d sA G P2) :
 ak ts q d sA (fun k => if c then F k else G k) (if c then P1 else P2) := by
 by_cases h : c
 ·rw [if_pos h]; exact ak.pos h (h1 h)
 rw [if_neg h]; exact ak.neg h (h2 h)
theorem ak.idb {α : Type} {q d : Nat} {sA : α → Nat} {F : Nat → Option (α × Int × Bool)} {P : R α} (h : ak ts q d sA F P) : ak ts q d sA (fun k => (F k).bind fun b => some (b.1, b.2.1, b.2.2)) P :=
 ak.congr (fun k => by cases F k <;> rfl) h
theorem ak.tkw {β : Type} {q p d : Nat} {sB : β → Nat} {G : Nat → Bool × Int × Bool → Option (β × Int × Bool)} {f : Unit → Ps β} (wl : List UInt8) (hc : (wB (ts.drop p)).toList = wl) (hw : wl ≠ []) (hts : ts.length ≤ 40000)
 (hok : p + 1 ≤ ts.length → ak ts q d sB (fun k => G k (true, ((p + 1 : Nat) : Int), false)) (f () (ts.drop (p + 1)))) :
 ak ts q d sB (fun k => (aH.f ts (p : Int) false (wB (ts.drop p))).bind (G k)) (bnd Par.tk f (ts.drop p)) := ak.tk (wB (ts.drop p)) (by rw [hc]; exact hw) rfl hts hok
theorem ak.yt {β : Type} {q p d : Nat} {sB : β → Nat} {G : Nat → Bool × Int × Bool → Option (β × Int × Bool)} {f : Unit → Ps β} {P2 : R β} (w : ByteArray) (wl : List UInt8) (hwl : w.toList = wl) (hw : wl ≠ []) (hp : p ≤ ts.length) (hts : ts.length ≤ 40000)
 (hok : p + 1 ≤ ts.length → ak ts q d sB (fun k => G k (true, ((p + 1 : Nat) : Int), false)) (f () (ts.drop (p + 1)))) (hno : wd (ts.drop p) ≠ wl → ak ts q d sB (fun k => G k (false, (p : Int), false)) P2) :
 ak ts q d sB (fun k => (aH.f ts (p : Int) false w).bind (G k)) (if wd (ts.drop p) = wl then (bnd Par.tk f) (ts.drop p) else P2) := by
 by_cases c : wd (ts.drop p) = wl
 ·rw [if_pos c]
  exact ak.tk w (by rw [hwl]; exact hw) (by rw [hwl]; exact c) hts hok
 rw [if_neg c, yl ts p (by omega) w (by rw [hwl]; exact hw), if_neg (by rw [hwl]; exact c)]
 exact hno c
theorem takeB {q : Int} (w : ByteArray) (wl : List UInt8) (hwl : L w = wl) (hw : wl ≠ []) : aH.f ts q true w = some (false, q, true) := zJ ts q w (by rw [iE w wl hwl]; exact hw)
theorem Jk (hts : ts.length ≤ 40000) (I : Ih S FF) (H : OkB FF) (q : Nat) (hq : q ≤ ts.length) :
 ak ts q 3 sz (fun k => aZ.f (FF k) k ts (q : Int) false) (o7 S (ts.drop q)) := by
 unfold aZ.f o7
 refine ak.bind (I.expr ts q hts hq) (fun e p h1 h2 h3 => ?_) (fun e p h1 h2 h3 => ?_)
 ·unfold sz at h3
  dsimp only
  refine ak.neg (by simp) ?_
  rw [lQ]
  simp only [Option.bind_some]
  exact Gm hts I H e _ q p h1 h2 h3 (Gy _ _)
 unfold sz at h3
 dsimp only
 refine ⟨nd 17 E 0 E [e], h1, by unfold sz; rw [fE, mG]; omega, ag.pos rfl ?_⟩
 refine ag.step (fun k => by rw [aZ.j0]) ?_
 refine ag.pos rfl ?_
 rw [iO _ [59] rfl (by simp)]
 exact iF (by simp) (by rw [mG]; omega) ag.now
theorem NS (hts : ts.length ≤ 40000) (I : Ih S FF) (H : OkB FF) (q : Nat) (hq : q ≤ ts.length) (hw : (wB (ts.drop q)).toList = [108, 101, 116]) :
 ak ts q 3 sz (fun k => (aH.f ts (q : Int) false (wB (ts.drop q))).bind fun bt354 => ((bD.f ts bt354.2.1 bt354.2.2 1).bind fun bt357 => ((aC.f ts bt357.2.2.2.2.1 bt357.2.2.2.2.2 (⟨#[61]⟩ : ByteArray)).bind fun bt363 => ((bH.f (FF k) k ts bt363.1 bt363.2 6 0 bt357.2.1 0 E).bind fun bt365 => some (bt365.1, bt365.2.1, bt365.2.2)))))
  ((bnd Par.tk fun _ => bnd (Par.need 1) fun t => bnd (Par.must [61]) fun _ => iM S 6 t.f1) (ts.drop q)) := by
 refine ak.tkw _ hw (by simp) hts (fun h1 => ?_)
 refine ak.need 1 h1 hts (by omega) (fun t h2 _ => ?_) ?_
 ·refine ak.must ⟨#[61]⟩ [61] (iE _ _ rfl) (by simp) h2 hts (by omega) (fun h3 => ?_) ?_
  ·exact ak.idb (ak.from' (wX hts I H 6 t.f1 (q + 1 + 1 + 1) h3) (by omega) (by omega))
  dsimp only
  exact ⟨nd 6 t.f1 0 E [[]], by unfold sz; rw [fE, mG, List.length_nil]; omega, ag.bind (rV H 6 t.f1) ag.now⟩
 dsimp only
 refine ⟨nd 6 E 0 E [[]], by unfold sz; rw [fE, mG, List.length_nil]; omega, ?_⟩
 rw [iO _ [61] rfl (by simp)]
 simp only [Option.bind_some]
 exact ag.bind (rV H 6 E) ag.now
theorem oP : (nd 5 E 0 E []).length = 1 := rfl
theorem OD (hts : ts.length ≤ 40000) (I : Ih S FF) (H : OkB FF) (q : Nat) (hq : q ≤ ts.length) (hw : (wB (ts.drop q)).toList = [105, 102]) :
 ak ts q 3 sz (fun k => (aH.f ts (q : Int) false (wB (ts.drop q))).bind fun bt370 => ((iV.f (FF k) k ts bt370.2.1 bt370.2.2).bind fun bt373 => ((some (([bt373.1] : List (List S40)) : List (List S40))).bind fun y378 => ((kX.f (FF k) k ts bt373.2.1 bt373.2.2).bind fun bt381 => (if y378.length < 5864062014805 then ((some (y378 ++ [bt381.1] : List (List S40))).bind fun y386 => ((aH.f ts bt381.2.1 bt381.2.2 (⟨#[101, 108, 115, 101]⟩ : ByteArray)).bind fun bt389 => (if bt389.1 = true then ((kX.f (FF k) k ts bt389.2.1 bt389.2.2).bind fun bt392 => (if y386.length < 5864062014805 then ((az.f k 9 0 E 0 E (y386 ++ [bt392.1])).bind fun t400 => (some (t400, bt392.2.1, bt392.2.2))) else (none))) else ((az.f k 9 0 E 0 E y386).bind fun t403 => (some (t403, bt389.2.1, bt389.2.2)))))) else (none))))))
  ((bnd Par.tk fun _ => bnd S.expr fun e => bnd S.block fun b => fun l2 => if wd l2 = [101, 108, 115, 101] then (bnd Par.tk fun _ => bnd S.block fun c => ret (nd 9 E 0 E [e, b, c])) l2 else .ok (nd 9 E 0 E [e, b], l2)) (ts.drop q)) := by
 refine ak.tkw _ hw (by simp) hts (fun h1 => ?_)
 dsimp only
 refine ak.bind (I.expr ts (q + 1) hts h1) (fun e p g1 g2 g3 => ?_) (fun e p g1 g2 g3 => ?_)
 ·unfold sz at g3
  dsimp only
  simp only [Option.bind_some]
  refine ak.bind (I.block ts p hts g2) (fun b p2 f1 f2 f3 => ?_) (fun b p2 f1 f2 f3 => ?_)
  ·unfold sz at f3
   dsimp only
   refine ak.pos (by simp) ?_
   simp only [List.cons_append, List.nil_append]
   refine ak.yt _ _ (iE _ _ rfl) (by simp) f2 hts (fun h3 => ?_) (fun hn => ?_)
   ·refine ak.pos rfl ?_
    dsimp only
    refine ak.bind (I.block ts (p2 + 1) hts h3) (fun c p3 e1 e2 e3 => ?_) (fun c p3 e1 e2 e3 => ?_)
    ·unfold sz at e3
     dsimp only
     refine ak.pos (by simp) ?_
     exact ak.node (kids := [e, b, c]) (by omega) e2 hts (by simp) (by rw [flat3]; omega)
    unfold sz at e3
    dsimp only
    refine ⟨nd 9 E 0 E [e, b, c], by omega, by unfold sz; rw [fE, flat3]; omega, ag.pos (by simp) ?_⟩
    exact iF (kids := [e, b, c]) (by simp) (by rw [flat3]; omega) ag.now
   refine ak.neg (by simp) ?_
   exact ak.node (kids := [e, b]) (by omega) f2 hts (by simp) (by rw [kU]; omega)
  unfold sz at f3
  dsimp only
  refine ⟨nd 9 E 0 E [e, b], by omega, by unfold sz; rw [fE, kU]; omega, ag.pos (by simp) ?_⟩
  rw [takeB _ [101, 108, 115, 101] rfl (by simp)]
  simp only [Option.bind_some, List.cons_append, List.nil_append]
  exact ag.neg (by simp) (iF (by simp) (by rw [kU]; omega) ag.now)
 unfold sz at g3
 dsimp only
 simp only [Option.bind_some]
 refine ⟨nd 9 E 0 E [e, nd 5 E 0 E []], by omega, by unfold sz; rw [fE, kU, oP]; omega, ag.bind (H.block ts _) (ag.pos (by simp) ?_)⟩
 dsimp only
 rw [takeB _ [101, 108, 115, 101] rfl (by simp)]
 simp only [Option.bind_some, List.cons_append, List.nil_append]
 exact ag.neg (by simp) (iF (by simp) (by rw [kU, oP]; omega) ag.now)
theorem IJ (hts : ts.length ≤ 40000) (I : Ih S FF) (H : OkB FF) (q : Nat) (hq : q ≤ ts.length) (hw : (wB (ts.drop q)).toList = [119, 104, 105, 108, 101]) :
 ak ts q 3 sz (fun k => (aH.f ts (q : Int) false (wB (ts.drop q))).bind fun bt406 => ((iV.f (FF k) k ts bt406.2.1 bt406.2.2).bind fun bt409 => ((kX.f (FF k) k ts bt409.2.1 bt409.2.2).bind fun bt414 => ((az.f k 10 0 E 0 E (([bt409.1, bt414.1] : List (List S40)))).bind fun t422 => (some (t422, bt414.2.1, bt414.2.2))))))
  ((bnd Par.tk fun _ => bnd S.expr fun e => bnd S.block fun b => ret (nd 10 E 0 E [e, b])) (ts.drop q)) := by
 refine ak.tkw _ hw (by simp) hts (fun h1 => ?_)
 dsimp only
 refine ak.bind (I.expr ts (q + 1) hts h1) (fun e p g1 g2 g3 => ?_) (fun e p g1 g2 g3 => ?_)
 ·unfold sz at g3
  dsimp only
  refine ak.bind (I.block ts p hts g2) (fun b p2 f1 f2 f3 => ?_) (fun b p2 f1 f2 f3 => ?_)
  ·unfold sz at f3
   dsimp only
   exact ak.node (by omega) f2 hts (by simp) (by rw [kU]; omega)
  unfold sz at f3
  dsimp only
  exact ⟨nd 10 E 0 E [e, b], by omega, by unfold sz; rw [fE, kU]; omega, iF (by simp) (by rw [kU]; omega) ag.now⟩
 unfold sz at g3
 dsimp only
 exact ⟨nd 10 E 0 E [e, nd 5 E 0 E []], by omega, by unfold sz; rw [fE, kU, oP]; omega, ag.bind (H.block ts _) (iF (by simp) (by rw [kU, oP]; omega) ag.now)⟩
theorem MM (hts : ts.length ≤ 40000) (wl : List UInt8) (hwl : wl ≠ []) (a k0 : Int) (ha : k0 = if a = 0 then 16 else a) (q : Nat) (hq : q ≤ ts.length) (hw : (wB (ts.drop q)).toList = wl) :
 ak ts q 3 sz (fun k => ay.j0 (FF k) k (wB (ts.drop q)) a ts (q : Int) false) ((bnd Par.tk fun _ => pO k0) (ts.drop q)) := by
 refine ak.step (fun k => by rw [ay.j0]) ?_
 by_cases c : a = 0
 ·rw [if_pos c] at ha
  subst ha
  exact ak.pos c (ak.tkw _ hw hwl hts (fun h1 => ak.idb (Ic hts 16 (q + 1) q h1 (by omega))))
 rw [if_neg c] at ha
 subst ha
 exact ak.neg c (ak.tkw _ hw hwl hts (fun h1 => ak.idb (Ic hts k0 (q + 1) q h1 (by omega))))
theorem ML (hts : ts.length ≤ 40000) (I : Ih S FF) (H : OkB FF) (wl : List UInt8) (hwl : wl ≠ []) (a : Int) (ha : a ≠ 0) (q : Nat) (hq : q ≤ ts.length) (hw : (wB (ts.drop q)).toList = wl) :
 ak ts q 3 sz (fun k => ay.j1 (FF k) k (wB (ts.drop q)) a ts (q : Int) false) ((bnd Par.tk fun _ => iM S a E) (ts.drop q)) := by
 refine ak.step (fun k => by rw [ay.j1]) ?_
 exact ak.neg ha (ak.tkw _ hw hwl hts (fun h1 => ak.idb (ak.from' (wX hts I.shift H.shift a E (q + 1) h1) (by omega) (by omega))))
theorem Lj (hts : ts.length ≤ 40000) (I : Ih S FF) (H : OkB FF) (q : Nat) (hq : q ≤ ts.length) :
 ak ts q 3 sz (fun k => ay.f (FF k) k ts (q : Int) false) (jc S (ts.drop q)) := by
 refine ak.congr (fun k => by unfold ay.f; rw [lQ]) ?_
 unfold jc
 simp only [Option.bind_some]
 refine ak.ite (NS hts I H q hq) (fun _ => ?_)
 refine ak.ite (OD hts I H q hq) (fun _ => ?_)
 refine ak.ite (IJ hts I H q hq) (fun _ => ?_)
 refine ak.ite (fun c => ak.neg (by omega) (MM hts _ (by simp) 11 11 rfl q hq c)) (fun _ => ?_)
 refine ak.ite (fun c => ak.pos (by trivial) (MM hts _ (by simp) 12 12 rfl q hq c)) (fun _ => ?_)
 refine ak.ite (fun c => MM hts _ (by simp) 0 16 rfl q hq c) (fun _ => ?_)
 refine ak.ite (fun c => ML hts I H _ (by simp) 13 (by omega) q hq c) (fun _ => ?_)
 refine ak.ite (fun c => ML hts I H _ (by simp) 14 (by omega) q hq c) (fun _ => ?_)
 refine ak.ite (fun c => ML hts I H _ (by simp) 15 (by omega) q hq c) (fun _ => ?_)
 refine ak.step (fun k => by rw [ay.j1]) ?_
 exact ak.pos (by trivial) (ak.idb (Jk hts I.shift H.shift q hq))
end Go.Proofs.Ytlenihbmafkegaa.Par
end
section
set_option linter.unusedVariables false
set_option linter.unusedSimpArgs false
namespace Go.Proofs.Ytlenihbmafkegaa.Par
open Go Go.RowKit Go.Proofs.YtlenihbmafkegaaW.PrintWords Go.Proofs.Ytlenihbmafkegaa.Q Go.Proofs.Ytlenihbmafkegaa.Lex Go.Proofs.Ytlenihbmafkegaa.Tree
variable {ts : List S56} {S : PF} {FF : Nat → Fam}
/-- What a list of lists weighs. -/
def szK (ks : List (List S40)) : Nat := ks.flatten.length + ks.length + 2
theorem o9 (l : List (List S40)) (e : List S40) : (l ++ [e]).length = l.length + 1 := by simp
theorem JS (hts : ts.length ≤ 40000) (q0 : Nat) : ∀ (n : Nat) (FF : Nat → Fam) (I : Ih S FF) (H : OkB FF) (acc : List (List S40)) (q : Nat), q0 ≤ q → q ≤ ts.length → acc.flatten.length + acc.length + 2 ≤ 2 * (q - q0) →
 ak ts q0 2 sz (fun k => aN.l0 (FF k) k acc ts (q : Int) false) (nU S n acc (ts.drop q)) := by
 intro n
 induction n with
 | zero => intro FF I H acc q h0 hq hs; trivial
 | succ n ih =>
  intro FF I H acc q h0 hq hs
  unfold nU
  refine ak.step (fun k => by rw [aN.l0]) ?_
  refine ak.neg (by simp) ?_
  rw [lQ]
  simp only [Option.bind_some]
  refine ak.ite (fun c => ?_) (fun c => ?_)
  ·refine ak.must ⟨#[125]⟩ [125] (iE _ _ rfl) (by simp) hq hts h0 (fun h4 => ?_) ?_
   ·dsimp only
    refine ak.evB (wu 5 E 0 E 0 acc (by omega) (by omega)) ?_
    exact ak.done _ (by omega) h4 (by unfold sz; rw [fE]; omega) ag.now
   dsimp only
   exact ⟨nd 5 E 0 E acc, by unfold sz; rw [fE]; omega, iF (by omega) (by omega) ag.now⟩
  refine ak.bind (Lj hts I.shift H.shift q hq) (fun s p h1 h2 h3 => ?_) (fun s p h1 h2 h3 => ?_)
  ·unfold sz at h3
   dsimp only
   refine ak.pos (by omega) ?_
   exact ih (fun k => FF (k + 1)) I.shift H.shift (acc ++ [s]) p (by omega) h2 Z27
  unfold sz at h3
  dsimp only
  refine ⟨nd 5 E 0 E (acc ++ [s]), by omega, by unfold sz; rw [fE, je]; omega, ag.pos (by omega) ?_⟩
  refine ag.step (fun k => by rw [aN.l0]) ?_
  refine ag.pos rfl ?_
  rw [iO _ [125] rfl (by simp)]
  exact iF (by rw [o9]; omega) (by rw [je]; omega) ag.now
theorem Ec (hts : ts.length ≤ 40000) (I : Ih S FF) (H : OkB FF) (N : Nat) (q : Nat) (hq : q ≤ ts.length) :
 ak ts q 2 sz (fun k => aN.f (FF k) k ts (q : Int) false) (pz S N (ts.drop q)) := by
 unfold aN.f pz
 refine ak.must ⟨#[123]⟩ [123] (iE _ _ rfl) (by simp) hq hts (by omega) (fun h4 => ?_) ?_
 ·dsimp only
  exact JS hts q N FF I H [] (q + 1) (by omega) h4 Z11
 dsimp only
 refine ⟨nd 5 E 0 E [], by unfold sz; rw [oP]; omega, ?_⟩
 refine ag.step (fun k => by rw [aN.l0]) ?_
 refine ag.pos rfl ?_
 rw [iO _ [125] rfl (by simp)]
 exact iF (by simp) (by simp) ag.now
theorem Dx (hts : ts.length ≤ 40000) (q : Nat) (hq : q ≤ ts.length) : ak ts q 2 sz (fun k => dF.f k ts (q : Int) false) (nK (ts.drop q)) := by
 unfold dF.f nK
 refine ak.need 1 hq hts (by omega) (fun t h2 _ => ?_) ?_
 ·dsimp only
  exact ak.node (by omega) h2 hts (by simp) Z11
 dsimp only
 exact ak.ql (by simp) Z11 (by omega) (by omega)
theorem D7 (acc : List (List S40)) (q : Int) : ag (fun k => fA.l0 (FF k) k acc ts q true) (acc, q, true) := by
 refine ag.step (fun k => by rw [fA.l0]) ?_
 refine ag.pos rfl ?_
 refine ag.step (fun k => by rw [fA.j1]) ?_
 refine ag.neg (by simp) ?_
 rw [iO _ [41] rfl (by simp)]
 exact ag.now
theorem J4 (hts : ts.length ≤ 40000) (q0 : Nat) : ∀ (n : Nat) (FF : Nat → Fam) (I : Ih S FF) (H : OkB FF) (acc : List (List S40)) (q : Nat), q0 ≤ q → q ≤ ts.length → acc.flatten.length + acc.length + 2 ≤ 2 * (q - q0) →
 ak ts q0 2 szK (fun k => fA.l0 (FF k) k acc ts (q : Int) false) (lh S.expr n acc (ts.drop q)) := by
 intro n
 induction n with
 | zero => intro FF I H acc q h0 hq hs; trivial
 | succ n ih =>
  intro FF I H acc q h0 hq hs
  unfold lh
  refine ak.step (fun k => by rw [fA.l0]) ?_
  refine ak.neg (by simp) ?_
  rw [lQ]
  simp only [Option.bind_some]
  refine ak.step (fun k => by rw [fA.j1]) ?_
  have more : ∀ (x : List S40) (p : Nat), q ≤ p → p ≤ ts.length → sz x ≤ 2 * (p - q) → ak ts q0 2 szK (fun k => if acc.length < 5864062014805 then fA.l0 (FF (k + 2)) k (acc ++ [x]) ts (p : Int) false else none) (lh S.expr n (acc ++ [x]) (ts.drop p)) := by
   intro x p g1 g2 g3
   unfold sz at g3
   refine ak.pos (by omega) ?_
   exact ih (fun k => FF (k + 2)) I.shift.shift H.shift.shift (acc ++ [x]) p (by omega) g2 Z27
  have moreB : ∀ (x : List S40) (p : Nat), q ≤ p → p ≤ ts.length → sz x ≤ 2 * (p - q) + 2 → ∃ y : List (List S40), q0 ≤ p ∧ szK y ≤ 2 * (p - q0) + 2 ∧ ag (fun k => if acc.length < 5864062014805 then fA.l0 (FF (k + 2)) k (acc ++ [x]) ts (p : Int) true else none) (y, (p : Int), true) := by
   intro x p g1 g2 g3
   unfold sz at g3
   exact ⟨acc ++ [x], by omega, by unfold szK; rw [je, o9]; omega, ag.pos (by omega) (D7 (FF := fun k => FF (k + 2)) (acc ++ [x]) _)⟩
  by_cases c : wd (ts.drop q) = [41]
  ·rw [if_pos c]
   refine ak.neg (by rw [Gy]; exact fun h => of_decide_eq_true h c) ?_
   refine ak.must ⟨#[41]⟩ [41] (iE _ _ rfl) (by simp) hq hts h0 (fun h4 => ?_) ?_
   ·dsimp only
    exact ak.done _ (by omega) h4 (by unfold szK; omega) ag.now
   dsimp only
   exact ⟨acc, by unfold szK; omega, ag.now⟩
  rw [if_neg c]
  refine ak.pos (by rw [Gy]; exact decide_eq_true c) ?_
  by_cases d : acc = []
  ·rw [if_pos d]
   refine ak.neg (by subst d; simp) ?_
   refine ak.bind (I.shift.shift.expr ts q hts hq) (fun x p h1 h2 h3 => ?_) (fun x p h1 h2 h3 => ?_)
   ·exact more x p h1 h2 h3
   exact moreB x p h1 h2 h3
  rw [if_neg d]
  refine ak.pos (by have := List.length_pos_iff.2 d; omega) ?_
  refine ak.must ⟨#[44]⟩ [44] (iE _ _ rfl) (by simp) hq hts h0 (fun h4 => ?_) ?_
  ·dsimp only
   refine ak.bind (I.shift.shift.expr ts (q + 1) hts h4) (fun x p h1 h2 h3 => ?_) (fun x p h1 h2 h3 => ?_)
   ·exact more x p (by omega) h2 (by omega)
   exact moreB x p (by omega) h2 (by omega)
  dsimp only
  obtain ⟨y, g1, g2, g3⟩ := moreB [] q (Nat.le_refl _) hq (by unfold sz; simp [nd])
  exact ⟨y, g2, ag.bind (H.shift.shift.expr ts _) g3⟩
theorem D8 (hts : ts.length ≤ 40000) (I : Ih S FF) (H : OkB FF) (N : Nat) (q : Nat) (hq : q ≤ ts.length) :
 ak ts q 2 szK (fun k => fA.f (FF k) k ts (q : Int) false) (dZ S.expr N (ts.drop q)) := by
 unfold fA.f Par.dZ
 refine ak.must ⟨#[40]⟩ [40] (iE _ _ rfl) (by simp) hq hts (by omega) (fun h4 => ?_) ?_
 ·dsimp only
  exact J4 hts q N FF I H [] (q + 1) (by omega) h4 Z11
 dsimp only
 exact ⟨[], by unfold szK; simp only [List.flatten_nil, List.length_nil]; omega, D7 (FF := FF) [] _⟩
theorem D6 (acc : List (List S40)) (q : Int) : ag (fun k => Q.dZ.l0 k acc ts q true) (acc, q, true) := by
 refine ag.step (fun k => by rw [Q.dZ.l0]) ?_
 refine ag.pos rfl ?_
 refine ag.step (fun k => by rw [Q.dZ.j1]) ?_
 refine ag.neg (by simp) ?_
 rw [iO _ [41] rfl (by simp)]
 exact ag.now
theorem Jy (hts : ts.length ≤ 40000) (q0 : Nat) : ∀ (n : Nat) (FF : Nat → Fam) (I : Ih S FF) (H : OkB FF) (acc : List (List S40)) (q : Nat), q0 ≤ q → q ≤ ts.length → acc.flatten.length + acc.length + 2 ≤ 2 * (q - q0) →
 ak ts q0 2 szK (fun k => Q.dZ.l0 k acc ts (q : Int) false) (lh nK n acc (ts.drop q)) := by
 intro n
 induction n with
 | zero => intro FF I H acc q h0 hq hs; trivial
 | succ n ih =>
  intro FF I H acc q h0 hq hs
  unfold lh
  refine ak.step (fun k => by rw [Q.dZ.l0]) ?_
  refine ak.neg (by simp) ?_
  rw [lQ]
  simp only [Option.bind_some]
  refine ak.step (fun k => by rw [Q.dZ.j1]) ?_
  have more : ∀ (x : List S40) (p : Nat), q ≤ p → p ≤ ts.length → sz x ≤ 2 * (p - q) → ak ts q0 2 szK (fun k => if acc.length < 5864062014805 then Q.dZ.l0 k (acc ++ [x]) ts (p : Int) false else none) (lh nK n (acc ++ [x]) (ts.drop p)) := by
   intro x p g1 g2 g3
   unfold sz at g3
   refine ak.pos (by omega) ?_
   exact ih (fun k => FF (k + 2)) I.shift.shift H.shift.shift (acc ++ [x]) p (by omega) g2 Z27
  have moreB : ∀ (x : List S40) (p : Nat), q ≤ p → p ≤ ts.length → sz x ≤ 2 * (p - q) + 2 → ∃ y : List (List S40), q0 ≤ p ∧ szK y ≤ 2 * (p - q0) + 2 ∧ ag (fun k => if acc.length < 5864062014805 then Q.dZ.l0 k (acc ++ [x]) ts (p : Int) true else none) (y, (p : Int), true) := by
   intro x p g1 g2 g3
   unfold sz at g3
   exact ⟨acc ++ [x], by omega, by unfold szK; rw [je, o9]; omega, ag.pos (by omega) (D6 (acc ++ [x]) _)⟩
  by_cases c : wd (ts.drop q) = [41]
  ·rw [if_pos c]
   refine ak.neg (by rw [Gy]; exact fun h => of_decide_eq_true h c) ?_
   refine ak.must ⟨#[41]⟩ [41] (iE _ _ rfl) (by simp) hq hts h0 (fun h4 => ?_) ?_
   ·dsimp only
    exact ak.done _ (by omega) h4 (by unfold szK; omega) ag.now
   dsimp only
   exact ⟨acc, by unfold szK; omega, ag.now⟩
  rw [if_neg c]
  refine ak.pos (by rw [Gy]; exact decide_eq_true c) ?_
  by_cases d : acc = []
  ·rw [if_pos d]
   refine ak.neg (by subst d; simp) ?_
   refine ak.bind (Dx hts q hq) (fun x p h1 h2 h3 => ?_) (fun x p h1 h2 h3 => ?_)
   ·exact more x p h1 h2 h3
   exact moreB x p h1 h2 h3
  rw [if_neg d]
  refine ak.pos (by have := List.length_pos_iff.2 d; omega) ?_
  refine ak.must ⟨#[44]⟩ [44] (iE _ _ rfl) (by simp) hq hts h0 (fun h4 => ?_) ?_
  ·dsimp only
   refine ak.bind (Dx hts (q + 1) h4) (fun x p h1 h2 h3 => ?_) (fun x p h1 h2 h3 => ?_)
   ·exact more x p (by omega) h2 (by omega)
   exact moreB x p (by omega) h2 (by omega)
  dsimp only
  obtain ⟨y, g1, g2, g3⟩ := moreB (nd 4 E 0 E []) q (Nat.le_refl _) hq (by unfold sz; simp [nd])
  exact ⟨y, g2, ag.bind (EF) g3⟩
theorem Jz (hts : ts.length ≤ 40000) (I : Ih S FF) (H : OkB FF) (N : Nat) (q : Nat) (hq : q ≤ ts.length) :
 ak ts q 2 szK (fun k => Q.dZ.f k ts (q : Int) false) (dZ nK N (ts.drop q)) := by
 unfold Q.dZ.f Par.dZ
 refine ak.must ⟨#[40]⟩ [40] (iE _ _ rfl) (by simp) hq hts (by omega) (fun h4 => ?_) ?_
 ·dsimp only
  exact Jy hts q N FF I H [] (q + 1) (by omega) h4 Z11
 dsimp only
 exact ⟨[], by unfold szK; simp only [List.flatten_nil, List.length_nil]; omega, D6 [] _⟩
theorem wO (hts : ts.length ≤ 40000) (I : Ih S FF) (H : OkB FF) (N : Nat) (k0 : Int) (nm : ByteArray) (q : Nat) (hq : q ≤ ts.length) :
 ak ts q 3 sz (fun k => bg.f (FF k) k ts (q : Int) false k0 0 nm 0 E) (iR S N k0 nm (ts.drop q)) := by
 unfold bg.f iR
 refine ak.bind (Jz hts I H N q hq) (fun ps p h1 h2 h3 => ?_) (fun ps p h1 h2 h3 => ?_)
 ·unfold szK at h3
  dsimp only
  refine ak.bind (Ec hts I H N p h2) (fun b p2 g1 g2 g3 => ?_) (fun b p2 g1 g2 g3 => ?_)
  ·unfold sz at g3
   dsimp only
   refine ak.pos (by omega) ?_
   exact ak.node (by omega) g2 hts (by rw [o9]; omega) (by rw [je]; omega)
  unfold sz at g3
  dsimp only
  exact ⟨nd k0 nm 0 E (ps ++ [b]), by omega, by unfold sz; rw [fE, je]; omega, ag.pos (by omega) (iF (by rw [o9]; omega) (by rw [je]; omega) ag.now)⟩
 unfold szK at h3
 dsimp only
 exact ⟨nd k0 nm 0 E (ps ++ [nd 5 E 0 E []]), by omega, by unfold sz; rw [fE, je, oP]; omega, ag.bind uB (ag.pos (by omega) (iF (by rw [o9]; omega) (by rw [je, oP]; omega) ag.now))⟩
end Go.Proofs.Ytlenihbmafkegaa.Par
end
section
set_option linter.unusedVariables false
set_option linter.unusedSimpArgs false
namespace Go.Proofs.Ytlenihbmafkegaa.Par
open Go Go.RowKit Go.Proofs.YtlenihbmafkegaaW.PrintWords Go.Proofs.Ytlenihbmafkegaa.Q Go.Proofs.Ytlenihbmafkegaa.Lex Go.Proofs.Ytlenihbmafkegaa.Tree
variable {ts : List S56} {S : PF} {FF : Nat → Fam}
theorem MC (hts : ts.length ≤ 40000) (I : Ih S FF) (H : OkB FF) (N : Nat) (q : Nat) (hq : q ≤ ts.length) :
 ak ts q 2 sz (fun k => dX.f (FF k) k ts (q : Int) false) (nO S N (ts.drop q)) := by
 unfold dX.f
 cases e : ts.drop q with
 | nil =>
  rw [ww ts q e]
  unfold nO
  refine ⟨[], q, Nat.le_refl _, hq, e, by unfold sz; simp only [List.length_nil]; omega, ag.now⟩
 | cons t r =>
  obtain ⟨hq1, _, hr⟩ := uk ts q t r e
  rw [uo ts q t r e]
  simp only [Option.bind_some]
  refine ak.pos (by trivial) ?_
  unfold nO
  refine ak.ite (fun c => ?_) (fun c => ?_)
  ·rw [Tree.inc q (by omega), ← hr]
   exact ak.node (p := q + 1) (nm := E) (n := t.f2) (tx := E) (kids := []) (by omega) hq1 hts (by simp) Z11
  refine ak.ite (fun c => ?_) (fun c => ?_)
  ·rw [Tree.inc q (by omega), ← hr]
   exact ak.node (p := q + 1) (nm := E) (n := 0) (tx := t.f1) (kids := []) (by omega) hq1 hts (by simp) Z11
  rw [← e]
  unfold uJ
  refine ak.need 1 hq hts (by omega) (fun t1 h2 _ => ?_) ?_
  ·dsimp only
   refine ak.yt _ _ (iE _ _ rfl) (by simp) h2 hts (fun h3 => ?_) (fun hn => ?_)
   ·refine ak.pos rfl ?_
    dsimp only
    refine ak.need 1 h3 hts (by omega) (fun t2 h4 _ => ?_) ?_
    ·dsimp only
     refine ak.bind (D8 hts I H N _ h4) (fun ks p g1 g2 g3 => ?_) (fun ks p g1 g2 g3 => ?_)
     ·unfold szK at g3
      dsimp only
      exact ak.node (by omega) g2 hts (by omega) (by omega)
     unfold szK at g3
     dsimp only
     exact ⟨nd 23 t1.f1 0 t2.f1 ks, by omega, by unfold sz; rw [fE]; omega, iF (by omega) (by omega) ag.now⟩
    dsimp only
    exact ⟨nd 23 t1.f1 0 E [], by unfold sz; rw [fE]; simp only [List.flatten_nil, List.length_nil]; omega, ag.bind EN (iF (by simp) (by simp) ag.now)⟩
   refine ak.neg (by simp) ?_
   exact ak.node (by omega) h2 hts (by simp) Z11
  dsimp only
  rw [takeB _ [46] rfl (by simp)]
  simp only [Option.bind_some]
  exact ⟨nd 21 E 0 E [], by unfold sz; rw [fE]; simp only [List.flatten_nil, List.length_nil]; omega, ag.neg (by simp) (iF (by simp) (by simp) ag.now)⟩
theorem LK (hts : ts.length ≤ 40000) (I : Ih S FF) (H : OkB FF) (N : Nat) (q : Nat) (hq : q ≤ ts.length) :
 ak ts q 2 sz (fun k => dN.f (FF k) k ts (q : Int) false) (lW S N (ts.drop q)) := by
 refine ak.congr (fun k => by unfold dN.f; rw [lQ]) ?_
 unfold lW
 simp only [Option.bind_some]
 refine ak.ite (fun hw => ak.tkw _ hw (by simp) hts (fun h1 => ?_)) (fun _ => ?_)
 ·exact ak.node (by omega) h1 hts (by simp) Z11
 refine ak.ite (fun hw => ak.tkw _ hw (by simp) hts (fun h1 => ?_)) (fun _ => ?_)
 ·exact ak.node (by omega) h1 hts (by simp) Z11
 refine ak.ite (fun hw => ak.tkw _ hw (by simp) hts (fun h1 => ?_)) (fun _ => ?_)
 ·dsimp only
  refine ak.must ⟨#[125]⟩ [125] (iE _ _ rfl) (by simp) h1 hts (by omega) (fun h4 => ?_) ?_
  ·dsimp only
   exact ak.node (by omega) h4 hts (by simp) Z11
  dsimp only
  exact ak.ql (by simp) Z11 (by omega) (by omega)
 refine ak.ite (fun hw => ak.tkw _ hw (by simp) hts (fun h1 => ?_)) (fun _ => ?_)
 ·exact ak.idb (ak.from' (wO hts I H N 24 E (q + 1) h1) (by omega) (by omega))
 refine ak.ite (fun hw => ak.tkw _ hw (by simp) hts (fun h1 => ?_)) (fun _ => ?_)
 ·dsimp only
  refine ak.bind (I.expr ts (q + 1) hts h1) (fun e p g1 g2 g3 => ?_) (fun e p g1 g2 g3 => ?_)
  ·dsimp only
   refine ak.must ⟨#[41]⟩ [41] (iE _ _ rfl) (by simp) g2 hts (by omega) (fun h4 => ?_) ?_
   ·dsimp only
    exact ak.done _ (by omega) h4 (by omega) ag.now
   dsimp only
   exact ⟨e, by omega, ag.now⟩
  dsimp only
  rw [iO _ [41] rfl (by simp)]
  exact ⟨e, by omega, by omega, ag.now⟩
 exact ak.idb (MC hts I H N q hq)
theorem LQ (hts : ts.length ≤ 40000) (q0 N : Nat) : ∀ (n : Nat) (FF : Nat → Fam) (I : Ih S FF) (H : OkB FF) (e : List S40) (q : Nat), q0 ≤ q → q ≤ ts.length → sz e ≤ 2 * (q - q0) →
 ak ts q0 2 sz (fun k => ax.l0 (FF k) k e ts (q : Int) false) (l7 S N n e (ts.drop q)) := by
 intro n
 induction n with
 | zero => intro FF I H e q h0 hq hs; trivial
 | succ n ih =>
  intro FF I H e q h0 hq hs
  have hs' := hs
  unfold sz at hs'
  unfold l7
  refine ak.step (fun k => by rw [ax.l0]) ?_
  refine ak.neg (by simp) ?_
  rw [lQ]
  simp only [Option.bind_some]
  refine ak.ite (fun c => ?_) (fun c => ?_)
  ·refine ak.bind (D8 hts I.shift H.shift N q hq) (fun ks p g1 g2 g3 => ?_) (fun ks p g1 g2 g3 => ?_)
   ·unfold szK at g3
    dsimp only
    have hf : ([e] ++ ks).flatten.length = e.length + ks.flatten.length := by simp
    have hg : ([e] ++ ks).length = 1 + ks.length := by simp; omega
    refine ak.pos (by simp only [List.length_cons, List.length_nil]; omega) ?_
    refine ak.evB (wu 22 E 0 E 0 ([e] ++ ks) (by omega) (by omega)) ?_
    exact ih (fun k => FF (k + 1)) I.shift H.shift _ p (by omega) g2 (by unfold sz; rw [fE]; omega)
   unfold szK at g3
   dsimp only
   have hf : ([e] ++ ks).flatten.length = e.length + ks.flatten.length := by simp
   have hg : ([e] ++ ks).length = 1 + ks.length := by simp; omega
   exact ⟨nd 22 E 0 E ([e] ++ ks), by omega, by unfold sz; rw [fE]; omega, ag.pos (by simp only [List.length_cons, List.length_nil]; omega) (iF (by omega) (by omega) (qf (FF := fun k => FF (k + 1)) _))⟩
  refine ak.ite (fun c => ?_) (fun c => ?_)
  ·refine ak.tk ⟨#[91]⟩ (by rw [iE _ [91] rfl]; simp) (by rw [iE _ [91] rfl]; exact c) hts (fun h1 => ?_)
   dsimp only
   refine ak.bind (I.shift.expr ts (q + 1) hts h1) (fun i p g1 g2 g3 => ?_) (fun i p g1 g2 g3 => ?_)
   ·unfold sz at g3
    dsimp only
    refine ak.evB (wu 26 E 0 E 0 [e, i] (by simp) (by rw [kU]; omega)) ?_
    refine ak.must ⟨#[93]⟩ [93] (iE _ _ rfl) (by simp) g2 hts (by omega) (fun h4 => ?_) ?_
    ·dsimp only
     exact ih (fun k => FF (k + 1)) I.shift H.shift _ (p + 1) (by omega) h4 (by unfold sz; rw [fE, kU]; omega)
    dsimp only
    exact ⟨nd 26 E 0 E [e, i], by unfold sz; rw [fE, kU]; omega, qf (FF := fun k => FF (k + 1)) _⟩
   unfold sz at g3
   dsimp only
   refine ⟨nd 26 E 0 E [e, i], by omega, by unfold sz; rw [fE, kU]; omega, iF (by simp) (by rw [kU]; omega) ?_⟩
   rw [iO _ [93] rfl (by simp)]
   exact qf (FF := fun k => FF (k + 1)) _
  exact ak.done e h0 hq hs ag.now
theorem vO (hts : ts.length ≤ 40000) (I : Ih S FF) (H : OkB FF) (N : Nat) (q : Nat) (hq : q ≤ ts.length) (b : Bool) (hb : b = decide (wd (ts.drop q) = [45] ∨ wd (ts.drop q) = [110, 111, 116] ∨ wd (ts.drop q) = [108, 101, 110])) :
 ak ts q 2 sz (fun k => ax.j0 (FF k) k (wB (ts.drop q)) (wB (ts.drop q)) b ts (q : Int) false) (kW S N (ts.drop q)) := by
 refine ak.step (fun k => by rw [ax.j0]) ?_
 unfold kW
 by_cases c : wd (ts.drop q) = [45] ∨ wd (ts.drop q) = [110, 111, 116] ∨ wd (ts.drop q) = [108, 101, 110]
 ·rw [if_pos c]
  refine ak.pos Z22 ?_
  refine ak.tkw (wd (ts.drop q)) rfl (by rcases c with c | c | c <;> rw [c] <;> simp) hts (fun h1 => ?_)
  dsimp only
  refine ak.bind (I.shift.unary ts (q + 1) hts h1) (fun e p g1 g2 g3 => ?_) (fun e p g1 g2 g3 => ?_)
  ·unfold sz at g3
   dsimp only
   exact ak.node (by omega) g2 hts (by simp) (by rw [mG]; omega)
  unfold sz at g3
  dsimp only
  exact ⟨nd 28 E 0 (wB (ts.drop q)) [e], by omega, by unfold sz; rw [fE, mG]; omega, iF (by simp) (by rw [mG]; omega) ag.now⟩
 rw [if_neg c]
 refine ak.neg Z25 ?_
 refine ak.ite (fun c2 => ak.tkw _ c2 (by simp) hts (fun h1 => ?_)) (fun c2 => ?_)
 ·dsimp only
  refine ak.bind (I.shift.unary ts (q + 1) hts h1) (fun e p g1 g2 g3 => ?_) (fun e p g1 g2 g3 => ?_)
  ·unfold sz at g3
   dsimp only
   exact ak.node (by omega) g2 hts (by simp) (by rw [mG]; omega)
  unfold sz at g3
  dsimp only
  exact ⟨nd 30 E 0 E [e], by omega, by unfold sz; rw [fE, mG]; omega, iF (by simp) (by rw [mG]; omega) ag.now⟩
 refine ak.bind (LK hts I.shift H.shift N q hq) (fun e p g1 g2 g3 => ?_) (fun e p g1 g2 g3 => ?_)
 ·dsimp only
  exact LQ hts q N N (fun k => FF (k + 1)) I.shift H.shift e p (by omega) g2 g3
 dsimp only
 exact ⟨e, g1, g3, qf (FF := fun k => FF (k + 1)) e⟩
theorem Dk (hts : ts.length ≤ 40000) (I : Ih S FF) (H : OkB FF) (N : Nat) (q : Nat) (hq : q ≤ ts.length) :
 ak ts q 2 sz (fun k => ax.f (FF k) k ts (q : Int) false) (kW S N (ts.drop q)) := by
 refine ak.congr (fun k => by unfold ax.f; rw [lQ]) ?_
 simp only [Option.bind_some]
 by_cases c1 : wd (ts.drop q) = [45]
 ·refine ak.pos c1 (vO hts I H N q hq _ ?_)
  rw [eqb]; exact decide_eq_decide.2 ⟨fun h => Or.inl h, fun h => c1⟩
 refine ak.neg c1 ?_
 by_cases c2 : wd (ts.drop q) = [110, 111, 116]
 ·refine ak.pos c2 (vO hts I H N q hq _ ?_)
  rw [eqb]; exact decide_eq_decide.2 ⟨fun h => Or.inr (Or.inl h), fun h => c2⟩
 refine ak.neg c2 (vO hts I H N q hq _ ?_)
 rw [eqb]; exact decide_eq_decide.2 ⟨fun h => Or.inr (Or.inr h), fun h => h.elim (fun h => absurd h c1) (fun h => h.elim (fun h => absurd h c2) id)⟩
theorem three {p q r : Prop} [Decidable p] [Decidable q] [Decidable r] {α : Type} {F : Bool → Nat → Option α} {v : α} (h : ∀ b : Bool, b = decide (p ∨ q ∨ r) → ag (F b) v) :
 ag (fun k => if p then F (decide p) k else if q then F (decide q) k else F (decide r) k) v := by
 by_cases c1 : p
 ·exact ag.pos c1 (h _ (decide_eq_decide.2 ⟨fun x => Or.inl x, fun _ => c1⟩))
 refine ag.neg c1 ?_
 by_cases c2 : q
 ·exact ag.pos c2 (h _ (decide_eq_decide.2 ⟨fun x => Or.inr (Or.inl x), fun _ => c2⟩))
 exact ag.neg c2 (h _ (decide_eq_decide.2 ⟨fun x => Or.inr (Or.inr x), fun x => x.elim (fun y => absurd y c1) (fun y => y.elim (fun z => absurd z c2) id)⟩))
theorem F9 (w : ByteArray) (b : Bool) (hb : b = decide (w.toList = [43] ∨ w.toList = [45] ∨ w.toList = [46, 46])) :
 ag (fun k => bG.j1 k w b) (if w.toList = [43] ∨ w.toList = [45] ∨ w.toList = [46, 46] then (4 : Int) else if w.toList = [42] ∨ w.toList = [47] ∨ w.toList = [37] then 5 else 0) := by
 refine ag.step (fun k => by rw [bG.j1]) ?_
 by_cases c : w.toList = [43] ∨ w.toList = [45] ∨ w.toList = [46, 46]
 ·rw [if_pos c]
  exact ag.pos Z22 ag.now
 rw [if_neg c]
 refine ag.neg Z25 ?_
 by_cases d1 : w.toList = [42]
 ·rw [if_pos (Or.inl d1)]; exact ag.pos d1 ag.now
 refine ag.neg d1 ?_
 by_cases d2 : w.toList = [47]
 ·rw [if_pos (Or.inr (Or.inl d2))]; exact ag.pos d2 ag.now
 refine ag.neg d2 ?_
 by_cases d3 : w.toList = [37]
 ·rw [if_pos (Or.inr (Or.inr d3))]; exact ag.pos d3 ag.now
 have hn : ¬(w.toList = [42] ∨ w.toList = [47] ∨ w.toList = [37]) := fun h => h.elim d1 (fun h => h.elim d2 d3)
 rw [if_neg hn]
 exact ag.neg d3 ag.now
theorem sF (w : ByteArray) (b : Bool) (hb : b = decide (w.toList = [61, 61] ∨ w.toList = [33, 61] ∨ w.toList = [60] ∨ w.toList = [60, 61])) :
 ag (fun k => bG.j0 k w b) (if w.toList = [61, 61] ∨ w.toList = [33, 61] ∨ w.toList = [60] ∨ w.toList = [60, 61] then (3 : Int) else if w.toList = [43] ∨ w.toList = [45] ∨ w.toList = [46, 46] then 4 else if w.toList = [42] ∨ w.toList = [47] ∨ w.toList = [37] then 5 else 0) := by
 refine ag.step (fun k => by rw [bG.j0]) ?_
 by_cases c : w.toList = [61, 61] ∨ w.toList = [33, 61] ∨ w.toList = [60] ∨ w.toList = [60, 61]
 ·rw [if_pos c]
  exact ag.pos Z22 ag.now
 rw [if_neg c]
 refine ag.neg Z25 ?_
 simp only [eqb]
 exact three (F := fun b k => bG.j1 k w b) (fun b hb => F9 w b hb)
theorem IR (w : ByteArray) : ag (fun k => bG.f k w) (gG w.toList) := by
 unfold bG.f gG
 by_cases c1 : w.toList = [111, 114]
 ·rw [if_pos c1]; exact ag.pos c1 ag.now
 rw [if_neg c1]
 refine ag.neg c1 ?_
 by_cases c2 : w.toList = [97, 110, 100]
 ·rw [if_pos c2]; exact ag.pos c2 ag.now
 rw [if_neg c2]
 refine ag.neg c2 ?_
 by_cases d1 : w.toList = [61, 61]
 ·exact ag.pos d1 (sF w _ (by rw [eqb]; exact decide_eq_decide.2 ⟨fun h => Or.inl h, fun _ => d1⟩))
 refine ag.neg d1 ?_
 by_cases d2 : w.toList = [33, 61]
 ·exact ag.pos d2 (sF w _ (by rw [eqb]; exact decide_eq_decide.2 ⟨fun h => Or.inr (Or.inl h), fun _ => d2⟩))
 refine ag.neg d2 ?_
 by_cases d3 : w.toList = [60]
 ·exact ag.pos d3 (sF w _ (by rw [eqb]; exact decide_eq_decide.2 ⟨fun h => Or.inr (Or.inr (Or.inl h)), fun _ => d3⟩))
 exact ag.neg d3 (sF w _ (by rw [eqb]; exact decide_eq_decide.2 ⟨fun h => Or.inr (Or.inr (Or.inr h)), fun h => h.elim (fun h => absurd h d1) (fun h => h.elim (fun h => absurd h d2) (fun h => h.elim (fun h => absurd h d3) id))⟩))
theorem F8 {l : List UInt8} {a : Int} (h : gG l = a) (ha : 1 ≤ a) : l ≠ [] := by
 intro e; subst e
 have : gG [] = 0 := rfl
 omega
theorem JQ (hts : ts.length ≤ 40000) (q0 : Nat) (a : Int) (ha : 1 ≤ a) (ha5 : a ≤ 5) : ∀ (n : Nat) (FF : Nat → Fam) (I : Ih S FF) (H : OkB FF) (e : List S40) (q : Nat), q0 ≤ q → q ≤ ts.length → sz e ≤ 2 * (q - q0) →
 ak ts q0 2 sz (fun k => aJ.l0 (FF k) k a e ts (q : Int) false) (lJ S a n e (ts.drop q)) := by
 intro n
 induction n with
 | zero => intro FF I H e q h0 hq hs; trivial
 | succ n ih =>
  intro FF I H e q h0 hq hs
  have hs' := hs
  unfold sz at hs'
  unfold lJ
  refine ak.step (fun k => by rw [aJ.l0]) ?_
  refine ak.neg (by simp) ?_
  rw [lQ]
  simp only [Option.bind_some]
  refine ak.evB (IR (wB (ts.drop q))) ?_
  refine ak.ite (fun c => ak.tkw _ rfl (F8 c ha) hts (fun h1 => ?_)) (fun c => ak.done e h0 hq hs ag.now)
  dsimp only
  rw [w64 (n := a + 1) (by omega) (by omega)]
  refine ak.bind (I.shift.bound (a + 1) (by omega) (by omega) ts (q + 1) hts h1) (fun e2 p g1 g2 g3 => ?_) (fun e2 p g1 g2 g3 => ?_)
  ·unfold sz at g3
   dsimp only
   refine ak.evB (wu 27 E 0 (wB (ts.drop q)) 0 [e, e2] (by simp) (by rw [kU]; omega)) ?_
   by_cases d : a = 3
   ·rw [if_pos d]
    refine ak.pos d ?_
    exact ak.done _ (by omega) g2 (by unfold sz; rw [fE, kU]; omega) ag.now
   rw [if_neg d]
   refine ak.neg d ?_
   exact ih (fun k => FF (k + 1)) I.shift H.shift _ p (by omega) g2 (by unfold sz; rw [fE, kU]; omega)
  unfold sz at g3
  dsimp only
  refine ⟨nd 27 E 0 (wB (ts.drop q)) [e, e2], by omega, by unfold sz; rw [fE, kU]; omega, iF (by simp) (by rw [kU]; omega) ?_⟩
  by_cases d : a = 3
  ·exact ag.pos d ag.now
  exact ag.neg d (rW (FF := fun k => FF (k + 1)) a _)
theorem DX (hts : ts.length ≤ 40000) (I : Ih S FF) (H : OkB FF) (N : Nat) (a : Int) (h1 : 1 ≤ a) (h2 : a ≤ 6) (q : Nat) (hq : q ≤ ts.length) :
 ak ts q 2 sz (fun k => aJ.f (FF k) k ts (q : Int) false a) (ja S N a (ts.drop q)) := by
 unfold aJ.f ja
 by_cases c : a = 6
 ·rw [if_pos c]
  exact ak.pos c (ak.idb (Dk hts I H N q hq))
 rw [if_neg c]
 refine ak.neg c ?_
 rw [w64 (n := a + 1) (by omega) (by omega)]
 refine ak.bind (I.bound (a + 1) (by omega) (by omega) ts q hts hq) (fun e p g1 g2 g3 => ?_) (fun e p g1 g2 g3 => ?_)
 ·dsimp only
  exact JQ hts q a h1 (by omega) N FF I H e p g1 g2 g3
 dsimp only
 exact ⟨e, g1, g3, rW a e⟩
theorem MQ (hts : ts.length ≤ 40000) (I : Ih S FF) (H : OkB FF) (N : Nat) (q : Nat) (hq : q ≤ ts.length) :
 ak ts q 2 sz (fun k => dJ.f (FF k) k ts (q : Int) false) (kJ S N (ts.drop q)) := by
 unfold dJ.f kJ
 exact ak.idb (DX hts I H N 1 (by omega) (by omega) q hq)
theorem NZ : ∀ n : Nat, Ih (fU n) fam := by
 intro n
 induction n with
 | zero => exact ⟨fun _ _ _ _ => trivial, fun _ _ _ _ => trivial, fun _ _ _ _ _ _ _ => trivial, fun _ _ _ _ => trivial⟩
 | succ n ih =>
  exact ⟨fun ts q hts hq => ak.step (fun k => rfl) (MQ hts ih tq n q hq), fun ts q hts hq => ak.step (fun k => rfl) (Ec hts ih tq n q hq),
   fun a h1 h2 ts q hts hq => ak.step (fun k => rfl) (DX hts ih tq n a h1 h2 q hq), fun ts q hts hq => ak.step (fun k => rfl) (Dk hts ih tq n q hq)⟩
end Go.Proofs.Ytlenihbmafkegaa.Par
end
section
set_option linter.unusedVariables false
set_option linter.unusedSimpArgs false
namespace Go.Proofs.Ytlenihbmafkegaa.Par
open Go Go.RowKit Go.Proofs.YtlenihbmafkegaaW.PrintWords Go.Proofs.Ytlenihbmafkegaa.Q Go.Proofs.Ytlenihbmafkegaa.Lex Go.Proofs.Ytlenihbmafkegaa.Tree
variable {ts : List S56} {S : PF} {FF : Nat → Fam}
theorem Ny (hts : ts.length ≤ 40000) (q : Nat) (hq : q ≤ ts.length) : ak ts q 2 sz (fun k => eu.f k ts (q : Int) false) (yh (ts.drop q)) := by
 unfold eu.f yh
 have nB : ∀ (p : Int) (nm tx : ByteArray) (n : Int), ag (fun k => (az.f k 2 0 nm n tx ([] : List (List S40))).bind fun t269 => some (t269, p, true)) (nd 2 nm n tx [], p, true) := fun p nm tx n => iF (by simp) (by simp) ag.now
 have sB : ∀ (nm tx : ByteArray) (n : Int), sz (nd 2 nm n tx []) = 2 := fun nm tx n => rfl
 refine ak.need 1 hq hts (by omega) (fun a h1 _ => ?_) ?_
 ·dsimp only
  refine ak.must ⟨#[46]⟩ [46] (iE _ _ rfl) (by simp) h1 hts (by omega) (fun h2 => ?_) ?_
  ·dsimp only
   refine ak.need 1 h2 hts (by omega) (fun b h3 _ => ?_) ?_
   ·dsimp only
    refine ak.must ⟨#[47]⟩ [47] (iE _ _ rfl) (by simp) h3 hts (by omega) (fun h4 => ?_) ?_
    ·dsimp only
     refine ak.need 2 h4 hts (by omega) (fun c h5 _ => ?_) ?_
     ·dsimp only
      refine ak.must ⟨#[59]⟩ [59] (iE _ _ rfl) (by simp) h5 hts (by omega) (fun h6 => ?_) ?_
      ·dsimp only
       exact ak.node (by omega) h6 hts (by simp) Z11
      exact ⟨_, by rw [sB]; omega, nB _ _ _ _⟩
     dsimp only
     rw [iO _ [59] rfl (by simp)]
     exact ⟨_, by rw [sB]; omega, nB _ _ _ _⟩
    dsimp only
    simp only [lg, Option.bind_some]
    rw [iO _ [59] rfl (by simp)]
    exact ⟨_, by rw [sB]; omega, nB _ _ _ _⟩
   dsimp only
   rw [iO _ [47] rfl (by simp)]
   simp only [lg, Option.bind_some]
   rw [iO _ [59] rfl (by simp)]
   exact ⟨_, by rw [sB]; omega, nB _ _ _ _⟩
  dsimp only
  simp only [lg, Option.bind_some]
  rw [iO _ [47] rfl (by simp)]
  simp only [lg, Option.bind_some]
  rw [iO _ [59] rfl (by simp)]
  exact ⟨_, by rw [sB]; omega, nB _ _ _ _⟩
 dsimp only
 rw [iO _ [46] rfl (by simp)]
 simp only [lg, Option.bind_some]
 rw [iO _ [47] rfl (by simp)]
 simp only [lg, Option.bind_some]
 rw [iO _ [59] rfl (by simp)]
 exact ⟨_, by rw [sB]; omega, nB _ _ _ _⟩
theorem C9 (acc : List (List S40)) (q : Int) (nm : ByteArray) (v : Int) (h1 : acc.length ≤ 100000) (h2 : acc.flatten.length ≤ 1000000) : ag (fun k => aA.l1 (FF k) k acc ts q true 1 0 nm v E) (nd 1 nm v E acc, q, true) := by
 refine ag.step (fun k => by rw [aA.l1, takeB _ [102, 110] rfl (by simp)]) ?_
 simp only [Option.bind_some]
 exact ag.neg (by simp) (iF (by omega) (by omega) ag.now)
theorem vK (acc : List (List S40)) (q : Int) (nm : ByteArray) (v : Int) (h1 : acc.length ≤ 100000) (h2 : acc.flatten.length ≤ 1000000) : ag (fun k => aA.l0 (FF k) k acc ts q true 1 0 nm v E) (nd 1 nm v E acc, q, true) := by
 refine ag.step (fun k => by rw [aA.l0, takeB _ [117, 115, 101] rfl (by simp)]) ?_
 simp only [Option.bind_some]
 exact ag.neg (by simp) (C9 (FF := fun k => FF (k + 1)) acc q nm v h1 h2)
theorem MO (hts : ts.length ≤ 40000) (N : Nat) (nm : ByteArray) (v : Int) : ∀ (n : Nat) (FF : Nat → Fam) (I : Ih S FF) (H : OkB FF) (acc : List (List S40)) (q : Nat), q ≤ ts.length → acc.flatten.length + acc.length + 2 ≤ 2 * (q - 0) →
 ak ts 0 3 sz (fun k => aA.l1 (FF k) k acc ts (q : Int) false 1 0 nm v E) (oq S N nm v n acc (ts.drop q)) := by
 intro n
 induction n with
 | zero => intro FF I H acc q hq hs; trivial
 | succ n ih =>
  intro FF I H acc q hq hs
  unfold oq
  refine ak.step (fun k => by rw [aA.l1]) ?_
  refine ak.yt _ _ (iE _ _ rfl) (by simp) hq hts (fun h1 => ?_) (fun hn => ?_)
  ·refine ak.pos rfl ?_
   dsimp only
   refine ak.need 1 h1 hts (by omega) (fun t h2 _ => ?_) ?_
   ·dsimp only
    refine ak.bind (wO hts I.shift H.shift N 3 t.f1 _ h2) (fun f p g1 g2 g3 => ?_) (fun f p g1 g2 g3 => ?_)
    ·unfold sz at g3
     dsimp only
     refine ak.pos (by omega) ?_
     exact ih (fun k => FF (k + 1)) I.shift H.shift (acc ++ [f]) p g2 Z27
    unfold sz at g3
    dsimp only
    exact ⟨nd 1 nm v E (acc ++ [f]), by omega, by unfold sz; rw [fE, je]; omega, ag.pos (by omega) (C9 (FF := fun k => FF (k + 1)) _ _ nm v (by rw [o9]; omega) (by rw [je]; omega))⟩
   dsimp only
   have hl : (nd 3 E 0 E [nd 5 E 0 E []]).length = 2 := rfl
   exact ⟨nd 1 nm v E (acc ++ [nd 3 E 0 E [nd 5 E 0 E []]]), by unfold sz; rw [fE, je, hl]; omega, ag.bind (yR 3 E) (ag.pos (by omega) (C9 (FF := fun k => FF (k + 1)) _ _ nm v (by rw [o9]; omega) (by rw [je, hl]; omega)))⟩
  refine ak.neg (by simp) ?_
  exact ak.node (q := 0) (by omega) hq hts (by omega) (by omega)
theorem Lc (hts : ts.length ≤ 40000) (N : Nat) (nm : ByteArray) (v : Int) : ∀ (n : Nat) (FF : Nat → Fam) (I : Ih S FF) (H : OkB FF) (acc : List (List S40)) (q : Nat), q ≤ ts.length → acc.flatten.length + acc.length + 2 ≤ 2 * (q - 0) →
 ak ts 0 3 sz (fun k => aA.l0 (FF k) k acc ts (q : Int) false 1 0 nm v E) (mF S N nm v n acc (ts.drop q)) := by
 intro n
 induction n with
 | zero => intro FF I H acc q hq hs; trivial
 | succ n ih =>
  intro FF I H acc q hq hs
  unfold mF
  refine ak.step (fun k => by rw [aA.l0]) ?_
  refine ak.yt _ _ (iE _ _ rfl) (by simp) hq hts (fun h1 => ?_) (fun hn => ?_)
  ·refine ak.pos rfl ?_
   dsimp only
   refine ak.bind (Ny hts _ h1) (fun f p g1 g2 g3 => ?_) (fun f p g1 g2 g3 => ?_)
   ·unfold sz at g3
    dsimp only
    refine ak.pos (by omega) ?_
    exact ih (fun k => FF (k + 1)) I.shift H.shift (acc ++ [f]) p g2 Z27
   unfold sz at g3
   dsimp only
   exact ⟨nd 1 nm v E (acc ++ [f]), by omega, by unfold sz; rw [fE, je]; omega, ag.pos (by omega) (vK (FF := fun k => FF (k + 1)) _ _ nm v (by rw [o9]; omega) (by rw [je]; omega))⟩
  refine ak.neg (by simp) ?_
  exact MO hts N nm v N (fun k => FF (k + 1)) I.shift H.shift acc q hq hs
theorem G8 (hts : ts.length ≤ 40000) (I : Ih S FF) (H : OkB FF) (N : Nat) :
 ak ts 0 3 sz (fun k => aA.f (FF k) k ts 0 false) (jC S N ts) := by
 have sB : ∀ (nm : ByteArray) (v : Int), sz (nd 1 nm v E []) = 2 := fun nm v => rfl
 have key : ak ts 0 3 sz (fun k => aA.f (FF k) k ts ((0 : Nat) : Int) false) (jC S N (ts.drop 0)) := by
  unfold aA.f jC
  refine ak.must ⟨#[109, 111, 100, 117, 108, 101]⟩ [109, 111, 100, 117, 108, 101] (iE _ _ rfl) (by simp) (by omega) hts (by omega) (fun h1 => ?_) ?_
  ·dsimp only
   refine ak.need 1 h1 hts (by omega) (fun t h2 _ => ?_) ?_
   ·dsimp only
    refine ak.need 2 h2 hts (by omega) (fun u h3 _ => ?_) ?_
    ·dsimp only
     refine ak.must ⟨#[59]⟩ [59] (iE _ _ rfl) (by simp) h3 hts (by omega) (fun h4 => ?_) ?_
     ·dsimp only
      exact Lc hts N t.f1 u.f2 N FF I H [] _ h4 Z11
     dsimp only
     exact ⟨_, by rw [sB]; omega, vK [] _ _ _ (by simp) (by simp)⟩
    dsimp only
    rw [iO _ [59] rfl (by simp)]
    simp only [Option.bind_some]
    exact ⟨_, by rw [sB]; omega, vK [] _ _ _ (by simp) (by simp)⟩
   dsimp only
   simp only [lg, Option.bind_some]
   rw [iO _ [59] rfl (by simp)]
   simp only [Option.bind_some]
   exact ⟨_, by rw [sB]; omega, vK [] _ _ _ (by simp) (by simp)⟩
  dsimp only
  simp only [lg, Option.bind_some]
  rw [iO _ [59] rfl (by simp)]
  simp only [Option.bind_some]
  exact ⟨_, by rw [sB]; omega, vK [] _ _ _ (by simp) (by simp)⟩
 exact key
end Go.Proofs.Ytlenihbmafkegaa.Par
end
section
set_option linter.unusedVariables false
set_option linter.unusedSimpArgs false
namespace Go.Proofs.Ytlenihbmafkegaa.Par
open Go Go.RowKit Go.Proofs.YtlenihbmafkegaaW.PrintWords Go.Proofs.Ytlenihbmafkegaa.Q Go.Proofs.Ytlenihbmafkegaa.Lex Go.Proofs.Ytlenihbmafkegaa.Tree
/-- The family comes to answers, of fewer tokens than so many. -/
structure Tot (S : PF) (m : Nat) : Prop where
 expr : ∀ l, l.length < m → TB l → Fn KN l.length (S.expr l)
 block : ∀ l, l.length < m → TB l → Fn KN l.length (S.block l)
 bound : ∀ a : Int, 1 ≤ a → a ≤ 6 → ∀ l, l.length < m → TB l → Fn KN l.length (S.bound a l)
 unary : ∀ l, l.length < m → TB l → Fn KN l.length (S.unary l)
variable {S : PF} {m : Nat}
theorem kY {α : Type} {K : α → Prop} {x : α} {l : List S56} {b : Nat} (h1 : l.length < b) (h2 : TB l) (h3 : K x) : Fn K b (ret x l) := ⟨h1, h2, h3⟩
theorem qF (T : Tot S m) (k : Int) (nm : ByteArray) (hk : k ≠ 26) (hn : nm.size ≤ 3000) (l : List S56) (hl : l.length < m) (h : TB l) : Fn KN l.length (iM S k nm l) :=
 Fn.bind (T.expr l hl h) fun e r h1 h2 h3 => Fn.bind (jh [59] (by simp) r h2) fun _ r2 g1 g2 _ => kY (by omega) g2 (mM (KL.one h3.1) hn eQ (Or.inl hk))
theorem CX (k : Int) (hk : k ≠ 26) (l : List S56) (h : TB l) : Fn KN l.length (pO k l) :=
 Fn.bind (jh [59] (by simp) l h) fun _ r2 g1 g2 _ => kY g1 g2 (mM KL.nil eQ eQ (Or.inl hk))
theorem Jm (T : Tot S m) (l : List S56) (hl : l.length < m) (h : TB l) : Fn KN l.length (o7 S l) := by
 refine Fn.bind (T.expr l hl h) fun e r h1 h2 h3 => ?_
 unfold qg
 by_cases c : wd r ≠ [61]
 ·rw [if_pos c]
  exact Fn.bind (jh [59] (by simp) r h2) fun _ r2 g1 g2 _ => kY (by omega) g2 (mM (KL.one h3.1) eQ eQ (Or.inl (by omega)))
 rw [if_neg c]
 obtain ⟨D, hD⟩ := h3.1.1
 obtain ⟨x, t, D1, rfl, _⟩ := hD.one
 have hx := h3.1.2 x List.mem_cons_self
 simp only
 by_cases c1 : x.f0 = 21
 ·rw [if_pos c1]
  exact Fn.bind (jh [61] (by simp) r h2) fun _ r2 g1 g2 _ => (qF T 7 x.f2 (by omega) hx.1.1 r2 (by omega) g2).weak (by omega) (fun _ h => h)
 rw [if_neg c1]
 by_cases c2 : x.f0 = 26
 ·rw [if_pos c2]
  obtain ⟨a, b, e, ha, hb⟩ := J9 h3 rfl c2
  unfold pY
  rw [e]
  exact Fn.bind (jh [61] (by simp) r h2) fun _ r2 g1 g2 _ => Fn.bind (T.expr r2 (by omega) g2) fun v r3 f1 f2 f3 => Fn.bind (jh [59] (by simp) r3 f2) fun _ r4 e1 e2 _ =>
   kY (by omega) e2 (mM (KL.cons ha (KL.cons hb (KL.one f3.1))) eQ eQ (Or.inl (by omega)))
 rw [if_neg c2]
 trivial
theorem jd {α : Type} {K : α → Prop} {b : Nat} {c : Prop} [Decidable c] {r1 r2 : R α} (h1 : c → Fn K b r1) (h2 : ¬c → Fn K b r2) : Fn K b (if c then r1 else r2) := by
 by_cases h : c
 ·rw [if_pos h]; exact h1 h
 rw [if_neg h]; exact h2 h
theorem Lm (T : Tot S m) (l : List S56) (hl : l.length < m) (h : TB l) : Fn KN l.length (jc S l) := by
 unfold jc
 refine jd (fun c => Fn.bind (nX l h _ c (by simp)) fun _ r h1 h2 _ => ?_) (fun _ => ?_)
 ·exact Fn.bind (o8 1 r h2) fun t r2 g1 g2 g3 => Fn.bind (jh [61] (by simp) r2 g2) fun _ r3 f1 f2 _ => (qF T 6 t.f1 (by omega) g3.1 r3 (by omega) f2).weak (by omega) (fun _ h => h)
 refine jd (fun c => Fn.bind (nX l h _ c (by simp)) fun _ r h1 h2 _ => ?_) (fun _ => ?_)
 ·refine Fn.bind (T.expr r (by omega) h2) fun e r2 g1 g2 g3 => Fn.bind (T.block r2 (by omega) g2) fun b r3 f1 f2 f3 => ?_
  refine jd (fun c => Fn.bind (nX r3 f2 _ c (by simp)) fun _ r4 e1 e2 _ => ?_) (fun _ => ?_)
  ·exact Fn.bind (T.block r4 (by omega) e2) fun b2 r5 d1 d2 d3 => kY (by omega) d2 (mM (KL.cons g3.1 (KL.cons f3.1 (KL.one d3.1))) eQ eQ (Or.inl (by omega)))
  exact ⟨by omega, f2, mM (KL.cons g3.1 (KL.one f3.1)) eQ eQ (Or.inl (by omega))⟩
 refine jd (fun c => Fn.bind (nX l h _ c (by simp)) fun _ r h1 h2 _ => ?_) (fun _ => ?_)
 ·exact Fn.bind (T.expr r (by omega) h2) fun e r2 g1 g2 g3 => Fn.bind (T.block r2 (by omega) g2) fun b r3 f1 f2 f3 => kY (by omega) f2 (mM (KL.cons g3.1 (KL.one f3.1)) eQ eQ (Or.inl (by omega)))
 refine jd (fun c => Fn.bind (nX l h _ c (by simp)) fun _ r h1 h2 _ => (CX 11 (by omega) r h2).weak (by omega) (fun _ h => h)) (fun _ => ?_)
 refine jd (fun c => Fn.bind (nX l h _ c (by simp)) fun _ r h1 h2 _ => (CX 12 (by omega) r h2).weak (by omega) (fun _ h => h)) (fun _ => ?_)
 refine jd (fun c => Fn.bind (nX l h _ c (by simp)) fun _ r h1 h2 _ => (CX 16 (by omega) r h2).weak (by omega) (fun _ h => h)) (fun _ => ?_)
 refine jd (fun c => Fn.bind (nX l h _ c (by simp)) fun _ r h1 h2 _ => (qF T 13 E (by omega) eQ r (by omega) h2).weak (by omega) (fun _ h => h)) (fun _ => ?_)
 refine jd (fun c => Fn.bind (nX l h _ c (by simp)) fun _ r h1 h2 _ => (qF T 14 E (by omega) eQ r (by omega) h2).weak (by omega) (fun _ h => h)) (fun _ => ?_)
 refine jd (fun c => Fn.bind (nX l h _ c (by simp)) fun _ r h1 h2 _ => (qF T 15 E (by omega) eQ r (by omega) h2).weak (by omega) (fun _ h => h)) (fun _ => ?_)
 exact Jm T l hl h
theorem HY (T : Tot S m) (c : Nat) : ∀ (n : Nat) (acc : List (List S40)) (l : List S56), l.length < n → l.length < m → l.length < c → TB l → KL acc → Fn KN c (nU S n acc l) := by
 intro n
 induction n with
 | zero => intro acc l h1; omega
 | succ n ih =>
  intro acc l h1 h2 h3 h4 h5
  unfold nU
  refine jd (fun d => ?_) (fun d => ?_)
  ·exact Fn.bind (jh [125] (by simp) l h4) fun _ r g1 g2 _ => kY (by omega) g2 (mM h5 eQ eQ (Or.inl (by omega)))
  exact Fn.bind (Lm T l h2 h4) fun s r g1 g2 g3 => ih _ r (by omega) (by omega) (by omega) g2 (KL.app h5 (KL.one g3.1))
theorem Ef (T : Tot S m) (N : Nat) (l : List S56) (hl : l.length ≤ m) (hN : l.length ≤ N) (h : TB l) : Fn KN l.length (pz S N l) :=
 Fn.bind (jh [123] (by simp) l h) fun _ r g1 g2 _ => HY T _ N [] r (by omega) (by omega) g1 g2 KL.nil
theorem J3 {one : Ps (List S40)} (ho : ∀ l, l.length < m → TB l → Fn KT l.length (one l)) (c : Nat) : ∀ (n : Nat) (acc : List (List S40)) (l : List S56), l.length < n → l.length < m → l.length < c → TB l → KL acc → Fn KL c (lh one n acc l) := by
 intro n
 induction n with
 | zero => intro acc l h1; omega
 | succ n ih =>
  intro acc l h1 h2 h3 h4 h5
  unfold lh
  refine jd (fun d => ?_) (fun d => jd (fun _ => ?_) (fun _ => ?_))
  ·exact Fn.bind (jh [41] (by simp) l h4) fun _ r g1 g2 _ => kY (by omega) g2 h5
  ·exact Fn.bind (ho l h2 h4) fun s r g1 g2 g3 => ih _ r (by omega) (by omega) (by omega) g2 (KL.app h5 (KL.one g3))
  exact Fn.bind (jh [44] (by simp) l h4) fun _ r f1 f2 _ => Fn.bind (ho r (by omega) f2) fun s r g1 g2 g3 => ih _ r (by omega) (by omega) (by omega) g2 (KL.app h5 (KL.one g3))
theorem GM {one : Ps (List S40)} (ho : ∀ l, l.length < m → TB l → Fn KT l.length (one l)) (N : Nat) (l : List S56) (hl : l.length ≤ m) (hN : l.length ≤ N) (h : TB l) : Fn KL l.length (Par.dZ one N l) :=
 Fn.bind (jh [40] (by simp) l h) fun _ r g1 g2 _ => J3 ho _ N [] r (by omega) (by omega) g1 g2 KL.nil
theorem Jp (l : List S56) (h : TB l) : Fn KT l.length (nK l) :=
 Fn.bind (o8 1 l h) fun t r h1 h2 h3 => kY h1 h2 (mM KL.nil h3.1 eQ (Or.inl (by omega))).1
theorem DN (T : Tot S m) (N : Nat) (l : List S56) (hl : l.length ≤ m) (hN : l.length ≤ N) (h : TB l) : Fn KL l.length (Par.dZ S.expr N l) :=
 GM (fun l a b => (T.expr l a b).weak (Nat.le_refl _) (fun _ h => h.1)) N l hl hN h
theorem wQ (T : Tot S m) (N : Nat) (k : Int) (nm : ByteArray) (hk : k ≠ 26) (hn : nm.size ≤ 3000) (l : List S56) (hl : l.length ≤ m) (hN : l.length ≤ N) (h : TB l) : Fn KN l.length (iR S N k nm l) :=
 Fn.bind (GM (fun l a b => Jp l b) N l hl hN h) fun ps r h1 h2 h3 => Fn.bind (Ef T N r (by omega) (by omega) h2) fun b r2 g1 g2 g3 => kY (by omega) g2 (mM (KL.app h3 (KL.one g3.1)) hn eQ (Or.inl hk))
theorem MG (T : Tot S m) (N : Nat) (l : List S56) (hl : l.length ≤ m) (hN : l.length ≤ N) (h : TB l) : Fn KN l.length (nO S N l) := by
 cases l with
 | nil => trivial
 | cons t r =>
  unfold nO
  refine jd (fun _ => ⟨by simp, h.tail, mM KL.nil eQ eQ (Or.inl (by omega)) (h t List.mem_cons_self).2⟩) (fun _ => jd (fun _ => ⟨by simp, h.tail, mM KL.nil eQ (h t List.mem_cons_self).1 (Or.inl (by omega))⟩) (fun _ => ?_))
  unfold uJ
  refine Fn.bind (o8 1 _ h) fun t1 r1 h1 h2 h3 => jd (fun c => ?_) (fun c => ⟨h1, h2, mM KL.nil h3.1 eQ (Or.inl (by omega))⟩)
  exact Fn.bind (nX r1 h2 _ c (by simp)) fun _ r2 g1 g2 _ => Fn.bind (o8 1 r2 g2) fun u r3 f1 f2 f3 => Fn.bind (DN T N r3 (by omega) (by omega) f2) fun ks r4 e1 e2 e3 => kY (by omega) e2 (mM e3 h3.1 f3.1 (Or.inl (by omega)))
theorem LP (T : Tot S m) (N : Nat) (l : List S56) (hl : l.length ≤ m) (hN : l.length ≤ N) (h : TB l) : Fn KN l.length (lW S N l) := by
 unfold lW
 refine jd (fun c => Fn.bind (nX l h _ c (by simp)) fun _ r h1 h2 _ => kY (by omega) h2 (mM KL.nil eQ eQ (Or.inl (by omega)))) (fun _ => ?_)
 refine jd (fun c => Fn.bind (nX l h _ c (by simp)) fun _ r h1 h2 _ => kY (by omega) h2 (mM KL.nil eQ eQ (Or.inl (by omega)))) (fun _ => ?_)
 refine jd (fun c => Fn.bind (nX l h _ c (by simp)) fun _ r h1 h2 _ => Fn.bind (jh [125] (by simp) r h2) fun _ r2 g1 g2 _ => kY (by omega) g2 (mM KL.nil eQ eQ (Or.inl (by omega)))) (fun _ => ?_)
 refine jd (fun c => Fn.bind (nX l h _ c (by simp)) fun _ r h1 h2 _ => (wQ T N 24 E (by omega) eQ r (by omega) (by omega) h2).weak (by omega) (fun _ h => h)) (fun _ => ?_)
 refine jd (fun c => Fn.bind (nX l h _ c (by simp)) fun _ r h1 h2 _ => Fn.bind (T.expr r (by omega) h2) fun e r2 g1 g2 g3 => Fn.bind (jh [41] (by simp) r2 g2) fun _ r3 f1 f2 _ => kY (by omega) f2 g3) (fun _ => ?_)
 exact MG T N l hl hN h
theorem Jj (T : Tot S m) (N c : Nat) : ∀ (n : Nat) (e : List S40) (l : List S56), l.length < n → l.length ≤ m → l.length ≤ N → l.length < c → TB l → KN e → Fn KN c (l7 S N n e l) := by
 intro n
 induction n with
 | zero => intro e l h1; omega
 | succ n ih =>
  intro e l h1 h2 h3 h4 h5 h6
  unfold l7
  refine jd (fun d => ?_) (fun d => jd (fun d2 => ?_) (fun _ => ⟨h4, h5, h6⟩))
  ·exact Fn.bind (DN T N l h2 h3 h5) fun ks r g1 g2 g3 => ih _ r (by omega) (by omega) (by omega) (by omega) g2 (mM (KL.app (KL.one h6.1) g3) eQ eQ (Or.inl (by omega)))
  exact Fn.bind (nX l h5 _ d2 (by simp)) fun _ r g1 g2 _ => Fn.bind (T.expr r (by omega) g2) fun i r2 f1 f2 f3 => Fn.bind (jh [93] (by simp) r2 f2) fun _ r3 e1 e2 _ =>
   ih _ r3 (by omega) (by omega) (by omega) (by omega) e2 (mM (KL.cons h6.1 (KL.one f3.1)) eQ eQ (Or.inr rfl))
theorem Di (l : List S56) (h : TB l) : (wB l).size ≤ 3000 := by
 cases l with
 | nil => exact eQ
 | cons t r =>
  unfold wB
  by_cases c : t.f0 = 5 ∨ t.f0 = 4
  ·simp only [if_pos c]; exact (h t List.mem_cons_self).1
  simp only [if_neg c]; exact eQ
theorem Dn (T : Tot S m) (N : Nat) (l : List S56) (hl : l.length ≤ m) (hN : l.length ≤ N) (h : TB l) : Fn KN l.length (kW S N l) := by
 unfold kW
 refine jd (fun c => Fn.bind (nX l h (wd l) rfl (by rcases c with c | c | c <;> rw [c] <;> simp)) fun _ r h1 h2 _ => ?_) (fun _ => ?_)
 ·exact Fn.bind (T.unary r (by omega) h2) fun e r2 g1 g2 g3 => kY (by omega) g2 (mM (KL.one g3.1) eQ (Di l h) (Or.inl (by omega)))
 refine jd (fun c => Fn.bind (nX l h _ c (by simp)) fun _ r h1 h2 _ => ?_) (fun _ => ?_)
 ·exact Fn.bind (T.unary r (by omega) h2) fun e r2 g1 g2 g3 => kY (by omega) g2 (mM (KL.one g3.1) eQ eQ (Or.inl (by omega)))
 exact Fn.bind (LP T N l hl hN h) fun e r g1 g2 g3 => Jj T N _ N e r (by omega) (by omega) (by omega) g1 g2 g3
theorem H9 {S : PF} (a : Int) (ha : 1 ≤ a) (M c : Nat) (B : ∀ l, l.length ≤ M → TB l → Fn KN l.length (S.bound (a + 1) l)) : ∀ (n : Nat) (e : List S40) (l : List S56), l.length < n → l.length ≤ M → l.length < c → TB l → KN e → Fn KN c (lJ S a n e l) := by
 intro n
 induction n with
 | zero => intro e l h1; omega
 | succ n ih =>
  intro e l h1 h2 h4 h5 h6
  unfold lJ
  refine jd (fun d => Fn.bind (nX l h5 (wd l) rfl (fun w => by rw [w] at d; have : gG [] = 0 := rfl; omega)) fun _ r g1 g2 _ => Fn.bind (B r (by omega) g2) fun e2 r2 f1 f2 f3 => ?_) (fun _ => ⟨h4, h5, h6⟩)
  have hk := mM (k := 27) (nm := E) (n := 0) (tx := wB l) (KL.cons h6.1 (KL.one f3.1)) eQ (Di l h5) (Or.inl (by omega))
  by_cases d3 : a = 3
  ·rw [if_pos d3]; exact kY (by omega) f2 hk
  rw [if_neg d3]; exact ih _ r2 (by omega) (by omega) (by omega) f2 hk
theorem JR {S : PF} (N M : Nat) (a : Int) (h1 : 1 ≤ a) (h6 : a ≠ 6) (hM : M ≤ N) (B : ∀ l, l.length ≤ M → TB l → Fn KN l.length (S.bound (a + 1) l)) (l : List S56) (hl : l.length ≤ M) (h : TB l) : Fn KN l.length (ja S N a l) := by
 unfold ja
 rw [if_neg h6]
 exact Fn.bind (B l hl h) fun e r g1 g2 g3 => H9 a h1 M _ B N e r (by omega) (by omega) g1 g2 g3
theorem tot : ∀ m : Nat, ∃ n0, ∀ n, n0 ≤ n → Tot (fU n) m := by
 intro m
 induction m with
 | zero => exact ⟨0, fun n _ => ⟨fun l h => by omega, fun l h => by omega, fun a _ _ l h => by omega, fun l h => by omega⟩⟩
 | succ m ih =>
  obtain ⟨n0, h0⟩ := ih
  have b6 : ∀ n, n0 + m + 1 ≤ n → ∀ l, l.length ≤ m → TB l → Fn KN l.length ((fU n).bound 6 l) := by
   intro n hn l hl h
   obtain ⟨k, rfl⟩ : ∃ k, n = k + 1 := ⟨n - 1, by omega⟩
   show Fn KN l.length (ja (fU k) k 6 l)
   unfold ja
   rw [if_pos rfl]
   exact Dn (h0 k (by omega)) k l hl (by omega) h
  have st : ∀ (a : Int) (d : Nat), 1 ≤ a → a ≤ 5 → (∀ n, n0 + m + d ≤ n → ∀ l, l.length ≤ m → TB l → Fn KN l.length ((fU n).bound (a + 1) l)) → ∀ n, n0 + m + (d + 1) ≤ n → ∀ l, l.length ≤ m → TB l → Fn KN l.length ((fU n).bound a l) := by
   intro a d h1 h2 hB n hn l hl h
   obtain ⟨k, rfl⟩ : ∃ k, n = k + 1 := ⟨n - 1, by omega⟩
   show Fn KN l.length (ja (fU k) k a l)
   exact JR k m a h1 (by omega) (by omega) (hB k (by omega)) l hl h
  have b5 := st 5 1 (by omega) (by omega) b6
  have b4 := st 4 2 (by omega) (by omega) b5
  have b3 := st 3 3 (by omega) (by omega) b4
  have b2 := st 2 4 (by omega) (by omega) b3
  have b1 := st 1 5 (by omega) (by omega) b2
  refine ⟨n0 + m + 6, fun n hn => ⟨fun l hl h => ?_, fun l hl h => ?_, fun a h1 h2 l hl h => ?_, fun l hl h => ?_⟩⟩
  ·obtain ⟨k, rfl⟩ : ∃ k, n = k + 1 := ⟨n - 1, by omega⟩
   exact b1 (k + 1) hn l (by omega) h
  ·obtain ⟨k, rfl⟩ : ∃ k, n = k + 1 := ⟨n - 1, by omega⟩
   exact Ef (h0 k (by omega)) k l (by omega) (by omega) h
  ·rcases (show a = 1 ∨ a = 2 ∨ a = 3 ∨ a = 4 ∨ a = 5 ∨ a = 6 by omega) with rfl | rfl | rfl | rfl | rfl | rfl
   ·exact b1 n (by omega) l (by omega) h
   ·exact b2 n (by omega) l (by omega) h
   ·exact b3 n (by omega) l (by omega) h
   ·exact b4 n (by omega) l (by omega) h
   ·exact b5 n (by omega) l (by omega) h
   exact b6 n (by omega) l (by omega) h
  obtain ⟨k, rfl⟩ : ∃ k, n = k + 1 := ⟨n - 1, by omega⟩
  exact Dn (h0 k (by omega)) k l (by omega) (by omega) h
theorem N7 (l : List S56) (h : TB l) : Fn KN l.length (yh l) :=
 Fn.bind (o8 1 l h) fun a r h1 h2 h3 => Fn.bind (jh [46] (by simp) r h2) fun _ r g1 g2 _ => Fn.bind (o8 1 r g2) fun b r f1 f2 f3 => Fn.bind (jh [47] (by simp) r f2) fun _ r e1 e2 _ =>
  Fn.bind (o8 2 r e2) fun c r d1 d2 d3 => Fn.bind (jh [59] (by simp) r d2) fun _ r c1 c2 _ => kY (by omega) c2 (mM KL.nil h3.1 f3.1 (Or.inl (by omega)) d3.2)
theorem JC (T : Tot S m) (N : Nat) (nm : ByteArray) (v : Int) (hn : nm.size ≤ 3000) (hv : v ≤ 9223372036854775807) (c : Nat) : ∀ (n : Nat) (acc : List (List S40)) (l : List S56), l.length < n → l.length ≤ m → l.length ≤ N → l.length < c → TB l → KL acc → Fn KN c (oq S N nm v n acc l) := by
 intro n
 induction n with
 | zero => intro e l h1; omega
 | succ n ih =>
  intro acc l h1 h2 h3 h4 h5 h6
  unfold oq
  refine jd (fun d => ?_) (fun _ => ⟨h4, h5, mM h6 hn eQ (Or.inl (by omega))⟩)
  exact Fn.bind (nX l h5 _ d (by simp)) fun _ r g1 g2 _ => Fn.bind (o8 1 r g2) fun t r2 f1 f2 f3 => Fn.bind (wQ T N 3 t.f1 (by omega) f3.1 r2 (by omega) (by omega) f2) fun f r3 e1 e2 e3 =>
   ih _ r3 (by omega) (by omega) (by omega) (by omega) e2 (KL.app h6 (KL.one e3.1))
theorem IK (T : Tot S m) (N : Nat) (nm : ByteArray) (v : Int) (hn : nm.size ≤ 3000) (hv : v ≤ 9223372036854775807) (c : Nat) : ∀ (n : Nat) (acc : List (List S40)) (l : List S56), l.length < n → l.length ≤ m → l.length < N → l.length < c → TB l → KL acc → Fn KN c (mF S N nm v n acc l) := by
 intro n
 induction n with
 | zero => intro e l h1; omega
 | succ n ih =>
  intro acc l h1 h2 h3 h4 h5 h6
  unfold mF
  refine jd (fun d => ?_) (fun _ => JC T N nm v hn hv c N acc l h3 h2 (by omega) h4 h5 h6)
  exact Fn.bind (nX l h5 _ d (by simp)) fun _ r g1 g2 _ => Fn.bind (N7 r g2) fun t r2 f1 f2 f3 => ih _ r2 (by omega) (by omega) (by omega) (by omega) f2 (KL.app h6 (KL.one f3.1))
theorem GG (T : Tot S m) (N : Nat) (l : List S56) (hl : l.length ≤ m) (hN : l.length ≤ N) (h : TB l) : Fn KN l.length (jC S N l) :=
 Fn.bind (jh _ (by simp) l h) fun _ r h1 h2 _ => Fn.bind (o8 1 r h2) fun t r g1 g2 g3 => Fn.bind (o8 2 r g2) fun u r f1 f2 f3 => Fn.bind (jh [59] (by simp) r f2) fun _ r e1 e2 _ =>
  IK T N t.f1 u.f2 g3.1 f3.2 _ N [] r (by omega) (by omega) (by omega) (by omega) e2 KL.nil
end Go.Proofs.Ytlenihbmafkegaa.Par
end
section
set_option linter.unusedVariables false
set_option linter.unusedSimpArgs false
namespace Go.Proofs.Ytlenihbmafkegaa.Par
open Go Go.RowKit Go.Proofs.YtlenihbmafkegaaW.PrintWords Go.Proofs.Ytlenihbmafkegaa.Q Go.Proofs.Ytlenihbmafkegaa.Lex Go.Proofs.Ytlenihbmafkegaa.Tree
/-- Where the reader stopped. -/
def plS (ts r : List S56) : Int := match r with
 | t :: _ => t.f3
 | [] => match ts.getLast? with
  | some t => t.f3 + 1
  | none => 0
def Fg (ts : List S56) : R (List S40) → List S40 × Int × Int
 | .ok (x, []) => if (jV x).1 = 0 then (x, 0, 0) else ([], (jV x).1, 0)
 | .ok (_, t :: r) => ([], 10, plS ts (t :: r))
 | .error (some r) => ([], 10, plS ts r)
 | .error none => ([], 10, 0)
def small (ts : List S56) : Prop := ∀ t ∈ ts, -9223372036854775808 ≤ t.f3 ∧ t.f3 ≤ 4611686018427387904
theorem Dw (ts : List S56) (hp : small ts) (hl : ts.length ≤ 40000) (p : Nat) (b : Bool) : eG.f ts (p : Int) b = some (plS ts (ts.drop p), (p : Int), b) := by
 have key : ∀ i (hi : i < ts.length), dD ts (i : Int) = ts[i] := by
  intro i hi
  obtain ⟨_, h2, _⟩ := uk ts i _ _ (List.drop_eq_getElem_cons hi)
  exact h2
 unfold eG.f plS
 by_cases c : p < ts.length
 ·rw [if_pos (by omega), if_pos (by omega), key p c, List.drop_eq_getElem_cons c]
 rw [if_neg (by omega), List.drop_eq_nil_of_le (by omega)]
 by_cases d : 0 < ts.length
 ·have e : wrap64 ((ts.length : Int) - 1) = ((ts.length - 1 : Nat) : Int) := by rw [Tree.w64 (by omega) (by omega)]; omega
  have h := hp _ (List.getElem_mem (show ts.length - 1 < ts.length by omega))
  rw [if_pos (by omega), e, if_pos (by omega), if_pos (by omega), key _ (by omega), Tree.w64 (by omega) (by omega), List.getLast?_eq_getElem?, List.getElem?_eq_getElem (by omega)]
 rw [if_neg (by omega), List.length_eq_zero_iff.1 (by omega : ts.length = 0)]; rfl
theorem F6 (ts : List S56) (hts : ts.length ≤ 40000) (hp : small ts) (n : Nat) (hn : Fn KN ts.length (jC (fU n) n ts)) : ag (fun k => iD.f k ts) (Fg ts (jC (fU n) n ts)) := by
 have hT := G8 hts (NZ n) tq n
 match hr : jC (fU n) n ts, hn, hT with
 | .ok (x, r), ⟨_, _, h3⟩, ⟨p, _, hp2, hd, hs, hE⟩ =>
  unfold sz at hs
  unfold iD.f
  by_cases c : p < ts.length
  ·have h1 := Dw ts hp hts p false
   cases r with
   | nil => rw [List.drop_eq_nil_iff] at hd; omega
   | cons t u =>
    refine ag.bind hE (ag.neg (by simp) (ag.pos (show (p : Int) < (ts.length : Int) by omega) ?_))
    dsimp only
    rw [h1, hd]
    exact ag.now
  rw [List.drop_eq_nil_of_le (by omega)] at hd
  subst hd
  have hC := Eo x (by omega) (fun y hy => (h3.1.2 y hy).1)
  show ag _ (if (jV x).1 = 0 then (x, 0, 0) else ([], (jV x).1, 0))
  by_cases d : (jV x).1 = 0
  ·rw [if_pos d]
   exact ag.bind hE (ag.neg (by simp) (ag.neg (show ¬ (p : Int) < (ts.length : Int) by omega) (ag.bind hC (ag.pos d ag.now))))
  rw [if_neg d]
  exact ag.bind hE (ag.neg (by simp) (ag.neg (show ¬ (p : Int) < (ts.length : Int) by omega) (ag.bind hC (ag.neg d ag.now))))
 | .error (some r), _, ⟨x, p, _, _, hd, _, hE⟩ =>
  have h1 := Dw ts hp hts p true
  unfold iD.f
  refine ag.bind hE (ag.pos rfl ?_)
  dsimp only
  rw [h1, hd]
  exact ag.now
/-- Rounds enough for all tokens of such a number. -/
theorem rounds (m : Nat) : ∃ n0, ∀ n, n0 ≤ n → Tot (fU n) m ∧ ∀ l : List S56, l.length ≤ m → TB l → Fn KN l.length (jC (fU n) n l) := by
 obtain ⟨n0, h0⟩ := tot m
 exact ⟨n0 + m, fun n hn => ⟨h0 n (by omega), fun l hl h => GG (h0 n (by omega)) n l hl (by omega) h⟩⟩
theorem Na {ts : List S56} {r : R (List S40)} (h : (Fg ts r).2.1 = 0) : ∃ x, r = .ok (x, []) ∧ (jV x).1 = 0 ∧ Fg ts r = (x, 0, 0) := by
 unfold Fg at h ⊢
 split at h
 ·rename_i x
  by_cases c : (jV x).1 = 0
  ·rw [if_pos c]; exact ⟨x, rfl, c, rfl⟩
  rw [if_neg c] at h; exact absurd h c
 all_goals cases h
end Go.Proofs.Ytlenihbmafkegaa.Par
end
section
set_option linter.unusedVariables false
set_option linter.unusedSimpArgs false
namespace Go.Proofs.Ytlenihbmafkegaa.Lex
open Go Go.RowKit Go.Proofs.YtlenihbmafkegaaW.PrintWords Go.Proofs.Ytlenihbmafkegaa.Q
theorem zG : ∀ (f : Nat) (l : List UInt8) (e : Int) (r : Nat), toks f l = .error (e, r) → e ≠ 0 ∧ 1 ≤ r ∧ r ≤ l.length
 | 0, l, e, r, h => by simp [toks] at h
 | f + 1, [], e, r, h => by simp [toks] at h
 | f + 1, c :: u, e, r, h => by
  simp only [toks] at h
  split at h
  ·rename_i e1 ho
   simp only [Except.error.injEq, Prod.mk.injEq] at h
   obtain ⟨rfl, rfl⟩ := h
   exact ⟨uO ho (by simp), by simp, Nat.le_refl _⟩
  rename_i k x n m ho
  split at h
  ·rename_i e2 h2
   simp only [Except.error.injEq] at h
   subst h
   have := zG f _ e r h2
   have h3 := nY ((c :: u).drop m) false
   rw [List.length_drop] at h3
   exact ⟨this.1, this.2.1, by omega⟩
  cases h
theorem FU {l : List UInt8} {e : Int} {r : Nat} (h : Lex.scan l = .error (e, r)) : e ≠ 0 ∧ 1 ≤ r ∧ r ≤ l.length := by
 have := zG _ _ e r h
 have h3 := nY l false
 exact ⟨this.1, this.2.1, by omega⟩
theorem uU : ∀ (l : List UInt8) (b : Bool) (x r : List UInt8), unq b l = some (x, r) → x.length ≤ l.length
 | [], b, x, r, h => by cases b <;> simp [unq] at h
 | c :: t, true, x, r, h => by
  simp only [unq] at h
  split at h
  ·cases h
  simp only [Option.map_eq_some_iff, Prod.mk.injEq] at h
  obtain ⟨⟨y, s⟩, h1, h2, h3⟩ := h
  have := uU t false y s h1
  subst h2
  simp only [List.length_cons]
  omega
 | c :: t, false, x, r, h => by
  simp only [unq] at h
  split at h
  ·simp only [Option.some.injEq, Prod.mk.injEq] at h
   rw [← h.1]; simp
  split at h
  ·cases h
  split at h
  ·have := uU t true x r h
   simp only [List.length_cons]; omega
  simp only [Option.map_eq_some_iff, Prod.mk.injEq] at h
  obtain ⟨⟨y, s⟩, h1, h2, h3⟩ := h
  have := uU t false y s h1
  subst h2
  simp only [List.length_cons]
  omega
theorem Js {l : List UInt8} {k : Int} {x : List UInt8} {n : Int} {m : Nat} (h : Lex.one l = .ok (k, x, n, m)) : x.length ≤ l.length := by
 cases l with
 | nil => simp [Lex.one] at h
 | cons c t =>
  have h1 := jK inn (c :: t)
  have h2 := jK di (c :: t)
  have h3 := Ac (c :: t)
  simp only [Lex.one] at h
  repeat' split at h
  all_goals first
   | (cases h; done)
   | (simp only [Except.ok.injEq, Prod.mk.injEq] at h; obtain ⟨_, rfl, _, _⟩ := h; first | exact h1 | exact h2 | exact h3 | (have := uU _ _ _ _ ‹unq _ _ = some _›; simp only [List.length_cons]; omega))
theorem zH : ∀ (f : Nat) (l : List UInt8) (ts : List Tk), toks f l = .ok ts → ts.length ≤ l.length ∧ ∀ t ∈ ts, 1 ≤ t.rem ∧ t.rem ≤ l.length ∧ t.text.length ≤ l.length
 | 0, l, ts, h => by
  simp only [toks, Except.ok.injEq] at h
  subst h
  exact ⟨by simp, fun t ht => by cases ht⟩
 | f + 1, [], ts, h => by
  simp only [toks, Except.ok.injEq] at h
  subst h
  exact ⟨by simp, fun t ht => by cases ht⟩
 | f + 1, c :: u, ts, h => by
  simp only [toks] at h
  split at h
  ·cases h
  rename_i k x n j ho
  split at h
  ·cases h
  rename_i us hu
  simp only [Except.ok.injEq] at h
  subst h
  have hj := uY ho
  have hs := nY ((c :: u).drop j) false
  rw [List.length_drop] at hs
  obtain ⟨h1, h2⟩ := zH f _ us hu
  refine ⟨by simp only [List.length_cons] at *; omega, fun t ht => ?_⟩
  rcases List.mem_cons.1 ht with rfl | ht
  ·exact ⟨by simp, Nat.le_refl _, Js ho⟩
  have := h2 t ht
  omega
theorem zO {l : List UInt8} {ts : List Tk} (h : Lex.scan l = .ok ts) : ts.length ≤ l.length ∧ ∀ t ∈ ts, 1 ≤ t.rem ∧ t.rem ≤ l.length ∧ t.text.length ≤ l.length := by
 obtain ⟨h1, h2⟩ := zH _ _ _ h
 have h3 := nY l false
 exact ⟨by omega, fun t ht => by have := h2 t ht; omega⟩
end Go.Proofs.Ytlenihbmafkegaa.Lex
end
section
set_option linter.unusedVariables false
set_option linter.unusedSimpArgs false
namespace Go.Proofs.Ytlenihbmafkegaa.Par
open Go Go.RowKit Go.Proofs.YtlenihbmafkegaaW.PrintWords Go.Proofs.Ytlenihbmafkegaa.Q Go.Proofs.Ytlenihbmafkegaa.Lex Go.Proofs.Ytlenihbmafkegaa.Tree
/-- A token without its place. -/
def core (t : S56) : Int × ByteArray × Int := (t.f0, t.f1, t.f2)
abbrev Sim (l l' : List S56) : Prop := l.map core = l'.map core
theorem Sim.len {l l' : List S56} (h : Sim l l') : l.length = l'.length := by have := congrArg List.length h; simpa using this
theorem Sim.nil {l : List S56} (h : Sim [] l) : l = [] := by have := h.len; exact List.length_eq_zero_iff.1 this.symm
theorem Sim.cons {t : S56} {u l : List S56} (h : Sim (t :: u) l) : ∃ t' u', l = t' :: u' ∧ core t = core t' ∧ Sim u u' := by
 cases l with
 | nil => cases h
 | cons t' u' => exact ⟨t', u', rfl, (List.cons.inj h).1, (List.cons.inj h).2⟩
theorem kE {t t' : S56} (h : core t = core t') : t.f0 = t'.f0 ∧ t.f1 = t'.f1 ∧ t.f2 = t'.f2 := by
 unfold core at h
 simp only [Prod.mk.injEq] at h
 exact h
theorem vw {t t' : S56} {u u' : List S56} (h : core t = core t') : wB (t :: u) = wB (t' :: u') := by
 obtain ⟨h1, h2, _⟩ := kE h
 show (if t.f0 = 5 ∨ t.f0 = 4 then t.f1 else E) = (if t'.f0 = 5 ∨ t'.f0 = 4 then t'.f1 else E)
 rw [h1, h2]
theorem xC {r T b : List S56} (h : r <:+ T ++ b) (hl : b.length ≤ r.length) : ∃ T2, r = T2 ++ b := by
 have := List.suffix_of_suffix_length_le (List.suffix_append T b) h hl
 obtain ⟨s, hs⟩ := this
 exact ⟨s, hs.symm⟩
theorem qJ {T b : List S56} (h : T ++ b <:+ b) : T = [] := by
 have := h.length_le
 rw [List.length_append] at this
 exact List.length_eq_zero_iff.1 (by omega)
/-- What is read hangs on what is passed; on what stands behind it only as far as C says. -/
structure Loc {α : Type} (C : List S56 → List S56 → Prop) (P : Ps α) : Prop where
 suf : ∀ l x r, P l = .ok (x, r) → r <:+ l
 sufE : ∀ l r, P l = .error (some r) → r <:+ l
 ok : ∀ T T' b b' x T2, Sim T T' → (T2 = [] → C b b') → P (T ++ b) = .ok (x, T2 ++ b) → ∃ T2', Sim T2 T2' ∧ P (T' ++ b') = .ok (x, T2' ++ b')
 er : ∀ T T' b b' T2, Sim T T' → T2 ≠ [] → P (T ++ b) = .error (some (T2 ++ b)) → ∃ T2', Sim T2 T2' ∧ P (T' ++ b') = .error (some (T2' ++ b'))
/-- Something is passed. -/
def Cns {α : Type} (P : Ps α) : Prop := ∀ l x r, P l = .ok (x, r) → r.length < l.length
structure LC {α : Type} (C : List S56 → List S56 → Prop) (P : Ps α) : Prop where
 loc : Loc C P
 cns : Cns P
abbrev Tr : List S56 → List S56 → Prop := fun _ _ => True
theorem bM {α β : Type} {P : Ps α} {f : α → Ps β} {l : List S56} {y : β} {r : List S56} (h : bnd P f l = .ok (y, r)) : ∃ x s, P l = .ok (x, s) ∧ f x s = .ok (y, r) := by
 unfold bnd at h
 match hp : P l, h with
 | .ok (x, s), h => exact ⟨x, s, rfl, h⟩
 | .error e, h => cases h
theorem wZ {α β : Type} {P : Ps α} {f : α → Ps β} {l : List S56} {r : List S56} (h : bnd P f l = .error (some r)) : P l = .error (some r) ∨ ∃ x s, P l = .ok (x, s) ∧ f x s = .error (some r) := by
 unfold bnd at h
 match hp : P l, h with
 | .ok (x, s), h => exact Or.inr ⟨x, s, rfl, h⟩
 | .error e, h => exact Or.inl (by simpa using h)
theorem zi {α β : Type} {P : Ps α} {f : α → Ps β} {l s : List S56} {x : α} (h : P l = .ok (x, s)) : bnd P f l = f x s := by
 unfold bnd; rw [h]
theorem DZ {α β : Type} {P : Ps α} {f : α → Ps β} {l s : List S56} (h : P l = .error (some s)) : bnd P f l = .error (some s) := by
 unfold bnd; rw [h]
theorem Loc.gen {α β : Type} {C1 C2 : List S56 → List S56 → Prop} {P : Ps α} {f : α → Ps β} (hp : Loc C1 P) (hf : ∀ x, Loc C2 (f x)) (hc : (∀ b b', C2 b b' → C1 b b') ∨ ∀ x, Cns (f x)) : Loc C2 (bnd P f) where
 suf l y r h := by
  obtain ⟨x, s, h1, h2⟩ := bM h
  exact ((hf x).suf _ _ _ h2).trans (hp.suf _ _ _ h1)
 sufE l r h := by
  rcases wZ h with h1 | ⟨x, s, h1, h2⟩
  ·exact hp.sufE _ _ h1
  exact ((hf x).sufE _ _ h2).trans (hp.suf _ _ _ h1)
 ok T T' b b' y T3 hs hC h := by
  obtain ⟨x, s, h1, h2⟩ := bM h
  have s1 := hp.suf _ _ _ h1
  have s2 := (hf x).suf _ _ _ h2
  obtain ⟨T2, rfl⟩ := xC s1 (Nat.le_trans (by simp) s2.length_le)
  have hC1 : T2 = [] → C1 b b' := by
   rintro rfl
   rcases hc with hc | hc
   ·exact hc _ _ (hC (qJ s2))
   have := hc x _ _ _ h2
   simp at this
   omega
  obtain ⟨T2', g1, g2⟩ := hp.ok T T' b b' x T2 hs hC1 h1
  obtain ⟨T3', e1, e2⟩ := (hf x).ok T2 T2' b b' y T3 g1 hC h2
  exact ⟨T3', e1, by rw [zi g2]; exact e2⟩
 er T T' b b' T3 hs hT h := by
  rcases wZ h with h1 | ⟨x, s, h1, h2⟩
  ·obtain ⟨T2', g1, g2⟩ := hp.er T T' b b' T3 hs hT h1
   exact ⟨T2', g1, DZ g2⟩
  have s1 := hp.suf _ _ _ h1
  have s2 := (hf x).sufE _ _ h2
  obtain ⟨T2, rfl⟩ := xC s1 (Nat.le_trans (by simp) s2.length_le)
  have hne : T2 ≠ [] := by rintro rfl; exact hT (qJ s2)
  obtain ⟨T2', g1, g2⟩ := hp.ok T T' b b' x T2 hs (fun h => absurd h hne) h1
  obtain ⟨T3', e1, e2⟩ := (hf x).er T2 T2' b b' T3 g1 hT h2
  exact ⟨T3', e1, by rw [zi g2]; exact e2⟩
theorem Cns.left {α β : Type} {C : List S56 → List S56 → Prop} {P : Ps α} {f : α → Ps β} (hp : Cns P) (hf : ∀ x, Loc C (f x)) : Cns (bnd P f) := fun l y r h => by
 obtain ⟨x, s, h1, h2⟩ := bM h
 have := hp _ _ _ h1
 have := ((hf x).suf _ _ _ h2).length_le
 omega
variable {α β : Type} {C C1 C2 : List S56 → List S56 → Prop}
/-- Behind what passes something, what passes something. -/
theorem LC.b1 {P : Ps α} {f : α → Ps β} (hp : LC C1 P) (hf : ∀ x, LC C2 (f x)) : LC C2 (bnd P f) := ⟨hp.loc.gen (fun x => (hf x).loc) (Or.inr fun x => (hf x).cns), Cns.left hp.cns fun x => (hf x).loc⟩
theorem LC.b2 {P : Ps α} {f : α → Ps β} (hp : LC C1 P) (hf : ∀ x, Loc C2 (f x)) (hc : ∀ b b', C2 b b' → C1 b b') : LC C2 (bnd P f) := ⟨hp.loc.gen hf (Or.inl hc), Cns.left hp.cns hf⟩
theorem LC.b3 {P : Ps α} {f : α → Ps β} (hp : LC Tr P) (hf : ∀ x, Loc C2 (f x)) : LC C2 (bnd P f) := hp.b2 hf fun _ _ _ => trivial
theorem LC.weak {P : Ps α} (hp : LC Tr P) : LC C P := ⟨⟨hp.loc.suf, hp.loc.sufE, fun T T' b b' x T2 h1 _ h2 => hp.loc.ok T T' b b' x T2 h1 (fun _ => trivial) h2, hp.loc.er⟩, hp.cns⟩
theorem Loc.ret (a : α) : Loc C (ret a) where
 suf l x r h := by cases h; exact List.suffix_refl _
 sufE l r h := by cases h
 ok T T' b b' x T2 hs hC h := by
  unfold Par.ret at h ⊢
  simp only [Except.ok.injEq, Prod.mk.injEq, List.append_cancel_right_eq] at h
  obtain ⟨rfl, rfl⟩ := h
  exact ⟨T', hs, rfl⟩
 er T T' b b' T2 hs hT h := by cases h
theorem LC.out : LC C (out : Ps α) where
 loc := { suf := fun l x r h => (by cases h), sufE := fun l r h => (by cases h), ok := fun T T' b b' x T2 _ _ h => (by cases h), er := fun T T' b b' T2 _ _ h => (by cases h) }
 cns l x r h := by cases h
theorem LC.fail : LC C (fun l => (.error (some l) : R α)) where
 loc := { suf := fun l x r h => (by cases h), sufE := fun l r h => (by cases h; exact List.suffix_refl _), ok := fun T T' b b' x T2 _ _ h => (by cases h), er := fun T T' b b' T2 hs _ h => (by
  simp only [Except.error.injEq, Option.some.injEq, List.append_cancel_right_eq] at h
  subst h
  exact ⟨T', hs, rfl⟩) }
 cns l x r h := by cases h
theorem LC.tk : LC C tk := by
 refine ⟨⟨fun l x r h => ?_, fun l r h => ?_, fun T T' b b' x T2 hs hC h => ?_, fun T T' b b' T2 hs hT h => ?_⟩, fun l x r h => ?_⟩
 ·cases l with
  | nil => cases h
  | cons t u => cases h; exact List.suffix_cons _ _
 ·cases l <;> cases h
 ·cases T with
  | nil =>
   cases b with
   | nil => cases h
   | cons t u =>
    have := congrArg (fun z : R Unit => match z with | .ok (_, r) => r.length | _ => 0) h
    simp [Par.tk] at this
    omega
  | cons t u =>
   obtain ⟨t', u', rfl, h1, h2⟩ := hs.cons
   simp only [Par.tk, List.cons_append, Except.ok.injEq, Prod.mk.injEq, List.append_cancel_right_eq, true_and] at h ⊢
   subst h
   exact ⟨u', h2, rfl⟩
 ·cases hl : T ++ b with
  | nil => rw [hl] at h; cases h
  | cons t u => rw [hl] at h; cases h
 cases l with
 | nil => cases h
 | cons t u => cases h; simp
theorem LC.head {G : ByteArray → Ps α} (h : ∀ w, LC C (G w)) : LC C (fun l => G (wB l) l) := by
 refine ⟨⟨fun l x r => (h _).loc.suf l x r, fun l r => (h _).loc.sufE l r, fun T T' b b' x T2 hs hC e => ?_, fun T T' b b' T2 hs hT e => ?_⟩, fun l x r => (h _).cns l x r⟩
 ·cases T with
  | nil =>
   have := (h _).cns _ _ _ e
   simp at this
   omega
  | cons t u =>
   obtain ⟨t', u', rfl, h1, h2⟩ := hs.cons
   rw [List.cons_append, vw (u' := u' ++ b') h1, ← List.cons_append] at e
   exact (h _).loc.ok _ _ b b' x T2 hs hC e
 cases T with
 | nil => exact absurd (qJ ((h _).loc.sufE _ _ e)) hT
 | cons t u =>
  obtain ⟨t', u', rfl, h1, h2⟩ := hs.cons
  rw [List.cons_append, vw (u' := u' ++ b') h1, ← List.cons_append] at e
  exact (h _).loc.er _ _ b b' T2 hs hT e
theorem Loc.head {G : ByteArray → Ps α} (h : ∀ w, Loc C (G w)) (hd : ∀ b b' x, C b b' → G (wB b) b = .ok (x, b) → G (wB b') b' = .ok (x, b')) : Loc C (fun l => G (wB l) l) := by
 refine ⟨fun l x r => (h _).suf l x r, fun l r => (h _).sufE l r, fun T T' b b' x T2 hs hC e => ?_, fun T T' b b' T2 hs hT e => ?_⟩
 ·cases T with
  | nil =>
   obtain rfl := hs.nil
   obtain rfl := qJ ((h _).suf _ _ _ e)
   exact ⟨[], rfl, hd b b' x (hC rfl) e⟩
  | cons t u =>
   obtain ⟨t', u', rfl, h1, h2⟩ := hs.cons
   rw [List.cons_append, vw (u' := u' ++ b') h1, ← List.cons_append] at e
   exact (h _).ok _ _ b b' x T2 hs hC e
 cases T with
 | nil => exact absurd (qJ ((h _).sufE _ _ e)) hT
 | cons t u =>
  obtain ⟨t', u', rfl, h1, h2⟩ := hs.cons
  rw [List.cons_append, vw (u' := u' ++ b') h1, ← List.cons_append] at e
  exact (h _).er _ _ b b' T2 hs hT e
theorem LC.ite {c : Prop} [Decidable c] {P Q : Ps α} (h1 : c → LC C P) (h2 : ¬c → LC C Q) : LC C (fun l => if c then P l else Q l) := by
 by_cases h : c
 ·simp only [if_pos h]; exact h1 h
 simp only [if_neg h]; exact h2 h
theorem Loc.ite {c : Prop} [Decidable c] {P Q : Ps α} (h1 : c → Loc C P) (h2 : ¬c → Loc C Q) : Loc C (fun l => if c then P l else Q l) := by
 by_cases h : c
 ·simp only [if_pos h]; exact h1 h
 simp only [if_neg h]; exact h2 h
theorem LC.must (w : List UInt8) (hw : w ≠ []) : LC C (must w) := by
 have : LC C (fun l => (fun (v : ByteArray) (l : List S56) => if v.toList = w then bnd Par.tk (fun _ => Par.ret ()) l else (.error (some l) : R Unit)) (wB l) l) := LC.head (G := fun (v : ByteArray) (l : List S56) => if v.toList = w then bnd Par.tk (fun _ => Par.ret ()) l else (.error (some l) : R Unit)) fun v => LC.ite (fun _ => LC.tk.b3 fun _ => Loc.ret ()) (fun _ => LC.fail)
 have e : Par.must w = (fun l => (fun (v : ByteArray) (l : List S56) => if v.toList = w then bnd Par.tk (fun _ => Par.ret ()) l else (.error (some l) : R Unit)) (wB l) l) := by
  funext l
  unfold Par.must
  by_cases c : wd l = w
  ·rw [if_pos c]
   show _ = if wd l = w then _ else _
   rw [if_pos c]
   cases l with
   | nil => exact absurd (nz.symm.trans c).symm hw
   | cons t u => rfl
  rw [if_neg c]
  show _ = if wd l = w then _ else _
  rw [if_neg c]
 rw [e]; exact this
theorem qN {k : Int} {l : List S56} {t : S56} {r : List S56} (h : need k l = .ok (t, r)) : l = t :: r ∧ t.f0 = k := by
 cases l with
 | nil => cases h
 | cons s u =>
  unfold need at h
  by_cases c : s.f0 = k
  ·simp only [if_pos c, Except.ok.injEq, Prod.mk.injEq] at h
   obtain ⟨rfl, rfl⟩ := h
   exact ⟨rfl, c⟩
  simp only [if_neg c] at h; cases h
theorem D5 {k : Int} {t : S56} {r : List S56} (h : t.f0 = k) : need k (t :: r) = .ok (t, r) := by simp [need, h]
theorem yG {k : Int} {l r : List S56} (h : need k l = .error (some r)) : r = l ∧ ∀ t u, l = t :: u → t.f0 ≠ k := by
 cases l with
 | nil => cases h; exact ⟨rfl, fun t u h => by cases h⟩
 | cons s u =>
  unfold need at h
  by_cases c : s.f0 = k
  ·simp only [if_pos c] at h; cases h
  simp only [if_neg c, Except.error.injEq, Option.some.injEq] at h
  exact ⟨h.symm, fun t u e => by obtain ⟨rfl, _⟩ := List.cons.inj e; exact c⟩
/-- A token of a kind, and what hangs on it, but not on its place. -/
theorem LC.need {k : Int} {f : S56 → Ps β} (hf : ∀ t, Loc C (f t)) (hc : ∀ t t', core t = core t' → f t = f t') : LC C (bnd (need k) f) := by
 refine ⟨⟨fun l y r h => ?_, fun l r h => ?_, fun T T' b b' y T2 hs hC h => ?_, fun T T' b b' T2 hs hT h => ?_⟩, fun l y r h => ?_⟩
 ·obtain ⟨t, s, h1, h2⟩ := bM h
  obtain ⟨rfl, _⟩ := qN h1
  exact ((hf t).suf _ _ _ h2).trans (List.suffix_cons _ _)
 ·rcases wZ h with h1 | ⟨t, s, h1, h2⟩
  ·rw [(yG h1).1]; exact List.suffix_refl _
  obtain ⟨rfl, _⟩ := qN h1
  exact ((hf t).sufE _ _ h2).trans (List.suffix_cons _ _)
 ·obtain ⟨t, s, h1, h2⟩ := bM h
  obtain ⟨e, hk⟩ := qN h1
  cases T with
  | nil =>
   rw [List.nil_append] at e
   have := ((hf t).suf _ _ _ h2).length_le
   rw [e] at this
   simp at this
   omega
  | cons a u =>
   obtain ⟨rfl, rfl⟩ := List.cons.inj e
   obtain ⟨t', u', rfl, g1, g2⟩ := hs.cons
   obtain ⟨T2', e1, e2⟩ := (hf _).ok u u' b b' y T2 g2 hC h2
   refine ⟨T2', e1, ?_⟩
   rw [List.cons_append, zi (D5 ((kE g1).1 ▸ hk)), ← hc _ _ g1]
   exact e2
 ·cases T with
  | nil =>
   rcases wZ h with h1 | ⟨t, s, h1, h2⟩
   ·exact absurd (by have := (yG h1).1; simpa using this) hT
   obtain ⟨e, _⟩ := qN h1
   have := ((hf t).sufE _ _ h2).length_le
   rw [List.nil_append] at e
   rw [e] at this
   simp at this
   omega
  | cons a u =>
   obtain ⟨t', u', rfl, g1, g2⟩ := hs.cons
   rcases wZ h with h1 | ⟨t, s, h1, h2⟩
   ·obtain ⟨e, hn⟩ := yG h1
    have e := List.append_cancel_right e
    subst e
    refine ⟨t' :: u', hs, ?_⟩
    refine DZ ?_
    have := hn a _ rfl
    rw [(kE g1).1] at this
    simp [Par.need, this]
   obtain ⟨e, hk⟩ := qN h1
   obtain ⟨rfl, rfl⟩ := List.cons.inj e
   obtain ⟨T2', e1, e2⟩ := (hf _).er u u' b b' T2 g2 hT h2
   refine ⟨T2', e1, ?_⟩
   rw [List.cons_append, zi (D5 ((kE g1).1 ▸ hk)), ← hc _ _ g1]
   exact e2
 obtain ⟨t, s, h1, h2⟩ := bM h
 obtain ⟨rfl, _⟩ := qN h1
 have := ((hf t).suf _ _ _ h2).length_le
 simp
 omega
end Go.Proofs.Ytlenihbmafkegaa.Par
end
