/- Walks over functions of the program, words for them, and what the functions come to; of each text only what this claim uses; no condition. -/
import Derived.Test.YtkbhkonenkgfoaaGreatZPT0
import Derived.Test.YtkbhkonenkgfoaaGreatZPT8
import Derived.Test.YtkbhkonenkgfoaaGreatZPT9
import Derived.Test.YtkbhkonenkgfoaaGreatZPT11
import Derived.Test.YtkbhkonenkgfoaaGreatZPT15
section
set_option linter.unusedVariables false
set_option linter.unusedSimpArgs false
namespace Go.Proofs.YtkbhkonenkgfoaaGreat.Par
open Go Go.RowKit Go.Proofs.YtkbhkonenkgfoaaGreatW.PrintWords Go.Proofs.YtkbhkonenkgfoaaGreat.Q Go.Proofs.YtkbhkonenkgfoaaGreat.Lex Go.Proofs.YtkbhkonenkgfoaaGreat.Tree
variable {ts : List S37} {q : Int} {FF : Nat → iC}
theorem zU : ah (fun k => aC.f k ts q true) (([] : List (List S29)), q, true) := by
 refine ah.congr (fun k => by unfold aC.f; rw [gy]) ?_
 simp only [Option.bind_some]
 refine ah.step (fun k => by rw [aC.l0]) ?_
 refine ah.pos rfl ?_
 refine ah.step (fun k => by rw [aC.j1]) ?_
 refine ah.neg (by simp) ?_
 rw [gy]
 exact ah.now
theorem EO : ah (fun k => aH.f (FF k) k ts q true) (([] : List (List S29)), q, true) := by
 refine ah.congr (fun k => by unfold aH.f; rw [gy]) ?_
 simp only [Option.bind_some]
 refine ah.step (fun k => by rw [aH.l0]) ?_
 refine ah.pos rfl ?_
 refine ah.step (fun k => by rw [aH.j1]) ?_
 refine ah.neg (by simp) ?_
 rw [gy]
 exact ah.now
theorem qV : ah (fun k => bu.f (FF k) k ts q true) (nd 5 E 0 E [], q, true) := by
 refine ah.congr (fun k => by unfold bu.f; rw [gy]) ?_
 simp only [Option.bind_some]
 refine ah.step (fun k => Z43) ?_
 refine ah.pos rfl ?_
 rw [gy]
 exact kK (by simp) (by simp) ah.now
theorem wC : ah (fun k => dC.f (FF k) k ts q true) ([nd 5 E 0 E []], q, true) := by
 unfold dC.f
 exact ah.bind zU (ah.bind qV (ah.pos (by simp) ah.now))
theorem BU : ah (fun k => mf.f (FF k) k ts q true) (([] : List S29), q, true) := ah.lh fun k => rfl
theorem oM (e : List S29) : ah (fun k => ay.l1 (FF k) k e ts q true) (e, q, true) := by
 refine ah.step (fun k => by rw [ay.l1]) ?_
 exact ah.pos rfl ah.now
theorem uQ : ah (fun k => ay.f (FF k) k ts q true) (([] : List S29), q, true) := by
 unfold ay.f
 have st : ∀ (FF : Nat → iC) (i : Nat) (v : List S29 × Int × Bool), i < 3 → ah (fun k => ay.l0 (FF (k + 1)) k [(⟨#[45]⟩ : ByteArray), (⟨#[110, 111, 116]⟩ : ByteArray), (⟨#[108, 101, 110]⟩ : ByteArray)] ((i + 1 : Nat) : Int) ts q true) v → ah (fun k => ay.l0 (FF k) k [(⟨#[45]⟩ : ByteArray), (⟨#[110, 111, 116]⟩ : ByteArray), (⟨#[108, 101, 110]⟩ : ByteArray)] (i : Int) ts q true) v := by
  intro FF i v hi h
  refine ah.step (fun k => Z39) ?_
  rw [mg]
  simp only [Option.bind_some]
  rw [inc i (by omega)]
  exact ah.pos Z37 (ah.pos (by omega) (ah.neg (by simp) h))
 refine st FF 0 _ (by omega) (st (fun k => FF (k + 1)) 1 _ (by omega) (st (fun k => FF (k + 1 + 1)) 2 _ (by omega) ?_))
 refine ah.step (fun k => Z39) ?_
 refine ah.neg (by simp) ?_
 rw [mg]
 simp only [Option.bind_some]
 exact ah.neg (by simp) (ah.bind BU (oM []))
/-- What the family's functions come to behind a fault. -/
structure OkR (FF : Nat → iC) : Prop where
 expr : ∀ (ts : List S37) (q : Int), ah (fun k => (FF k).expr ts q true) (([] : List S29), q, true)
 block : ∀ (ts : List S37) (q : Int), ah (fun k => (FF k).block ts q true) (nd 5 E 0 E [], q, true)
 at0 : ∀ (ts : List S37) (q : Int) (a : Int), 0 ≤ a → a ≤ 5 → ah (fun k => (FF k).at0 ts q true a) (([] : List S29), q, true)
 unary : ∀ (ts : List S37) (q : Int), ah (fun k => (FF k).unary ts q true) (([] : List S29), q, true)
theorem OkR.shift {FF : Nat → iC} (h : OkR FF) : OkR (fun k => FF (k + 1)) :=
 ⟨fun ts q => ah.shift (h.expr ts q), fun ts q => ah.shift (h.block ts q), fun ts q a h1 h2 => ah.shift (h.at0 ts q a h1 h2), fun ts q => ah.shift (h.unary ts q)⟩
theorem vV (a i : Int) (e : List S29) : ah (fun k => aI.l0 (FF k) k a e i ts q true) (e, q, true) := by
 refine ah.step (fun k => by rw [aI.l0]) ?_
 refine ah.pos rfl ?_
 refine ah.step (fun k => by rw [aI.j1]) ?_
 exact ah.neg (by simp) ah.now
theorem GK : ah (fun k => aI.f (FF k) k ts q true 5) (([] : List S29), q, true) := by
 unfold aI.f
 exact ah.pos rfl (ah.bind uQ ah.now)
theorem at_bad (a : Int) (h1 : 0 ≤ a) (h2 : a ≤ 4) (h : ah (fun k => (FF k).at0 ts q true (a + 1)) (([] : List S29), q, true)) : ah (fun k => aI.f (FF k) k ts q true a) (([] : List S29), q, true) := by
 unfold aI.f
 rw [w64 (n := a + 1) (by omega) (by omega)]
 exact ah.neg (by omega) (ah.bind h (vV a 0 []))
theorem qG (ts : List S37) (q : Int) (a : Int) (b : Bool) (v : List S29 × Int × Bool) (h : ah (fun k => aI.f (mi k) k ts q b a) v) : ah (fun k => (mi k).at0 ts q b a) v := ah.step (fun k => rfl) h
theorem rH : OkR mi := by
 have b5 : ∀ ts q, ah (fun k => (mi k).at0 ts q true 5) (([] : List S29), q, true) := fun ts q => qG ts q 5 true _ GK
 have b4 : ∀ ts q, ah (fun k => (mi k).at0 ts q true 4) (([] : List S29), q, true) := fun ts q => qG ts q 4 true _ (at_bad 4 (by omega) (by omega) (b5 ts q))
 have b3 : ∀ ts q, ah (fun k => (mi k).at0 ts q true 3) (([] : List S29), q, true) := fun ts q => qG ts q 3 true _ (at_bad 3 (by omega) (by omega) (b4 ts q))
 have b2 : ∀ ts q, ah (fun k => (mi k).at0 ts q true 2) (([] : List S29), q, true) := fun ts q => qG ts q 2 true _ (at_bad 2 (by omega) (by omega) (b3 ts q))
 have b1 : ∀ ts q, ah (fun k => (mi k).at0 ts q true 1) (([] : List S29), q, true) := fun ts q => qG ts q 1 true _ (at_bad 1 (by omega) (by omega) (b2 ts q))
 refine ⟨fun ts q => ah.step (fun k => rfl) ?_, fun ts q => ah.step (fun k => rfl) qV, fun ts q a h1 h2 => ?_, fun ts q => ah.step (fun k => rfl) uQ⟩
 ·show ah (fun k => eF.f (mi k) k ts q true) _
  unfold eF.f
  exact ah.bind (at_bad 0 (by omega) (by omega) (b1 ts q)) ah.now
 rcases (show a = 0 ∨ a = 1 ∨ a = 2 ∨ a = 3 ∨ a = 4 ∨ a = 5 by omega) with rfl | rfl | rfl | rfl | rfl | rfl
 ·exact qG ts q 0 true _ (at_bad 0 (by omega) (by omega) (b1 ts q))
 ·exact b1 ts q
 ·exact b2 ts q
 ·exact b3 ts q
 ·exact b4 ts q
 exact b5 ts q
theorem tJ (H : OkR FF) (k0 : Int) (nm : ByteArray) : ah (fun k => dM.f (FF k) k ts q true k0 0 nm 0 E) (nd k0 nm 0 E [[]], q, true) := by
 unfold dM.f
 refine ah.bind (H.expr ts q) ?_
 rw [gy]
 exact kK (by simp) (by simp) ah.now
end Go.Proofs.YtkbhkonenkgfoaaGreat.Par
end
section
set_option linter.unusedVariables false
set_option linter.unusedSimpArgs false
namespace Go.Proofs.YtkbhkonenkgfoaaGreat.Tree
open Go Go.RowKit Go.Proofs.YtkbhkonenkgfoaaGreatW.PrintWords Go.Proofs.YtkbhkonenkgfoaaGreat.Q Go.Proofs.YtkbhkonenkgfoaaGreat.Lex
theorem Iu (l : List S29) (hl : l.length ≤ 100000) : ∀ (m i w : Nat), l.length = m + i → 1 ≤ w → w ≤ 1 + i * 100000 →
 ah (fun k => aG.l0 k l (w : Int) (i : Int)) (pG i (jD l.length (l.drop i) w)) := by
 intro m
 induction m with
 | zero =>
  intro i w h1 h2 h3
  rw [List.drop_eq_nil_of_le (by omega)]
  refine ah.step (fun k => by rw [aG.l0]) ?_
  exact ah.neg (by omega) ah.now
 | succ m ih =>
  intro i w h1 h2 h3
  have hi : i < l.length := by omega
  rw [List.drop_eq_getElem_cons hi]
  refine ah.step (fun k => by rw [aG.l0]) ?_
  refine ah.pos (by omega) (ah.pos (by omega) ?_)
  rw [rE l i hi]
  simp only [jD]
  by_cases c1 : l[i].f1 < 0
  ·rw [if_pos (Or.inl c1)]
   refine ah.pos c1 ?_
   refine ah.step (fun k => by rw [aG.j1]) ?_
   exact ah.pos rfl ah.now
  refine ah.neg c1 ?_
  refine ah.step (fun k => by rw [aG.j1]) ?_
  by_cases c2 : (l.length : Int) < l[i].f1
  ·rw [if_pos (Or.inr c2)]
   exact ah.pos (decide_eq_true c2) ah.now
  refine ah.neg (by simpa using c2) (ah.pos (by omega) (ah.pos (by omega) ?_))
  rw [rE l i hi, if_neg (show ¬ (l[i].f1 < 0 ∨ (l.length : Int) < l[i].f1) by omega)]
  have e2 : wrap64 (wrap64 ((w : Int) - 1) + l[i].f1) = ((w - 1 + l[i].f1.toNat : Nat) : Int) := by
   rw [w64 (n := (w : Int) - 1) (by omega) (by omega), w64 (by omega) (by omega)]
   omega
  rw [e2, inc i (by omega)]
  by_cases c3 : w - 1 + l[i].f1.toNat = 0
  ·rw [if_pos c3]
   refine ah.pos (by omega) (ah.lh fun k => ?_)
   simp only [pG]
  rw [if_neg c3, zq]
  refine ah.neg (by omega) ?_
  exact ih (i + 1) _ (by omega) (by omega) (by omega)
theorem uU (l : List S29) (hl : l.length ≤ 100000) (i : Int) : ah (fun k => aG.f k l i) (jV l i) := by
 unfold aG.f jV
 by_cases c : i < 0
 ·rw [if_pos c]; exact ah.pos c ah.now
 rw [if_neg c]
 refine ah.neg c ?_
 by_cases c2 : i.toNat ≤ l.length
 ·have h := Iu l hl (l.length - i.toNat) i.toNat 1 (by omega) (by omega) (by omega)
  rw [show ((i.toNat : Nat) : Int) = i by omega] at h
  exact h
 rw [List.drop_eq_nil_of_le (by omega)]
 refine ah.step (fun k => by rw [aG.l0]) ?_
 exact ah.neg (by omega) ah.now
theorem Cj (l : List S29) (hl : l.length ≤ 100000) (i : Nat) (hi : i < l.length) (h0 : 0 ≤ l[i].f1) (h9 : l[i].f1 ≤ 100000) : ∀ (d : Nat) (acc : List Int) (at' : Int), l[i].f1.toNat = d + acc.length →
 ah (fun k => bz.l0 k l (i : Int) acc at' (acc.length : Int)) (acc ++ its l d at') := by
 intro d
 induction d with
 | zero =>
  intro acc at' h
  refine ah.step (fun k => by rw [bz.l0]) ?_
  refine ah.pos (by omega) (ah.pos (by omega) ?_)
  rw [rE l i hi, its, List.append_nil]
  exact ah.neg (by omega) ah.now
 | succ d ih =>
  intro acc at' h
  have h1 := ih (acc ++ [at']) (jV l at') (by simp; omega)
  rw [List.append_assoc, List.length_append] at h1
  refine ah.step (fun k => by rw [bz.l0]) ?_
  refine ah.pos (by omega) (ah.pos (by omega) ?_)
  rw [rE l i hi, inc acc.length (by omega)]
  exact ah.pos (by omega) (ah.pos (by omega) (ah.bind (uU l hl at') h1))
/-- A node's kids' places. -/
theorem Bd (l : List S29) (hl : l.length ≤ 100000) (i : Int) : ah (fun k => bz.f k l i) (qf l i) := by
 unfold bz.f qf
 refine ah.bind (uU l hl i) ?_
 by_cases c : jV l i < 0
 ·rw [if_pos c]; exact ah.pos c ah.now
 rw [if_neg c]
 obtain ⟨j, rfl, hj, h0, h9⟩ := Bz hl c
 rw [inc j (by omega), rE l j hj]
 refine ah.neg c ?_
 have := Cj l hl j hj h0 h9 l[j].f1.toNat [] ((j + 1 : Nat) : Int) (by simp)
 simpa using this
/-! How deep: the document takes one off the innermost node around as the next node comes. -/
def qJ : List Nat → List Nat
 | [] => []
 | 0 :: st => qJ st
 | (n + 1) :: st => (n + 1) :: st
def less1 : List Nat → List Nat
 | [] => []
 | n :: st => (n - 1) :: st
theorem vT : ∀ st : List Nat, close st = less1 (qJ st)
 | [] => rfl
 | 0 :: st => by rw [close, qJ]; exact vT st
 | (n + 1) :: st => by rw [close, qJ]; rfl
theorem yS : ∀ st : List Nat, (qJ st).length ≤ st.length
 | [] => Nat.le_refl _
 | 0 :: st => by simp only [qJ]; have := yS st; simp; omega
 | (n + 1) :: st => by simp [qJ]
theorem yR : ∀ (st : List Nat) (B : Nat), (∀ n ∈ st, n ≤ B) → ∀ n ∈ qJ st, n ≤ B
 | [], _, _, n, h => by cases h
 | 0 :: st, B, hB, n, h => yR st B (fun m hm => hB m (by simp [hm])) n (by simpa [qJ] using h)
 | (q + 1) :: st, B, hB, n, h => hB n h
theorem yQ : ∀ st : List Nat, qJ st = [] ∨ ∃ n t, qJ st = (n + 1) :: t
 | [] => .inl rfl
 | 0 :: st => by rw [qJ]; exact yQ st
 | (n + 1) :: st => .inr ⟨n, st, rfl⟩
theorem DF (n : Nat) (st : List Nat) : rd (ints (n :: st)) (st.length : Int) = (n : Int) := by
 rw [kM]
 simp [rd, List.getD_eq_getElem?_getD, List.getElem?_append_right, ku]
theorem Cm (l : List S29) (hl : l.length ≤ 100000) (b : Int) (i : Nat) (hi : i + 1 ≤ 300000) (v : Int) : ∀ st : List Nat, st.length ≤ 300000 → (∀ n ∈ st, n ≤ 100000) →
 ah (fun k => ak.l0 k l (ints (qJ st)) b ((i + 1 : Nat) : Int)) v → ah (fun k => ak.l1 k l (ints st) b (i : Int)) v := by
 intro st
 induction st with
 | nil =>
  intro hs hB h
  refine ah.step (fun k => by rw [ak.l1]) ?_
  rw [inc i (by omega)]
  exact ah.neg (by simp [ints]) h
 | cons n st ih =>
  intro hs hB h
  simp only [List.length_cons] at hs
  have hlen : ((ints (n :: st)).length : Int) = (st.length : Int) + 1 := by rw [ku]; simp
  refine ah.step (fun k => by rw [ak.l1]) ?_
  rw [hlen, show wrap64 ((st.length : Int) + 1 - 1) = (st.length : Int) by unfold wrap64; omega, inc i (by omega), DF]
  refine ah.pos (by omega) (ah.pos (by omega) (ah.pos (by omega) ?_))
  rw [Int.toNat_natCast]
  cases n with
  | zero =>
   refine ah.pos rfl (ah.pos (by omega) ?_)
   have ht : (ints (0 :: st)).take st.length = ints st := by
    rw [kM]
    exact List.take_left' (ku st)
   rw [ht]
   rw [qJ] at h
   exact ih (by omega) (fun q hq => hB q (by simp [hq])) h
  | succ n =>
   exact ah.neg (by omega) h
theorem DT (l : List S29) (hl : l.length ≤ 100000) (i : Nat) (hi : i < l.length) (h0 : 0 ≤ l[i].f1) (h9 : l[i].f1 ≤ 100000) (b : Nat) (hb : b ≤ i) (st : List Nat) (hs : st.length ≤ i) (hB : ∀ n ∈ st, n ≤ 100000) (v : Int)
 (h : ah (fun k => ak.l0 k l (ints (qJ (l[i].f1.toNat :: st))) ((max b (st.length + 1) : Nat) : Int) ((i + 1 : Nat) : Int)) v) :
 ah (fun k => ak.j1 k l (ints st) (b : Int) (i : Int)) v := by
 refine ah.step (fun k => by rw [ak.j1]) ?_
 refine ah.pos (by omega) (ah.pos (by omega) (ah.pos (by rw [ku]; omega) ?_))
 have hpush : ints st ++ [(ax l (i : Int)).f1] = ints (l[i].f1.toNat :: st) := by
  rw [kM, Int.toNat_of_nonneg h0, rE l i hi]
 simp only [hpush, Option.bind_some]
 have hln : ((ints (l[i].f1.toNat :: st)).length : Int) = ((st.length + 1 : Nat) : Int) := by rw [ku]; simp
 have go : ∀ c : Nat, c = max b (st.length + 1) → ah (fun k => ak.j2 k l (ints (l[i].f1.toNat :: st)) (c : Int) (i : Int)) v := by
  rintro c rfl
  refine ah.step (fun k => by rw [ak.j2]) ?_
  refine Cm l hl _ i (by omega) v _ (by simp; omega) ?_ h
  intro n hn
  rcases List.mem_cons.1 hn with rfl | hn
  ·omega
  exact hB n hn
 rw [hln]
 by_cases c : ((st.length + 1 : Nat) : Int) > (b : Int)
 ·exact ah.pos c (go (st.length + 1) (by omega))
 exact ah.neg c (go b (by omega))
theorem DR (l : List S29) (hl : l.length ≤ 100000) : ∀ (m i : Nat) (st : List Nat) (b : Nat), l.length = m + i → st.length ≤ i → b ≤ i → (∀ n ∈ st, n ≤ 100000) → (st = [] ∨ ∃ n t, st = (n + 1) :: t) →
 ah (fun k => ak.l0 k l (ints st) (b : Int) (i : Int)) (if nH l m then (rZ (l.drop i) (less1 st) b : Int) else -1) := by
 intro m
 induction m with
 | zero =>
  intro i st b h1 h2 h3 h4 h5
  rw [List.drop_eq_nil_of_le (by omega)]
  refine ah.step (fun k => by rw [ak.l0]) ?_
  exact ah.neg (by omega) ah.now
 | succ m ih =>
  intro i st b h1 h2 h3 h4 h5
  have hi : i < l.length := by omega
  refine ah.step (fun k => by rw [ak.l0]) ?_
  refine ah.pos (by omega) (ah.bind (uU l hl (i : Int)) ?_)
  have he : jV l (i : Int) = pG i (jD l.length (l.drop i) 1) := by
   unfold jV
   rw [if_neg (by omega), Int.toNat_natCast]
  rw [he]
  simp only [nH, show l.length - (m + 1) = i by omega]
  cases hF : jD l.length (l.drop i) 1 with
  | none => exact ah.pos (by simp [pG]) ah.now
  | some q =>
   refine ah.neg (by simp only [pG]; omega) ?_
   have hk : 0 ≤ l[i].f1 ∧ l[i].f1 ≤ 100000 := by
    rw [List.drop_eq_getElem_cons hi] at hF
    simp only [jD] at hF
    split at hF
    ·cases hF
    omega
   simp only [Option.isSome_some, Bool.true_and]
   have hl1 : (less1 st).length = st.length := by cases st <;> rfl
   have hB1 : ∀ n ∈ less1 st, n ≤ 100000 := by
    intro n hn
    cases st with
    | nil => cases hn
    | cons x t =>
     rcases List.mem_cons.1 hn with rfl | hn
     ·have := h4 x (by simp); omega
     exact h4 n (by simp [hn])
   have hm : ∀ n ∈ l[i].f1.toNat :: less1 st, n ≤ 100000 := by
    intro n hn
    rcases List.mem_cons.1 hn with rfl | hn
    ·omega
    exact hB1 n hn
   have hcl := yS (l[i].f1.toNat :: less1 st)
   simp only [List.length_cons] at hcl
   have hnext := ih (i + 1) (qJ (l[i].f1.toNat :: less1 st)) (max b ((less1 st).length + 1)) (by omega) (by omega) (by omega) (yR _ 100000 hm) (yQ _)
   rw [← vT] at hnext
   rw [List.drop_eq_getElem_cons hi]
   have hj := DT l hl i hi hk.1 hk.2 b h3 (less1 st) (by omega) hB1 _ hnext
   rcases h5 with rfl | ⟨n, t, rfl⟩
   ·exact ah.neg (by simp [ints]) hj
   have hlen : ((ints ((n + 1) :: t)).length : Int) = (t.length : Int) + 1 := by rw [ku]; simp
   simp only [List.length_cons] at h2
   have hn := h4 (n + 1) (by simp)
   rw [hlen, show wrap64 ((t.length : Int) + 1 - 1) = (t.length : Int) by unfold wrap64; omega, DF]
   refine ah.pos (by omega) (ah.pos (by omega) (ah.pos (by omega) ?_))
   rw [Int.toNat_natCast]
   have hset : (ints ((n + 1) :: t)).set t.length (wrap64 (((n + 1 : Nat) : Int) - 1)) = ints (less1 ((n + 1) :: t)) := by
    rw [show wrap64 (((n + 1 : Nat) : Int) - 1) = (n : Int) by unfold wrap64; omega, less1, Nat.add_sub_cancel, kM, kM, List.set_append]
    simp [ku]
   rw [hset]
   exact hj
theorem DU (l : List S29) (hl : l.length ≤ 100000) : ah (fun k => ak.f k l) (if nH l l.length then (rZ l [] 0 : Int) else -1) := by
 have h := DR l hl l.length 0 [] 0 (by omega) (by simp) (by omega) (by simp) (.inl rfl)
 exact h
theorem DN (l : List S29) (hl : l.length ≤ 100000) (i : Int) : ah (fun k => eQ.f k l i) (oV l i) := by
 unfold eQ.f
 refine ah.bind (uU l hl i) ?_
 by_cases c : jV l i < 0
 ·have hs : oV l i = [] := by unfold oV; rw [if_pos c]
  rw [hs]
  exact ah.pos c ah.now
 obtain ⟨j, m, rfl, _, he, h1, h2⟩ := nz c
 have hs : oV l (j : Int) = (l.take (j + m)).drop j := by
  unfold oV
  rw [if_neg c, he, Int.toNat_natCast, Int.toNat_natCast]
 rw [hs, he]
 refine ah.neg (by omega) (ah.pos (by omega) (ah.pos (by omega) (ah.pos (by omega) ?_)))
 simp only [Option.bind_some, Int.toNat_natCast]
 refine ah.pos ?_ (ah.lh fun k => by simp)
 simp only [List.length_nil, List.length_drop, List.length_take]
 omega
end Go.Proofs.YtkbhkonenkgfoaaGreat.Tree
end
section
set_option linter.unusedVariables false
set_option linter.unusedSimpArgs false
namespace Go.Proofs.YtkbhkonenkgfoaaGreat.Par
open Go Go.RowKit Go.Proofs.YtkbhkonenkgfoaaGreatW.PrintWords Go.Proofs.YtkbhkonenkgfoaaGreat.Q Go.Proofs.YtkbhkonenkgfoaaGreat.Lex Go.Proofs.YtkbhkonenkgfoaaGreat.Tree
/-- What the family's functions tell. -/
structure IhR (S : PF) (FF : Nat → iC) : Prop where
 expr : ∀ (ts : List S37) (q : Nat), ts.length ≤ 40000 → q ≤ ts.length → aj ts q 2 sz (fun k => (FF k).expr ts (q : Int) false) (S.expr (ts.drop q))
 block : ∀ (ts : List S37) (q : Nat), ts.length ≤ 40000 → q ≤ ts.length → aj ts q 2 sz (fun k => (FF k).block ts (q : Int) false) (S.block (ts.drop q))
 at0 : ∀ (a : Int), 0 ≤ a → a ≤ 5 → ∀ (ts : List S37) (q : Nat), ts.length ≤ 40000 → q ≤ ts.length → aj ts q 2 sz (fun k => (FF k).at0 ts (q : Int) false a) (S.bound (a + 1) (ts.drop q))
 unary : ∀ (ts : List S37) (q : Nat), ts.length ≤ 40000 → q ≤ ts.length → aj ts q 2 sz (fun k => (FF k).unary ts (q : Int) false) (S.unary (ts.drop q))
theorem IhR.shift {S : PF} {FF : Nat → iC} (h : IhR S FF) : IhR S (fun k => FF (k + 1)) :=
 ⟨fun ts q a b => aj.shift (h.expr ts q a b), fun ts q a b => aj.shift (h.block ts q a b), fun a h1 h2 ts q b c => aj.shift (h.at0 a h1 h2 ts q b c), fun ts q a b => aj.shift (h.unary ts q a b)⟩
variable {ts : List S37} {S : PF} {FF : Nat → iC}
theorem rX (hts : ts.length ≤ 40000) (I : IhR S FF) (H : OkR FF) (k0 : Int) (nm : ByteArray) (q : Nat) (hq : q ≤ ts.length) :
 aj ts q 3 sz (fun k => dM.f (FF k) k ts (q : Int) false k0 0 nm 0 E) (lG S k0 nm (ts.drop q)) := by
 unfold dM.f lG
 refine aj.bind (I.expr ts q hts hq) (fun e p h1 h2 h3 => ?_) (fun e p h1 h2 h3 => ?_)
 ·unfold sz at h3
  dsimp only
  refine aj.kU ⟨#[59]⟩ [59] (fD _ _ rfl) (by simp) h2 hts h1 (fun h4 => ?_) ?_
  ·dsimp only
   exact aj.join (by omega) h4 hts (by simp) (by rw [jq]; omega)
  dsimp only
  exact aj.Ez (by simp) (by rw [jq]; omega) (by omega) (by omega)
 unfold sz at h3
 obtain ⟨y, g1, g2⟩ := aj.Ez (q := q) (p := p) (d := 3) (k0 := k0) (nm := nm) (n := 0) (tx := E) (z := 0) (kids := [e]) (by simp) (by rw [jq]; omega) (by omega) (by omega)
 refine ⟨y, h1, g1, ?_⟩
 dsimp only
 rw [gy]
 exact g2
theorem EN (hts : ts.length ≤ 40000) (k0 : Int) (q q0 : Nat) (hq : q ≤ ts.length) (h0 : q0 < q) : aj ts q0 3 sz (fun k => (bg.f ts (q : Int) false (⟨#[59]⟩ : ByteArray)).bind fun b => some (([(⟨k0, 0, E, 0, E⟩ : S29)] : List S29), b.1, b.2)) (sD k0 (ts.drop q)) := by
 unfold sD
 refine aj.kU ⟨#[59]⟩ [59] (fD _ _ rfl) (by simp) hq hts (by omega) (fun h4 => ?_) ?_
 ·exact aj.done (nd k0 E 0 E []) (by omega) h4 (by unfold sz; rw [dQ]; simp only [List.flatten_nil, List.length_nil]; omega) ah.now
 exact ⟨nd k0 E 0 E [], by unfold sz; rw [dQ]; simp only [List.flatten_nil, List.length_nil]; omega, ah.now⟩
theorem BV (hts : ts.length ≤ 40000) (I : IhR S FF) (H : OkR FF) (e : List S29) (b : Bool) (q p : Nat) (h1 : q ≤ p) (hp : p ≤ ts.length) (h3 : e.length + 1 ≤ 2 * (p - q)) (hb : b = decide (wd (ts.drop p) ≠ [61])) :
 aj ts q 3 sz (fun k => bI.j0 (FF k) k e b ts (p : Int) false) (sQ S e (ts.drop p)) := by
 unfold sQ
 refine aj.step (fun k => by rw [bI.j0]) ?_
 by_cases c : wd (ts.drop p) ≠ [61]
 ·rw [if_pos c]
  refine aj.pos Z34 ?_
  refine aj.kU ⟨#[59]⟩ [59] (fD _ _ rfl) (by simp) hp hts h1 (fun h4 => ?_) ?_
  ·dsimp only
   exact aj.join (by omega) h4 hts (by simp) (by rw [jq]; omega)
  dsimp only
  exact aj.Ez (by simp) (by rw [jq]; omega) (by omega) (by omega)
 rw [if_neg c]
 refine aj.neg (by rw [hb]; simpa using c) ?_
 cases e with
 | nil => trivial
 | cons x t =>
  have hr : ax (x :: t) 0 = x := rfl
  refine aj.pos Z42 ?_
  simp only [hr]
  simp only [List.length_cons] at h3
  by_cases c1 : x.f0 = 21
  ·simp only [if_pos c1]
   refine aj.kU ⟨#[61]⟩ [61] (fD _ _ rfl) (by simp) hp hts h1 (fun h4 => ?_) ?_
   ·exact aj.idb (aj.from' (rX hts I.shift H.shift 7 x.f2 (p + 1) h4) (by omega) (by omega))
   exact ⟨nd 7 x.f2 0 E [[]], by unfold sz; rw [dQ, jq, List.length_nil]; omega, ah.bind (tJ H.shift 7 x.f2) ah.now⟩
  simp only [if_neg c1]
  by_cases c2 : x.f0 = 26
  ·simp only [if_pos c2]
   unfold xy
   match hk : rO (x :: t) with
   | none => trivial
   | some (a, b') =>
    have hs := yz _ _ _ hk
    obtain ⟨k0, k1, kl, e1, e2, e3⟩ := yZ _ _ _ hk
    simp only [List.length_cons] at hs
    have fin : ∀ (v : List S29) (p2 : Nat) (bb : Bool) {G : Nat → List S29 → Option (List S29 × Int × Bool)} {r : List S29 × Int × Bool}, v.length ≤ 100000 → ah (fun k => G k (nd 8 E 0 E [a, b', v])) r →
     ah (fun k => (bz.f k (x :: t) 0).bind fun t1 => if 0 < (t1.length : Int) then ((eQ.f k (x :: t) (rd t1 0)).bind fun u => if 1 < (t1.length : Int) then ((eQ.f k (x :: t) (rd t1 1)).bind fun v1 => (az.f k 8 0 E 0 E [u, v1, v]).bind (G k)) else none) else none) r := by
     intro v p2 bb G r hv h
     have hl : (x :: t).length ≤ 100000 := by simp only [List.length_cons]; omega
     refine ah.bind (Bd (x :: t) hl 0) ?_
     rw [e1]
     refine ah.pos Z42 ?_
     rw [rd0, rd1]
     have s0 := DN (x :: t) hl k0
     have s1 := DN (x :: t) hl k1
     rw [e2] at s0
     rw [e3] at s1
     refine ah.bind s0 (ah.pos Z42 (ah.bind s1 ?_))
     exact kK (by simp) (by rw [flat3]; omega) h
    refine aj.kU ⟨#[61]⟩ [61] (fD _ _ rfl) (by simp) hp hts h1 (fun h4 => ?_) ?_
    ·dsimp only
     refine aj.bind (I.shift.expr ts (p + 1) hts h4) (fun v p2 f1 f2 f3 => ?_) (fun v p2 f1 f2 f3 => ?_)
     ·unfold sz at f3
      dsimp only
      refine aj.kU ⟨#[59]⟩ [59] (fD _ _ rfl) (by simp) f2 hts (by omega) (fun h5 => ?_) ?_
      ·dsimp only
       exact aj.done (nd 8 E 0 E [a, b', v]) (by omega) h5 (by unfold sz; rw [dQ, flat3]; omega) (fin v p2 false (by omega) ah.now)
      dsimp only
      exact ⟨nd 8 E 0 E [a, b', v], by unfold sz; rw [dQ, flat3]; omega, fin v p2 true (by omega) ah.now⟩
     unfold sz at f3
     dsimp only
     refine ⟨nd 8 E 0 E [a, b', v], by omega, by unfold sz; rw [dQ, flat3]; omega, ?_⟩
     rw [gy]
     exact fin v p2 true (by omega) ah.now
    refine ⟨nd 8 E 0 E [a, b', []], by unfold sz; rw [dQ, flat3, List.length_nil]; omega, ?_⟩
    refine ah.bind (H.shift.expr ts p) ?_
    dsimp only
    rw [gy]
    exact fin [] p true (by simp) ah.now
  simp only [if_neg c2]
  exact ⟨[], p, h1, hp, rfl, by unfold sz; simp only [List.length_nil]; omega, ah.now⟩
end Go.Proofs.YtkbhkonenkgfoaaGreat.Par
end
section
set_option linter.unusedVariables false
set_option linter.unusedSimpArgs false
namespace Go.Proofs.YtkbhkonenkgfoaaGreat.Par
open Go Go.RowKit Go.Proofs.YtkbhkonenkgfoaaGreatW.PrintWords Go.Proofs.YtkbhkonenkgfoaaGreat.Q Go.Proofs.YtkbhkonenkgfoaaGreat.Lex Go.Proofs.YtkbhkonenkgfoaaGreat.Tree
variable {ts : List S37} {S : PF} {FF : Nat → iC}
theorem FH (hts : ts.length ≤ 40000) (I : IhR S FF) (H : OkR FF) (q : Nat) (hq : q ≤ ts.length) :
 aj ts q 3 sz (fun k => bI.f (FF k) k ts (q : Int) false) (kZ S (ts.drop q)) := by
 unfold bI.f kZ
 refine aj.jh _ _ (fD _ _ rfl) (by simp) hq hts (fun h1 => ?_) (fun _ => ?_)
 ·refine aj.pos rfl ?_
  refine aj.pV 1 h1 hts (by omega) (fun t h2 _ => ?_) ?_
  ·refine aj.kU ⟨#[61]⟩ [61] (fD _ _ rfl) (by simp) h2 hts (by omega) (fun h3 => ?_) ?_
   ·exact aj.idb (aj.from' (rX hts I H 6 t.f1 (q + 1 + 1 + 1) h3) (by omega) (by omega))
   dsimp only
   exact ⟨nd 6 t.f1 0 E [[]], by unfold sz; rw [dQ, jq, List.length_nil]; omega, ah.bind (tJ H 6 t.f1) ah.now⟩
  dsimp only
  refine ⟨nd 6 E 0 E [[]], by unfold sz; rw [dQ, jq, List.length_nil]; omega, ?_⟩
  rw [gy]
  simp only [Option.bind_some]
  exact ah.bind (tJ H 6 E) ah.now
 refine aj.neg (by simp) ?_
 refine aj.jh _ _ (fD _ _ rfl) (by simp) hq hts (fun h1 => ?_) (fun _ => ?_)
 ·refine aj.pos rfl ?_
  dsimp only
  refine aj.bind (I.expr ts (q + 1) hts h1) (fun e p g1 g2 g3 => ?_) (fun e p g1 g2 g3 => ?_)
  ·unfold sz at g3
   dsimp only
   refine aj.bind (I.block ts p hts g2) (fun b p2 f1 f2 f3 => ?_) (fun b p2 f1 f2 f3 => ?_)
   ·unfold sz at f3
    dsimp only
    simp only [Option.bind_some]
    refine aj.jh _ _ (fD _ _ rfl) (by simp) f2 hts (fun h3 => ?_) (fun hn => ?_)
    ·refine aj.pos rfl ?_
     dsimp only
     refine aj.bind (I.block ts (p2 + 1) hts h3) (fun c p3 e1 e2 e3 => ?_) (fun c p3 e1 e2 e3 => ?_)
     ·unfold sz at e3
      dsimp only
      refine aj.pos (by simp) ?_
      exact aj.join (kids := [e, b, c]) (by omega) e2 hts (by simp) (by rw [flat3]; omega)
     unfold sz at e3
     dsimp only
     refine ⟨nd 9 E 0 E [e, b, c], by omega, by unfold sz; rw [dQ, flat3]; omega, ah.pos (by simp) ?_⟩
     exact kK (kids := [e, b, c]) (by simp) (by rw [flat3]; omega) ah.now
    refine aj.neg (by simp) ?_
    exact aj.join (kids := [e, b]) (by omega) f2 hts (by simp) (by rw [iZ]; omega)
   unfold sz at f3
   dsimp only
   simp only [Option.bind_some]
   refine ⟨nd 9 E 0 E [e, b], by omega, by unfold sz; rw [dQ, iZ]; omega, ?_⟩
   rw [mg]
   simp only [Option.bind_some]
   exact ah.neg (by simp) (kK (by simp) (by rw [iZ]; omega) ah.now)
  unfold sz at g3
  dsimp only
  refine ⟨nd 9 E 0 E [e, nd 5 E 0 E []], by omega, by unfold sz; rw [dQ, iZ, kW]; omega, ah.bind (H.block ts _) ?_⟩
  dsimp only
  simp only [Option.bind_some]
  rw [mg]
  simp only [Option.bind_some]
  exact ah.neg (by simp) (kK (by simp) (by rw [iZ, kW]; omega) ah.now)
 refine aj.neg (by simp) ?_
 refine aj.jh _ _ (fD _ _ rfl) (by simp) hq hts (fun h1 => ?_) (fun _ => ?_)
 ·refine aj.pos rfl ?_
  dsimp only
  refine aj.bind (I.expr ts (q + 1) hts h1) (fun e p g1 g2 g3 => ?_) (fun e p g1 g2 g3 => ?_)
  ·unfold sz at g3
   dsimp only
   refine aj.bind (I.block ts p hts g2) (fun b p2 f1 f2 f3 => ?_) (fun b p2 f1 f2 f3 => ?_)
   ·unfold sz at f3
    dsimp only
    exact aj.join (by omega) f2 hts (by simp) (by rw [iZ]; omega)
   unfold sz at f3
   dsimp only
   exact ⟨nd 10 E 0 E [e, b], by omega, by unfold sz; rw [dQ, iZ]; omega, kK (by simp) (by rw [iZ]; omega) ah.now⟩
  unfold sz at g3
  dsimp only
  exact ⟨nd 10 E 0 E [e, nd 5 E 0 E []], by omega, by unfold sz; rw [dQ, iZ, kW]; omega, ah.bind (H.block ts _) (kK (by simp) (by rw [iZ, kW]; omega) ah.now)⟩
 refine aj.neg (by simp) ?_
 refine aj.jh _ _ (fD _ _ rfl) (by simp) hq hts (fun h1 => ?_) (fun _ => ?_)
 ·refine aj.pos rfl ?_
  exact EN hts 11 (q + 1) q h1 (by omega)
 refine aj.neg (by simp) ?_
 refine aj.jh _ _ (fD _ _ rfl) (by simp) hq hts (fun h1 => ?_) (fun _ => ?_)
 ·refine aj.pos rfl ?_
  exact EN hts 12 (q + 1) q h1 (by omega)
 refine aj.neg (by simp) ?_
 refine aj.jh _ _ (fD _ _ rfl) (by simp) hq hts (fun h1 => ?_) (fun _ => ?_)
 ·refine aj.pos rfl ?_
  exact EN hts 16 (q + 1) q h1 (by omega)
 refine aj.neg (by simp) ?_
 refine aj.jh _ _ (fD _ _ rfl) (by simp) hq hts (fun h1 => ?_) (fun _ => ?_)
 ·refine aj.pos rfl ?_
  exact aj.idb (aj.from' (rX hts I H 13 E (q + 1) h1) (by omega) (by omega))
 refine aj.neg (by simp) ?_
 refine aj.jh _ _ (fD _ _ rfl) (by simp) hq hts (fun h1 => ?_) (fun _ => ?_)
 ·refine aj.pos rfl ?_
  exact aj.idb (aj.from' (rX hts I H 14 E (q + 1) h1) (by omega) (by omega))
 refine aj.neg (by simp) ?_
 refine aj.jh _ _ (fD _ _ rfl) (by simp) hq hts (fun h1 => ?_) (fun _ => ?_)
 ·refine aj.pos rfl ?_
  exact aj.idb (aj.from' (rX hts I H 15 E (q + 1) h1) (by omega) (by omega))
 refine aj.neg (by simp) ?_
 dsimp only
 unfold uX
 refine aj.bind (I.expr ts q hts hq) (fun e p h1 h2 h3 => ?_) (fun e p h1 h2 h3 => ?_)
 ·unfold sz at h3
  dsimp only
  refine aj.neg (by simp) ?_
  rw [wU _ _ _ (by rw [fD _ [61] rfl]; simp)]
  simp only [Option.bind_some]
  refine BV hts I H e _ q p h1 h2 h3 ?_
  rw [fD _ [61] rfl]
  simp
 unfold sz at h3
 dsimp only
 refine ⟨nd 17 E 0 E [e], h1, by unfold sz; rw [dQ, jq]; omega, ah.pos rfl ?_⟩
 refine ah.step (fun k => by rw [bI.j0]) ?_
 refine ah.pos rfl ?_
 rw [gy]
 exact kK (by simp) (by rw [jq]; omega) ah.now
end Go.Proofs.YtkbhkonenkgfoaaGreat.Par
end
section
set_option linter.unusedVariables false
set_option linter.unusedSimpArgs false
namespace Go.Proofs.YtkbhkonenkgfoaaGreat.Par
open Go Go.RowKit Go.Proofs.YtkbhkonenkgfoaaGreatW.PrintWords Go.Proofs.YtkbhkonenkgfoaaGreat.Q Go.Proofs.YtkbhkonenkgfoaaGreat.Lex Go.Proofs.YtkbhkonenkgfoaaGreat.Tree
variable {ts : List S37} {S : PF} {FF : Nat → Fam}
/-- What a list of lists weighs. -/
def szK (ks : List (List S29)) : Nat := ks.flatten.length + ks.length + 2
theorem jC (l : List (List S29)) (e : List S29) : (l ++ [e]).length = l.length + 1 := by simp
theorem GH (hts : ts.length ≤ 40000) (q0 : Nat) : ∀ (n : Nat) (FF : Nat → Fam) (I : Ih S FF) (H : OkB FF) (acc : List (List S29)) (q : Nat), q0 ≤ q → q ≤ ts.length → acc.flatten.length + acc.length + 2 ≤ 2 * (q - q0) →
 aj ts q0 2 sz (fun k => bU.l0 (FF k) k acc ts (q : Int) false) (qp S n acc (ts.drop q)) := by
 intro n
 induction n with
 | zero => intro FF I H acc q h0 hq hs; trivial
 | succ n ih =>
  intro FF I H acc q h0 hq hs
  unfold qp
  refine aj.step (fun k => by rw [bU.l0]) ?_
  refine aj.neg (by simp) ?_
  rw [mJ]
  simp only [Option.bind_some]
  refine aj.ite (fun c => ?_) (fun c => ?_)
  ·refine aj.must ⟨#[125]⟩ [125] (fD _ _ rfl) (by simp) hq hts h0 (fun h4 => ?_) ?_
   ·dsimp only
    refine aj.evB (vz 5 E 0 E 0 acc (by omega) (by omega)) ?_
    exact aj.done _ (by omega) h4 (by unfold sz; rw [dQ]; omega) ah.now
   dsimp only
   exact ⟨nd 5 E 0 E acc, by unfold sz; rw [dQ]; omega, jB (by omega) (by omega) ah.now⟩
  refine aj.bind (Ig hts I.shift H.shift q hq) (fun s p h1 h2 h3 => ?_) (fun s p h1 h2 h3 => ?_)
  ·unfold sz at h3
   dsimp only
   refine aj.pos (by omega) ?_
   exact ih (fun k => FF (k + 1)) I.shift H.shift (acc ++ [s]) p (by omega) h2 Z38
  unfold sz at h3
  dsimp only
  refine ⟨nd 5 E 0 E (acc ++ [s]), by omega, by unfold sz; rw [dQ, ik]; omega, ah.pos (by omega) ?_⟩
  refine ah.step (fun k => by rw [bU.l0]) ?_
  refine ah.pos rfl ?_
  rw [jI _ [125] rfl (by simp)]
  exact jB (by rw [jC]; omega) (by rw [ik]; omega) ah.now
theorem BG (hts : ts.length ≤ 40000) (I : Ih S FF) (H : OkB FF) (N : Nat) (q : Nat) (hq : q ≤ ts.length) :
 aj ts q 2 sz (fun k => bU.f (FF k) k ts (q : Int) false) (pJ S N (ts.drop q)) := by
 unfold bU.f pJ
 refine aj.must ⟨#[123]⟩ [123] (fD _ _ rfl) (by simp) hq hts (by omega) (fun h4 => ?_) ?_
 ·dsimp only
  exact GH hts q N FF I H [] (q + 1) (by omega) h4 Z14
 dsimp only
 refine ⟨nd 5 E 0 E [], by unfold sz; rw [kW]; omega, ?_⟩
 refine ah.step (fun k => by rw [bU.l0]) ?_
 refine ah.pos rfl ?_
 rw [jI _ [125] rfl (by simp)]
 exact jB (by simp) (by simp) ah.now
theorem Bf (hts : ts.length ≤ 40000) (q : Nat) (hq : q ≤ ts.length) : aj ts q 2 sz (fun k => fB.f k ts (q : Int) false) (lV (ts.drop q)) := by
 unfold fB.f lV
 refine aj.need 1 hq hts (by omega) (fun t h2 _ => ?_) ?_
 ·dsimp only
  exact aj.node (by omega) h2 hts (by simp) Z14
 dsimp only
 exact aj.wR (by simp) Z14 (by omega) (by omega)
theorem Bi (acc : List (List S29)) (q : Int) : ah (fun k => iD.l0 (FF k) k acc ts q true) (acc, q, true) := by
 refine ah.step (fun k => by rw [iD.l0]) ?_
 refine ah.pos rfl ?_
 refine ah.step (fun k => by rw [iD.j1]) ?_
 refine ah.neg (by simp) ?_
 rw [jI _ [41] rfl (by simp)]
 exact ah.now
theorem Gs (hts : ts.length ≤ 40000) (q0 : Nat) : ∀ (n : Nat) (FF : Nat → Fam) (I : Ih S FF) (H : OkB FF) (acc : List (List S29)) (q : Nat), q0 ≤ q → q ≤ ts.length → acc.flatten.length + acc.length + 2 ≤ 2 * (q - q0) →
 aj ts q0 2 szK (fun k => iD.l0 (FF k) k acc ts (q : Int) false) (mQ S.expr n acc (ts.drop q)) := by
 intro n
 induction n with
 | zero => intro FF I H acc q h0 hq hs; trivial
 | succ n ih =>
  intro FF I H acc q h0 hq hs
  unfold mQ
  refine aj.step (fun k => by rw [iD.l0]) ?_
  refine aj.neg (by simp) ?_
  rw [mJ]
  simp only [Option.bind_some]
  refine aj.step (fun k => by rw [iD.j1]) ?_
  have more : ∀ (x : List S29) (p : Nat), q ≤ p → p ≤ ts.length → sz x ≤ 2 * (p - q) → aj ts q0 2 szK (fun k => if acc.length < 5864062014805 then iD.l0 (FF (k + 2)) k (acc ++ [x]) ts (p : Int) false else none) (mQ S.expr n (acc ++ [x]) (ts.drop p)) := by
   intro x p g1 g2 g3
   unfold sz at g3
   refine aj.pos (by omega) ?_
   exact ih (fun k => FF (k + 2)) I.shift.shift H.shift.shift (acc ++ [x]) p (by omega) g2 Z38
  have moreB : ∀ (x : List S29) (p : Nat), q ≤ p → p ≤ ts.length → sz x ≤ 2 * (p - q) + 2 → ∃ y : List (List S29), q0 ≤ p ∧ szK y ≤ 2 * (p - q0) + 2 ∧ ah (fun k => if acc.length < 5864062014805 then iD.l0 (FF (k + 2)) k (acc ++ [x]) ts (p : Int) true else none) (y, (p : Int), true) := by
   intro x p g1 g2 g3
   unfold sz at g3
   exact ⟨acc ++ [x], by omega, by unfold szK; rw [ik, jC]; omega, ah.pos (by omega) (Bi (FF := fun k => FF (k + 2)) (acc ++ [x]) _)⟩
  by_cases c : wd (ts.drop q) = [41]
  ·rw [if_pos c]
   refine aj.neg (by rw [Ef]; exact fun h => of_decide_eq_true h c) ?_
   refine aj.must ⟨#[41]⟩ [41] (fD _ _ rfl) (by simp) hq hts h0 (fun h4 => ?_) ?_
   ·dsimp only
    exact aj.done _ (by omega) h4 (by unfold szK; omega) ah.now
   dsimp only
   exact ⟨acc, by unfold szK; omega, ah.now⟩
  rw [if_neg c]
  refine aj.pos (by rw [Ef]; exact decide_eq_true c) ?_
  by_cases d : acc = []
  ·rw [if_pos d]
   refine aj.neg (by subst d; simp) ?_
   refine aj.bind (I.shift.shift.expr ts q hts hq) (fun x p h1 h2 h3 => ?_) (fun x p h1 h2 h3 => ?_)
   ·exact more x p h1 h2 h3
   exact moreB x p h1 h2 h3
  rw [if_neg d]
  refine aj.pos (by have := List.length_pos_iff.2 d; omega) ?_
  refine aj.must ⟨#[44]⟩ [44] (fD _ _ rfl) (by simp) hq hts h0 (fun h4 => ?_) ?_
  ·dsimp only
   refine aj.bind (I.shift.shift.expr ts (q + 1) hts h4) (fun x p h1 h2 h3 => ?_) (fun x p h1 h2 h3 => ?_)
   ·exact more x p (by omega) h2 (by omega)
   exact moreB x p (by omega) h2 (by omega)
  dsimp only
  obtain ⟨y, g1, g2, g3⟩ := moreB [] q (Nat.le_refl _) hq (by unfold sz; simp [nd])
  exact ⟨y, g2, ah.bind (H.shift.shift.expr ts _) g3⟩
theorem Bj (hts : ts.length ≤ 40000) (I : Ih S FF) (H : OkB FF) (N : Nat) (q : Nat) (hq : q ≤ ts.length) :
 aj ts q 2 szK (fun k => iD.f (FF k) k ts (q : Int) false) (gz S.expr N (ts.drop q)) := by
 unfold iD.f Par.gz
 refine aj.must ⟨#[40]⟩ [40] (fD _ _ rfl) (by simp) hq hts (by omega) (fun h4 => ?_) ?_
 ·dsimp only
  exact Gs hts q N FF I H [] (q + 1) (by omega) h4 Z14
 dsimp only
 exact ⟨[], by unfold szK; simp only [List.flatten_nil, List.length_nil]; omega, Bi (FF := FF) [] _⟩
theorem Bh (acc : List (List S29)) (q : Int) : ah (fun k => Q.gz.l0 k acc ts q true) (acc, q, true) := by
 refine ah.step (fun k => by rw [Q.gz.l0]) ?_
 refine ah.pos rfl ?_
 refine ah.step (fun k => by rw [Q.gz.j1]) ?_
 refine ah.neg (by simp) ?_
 rw [jI _ [41] rfl (by simp)]
 exact ah.now
theorem Gn (hts : ts.length ≤ 40000) (q0 : Nat) : ∀ (n : Nat) (FF : Nat → Fam) (I : Ih S FF) (H : OkB FF) (acc : List (List S29)) (q : Nat), q0 ≤ q → q ≤ ts.length → acc.flatten.length + acc.length + 2 ≤ 2 * (q - q0) →
 aj ts q0 2 szK (fun k => Q.gz.l0 k acc ts (q : Int) false) (mQ lV n acc (ts.drop q)) := by
 intro n
 induction n with
 | zero => intro FF I H acc q h0 hq hs; trivial
 | succ n ih =>
  intro FF I H acc q h0 hq hs
  unfold mQ
  refine aj.step (fun k => by rw [Q.gz.l0]) ?_
  refine aj.neg (by simp) ?_
  rw [mJ]
  simp only [Option.bind_some]
  refine aj.step (fun k => by rw [Q.gz.j1]) ?_
  have more : ∀ (x : List S29) (p : Nat), q ≤ p → p ≤ ts.length → sz x ≤ 2 * (p - q) → aj ts q0 2 szK (fun k => if acc.length < 5864062014805 then Q.gz.l0 k (acc ++ [x]) ts (p : Int) false else none) (mQ lV n (acc ++ [x]) (ts.drop p)) := by
   intro x p g1 g2 g3
   unfold sz at g3
   refine aj.pos (by omega) ?_
   exact ih (fun k => FF (k + 2)) I.shift.shift H.shift.shift (acc ++ [x]) p (by omega) g2 Z38
  have moreB : ∀ (x : List S29) (p : Nat), q ≤ p → p ≤ ts.length → sz x ≤ 2 * (p - q) + 2 → ∃ y : List (List S29), q0 ≤ p ∧ szK y ≤ 2 * (p - q0) + 2 ∧ ah (fun k => if acc.length < 5864062014805 then Q.gz.l0 k (acc ++ [x]) ts (p : Int) true else none) (y, (p : Int), true) := by
   intro x p g1 g2 g3
   unfold sz at g3
   exact ⟨acc ++ [x], by omega, by unfold szK; rw [ik, jC]; omega, ah.pos (by omega) (Bh (acc ++ [x]) _)⟩
  by_cases c : wd (ts.drop q) = [41]
  ·rw [if_pos c]
   refine aj.neg (by rw [Ef]; exact fun h => of_decide_eq_true h c) ?_
   refine aj.must ⟨#[41]⟩ [41] (fD _ _ rfl) (by simp) hq hts h0 (fun h4 => ?_) ?_
   ·dsimp only
    exact aj.done _ (by omega) h4 (by unfold szK; omega) ah.now
   dsimp only
   exact ⟨acc, by unfold szK; omega, ah.now⟩
  rw [if_neg c]
  refine aj.pos (by rw [Ef]; exact decide_eq_true c) ?_
  by_cases d : acc = []
  ·rw [if_pos d]
   refine aj.neg (by subst d; simp) ?_
   refine aj.bind (Bf hts q hq) (fun x p h1 h2 h3 => ?_) (fun x p h1 h2 h3 => ?_)
   ·exact more x p h1 h2 h3
   exact moreB x p h1 h2 h3
  rw [if_neg d]
  refine aj.pos (by have := List.length_pos_iff.2 d; omega) ?_
  refine aj.must ⟨#[44]⟩ [44] (fD _ _ rfl) (by simp) hq hts h0 (fun h4 => ?_) ?_
  ·dsimp only
   refine aj.bind (Bf hts (q + 1) h4) (fun x p h1 h2 h3 => ?_) (fun x p h1 h2 h3 => ?_)
   ·exact more x p (by omega) h2 (by omega)
   exact moreB x p (by omega) h2 (by omega)
  dsimp only
  obtain ⟨y, g1, g2, g3⟩ := moreB (nd 4 E 0 E []) q (Nat.le_refl _) hq (by unfold sz; simp [nd])
  exact ⟨y, g2, ah.bind (CE) g3⟩
theorem Gp (hts : ts.length ≤ 40000) (I : Ih S FF) (H : OkB FF) (N : Nat) (q : Nat) (hq : q ≤ ts.length) :
 aj ts q 2 szK (fun k => Q.gz.f k ts (q : Int) false) (gz lV N (ts.drop q)) := by
 unfold Q.gz.f Par.gz
 refine aj.must ⟨#[40]⟩ [40] (fD _ _ rfl) (by simp) hq hts (by omega) (fun h4 => ?_) ?_
 ·dsimp only
  exact Gn hts q N FF I H [] (q + 1) (by omega) h4 Z14
 dsimp only
 exact ⟨[], by unfold szK; simp only [List.flatten_nil, List.length_nil]; omega, Bh [] _⟩
theorem vJ (hts : ts.length ≤ 40000) (I : Ih S FF) (H : OkB FF) (N : Nat) (k0 : Int) (nm : ByteArray) (q : Nat) (hq : q ≤ ts.length) :
 aj ts q 3 sz (fun k => dw.f (FF k) k ts (q : Int) false k0 0 nm 0 E) (lM S N k0 nm (ts.drop q)) := by
 unfold dw.f lM
 refine aj.bind (Gp hts I H N q hq) (fun ps p h1 h2 h3 => ?_) (fun ps p h1 h2 h3 => ?_)
 ·unfold szK at h3
  dsimp only
  refine aj.bind (BG hts I H N p h2) (fun b p2 g1 g2 g3 => ?_) (fun b p2 g1 g2 g3 => ?_)
  ·unfold sz at g3
   dsimp only
   refine aj.pos (by omega) ?_
   exact aj.node (by omega) g2 hts (by rw [jC]; omega) (by rw [ik]; omega)
  unfold sz at g3
  dsimp only
  exact ⟨nd k0 nm 0 E (ps ++ [b]), by omega, by unfold sz; rw [dQ, ik]; omega, ah.pos (by omega) (jB (by rw [jC]; omega) (by rw [ik]; omega) ah.now)⟩
 unfold szK at h3
 dsimp only
 exact ⟨nd k0 nm 0 E (ps ++ [nd 5 E 0 E []]), by omega, by unfold sz; rw [dQ, ik, kW]; omega, ah.bind tK (ah.pos (by omega) (jB (by rw [jC]; omega) (by rw [ik, kW]; omega) ah.now))⟩
end Go.Proofs.YtkbhkonenkgfoaaGreat.Par
end
section
set_option linter.unusedVariables false
set_option linter.unusedSimpArgs false
namespace Go.Proofs.YtkbhkonenkgfoaaGreat.Par
open Go Go.RowKit Go.Proofs.YtkbhkonenkgfoaaGreatW.PrintWords Go.Proofs.YtkbhkonenkgfoaaGreat.Q Go.Proofs.YtkbhkonenkgfoaaGreat.Lex Go.Proofs.YtkbhkonenkgfoaaGreat.Tree
variable {ts : List S37} {S : PF} {FF : Nat → iC}
theorem DL (hts : ts.length ≤ 40000) (q0 : Nat) : ∀ (n : Nat) (FF : Nat → iC) (I : IhR S FF) (H : OkR FF) (acc : List (List S29)) (q : Nat), q0 ≤ q → q ≤ ts.length → acc.flatten.length + acc.length + 2 ≤ 2 * (q - q0) →
 aj ts q0 2 sz (fun k => bu.l0 (FF k) k acc ts (q : Int) false) (qp S n acc (ts.drop q)) := by
 intro n
 induction n with
 | zero => intro FF I H acc q h0 hq hs; trivial
 | succ n ih =>
  intro FF I H acc q h0 hq hs
  unfold qp
  refine aj.step (fun k => Z43) ?_
  refine aj.neg (by simp) ?_
  rw [wU _ _ _ (by rw [fD _ [125] rfl]; simp), fD _ [125] rfl]
  simp only [Option.bind_some]
  by_cases c : wd (ts.drop q) = [125]
  ·rw [if_pos c]
   refine aj.pos (by simp [c]) ?_
   refine aj.kU ⟨#[125]⟩ [125] (fD _ _ rfl) (by simp) hq hts h0 (fun h4 => ?_) ?_
   ·dsimp only
    refine aj.evB (tu 5 E 0 E 0 acc (by omega) (by omega)) ?_
    exact aj.done _ (by omega) h4 (by unfold sz; rw [dQ]; omega) ah.now
   dsimp only
   exact ⟨nd 5 E 0 E acc, by unfold sz; rw [dQ]; omega, kK (by omega) (by omega) ah.now⟩
  rw [if_neg c]
  refine aj.neg (by simp [c]) ?_
  refine aj.bind (FH hts I.shift H.shift q hq) (fun s p h1 h2 h3 => ?_) (fun s p h1 h2 h3 => ?_)
  ·unfold sz at h3
   dsimp only
   refine aj.pos (by omega) ?_
   exact ih (fun k => FF (k + 1)) I.shift H.shift (acc ++ [s]) p (by omega) h2 Z38
  unfold sz at h3
  dsimp only
  refine ⟨nd 5 E 0 E (acc ++ [s]), by omega, by unfold sz; rw [dQ, ik]; omega, ah.pos (by omega) ?_⟩
  refine ah.step (fun k => Z43) ?_
  refine ah.pos rfl ?_
  rw [gy]
  exact kK (by rw [jC]; omega) (by rw [ik]; omega) ah.now
theorem yN (hts : ts.length ≤ 40000) (I : IhR S FF) (H : OkR FF) (N : Nat) (q : Nat) (hq : q ≤ ts.length) :
 aj ts q 2 sz (fun k => bu.f (FF k) k ts (q : Int) false) (pJ S N (ts.drop q)) := by
 unfold bu.f pJ
 refine aj.kU ⟨#[123]⟩ [123] (fD _ _ rfl) (by simp) hq hts (by omega) (fun h4 => ?_) ?_
 ·dsimp only
  exact DL hts q N FF I H [] (q + 1) (by omega) h4 Z14
 dsimp only
 refine ⟨nd 5 E 0 E [], by unfold sz; rw [kW]; omega, ?_⟩
 refine ah.step (fun k => Z43) ?_
 refine ah.pos rfl ?_
 rw [gy]
 exact kK (by simp) (by simp) ah.now
theorem xk {β : Type} (f : List S29 → Ps β) (l : List S37) : bnd lV f l = bnd (Par.need 1) (fun t => f (nd 4 t.f1 0 E [])) l := by
 unfold lV bnd ret
 cases Par.need 1 l <;> rfl
theorem EP (acc : List (List S29)) (i q : Int) : ah (fun k => aH.l0 (FF k) k acc i ts q true) (acc, q, true) := by
 refine ah.step (fun k => by rw [aH.l0]) ?_
 refine ah.pos rfl ?_
 refine ah.step (fun k => by rw [aH.j1]) ?_
 refine ah.neg (by simp) ?_
 rw [gy]
 exact ah.now
theorem IX (hts : ts.length ≤ 40000) (q0 : Nat) : ∀ (n : Nat) (FF : Nat → iC) (I : IhR S FF) (H : OkR FF) (acc : List (List S29)) (q : Nat), q0 ≤ q → q ≤ ts.length → acc.flatten.length + acc.length + 2 ≤ 2 * (q - q0) →
 aj ts q0 2 szK (fun k => aH.l0 (FF k) k acc (acc.length : Int) ts (q : Int) false) (mQ S.expr n acc (ts.drop q)) := by
 intro n
 induction n with
 | zero => intro FF I H acc q h0 hq hs; trivial
 | succ n ih =>
  intro FF I H acc q h0 hq hs
  unfold mQ
  refine aj.step (fun k => by rw [aH.l0]) ?_
  refine aj.neg (by simp) ?_
  rw [wU _ _ _ (by rw [fD _ [41] rfl]; simp), fD _ [41] rfl]
  simp only [Option.bind_some]
  refine aj.step (fun k => by rw [aH.j1]) ?_
  rw [inc acc.length (by omega)]
  have more : ∀ (x : List S29) (p : Nat), q ≤ p → p ≤ ts.length → sz x ≤ 2 * (p - q) → aj ts q0 2 szK (fun k => if acc.length < 5864062014805 then aH.l0 (FF (k + 2)) k (acc ++ [x]) ((acc.length + 1 : Nat) : Int) ts (p : Int) false else none) (mQ S.expr n (acc ++ [x]) (ts.drop p)) := by
   intro x p g1 g2 g3
   unfold sz at g3
   refine aj.pos (by omega) ?_
   have := ih (fun k => FF (k + 2)) I.shift.shift H.shift.shift (acc ++ [x]) p (by omega) g2 Z38
   rw [jC] at this
   exact this
  have moreB : ∀ (x : List S29) (p : Nat), q ≤ p → p ≤ ts.length → sz x ≤ 2 * (p - q) + 2 → ∃ y : List (List S29), q0 ≤ p ∧ szK y ≤ 2 * (p - q0) + 2 ∧ ah (fun k => if acc.length < 5864062014805 then aH.l0 (FF (k + 2)) k (acc ++ [x]) ((acc.length + 1 : Nat) : Int) ts (p : Int) true else none) (y, (p : Int), true) := by
   intro x p g1 g2 g3
   unfold sz at g3
   exact ⟨acc ++ [x], by omega, by unfold szK; rw [ik, jC]; omega, ah.pos (by omega) (EP (FF := fun k => FF (k + 2)) (acc ++ [x]) _ _)⟩
  by_cases c : wd (ts.drop q) = [41]
  ·rw [if_pos c]
   refine aj.neg (by simp [c]) ?_
   refine aj.kU ⟨#[41]⟩ [41] (fD _ _ rfl) (by simp) hq hts h0 (fun h4 => ?_) ?_
   ·dsimp only
    exact aj.done _ (by omega) h4 (by unfold szK; omega) ah.now
   dsimp only
   exact ⟨acc, by unfold szK; omega, ah.now⟩
  rw [if_neg c]
  refine aj.pos (by simp [c]) ?_
  by_cases d : acc = []
  ·rw [if_pos d]
   refine aj.neg (by subst d; simp) ?_
   refine aj.bind (I.shift.shift.expr ts q hts hq) (fun x p h1 h2 h3 => ?_) (fun x p h1 h2 h3 => ?_)
   ·exact more x p (by omega) h2 (by omega)
   exact moreB x p (by omega) h2 (by omega)
  rw [if_neg d]
  refine aj.pos (by have := List.length_pos_iff.2 d; omega) ?_
  refine aj.kU ⟨#[44]⟩ [44] (fD _ _ rfl) (by simp) hq hts h0 (fun h4 => ?_) ?_
  ·dsimp only
   refine aj.bind (I.shift.shift.expr ts (q + 1) hts h4) (fun x p h1 h2 h3 => ?_) (fun x p h1 h2 h3 => ?_)
   ·exact more x p (by omega) h2 (by omega)
   exact moreB x p (by omega) h2 (by omega)
  dsimp only
  obtain ⟨y, g1, g2, g3⟩ := moreB [] q (Nat.le_refl _) hq (by unfold sz; simp [nd])
  exact ⟨y, g2, ah.bind (H.shift.shift.expr ts _) g3⟩
theorem EQ (hts : ts.length ≤ 40000) (I : IhR S FF) (H : OkR FF) (N : Nat) (q : Nat) (hq : q ≤ ts.length) :
 aj ts q 2 szK (fun k => aH.f (FF k) k ts (q : Int) false) (Par.gz S.expr N (ts.drop q)) := by
 unfold aH.f Par.gz
 refine aj.kU ⟨#[40]⟩ [40] (fD _ _ rfl) (by simp) hq hts (by omega) (fun h4 => ?_) ?_
 ·dsimp only
  exact IX hts q N FF I H [] (q + 1) (by omega) h4 Z14
 dsimp only
 exact ⟨[], by unfold szK; simp only [List.flatten_nil, List.length_nil]; omega, EP (FF := FF) [] 0 _⟩
theorem yV (acc : List (List S29)) (i q : Int) : ah (fun k => aC.l0 k acc i ts q true) (acc, q, true) := by
 refine ah.step (fun k => by rw [aC.l0]) ?_
 refine ah.pos rfl ?_
 refine ah.step (fun k => by rw [aC.j1]) ?_
 refine ah.neg (by simp) ?_
 rw [gy]
 exact ah.now
theorem DZ (hts : ts.length ≤ 40000) (q0 : Nat) : ∀ (n : Nat) (FF : Nat → iC) (I : IhR S FF) (H : OkR FF) (acc : List (List S29)) (q : Nat), q0 ≤ q → q ≤ ts.length → acc.flatten.length + acc.length + 2 ≤ 2 * (q - q0) →
 aj ts q0 2 szK (fun k => aC.l0 k acc (acc.length : Int) ts (q : Int) false) (mQ lV n acc (ts.drop q)) := by
 intro n
 induction n with
 | zero => intro FF I H acc q h0 hq hs; trivial
 | succ n ih =>
  intro FF I H acc q h0 hq hs
  unfold mQ
  refine aj.step (fun k => by rw [aC.l0]) ?_
  refine aj.neg (by simp) ?_
  rw [wU _ _ _ (by rw [fD _ [41] rfl]; simp), fD _ [41] rfl]
  simp only [Option.bind_some]
  refine aj.step (fun k => by rw [aC.j1]) ?_
  rw [inc acc.length (by omega)]
  have more : ∀ (x : List S29) (p : Nat), q ≤ p → p ≤ ts.length → sz x ≤ 2 * (p - q) → aj ts q0 2 szK (fun k => if acc.length < 5864062014805 then aC.l0 k (acc ++ [x]) ((acc.length + 1 : Nat) : Int) ts (p : Int) false else none) (mQ lV n (acc ++ [x]) (ts.drop p)) := by
   intro x p g1 g2 g3
   unfold sz at g3
   refine aj.pos (by omega) ?_
   have := ih (fun k => FF (k + 2)) I.shift.shift H.shift.shift (acc ++ [x]) p (by omega) g2 Z38
   rw [jC] at this
   exact this
  have moreB : ∀ (x : List S29) (p : Nat), q ≤ p → p ≤ ts.length → sz x ≤ 2 * (p - q) + 2 → ∃ y : List (List S29), q0 ≤ p ∧ szK y ≤ 2 * (p - q0) + 2 ∧ ah (fun k => if acc.length < 5864062014805 then aC.l0 k (acc ++ [x]) ((acc.length + 1 : Nat) : Int) ts (p : Int) true else none) (y, (p : Int), true) := by
   intro x p g1 g2 g3
   unfold sz at g3
   exact ⟨acc ++ [x], by omega, by unfold szK; rw [ik, jC]; omega, ah.pos (by omega) (yV (acc ++ [x]) _ _)⟩
  by_cases c : wd (ts.drop q) = [41]
  ·rw [if_pos c]
   refine aj.neg (by simp [c]) ?_
   refine aj.kU ⟨#[41]⟩ [41] (fD _ _ rfl) (by simp) hq hts h0 (fun h4 => ?_) ?_
   ·dsimp only
    exact aj.done _ (by omega) h4 (by unfold szK; omega) ah.now
   dsimp only
   exact ⟨acc, by unfold szK; omega, ah.now⟩
  rw [if_neg c]
  refine aj.pos (by simp [c]) ?_
  by_cases d : acc = []
  ·rw [if_pos d]
   refine aj.neg (by subst d; simp) ?_
   rw [xk]
   refine aj.pV 1 hq hts (by omega) (fun t h2 _ => ?_) ?_
   ·exact more (nd 4 t.f1 0 E []) (q + 1) (by omega) h2 (by unfold sz; rw [dQ]; simp only [List.flatten_nil, List.length_nil]; omega)
   obtain ⟨y, g1, g2, g3⟩ := moreB (nd 4 E 0 E []) q (by omega) hq (by unfold sz; rw [dQ]; simp only [List.flatten_nil, List.length_nil]; omega)
   exact ⟨y, g2, g3⟩
  rw [if_neg d]
  refine aj.pos (by have := List.length_pos_iff.2 d; omega) ?_
  refine aj.kU ⟨#[44]⟩ [44] (fD _ _ rfl) (by simp) hq hts h0 (fun h4 => ?_) ?_
  ·dsimp only
   rw [xk]
   refine aj.pV 1 h4 hts (by omega) (fun t h2 _ => ?_) ?_
   ·exact more (nd 4 t.f1 0 E []) ((q + 1) + 1) (by omega) h2 (by unfold sz; rw [dQ]; simp only [List.flatten_nil, List.length_nil]; omega)
   obtain ⟨y, g1, g2, g3⟩ := moreB (nd 4 E 0 E []) (q + 1) (by omega) h4 (by unfold sz; rw [dQ]; simp only [List.flatten_nil, List.length_nil]; omega)
   exact ⟨y, g2, g3⟩
  dsimp only
  obtain ⟨y, g1, g2, g3⟩ := moreB (nd 4 E 0 E []) q (Nat.le_refl _) hq (by unfold sz; rw [dQ]; simp only [List.flatten_nil, List.length_nil]; omega)
  refine ⟨y, g2, ?_⟩
  rw [lL]
  simp only [Option.bind_some]
  exact g3
theorem Ea (hts : ts.length ≤ 40000) (I : IhR S FF) (H : OkR FF) (N : Nat) (q : Nat) (hq : q ≤ ts.length) :
 aj ts q 2 szK (fun k => aC.f k ts (q : Int) false) (Par.gz lV N (ts.drop q)) := by
 unfold aC.f Par.gz
 refine aj.kU ⟨#[40]⟩ [40] (fD _ _ rfl) (by simp) hq hts (by omega) (fun h4 => ?_) ?_
 ·dsimp only
  exact DZ hts q N FF I H [] (q + 1) (by omega) h4 Z14
 dsimp only
 exact ⟨[], by unfold szK; simp only [List.flatten_nil, List.length_nil]; omega, yV [] 0 _⟩
/-- A function's kids. -/
def CZ (F : PF) (N : Nat) : Ps (List (List S29)) := bnd (Par.gz lV N) fun ps => bnd (pJ F N) fun b => ret (ps ++ [b])
theorem ul (F : PF) (N : Nat) (k : Int) (nm : ByteArray) (l : List S37) : lM F N k nm l = bnd (CZ F N) (fun ks => ret (nd k nm 0 E ks)) l := by
 unfold lM CZ bnd ret
 cases Par.gz lV N l with
 | error e => rfl
 | ok x =>
  obtain ⟨ps, r⟩ := x
  dsimp only
  cases pJ F N r <;> rfl
theorem tZ (hts : ts.length ≤ 40000) (I : IhR S FF) (H : OkR FF) (N : Nat) (q : Nat) (hq : q ≤ ts.length) :
 aj ts q 4 szK (fun k => dC.f (FF k) k ts (q : Int) false) (CZ S N (ts.drop q)) := by
 unfold dC.f CZ
 refine aj.bind (Ea hts I H N q hq) (fun ps p h1 h2 h3 => ?_) (fun ps p h1 h2 h3 => ?_)
 ·unfold szK at h3
  dsimp only
  refine aj.bind (yN hts I H N p h2) (fun b p2 f1 f2 f3 => ?_) (fun b p2 f1 f2 f3 => ?_)
  ·unfold sz at f3
   dsimp only
   exact aj.pos (by omega) (aj.done _ (by omega) f2 (by unfold szK; rw [ik, jC]; omega) ah.now)
  unfold sz at f3
  dsimp only
  exact ⟨ps ++ [b], by omega, by unfold szK; rw [ik, jC]; omega, ah.pos (by omega) ah.now⟩
 unfold szK at h3
 dsimp only
 exact ⟨ps ++ [nd 5 E 0 E []], h1, by unfold szK; rw [ik, jC, kW]; omega, ah.bind qV (ah.pos (by omega) ah.now)⟩
end Go.Proofs.YtkbhkonenkgfoaaGreat.Par
end
section
set_option linter.unusedVariables false
set_option linter.unusedSimpArgs false
namespace Go.Proofs.YtkbhkonenkgfoaaGreat.Par
open Go Go.RowKit Go.Proofs.YtkbhkonenkgfoaaGreatW.PrintWords Go.Proofs.YtkbhkonenkgfoaaGreat.Q Go.Proofs.YtkbhkonenkgfoaaGreat.Lex Go.Proofs.YtkbhkonenkgfoaaGreat.Tree
variable {ts : List S37} {S : PF} {FF : Nat → Fam}
theorem IB (hts : ts.length ≤ 40000) (I : Ih S FF) (H : OkB FF) (N : Nat) (q : Nat) (hq : q ≤ ts.length) :
 aj ts q 2 sz (fun k => fU.f (FF k) k ts (q : Int) false) (rM S N (ts.drop q)) := by
 unfold fU.f
 cases e : ts.drop q with
 | nil =>
  rw [vC ts q e]
  unfold rM
  refine ⟨[], q, Nat.le_refl _, hq, e, by unfold sz; simp only [List.length_nil]; omega, ah.now⟩
 | cons t r =>
  obtain ⟨hq1, _, hr⟩ := lI ts q t r e
  rw [tq ts q t r e]
  simp only [Option.bind_some]
  refine aj.pos (by trivial) ?_
  unfold rM
  refine aj.ite (fun c => ?_) (fun c => ?_)
  ·rw [inc q (by omega), ← hr]
   exact aj.node (p := q + 1) (nm := E) (n := t.f2) (tx := E) (kids := []) (by omega) hq1 hts (by simp) Z14
  refine aj.ite (fun c => ?_) (fun c => ?_)
  ·rw [inc q (by omega), ← hr]
   exact aj.node (p := q + 1) (nm := E) (n := 0) (tx := t.f1) (kids := []) (by omega) hq1 hts (by simp) Z14
  rw [← e]
  unfold Bg
  refine aj.need 1 hq hts (by omega) (fun t1 h2 _ => ?_) ?_
  ·dsimp only
   refine aj.xx _ _ (fD _ _ rfl) (by simp) h2 hts (fun h3 => ?_) (fun hn => ?_)
   ·refine aj.pos rfl ?_
    dsimp only
    refine aj.need 1 h3 hts (by omega) (fun t2 h4 _ => ?_) ?_
    ·dsimp only
     refine aj.bind (Bj hts I H N _ h4) (fun ks p g1 g2 g3 => ?_) (fun ks p g1 g2 g3 => ?_)
     ·unfold szK at g3
      dsimp only
      exact aj.node (by omega) g2 hts (by omega) (by omega)
     unfold szK at g3
     dsimp only
     exact ⟨nd 23 t1.f1 0 t2.f1 ks, by omega, by unfold sz; rw [dQ]; omega, jB (by omega) (by omega) ah.now⟩
    dsimp only
    exact ⟨nd 23 t1.f1 0 E [], by unfold sz; rw [dQ]; simp only [List.flatten_nil, List.length_nil]; omega, ah.bind CU (jB (by simp) (by simp) ah.now)⟩
   refine aj.neg (by simp) ?_
   exact aj.node (by omega) h2 hts (by simp) Z14
  dsimp only
  rw [takeB _ [46] rfl (by simp)]
  simp only [Option.bind_some]
  exact ⟨nd 21 E 0 E [], by unfold sz; rw [dQ]; simp only [List.flatten_nil, List.length_nil]; omega, ah.neg (by simp) (jB (by simp) (by simp) ah.now)⟩
theorem Iw (hts : ts.length ≤ 40000) (I : Ih S FF) (H : OkB FF) (N : Nat) (q : Nat) (hq : q ≤ ts.length) :
 aj ts q 2 sz (fun k => fH.f (FF k) k ts (q : Int) false) (uV S N (ts.drop q)) := by
 refine aj.congr (fun k => by unfold fH.f; rw [mJ]) ?_
 unfold uV
 simp only [Option.bind_some]
 refine aj.ite (fun hw => aj.tkw _ hw (by simp) hts (fun h1 => ?_)) (fun _ => ?_)
 ·exact aj.node (by omega) h1 hts (by simp) Z14
 refine aj.ite (fun hw => aj.tkw _ hw (by simp) hts (fun h1 => ?_)) (fun _ => ?_)
 ·exact aj.node (by omega) h1 hts (by simp) Z14
 refine aj.ite (fun hw => aj.tkw _ hw (by simp) hts (fun h1 => ?_)) (fun _ => ?_)
 ·dsimp only
  refine aj.must ⟨#[125]⟩ [125] (fD _ _ rfl) (by simp) h1 hts (by omega) (fun h4 => ?_) ?_
  ·dsimp only
   exact aj.node (by omega) h4 hts (by simp) Z14
  dsimp only
  exact aj.wR (by simp) Z14 (by omega) (by omega)
 refine aj.ite (fun hw => aj.tkw _ hw (by simp) hts (fun h1 => ?_)) (fun _ => ?_)
 ·exact aj.idb (aj.from' (vJ hts I H N 24 E (q + 1) h1) (by omega) (by omega))
 refine aj.ite (fun hw => aj.tkw _ hw (by simp) hts (fun h1 => ?_)) (fun _ => ?_)
 ·dsimp only
  refine aj.bind (I.expr ts (q + 1) hts h1) (fun e p g1 g2 g3 => ?_) (fun e p g1 g2 g3 => ?_)
  ·dsimp only
   refine aj.must ⟨#[41]⟩ [41] (fD _ _ rfl) (by simp) g2 hts (by omega) (fun h4 => ?_) ?_
   ·dsimp only
    exact aj.done _ (by omega) h4 (by omega) ah.now
   dsimp only
   exact ⟨e, by omega, ah.now⟩
  dsimp only
  rw [jI _ [41] rfl (by simp)]
  exact ⟨e, by omega, by omega, ah.now⟩
 exact aj.idb (IB hts I H N q hq)
theorem Iz (hts : ts.length ≤ 40000) (q0 N : Nat) : ∀ (n : Nat) (FF : Nat → Fam) (I : Ih S FF) (H : OkB FF) (e : List S29) (q : Nat), q0 ≤ q → q ≤ ts.length → sz e ≤ 2 * (q - q0) →
 aj ts q0 2 sz (fun k => aQ.l0 (FF k) k e ts (q : Int) false) (rF S N n e (ts.drop q)) := by
 intro n
 induction n with
 | zero => intro FF I H e q h0 hq hs; trivial
 | succ n ih =>
  intro FF I H e q h0 hq hs
  have hs' := hs
  unfold sz at hs'
  unfold rF
  refine aj.step (fun k => by rw [aQ.l0]) ?_
  refine aj.neg (by simp) ?_
  rw [mJ]
  simp only [Option.bind_some]
  refine aj.ite (fun c => ?_) (fun c => ?_)
  ·refine aj.bind (Bj hts I.shift H.shift N q hq) (fun ks p g1 g2 g3 => ?_) (fun ks p g1 g2 g3 => ?_)
   ·unfold szK at g3
    dsimp only
    have hf : ([e] ++ ks).flatten.length = e.length + ks.flatten.length := by simp
    have hg : ([e] ++ ks).length = 1 + ks.length := by simp; omega
    refine aj.pos Z37 ?_
    refine aj.evB (vz 22 E 0 E 0 ([e] ++ ks) (by omega) (by omega)) ?_
    exact ih (fun k => FF (k + 1)) I.shift H.shift _ p (by omega) g2 (by unfold sz; rw [dQ]; omega)
   unfold szK at g3
   dsimp only
   have hf : ([e] ++ ks).flatten.length = e.length + ks.flatten.length := by simp
   have hg : ([e] ++ ks).length = 1 + ks.length := by simp; omega
   exact ⟨nd 22 E 0 E ([e] ++ ks), by omega, by unfold sz; rw [dQ]; omega, ah.pos Z37 (jB (by omega) (by omega) (pY (FF := fun k => FF (k + 1)) _))⟩
  refine aj.ite (fun c => ?_) (fun c => ?_)
  ·refine aj.tk ⟨#[91]⟩ (by rw [fD _ [91] rfl]; simp) (by rw [fD _ [91] rfl]; exact c) hts (fun h1 => ?_)
   dsimp only
   refine aj.bind (I.shift.expr ts (q + 1) hts h1) (fun i p g1 g2 g3 => ?_) (fun i p g1 g2 g3 => ?_)
   ·unfold sz at g3
    dsimp only
    refine aj.evB (vz 26 E 0 E 0 [e, i] (by simp) (by rw [iZ]; omega)) ?_
    refine aj.must ⟨#[93]⟩ [93] (fD _ _ rfl) (by simp) g2 hts (by omega) (fun h4 => ?_) ?_
    ·dsimp only
     exact ih (fun k => FF (k + 1)) I.shift H.shift _ (p + 1) (by omega) h4 (by unfold sz; rw [dQ, iZ]; omega)
    dsimp only
    exact ⟨nd 26 E 0 E [e, i], by unfold sz; rw [dQ, iZ]; omega, pY (FF := fun k => FF (k + 1)) _⟩
   unfold sz at g3
   dsimp only
   refine ⟨nd 26 E 0 E [e, i], by omega, by unfold sz; rw [dQ, iZ]; omega, jB (by simp) (by rw [iZ]; omega) ?_⟩
   rw [jI _ [93] rfl (by simp)]
   exact pY (FF := fun k => FF (k + 1)) _
  exact aj.done e h0 hq hs ah.now
theorem uM (hts : ts.length ≤ 40000) (I : Ih S FF) (H : OkB FF) (N : Nat) (q : Nat) (hq : q ≤ ts.length) (b : Bool) (hb : b = decide (wd (ts.drop q) = [45] ∨ wd (ts.drop q) = [110, 111, 116] ∨ wd (ts.drop q) = [108, 101, 110])) :
 aj ts q 2 sz (fun k => aQ.j0 (FF k) k (wB (ts.drop q)) (wB (ts.drop q)) b ts (q : Int) false) (oU S N (ts.drop q)) := by
 refine aj.step (fun k => by rw [aQ.j0]) ?_
 unfold oU
 by_cases c : wd (ts.drop q) = [45] ∨ wd (ts.drop q) = [110, 111, 116] ∨ wd (ts.drop q) = [108, 101, 110]
 ·rw [if_pos c]
  refine aj.pos Z34 ?_
  refine aj.tkw (wd (ts.drop q)) rfl (by rcases c with c | c | c <;> rw [c] <;> simp) hts (fun h1 => ?_)
  dsimp only
  refine aj.bind (I.shift.unary ts (q + 1) hts h1) (fun e p g1 g2 g3 => ?_) (fun e p g1 g2 g3 => ?_)
  ·unfold sz at g3
   dsimp only
   exact aj.node (by omega) g2 hts (by simp) (by rw [jq]; omega)
  unfold sz at g3
  dsimp only
  exact ⟨nd 28 E 0 (wB (ts.drop q)) [e], by omega, by unfold sz; rw [dQ, jq]; omega, jB (by simp) (by rw [jq]; omega) ah.now⟩
 rw [if_neg c]
 refine aj.neg Z41 ?_
 refine aj.ite (fun c2 => aj.tkw _ c2 (by simp) hts (fun h1 => ?_)) (fun c2 => ?_)
 ·dsimp only
  refine aj.bind (I.shift.unary ts (q + 1) hts h1) (fun e p g1 g2 g3 => ?_) (fun e p g1 g2 g3 => ?_)
  ·unfold sz at g3
   dsimp only
   exact aj.node (by omega) g2 hts (by simp) (by rw [jq]; omega)
  unfold sz at g3
  dsimp only
  exact ⟨nd 30 E 0 E [e], by omega, by unfold sz; rw [dQ, jq]; omega, jB (by simp) (by rw [jq]; omega) ah.now⟩
 refine aj.bind (Iw hts I.shift H.shift N q hq) (fun e p g1 g2 g3 => ?_) (fun e p g1 g2 g3 => ?_)
 ·dsimp only
  exact Iz hts q N N (fun k => FF (k + 1)) I.shift H.shift e p (by omega) g2 g3
 dsimp only
 exact ⟨e, g1, g3, pY (FF := fun k => FF (k + 1)) e⟩
theorem AV (hts : ts.length ≤ 40000) (I : Ih S FF) (H : OkB FF) (N : Nat) (q : Nat) (hq : q ≤ ts.length) :
 aj ts q 2 sz (fun k => aQ.f (FF k) k ts (q : Int) false) (oU S N (ts.drop q)) := by
 refine aj.congr (fun k => by unfold aQ.f; rw [mJ]) ?_
 simp only [Option.bind_some]
 by_cases c1 : wd (ts.drop q) = [45]
 ·refine aj.pos c1 (uM hts I H N q hq _ ?_)
  rw [eqb]; exact decide_eq_decide.2 ⟨fun h => Or.inl h, fun h => c1⟩
 refine aj.neg c1 ?_
 by_cases c2 : wd (ts.drop q) = [110, 111, 116]
 ·refine aj.pos c2 (uM hts I H N q hq _ ?_)
  rw [eqb]; exact decide_eq_decide.2 ⟨fun h => Or.inr (Or.inl h), fun h => c2⟩
 refine aj.neg c2 (uM hts I H N q hq _ ?_)
 rw [eqb]; exact decide_eq_decide.2 ⟨fun h => Or.inr (Or.inr h), fun h => h.elim (fun h => absurd h c1) (fun h => h.elim (fun h => absurd h c2) id)⟩
theorem three {p q r : Prop} [Decidable p] [Decidable q] [Decidable r] {α : Type} {F : Bool → Nat → Option α} {v : α} (h : ∀ b : Bool, b = decide (p ∨ q ∨ r) → ah (F b) v) :
 ah (fun k => if p then F (decide p) k else if q then F (decide q) k else F (decide r) k) v := by
 by_cases c1 : p
 ·exact ah.pos c1 (h _ (decide_eq_decide.2 ⟨fun x => Or.inl x, fun _ => c1⟩))
 refine ah.neg c1 ?_
 by_cases c2 : q
 ·exact ah.pos c2 (h _ (decide_eq_decide.2 ⟨fun x => Or.inr (Or.inl x), fun _ => c2⟩))
 exact ah.neg c2 (h _ (decide_eq_decide.2 ⟨fun x => Or.inr (Or.inr x), fun x => x.elim (fun y => absurd y c1) (fun y => y.elim (fun z => absurd z c2) id)⟩))
theorem Dx (w : ByteArray) (b : Bool) (hb : b = decide (w.toList = [43] ∨ w.toList = [45] ∨ w.toList = [46, 46])) :
 ah (fun k => dN.j1 k w b) (if w.toList = [43] ∨ w.toList = [45] ∨ w.toList = [46, 46] then (4 : Int) else if w.toList = [42] ∨ w.toList = [47] ∨ w.toList = [37] then 5 else 0) := by
 refine ah.step (fun k => by rw [dN.j1]) ?_
 by_cases c : w.toList = [43] ∨ w.toList = [45] ∨ w.toList = [46, 46]
 ·rw [if_pos c]
  exact ah.pos Z34 ah.now
 rw [if_neg c]
 refine ah.neg Z41 ?_
 by_cases d1 : w.toList = [42]
 ·rw [if_pos (Or.inl d1)]; exact ah.pos d1 ah.now
 refine ah.neg d1 ?_
 by_cases d2 : w.toList = [47]
 ·rw [if_pos (Or.inr (Or.inl d2))]; exact ah.pos d2 ah.now
 refine ah.neg d2 ?_
 by_cases d3 : w.toList = [37]
 ·rw [if_pos (Or.inr (Or.inr d3))]; exact ah.pos d3 ah.now
 have hn : ¬(w.toList = [42] ∨ w.toList = [47] ∨ w.toList = [37]) := fun h => h.elim d1 (fun h => h.elim d2 d3)
 rw [if_neg hn]
 exact ah.neg d3 ah.now
theorem ry (w : ByteArray) (b : Bool) (hb : b = decide (w.toList = [61, 61] ∨ w.toList = [33, 61] ∨ w.toList = [60] ∨ w.toList = [60, 61])) :
 ah (fun k => dN.j0 k w b) (if w.toList = [61, 61] ∨ w.toList = [33, 61] ∨ w.toList = [60] ∨ w.toList = [60, 61] then (3 : Int) else if w.toList = [43] ∨ w.toList = [45] ∨ w.toList = [46, 46] then 4 else if w.toList = [42] ∨ w.toList = [47] ∨ w.toList = [37] then 5 else 0) := by
 refine ah.step (fun k => by rw [dN.j0]) ?_
 by_cases c : w.toList = [61, 61] ∨ w.toList = [33, 61] ∨ w.toList = [60] ∨ w.toList = [60, 61]
 ·rw [if_pos c]
  exact ah.pos Z34 ah.now
 rw [if_neg c]
 refine ah.neg Z41 ?_
 simp only [eqb]
 exact three (F := fun b k => dN.j1 k w b) (fun b hb => Dx w b hb)
theorem F6 (w : ByteArray) : ah (fun k => dN.f k w) (o8 w.toList) := by
 unfold dN.f o8
 by_cases c1 : w.toList = [111, 114]
 ·rw [if_pos c1]; exact ah.pos c1 ah.now
 rw [if_neg c1]
 refine ah.neg c1 ?_
 by_cases c2 : w.toList = [97, 110, 100]
 ·rw [if_pos c2]; exact ah.pos c2 ah.now
 rw [if_neg c2]
 refine ah.neg c2 ?_
 by_cases d1 : w.toList = [61, 61]
 ·exact ah.pos d1 (ry w _ (by rw [eqb]; exact decide_eq_decide.2 ⟨fun h => Or.inl h, fun _ => d1⟩))
 refine ah.neg d1 ?_
 by_cases d2 : w.toList = [33, 61]
 ·exact ah.pos d2 (ry w _ (by rw [eqb]; exact decide_eq_decide.2 ⟨fun h => Or.inr (Or.inl h), fun _ => d2⟩))
 refine ah.neg d2 ?_
 by_cases d3 : w.toList = [60]
 ·exact ah.pos d3 (ry w _ (by rw [eqb]; exact decide_eq_decide.2 ⟨fun h => Or.inr (Or.inr (Or.inl h)), fun _ => d3⟩))
 exact ah.neg d3 (ry w _ (by rw [eqb]; exact decide_eq_decide.2 ⟨fun h => Or.inr (Or.inr (Or.inr h)), fun h => h.elim (fun h => absurd h d1) (fun h => h.elim (fun h => absurd h d2) (fun h => h.elim (fun h => absurd h d3) id))⟩))
theorem yu {l : List UInt8} {a : Int} (h : o8 l = a) (ha : 1 ≤ a) : l ≠ [] := by
 intro e; subst e
 have : o8 [] = 0 := rfl
 omega
theorem G9 (hts : ts.length ≤ 40000) (q0 : Nat) (a : Int) (ha : 1 ≤ a) (ha5 : a ≤ 5) : ∀ (n : Nat) (FF : Nat → Fam) (I : Ih S FF) (H : OkB FF) (e : List S29) (q : Nat), q0 ≤ q → q ≤ ts.length → sz e ≤ 2 * (q - q0) →
 aj ts q0 2 sz (fun k => bJ.l0 (FF k) k a e ts (q : Int) false) (pI S a n e (ts.drop q)) := by
 intro n
 induction n with
 | zero => intro FF I H e q h0 hq hs; trivial
 | succ n ih =>
  intro FF I H e q h0 hq hs
  have hs' := hs
  unfold sz at hs'
  unfold pI
  refine aj.step (fun k => by rw [bJ.l0]) ?_
  refine aj.neg (by simp) ?_
  rw [mJ]
  simp only [Option.bind_some]
  refine aj.evB (F6 (wB (ts.drop q))) ?_
  refine aj.ite (fun c => aj.tkw _ rfl (yu c ha) hts (fun h1 => ?_)) (fun c => aj.done e h0 hq hs ah.now)
  dsimp only
  rw [w64 (n := a + 1) (by omega) (by omega)]
  refine aj.bind (I.shift.bound (a + 1) (by omega) (by omega) ts (q + 1) hts h1) (fun e2 p g1 g2 g3 => ?_) (fun e2 p g1 g2 g3 => ?_)
  ·unfold sz at g3
   dsimp only
   refine aj.evB (vz 27 E 0 (wB (ts.drop q)) 0 [e, e2] (by simp) (by rw [iZ]; omega)) ?_
   by_cases d : a = 3
   ·rw [if_pos d]
    refine aj.pos d ?_
    exact aj.done _ (by omega) g2 (by unfold sz; rw [dQ, iZ]; omega) ah.now
   rw [if_neg d]
   refine aj.neg d ?_
   exact ih (fun k => FF (k + 1)) I.shift H.shift _ p (by omega) g2 (by unfold sz; rw [dQ, iZ]; omega)
  unfold sz at g3
  dsimp only
  refine ⟨nd 27 E 0 (wB (ts.drop q)) [e, e2], by omega, by unfold sz; rw [dQ, iZ]; omega, jB (by simp) (by rw [iZ]; omega) ?_⟩
  by_cases d : a = 3
  ·exact ah.pos d ah.now
  exact ah.neg d (qZ (FF := fun k => FF (k + 1)) a _)
theorem BF (hts : ts.length ≤ 40000) (I : Ih S FF) (H : OkB FF) (N : Nat) (a : Int) (h1 : 1 ≤ a) (h2 : a ≤ 6) (q : Nat) (hq : q ≤ ts.length) :
 aj ts q 2 sz (fun k => bJ.f (FF k) k ts (q : Int) false a) (nP S N a (ts.drop q)) := by
 unfold bJ.f nP
 by_cases c : a = 6
 ·rw [if_pos c]
  exact aj.pos c (aj.idb (AV hts I H N q hq))
 rw [if_neg c]
 refine aj.neg c ?_
 rw [w64 (n := a + 1) (by omega) (by omega)]
 refine aj.bind (I.bound (a + 1) (by omega) (by omega) ts q hts hq) (fun e p g1 g2 g3 => ?_) (fun e p g1 g2 g3 => ?_)
 ·dsimp only
  exact G9 hts q a h1 (by omega) N FF I H e p g1 g2 g3
 dsimp only
 exact ⟨e, g1, g3, qZ a e⟩
theorem IU (hts : ts.length ≤ 40000) (I : Ih S FF) (H : OkB FF) (N : Nat) (q : Nat) (hq : q ≤ ts.length) :
 aj ts q 2 sz (fun k => fE.f (FF k) k ts (q : Int) false) (kE S N (ts.drop q)) := by
 unfold fE.f kE
 exact aj.idb (BF hts I H N 1 (by omega) (by omega) q hq)
theorem Jq : ∀ n : Nat, Ih (oC n) fam := by
 intro n
 induction n with
 | zero => exact ⟨fun _ _ _ _ => trivial, fun _ _ _ _ => trivial, fun _ _ _ _ _ _ _ => trivial, fun _ _ _ _ => trivial⟩
 | succ n ih =>
  exact ⟨fun ts q hts hq => aj.step (fun k => rfl) (IU hts ih rJ n q hq), fun ts q hts hq => aj.step (fun k => rfl) (BG hts ih rJ n q hq),
   fun a h1 h2 ts q hts hq => aj.step (fun k => rfl) (BF hts ih rJ n a h1 h2 q hq), fun ts q hts hq => aj.step (fun k => rfl) (AV hts ih rJ n q hq)⟩
end Go.Proofs.YtkbhkonenkgfoaaGreat.Par
end
section
set_option linter.unusedVariables false
set_option linter.unusedSimpArgs false
namespace Go.Proofs.YtkbhkonenkgfoaaGreat.Par
open Go Go.RowKit Go.Proofs.YtkbhkonenkgfoaaGreatW.PrintWords Go.Proofs.YtkbhkonenkgfoaaGreat.Q Go.Proofs.YtkbhkonenkgfoaaGreat.Lex Go.Proofs.YtkbhkonenkgfoaaGreat.Tree
variable {ts : List S37} {S : PF} {FF : Nat → iC}
theorem FD (hts : ts.length ≤ 40000) (I : IhR S FF) (H : OkR FF) (N : Nat) (q : Nat) (hq : q ≤ ts.length) :
 aj ts q 2 sz (fun k => if (q : Int) ≥ (ts.length : Int) then some (([] : List S29), (q : Int), true) else if 0 ≤ (q : Int) then uP.f (FF k) k ts (q : Int) else none) (rM S N (ts.drop q)) := by
 cases e : ts.drop q with
 | nil =>
  have : ts.length ≤ q := List.drop_eq_nil_iff.1 e
  unfold rM
  exact ⟨[], q, Nat.le_refl _, hq, e, by unfold sz; simp only [List.length_nil]; omega, ah.pos (by omega) ah.now⟩
 | cons t r =>
  obtain ⟨hq1, ht, hr⟩ := lI ts q t r e
  refine aj.neg (by omega) (aj.pos (by omega) ?_)
  unfold uP.f rM
  rw [ht]
  refine aj.ite (fun c => ?_) (fun c => ?_)
  ·rw [← hr]
   exact aj.pos (by omega) (aj.done (nd 19 E t.f2 E []) (by omega) hq1 (by unfold sz; rw [dQ]; simp only [List.flatten_nil, List.length_nil]; omega) ah.now)
  refine aj.ite (fun c => ?_) (fun c => ?_)
  ·rw [← hr]
   exact aj.pos (by omega) (aj.done (nd 20 E 0 t.f1 []) (by omega) hq1 (by unfold sz; rw [dQ]; simp only [List.flatten_nil, List.length_nil]; omega) ah.now)
  rw [← e]
  unfold Bg
  refine aj.pV 1 hq hts (by omega) (fun t1 h2 _ => ?_) ?_
  ·dsimp only
   refine aj.jh _ _ (fD _ _ rfl) (by simp) h2 hts (fun h3 => ?_) (fun hn => ?_)
   ·refine aj.pos rfl ?_
    dsimp only
    refine aj.pV 1 h3 hts (by omega) (fun t2 h4 _ => ?_) ?_
    ·dsimp only
     refine aj.bind (EQ hts I H N _ h4) (fun ks p g1 g2 g3 => ?_) (fun ks p g1 g2 g3 => ?_)
     ·unfold szK at g3
      dsimp only
      exact aj.join (by omega) g2 hts (by omega) (by omega)
     unfold szK at g3
     dsimp only
     exact ⟨nd 23 t1.f1 0 t2.f1 ks, by omega, by unfold sz; rw [dQ]; omega, kK (by omega) (by omega) ah.now⟩
    dsimp only
    exact ⟨nd 23 t1.f1 0 E [], by unfold sz; rw [dQ]; simp only [List.flatten_nil, List.length_nil]; omega, ah.bind EO (kK (by simp) (by simp) ah.now)⟩
   refine aj.neg (by simp) ?_
   exact aj.done (nd 21 t1.f1 0 E []) (by omega) h2 (by unfold sz; rw [dQ]; simp only [List.flatten_nil, List.length_nil]; omega) ah.now
  dsimp only
  rw [mg]
  simp only [Option.bind_some]
  exact ⟨nd 21 E 0 E [], by unfold sz; rw [dQ]; simp only [List.flatten_nil, List.length_nil]; omega, ah.neg (by simp) ah.now⟩
theorem FI (hts : ts.length ≤ 40000) (I : IhR S FF) (H : OkR FF) (N : Nat) (q : Nat) (hq : q ≤ ts.length) :
 aj ts q 2 sz (fun k => mf.f (FF k) k ts (q : Int) false) (uV S N (ts.drop q)) := by
 unfold mf.f uV
 refine aj.jh _ _ (fD _ _ rfl) (by simp) hq hts (fun h1 => aj.pos rfl ?_) (fun _ => aj.neg (by simp) ?_)
 ·exact aj.done (nd 18 E 0 E []) (by omega) h1 (by unfold sz; rw [dQ]; simp only [List.flatten_nil, List.length_nil]; omega) ah.now
 dsimp only
 refine aj.jh _ _ (fD _ _ rfl) (by simp) hq hts (fun h1 => aj.pos rfl ?_) (fun _ => aj.neg (by simp) ?_)
 ·exact aj.done (nd 29 E 0 E []) (by omega) h1 (by unfold sz; rw [dQ]; simp only [List.flatten_nil, List.length_nil]; omega) ah.now
 dsimp only
 refine aj.jh _ _ (fD _ _ rfl) (by simp) hq hts (fun h1 => aj.pos rfl ?_) (fun _ => aj.neg (by simp) ?_)
 ·dsimp only
  refine aj.kU ⟨#[125]⟩ [125] (fD _ _ rfl) (by simp) h1 hts (by omega) (fun h4 => ?_) ?_
  ·exact aj.done (nd 25 E 0 E []) (by omega) h4 (by unfold sz; rw [dQ]; simp only [List.flatten_nil, List.length_nil]; omega) ah.now
  exact ⟨nd 25 E 0 E [], by unfold sz; rw [dQ]; simp only [List.flatten_nil, List.length_nil]; omega, ah.now⟩
 dsimp only
 refine aj.jh _ _ (fD _ _ rfl) (by simp) hq hts (fun h1 => aj.pos rfl ?_) (fun _ => aj.neg (by simp) ?_)
 ·dsimp only
  rw [ul]
  refine aj.bind (tZ hts I H N (q + 1) h1) (fun ks p g1 g2 g3 => ?_) (fun ks p g1 g2 g3 => ?_)
  ·unfold szK at g3
   dsimp only
   exact aj.join (by omega) g2 hts (by omega) (by omega)
  unfold szK at g3
  dsimp only
  exact ⟨nd 24 E 0 E ks, by omega, by unfold sz; rw [dQ]; omega, kK (by omega) (by omega) ah.now⟩
 dsimp only
 refine aj.jh _ _ (fD _ _ rfl) (by simp) hq hts (fun h1 => aj.pos rfl ?_) (fun _ => aj.neg (by simp) ?_)
 ·dsimp only
  refine aj.bind (I.expr ts (q + 1) hts h1) (fun e p g1 g2 g3 => ?_) (fun e p g1 g2 g3 => ?_)
  ·dsimp only
   refine aj.kU ⟨#[41]⟩ [41] (fD _ _ rfl) (by simp) g2 hts (by omega) (fun h4 => ?_) ?_
   ·exact aj.done _ (by omega) h4 (by omega) ah.now
   exact ⟨e, by omega, ah.now⟩
  dsimp only
  rw [gy]
  exact ⟨e, by omega, by omega, ah.now⟩
 dsimp only
 exact aj.neg (by simp) (FD hts I H N q hq)
theorem FM (hts : ts.length ≤ 40000) (q0 N : Nat) : ∀ (n : Nat) (FF : Nat → iC) (I : IhR S FF) (H : OkR FF) (e : List S29) (q : Nat), q0 ≤ q → q ≤ ts.length → sz e ≤ 2 * (q - q0) →
 aj ts q0 2 sz (fun k => ay.l1 (FF k) k e ts (q : Int) false) (rF S N n e (ts.drop q)) := by
 intro n
 induction n with
 | zero => intro FF I H e q h0 hq hs; trivial
 | succ n ih =>
  intro FF I H e q h0 hq hs
  have hs' := hs
  unfold sz at hs'
  unfold rF
  refine aj.step (fun k => by rw [ay.l1]) ?_
  refine aj.neg (by simp) ?_
  rw [wU _ _ _ (by rw [fD _ [40] rfl]; simp), fD _ [40] rfl]
  simp only [Option.bind_some]
  by_cases c : wd (ts.drop q) = [40]
  ·rw [if_pos c]
   refine aj.pos (by simp [c]) ?_
   refine aj.bind (EQ hts I.shift H.shift N q hq) (fun ks p g1 g2 g3 => ?_) (fun ks p g1 g2 g3 => ?_)
   ·unfold szK at g3
    dsimp only
    have hf : ([e] ++ ks).flatten.length = e.length + ks.flatten.length := by simp
    have hg : ([e] ++ ks).length = 1 + ks.length := by simp; omega
    refine aj.pos Z37 ?_
    refine aj.evB (tu 22 E 0 E 0 ([e] ++ ks) (by omega) (by omega)) ?_
    exact ih (fun k => FF (k + 1)) I.shift H.shift _ p (by omega) g2 (by unfold sz; rw [dQ]; omega)
   unfold szK at g3
   dsimp only
   have hf : ([e] ++ ks).flatten.length = e.length + ks.flatten.length := by simp
   have hg : ([e] ++ ks).length = 1 + ks.length := by simp; omega
   exact ⟨nd 22 E 0 E ([e] ++ ks), by omega, by unfold sz; rw [dQ]; omega, ah.pos Z37 (kK (by omega) (by omega) (oM (FF := fun k => FF (k + 1)) _))⟩
  rw [if_neg c]
  refine aj.neg (by simp [c]) ?_
  refine aj.jh _ _ (fD _ _ rfl) (by simp) hq hts (fun h1 => aj.pos rfl ?_) (fun _ => aj.neg (by simp) ?_)
  ·dsimp only
   refine aj.bind (I.shift.expr ts (q + 1) hts h1) (fun i p g1 g2 g3 => ?_) (fun i p g1 g2 g3 => ?_)
   ·unfold sz at g3
    dsimp only
    refine aj.evB (tu 26 E 0 E 0 [e, i] (by simp) (by rw [iZ]; omega)) ?_
    refine aj.kU ⟨#[93]⟩ [93] (fD _ _ rfl) (by simp) g2 hts (by omega) (fun h4 => ?_) ?_
    ·dsimp only
     exact ih (fun k => FF (k + 1)) I.shift H.shift _ (p + 1) (by omega) h4 (by unfold sz; rw [dQ, iZ]; omega)
    dsimp only
    exact ⟨nd 26 E 0 E [e, i], by unfold sz; rw [dQ, iZ]; omega, oM (FF := fun k => FF (k + 1)) _⟩
   unfold sz at g3
   dsimp only
   refine ⟨nd 26 E 0 E [e, i], by omega, by unfold sz; rw [dQ, iZ]; omega, kK (by simp) (by rw [iZ]; omega) ?_⟩
   rw [gy]
   exact oM (FF := fun k => FF (k + 1)) _
  exact aj.done e h0 hq hs ah.now
def unW : List ByteArray := [(⟨#[45]⟩ : ByteArray), (⟨#[110, 111, 116]⟩ : ByteArray), (⟨#[108, 101, 110]⟩ : ByteArray)]
theorem Hl {l : List S37} {w : ByteArray} (c : wd l = w.toList) : w = wB l := JA (by rw [← iV, ← iV]; exact c.symm)
theorem zJ (hts : ts.length ≤ 40000) (I : IhR S FF) (i : Nat) (w : ByteArray) (hi : i < 3) (hr : nX ByteArray.empty unW (i : Int) = w) (hw : w.toList ≠ []) (q : Nat) (hq : q ≤ ts.length) (c : wd (ts.drop q) = w.toList) :
 aj ts q 2 sz (fun k => ay.l0 (FF k) k unW (i : Int) ts (q : Int) false) ((bnd Par.tk fun _ => bnd S.unary fun e => ret (nd 28 E 0 (wB (ts.drop q)) [e])) (ts.drop q)) := by
 refine aj.step (fun k => Z39) ?_
 rw [hr]
 refine aj.pos (by show (i : Int) < 3; omega) (aj.pos (by omega) ?_)
 refine aj.rtk w hw c hts (fun h1 => aj.pos rfl ?_)
 dsimp only
 rw [← Hl c]
 refine aj.bind (I.shift.unary ts (q + 1) hts h1) (fun e p g1 g2 g3 => ?_) (fun e p g1 g2 g3 => ?_)
 ·unfold sz at g3
  dsimp only
  exact aj.join (by omega) g2 hts (by simp) (by rw [jq]; omega)
 unfold sz at g3
 dsimp only
 exact ⟨nd 28 E 0 w [e], by omega, by unfold sz; rw [dQ, jq]; omega, kK (by simp) (by rw [jq]; omega) ah.now⟩
theorem Dw (hts : ts.length ≤ 40000) (i : Nat) (w : ByteArray) (hi : i < 3) (hr : nX ByteArray.empty unW (i : Int) = w) (hw : w.toList ≠ []) (q : Nat) (hq : q ≤ ts.length) (c : wd (ts.drop q) ≠ w.toList) {P : R (List S29)}
 (h : aj ts q 2 sz (fun k => ay.l0 (FF (k + 1)) k unW ((i + 1 : Nat) : Int) ts (q : Int) false) P) : aj ts q 2 sz (fun k => ay.l0 (FF k) k unW (i : Int) ts (q : Int) false) P := by
 refine aj.step (fun k => Z39) ?_
 rw [hr, oK ts q (by omega) w hw, if_neg c, inc i (by omega)]
 simp only [Option.bind_some]
 exact aj.pos (by show (i : Int) < 3; omega) (aj.pos (by omega) (aj.neg (by simp) h))
theorem yC (hts : ts.length ≤ 40000) (I : IhR S FF) (H : OkR FF) (N : Nat) (q : Nat) (hq : q ≤ ts.length) :
 aj ts q 2 sz (fun k => ay.f (FF k) k ts (q : Int) false) (oU S N (ts.drop q)) := by
 unfold ay.f oU
 have l0 : (⟨#[45]⟩ : ByteArray).toList = [45] := fD _ _ rfl
 have l1 : (⟨#[110, 111, 116]⟩ : ByteArray).toList = [110, 111, 116] := fD _ _ rfl
 have l2 : (⟨#[108, 101, 110]⟩ : ByteArray).toList = [108, 101, 110] := fD _ _ rfl
 by_cases c0 : wd (ts.drop q) = [45]
 ·rw [if_pos (Or.inl c0)]
  exact zJ hts I 0 ⟨#[45]⟩ (by omega) rfl (by rw [l0]; simp) q hq (by rw [l0]; exact c0)
 refine Dw hts 0 ⟨#[45]⟩ (by omega) rfl (by rw [l0]; simp) q hq (by rw [l0]; exact c0) ?_
 by_cases c1 : wd (ts.drop q) = [110, 111, 116]
 ·rw [if_pos (Or.inr (Or.inl c1))]
  exact zJ hts I.shift 1 ⟨#[110, 111, 116]⟩ (by omega) rfl (by rw [l1]; simp) q hq (by rw [l1]; exact c1)
 refine Dw (FF := fun k => FF (k + 1)) hts 1 ⟨#[110, 111, 116]⟩ (by omega) rfl (by rw [l1]; simp) q hq (by rw [l1]; exact c1) ?_
 by_cases c2 : wd (ts.drop q) = [108, 101, 110]
 ·rw [if_pos (Or.inr (Or.inr c2))]
  exact zJ hts I.shift.shift 2 ⟨#[108, 101, 110]⟩ (by omega) rfl (by rw [l2]; simp) q hq (by rw [l2]; exact c2)
 refine Dw (FF := fun k => FF (k + 1 + 1)) hts 2 ⟨#[108, 101, 110]⟩ (by omega) rfl (by rw [l2]; simp) q hq (by rw [l2]; exact c2) ?_
 rw [if_neg (fun h => h.elim c0 (fun h => h.elim c1 c2))]
 refine aj.step (fun k => Z39) ?_
 refine aj.neg (by show ¬ ((3 : Int) < 3); omega) ?_
 refine aj.jh _ _ (fD _ _ rfl) (by simp) hq hts (fun h1 => aj.pos rfl ?_) (fun _ => aj.neg (by simp) ?_)
 ·dsimp only
  refine aj.bind (I.shift.shift.shift.shift.unary ts (q + 1) hts h1) (fun e p g1 g2 g3 => ?_) (fun e p g1 g2 g3 => ?_)
  ·unfold sz at g3
   dsimp only
   exact aj.join (by omega) g2 hts (by simp) (by rw [jq]; omega)
  unfold sz at g3
  dsimp only
  exact ⟨nd 30 E 0 E [e], by omega, by unfold sz; rw [dQ, jq]; omega, kK (by simp) (by rw [jq]; omega) ah.now⟩
 dsimp only
 refine aj.bind (FI hts I.shift.shift.shift.shift H.shift.shift.shift.shift N q hq) (fun e p g1 g2 g3 => ?_) (fun e p g1 g2 g3 => ?_)
 ·dsimp only
  exact FM hts q N N _ I.shift.shift.shift.shift H.shift.shift.shift.shift e p (by omega) g2 g3
 dsimp only
 exact ⟨e, g1, g3, oM (FF := fun k => FF (k + 1 + 1 + 1 + 1)) e⟩
/-- The words of a level. -/
def lvW (a : Int) : List ByteArray := if a = 0 then [(⟨#[111, 114]⟩ : ByteArray)] else if a = 1 then [(⟨#[97, 110, 100]⟩ : ByteArray)] else if a = 2 then [(⟨#[61, 61]⟩ : ByteArray), (⟨#[33, 61]⟩ : ByteArray), (⟨#[60]⟩ : ByteArray), (⟨#[60, 61]⟩ : ByteArray)] else if a = 3 then [(⟨#[43]⟩ : ByteArray), (⟨#[45]⟩ : ByteArray), (⟨#[46, 46]⟩ : ByteArray)] else [(⟨#[42]⟩ : ByteArray), (⟨#[47]⟩ : ByteArray), (⟨#[37]⟩ : ByteArray)]
theorem Bl (a : Int) : gZ.f a = some (lvW a) := by
 unfold gZ.f lvW
 by_cases c0 : a = 0
 ·rw [if_pos c0, if_pos c0]
 rw [if_neg c0, if_neg c0]
 by_cases c1 : a = 1
 ·rw [if_pos c1, if_pos c1]
 rw [if_neg c1, if_neg c1]
 by_cases c2 : a = 2
 ·rw [if_pos c2, if_pos c2]
 rw [if_neg c2, if_neg c2]
 by_cases c3 : a = 3
 ·rw [if_pos c3, if_pos c3]
 rw [if_neg c3, if_neg c3]
theorem yw (w : List UInt8) (a : Int) (h0 : 0 ≤ a) (h4 : a ≤ 4) : o8 w = a + 1 ↔ w ∈ (lvW a).map (·.toList) := by
 have lw : (lvW a).map (·.toList) = (lvW a).map L := List.map_congr_left fun x _ => iV x
 rw [lw]
 unfold o8
 rcases (show a = 0 ∨ a = 1 ∨ a = 2 ∨ a = 3 ∨ a = 4 by omega) with rfl | rfl | rfl | rfl | rfl
 ·show _ ↔ w ∈ ([[111, 114]] : List (List UInt8))
  simp only [List.mem_cons, List.not_mem_nil, or_false]
  exact ⟨fun h => by (repeat' split at h) <;> first | assumption | (exfalso; omega), fun h => by subst h; decide⟩
 ·show _ ↔ w ∈ ([[97, 110, 100]] : List (List UInt8))
  simp only [List.mem_cons, List.not_mem_nil, or_false]
  exact ⟨fun h => by (repeat' split at h) <;> first | assumption | (exfalso; omega), fun h => by subst h; decide⟩
 ·show _ ↔ w ∈ ([[61, 61], [33, 61], [60], [60, 61]] : List (List UInt8))
  simp only [List.mem_cons, List.not_mem_nil, or_false]
  exact ⟨fun h => by (repeat' split at h) <;> first | assumption | (exfalso; omega), fun h => by rcases h with rfl | rfl | rfl | rfl <;> decide⟩
 ·show _ ↔ w ∈ ([[43], [45], [46, 46]] : List (List UInt8))
  simp only [List.mem_cons, List.not_mem_nil, or_false]
  exact ⟨fun h => by (repeat' split at h) <;> first | assumption | (exfalso; omega), fun h => by rcases h with rfl | rfl | rfl <;> decide⟩
 show _ ↔ w ∈ ([[42], [47], [37]] : List (List UInt8))
 simp only [List.mem_cons, List.not_mem_nil, or_false]
 exact ⟨fun h => by (repeat' split at h) <;> first | assumption | (exfalso; omega), fun h => by rcases h with rfl | rfl | rfl <;> decide⟩
theorem I5 (q : Nat) (hq : q ≤ 50000) (ws : List ByteArray) (hws : ∀ w ∈ ws, w.toList ≠ []) (hl : ws.length ≤ 10) : ∀ (m i : Nat), ws.length = m + i → wd (ts.drop q) ∈ (ws.drop i).map (·.toList) →
 ah (fun k => bM.l0 k ws (i : Int) ts (q : Int) false) (wB (ts.drop q), ((q + 1 : Nat) : Int), false) := by
 intro m
 induction m with
 | zero => intro i h hm; rw [List.drop_eq_nil_of_le (by omega)] at hm; simp at hm
 | succ m ih =>
  intro i h hm
  have hi : i < ws.length := by omega
  have hr : nX ByteArray.empty ws (i : Int) = ws[i] := by simp [nX, List.getD_eq_getElem?_getD, List.getElem?_eq_getElem hi]
  rw [List.drop_eq_getElem_cons hi, List.map_cons, List.mem_cons] at hm
  refine ah.step (fun k => by rw [bM.l0]) ?_
  rw [hr, inc i (by omega), oK ts q (by omega) _ (hws _ (List.getElem_mem hi))]
  refine ah.pos (by omega) (ah.pos (by omega) ?_)
  by_cases c : wd (ts.drop q) = ws[i].toList
  ·rw [if_pos c, ← Hl c]
   simp only [Option.bind_some]
   exact ah.pos trivial ah.now
  rw [if_neg c]
  simp only [Option.bind_some]
  exact ah.neg (by simp) (ih (i + 1) (by omega) (hm.resolve_left c))
theorem Jk (q : Nat) (hq : q ≤ 50000) (ws : List ByteArray) (hws : ∀ w ∈ ws, w.toList ≠ []) (hl : ws.length ≤ 10) : ∀ (m i : Nat), ws.length = m + i → wd (ts.drop q) ∉ (ws.drop i).map (·.toList) →
 ah (fun k => bM.l0 k ws (i : Int) ts (q : Int) false) (E, (q : Int), false) := by
 intro m
 induction m with
 | zero =>
  intro i h hm
  refine ah.step (fun k => by rw [bM.l0]) ?_
  exact ah.neg (by omega) ah.now
 | succ m ih =>
  intro i h hm
  have hi : i < ws.length := by omega
  have hr : nX ByteArray.empty ws (i : Int) = ws[i] := by simp [nX, List.getD_eq_getElem?_getD, List.getElem?_eq_getElem hi]
  rw [List.drop_eq_getElem_cons hi, List.map_cons, List.mem_cons] at hm
  refine ah.step (fun k => by rw [bM.l0]) ?_
  rw [hr, inc i (by omega), oK ts q (by omega) _ (hws _ (List.getElem_mem hi)), if_neg (fun c => hm (Or.inl c))]
  simp only [Option.bind_some]
  exact ah.pos (by omega) (ah.pos (by omega) (ah.neg (by simp) (ih (i + 1) (by omega) (fun c => hm (Or.inr c)))))
theorem IA (a : Int) : (∀ w ∈ lvW a, w.toList ≠ []) ∧ (lvW a).length ≤ 10 := by
 unfold lvW
 (repeat' split) <;> exact ⟨by simp [iV, L], by simp⟩
theorem JR (hts : ts.length ≤ 40000) (q0 : Nat) (a : Int) (ha : 0 ≤ a) (ha4 : a ≤ 4) : ∀ (n : Nat) (FF : Nat → iC) (I : IhR S FF) (H : OkR FF) (e : List S29) (i : Int) (q : Nat), (a = 2 → i = 0) → q0 ≤ q → q ≤ ts.length → sz e ≤ 2 * (q - q0) →
 aj ts q0 2 sz (fun k => aI.l0 (FF k) k a e i ts (q : Int) false) (pI S (a + 1) n e (ts.drop q)) := by
 intro n
 induction n with
 | zero => intro FF I H e i q hi h0 hq hs; trivial
 | succ n ih =>
  intro FF I H e i q hi h0 hq hs
  have hs' := hs
  unfold sz at hs'
  unfold pI
  refine aj.step (fun k => by rw [aI.l0]) ?_
  refine aj.neg (by simp) ?_
  have main : aj ts q0 2 sz (fun k => aI.j1 (FF (k + 1)) k a e i true ts (q : Int) false) (if o8 (wd (ts.drop q)) = a + 1 then (bnd tk fun _ => bnd (S.bound (a + 1 + 1)) fun e2 => if a + 1 = 3 then ret (nd 27 E 0 (wB (ts.drop q)) [e, e2]) else pI S (a + 1) n (nd 27 E 0 (wB (ts.drop q)) [e, e2])) (ts.drop q) else .ok (e, ts.drop q)) := by
   refine aj.step (fun k => by rw [aI.j1]) ?_
   refine aj.pos rfl ?_
   obtain ⟨o1, o2⟩ := IA a
   by_cases c : o8 (wd (ts.drop q)) = a + 1
   ·rw [if_pos c]
    have hne : wd (ts.drop q) ≠ [] := yu c (by omega)
    obtain ⟨t, r, e'⟩ := ru hne
    obtain ⟨h1, _, h3⟩ := lI ts q t r e'
    have tkE : ∀ (f : Unit → Ps (List S29)), (bnd Par.tk f) (ts.drop q) = f () (ts.drop (q + 1)) := fun f => by rw [e', h3]; rfl
    rw [tkE]
    refine aj.evB (v := (wB (ts.drop q), ((q + 1 : Nat) : Int), false)) ?_ ?_
    ·unfold bM.f
     rw [Bl]
     exact I5 q (by omega) (lvW a) o1 o2 _ 0 rfl (by rw [List.drop_zero]; exact (yw _ a ha ha4).1 c)
    refine aj.neg hne ?_
    dsimp only
    rw [w64 (n := a + 1) (by omega) (by omega)]
    refine aj.bind (I.shift.shift.at0 (a + 1) (by omega) (by omega) ts (q + 1) hts h1) (fun e2 p g1 g2 g3 => ?_) (fun e2 p g1 g2 g3 => ?_)
    ·unfold sz at g3
     dsimp only
     refine aj.evB (tu 27 E 0 (wB (ts.drop q)) 0 [e, e2] (by simp) (by rw [iZ]; omega)) ?_
     by_cases d : a = 2
     ·rw [if_pos (by omega), hi d]
      refine aj.done _ (by omega) g2 (by unfold sz; rw [dQ, iZ]; omega) ?_
      refine ah.step (fun k => by rw [aI.l0]) ?_
      refine ah.neg (by simp) (ah.pos d ?_)
      refine ah.step (fun k => by rw [aI.j1]) ?_
      exact ah.neg (by rw [w64 (n := 0 + 1) (by omega) (by omega)]; simp) ah.now
     rw [if_neg (by omega)]
     exact ih (fun k => FF (k + 2)) I.shift.shift H.shift.shift _ _ p (fun h => absurd h d) (by omega) g2 (by unfold sz; rw [dQ, iZ]; omega)
    unfold sz at g3
    dsimp only
    exact ⟨nd 27 E 0 (wB (ts.drop q)) [e, e2], by omega, by unfold sz; rw [dQ, iZ]; omega, kK (by simp) (by rw [iZ]; omega) (vV (FF := fun k => FF (k + 2)) a _ _)⟩
   rw [if_neg c]
   refine aj.evB (v := (E, (q : Int), false)) ?_ (aj.pos zI (aj.done e h0 hq hs ah.now))
   unfold bM.f
   rw [Bl]
   exact Jk q (by omega) (lvW a) o1 o2 _ 0 rfl (by rw [List.drop_zero]; exact fun h => c ((yw _ a ha ha4).2 h))
  by_cases d : a = 2
  ·rw [hi d] at main ⊢
   exact aj.pos d main
  exact aj.neg d main
theorem Jw (hts : ts.length ≤ 40000) (I : IhR S FF) (H : OkR FF) (N : Nat) (a : Int) (h1 : 0 ≤ a) (h2 : a ≤ 5) (q : Nat) (hq : q ≤ ts.length) :
 aj ts q 2 sz (fun k => aI.f (FF k) k ts (q : Int) false a) (nP S N (a + 1) (ts.drop q)) := by
 unfold aI.f nP
 by_cases c : a = 5
 ·rw [if_pos (by omega)]
  exact aj.pos c (aj.idb (yC hts I H N q hq))
 rw [if_neg (by omega)]
 refine aj.neg c ?_
 rw [w64 (n := a + 1) (by omega) (by omega)]
 refine aj.bind (I.at0 (a + 1) (by omega) (by omega) ts q hts hq) (fun e p g1 g2 g3 => ?_) (fun e p g1 g2 g3 => ?_)
 ·dsimp only
  exact JR hts q a h1 (by omega) N FF I H e 0 p (fun _ => rfl) g1 g2 g3
 dsimp only
 exact ⟨e, g1, g3, vV a 0 e⟩
theorem FP (hts : ts.length ≤ 40000) (I : IhR S FF) (H : OkR FF) (N : Nat) (q : Nat) (hq : q ≤ ts.length) :
 aj ts q 2 sz (fun k => eF.f (FF k) k ts (q : Int) false) (kE S N (ts.drop q)) := by
 unfold eF.f kE
 exact aj.idb (Jw hts I H N 0 (by omega) (by omega) q hq)
theorem IR : ∀ n : Nat, IhR (oC n) mi := by
 intro n
 induction n with
 | zero => exact ⟨fun _ _ _ _ => trivial, fun _ _ _ _ => trivial, fun _ _ _ _ _ _ _ => trivial, fun _ _ _ _ => trivial⟩
 | succ n ih =>
  exact ⟨fun ts q hts hq => aj.step (fun k => rfl) (FP hts ih rH n q hq), fun ts q hts hq => aj.step (fun k => rfl) (yN hts ih rH n q hq),
   fun a h1 h2 ts q hts hq => aj.step (fun k => rfl) (Jw hts ih rH n a h1 h2 q hq), fun ts q hts hq => aj.step (fun k => rfl) (yC hts ih rH n q hq)⟩
end Go.Proofs.YtkbhkonenkgfoaaGreat.Par
end
