/- The plain law of TreeKids, and its walk, for all nodes and every place. -/
import Derived.Test.YtclhaajlgmiilaaTreeForest
import Derived.Test.YtclhaajlgmiilaaRowNodes
import Derived.Test.YtclhaajlgmiilaaQ37
set_option linter.unusedVariables false
set_option linter.unusedSimpArgs false
namespace Go.Proofs.Ytclhaajlgmiilaa.Tree
open Go Go.RowKit Go.Proofs.YtclhaajlgmiilaaW.PrintWords Go.Proofs.Ytclhaajlgmiilaa.Q Go.Proofs.Ytclhaajlgmiilaa.Lex

theorem Fo.len {u : List S36} {w D : Nat} (h : Fo u w D) : w ≤ u.length := by
  induction h with
  | nil => exact Nat.le_refl _
  | cons x t v w D1 D2 hx ht hv ih1 ih2 => simp; omega
theorem Fo.kids {u : List S36} {w D : Nat} (h : Fo u w D) : ∀ y ∈ u, y.f1 + (w : Int) ≤ u.length := by
  induction h with
  | nil => intro y hy; cases hy
  | cons x t v w D1 D2 hx ht hv ih1 ih2 =>
    have h1 := ht.len
    have h2 := hv.len
    intro y hy
    simp only [List.length_cons, List.length_append]
    rcases List.mem_cons.1 hy with rfl | hy
    · omega
    · rcases List.mem_append.1 hy with hy | hy
      · have := ih1 y hy; omega
      · have := ih2 y hy; omega
theorem Fo.deep {u : List S36} {w D : Nat} (h : Fo u w D) : D ≤ u.length := by
  induction h with
  | nil => exact Nat.le_refl _
  | cons x t v w D1 D2 hx ht hv ih1 ih2 => simp; omega
theorem Fo.one {s : List S36} {D : Nat} (h : Fo s 1 D) : ∃ x t D1, s = x :: t ∧ D = 1 + D1 ∧ 0 ≤ x.f1 ∧ Fo t x.f1.toNat D1 := by
  generalize hn : 1 = n at h
  cases h with
  | nil => omega
  | cons x t v w D1 D2 hx ht hv =>
    obtain rfl : w = 0 := by omega
    obtain ⟨rfl, rfl⟩ := hv.none
    exact ⟨x, t, D1, by simp, by omega, hx, ht⟩
/-- One tree's depth. -/
theorem Depth_Fo {s : List S36} {D : Nat} (h : Fo s 1 D) (hl : s.length ≤ 2100) : EvTo (fun k => tree_Depth.f k s) (D : Int) := by
  have hk := h.kids
  have hF : Tree.endF s.length (s.drop 0) 1 = some s.length := by
    have := h.endF (n := s.length) (fun y hy => by have := hk y hy; omega) [] 0 (by omega)
    simpa using this
  have hwb : wholeB s s.length = true := wholeB_of s s.length (Nat.le_refl _) (fun q hq => by
    obtain ⟨m', _, e⟩ := endF_in _ _ _ _ q hF (Nat.le_refl 1) hq
    rw [List.drop_zero] at e
    rw [e]; rfl)
  have hd := Depth_E s hl
  rw [hwb, if_pos rfl, h.depth] at hd
  exact hd
/-- The places of so many trees, from one on. -/
def its (l : List S36) : Nat → Int → List Int
  | 0, _ => []
  | d + 1, p => p :: its l d (endI l p)
theorem Kids_its (l : List S36) (hl : l.length ≤ 2100) (i : Nat) (hi : i < l.length) (h0 : 0 ≤ l[i].f1) (h9 : l[i].f1 ≤ 2100) : ∀ (d : Nat) (acc : List Int) (at' : Int), l[i].f1.toNat = d + acc.length →
    EvTo (fun k => tree_Kids.l0 k l (i : Int) acc at') (acc ++ its l d at') := by
  intro d
  induction d with
  | zero =>
    intro acc at' h
    refine EvTo.step (fun k => by rw [tree_Kids.l0]) ?_
    refine EvTo.pos (by omega) (EvTo.pos (by omega) ?_)
    rw [rd36 l i hi, its, List.append_nil]
    exact EvTo.neg (by omega) EvTo.now
  | succ d ih =>
    intro acc at' h
    have h1 := ih (acc ++ [at']) (endI l at') (by simp; omega)
    rw [List.append_assoc] at h1
    refine EvTo.step (fun k => by rw [tree_Kids.l0]) ?_
    refine EvTo.pos (by omega) (EvTo.pos (by omega) ?_)
    rw [rd36 l i hi]
    exact EvTo.pos (by omega) (EvTo.pos (by omega) (EvTo.bind (End_E l hl at') h1))
theorem its_len (l : List S36) : ∀ (d : Nat) (p : Int), (its l d p).length = d
  | 0, _ => rfl
  | d + 1, p => by rw [its, List.length_cons, its_len]
theorem kids_loop (l : List S36) (hl : l.length ≤ 2100) (e d : Int) (ks : List Int) (hks : ks.length ≤ 2100) : ∀ (w : Nat) (u rest : List S36) (D p idx M : Nat), Fo u w D → l.drop p = u ++ rest → ((p + u.length : Nat) : Int) = e → ks.drop idx = its l w (p : Int) →
    d = ((max M D + 1 : Nat) : Int) → M ≤ 2100 → p ≤ l.length → (∀ y ∈ u, ¬ ((l.length : Int) < y.f1)) → EvTo (fun k => chrysalislaw09_TreeKids.l0 k l e ks (p : Int) d (M : Int) (idx : Int)) true := by
  intro w
  induction w with
  | zero =>
    intro u rest D p idx M h hd he hk hdd hM hp hn
    obtain ⟨rfl, rfl⟩ := h.none
    have hix : ks.length ≤ idx := by
      have := congrArg List.length hk
      rw [List.length_drop, its_len] at this
      omega
    refine EvTo.step (fun k => by rw [chrysalislaw09_TreeKids.l0]) ?_
    refine EvTo.neg (by omega) (EvTo.pos (by simpa using he) (EvTo.pos ?_ known_B))
    rw [inc M (by omega), hdd]
    omega
  | succ w ih =>
    intro u rest D p idx M h hd he hk hdd hM hp hn
    generalize hw : w + 1 = w1 at h
    cases h with
    | nil => omega
    | cons x t v w' D1 D2 hx ht hv =>
      obtain rfl : w' = w := by omega
      have hix : idx < ks.length := by
        have := congrArg List.length hk
        rw [List.length_drop, its_len] at this
        omega
      rw [List.drop_eq_getElem_cons hix, its] at hk
      obtain ⟨hk1, hk2⟩ := List.cons.inj hk
      have hrd : rd ks (idx : Int) = (p : Int) := by
        rw [← hk1]
        simp [rd, List.getD_eq_getElem?_getD, List.getElem?_eq_getElem hix]
      have hone : Fo (x :: t) 1 (1 + D1) := by
        have := Fo.cons x t [] 0 D1 0 hx ht Fo.nil
        rw [List.append_nil] at this
        rwa [show max (1 + D1) 0 = 1 + D1 by omega] at this
      have hdrop : l.drop p = (x :: t) ++ (v ++ rest) := by rw [hd]; simp
      have hF : Tree.endF l.length (l.drop p) 1 = some (x :: t).length := by
        rw [hdrop]
        have := hone.endF (n := l.length) (fun y hy => hn y (by rcases List.mem_cons.1 hy with rfl | hy; simp; simp [hy])) (v ++ rest) 0 (by omega)
        simpa using this
      have hE : endI l (p : Int) = ((p + (x :: t).length : Nat) : Int) := by
        unfold endI
        rw [if_neg (by omega), Int.toNat_natCast, hF]; rfl
      have hlen := congrArg List.length hdrop
      rw [List.length_drop, List.length_append] at hlen
      have hS : subL l (p : Int) = x :: t := by
        unfold subL
        rw [hE, if_neg (by omega), Int.toNat_natCast, Int.toNat_natCast, sub_take (by omega), hdrop, List.take_left']
        rfl
      refine EvTo.step (fun k => by rw [chrysalislaw09_TreeKids.l0]) ?_
      refine EvTo.pos (by omega) (EvTo.pos (by omega) (EvTo.pos hrd ?_))
      have hSE := Sub_E l hl (p : Int)
      rw [hS] at hSE
      refine EvTo.bind hSE (EvTo.neg (by simp; omega) ?_)
      refine EvTo.bind (Depth_Fo hone (by omega)) ?_
      have hdp := hone.deep
      have hmx : mx (M : Int) ((1 + D1 : Nat) : Int) = ((max M (1 + D1) : Nat) : Int) := by unfold mx; split <;> omega
      rw [show wrap64 ((p : Int) + ((x :: t).length : Int)) = ((p + (x :: t).length : Nat) : Int) from by unfold wrap64; omega, hmx, inc idx (by omega)]
      refine ih v rest D2 (p + (x :: t).length) (idx + 1) (max M (1 + D1)) hv ?_ ?_ ?_ ?_ ?_ (by omega) (fun y hy => hn y (by simp [hy]))
      · rw [← List.drop_drop, hdrop, List.drop_left']
        rfl
      · rw [← he]
        simp only [List.length_cons, List.length_append]
        omega
      · rw [hk2, hE]
      · rw [hdd]
        congr 1
        omega
      · omega
theorem TreeKids (l : List S36) (i : Int) : ∃ k, chrysalislaw09_TreeKids.f k l i = some true := by
  apply EvTo.one
  unfold chrysalislaw09_TreeKids.f
  obtain ⟨x, hx, px⟩ := Light_E l
  refine EvTo.bind hx ?_
  cases x with
  | false => exact EvTo.neg (by simp) known_B
  | true =>
    have hl := (px rfl).1
    refine EvTo.pos rfl (EvTo.bind (End_E l hl i) ?_)
    by_cases c : endI l i < 0
    · have hK : EvTo (fun k => tree_Kids.f k l i) [] := by
        unfold tree_Kids.f
        exact EvTo.bind (End_E l hl i) (EvTo.pos c EvTo.now)
      have hs : subL l i = [] := by unfold subL; rw [if_pos c]
      have hS := Sub_E l hl i
      rw [hs] at hS
      exact EvTo.bind hK (EvTo.pos c (EvTo.pos rfl (EvTo.bind hS (EvTo.pos rfl known_B))))
    obtain ⟨j, m, rfl, hF, he, h1, h2⟩ := endI_some c
    have hj : j < l.length := by omega
    have hkk := endF_kids _ _ _ _ hF (Nat.le_refl 1)
    have hin : l[j] ∈ (l.drop j).take m := by
      obtain ⟨q, rfl⟩ : ∃ q, m = q + 1 := ⟨m - 1, by omega⟩
      rw [List.drop_eq_getElem_cons hj, List.take_succ_cons]
      exact List.mem_cons_self
    have hk := hkk _ hin
    have hK : EvTo (fun k => tree_Kids.f k l (j : Int)) (its l l[j].f1.toNat ((j + 1 : Nat) : Int)) := by
      unfold tree_Kids.f
      refine EvTo.bind (End_E l hl (j : Int)) ?_
      rw [inc j (by omega)]
      refine EvTo.neg c ?_
      have := Kids_its l hl j hj hk.1 (by omega) l[j].f1.toNat [] ((j + 1 : Nat) : Int) (by simp)
      simpa using this
    refine EvTo.bind hK (EvTo.neg c (EvTo.neg (by omega) (EvTo.neg (by rw [he]; omega) (EvTo.neg (by rw [he]; omega) (EvTo.pos (by omega) (EvTo.pos (by omega) ?_))))))
    rw [rd36 l j hj, its_len]
    refine EvTo.step (fun k => by rw [chrysalislaw09_TreeKids.j0]) ?_
    refine EvTo.neg (by simp; omega) ?_
    have hs : subL l (j : Int) = (l.drop j).take m := by
      unfold subL
      rw [if_neg c, he, Int.toNat_natCast, Int.toNat_natCast, sub_take h2]
    have hS := Sub_E l hl (j : Int)
    rw [hs] at hS
    refine EvTo.bind hS ?_
    have hlen : ((l.drop j).take m).length = m := by rw [List.length_take, List.length_drop]; omega
    obtain ⟨D, hD⟩ := Fo.of_end _ _ _ _ hF (Nat.le_refl 1)
    refine EvTo.bind (Depth_Fo hD (by omega)) ?_
    have hdrop0 : l.drop j = (l.drop j).take m ++ l.drop (j + m) := by rw [← List.drop_drop, List.take_append_drop]
    have hdrop : l[j] :: l.drop (j + 1) = (l.drop j).take m ++ l.drop (j + m) := (List.drop_eq_getElem_cons hj).symm.trans hdrop0
    clear hdrop0
    rw [inc j (by omega), he]
    have hdeep := hD.deep
    generalize hsd : (l.drop j).take m = s at *
    obtain ⟨x, t, D1, rfl, rfl, hx, ht⟩ := hD.one
    have hxl : l[j] = x := by
      exact (List.cons.inj hdrop).1
    have hdr : l.drop (j + 1) = t ++ l.drop (j + m) := by
      exact (List.cons.inj hdrop).2
    rw [hxl]
    have htl : t.length + 1 = m := by simpa using hlen
    have hkx := ht.len
    refine kids_loop l hl _ _ _ (by rw [its_len]; omega) x.f1.toNat t (l.drop (j + m)) D1 (j + 1) 0 0 ht hdr ?_ rfl ?_ (by omega) (by omega) (fun y hy => ?_)
    · congr 1; omega
    · congr 1; omega
    · have := hkk y (by simp [hy]); omega
end Go.Proofs.Ytclhaajlgmiilaa.Tree
namespace Go.Proofs.Ytclhaajlgmiilaa
open Go Go.RowKit Go.Proofs.YtclhaajlgmiilaaW.PrintWords Go.Proofs.Ytclhaajlgmiilaa.Q
theorem kids_row (A1 : Option Addr) (n1 c1 : Nat) (l1 : List S36) (i : Int) (w : World) (h1 : Kd.C k36 w A1 n1 l1) (b1 : (l1.length = n1 ∧ n1 ≤ c1) ∧ NodeB l1) (_ : (Lit.int .i64 i).wf = true) :
    Calls Try.prog 6 #[.slice A1 n1 c1, .int .i64 i] w fun e w' => e = .returned (.bool true) ∧ Below w.heap.size w w' := by
  obtain ⟨⟨rfl, hc1⟩, _⟩ := b1
  obtain ⟨k, hk⟩ := Tree.TreeKids l1 i
  exact chrysalislaw09_TreeKids.calls k A1 c1 l1 i true w h1 hc1 hk rfl
end Go.Proofs.Ytclhaajlgmiilaa
