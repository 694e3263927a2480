/- The plain law of OpsOrder. -/
import Derived.Test.YtmadbfahdnkecaaQ32
import Derived.Test.YtmadbfahdnkecaaOpsLaw
set_option linter.unusedVariables false
set_option linter.unusedSimpArgs false
namespace Go.Proofs.Ytmadbfahdnkecaa.Pure
open Go Go.RowKit Go.Proofs.YtmadbfahdnkecaaW.PrintWords Go.Proofs.Ytmadbfahdnkecaa.Q Go.Proofs.Ytmadbfahdnkecaa.Lex Go.Proofs.Ytmadbfahdnkecaa.Ops

theorem less_trans : ∀ a b c : List UInt8, Op.bytesLess a b = true → Op.bytesLess b c = true → Op.bytesLess a c = true
  | _, [], _, h, _ => by simp [Op.bytesLess] at h
  | _, _ :: _, [], _, h => by simp [Op.bytesLess] at h
  | [], _ :: _, _ :: _, _, _ => rfl
  | x :: a, y :: b, z :: c, h1, h2 => by
    simp only [Op.bytesLess, Bool.or_eq_true, Bool.and_eq_true, decide_eq_true_eq, beq_iff_eq] at h1 h2 ⊢
    rcases h1 with h1 | ⟨rfl, h1⟩
    · rcases h2 with h2 | ⟨rfl, _⟩
      · exact .inl (UInt8.lt_iff_toNat_lt.2 (by have := UInt8.lt_iff_toNat_lt.1 h1; have := UInt8.lt_iff_toNat_lt.1 h2; omega))
      · exact .inl h1
    · rcases h2 with h2 | ⟨rfl, h2⟩
      · exact .inl h2
      · exact .inr ⟨rfl, less_trans a b c h1 h2⟩
/-- Not less the other way: less, or the same. -/
theorem less_or : ∀ a b : List UInt8, (!Op.bytesLess b a) = (Op.bytesLess a b || a == b)
  | [], [] => rfl
  | [], _ :: _ => by simp [Op.bytesLess]
  | _ :: _, [] => by simp [Op.bytesLess]
  | x :: a, y :: b => by
    have ih := less_or a b
    rw [List.cons_beq_cons]
    simp only [Op.bytesLess]
    by_cases e : x = y
    · subst e
      have nl : ¬ x < x := fun q => by have := UInt8.lt_iff_toNat_lt.1 q; omega
      simpa [nl] using ih
    · have ne : ¬ y = x := fun q => e q.symm
      have n1 : x.toNat ≠ y.toNat := fun q => e (UInt8.toNat_inj.1 q)
      by_cases h : x < y
      · have : ¬ y < x := fun q => by have := UInt8.lt_iff_toNat_lt.1 q; have := UInt8.lt_iff_toNat_lt.1 h; omega
        simp [h, this, e, ne]
      · have : y < x := UInt8.lt_iff_toNat_lt.2 (by have h3 : ¬ x.toNat < y.toNat := (fun q => h (UInt8.lt_iff_toNat_lt.2 q)); omega)
        simp [h, this, e, ne]
theorem less_self : ∀ a : List UInt8, Op.bytesLess a a = false
  | [] => rfl
  | x :: a => by
    have nl : ¬ x < x := fun q => by have := UInt8.lt_iff_toNat_lt.1 q; omega
    simp [Op.bytesLess, nl, less_self a]

def elem (a : V) : S23 := ⟨a.1, a.2.1, a.2.2⟩
/-- One round: three values whose order is a line. -/
theorem round {x5 : List (List S23)} {x6 : Int} {a b c : V} {p q r e : Bool} (h2 : x6 < 2) (h0 : 0 ≤ x6) (hl : x6 < (x5.length : Int)) (hr : rd_L5 x5 x6 = [elem a, elem b, elem c])
    (hb : b.2.2.size ≤ 140737488355328) (hc : c.2.2.size ≤ 140737488355328)
    (e1 : twoS [60] a b = tr p) (e2 : twoS [60] b c = tr q) (e3 : twoS [60] a c = tr r) (e4 : twoS [60, 61] a b = tr (p || e)) (e5 : twoS [61, 61] a b = tr e) (e6 : twoS [33, 61] a b = tr (!e))
    (ht : p = true → q = true → r = true) (hx : p = true → e = false)
    (next : EvTo (fun k => chrysalislaw17_OpsOrder.l0 k x5 (wrap64 (x6 + 1))) true) : EvTo (fun k => chrysalislaw17_OpsOrder.l0 k x5 x6) true := by
  refine EvTo.step (fun k => by rw [chrysalislaw17_OpsOrder.l0]) ?_
  simp only [hr]
  refine EvTo.pos h2 (EvTo.pos h0 (EvTo.pos hl ?_))
  refine EvTo.pos (by show (0 : Int) < (3 : Int); decide) (EvTo.pos (by show (1 : Int) < (3 : Int); decide) ?_)
  have f1 := two_E ⟨#[60]⟩ a b hb
  have f2 := two_E ⟨#[60]⟩ b c hc
  have f3 := two_E ⟨#[60]⟩ a c hc
  have f4 := two_E ⟨#[60, 61]⟩ a b hb
  have f5 := two_E ⟨#[61, 61]⟩ a b hb
  have f6 := two_E ⟨#[33, 61]⟩ a b hb
  rw [show L ⟨#[60]⟩ = [60] from rfl, e1] at f1
  rw [show L ⟨#[60]⟩ = [60] from rfl, e2] at f2
  rw [show L ⟨#[60]⟩ = [60] from rfl, e3] at f3
  rw [show L ⟨#[60, 61]⟩ = [60, 61] from rfl, e4] at f4
  rw [show L ⟨#[61, 61]⟩ = [61, 61] from rfl, e5] at f5
  rw [show L ⟨#[33, 61]⟩ = [33, 61] from rfl, e6] at f6
  refine EvTo.bind f1 ?_
  refine EvTo.pos (by show (2 : Int) < (3 : Int); decide) ?_
  refine EvTo.bind f2 (EvTo.bind f3 (EvTo.bind f4 (EvTo.bind f5 (EvTo.bind f6 ?_))))
  clear f1 f2 f3 f4 f5 f6 e1 e2 e3 e4 e5 e6
  refine EvTo.pos (by show wrap64 (wrap64 (wrap64 (wrap64 (wrap64 ((0 : Int) + 0) + 0) + 0) + 0) + 0) = 0; simp [wrap64]) ?_
  cases p <;> cases q <;> cases r <;> cases e <;>
    first
    | exact absurd (ht rfl rfl) (by decide)
    | exact absurd (hx rfl) (by decide)
    | (repeat (first | exact next | (refine EvTo.pos ?_ ?_; focus (simp [tr, whole, wrap64]; done)) | (refine EvTo.neg ?_ ?_; focus (simp [tr, whole, wrap64]; done))))
theorem OpsOrder (a0 a1 a2 : Int) (b0 b1 b2 : ByteArray) : ∃ k, chrysalislaw17_OpsOrder.f k a0 a1 a2 b0 b1 b2 = some true := by
  apply EvTo.one
  unfold chrysalislaw17_OpsOrder.f
  have known : ∀ x, x = true → EvTo (fun k => chrysalislaw17_OpsOrder.j0 k x a0 a1 a2 b0 b1 b2) true := fun x hx =>
    EvTo.step (fun k => by rw [chrysalislaw17_OpsOrder.j0]) (EvTo.pos hx known_B)
  by_cases c0 : (b0.size : Int) > 1000
  · exact EvTo.pos c0 (known _ rfl)
  refine EvTo.neg c0 ?_
  by_cases c1 : (b1.size : Int) > 1000
  · exact EvTo.pos c1 (known _ rfl)
  refine EvTo.neg c1 ?_
  by_cases c2 : (b2.size : Int) > 1000
  · exact known _ (decide_eq_true c2)
  refine EvTo.step (fun k => by rw [chrysalislaw17_OpsOrder.j0]) ?_
  refine EvTo.neg (by simpa using c2) ?_
  simp only [chrysalisref17_Int.f, chrysalisref17_Text.f, Option.bind_some]
  have done : EvTo (fun k => chrysalislaw17_OpsOrder.l0 k [[elem (int a0), elem (int a1), elem (int a2)], [elem (txt b0), elem (txt b1), elem (txt b2)]] 2) true :=
    EvTo.step (fun k => by rw [chrysalislaw17_OpsOrder.l0]) (EvTo.neg (by decide) known_B)
  have second : EvTo (fun k => chrysalislaw17_OpsOrder.l0 k [[elem (int a0), elem (int a1), elem (int a2)], [elem (txt b0), elem (txt b1), elem (txt b2)]] 1) true :=
    round (a := txt b0) (b := txt b1) (c := txt b2) (p := lt b0 b1) (q := lt b1 b2) (r := lt b0 b2) (e := L b0 == L b1) (by decide) (by decide) (by show (1 : Int) < (2 : Int); decide) rfl
      (by show b1.size ≤ _; omega) (by show b2.size ≤ _; omega) rfl rfl rfl (by show tr (!lt b1 b0) = _; rw [show (!lt b1 b0) = (lt b0 b1 || L b0 == L b1) from less_or _ _])
      (by show tr (sameV (txt b0) (txt b1)) = _; rfl) (by show tr (!sameV (txt b0) (txt b1)) = _; rfl) (less_trans _ _ _)
      (fun h => by
        cases he : L b0 == L b1 with
        | false => rfl
        | true =>
          have h' : Op.bytesLess (L b0) (L b1) = true := h
          rw [eq_of_beq he, less_self] at h'
          exact absurd h' (by decide))
      (by rw [show wrap64 ((1 : Int) + 1) = 2 by simp [wrap64]]; exact done)
  exact round (a := int a0) (b := int a1) (c := int a2) (p := decide (a0 < a1)) (q := decide (a1 < a2)) (r := decide (a0 < a2)) (e := decide (a0 = a1)) (by decide) (by decide) (by show (0 : Int) < (2 : Int); decide) rfl
    (by show (0 : Nat) ≤ _; omega) (by show (0 : Nat) ≤ _; omega) rfl rfl rfl
    (by
      show tr (decide (a0 ≤ a1)) = _
      congr 1
      by_cases h : a0 < a1
      · simp [h]; omega
      · by_cases h' : a0 = a1
        · simp [h']
        · simp [h, h']; omega)
    (by
      show tr (sameV (int a0) (int a1)) = _
      congr 1
      by_cases h : a0 = a1 <;> simp [sameV, int, h])
    (by
      show tr (!sameV (int a0) (int a1)) = _
      congr 1
      by_cases h : a0 = a1 <;> simp [sameV, int, h])
    (fun h1 h2 => decide_eq_true (by have := of_decide_eq_true h1; have := of_decide_eq_true h2; omega))
    (fun h1 => decide_eq_false (by have := of_decide_eq_true h1; omega))
    (by rw [show wrap64 ((0 : Int) + 1) = 1 by simp [wrap64]]; exact second)
end Go.Proofs.Ytmadbfahdnkecaa.Pure
