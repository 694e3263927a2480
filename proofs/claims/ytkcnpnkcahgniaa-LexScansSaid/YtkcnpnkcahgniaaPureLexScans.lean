/- The plain law of LexScans. -/
import Derived.Test.YtkcnpnkcahgniaaQ13
import Derived.Test.YtkcnpnkcahgniaaLexRef3
import Derived.Test.YtkcnpnkcahgniaaLexSame
set_option linter.unusedVariables false
set_option linter.unusedSimpArgs false
namespace Go.Proofs.Ytkcnpnkcahgniaa.Pure
open Go Go.RowKit Go.Proofs.YtkcnpnkcahgniaaW.PrintWords Go.Proofs.Ytkcnpnkcahgniaa.Q Go.Proofs.Ytkcnpnkcahgniaa.Lex

theorem scanOf_len (s : ByteArray) : (scanOf s).1.length ≤ 8192 := by
  unfold scanOf
  split
  · rename_i h
    have hk := skp_len (L s) false
    rw [L_size] at h
    cases hx : Lex.scan (L s) with
    | error e => obtain ⟨e, r⟩ := e; simp [scanV]
    | ok ts =>
      have hc := toks_rem _ _ _ hx
      simp only [scanV, List.nil_append, List.length_map]
      omega
  · simp
theorem same_self (l : List S29) (h : l.length ≤ 8192) : EvTo (fun k => chrysalisref08_Same.f k l l true) true :=
  Same_f l l true rfl (by omega) (fun i _ _ => alike_refl true _)
theorem scans_l (s : ByteArray) : ∀ (m i : Nat) (x : List S29), x.length = m + i → x.length ≤ 8192 → EvTo (fun k => chrysalislaw08_LexScans.l0 k s x (scanOf s).1 true (i : Int)) true := by
  intro m
  induction m with
  | zero =>
    intro i x h1 h2
    refine EvTo.step (fun k => by rw [chrysalislaw08_LexScans.l0]) ?_
    refine EvTo.neg (by omega) (EvTo.bind (Scan_f s) (EvTo.pos rfl (EvTo.bind (same_self _ (scanOf_len s)) (EvTo.pos rfl known_B))))
  | succ m ih =>
    intro i x h1 h2
    refine EvTo.step (fun k => by rw [chrysalislaw08_LexScans.l0]) ?_
    refine EvTo.pos (by omega) (EvTo.pos (by omega) ?_)
    rw [show wrap64 ((i : Int) + 1) = ((i + 1 : Nat) : Int) by rw [w64 _ (by omega)]; omega]
    exact ih (i + 1) _ (by rw [List.length_set]; omega) (by rw [List.length_set]; omega)
theorem LexScans : chrysalislaw08_LexScans.Pure := by
  intro a0 ha
  apply EvTo.one (F := fun k => chrysalislaw08_LexScans.f k a0)
  unfold chrysalislaw08_LexScans.f
  by_cases h : (a0.size : Int) > 20000
  · exact EvTo.pos h known_B
  refine EvTo.neg h (EvTo.bind (Scan_f a0) (EvTo.bind (rScan_f a0) (EvTo.bind (same_self _ (scanOf_len a0)) (EvTo.pos rfl (EvTo.pos rfl ?_)))))
  rw [show ((scanOf a0).2.2 == (scanOf a0).2.2) = true from beq_self_eq_true _]
  refine EvTo.step (fun k => by rw [chrysalislaw08_LexScans.j0]) ?_
  exact scans_l a0 (scanOf a0).1.length 0 _ (by omega) (scanOf_len a0)
end Go.Proofs.Ytkcnpnkcahgniaa.Pure
