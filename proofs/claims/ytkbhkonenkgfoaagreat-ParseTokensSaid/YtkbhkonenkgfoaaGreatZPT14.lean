/- Walks over functions of the program, words for them, and what the functions come to; of each text only what this claim uses; no condition. -/
import Derived.Test.YtkbhkonenkgfoaaGreatZPT0
import Derived.Test.YtkbhkonenkgfoaaGreatZPT1
import Derived.Test.YtkbhkonenkgfoaaGreatZPT3
import Derived.Test.YtkbhkonenkgfoaaGreatZPT4
import Derived.Test.YtkbhkonenkgfoaaGreatZPT7
import Derived.Test.YtkbhkonenkgfoaaGreatZPT11
import Derived.Test.YtkbhkonenkgfoaaGreatZPT13
section
set_option linter.unusedVariables false
set_option linter.unusedSimpArgs false
namespace Go.Proofs.YtkbhkonenkgfoaaGreat.Q
open Go.RowKit Go.Proofs.YtkbhkonenkgfoaaGreatW.PrintWords Go.Proofs.YtkbhkonenkgfoaaGreatW.PrintLast Go.Proofs.YtkbhkonenkgfoaaGreatW.PrintMore
def iH.f (k : Nat) (l0 : List S37) : Option (List S29 × Int × Int) :=
 (aX.f (fam k) k l0 0 false).bind fun t => if t.2.2 = true then ((gJ.f l0 t.2.1 t.2.2).bind fun p => some (([] : List S29), 10, p.1))
  else if t.2.1 < (l0.length : Int) then ((gJ.f l0 t.2.1 t.2.2).bind fun p => some (([] : List S29), 10, p.1))
  else (dA.f k t.1).bind fun c => if c.1 = 0 then some (t.1, 0, 0) else some (([] : List S29), c.1, 0)
theorem iH.mono (a0 : List S37) (k : Nat) : LeO (iH.f k a0) (iH.f (k + 1) a0) := by
 unfold iH.f
 repeat' first
 | exact aX.mono (vO k) _ _ _ k
 | exact dA.mono _ k
 | exact LeO.refl _
 | exact LeO.none _
 | refine LeO.ite ?_ ?_
 | refine LeO.bind ?_ (fun _ => ?_)
set_option maxHeartbeats 8000000 in
set_option maxRecDepth 100000 in
theorem iH.calls (k : Nat) (A0 : Option Addr) (c0 : Nat) (l0 : List S37) (r1 : List S29) (r2 : Int) (r3 : Int) (w : World) (hr0 : Kd.C k37 w A0 l0.length l0) (hc0 : l0.length ≤ c0) (h : iH.f k l0 = some (r1, r2, r3)) :
 Calls Tryz.prog 10 #[.slice A0 l0.length c0] w fun e w' => ∃ v0_ : Value, e = .returned (.tuple #[v0_, .int .i64 r2, .int .i64 r3]) ∧ Kd.R k29 29 w' w.heap.size (fun _ => True) v0_ r1 ∧ Below w.heap.size w w' := by
 have HR0 := af.mk hr0
 have HB := af.mk (Below.refl w.heap.size w)
 clear hr0 hc0
 unfold iH.f at h
 obtain ⟨⟨t, u, b⟩, hm, h⟩ := Option.bind_eq_some_iff.mp h
 have AM := af.mk hm
 have HQ := af.mk h
 clear hm h
 have hu40 := Tryz.underlying40
 go_enter Tryz.func10, Tryz.ntmps10
 go_upto_region 3 with (first
  | ((with_reducible refine bH (N := 11) rfl ?_); refine fA ?hg (N := 11) ?hd (cs := #[.slice A0 l0.length c0, .int .i64 0, .bool false]) (t := 40) ?hr ?_; (case hd => rfl); (case hg => rfl); (case hr => first | (go_simp; done) | (go_simp; rfl)); intro g hg w1 hbox hb; have HI1 := af.mk (show dn w w1 g l0 0 false from ⟨A0, c0, hbox, by rw [hg]; exact Nat.le_refl _, HR0.out⟩); have HB1 := af.mk hb; clear hbox hb hg)
  | ((with_reducible refine mW (f := 14) rfl ?_); refine kQ (some 13) rfl rfl Tryz.func14 (by kernel_rfl) rfl #[.pointer (some ⟨g, 0, none⟩)] rfl Z17 ?_; (with_reducible refine (aX.calls (fam k) (vN k) k g l0 0 false t u b w _ ?side1 ?side2 AM.out).mono ?_); (case side1 => exact HI1.out); (case side2 => exact HB1.out); rintro e w2 ⟨v, rfl, ho, hi, hb, hk⟩; refine ⟨_, rfl, ?_⟩; have HO := af.mk (Kd.iw ho HB1.out.size); have HI2 := af.mk hi; have HB2 := af.mk hb; clear ho hi hb hk))
 obtain ⟨ASz, cSz, HGz, hgz, HSz⟩ := HI2.out
 have hcz0 := kC HGz
 have hcz1 := kz HGz
 have hcz2 := kw HGz
 clear HGz hgz HSz
 have h := HQ.out
 clear HQ
 dsimp only at h
 by_cases c1 : b = true
 ·rw [if_pos c1] at h
  subst c1
  obtain ⟨⟨p1, p2, p3⟩, hp, h⟩ := Option.bind_eq_some_iff.mp h
  have AP := af.mk hp
  clear hp
  cases h
  go_wp2_with (first | ((with_reducible refine mW (f := 15) rfl ?_); refine kQ (some 28) rfl rfl Tryz.func15 (by kernel_rfl) rfl #[.pointer (some ⟨g, 0, none⟩)] rfl Z17 ?_; (with_reducible refine (gJ.calls g l0 u true p1 p2 p3 w _ ?side1 ?side2 AP.out).mono ?_); (case side1 => exact HI2.out); (case side2 => exact HB2.out); rintro e w3 ⟨rfl, hi, hb, hk⟩; refine ⟨_, rfl, ?_⟩; have HB3 := af.mk hb; clear hi hb hk))
  go_ret3
  exact ⟨_, rfl, Kd.nR _ _ _ _ _, HB3.out⟩
 rw [if_neg c1] at h
 replace c1 := Bool.eq_false_iff.mpr c1
 subst c1
 by_cases c2 : u < (l0.length : Int)
 ·rw [if_pos c2] at h
  have c2b : decide (u < (l0.length : Int)) = true := decide_eq_true c2
  clear c2
  obtain ⟨⟨p1, p2, p3⟩, hp, h⟩ := Option.bind_eq_some_iff.mp h
  have AP := af.mk hp
  clear hp
  cases h
  go_wp2_with (first | ((with_reducible refine mW (f := 15) rfl ?_); refine kQ (some 28) rfl rfl Tryz.func15 (by kernel_rfl) rfl #[.pointer (some ⟨g, 0, none⟩)] rfl Z17 ?_; (with_reducible refine (gJ.calls g l0 u false p1 p2 p3 w _ ?side1 ?side2 AP.out).mono ?_); (case side1 => exact HI2.out); (case side2 => exact HB2.out); rintro e w3 ⟨rfl, hi, hb, hk⟩; refine ⟨_, rfl, ?_⟩; have HB3 := af.mk hb; clear hi hb hk))
  go_ret3
  exact ⟨_, rfl, Kd.nR _ _ _ _ _, HB3.out⟩
 rw [if_neg c2] at h
 have c2b : decide (u < (l0.length : Int)) = false := decide_eq_false c2
 clear c2
 obtain ⟨⟨p1, p2⟩, hp, h⟩ := Option.bind_eq_some_iff.mp h
 have AP := af.mk hp
 clear hp
 obtain ⟨Ao, co, eo⟩ := Kd.fG HO.out
 subst eo
 dsimp only at h
 have HC := af.mk (Kd.dU HO.out).2.2
 have HL := af.mk (Kd.dU HO.out).2.1
 by_cases c3 : p1 = 0
 ·rw [if_pos c3] at h
  have c3b0 : (p1 == 0) = true := beq_iff_eq.mpr c3
  have c3b1 : (p1 != 0) = false := bne_eq_false_iff_eq.mpr c3
  clear c3
  simp only [Option.some.injEq, Prod.mk.injEq] at h
  obtain ⟨h1, h2, h3⟩ := h
  subst h1
  subst h2
  subst h3
  go_wp2_with (first | ((with_reducible refine mW (f := 16) rfl ?_); refine kQ (some 31) rfl rfl Tryz.func16 (by kernel_rfl) rfl #[.slice Ao t.length co] rfl Z17 ?_; (with_reducible refine (dA.calls k _ _ t p1 p2 _ ?side1 ?side2 AP.out).mono ?_); (case side1 => exact HC.out); (case side2 => exact HL.out); rintro e w3 ⟨rfl, hb⟩; refine ⟨_, rfl, ?_⟩; have HB3 := af.mk (aA HB2.out hb); have HO3 := af.mk (Kd.gW HO.out hb); clear hb))
  go_ret3
  exact ⟨_, rfl, HO3.out, HB3.out⟩
 rw [if_neg c3] at h
 have c3b0 : (p1 == 0) = false := beq_eq_false_iff_ne.mpr c3
 have c3b1 : (p1 != 0) = true := bne_iff_ne.mpr c3
 clear c3
 simp only [Option.some.injEq, Prod.mk.injEq] at h
 obtain ⟨h1, h2, h3⟩ := h
 subst h1
 subst h2
 subst h3
 go_wp2_with (first | ((with_reducible refine mW (f := 16) rfl ?_); refine kQ (some 31) rfl rfl Tryz.func16 (by kernel_rfl) rfl #[.slice Ao t.length co] rfl Z17 ?_; (with_reducible refine (dA.calls k _ _ t p1 p2 _ ?side1 ?side2 AP.out).mono ?_); (case side1 => exact HC.out); (case side2 => exact HL.out); rintro e w3 ⟨rfl, hb⟩; refine ⟨_, rfl, ?_⟩; have HB3 := af.mk (aA HB2.out hb); have HO3 := af.mk (Kd.gW HO.out hb); clear hb))
 go_ret3
 exact ⟨_, rfl, Kd.nR _ _ _ _ _, HB3.out⟩
end Go.Proofs.YtkbhkonenkgfoaaGreat.Q
end
section
namespace Go.Proofs.YtkbhkonenkgfoaaGreat.Q
open Go.RowKit Go.Proofs.YtkbhkonenkgfoaaGreatW.PrintWords Go.Proofs.YtkbhkonenkgfoaaGreatW.PrintLast Go.Proofs.YtkbhkonenkgfoaaGreatW.PrintMore
attribute [local go_sem] dJ dH dS dR cZ cO dI dG
set_option linter.unusedVariables false
set_option linter.unusedSimpArgs false
/-! ### chrysalisref08_blank: function 55 -/
end Go.Proofs.YtkbhkonenkgfoaaGreat.Q
end
section
namespace Go.Proofs.YtkbhkonenkgfoaaGreat.Q
open Go.RowKit Go.Proofs.YtkbhkonenkgfoaaGreatW.PrintWords Go.Proofs.YtkbhkonenkgfoaaGreatW.PrintLast Go.Proofs.YtkbhkonenkgfoaaGreatW.PrintMore
attribute [local go_sem] dJ dH dS dR cZ cO dI dG
set_option linter.unusedVariables false
set_option linter.unusedSimpArgs false
/-! ### chrysalisref08_skip: function 21 -/
end Go.Proofs.YtkbhkonenkgfoaaGreat.Q
end
section
namespace Go.Proofs.YtkbhkonenkgfoaaGreat.Q
open Go.RowKit Go.Proofs.YtkbhkonenkgfoaaGreatW.PrintWords Go.Proofs.YtkbhkonenkgfoaaGreatW.PrintLast Go.Proofs.YtkbhkonenkgfoaaGreatW.PrintMore
attribute [local go_sem] dJ dH dS dR cZ cO dI dG
set_option linter.unusedVariables false
set_option linter.unusedSimpArgs false
/-! ### chrysalisref08_number: function 60 -/
end Go.Proofs.YtkbhkonenkgfoaaGreat.Q
end
section
namespace Go.Proofs.YtkbhkonenkgfoaaGreat.Q
open Go.RowKit Go.Proofs.YtkbhkonenkgfoaaGreatW.PrintWords Go.Proofs.YtkbhkonenkgfoaaGreatW.PrintLast Go.Proofs.YtkbhkonenkgfoaaGreatW.PrintMore
attribute [local go_sem] dJ dH dS dR cZ cO dI dG
set_option linter.unusedVariables false
set_option linter.unusedSimpArgs false
/-! ### chrysalisref08_unquoted: function 61 -/
end Go.Proofs.YtkbhkonenkgfoaaGreat.Q
end
section
namespace Go.Proofs.YtkbhkonenkgfoaaGreat.Q
open Go.RowKit Go.Proofs.YtkbhkonenkgfoaaGreatW.PrintWords Go.Proofs.YtkbhkonenkgfoaaGreatW.PrintLast Go.Proofs.YtkbhkonenkgfoaaGreatW.PrintMore
attribute [local go_sem] dJ dH dS dR cZ cO dI dG
set_option linter.unusedVariables false
set_option linter.unusedSimpArgs false
/-! ### chrysalisref08_mark: function 62 -/
end Go.Proofs.YtkbhkonenkgfoaaGreat.Q
end
section
namespace Go.Proofs.YtkbhkonenkgfoaaGreat.Q
open Go.RowKit Go.Proofs.YtkbhkonenkgfoaaGreatW.PrintWords Go.Proofs.YtkbhkonenkgfoaaGreatW.PrintLast Go.Proofs.YtkbhkonenkgfoaaGreatW.PrintMore
attribute [local go_sem] dJ dH dS dR cZ cO dI dG
set_option linter.unusedVariables false
set_option linter.unusedSimpArgs false
/-! ### je: function 6 -/
def je.f (k : Nat) (a0 : ByteArray) : Option ((List (S29)) × Int × Int) := (gY.f k a0).bind fun bt791 => (if bt791.2.1 = 0 then ((iH.f k bt791.1).bind fun bt796 => (some (bt796.1, bt796.2.1, bt796.2.2))) else (some (([] : List (S29)), bt791.2.1, bt791.2.2)))
theorem je.mono : ∀ a0 k, LeO (je.f k a0) (je.f (k + 1) a0) := by
 intro a0 k
 unfold je.f
 have m0 := gY.mono
 have m1 := iH.mono
 exact yL
set_option maxHeartbeats 8000000 in
set_option maxRecDepth 100000 in
theorem je.calls (k : Nat) (a0 : ByteArray) (r1 : List (S29)) (r2 : Int) (r3 : Int) (w : World) (h : je.f k a0 = some (r1, r2, r3)) :
 Calls Tryz.prog 6 #[.string a0] w fun e w' => ∃ v0_ : Value, e = .returned (.tuple #[v0_, .int .i64 r2, .int .i64 r3]) ∧ Kd.R k29 29 w' w.heap.size (fun _ => True) v0_ r1 ∧ Below w.heap.size w w' := by
 have HB := af.mk (Below.refl w.heap.size w)
 have H := h
 clear h
 unfold je.f at H
 revert H
 refine yB3 fun t791 t792 t793 A2 H => ?_
 try dsimp only at H
 revert H
 refine aU (fun c3b0 c3b1 H => ?_) fun c3 c3b0 c3b1 H => ?_
 ·revert H
  refine yB3 fun t796 t797 t798 A4 H => ?_
  try dsimp only at H
  simp only [Option.some.injEq, Prod.mk.injEq] at H
  obtain ⟨rfl, rfl, rfl⟩ := H
  go_enter Tryz.func6, Tryz.ntmps6
  go_wp2_with (first | ((with_reducible refine gC 12 rfl ?_); refine gM 12 10 rfl Tryz.func12 (gY.calls k a0 t791 t792 t793 _ A2.out) ?_; rintro _ w5 ⟨v794, rfl, ho0, hb⟩; refine ⟨_, rfl, yA2 (Kd.iw ho0 (bD (bT HB))) (aA (bT HB) hb) ?_⟩; clear HB hb ho0; intro HO795 HB; obtain ⟨Ao6, co6, rfl⟩ := Kd.fG HO795.out) | ((with_reducible refine gC 10 rfl ?_); refine gM 10 19 rfl Tryz.func10 (iH.calls k _ _ t791 t796 t797 t798 _ (by repeat (first | exact (Kd.dU HO795.out).2.2 | (with_reducible refine Kd.jR ?_ _) | (with_reducible refine Kd.jQ ?_ _) | (with_reducible refine Kd.kV ?_))) ((Kd.dU HO795.out).2.1) A4.out) ?_; rintro _ w7 ⟨v799, rfl, ho0, hb⟩; refine ⟨_, rfl, yA3 (Kd.gW (qR HO795) hb) (Kd.iw ho0 (bD (bT HB))) (aA (bT HB) hb) ?_⟩; clear HO795 HB hb ho0; intro HO795 HO800 HB))
  go_ret3
  exact ⟨_, eT, qR HO800, bT HB⟩
 simp only [Option.some.injEq, Prod.mk.injEq] at H
 obtain ⟨rfl, rfl, rfl⟩ := H
 go_enter Tryz.func6, Tryz.ntmps6
 go_wp2_with (first | ((with_reducible refine gC 12 rfl ?_); refine gM 12 10 rfl Tryz.func12 (gY.calls k a0 t791 t792 t793 _ A2.out) ?_; rintro _ w8 ⟨v794, rfl, ho0, hb⟩; refine ⟨_, rfl, yA2 (Kd.iw ho0 (bD (bT HB))) (aA (bT HB) hb) ?_⟩; clear HB hb ho0; intro HO795 HB))
 go_ret3
 exact ⟨_, eT, Z7, bT HB⟩
/-! ### bP: function 5 -/
def bP.f (k : Nat)  : Option (Bool) := (je.f k (⟨#[109, 111, 100, 117, 108, 101, 32, 109, 32, 49, 59, 32, 102, 110, 32, 102, 40, 97, 41, 32, 123, 32, 114, 101, 116, 117, 114, 110, 32, 97, 32, 43, 32, 49, 32, 42, 32, 50, 59, 32, 125]⟩ : ByteArray)).bind fun bt801 => ((je.f k (⟨#[109, 111, 100, 117, 108, 101, 32, 109, 32, 49, 59, 32, 102, 110, 32, 102, 40, 41, 32, 123, 32, 49, 32, 61, 32, 50, 59, 32, 125]⟩ : ByteArray)).bind fun bt806 => (if bt801.2.1 = 0 then (if (bt801.1.length : Int) = 10 then (if 5 < (bt801.1.length : Int) then (if ((ax bt801.1 5).f4).toList = ([43] : List UInt8) then (if 7 < (bt801.1.length : Int) then (if ((ax bt801.1 7).f4).toList = ([42] : List UInt8) then (if 0 < (bt801.1.length : Int) then (if ((ax bt801.1 0).f2).toList = ([109] : List UInt8) then (if ((ax bt801.1 0).f3) = 1 then (if bt806.2.1 = 10 then (some (bt806.2.2 == 23)) else (some false)) else (some false)) else (some false)) else (none)) else (some false)) else (none)) else (some false)) else (none)) else (some false)) else (some false)))
theorem bP.mono : ∀ k, LeO (bP.f k ) (bP.f (k + 1) ) := by
 intro  k
 unfold bP.f
 have m0 := je.mono
 exact yL
theorem bP.more : ∀ (d k : Nat) (r : Bool), bP.f k = some r → bP.f (k + d) = some r
 | 0, _, _, h => h
 | d + 1, k, r, h => bP.mono (k + d) r (bP.more d k r h)
set_option maxRecDepth 100000 in
theorem bP.at : bP.f 300 = some true := by kernel_rfl
theorem bP.IM (k : Nat) (r : Bool) (h : bP.f k = some r) : r = true := by
 have h1 := bP.more 300 k r h
 have h2 := bP.more k 300 true bP.at
 rw [Nat.add_comm 300 k, h1] at h2
 exact Option.some.inj h2
set_option maxHeartbeats 8000000 in
set_option maxRecDepth 100000 in
theorem bP.calls (k : Nat)  (r : Bool) (w : World) (h : bP.f k  = some r) :
 Calls Tryz.prog 5 #[] w fun e w' => e = .returned (.bool r) ∧ Below w.heap.size w w' := by
 have HB := af.mk (Below.refl w.heap.size w)
 have HR := af.mk (bP.IM k r h)
 have H := h
 clear h
 unfold bP.f at H
 revert H
 refine yB3 fun t801 t802 t803 A1 H => ?_
 try dsimp only at H
 revert H
 refine yB3 fun t806 t807 t808 A2 H => ?_
 try dsimp only at H
 revert H
 refine aU (fun c3b0 c3b1 H => ?_) fun c3 c3b0 c3b1 H => ?_
 ·revert H
  refine aU (fun c4b0 c4b1 H => ?_) fun c4 c4b0 c4b1 H => ?_
  ·revert H
   refine kP (fun c5 c5b0 H => ?_) fun c5 H => ?_
   ·have c5b1 : decide (5 < t801.length) = true := decide_eq_true (by omega)
    clear c5
    revert H
    refine aU (fun c6b0 c6b1 H => ?_) fun c6 c6b0 c6b1 H => ?_
    ·revert H
     refine kP (fun c7 c7b0 H => ?_) fun c7 H => ?_
     ·have c7b1 : decide (7 < t801.length) = true := decide_eq_true (by omega)
      clear c7
      revert H
      refine aU (fun c8b0 c8b1 H => ?_) fun c8 c8b0 c8b1 H => ?_
      ·revert H
       refine kP (fun c9 c9b0 H => ?_) fun c9 H => ?_
       ·have c9b1 : decide (0 < t801.length) = true := decide_eq_true (by omega)
        clear c9
        revert H
        refine aU (fun c10b0 c10b1 H => ?_) fun c10 c10b0 c10b1 H => ?_
        ·revert H
         refine aU (fun c11b0 c11b1 H => ?_) fun c11 c11b0 c11b1 H => ?_
         ·revert H
          refine aU (fun c12b0 c12b1 H => ?_) fun c12 c12b0 c12b1 H => ?_
          ·obtain rfl := Option.some.inj H
           go_enter Tryz.func5, Tryz.ntmps5
           go_wp2_with (first | ((with_reducible refine gC 6 rfl ?_); refine gM 6 8 rfl Tryz.func6 (je.calls k (⟨#[109, 111, 100, 117, 108, 101, 32, 109, 32, 49, 59, 32, 102, 110, 32, 102, 40, 97, 41, 32, 123, 32, 114, 101, 116, 117, 114, 110, 32, 97, 32, 43, 32, 49, 32, 42, 32, 50, 59, 32, 125]⟩ : ByteArray) t801 t802 t803 _ A1.out) ?_; rintro _ w13 ⟨v804, rfl, ho0, hb⟩; refine ⟨_, rfl, yA2 (Kd.iw ho0 (bD (bT HB))) (aA (bT HB) hb) ?_⟩; clear HB hb ho0; intro HO805 HB) | ((with_reducible refine gC 6 rfl ?_); refine gM 6 13 rfl Tryz.func6 (je.calls k (⟨#[109, 111, 100, 117, 108, 101, 32, 109, 32, 49, 59, 32, 102, 110, 32, 102, 40, 41, 32, 123, 32, 49, 32, 61, 32, 50, 59, 32, 125]⟩ : ByteArray) t806 t807 t808 _ A2.out) ?_; rintro _ w14 ⟨v809, rfl, ho0, hb⟩; refine ⟨_, rfl, yA3 (Kd.qx (qR HO805) (Kd.vZ ho0) hb) (Kd.iw (Kd.vY ho0 (Kd.zC (qR HO805))) (bD (bT HB))) (aA (bT HB) hb) ?_⟩; clear HO805 HB hb ho0; intro HO805 HO810 HB; obtain ⟨Ao15, co15, rfl⟩ := Kd.fG HO805.out; have p811 : 0 ≤ (5 : Int) := (by omega); have q811 : 5 < (t801.length : Int) := of_decide_eq_true aT; obtain ⟨ad811, e811, hx811_0, hx811_1, hx811_2, hx811_3, hx811_4⟩ := iO (Kd.dU HO805.out).2.2 5 p811 q811; cases e811; (try simp only [show (5 : Int).toNat = 5 from rfl, Nat.reduceMul, Nat.reduceEqDiff, Go.Addr.add, ↓reduceIte] at hx811_0); (try simp only [show (5 : Int).toNat = 5 from rfl, Nat.reduceMul, Nat.reduceEqDiff, Go.Addr.add, ↓reduceIte] at hx811_1); (try simp only [show (5 : Int).toNat = 5 from rfl, Nat.reduceMul, Nat.reduceEqDiff, Go.Addr.add, ↓reduceIte] at hx811_2); (try simp only [show (5 : Int).toNat = 5 from rfl, Nat.reduceMul, Nat.reduceEqDiff, Go.Addr.add, ↓reduceIte] at hx811_3); (try simp only [show (5 : Int).toNat = 5 from rfl, Nat.reduceMul, Nat.reduceEqDiff, Go.Addr.add, ↓reduceIte] at hx811_4); have qi811 : (5 < t801.length) = True := eq_true (by omega); (try rw [show ((5 : Int)).toNat = 5 from rfl] at hx811_0); (try rw [show 5 * 5 = 25 from rfl] at hx811_0); (try rw [show ((5 : Int)).toNat = 5 from rfl] at hx811_1); (try rw [show 5 * 5 = 25 from rfl] at hx811_1); (try rw [show ((5 : Int)).toNat = 5 from rfl] at hx811_2); (try rw [show 5 * 5 = 25 from rfl] at hx811_2); (try rw [show ((5 : Int)).toNat = 5 from rfl] at hx811_3); (try rw [show 5 * 5 = 25 from rfl] at hx811_3); (try rw [show ((5 : Int)).toNat = 5 from rfl] at hx811_4); (try rw [show 5 * 5 = 25 from rfl] at hx811_4); replace p811 := eq_true p811; replace q811 := eq_true q811; have p812 : 0 ≤ (7 : Int) := (by omega); have q812 : 7 < (t801.length : Int) := of_decide_eq_true aT; obtain ⟨ad812, e812, hx812_0, hx812_1, hx812_2, hx812_3, hx812_4⟩ := iO (Kd.dU HO805.out).2.2 7 p812 q812; obtain rfl : ad811 = ad812 := (by injection e812); (try simp only [show (7 : Int).toNat = 7 from rfl, Nat.reduceMul, Nat.reduceEqDiff, Go.Addr.add, ↓reduceIte] at hx812_0); (try simp only [show (7 : Int).toNat = 7 from rfl, Nat.reduceMul, Nat.reduceEqDiff, Go.Addr.add, ↓reduceIte] at hx812_1); (try simp only [show (7 : Int).toNat = 7 from rfl, Nat.reduceMul, Nat.reduceEqDiff, Go.Addr.add, ↓reduceIte] at hx812_2); (try simp only [show (7 : Int).toNat = 7 from rfl, Nat.reduceMul, Nat.reduceEqDiff, Go.Addr.add, ↓reduceIte] at hx812_3); (try simp only [show (7 : Int).toNat = 7 from rfl, Nat.reduceMul, Nat.reduceEqDiff, Go.Addr.add, ↓reduceIte] at hx812_4); have qi812 : (7 < t801.length) = True := eq_true (by omega); (try rw [show ((7 : Int)).toNat = 7 from rfl] at hx812_0); (try rw [show 7 * 5 = 35 from rfl] at hx812_0); (try rw [show ((7 : Int)).toNat = 7 from rfl] at hx812_1); (try rw [show 7 * 5 = 35 from rfl] at hx812_1); (try rw [show ((7 : Int)).toNat = 7 from rfl] at hx812_2); (try rw [show 7 * 5 = 35 from rfl] at hx812_2); (try rw [show ((7 : Int)).toNat = 7 from rfl] at hx812_3); (try rw [show 7 * 5 = 35 from rfl] at hx812_3); (try rw [show ((7 : Int)).toNat = 7 from rfl] at hx812_4); (try rw [show 7 * 5 = 35 from rfl] at hx812_4); replace p812 := eq_true p812; replace q812 := eq_true q812; have p813 : 0 ≤ (0 : Int) := (by omega); have q813 : 0 < (t801.length : Int) := of_decide_eq_true aT; obtain ⟨ad813, e813, hx813_0, hx813_1, hx813_2, hx813_3, hx813_4⟩ := iO (Kd.dU HO805.out).2.2 0 p813 q813; obtain rfl : ad811 = ad813 := (by injection e813); have qi813 : (0 < t801.length) = True := eq_true (by omega); (try rw [show ((0 : Int)).toNat = 0 from rfl] at hx813_0); (try rw [show 0 * 5 = 0 from rfl] at hx813_0); (try rw [Addr.add_zero'] at hx813_0); (try rw [show ((0 : Int)).toNat = 0 from rfl] at hx813_1); (try rw [show 0 * 5 = 0 from rfl] at hx813_1); (try rw [Addr.add_zero'] at hx813_1); (try rw [show ((0 : Int)).toNat = 0 from rfl] at hx813_2); (try rw [show 0 * 5 = 0 from rfl] at hx813_2); (try rw [Addr.add_zero'] at hx813_2); (try rw [show ((0 : Int)).toNat = 0 from rfl] at hx813_3); (try rw [show 0 * 5 = 0 from rfl] at hx813_3); (try rw [Addr.add_zero'] at hx813_3); (try rw [show ((0 : Int)).toNat = 0 from rfl] at hx813_4); (try rw [show 0 * 5 = 0 from rfl] at hx813_4); (try rw [Addr.add_zero'] at hx813_4); replace p813 := eq_true p813; replace q813 := eq_true q813; have p814 : 0 ≤ (0 : Int) := (by omega); have q814 : 0 < (t801.length : Int) := of_decide_eq_true aT; obtain ⟨ad814, e814, hx814_0, hx814_1, hx814_2, hx814_3, hx814_4⟩ := iO (Kd.dU HO805.out).2.2 0 p814 q814; obtain rfl : ad811 = ad814 := (by injection e814); have qi814 : (0 < t801.length) = True := eq_true (by omega); (try rw [show ((0 : Int)).toNat = 0 from rfl] at hx814_0); (try rw [show 0 * 5 = 0 from rfl] at hx814_0); (try rw [Addr.add_zero'] at hx814_0); (try rw [show ((0 : Int)).toNat = 0 from rfl] at hx814_1); (try rw [show 0 * 5 = 0 from rfl] at hx814_1); (try rw [Addr.add_zero'] at hx814_1); (try rw [show ((0 : Int)).toNat = 0 from rfl] at hx814_2); (try rw [show 0 * 5 = 0 from rfl] at hx814_2); (try rw [Addr.add_zero'] at hx814_2); (try rw [show ((0 : Int)).toNat = 0 from rfl] at hx814_3); (try rw [show 0 * 5 = 0 from rfl] at hx814_3); (try rw [Addr.add_zero'] at hx814_3); (try rw [show ((0 : Int)).toNat = 0 from rfl] at hx814_4); (try rw [show 0 * 5 = 0 from rfl] at hx814_4); (try rw [Addr.add_zero'] at hx814_4); replace p814 := eq_true p814; replace q814 := eq_true q814))
           go_ret
           exact ⟨eT, bT HB⟩
          exact absurd ((Option.some.inj H).trans HR.out) (by decide)
         exact absurd ((Option.some.inj H).trans HR.out) (by decide)
        exact absurd ((Option.some.inj H).trans HR.out) (by decide)
       exact absurd H (by simp)
      exact absurd ((Option.some.inj H).trans HR.out) (by decide)
     exact absurd H (by simp)
    exact absurd ((Option.some.inj H).trans HR.out) (by decide)
   exact absurd H (by simp)
  exact absurd ((Option.some.inj H).trans HR.out) (by decide)
 exact absurd ((Option.some.inj H).trans HR.out) (by decide)
end Go.Proofs.YtkbhkonenkgfoaaGreat.Q
end
section
namespace Go.Proofs.YtkbhkonenkgfoaaGreat.Q
open Go.RowKit Go.Proofs.YtkbhkonenkgfoaaGreatW.PrintWords Go.Proofs.YtkbhkonenkgfoaaGreatW.PrintLast Go.Proofs.YtkbhkonenkgfoaaGreatW.PrintMore
attribute [local go_sem] dJ dH dS dR cZ cO dI dG
set_option linter.unusedVariables false
set_option linter.unusedSimpArgs false
theorem Jt (d : Nat) (w : World) (x0 y0 : Int) (x1 y1 : Int) (x2 y2 : ByteArray) (x3 y3 : Int) (x4 y4 : ByteArray) :
 (Op.equalIn (d + 2) 29 (.agg #[.int .i64 x0, .int .i64 x1, .string x2, .int .i64 x3, .string x4]) (.agg #[.int .i64 y0, .int .i64 y1, .string y2, .int .i64 y3, .string y4])).run Tryz.prog w = .ok (x0 == y0 && (x1 == y1 && (x2.toList == y2.toList && (x3 == y3 && (x4.toList == y4.toList))))) w := by
 refine IV Tryz.underlying29 (by kernel_rfl) ?_
 refine rW (by rfl) (by go_simp; rfl) (by go_simp; rfl) (by go_simp) ?_
 refine rW (by rfl) (by go_simp; rfl) (by go_simp; rfl) (by go_simp) ?_
 refine rW (by rfl) (by go_simp; rfl) (by go_simp; rfl) (by go_simp) ?_
 refine rW (by rfl) (by go_simp; rfl) (by go_simp; rfl) (by go_simp) ?_
 exact ED (by rfl) (by go_simp; rfl) (by go_simp; rfl) (by go_simp)
end Go.Proofs.YtkbhkonenkgfoaaGreat.Q
end
section
namespace Go.Proofs.YtkbhkonenkgfoaaGreat.Q
open Go.RowKit Go.Proofs.YtkbhkonenkgfoaaGreatW.PrintWords Go.Proofs.YtkbhkonenkgfoaaGreatW.PrintLast Go.Proofs.YtkbhkonenkgfoaaGreatW.PrintMore
attribute [local go_sem] dJ dH dS dR cZ cO dI dG
set_option linter.unusedVariables false
set_option linter.unusedSimpArgs false
attribute [local go_sem high] Jt
/-! ### bV: function 8 -/
def bV.l0 : Nat → List (S29) → List (S29) → Int → Option (Bool)
 | 0, _, _, _ => none
 | k + 1, x0, x1, x5 => if x5 < (x0.length : Int) then (if 0 ≤ x5 then (if x5 < (x1.length : Int) then (if (!(((ax x0 x5).f0) == ((ax x1 x5).f0)) || (!(((ax x0 x5).f1) == ((ax x1 x5).f1)) || (!((((ax x0 x5).f2).toList) == (((ax x1 x5).f2).toList)) || (!(((ax x0 x5).f3) == ((ax x1 x5).f3)) || (!((((ax x0 x5).f4).toList) == (((ax x1 x5).f4).toList))))))) = true then (some false) else (bV.l0 k x0 x1 (wrap64 (x5 + 1)))) else (none)) else (none)) else (some true)
def bV.f (k : Nat) (l0 : List (S29)) (l1 : List (S29)) : Option (Bool) := if (l0.length : Int) = (l1.length : Int) then (bV.l0 k l0 l1 0) else (some false)
theorem bV.bZ : ∀ k, (∀ y0 y1 y2, LeO (bV.l0 k y0 y1 y2) (bV.l0 (k + 1) y0 y1 y2))
 | 0 => fun _ _ _ r h => by simp [bV.l0] at h
 | k + 1 => by
  have ih0 := bV.bZ k
  intro y0 y1 y2
  unfold bV.l0
  exact yL
theorem bV.mono : ∀ a0 a1 k, LeO (bV.f k a0 a1) (bV.f (k + 1) a0 a1) := by
 intro a0 a1 k
 have ih0 := bV.bZ k
 unfold bV.f
 exact yL
set_option maxHeartbeats 8000000 in
set_option maxRecDepth 100000 in
theorem bV.calls (k : Nat) (A0 : Option Addr) (c0 : Nat) (l0 : List (S29)) (A1 : Option Addr) (c1 : Nat) (l1 : List (S29)) (r : Bool) (w : World) (hr0 : Kd.C k29 w A0 l0.length l0) (hc0 : l0.length ≤ c0) (hr1 : Kd.C k29 w A1 l1.length l1) (hc1 : l1.length ≤ c1) (h : bV.f k l0 l1 = some r) :
 Calls Tryz.prog 8 #[.slice A0 l0.length c0, .slice A1 l1.length c1] w fun e w' => e = .returned (.bool r) ∧ dZ w w' := by
 have hu29 := Tryz.underlying29
 have HR0 := af.mk hr0
 have HC0 := af.mk hc0
 clear hr0 hc0
 have HR1 := af.mk hr1
 have HC1 := af.mk hc1
 clear hr1 hc1
 have H := h
 clear h
 unfold bV.f at H
 revert H
 refine wV (fun c3 c3b0 c3b1 H => ?_) fun c3 c3b0 c3b1 H => ?_
 ·have c3b2 : (l0.length == l1.length) = true := by first | simpa using c3 | (simp at c3 ⊢; omega)
  clear c3
  have H' := af.mk H
  clear H
  go_enter Tryz.func8, Tryz.ntmps8
  go_wp2
  repeat (go_quiet (fail); try go_wp2)
  go_loopg [5] k (fun kq v5 w' => ∃ (x5_1 : Int), v5 = .int .i64 x5_1 ∧ af (bV.l0 kq l0 l1 x5_1 = some r) ∧ af (kq ≤ k) ∧ dZ w w')
  case atStart => exact ⟨(0), fT, H', ⟨Nat.le_refl _⟩, Z0⟩
  case round =>
   clear H'
   try clear c1
   try clear p2
   try clear c3
   try clear c3b0
   try clear c3b1
   try clear c3b2
   obtain ⟨x5_1, rfl, HA, HK1, ⟨m1, rfl⟩⟩ := hrel
   cases gk with
   | zero => exact absurd HA.out (by simp [bV.l0])
   | succ k1 =>
    have H := HA.out
    clear HA
    simp only [bV.l0] at H
    revert H
    refine iR (fun c4b0 H => ?_) fun c4b0 H => ?_
    ·revert H
     refine gB (fun c5b0 H => ?_) fun c5 H => ?_
     ·revert H
      refine gB (fun c6b0 H => ?_) fun c6 H => ?_
      ·revert H
       refine gU (fun c7 H => ?_) fun c7 H => ?_
       ·have c7b0 : (!(((ax l0 x5_1).f0) == ((ax l1 x5_1).f0)) || (!(((ax l0 x5_1).f1) == ((ax l1 x5_1).f1)) || (!((((ax l0 x5_1).f2).toList) == (((ax l1 x5_1).f2).toList)) || (!(((ax l0 x5_1).f3) == ((ax l1 x5_1).f3)) || (!((((ax l0 x5_1).f4).toList) == (((ax l1 x5_1).f4).toList))))))) = true := c7
        clear c7
        obtain rfl := Option.some.inj H
        have p815 : 0 ≤ (x5_1 : Int) := of_decide_eq_true aT
        have q815 : x5_1 < (l0.length : Int) := of_decide_eq_true aT
        obtain ⟨ad815, e815, hx815_0, hx815_1, hx815_2, hx815_3, hx815_4⟩ := iO HR0.out x5_1 p815 q815
        cases e815
        replace p815 := eq_true p815
        replace q815 := eq_true q815
        have p816 : 0 ≤ (x5_1 : Int) := of_decide_eq_true aT
        have q816 : x5_1 < (l1.length : Int) := of_decide_eq_true aT
        obtain ⟨ad816, e816, hx816_0, hx816_1, hx816_2, hx816_3, hx816_4⟩ := iO HR1.out x5_1 p816 q816
        cases e816
        replace p816 := eq_true p816
        replace q816 := eq_true q816
        go_wp2
        repeat (go_quiet (fail); try go_wp2)
        go_ret
        exact ⟨fT, Z0⟩
       have c7b0 : (!(((ax l0 x5_1).f0) == ((ax l1 x5_1).f0)) || (!(((ax l0 x5_1).f1) == ((ax l1 x5_1).f1)) || (!((((ax l0 x5_1).f2).toList) == (((ax l1 x5_1).f2).toList)) || (!(((ax l0 x5_1).f3) == ((ax l1 x5_1).f3)) || (!((((ax l0 x5_1).f4).toList) == (((ax l1 x5_1).f4).toList))))))) = false := by simpa using c7
       clear c7
       have H' := af.mk H
       clear H
       have p815 : 0 ≤ (x5_1 : Int) := of_decide_eq_true aT
       have q815 : x5_1 < (l0.length : Int) := of_decide_eq_true aT
       obtain ⟨ad815, e815, hx815_0, hx815_1, hx815_2, hx815_3, hx815_4⟩ := iO HR0.out x5_1 p815 q815
       cases e815
       replace p815 := eq_true p815
       replace q815 := eq_true q815
       have p816 : 0 ≤ (x5_1 : Int) := of_decide_eq_true aT
       have q816 : x5_1 < (l1.length : Int) := of_decide_eq_true aT
       obtain ⟨ad816, e816, hx816_0, hx816_1, hx816_2, hx816_3, hx816_4⟩ := iO HR1.out x5_1 p816 q816
       cases e816
       replace p816 := eq_true p816
       replace q816 := eq_true q816
       go_wp2
       repeat (go_quiet (fail); try go_wp2)
       go_roundg k1
       case measure => have := HK1.out; omega
       case rel => exact ⟨(wrap64 (x5_1 + 1)), fT, H', ⟨by have := HK1.out; omega⟩, Z0⟩
      exact absurd H (by simp)
     exact absurd H (by simp)
    obtain rfl := Option.some.inj H
    go_wp2
    repeat (go_quiet (fail); try go_wp2)
    go_ret
    exact ⟨fT, Z0⟩
 have c3b2 : (l0.length == l1.length) = false := by first | simpa using c3 | (simp at c3 ⊢; omega)
 obtain rfl := Option.some.inj H
 go_enter Tryz.func8, Tryz.ntmps8
 go_wp2
 repeat (go_quiet (fail); try go_wp2)
 go_ret
 exact ⟨fT, Z0⟩
end Go.Proofs.YtkbhkonenkgfoaaGreat.Q
end
section
namespace Go.Proofs.YtkbhkonenkgfoaaGreat.Q
open Go.RowKit Go.Proofs.YtkbhkonenkgfoaaGreatW.PrintWords Go.Proofs.YtkbhkonenkgfoaaGreatW.PrintLast Go.Proofs.YtkbhkonenkgfoaaGreatW.PrintMore
attribute [local go_sem] dJ dH dS dR cZ cO dI dG
set_option linter.unusedVariables false
set_option linter.unusedSimpArgs false
/-! ### bf: function 9 -/
def bf.l0 : Nat → List (S37) → Int → Option (Bool)
 | 0, _, _ => none
 | k + 1, x0, x3 => if x3 < (x0.length : Int) then (if 0 ≤ x3 then (if (((dY x0 x3).f1).size : Int) > 2000 then (some false) else (if ((dY x0 x3).f3) > 1099511627776 then (some false) else (bf.l0 k x0 (wrap64 (x3 + 1))))) else (none)) else (some true)
def bf.f (k : Nat) (l0 : List (S37)) : Option (Bool) := if (l0.length : Int) > 1500 then (some false) else (bf.l0 k l0 0)
theorem bf.bZ : ∀ k, (∀ y0 y1, LeO (bf.l0 k y0 y1) (bf.l0 (k + 1) y0 y1))
 | 0 => fun _ _ r h => by simp [bf.l0] at h
 | k + 1 => by
  have ih0 := bf.bZ k
  intro y0 y1
  unfold bf.l0
  exact yL
theorem bf.mono : ∀ a0 k, LeO (bf.f k a0) (bf.f (k + 1) a0) := by
 intro a0 k
 have ih0 := bf.bZ k
 unfold bf.f
 exact yL
set_option maxHeartbeats 8000000 in
set_option maxRecDepth 100000 in
theorem bf.calls (k : Nat) (A0 : Option Addr) (c0 : Nat) (l0 : List (S37)) (r : Bool) (w : World) (hr0 : Kd.C k37 w A0 l0.length l0) (hc0 : l0.length ≤ c0) (h : bf.f k l0 = some r) :
 Calls Tryz.prog 9 #[.slice A0 l0.length c0] w fun e w' => e = .returned (.bool r) ∧ dZ w w' := by
 have HR0 := af.mk hr0
 have HC0 := af.mk hc0
 clear hr0 hc0
 have H := h
 clear h
 unfold bf.f at H
 revert H
 refine gU (fun c2 H => ?_) fun c2 H => ?_
 ·have c2b0 : decide (1500 < (l0.length : Int)) = true := decide_eq_true c2
  have c2b1 : decide (1500 < l0.length) = true := decide_eq_true (by omega)
  clear c2
  obtain rfl := Option.some.inj H
  go_enter Tryz.func9, Tryz.ntmps9
  go_wp2
  go_ret
  exact ⟨fT, Z0⟩
 have c2b0 : decide (1500 < (l0.length : Int)) = false := decide_eq_false c2
 have c2b1 : decide (1500 < l0.length) = false := decide_eq_false (by omega)
 clear c2
 have H' := af.mk H
 clear H
 go_enter Tryz.func9, Tryz.ntmps9
 go_wp2
 go_loopg [3] k (fun kq v3 w' => ∃ (x3_1 : Int), v3 = .int .i64 x3_1 ∧ af (bf.l0 kq l0 x3_1 = some r) ∧ af (kq ≤ k) ∧ dZ w w')
 case atStart => exact ⟨(0), fT, H', ⟨Nat.le_refl _⟩, Z0⟩
 case round =>
  clear H'
  try clear c2
  try clear c2b0
  try clear c2b1
  try clear p2
  obtain ⟨x3_1, rfl, HA, HK1, ⟨m1, rfl⟩⟩ := hrel
  cases gk with
  | zero => exact absurd HA.out (by simp [bf.l0])
  | succ k1 =>
   have H := HA.out
   clear HA
   simp only [bf.l0] at H
   revert H
   refine iR (fun c3b0 H => ?_) fun c3b0 H => ?_
   ·revert H
    refine gB (fun c4b0 H => ?_) fun c4 H => ?_
    ·revert H
     refine gU (fun c5 H => ?_) fun c5 H => ?_
     ·have c5b0 : decide (2000 < (((dY l0 x3_1).f1).size : Int)) = true := decide_eq_true c5
      have c5b1 : decide (2000 < ((dY l0 x3_1).f1).size) = true := decide_eq_true (by omega)
      clear c5
      obtain rfl := Option.some.inj H
      have p817 : 0 ≤ (x3_1 : Int) := of_decide_eq_true aT
      have q817 : x3_1 < (l0.length : Int) := of_decide_eq_true aT
      obtain ⟨ad817, e817, hx817_0, hx817_1, hx817_2, hx817_3⟩ := jS HR0.out x3_1 p817 q817
      cases e817
      replace p817 := eq_true p817
      replace q817 := eq_true q817
      go_wp2
      go_ret
      exact ⟨fT, Z0⟩
     have c5b0 : decide (2000 < (((dY l0 x3_1).f1).size : Int)) = false := decide_eq_false c5
     have c5b1 : decide (2000 < ((dY l0 x3_1).f1).size) = false := decide_eq_false (by omega)
     clear c5
     revert H
     refine gU (fun c6 H => ?_) fun c6 H => ?_
     ·have c6b0 : decide (1099511627776 < ((dY l0 x3_1).f3)) = true := decide_eq_true c6
      clear c6
      obtain rfl := Option.some.inj H
      have p817 : 0 ≤ (x3_1 : Int) := of_decide_eq_true aT
      have q817 : x3_1 < (l0.length : Int) := of_decide_eq_true aT
      obtain ⟨ad817, e817, hx817_0, hx817_1, hx817_2, hx817_3⟩ := jS HR0.out x3_1 p817 q817
      cases e817
      replace p817 := eq_true p817
      replace q817 := eq_true q817
      have p818 : 0 ≤ (x3_1 : Int) := of_decide_eq_true aT
      have q818 : x3_1 < (l0.length : Int) := of_decide_eq_true aT
      obtain ⟨ad818, e818, hx818_0, hx818_1, hx818_2, hx818_3⟩ := jS HR0.out x3_1 p818 q818
      obtain rfl : ad817 = ad818 := (by injection e818)
      replace p818 := eq_true p818
      replace q818 := eq_true q818
      go_wp2
      go_ret
      exact ⟨fT, Z0⟩
     have c6b0 : decide (1099511627776 < ((dY l0 x3_1).f3)) = false := decide_eq_false c6
     clear c6
     have H' := af.mk H
     clear H
     have p817 : 0 ≤ (x3_1 : Int) := of_decide_eq_true aT
     have q817 : x3_1 < (l0.length : Int) := of_decide_eq_true aT
     obtain ⟨ad817, e817, hx817_0, hx817_1, hx817_2, hx817_3⟩ := jS HR0.out x3_1 p817 q817
     cases e817
     replace p817 := eq_true p817
     replace q817 := eq_true q817
     have p818 : 0 ≤ (x3_1 : Int) := of_decide_eq_true aT
     have q818 : x3_1 < (l0.length : Int) := of_decide_eq_true aT
     obtain ⟨ad818, e818, hx818_0, hx818_1, hx818_2, hx818_3⟩ := jS HR0.out x3_1 p818 q818
     obtain rfl : ad817 = ad818 := (by injection e818)
     replace p818 := eq_true p818
     replace q818 := eq_true q818
     go_wp2
     go_roundg k1
     case measure => have := HK1.out; omega
     case rel => exact ⟨(wrap64 (x3_1 + 1)), fT, H', ⟨by have := HK1.out; omega⟩, Z0⟩
    exact absurd H (by simp)
   obtain rfl := Option.some.inj H
   go_wp2
   go_ret
   exact ⟨fT, Z0⟩
-- BY HAND: function 11 (chrysalisref10_Tree)
end Go.Proofs.YtkbhkonenkgfoaaGreat.Q
end
section
namespace Go.Proofs.YtkbhkonenkgfoaaGreat.Q
open Go.RowKit Go.Proofs.YtkbhkonenkgfoaaGreatW.PrintWords Go.Proofs.YtkbhkonenkgfoaaGreatW.PrintLast Go.Proofs.YtkbhkonenkgfoaaGreatW.PrintMore
attribute [local go_sem] dJ dH dS dR cZ cO dI dG
set_option linter.unusedVariables false
set_option linter.unusedSimpArgs false
/-! ### dV: function 4 -/
def dV.f (k : Nat) (l0 : List (S37)) : Option (Bool) := (bf.f k l0).bind fun t1409 => (if t1409 = true then ((iH.f k l0).bind fun bt1411 => ((jP.f k l0).bind fun bt1416 => ((bV.f k bt1411.1 bt1416.1).bind fun t1421 => (if t1421 = true then (if bt1411.2.1 = bt1416.2.1 then (if bt1411.2.2 = bt1416.2.2 then ((bP.f k).bind fun t1422 => (some t1422)) else (some false)) else (some false)) else (some false))))) else ((bP.f k).bind fun t1410 => (some t1410)))
theorem dV.mono : ∀ a0 k, LeO (dV.f k a0) (dV.f (k + 1) a0) := by
 intro a0 k
 unfold dV.f
 have m0 := bP.mono
 have m1 := bf.mono
 have m2 := bV.mono
 have m3 := iH.mono
 have m4 := jP.mono
 exact yL
set_option maxHeartbeats 8000000 in
set_option maxRecDepth 100000 in
theorem dV.calls (k : Nat) (A0 : Option Addr) (c0 : Nat) (l0 : List (S37)) (r : Bool) (w : World) (hr0 : Kd.C k37 w A0 l0.length l0) (hc0 : l0.length ≤ c0) (h : dV.f k l0 = some r) :
 Calls Tryz.prog 4 #[.slice A0 l0.length c0] w fun e w' => e = .returned (.bool r) ∧ Below w.heap.size w w' := by
 have HR0 := af.mk hr0
 have HC0 := af.mk hc0
 clear hr0 hc0
 have HB := af.mk (Below.refl w.heap.size w)
 have H := h
 clear h
 unfold dV.f at H
 revert H
 refine yB1 fun t1409 A2 H => ?_
 cases t1409
 rotate_left
 ·replace H := yT H
  revert H
  refine yB3 fun t1411 t1412 t1413 A4 H => ?_
  try dsimp only at H
  revert H
  refine yB3 fun t1416 t1417 t1418 A5 H => ?_
  try dsimp only at H
  revert H
  refine yB1 fun t1421 A6 H => ?_
  cases t1421
  rotate_left
  ·replace H := yT H
   revert H
   refine aU (fun c8b0 c8b1 H => ?_) fun c8 c8b0 c8b1 H => ?_
   ·revert H
    refine aU (fun c9b0 c9b1 H => ?_) fun c9 c9b0 c9b1 H => ?_
    ·revert H
     refine yB1 fun t1422 A10 H => ?_
     obtain rfl := Option.some.inj H
     go_enter Tryz.func4, Tryz.ntmps4
     go_wp2_with (first | ((with_reducible refine gC 9 rfl ?_); refine gM 9 10 rfl Tryz.func9 (bf.calls k _ _ l0 true _ Z5 HC0.out A2.out) ?_; rintro _ w' ⟨rfl, ⟨nd, rfl⟩⟩; refine ⟨_, rfl, ?_⟩) | ((with_reducible refine gC 10 rfl ?_); refine gM 10 15 rfl Tryz.func10 (iH.calls k _ _ l0 t1411 t1412 t1413 _ Z5 HC0.out A4.out) ?_; rintro _ w11 ⟨v1414, rfl, ho0, hb⟩; refine ⟨_, rfl, yA2 (Kd.iw ho0 (bD (bT HB))) (aA (bT HB) hb) ?_⟩; clear HB hb ho0; intro HO1415 HB) | ((with_reducible refine gC 11 rfl ?_); refine gM 11 21 rfl Tryz.func11 (jP.calls k _ _ l0 t1416 t1417 t1418 _ Z3 HC0.out A5.out) ?_; rintro _ w12 ⟨v1419, rfl, ho0, hb⟩; refine ⟨_, rfl, yA3 (Kd.qx (qR HO1415) (Kd.vZ ho0) hb) (Kd.iw (Kd.vY ho0 (Kd.zC (qR HO1415))) (bD (bT HB))) (aA (bT HB) hb) ?_⟩; clear HO1415 HB hb ho0; intro HO1415 HO1420 HB; obtain ⟨Ao13, co13, rfl⟩ := Kd.fG HO1415.out; obtain ⟨Ao14, co14, rfl⟩ := Kd.fG HO1420.out) | ((with_reducible refine gC 8 rfl ?_); refine gM 8 27 rfl Tryz.func8 (bV.calls k _ _ t1411 _ _ t1416 true _ Z21 ((Kd.dU HO1415.out).2.1) Z22 ((Kd.dU HO1420.out).2.1) A6.out) ?_; rintro _ w' ⟨rfl, ⟨nd, rfl⟩⟩; refine ⟨_, rfl, ?_⟩) | (go_at_call 5; (with_reducible refine (bP.calls k  t1422 _ A10.out).mono ?_); rintro e w15 ⟨rfl, hb⟩; refine yA3 (Kd.gW (qR HO1415) hb) (Kd.gW (qR HO1420) hb) (aA (bT HB) hb) ?_; clear HO1415 HO1420 HB; intro HO1415 HO1420 HB; (try clear hb)))
     go_ret
     exact ⟨eT, bT HB⟩
    obtain rfl := Option.some.inj H
    go_enter Tryz.func4, Tryz.ntmps4
    go_wp2_with (first | ((with_reducible refine gC 9 rfl ?_); refine gM 9 10 rfl Tryz.func9 (bf.calls k _ _ l0 true _ Z5 HC0.out A2.out) ?_; rintro _ w' ⟨rfl, ⟨nd, rfl⟩⟩; refine ⟨_, rfl, ?_⟩) | ((with_reducible refine gC 10 rfl ?_); refine gM 10 15 rfl Tryz.func10 (iH.calls k _ _ l0 t1411 t1412 t1413 _ Z5 HC0.out A4.out) ?_; rintro _ w16 ⟨v1414, rfl, ho0, hb⟩; refine ⟨_, rfl, yA2 (Kd.iw ho0 (bD (bT HB))) (aA (bT HB) hb) ?_⟩; clear HB hb ho0; intro HO1415 HB) | ((with_reducible refine gC 11 rfl ?_); refine gM 11 21 rfl Tryz.func11 (jP.calls k _ _ l0 t1416 t1417 t1418 _ Z3 HC0.out A5.out) ?_; rintro _ w17 ⟨v1419, rfl, ho0, hb⟩; refine ⟨_, rfl, yA3 (Kd.qx (qR HO1415) (Kd.vZ ho0) hb) (Kd.iw (Kd.vY ho0 (Kd.zC (qR HO1415))) (bD (bT HB))) (aA (bT HB) hb) ?_⟩; clear HO1415 HB hb ho0; intro HO1415 HO1420 HB; obtain ⟨Ao18, co18, rfl⟩ := Kd.fG HO1415.out; obtain ⟨Ao19, co19, rfl⟩ := Kd.fG HO1420.out) | ((with_reducible refine gC 8 rfl ?_); refine gM 8 27 rfl Tryz.func8 (bV.calls k _ _ t1411 _ _ t1416 true _ Z21 ((Kd.dU HO1415.out).2.1) Z22 ((Kd.dU HO1420.out).2.1) A6.out) ?_; rintro _ w' ⟨rfl, ⟨nd, rfl⟩⟩; refine ⟨_, rfl, ?_⟩))
    go_ret
    exact ⟨eT, bT HB⟩
   obtain rfl := Option.some.inj H
   go_enter Tryz.func4, Tryz.ntmps4
   go_wp2_with (first | ((with_reducible refine gC 9 rfl ?_); refine gM 9 10 rfl Tryz.func9 (bf.calls k _ _ l0 true _ Z5 HC0.out A2.out) ?_; rintro _ w' ⟨rfl, ⟨nd, rfl⟩⟩; refine ⟨_, rfl, ?_⟩) | ((with_reducible refine gC 10 rfl ?_); refine gM 10 15 rfl Tryz.func10 (iH.calls k _ _ l0 t1411 t1412 t1413 _ Z5 HC0.out A4.out) ?_; rintro _ w20 ⟨v1414, rfl, ho0, hb⟩; refine ⟨_, rfl, yA2 (Kd.iw ho0 (bD (bT HB))) (aA (bT HB) hb) ?_⟩; clear HB hb ho0; intro HO1415 HB) | ((with_reducible refine gC 11 rfl ?_); refine gM 11 21 rfl Tryz.func11 (jP.calls k _ _ l0 t1416 t1417 t1418 _ Z3 HC0.out A5.out) ?_; rintro _ w21 ⟨v1419, rfl, ho0, hb⟩; refine ⟨_, rfl, yA3 (Kd.qx (qR HO1415) (Kd.vZ ho0) hb) (Kd.iw (Kd.vY ho0 (Kd.zC (qR HO1415))) (bD (bT HB))) (aA (bT HB) hb) ?_⟩; clear HO1415 HB hb ho0; intro HO1415 HO1420 HB; obtain ⟨Ao22, co22, rfl⟩ := Kd.fG HO1415.out; obtain ⟨Ao23, co23, rfl⟩ := Kd.fG HO1420.out) | ((with_reducible refine gC 8 rfl ?_); refine gM 8 27 rfl Tryz.func8 (bV.calls k _ _ t1411 _ _ t1416 true _ Z21 ((Kd.dU HO1415.out).2.1) Z22 ((Kd.dU HO1420.out).2.1) A6.out) ?_; rintro _ w' ⟨rfl, ⟨nd, rfl⟩⟩; refine ⟨_, rfl, ?_⟩))
   go_ret
   exact ⟨eT, bT HB⟩
  replace H := yF H
  obtain rfl := Option.some.inj H
  go_enter Tryz.func4, Tryz.ntmps4
  go_wp2_with (first | ((with_reducible refine gC 9 rfl ?_); refine gM 9 10 rfl Tryz.func9 (bf.calls k _ _ l0 true _ Z5 HC0.out A2.out) ?_; rintro _ w' ⟨rfl, ⟨nd, rfl⟩⟩; refine ⟨_, rfl, ?_⟩) | ((with_reducible refine gC 10 rfl ?_); refine gM 10 15 rfl Tryz.func10 (iH.calls k _ _ l0 t1411 t1412 t1413 _ Z5 HC0.out A4.out) ?_; rintro _ w24 ⟨v1414, rfl, ho0, hb⟩; refine ⟨_, rfl, yA2 (Kd.iw ho0 (bD (bT HB))) (aA (bT HB) hb) ?_⟩; clear HB hb ho0; intro HO1415 HB) | ((with_reducible refine gC 11 rfl ?_); refine gM 11 21 rfl Tryz.func11 (jP.calls k _ _ l0 t1416 t1417 t1418 _ Z3 HC0.out A5.out) ?_; rintro _ w25 ⟨v1419, rfl, ho0, hb⟩; refine ⟨_, rfl, yA3 (Kd.qx (qR HO1415) (Kd.vZ ho0) hb) (Kd.iw (Kd.vY ho0 (Kd.zC (qR HO1415))) (bD (bT HB))) (aA (bT HB) hb) ?_⟩; clear HO1415 HB hb ho0; intro HO1415 HO1420 HB; obtain ⟨Ao26, co26, rfl⟩ := Kd.fG HO1415.out; obtain ⟨Ao27, co27, rfl⟩ := Kd.fG HO1420.out) | ((with_reducible refine gC 8 rfl ?_); refine gM 8 27 rfl Tryz.func8 (bV.calls k _ _ t1411 _ _ t1416 false _ Z21 ((Kd.dU HO1415.out).2.1) Z22 ((Kd.dU HO1420.out).2.1) A6.out) ?_; rintro _ w' ⟨rfl, ⟨nd, rfl⟩⟩; refine ⟨_, rfl, ?_⟩))
  go_ret
  exact ⟨eT, bT HB⟩
 replace H := yF H
 revert H
 refine yB1 fun t1410 A28 H => ?_
 obtain rfl := Option.some.inj H
 go_enter Tryz.func4, Tryz.ntmps4
 go_wp2_with (first | ((with_reducible refine gC 9 rfl ?_); refine gM 9 10 rfl Tryz.func9 (bf.calls k _ _ l0 false _ Z5 HC0.out A2.out) ?_; rintro _ w' ⟨rfl, ⟨nd, rfl⟩⟩; refine ⟨_, rfl, ?_⟩) | ((with_reducible refine gC 5 rfl ?_); refine gM 5 12 rfl Tryz.func5 (bP.calls k  t1410 _ A28.out) ?_; rintro _ w29 ⟨rfl, hb⟩; refine ⟨_, rfl, yA1 (aA (bT HB) hb) ?_⟩; clear HB hb; intro HB))
 go_ret
 exact ⟨eT, bT HB⟩
end Go.Proofs.YtkbhkonenkgfoaaGreat.Q
end
