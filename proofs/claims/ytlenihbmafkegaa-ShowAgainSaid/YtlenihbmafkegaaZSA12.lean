/- Walks over functions of the program, words for them, and what the functions come to; of each text only what this claim uses; no condition. -/
import Derived.Test.YtlenihbmafkegaaZSA0
import Derived.Test.YtlenihbmafkegaaZSA1
import Derived.Test.YtlenihbmafkegaaZSA3
import Derived.Test.YtlenihbmafkegaaZSA7
import Derived.Test.YtlenihbmafkegaaZSA8
import Derived.Test.YtlenihbmafkegaaZSA11
namespace Go.Proofs.Ytlenihbmafkegaa.Q
open Go.RowKit Go.Proofs.YtlenihbmafkegaaW.PrintWords Go.Proofs.YtlenihbmafkegaaW.PrintLast Go.Proofs.YtlenihbmafkegaaW.PrintMore
attribute [local go_sem] dC dA dP dO cZ cO dB dw
set_option linter.unusedVariables false
set_option linter.unusedSimpArgs false
/-! ### bz: function 4 -/
def bz.f (k : Nat) (a0 : ByteArray) : Option (Bool) := if (a0.size : Int) > 3000 then ((bJ.f k).bind fun t882 => (some t882)) else ((bV.f k a0).bind fun bt883 => (if bt883.2.1 = 0 then ((bZ.f k bt883.1).bind fun bt889 => (if bt889.2.1 = 3 then ((bJ.f k).bind fun t892 => (some t892)) else ((bV.f k bt889.1).bind fun bt893 => ((bZ.f k bt893.1).bind fun bt898 => ((eY.f k bt883.1).bind fun bt901 => ((dI.f k bt889.1).bind fun bt906 => (if bt889.2.1 = 0 then (if bt893.2.1 = 0 then ((aK.f k bt883.1 bt893.1).bind fun t911 => (if t911 = true then (if bt898.2.1 = 0 then (if bt889.1.toList = bt898.1.toList then (if bt901.2.1 = 0 then (if bt906.2.1 = 0 then ((aU.f k bt901.1 bt906.1 false).bind fun t912 => (if t912 = true then ((bJ.f k).bind fun t913 => (some t913)) else (some false))) else (some false)) else (some false)) else (some false)) else (some false)) else (some false))) else (some false)) else (some false)))))))) else ((bJ.f k).bind fun t888 => (some t888))))
theorem bz.mono : ∀ a0 k, LeO (bz.f k a0) (bz.f (k + 1) a0) := by
 intro a0 k
 unfold bz.f
 have m0 := bJ.mono
 have m1 := aU.mono
 have m2 := aK.mono
 have m3 := dI.mono
 have m4 := bV.mono
 have m5 := eY.mono
 have m6 := bZ.mono
 exact yL
set_option maxHeartbeats 8000000 in
set_option maxRecDepth 100000 in
theorem bz.calls (k : Nat) (a0 : ByteArray) (r : Bool) (w : World) (h : bz.f k a0 = some r) :
 Calls Try.prog 4 #[.string a0] w fun e w' => e = .returned (.bool r) ∧ Below w.heap.size w w' := by
 have HB := ae.mk (Below.refl w.heap.size w)
 have H := h
 clear h
 unfold bz.f at H
 revert H
 refine gZ (fun c2 H => ?_) fun c2 H => ?_
 ·have c2b0 : decide (3000 < (a0.size : Int)) = true := decide_eq_true c2
  have c2b1 : decide (3000 < a0.size) = true := decide_eq_true (by omega)
  clear c2
  revert H
  refine yB1 fun t882 A3 H => ?_
  obtain rfl := Option.some.inj H
  go_enter Try.func4, Try.ntmps4
  go_wp2_with (first | ((with_reducible refine gC 6 rfl ?_); refine gM 6 24 rfl Try.func6 (bJ.calls k  t882 _ A3.out) ?_; rintro _ w4 ⟨rfl, hb⟩; refine ⟨_, rfl, yA1 (aj (bT HB) hb) ?_⟩; clear HB hb; intro HB))
  go_ret
  exact ⟨eT, bT HB⟩
 have c2b0 : decide (3000 < (a0.size : Int)) = false := decide_eq_false c2
 have c2b1 : decide (3000 < a0.size) = false := decide_eq_false (by omega)
 clear c2
 revert H
 refine yB3 fun t883 t884 t885 A5 H => ?_
 try dsimp only at H
 revert H
 refine bn (fun c6b0 c6b1 H => ?_) fun c6 c6b0 c6b1 H => ?_
 ·revert H
  refine yB3 fun t889 t890 t891 A7 H => ?_
  try dsimp only at H
  revert H
  refine bn (fun c8b0 c8b1 H => ?_) fun c8 c8b0 c8b1 H => ?_
  ·revert H
   refine yB1 fun t892 A9 H => ?_
   obtain rfl := Option.some.inj H
   go_enter Try.func4, Try.ntmps4
   go_wp2_with (first | ((with_reducible refine gC 9 rfl ?_); refine gM 9 27 rfl Try.func9 (bV.calls k a0 t883 t884 t885 _ A5.out) ?_; rintro _ w10 ⟨v886, rfl, ho0, hb⟩; refine ⟨_, rfl, yA2 (Kd.dm ho0 (aG (bT HB))) (aj (bT HB) hb) ?_⟩; clear HB hb ho0; intro HO887 HB; obtain ⟨Ao11, co11, rfl⟩ := Kd.bY HO887.out) | ((with_reducible refine gC 7 rfl ?_); refine gM 7 36 rfl Try.func7 (bZ.calls k _ _ t883 t889 t890 t891 _ Z1 ((Kd.aI HO887.out).2.1) A7.out) ?_; rintro _ w12 ⟨rfl, hb⟩; refine ⟨_, rfl, yA2 (Kd.aQ (qR HO887) hb) (aj (bT HB) hb) ?_⟩; clear HO887 HB hb; intro HO887 HB) | ((with_reducible refine gC 6 rfl ?_); refine gM 6 42 rfl Try.func6 (bJ.calls k  t892 _ A9.out) ?_; rintro _ w13 ⟨rfl, hb⟩; refine ⟨_, rfl, yA2 (Kd.aQ (qR HO887) hb) (aj (bT HB) hb) ?_⟩; clear HO887 HB hb; intro HO887 HB))
   go_ret
   exact ⟨eT, bT HB⟩
  revert H
  refine yB3 fun t893 t894 t895 A14 H => ?_
  try dsimp only at H
  revert H
  refine yB3 fun t898 t899 t900 A15 H => ?_
  try dsimp only at H
  revert H
  refine yB3 fun t901 t902 t903 A16 H => ?_
  try dsimp only at H
  revert H
  refine yB3 fun t906 t907 t908 A17 H => ?_
  try dsimp only at H
  revert H
  refine bn (fun c18b0 c18b1 H => ?_) fun c18 c18b0 c18b1 H => ?_
  ·revert H
   refine bn (fun c19b0 c19b1 H => ?_) fun c19 c19b0 c19b1 H => ?_
   ·revert H
    refine yB1 fun t911 A20 H => ?_
    cases t911
    rotate_left
    ·replace H := yT H
     revert H
     refine bn (fun c22b0 c22b1 H => ?_) fun c22 c22b0 c22b1 H => ?_
     ·revert H
      refine bn (fun c23b0 c23b1 H => ?_) fun c23 c23b0 c23b1 H => ?_
      ·revert H
       refine bn (fun c24b0 c24b1 H => ?_) fun c24 c24b0 c24b1 H => ?_
       ·revert H
        refine bn (fun c25b0 c25b1 H => ?_) fun c25 c25b0 c25b1 H => ?_
        ·revert H
         refine yB1 fun t912 A26 H => ?_
         cases t912
         rotate_left
         ·replace H := yT H
          revert H
          refine yB1 fun t913 A28 H => ?_
          obtain rfl := Option.some.inj H
          go_enter Try.func4, Try.ntmps4
          go_wp2_with (first | ((with_reducible refine gC 9 rfl ?_); refine gM 9 27 rfl Try.func9 (bV.calls k a0 t883 t884 t885 _ A5.out) ?_; rintro _ w29 ⟨v886, rfl, ho0, hb⟩; refine ⟨_, rfl, yA2 (Kd.dm ho0 (aG (bT HB))) (aj (bT HB) hb) ?_⟩; clear HB hb ho0; intro HO887 HB; obtain ⟨Ao30, co30, rfl⟩ := Kd.bY HO887.out) | ((with_reducible refine gC 7 rfl ?_); refine gM 7 36 rfl Try.func7 (bZ.calls k _ _ t883 t889 t890 t891 _ Z1 ((Kd.aI HO887.out).2.1) A7.out) ?_; rintro _ w31 ⟨rfl, hb⟩; refine ⟨_, rfl, yA2 (Kd.aQ (qR HO887) hb) (aj (bT HB) hb) ?_⟩; clear HO887 HB hb; intro HO887 HB) | ((with_reducible refine gC 9 rfl ?_); refine gM 9 45 rfl Try.func9 (bV.calls k t889 t893 t894 t895 _ A14.out) ?_; rintro _ w32 ⟨v896, rfl, ho0, hb⟩; refine ⟨_, rfl, yA3 (Kd.fJ (qR HO887) (Kd.iK ho0) hb) (Kd.dm (Kd.iJ ho0 (Kd.lu (qR HO887))) (aG (bT HB))) (aj (bT HB) hb) ?_⟩; clear HO887 HB hb ho0; intro HO887 HO897 HB; obtain ⟨Ao33, co33, rfl⟩ := Kd.bY HO897.out) | ((with_reducible refine gC 7 rfl ?_); refine gM 7 51 rfl Try.func7 (bZ.calls k _ _ t893 t898 t899 t900 _ Z3 ((Kd.aI HO897.out).2.1) A15.out) ?_; rintro _ w34 ⟨rfl, hb⟩; refine ⟨_, rfl, yA3 (Kd.aQ (qR HO887) hb) (Kd.aQ (qR HO897) hb) (aj (bT HB) hb) ?_⟩; clear HO887 HO897 HB hb; intro HO887 HO897 HB) | ((with_reducible refine gC 11 rfl ?_); refine gM 11 57 rfl Try.func11 (eY.calls k _ _ t883 t901 t902 t903 _ Z1 ((Kd.aI HO887.out).2.1) A16.out) ?_; rintro _ w35 ⟨v904, rfl, ho0, hb⟩; refine ⟨_, rfl, yA4 (Kd.aQ (qR HO887) hb) (Kd.aQ (qR HO897) hb) (Kd.dm ho0 (aG (bT HB))) (aj (bT HB) hb) ?_⟩; clear HO887 HO897 HB hb ho0; intro HO887 HO897 HO905 HB) | ((with_reducible refine gC 12 rfl ?_); refine gM 12 63 rfl Try.func12 (dI.calls k t889 t906 t907 t908 _ A17.out) ?_; rintro _ w36 ⟨v909, rfl, ho0, hb⟩; refine ⟨_, rfl, yA5 (Kd.aQ (qR HO887) hb) (Kd.aQ (qR HO897) hb) (Kd.fJ (qR HO905) (Kd.iK ho0) hb) (Kd.dm (Kd.iJ ho0 (Kd.lu (qR HO905))) (aG (bT HB))) (aj (bT HB) hb) ?_⟩; clear HO887 HO897 HO905 HB hb ho0; intro HO887 HO897 HO905 HO910 HB) | (go_at_call 10; (with_reducible refine (aK.calls k _ _ t883 _ _ t893 true _ ?side1 ?side2 ?side3 ?side4 A20.out).mono ?_); (case side1 => exact Z1); (case side2 => exact (Kd.aI HO887.out).2.1); (case side3 => exact Z3); (case side4 => exact (Kd.aI HO897.out).2.1); rintro e w' ⟨rfl, ⟨nd, rfl⟩⟩; obtain ⟨Ao37, co37, rfl⟩ := Kd.bY HO905.out; obtain ⟨Ao38, co38, rfl⟩ := Kd.bY HO910.out) | (go_at_call 13; (with_reducible refine (aU.calls k _ _ t901 _ _ t906 false true _ ?side1 ?side2 ?side3 ?side4 A26.out).mono ?_); (case side1 => repeat (first | exact (Kd.aI HO905.out).2.2 | (with_reducible refine Kd.fZ ?_ _) | (with_reducible refine Kd.fV ?_ _) | (with_reducible refine Kd.iq ?_))); (case side2 => exact (Kd.aI HO905.out).2.1); (case side3 => repeat (first | exact (Kd.aI HO910.out).2.2 | (with_reducible refine Kd.fZ ?_ _) | (with_reducible refine Kd.fV ?_ _) | (with_reducible refine Kd.iq ?_))); (case side4 => exact (Kd.aI HO910.out).2.1); rintro e w' ⟨rfl, ⟨nd, rfl⟩⟩) | (go_at_call 6; (with_reducible refine (bJ.calls k  t913 _ A28.out).mono ?_); rintro e w39 ⟨rfl, hb⟩; refine yA5 (Kd.aQ (qR HO887) hb) (Kd.aQ (qR HO897) hb) (Kd.aQ (qR HO905) hb) (Kd.aQ (qR HO910) hb) (aj (bT HB) hb) ?_; clear HO887 HO897 HO905 HO910 HB; intro HO887 HO897 HO905 HO910 HB; (try clear hb)))
          go_ret
          exact ⟨eT, bT HB⟩
         replace H := yF H
         obtain rfl := Option.some.inj H
         go_enter Try.func4, Try.ntmps4
         go_wp2_with (first | ((with_reducible refine gC 9 rfl ?_); refine gM 9 27 rfl Try.func9 (bV.calls k a0 t883 t884 t885 _ A5.out) ?_; rintro _ w40 ⟨v886, rfl, ho0, hb⟩; refine ⟨_, rfl, yA2 (Kd.dm ho0 (aG (bT HB))) (aj (bT HB) hb) ?_⟩; clear HB hb ho0; intro HO887 HB; obtain ⟨Ao41, co41, rfl⟩ := Kd.bY HO887.out) | ((with_reducible refine gC 7 rfl ?_); refine gM 7 36 rfl Try.func7 (bZ.calls k _ _ t883 t889 t890 t891 _ Z1 ((Kd.aI HO887.out).2.1) A7.out) ?_; rintro _ w42 ⟨rfl, hb⟩; refine ⟨_, rfl, yA2 (Kd.aQ (qR HO887) hb) (aj (bT HB) hb) ?_⟩; clear HO887 HB hb; intro HO887 HB) | ((with_reducible refine gC 9 rfl ?_); refine gM 9 45 rfl Try.func9 (bV.calls k t889 t893 t894 t895 _ A14.out) ?_; rintro _ w43 ⟨v896, rfl, ho0, hb⟩; refine ⟨_, rfl, yA3 (Kd.fJ (qR HO887) (Kd.iK ho0) hb) (Kd.dm (Kd.iJ ho0 (Kd.lu (qR HO887))) (aG (bT HB))) (aj (bT HB) hb) ?_⟩; clear HO887 HB hb ho0; intro HO887 HO897 HB; obtain ⟨Ao44, co44, rfl⟩ := Kd.bY HO897.out) | ((with_reducible refine gC 7 rfl ?_); refine gM 7 51 rfl Try.func7 (bZ.calls k _ _ t893 t898 t899 t900 _ Z3 ((Kd.aI HO897.out).2.1) A15.out) ?_; rintro _ w45 ⟨rfl, hb⟩; refine ⟨_, rfl, yA3 (Kd.aQ (qR HO887) hb) (Kd.aQ (qR HO897) hb) (aj (bT HB) hb) ?_⟩; clear HO887 HO897 HB hb; intro HO887 HO897 HB) | ((with_reducible refine gC 11 rfl ?_); refine gM 11 57 rfl Try.func11 (eY.calls k _ _ t883 t901 t902 t903 _ Z1 ((Kd.aI HO887.out).2.1) A16.out) ?_; rintro _ w46 ⟨v904, rfl, ho0, hb⟩; refine ⟨_, rfl, yA4 (Kd.aQ (qR HO887) hb) (Kd.aQ (qR HO897) hb) (Kd.dm ho0 (aG (bT HB))) (aj (bT HB) hb) ?_⟩; clear HO887 HO897 HB hb ho0; intro HO887 HO897 HO905 HB) | ((with_reducible refine gC 12 rfl ?_); refine gM 12 63 rfl Try.func12 (dI.calls k t889 t906 t907 t908 _ A17.out) ?_; rintro _ w47 ⟨v909, rfl, ho0, hb⟩; refine ⟨_, rfl, yA5 (Kd.aQ (qR HO887) hb) (Kd.aQ (qR HO897) hb) (Kd.fJ (qR HO905) (Kd.iK ho0) hb) (Kd.dm (Kd.iJ ho0 (Kd.lu (qR HO905))) (aG (bT HB))) (aj (bT HB) hb) ?_⟩; clear HO887 HO897 HO905 HB hb ho0; intro HO887 HO897 HO905 HO910 HB) | (go_at_call 10; (with_reducible refine (aK.calls k _ _ t883 _ _ t893 true _ ?side1 ?side2 ?side3 ?side4 A20.out).mono ?_); (case side1 => exact Z1); (case side2 => exact (Kd.aI HO887.out).2.1); (case side3 => exact Z3); (case side4 => exact (Kd.aI HO897.out).2.1); rintro e w' ⟨rfl, ⟨nd, rfl⟩⟩; obtain ⟨Ao48, co48, rfl⟩ := Kd.bY HO905.out; obtain ⟨Ao49, co49, rfl⟩ := Kd.bY HO910.out) | (go_at_call 13; (with_reducible refine (aU.calls k _ _ t901 _ _ t906 false false _ ?side1 ?side2 ?side3 ?side4 A26.out).mono ?_); (case side1 => repeat (first | exact (Kd.aI HO905.out).2.2 | (with_reducible refine Kd.fZ ?_ _) | (with_reducible refine Kd.fV ?_ _) | (with_reducible refine Kd.iq ?_))); (case side2 => exact (Kd.aI HO905.out).2.1); (case side3 => repeat (first | exact (Kd.aI HO910.out).2.2 | (with_reducible refine Kd.fZ ?_ _) | (with_reducible refine Kd.fV ?_ _) | (with_reducible refine Kd.iq ?_))); (case side4 => exact (Kd.aI HO910.out).2.1); rintro e w' ⟨rfl, ⟨nd, rfl⟩⟩))
         go_ret
         exact ⟨eT, bT HB⟩
        obtain rfl := Option.some.inj H
        go_enter Try.func4, Try.ntmps4
        go_wp2_with (first | ((with_reducible refine gC 9 rfl ?_); refine gM 9 27 rfl Try.func9 (bV.calls k a0 t883 t884 t885 _ A5.out) ?_; rintro _ w50 ⟨v886, rfl, ho0, hb⟩; refine ⟨_, rfl, yA2 (Kd.dm ho0 (aG (bT HB))) (aj (bT HB) hb) ?_⟩; clear HB hb ho0; intro HO887 HB; obtain ⟨Ao51, co51, rfl⟩ := Kd.bY HO887.out) | ((with_reducible refine gC 7 rfl ?_); refine gM 7 36 rfl Try.func7 (bZ.calls k _ _ t883 t889 t890 t891 _ Z1 ((Kd.aI HO887.out).2.1) A7.out) ?_; rintro _ w52 ⟨rfl, hb⟩; refine ⟨_, rfl, yA2 (Kd.aQ (qR HO887) hb) (aj (bT HB) hb) ?_⟩; clear HO887 HB hb; intro HO887 HB) | ((with_reducible refine gC 9 rfl ?_); refine gM 9 45 rfl Try.func9 (bV.calls k t889 t893 t894 t895 _ A14.out) ?_; rintro _ w53 ⟨v896, rfl, ho0, hb⟩; refine ⟨_, rfl, yA3 (Kd.fJ (qR HO887) (Kd.iK ho0) hb) (Kd.dm (Kd.iJ ho0 (Kd.lu (qR HO887))) (aG (bT HB))) (aj (bT HB) hb) ?_⟩; clear HO887 HB hb ho0; intro HO887 HO897 HB; obtain ⟨Ao54, co54, rfl⟩ := Kd.bY HO897.out) | ((with_reducible refine gC 7 rfl ?_); refine gM 7 51 rfl Try.func7 (bZ.calls k _ _ t893 t898 t899 t900 _ Z3 ((Kd.aI HO897.out).2.1) A15.out) ?_; rintro _ w55 ⟨rfl, hb⟩; refine ⟨_, rfl, yA3 (Kd.aQ (qR HO887) hb) (Kd.aQ (qR HO897) hb) (aj (bT HB) hb) ?_⟩; clear HO887 HO897 HB hb; intro HO887 HO897 HB) | ((with_reducible refine gC 11 rfl ?_); refine gM 11 57 rfl Try.func11 (eY.calls k _ _ t883 t901 t902 t903 _ Z1 ((Kd.aI HO887.out).2.1) A16.out) ?_; rintro _ w56 ⟨v904, rfl, ho0, hb⟩; refine ⟨_, rfl, yA4 (Kd.aQ (qR HO887) hb) (Kd.aQ (qR HO897) hb) (Kd.dm ho0 (aG (bT HB))) (aj (bT HB) hb) ?_⟩; clear HO887 HO897 HB hb ho0; intro HO887 HO897 HO905 HB) | ((with_reducible refine gC 12 rfl ?_); refine gM 12 63 rfl Try.func12 (dI.calls k t889 t906 t907 t908 _ A17.out) ?_; rintro _ w57 ⟨v909, rfl, ho0, hb⟩; refine ⟨_, rfl, yA5 (Kd.aQ (qR HO887) hb) (Kd.aQ (qR HO897) hb) (Kd.fJ (qR HO905) (Kd.iK ho0) hb) (Kd.dm (Kd.iJ ho0 (Kd.lu (qR HO905))) (aG (bT HB))) (aj (bT HB) hb) ?_⟩; clear HO887 HO897 HO905 HB hb ho0; intro HO887 HO897 HO905 HO910 HB) | (go_at_call 10; (with_reducible refine (aK.calls k _ _ t883 _ _ t893 true _ ?side1 ?side2 ?side3 ?side4 A20.out).mono ?_); (case side1 => exact Z1); (case side2 => exact (Kd.aI HO887.out).2.1); (case side3 => exact Z3); (case side4 => exact (Kd.aI HO897.out).2.1); rintro e w' ⟨rfl, ⟨nd, rfl⟩⟩))
        go_ret
        exact ⟨eT, bT HB⟩
       obtain rfl := Option.some.inj H
       go_enter Try.func4, Try.ntmps4
       go_wp2_with (first | ((with_reducible refine gC 9 rfl ?_); refine gM 9 27 rfl Try.func9 (bV.calls k a0 t883 t884 t885 _ A5.out) ?_; rintro _ w58 ⟨v886, rfl, ho0, hb⟩; refine ⟨_, rfl, yA2 (Kd.dm ho0 (aG (bT HB))) (aj (bT HB) hb) ?_⟩; clear HB hb ho0; intro HO887 HB; obtain ⟨Ao59, co59, rfl⟩ := Kd.bY HO887.out) | ((with_reducible refine gC 7 rfl ?_); refine gM 7 36 rfl Try.func7 (bZ.calls k _ _ t883 t889 t890 t891 _ Z1 ((Kd.aI HO887.out).2.1) A7.out) ?_; rintro _ w60 ⟨rfl, hb⟩; refine ⟨_, rfl, yA2 (Kd.aQ (qR HO887) hb) (aj (bT HB) hb) ?_⟩; clear HO887 HB hb; intro HO887 HB) | ((with_reducible refine gC 9 rfl ?_); refine gM 9 45 rfl Try.func9 (bV.calls k t889 t893 t894 t895 _ A14.out) ?_; rintro _ w61 ⟨v896, rfl, ho0, hb⟩; refine ⟨_, rfl, yA3 (Kd.fJ (qR HO887) (Kd.iK ho0) hb) (Kd.dm (Kd.iJ ho0 (Kd.lu (qR HO887))) (aG (bT HB))) (aj (bT HB) hb) ?_⟩; clear HO887 HB hb ho0; intro HO887 HO897 HB; obtain ⟨Ao62, co62, rfl⟩ := Kd.bY HO897.out) | ((with_reducible refine gC 7 rfl ?_); refine gM 7 51 rfl Try.func7 (bZ.calls k _ _ t893 t898 t899 t900 _ Z3 ((Kd.aI HO897.out).2.1) A15.out) ?_; rintro _ w63 ⟨rfl, hb⟩; refine ⟨_, rfl, yA3 (Kd.aQ (qR HO887) hb) (Kd.aQ (qR HO897) hb) (aj (bT HB) hb) ?_⟩; clear HO887 HO897 HB hb; intro HO887 HO897 HB) | ((with_reducible refine gC 11 rfl ?_); refine gM 11 57 rfl Try.func11 (eY.calls k _ _ t883 t901 t902 t903 _ Z1 ((Kd.aI HO887.out).2.1) A16.out) ?_; rintro _ w64 ⟨v904, rfl, ho0, hb⟩; refine ⟨_, rfl, yA4 (Kd.aQ (qR HO887) hb) (Kd.aQ (qR HO897) hb) (Kd.dm ho0 (aG (bT HB))) (aj (bT HB) hb) ?_⟩; clear HO887 HO897 HB hb ho0; intro HO887 HO897 HO905 HB) | ((with_reducible refine gC 12 rfl ?_); refine gM 12 63 rfl Try.func12 (dI.calls k t889 t906 t907 t908 _ A17.out) ?_; rintro _ w65 ⟨v909, rfl, ho0, hb⟩; refine ⟨_, rfl, yA5 (Kd.aQ (qR HO887) hb) (Kd.aQ (qR HO897) hb) (Kd.fJ (qR HO905) (Kd.iK ho0) hb) (Kd.dm (Kd.iJ ho0 (Kd.lu (qR HO905))) (aG (bT HB))) (aj (bT HB) hb) ?_⟩; clear HO887 HO897 HO905 HB hb ho0; intro HO887 HO897 HO905 HO910 HB) | (go_at_call 10; (with_reducible refine (aK.calls k _ _ t883 _ _ t893 true _ ?side1 ?side2 ?side3 ?side4 A20.out).mono ?_); (case side1 => exact Z1); (case side2 => exact (Kd.aI HO887.out).2.1); (case side3 => exact Z3); (case side4 => exact (Kd.aI HO897.out).2.1); rintro e w' ⟨rfl, ⟨nd, rfl⟩⟩))
       go_ret
       exact ⟨eT, bT HB⟩
      obtain rfl := Option.some.inj H
      go_enter Try.func4, Try.ntmps4
      go_wp2_with (first | ((with_reducible refine gC 9 rfl ?_); refine gM 9 27 rfl Try.func9 (bV.calls k a0 t883 t884 t885 _ A5.out) ?_; rintro _ w66 ⟨v886, rfl, ho0, hb⟩; refine ⟨_, rfl, yA2 (Kd.dm ho0 (aG (bT HB))) (aj (bT HB) hb) ?_⟩; clear HB hb ho0; intro HO887 HB; obtain ⟨Ao67, co67, rfl⟩ := Kd.bY HO887.out) | ((with_reducible refine gC 7 rfl ?_); refine gM 7 36 rfl Try.func7 (bZ.calls k _ _ t883 t889 t890 t891 _ Z1 ((Kd.aI HO887.out).2.1) A7.out) ?_; rintro _ w68 ⟨rfl, hb⟩; refine ⟨_, rfl, yA2 (Kd.aQ (qR HO887) hb) (aj (bT HB) hb) ?_⟩; clear HO887 HB hb; intro HO887 HB) | ((with_reducible refine gC 9 rfl ?_); refine gM 9 45 rfl Try.func9 (bV.calls k t889 t893 t894 t895 _ A14.out) ?_; rintro _ w69 ⟨v896, rfl, ho0, hb⟩; refine ⟨_, rfl, yA3 (Kd.fJ (qR HO887) (Kd.iK ho0) hb) (Kd.dm (Kd.iJ ho0 (Kd.lu (qR HO887))) (aG (bT HB))) (aj (bT HB) hb) ?_⟩; clear HO887 HB hb ho0; intro HO887 HO897 HB; obtain ⟨Ao70, co70, rfl⟩ := Kd.bY HO897.out) | ((with_reducible refine gC 7 rfl ?_); refine gM 7 51 rfl Try.func7 (bZ.calls k _ _ t893 t898 t899 t900 _ Z3 ((Kd.aI HO897.out).2.1) A15.out) ?_; rintro _ w71 ⟨rfl, hb⟩; refine ⟨_, rfl, yA3 (Kd.aQ (qR HO887) hb) (Kd.aQ (qR HO897) hb) (aj (bT HB) hb) ?_⟩; clear HO887 HO897 HB hb; intro HO887 HO897 HB) | ((with_reducible refine gC 11 rfl ?_); refine gM 11 57 rfl Try.func11 (eY.calls k _ _ t883 t901 t902 t903 _ Z1 ((Kd.aI HO887.out).2.1) A16.out) ?_; rintro _ w72 ⟨v904, rfl, ho0, hb⟩; refine ⟨_, rfl, yA4 (Kd.aQ (qR HO887) hb) (Kd.aQ (qR HO897) hb) (Kd.dm ho0 (aG (bT HB))) (aj (bT HB) hb) ?_⟩; clear HO887 HO897 HB hb ho0; intro HO887 HO897 HO905 HB) | ((with_reducible refine gC 12 rfl ?_); refine gM 12 63 rfl Try.func12 (dI.calls k t889 t906 t907 t908 _ A17.out) ?_; rintro _ w73 ⟨v909, rfl, ho0, hb⟩; refine ⟨_, rfl, yA5 (Kd.aQ (qR HO887) hb) (Kd.aQ (qR HO897) hb) (Kd.fJ (qR HO905) (Kd.iK ho0) hb) (Kd.dm (Kd.iJ ho0 (Kd.lu (qR HO905))) (aG (bT HB))) (aj (bT HB) hb) ?_⟩; clear HO887 HO897 HO905 HB hb ho0; intro HO887 HO897 HO905 HO910 HB) | (go_at_call 10; (with_reducible refine (aK.calls k _ _ t883 _ _ t893 true _ ?side1 ?side2 ?side3 ?side4 A20.out).mono ?_); (case side1 => exact Z1); (case side2 => exact (Kd.aI HO887.out).2.1); (case side3 => exact Z3); (case side4 => exact (Kd.aI HO897.out).2.1); rintro e w' ⟨rfl, ⟨nd, rfl⟩⟩))
      go_ret
      exact ⟨eT, bT HB⟩
     obtain rfl := Option.some.inj H
     go_enter Try.func4, Try.ntmps4
     go_wp2_with (first | ((with_reducible refine gC 9 rfl ?_); refine gM 9 27 rfl Try.func9 (bV.calls k a0 t883 t884 t885 _ A5.out) ?_; rintro _ w74 ⟨v886, rfl, ho0, hb⟩; refine ⟨_, rfl, yA2 (Kd.dm ho0 (aG (bT HB))) (aj (bT HB) hb) ?_⟩; clear HB hb ho0; intro HO887 HB; obtain ⟨Ao75, co75, rfl⟩ := Kd.bY HO887.out) | ((with_reducible refine gC 7 rfl ?_); refine gM 7 36 rfl Try.func7 (bZ.calls k _ _ t883 t889 t890 t891 _ Z1 ((Kd.aI HO887.out).2.1) A7.out) ?_; rintro _ w76 ⟨rfl, hb⟩; refine ⟨_, rfl, yA2 (Kd.aQ (qR HO887) hb) (aj (bT HB) hb) ?_⟩; clear HO887 HB hb; intro HO887 HB) | ((with_reducible refine gC 9 rfl ?_); refine gM 9 45 rfl Try.func9 (bV.calls k t889 t893 t894 t895 _ A14.out) ?_; rintro _ w77 ⟨v896, rfl, ho0, hb⟩; refine ⟨_, rfl, yA3 (Kd.fJ (qR HO887) (Kd.iK ho0) hb) (Kd.dm (Kd.iJ ho0 (Kd.lu (qR HO887))) (aG (bT HB))) (aj (bT HB) hb) ?_⟩; clear HO887 HB hb ho0; intro HO887 HO897 HB; obtain ⟨Ao78, co78, rfl⟩ := Kd.bY HO897.out) | ((with_reducible refine gC 7 rfl ?_); refine gM 7 51 rfl Try.func7 (bZ.calls k _ _ t893 t898 t899 t900 _ Z3 ((Kd.aI HO897.out).2.1) A15.out) ?_; rintro _ w79 ⟨rfl, hb⟩; refine ⟨_, rfl, yA3 (Kd.aQ (qR HO887) hb) (Kd.aQ (qR HO897) hb) (aj (bT HB) hb) ?_⟩; clear HO887 HO897 HB hb; intro HO887 HO897 HB) | ((with_reducible refine gC 11 rfl ?_); refine gM 11 57 rfl Try.func11 (eY.calls k _ _ t883 t901 t902 t903 _ Z1 ((Kd.aI HO887.out).2.1) A16.out) ?_; rintro _ w80 ⟨v904, rfl, ho0, hb⟩; refine ⟨_, rfl, yA4 (Kd.aQ (qR HO887) hb) (Kd.aQ (qR HO897) hb) (Kd.dm ho0 (aG (bT HB))) (aj (bT HB) hb) ?_⟩; clear HO887 HO897 HB hb ho0; intro HO887 HO897 HO905 HB) | ((with_reducible refine gC 12 rfl ?_); refine gM 12 63 rfl Try.func12 (dI.calls k t889 t906 t907 t908 _ A17.out) ?_; rintro _ w81 ⟨v909, rfl, ho0, hb⟩; refine ⟨_, rfl, yA5 (Kd.aQ (qR HO887) hb) (Kd.aQ (qR HO897) hb) (Kd.fJ (qR HO905) (Kd.iK ho0) hb) (Kd.dm (Kd.iJ ho0 (Kd.lu (qR HO905))) (aG (bT HB))) (aj (bT HB) hb) ?_⟩; clear HO887 HO897 HO905 HB hb ho0; intro HO887 HO897 HO905 HO910 HB) | (go_at_call 10; (with_reducible refine (aK.calls k _ _ t883 _ _ t893 true _ ?side1 ?side2 ?side3 ?side4 A20.out).mono ?_); (case side1 => exact Z1); (case side2 => exact (Kd.aI HO887.out).2.1); (case side3 => exact Z3); (case side4 => exact (Kd.aI HO897.out).2.1); rintro e w' ⟨rfl, ⟨nd, rfl⟩⟩))
     go_ret
     exact ⟨eT, bT HB⟩
    replace H := yF H
    obtain rfl := Option.some.inj H
    go_enter Try.func4, Try.ntmps4
    go_wp2_with (first | ((with_reducible refine gC 9 rfl ?_); refine gM 9 27 rfl Try.func9 (bV.calls k a0 t883 t884 t885 _ A5.out) ?_; rintro _ w82 ⟨v886, rfl, ho0, hb⟩; refine ⟨_, rfl, yA2 (Kd.dm ho0 (aG (bT HB))) (aj (bT HB) hb) ?_⟩; clear HB hb ho0; intro HO887 HB; obtain ⟨Ao83, co83, rfl⟩ := Kd.bY HO887.out) | ((with_reducible refine gC 7 rfl ?_); refine gM 7 36 rfl Try.func7 (bZ.calls k _ _ t883 t889 t890 t891 _ Z1 ((Kd.aI HO887.out).2.1) A7.out) ?_; rintro _ w84 ⟨rfl, hb⟩; refine ⟨_, rfl, yA2 (Kd.aQ (qR HO887) hb) (aj (bT HB) hb) ?_⟩; clear HO887 HB hb; intro HO887 HB) | ((with_reducible refine gC 9 rfl ?_); refine gM 9 45 rfl Try.func9 (bV.calls k t889 t893 t894 t895 _ A14.out) ?_; rintro _ w85 ⟨v896, rfl, ho0, hb⟩; refine ⟨_, rfl, yA3 (Kd.fJ (qR HO887) (Kd.iK ho0) hb) (Kd.dm (Kd.iJ ho0 (Kd.lu (qR HO887))) (aG (bT HB))) (aj (bT HB) hb) ?_⟩; clear HO887 HB hb ho0; intro HO887 HO897 HB; obtain ⟨Ao86, co86, rfl⟩ := Kd.bY HO897.out) | ((with_reducible refine gC 7 rfl ?_); refine gM 7 51 rfl Try.func7 (bZ.calls k _ _ t893 t898 t899 t900 _ Z3 ((Kd.aI HO897.out).2.1) A15.out) ?_; rintro _ w87 ⟨rfl, hb⟩; refine ⟨_, rfl, yA3 (Kd.aQ (qR HO887) hb) (Kd.aQ (qR HO897) hb) (aj (bT HB) hb) ?_⟩; clear HO887 HO897 HB hb; intro HO887 HO897 HB) | ((with_reducible refine gC 11 rfl ?_); refine gM 11 57 rfl Try.func11 (eY.calls k _ _ t883 t901 t902 t903 _ Z1 ((Kd.aI HO887.out).2.1) A16.out) ?_; rintro _ w88 ⟨v904, rfl, ho0, hb⟩; refine ⟨_, rfl, yA4 (Kd.aQ (qR HO887) hb) (Kd.aQ (qR HO897) hb) (Kd.dm ho0 (aG (bT HB))) (aj (bT HB) hb) ?_⟩; clear HO887 HO897 HB hb ho0; intro HO887 HO897 HO905 HB) | ((with_reducible refine gC 12 rfl ?_); refine gM 12 63 rfl Try.func12 (dI.calls k t889 t906 t907 t908 _ A17.out) ?_; rintro _ w89 ⟨v909, rfl, ho0, hb⟩; refine ⟨_, rfl, yA5 (Kd.aQ (qR HO887) hb) (Kd.aQ (qR HO897) hb) (Kd.fJ (qR HO905) (Kd.iK ho0) hb) (Kd.dm (Kd.iJ ho0 (Kd.lu (qR HO905))) (aG (bT HB))) (aj (bT HB) hb) ?_⟩; clear HO887 HO897 HO905 HB hb ho0; intro HO887 HO897 HO905 HO910 HB) | (go_at_call 10; (with_reducible refine (aK.calls k _ _ t883 _ _ t893 false _ ?side1 ?side2 ?side3 ?side4 A20.out).mono ?_); (case side1 => exact Z1); (case side2 => exact (Kd.aI HO887.out).2.1); (case side3 => exact Z3); (case side4 => exact (Kd.aI HO897.out).2.1); rintro e w' ⟨rfl, ⟨nd, rfl⟩⟩))
    go_ret
    exact ⟨eT, bT HB⟩
   obtain rfl := Option.some.inj H
   go_enter Try.func4, Try.ntmps4
   go_wp2_with (first | ((with_reducible refine gC 9 rfl ?_); refine gM 9 27 rfl Try.func9 (bV.calls k a0 t883 t884 t885 _ A5.out) ?_; rintro _ w90 ⟨v886, rfl, ho0, hb⟩; refine ⟨_, rfl, yA2 (Kd.dm ho0 (aG (bT HB))) (aj (bT HB) hb) ?_⟩; clear HB hb ho0; intro HO887 HB; obtain ⟨Ao91, co91, rfl⟩ := Kd.bY HO887.out) | ((with_reducible refine gC 7 rfl ?_); refine gM 7 36 rfl Try.func7 (bZ.calls k _ _ t883 t889 t890 t891 _ Z1 ((Kd.aI HO887.out).2.1) A7.out) ?_; rintro _ w92 ⟨rfl, hb⟩; refine ⟨_, rfl, yA2 (Kd.aQ (qR HO887) hb) (aj (bT HB) hb) ?_⟩; clear HO887 HB hb; intro HO887 HB) | ((with_reducible refine gC 9 rfl ?_); refine gM 9 45 rfl Try.func9 (bV.calls k t889 t893 t894 t895 _ A14.out) ?_; rintro _ w93 ⟨v896, rfl, ho0, hb⟩; refine ⟨_, rfl, yA3 (Kd.fJ (qR HO887) (Kd.iK ho0) hb) (Kd.dm (Kd.iJ ho0 (Kd.lu (qR HO887))) (aG (bT HB))) (aj (bT HB) hb) ?_⟩; clear HO887 HB hb ho0; intro HO887 HO897 HB; obtain ⟨Ao94, co94, rfl⟩ := Kd.bY HO897.out) | ((with_reducible refine gC 7 rfl ?_); refine gM 7 51 rfl Try.func7 (bZ.calls k _ _ t893 t898 t899 t900 _ Z3 ((Kd.aI HO897.out).2.1) A15.out) ?_; rintro _ w95 ⟨rfl, hb⟩; refine ⟨_, rfl, yA3 (Kd.aQ (qR HO887) hb) (Kd.aQ (qR HO897) hb) (aj (bT HB) hb) ?_⟩; clear HO887 HO897 HB hb; intro HO887 HO897 HB) | ((with_reducible refine gC 11 rfl ?_); refine gM 11 57 rfl Try.func11 (eY.calls k _ _ t883 t901 t902 t903 _ Z1 ((Kd.aI HO887.out).2.1) A16.out) ?_; rintro _ w96 ⟨v904, rfl, ho0, hb⟩; refine ⟨_, rfl, yA4 (Kd.aQ (qR HO887) hb) (Kd.aQ (qR HO897) hb) (Kd.dm ho0 (aG (bT HB))) (aj (bT HB) hb) ?_⟩; clear HO887 HO897 HB hb ho0; intro HO887 HO897 HO905 HB) | ((with_reducible refine gC 12 rfl ?_); refine gM 12 63 rfl Try.func12 (dI.calls k t889 t906 t907 t908 _ A17.out) ?_; rintro _ w97 ⟨v909, rfl, ho0, hb⟩; refine ⟨_, rfl, yA5 (Kd.aQ (qR HO887) hb) (Kd.aQ (qR HO897) hb) (Kd.fJ (qR HO905) (Kd.iK ho0) hb) (Kd.dm (Kd.iJ ho0 (Kd.lu (qR HO905))) (aG (bT HB))) (aj (bT HB) hb) ?_⟩; clear HO887 HO897 HO905 HB hb ho0; intro HO887 HO897 HO905 HO910 HB))
   go_ret
   exact ⟨eT, bT HB⟩
  obtain rfl := Option.some.inj H
  go_enter Try.func4, Try.ntmps4
  go_wp2_with (first | ((with_reducible refine gC 9 rfl ?_); refine gM 9 27 rfl Try.func9 (bV.calls k a0 t883 t884 t885 _ A5.out) ?_; rintro _ w98 ⟨v886, rfl, ho0, hb⟩; refine ⟨_, rfl, yA2 (Kd.dm ho0 (aG (bT HB))) (aj (bT HB) hb) ?_⟩; clear HB hb ho0; intro HO887 HB; obtain ⟨Ao99, co99, rfl⟩ := Kd.bY HO887.out) | ((with_reducible refine gC 7 rfl ?_); refine gM 7 36 rfl Try.func7 (bZ.calls k _ _ t883 t889 t890 t891 _ Z1 ((Kd.aI HO887.out).2.1) A7.out) ?_; rintro _ w100 ⟨rfl, hb⟩; refine ⟨_, rfl, yA2 (Kd.aQ (qR HO887) hb) (aj (bT HB) hb) ?_⟩; clear HO887 HB hb; intro HO887 HB) | ((with_reducible refine gC 9 rfl ?_); refine gM 9 45 rfl Try.func9 (bV.calls k t889 t893 t894 t895 _ A14.out) ?_; rintro _ w101 ⟨v896, rfl, ho0, hb⟩; refine ⟨_, rfl, yA3 (Kd.fJ (qR HO887) (Kd.iK ho0) hb) (Kd.dm (Kd.iJ ho0 (Kd.lu (qR HO887))) (aG (bT HB))) (aj (bT HB) hb) ?_⟩; clear HO887 HB hb ho0; intro HO887 HO897 HB; obtain ⟨Ao102, co102, rfl⟩ := Kd.bY HO897.out) | ((with_reducible refine gC 7 rfl ?_); refine gM 7 51 rfl Try.func7 (bZ.calls k _ _ t893 t898 t899 t900 _ Z3 ((Kd.aI HO897.out).2.1) A15.out) ?_; rintro _ w103 ⟨rfl, hb⟩; refine ⟨_, rfl, yA3 (Kd.aQ (qR HO887) hb) (Kd.aQ (qR HO897) hb) (aj (bT HB) hb) ?_⟩; clear HO887 HO897 HB hb; intro HO887 HO897 HB) | ((with_reducible refine gC 11 rfl ?_); refine gM 11 57 rfl Try.func11 (eY.calls k _ _ t883 t901 t902 t903 _ Z1 ((Kd.aI HO887.out).2.1) A16.out) ?_; rintro _ w104 ⟨v904, rfl, ho0, hb⟩; refine ⟨_, rfl, yA4 (Kd.aQ (qR HO887) hb) (Kd.aQ (qR HO897) hb) (Kd.dm ho0 (aG (bT HB))) (aj (bT HB) hb) ?_⟩; clear HO887 HO897 HB hb ho0; intro HO887 HO897 HO905 HB) | ((with_reducible refine gC 12 rfl ?_); refine gM 12 63 rfl Try.func12 (dI.calls k t889 t906 t907 t908 _ A17.out) ?_; rintro _ w105 ⟨v909, rfl, ho0, hb⟩; refine ⟨_, rfl, yA5 (Kd.aQ (qR HO887) hb) (Kd.aQ (qR HO897) hb) (Kd.fJ (qR HO905) (Kd.iK ho0) hb) (Kd.dm (Kd.iJ ho0 (Kd.lu (qR HO905))) (aG (bT HB))) (aj (bT HB) hb) ?_⟩; clear HO887 HO897 HO905 HB hb ho0; intro HO887 HO897 HO905 HO910 HB))
  go_ret
  exact ⟨eT, bT HB⟩
 revert H
 refine yB1 fun t888 A106 H => ?_
 obtain rfl := Option.some.inj H
 go_enter Try.func4, Try.ntmps4
 go_wp2_with (first | ((with_reducible refine gC 9 rfl ?_); refine gM 9 27 rfl Try.func9 (bV.calls k a0 t883 t884 t885 _ A5.out) ?_; rintro _ w107 ⟨v886, rfl, ho0, hb⟩; refine ⟨_, rfl, yA2 (Kd.dm ho0 (aG (bT HB))) (aj (bT HB) hb) ?_⟩; clear HB hb ho0; intro HO887 HB) | ((with_reducible refine gC 6 rfl ?_); refine gM 6 33 rfl Try.func6 (bJ.calls k  t888 _ A106.out) ?_; rintro _ w108 ⟨rfl, hb⟩; refine ⟨_, rfl, yA2 (Kd.aQ (qR HO887) hb) (aj (bT HB) hb) ?_⟩; clear HO887 HB hb; intro HO887 HB))
 go_ret
 exact ⟨eT, bT HB⟩
/-- THE ONE PURE STATEMENT of bz: yours. -/
def bz.Pure : Prop := ∀ (a0 : ByteArray), a0.size ≤ 140737488351232 → ∃ k, bz.f k a0 = some true
theorem bz.walk (P : bz.Pure) (a0 : ByteArray) (w : World) (w0 : a0.size ≤ 140737488351232) :
 Calls Try.prog 4 #[.string a0] w fun e w' => e = .returned (.bool true) ∧ Below w.heap.size w w' := by
 obtain ⟨k, h⟩ := P a0 w0
 refine (bz.calls k a0 true w h).mono ?_
 rintro e w' ⟨rfl, hd⟩
 exact ⟨rfl, hd⟩
end Go.Proofs.Ytlenihbmafkegaa.Q
