/- Walks over functions of the program, words for them, and what the functions come to; of each text only what this claim uses; no condition. -/
import Derived.Test.YtkbhkonenkgfoaaGreatZPT0
import Derived.Test.YtkbhkonenkgfoaaGreatZPT1
import Derived.Test.YtkbhkonenkgfoaaGreatZPT3
import Derived.Test.YtkbhkonenkgfoaaGreatZPT4
section
namespace Go.Proofs.YtkbhkonenkgfoaaGreat.Q
open Go.RowKit Go.Proofs.YtkbhkonenkgfoaaGreatW.PrintWords Go.Proofs.YtkbhkonenkgfoaaGreatW.PrintLast Go.Proofs.YtkbhkonenkgfoaaGreatW.PrintMore
attribute [local go_sem] iM iL iK iJ dJ dH dS dR cZ cO dI dG
set_option linter.unusedVariables false
set_option linter.unusedSimpArgs false
/-! ### bn: function 25 -/
def bn.f (s0_0 : List (S37)) (s0_1 : Int) (s0_2 : Bool) (a1 : ByteArray) : Option (Bool × Int × Bool) := if a1.toList = ([] : List UInt8) then (some (false, s0_1, s0_2)) else ((dE.f s0_0 s0_1 s0_2).bind fun bt151 => (if bt151.1.toList = a1.toList then (some (true, wrap64 (bt151.2.1 + 1), bt151.2.2)) else (some (false, bt151.2.1, bt151.2.2))))
set_option maxHeartbeats 8000000 in
set_option maxRecDepth 100000 in
theorem bn.calls (g : Nat) (s0_0 : List (S37)) (s0_1 : Int) (s0_2 : Bool) (a1 : ByteArray) (r1 : Bool) (r2 : Int) (r3 : Bool) (w0 w : World) (hI : dn w0 w g s0_0 s0_1 s0_2) (hB : Below w0.heap.size w0 w) (h : bn.f s0_0 s0_1 s0_2 a1 = some (r1, r2, r3)) :
 Calls Tryz.prog 25 #[.pointer (some ⟨g, 0, none⟩), .string a1] w fun e w' => e = .returned (.bool r1) ∧ dn w0 w' g s0_0 r2 r3 ∧ Below w0.heap.size w0 w' ∧ bY w w' g none := by
 have HI0 := af.mk hI
 have HK := af.mk (bY.refl w g none)
 have HL := af.mk hB.size
 clear hI
 have HW0 := af.mk hB.size
 have HB := af.mk hB
 clear hB
 have H := h
 clear h
 unfold bn.f at H
 revert H
 refine aU (fun c3b0 c3b1 H => ?_) fun c3 c3b0 c3b1 H => ?_
 ·simp only [Option.some.injEq, Prod.mk.injEq] at H
  obtain ⟨rfl, rfl, rfl⟩ := H
  go_enter Tryz.func25, Tryz.ntmps25
  go_wp2
  go_ret
  exact ⟨eT, Z4, bT HB, kT HK⟩
 revert H
 refine yB3 fun t151 t152 t153 A4 H => ?_
 try dsimp only at H
 revert H
 refine aU (fun c5b0 c5b1 H => ?_) fun c5 c5b0 c5b1 H => ?_
 ·simp only [Option.some.injEq, Prod.mk.injEq] at H
  obtain ⟨rfl, rfl, rfl⟩ := H
  go_enter Tryz.func25, Tryz.ntmps25
  go_wp2_with (first | (go_at_call 64; (with_reducible refine (dE.calls g s0_0 s0_1 s0_2 t151 t152 t153 w0 _ ?side1 ?side2 A4.out).mono ?_); (case side1 => exact Z4); (case side2 => repeat (first | (with_reducible first | exact HB.out | apply iE | apply gI | apply fV | refine jc ?_ (dn.ge HI0.out)) | exact HB.out)); rintro e w6 ⟨rfl, hi, hb, hk⟩; refine yA3 (bY.trans (kT HK) hk (.inl rfl)) (hb) (hi) ?_; clear HK HB HI0; intro HK HB HI0; (try clear hb); obtain ⟨ASz7_0, cSz7_0, HGz7, hgz7, HSz7_0⟩ := HI0.out; have hcz7_0 := kC HGz7; have hcz7_1 := kz HGz7; have hcz7_2 := kw HGz7; have hfz7_1 := ae HGz7 1; have hfz7_2 := ae HGz7 2; clear HGz7 hgz7))
  go_ret
  exact ⟨eT, Z4, bT HB, kT HK⟩
 simp only [Option.some.injEq, Prod.mk.injEq] at H
 obtain ⟨rfl, rfl, rfl⟩ := H
 go_enter Tryz.func25, Tryz.ntmps25
 go_wp2_with (first | (go_at_call 64; (with_reducible refine (dE.calls g s0_0 s0_1 s0_2 t151 t152 t153 w0 _ ?side1 ?side2 A4.out).mono ?_); (case side1 => exact Z4); (case side2 => repeat (first | (with_reducible first | exact HB.out | apply iE | apply gI | apply fV | refine jc ?_ (dn.ge HI0.out)) | exact HB.out)); rintro e w8 ⟨rfl, hi, hb, hk⟩; refine yA3 (bY.trans (kT HK) hk (.inl rfl)) (hb) (hi) ?_; clear HK HB HI0; intro HK HB HI0; (try clear hb)))
 go_ret
 exact ⟨eT, Z4, bT HB, kT HK⟩
/-! ### aY: function 23 -/
def aY.f (s0_0 : List (S37)) (s0_1 : Int) (s0_2 : Bool) (a1 : ByteArray) : Option (Int × Bool) := (bn.f s0_0 s0_1 s0_2 a1).bind fun bt154 => (if bt154.1 = true then (some (bt154.2.1, bt154.2.2)) else (some (bt154.2.1, true)))
set_option maxHeartbeats 8000000 in
set_option maxRecDepth 100000 in
theorem aY.calls (g : Nat) (s0_0 : List (S37)) (s0_1 : Int) (s0_2 : Bool) (a1 : ByteArray) (r1 : Int) (r2 : Bool) (w0 w : World) (hI : dn w0 w g s0_0 s0_1 s0_2) (hB : Below w0.heap.size w0 w) (h : aY.f s0_0 s0_1 s0_2 a1 = some (r1, r2)) :
 Calls Tryz.prog 23 #[.pointer (some ⟨g, 0, none⟩), .string a1] w fun e w' => e = .returned (.tuple #[]) ∧ dn w0 w' g s0_0 r1 r2 ∧ Below w0.heap.size w0 w' ∧ bY w w' g none := by
 have HI0 := af.mk hI
 have HK := af.mk (bY.refl w g none)
 have HL := af.mk hB.size
 clear hI
 have HW0 := af.mk hB.size
 have HB := af.mk hB
 clear hB
 have H := h
 clear h
 unfold aY.f at H
 revert H
 refine yB3 fun t154 t155 t156 A3 H => ?_
 try dsimp only at H
 cases t154
 rotate_left
 ·replace H := yT H
  simp only [Option.some.injEq, Prod.mk.injEq] at H
  obtain ⟨rfl, rfl⟩ := H
  go_enter Tryz.func23, Tryz.ntmps23
  go_wp2_with (first | ((with_reducible refine gC 25 rfl ?_); refine gM 25 7 rfl Tryz.func25 (bn.calls g s0_0 s0_1 s0_2 a1 true t155 t156 w0 _ Z4 (bT HB) A3.out) ?_; rintro _ w5 ⟨rfl, hi, hb, hk⟩; refine ⟨_, rfl, yA3 (bY.trans (kT HK) hk (.inl rfl)) (hb) (hi) ?_⟩; clear HK HB HI0 hb; intro HK HB HI0; obtain ⟨ASz6_0, cSz6_0, HGz6, hgz6, HSz6_0⟩ := HI0.out; have hcz6_0 := kC HGz6; have hcz6_1 := kz HGz6; have hcz6_2 := kw HGz6; have hfz6_1 := ae HGz6 1; have hfz6_2 := ae HGz6 2; clear HGz6 hgz6))
  first | go_end0 | ((try simp only [Exit.inBlock, Exit.then]); refine bodyPost_ret (results_none rfl _ _ _) rfl ?_)
  exact ⟨eT, Z4, bT HB, kT HK⟩
 replace H := yF H
 simp only [Option.some.injEq, Prod.mk.injEq] at H
 obtain ⟨rfl, rfl⟩ := H
 go_enter Tryz.func23, Tryz.ntmps23
 go_wp2_with (first | ((with_reducible refine gC 25 rfl ?_); refine gM 25 7 rfl Tryz.func25 (bn.calls g s0_0 s0_1 s0_2 a1 false t155 t156 w0 _ Z4 (bT HB) A3.out) ?_; rintro _ w7 ⟨rfl, hi, hb, hk⟩; refine ⟨_, rfl, yA3 (bY.trans (kT HK) hk (.inl rfl)) (hb) (hi) ?_⟩; clear HK HB HI0 hb; intro HK HB HI0; obtain ⟨ASz8_0, cSz8_0, HGz8, hgz8, HSz8_0⟩ := HI0.out; have hcz8_0 := kC HGz8; have hcz8_1 := kz HGz8; have hcz8_2 := kw HGz8; have hfz8_1 := ae HGz8 1; have hfz8_2 := ae HGz8 2; clear HGz8 hgz8))
 first | go_end0 | ((try simp only [Exit.inBlock, Exit.then]); refine bodyPost_ret (results_none rfl _ _ _) rfl ?_)
 exact ⟨eT, Z4, bT HB, kT HK⟩
/-! ### dF: function 24 -/
def dF.f (s0_0 : List (S37)) (s0_1 : Int) (s0_2 : Bool) (a1 : Int) : Option (Int × ByteArray × Int × Int × Int × Bool) := (kF.f s0_0 s0_1 s0_2).bind fun bt158 => (if bt158.2.2.2.2.1 = true then (if bt158.1 = a1 then (some (bt158.1, bt158.2.1, bt158.2.2.1, bt158.2.2.2.1, wrap64 (bt158.2.2.2.2.2.1 + 1), bt158.2.2.2.2.2.2)) else (some (0, (⟨#[]⟩ : ByteArray), 0, 0, bt158.2.2.2.2.2.1, true))) else (some (0, (⟨#[]⟩ : ByteArray), 0, 0, bt158.2.2.2.2.2.1, true)))
set_option maxHeartbeats 8000000 in
set_option maxRecDepth 100000 in
theorem dF.calls (g : Nat) (s0_0 : List (S37)) (s0_1 : Int) (s0_2 : Bool) (a1 : Int) (r1 : Int) (r2 : ByteArray) (r3 : Int) (r4 : Int) (r5 : Int) (r6 : Bool) (w0 w : World) (hI : dn w0 w g s0_0 s0_1 s0_2) (hB : Below w0.heap.size w0 w) (h : dF.f s0_0 s0_1 s0_2 a1 = some (r1, r2, r3, r4, r5, r6)) :
 Calls Tryz.prog 24 #[.pointer (some ⟨g, 0, none⟩), .int .i64 a1] w fun e w' => e = .returned (.agg #[.int .i64 r1, .string r2, .int .i64 r3, .int .i64 r4]) ∧ dn w0 w' g s0_0 r5 r6 ∧ Below w0.heap.size w0 w' ∧ bY w w' g none := by
 have hu37 := Tryz.underlying37
 have HI0 := af.mk hI
 have HK := af.mk (bY.refl w g none)
 have HL := af.mk hB.size
 clear hI
 have HW0 := af.mk hB.size
 have HB := af.mk hB
 clear hB
 have H := h
 clear h
 unfold dF.f at H
 revert H
 refine yB7 fun t158 t159 t160 t161 t162 t163 t164 A3 H => ?_
 try dsimp only at H
 cases t162
 rotate_left
 ·replace H := yT H
  revert H
  refine aU (fun c5b0 c5b1 H => ?_) fun c5 c5b0 c5b1 H => ?_
  ·simp only [Option.some.injEq, Prod.mk.injEq] at H
   obtain ⟨rfl, rfl, rfl, rfl, rfl, rfl⟩ := H
   go_enter Tryz.func24, Tryz.ntmps24
   go_wp2_with (first | ((with_reducible refine bH (N := 4) rfl ?_); refine fA ?hg (N := 4) ?hd (cs := #[.int .i64 0, .string (⟨#[]⟩ : ByteArray), .int .i64 0, .int .i64 0]) (t := 37) ?hr ?_; (case hd => rfl); (case hg => rfl); (case hr => first | (go_simp; done) | (go_simp; rfl)); intro gb157 hg w6 hbox hb; refine yA8 (dn.below Z4 hb) (bY.trans (kT HK) (bY.of_below hb g none) (.inl rfl)) (aA (bT HB) hb) (hbox) ((by rw [hg]; exact (eY (w := w) (g := g) (row := none) (kT HK)) : w.heap.size ≤ gb157)) ((Nat.le_trans HW0.out (by rw [hg]; exact (eY (w := w) (g := g) (row := none) (kT HK)) : w.heap.size ≤ gb157) : w0.heap.size ≤ gb157)) ((by rw [hg]; exact Nat.ne_of_lt (dn.lt (show dn w0 _ g s0_0 s0_1 s0_2 from Z4)) : g ≠ gb157)) ((by rw [hg]; exact Nat.ne_of_gt (dn.lt (show dn w0 _ g s0_0 s0_1 s0_2 from Z4)) : gb157 ≠ g)) ?_; clear HI0 HK HB; intro HI0 HK HB BK157 GW157 GE157 NB0_157 NB157_0; clear hb hbox hg) | ((with_reducible refine gC 63 rfl ?_); refine gM 63 9 rfl Tryz.func63 (kF.calls g s0_0 s0_1 s0_2 t158 t159 t160 t161 true t163 t164 w0 _ Z6 (bT HB) A3.out) ?_; rintro _ w7 ⟨rfl, hi, hb, hk⟩; refine ⟨_, rfl, yA4 (bY.blk hk (g' := gb157) (o := .cells #[.int .i64 0, .string (⟨#[]⟩ : ByteArray), .int .i64 0, .int .i64 0] 37 (0, 0)) (by exact BK157.out) NB157_0.out (by simp)) (bY.trans (kT HK) hk (.inl rfl)) (hb) (hi) ?_⟩; clear BK157 HK HB HI0 hb; intro BK157 HK HB HI0) | ((with_reducible refine bH (N := 5) rfl ?_); refine fA ?hg (N := 5) ?hd (cs := #[.int .i64 0, .string (⟨#[]⟩ : ByteArray), .int .i64 0, .int .i64 0]) (t := 37) ?hr ?_; (case hd => rfl); (case hg => rfl); (case hr => first | (go_simp; done) | (go_simp; rfl)); intro gb165 hg w8 hbox hb; have n0_ := af.mk (dn.below Z6 hb); have n1_ := af.mk (dL (g := gb157) (o := .cells #[.int .i64 0, .string (⟨#[]⟩ : ByteArray), .int .i64 0, .int .i64 0] 37 (0, 0)) (by exact BK157.out) hb); have n2_ := af.mk (bY.trans (kT HK) (bY.of_below hb g none) (.inl rfl)); have n3_ := af.mk (aA (bT HB) hb); have n4_ := af.mk (hbox); have n5_ := af.mk ((by rw [hg]; exact (eY (w := w) (g := g) (row := none) (kT HK)) : w.heap.size ≤ gb165)); have n6_ := af.mk ((Nat.le_trans HW0.out (by rw [hg]; exact (eY (w := w) (g := g) (row := none) (kT HK)) : w.heap.size ≤ gb165) : w0.heap.size ≤ gb165)); have n7_ := af.mk ((by rw [hg]; exact Nat.ne_of_lt (kH (g := gb157) (o := .cells #[.int .i64 0, .string (⟨#[]⟩ : ByteArray), .int .i64 0, .int .i64 0] 37 (0, 0)) (by exact BK157.out)) : gb157 ≠ gb165)); have n8_ := af.mk ((by rw [hg]; exact Nat.ne_of_gt (kH (g := gb157) (o := .cells #[.int .i64 0, .string (⟨#[]⟩ : ByteArray), .int .i64 0, .int .i64 0] 37 (0, 0)) (by exact BK157.out)) : gb165 ≠ gb157)); have n9_ := af.mk ((by rw [hg]; exact Nat.ne_of_lt (dn.lt (show dn w0 _ g s0_0 t163 t164 from Z6)) : g ≠ gb165)); have n10_ := af.mk ((by rw [hg]; exact Nat.ne_of_gt (dn.lt (show dn w0 _ g s0_0 t163 t164 from Z6)) : gb165 ≠ g)); clear HI0; clear BK157; clear HK; clear HB; have HI0 := n0_; have BK157 := n1_; have HK := n2_; have HB := n3_; have BK165 := n4_; have GW165 := n5_; have GE165 := n6_; have NB157_165 := n7_; have NB165_157 := n8_; have NB0_165 := n9_; have NB165_0 := n10_; clear n0_ n1_ n2_ n3_ n4_ n5_ n6_ n7_ n8_ n9_ n10_; clear hb hbox hg; have hnb9 := NB165_157.out; have hnc9 := NB157_165.out; have hnb10 := NB165_0.out; have hnc10 := NB0_165.out; have hcz11_0 : w8.cell? ⟨gb165, 0, none⟩ = some (.int .i64 0) := (ag BK165.out 0).trans rfl; have hcz11_1 : w8.cell? ⟨gb165, 1, none⟩ = some (.string (⟨#[]⟩ : ByteArray)) := (ag BK165.out 1).trans rfl; have hcz11_2 : w8.cell? ⟨gb165, 2, none⟩ = some (.int .i64 0) := (ag BK165.out 2).trans rfl; have hcz11_3 : w8.cell? ⟨gb165, 3, none⟩ = some (.int .i64 0) := (ag BK165.out 3).trans rfl; have hfz11_0 := ae BK165.out 0; have hfz11_1 := ae BK165.out 1; have hfz11_2 := ae BK165.out 2; have hfz11_3 := ae BK165.out 3; obtain ⟨ASz12_0, cSz12_0, HGz12, hgz12, HSz12_0⟩ := HI0.out; have hcz12_0 := kC HGz12; have hcz12_1 := kz HGz12; have hcz12_2 := kw HGz12; have hfz12_1 := ae HGz12 1; have hfz12_2 := ae HGz12 2; clear HGz12 hgz12; have hnb13 := NB157_0.out; have hnc13 := NB0_157.out; have hcz14_0 : w8.cell? ⟨gb157, 0, none⟩ = some (.int .i64 0) := (ag BK157.out 0).trans rfl; have hcz14_1 : w8.cell? ⟨gb157, 1, none⟩ = some (.string (⟨#[]⟩ : ByteArray)) := (ag BK157.out 1).trans rfl; have hcz14_2 : w8.cell? ⟨gb157, 2, none⟩ = some (.int .i64 0) := (ag BK157.out 2).trans rfl; have hcz14_3 : w8.cell? ⟨gb157, 3, none⟩ = some (.int .i64 0) := (ag BK157.out 3).trans rfl; have hfz14_0 := ae BK157.out 0; have hfz14_1 := ae BK157.out 1; have hfz14_2 := ae BK157.out 2; have hfz14_3 := ae BK157.out 3))
   refine bodyPost_ret (results_cell_row rfl _ _ gb157 37 #[.int .i64 t158, .string t159, .int .i64 t160, .int .i64 t161] (0, 0) _ rfl (by refine bW (cs := #[.int .i64 t158, .string t159, .int .i64 t160, .int .i64 0]) ?_ 3 _ rfl; refine bW (cs := #[.int .i64 t158, .string t159, .int .i64 0, .int .i64 0]) ?_ 2 _ rfl; refine bW (cs := #[.int .i64 t158, .string (⟨#[]⟩ : ByteArray), .int .i64 0, .int .i64 0]) ?_ 1 _ rfl; refine bW (cs := #[.int .i64 0, .string (⟨#[]⟩ : ByteArray), .int .i64 0, .int .i64 0]) ?_ 0 _ rfl; refine fZ ?_ NB157_0.out _; refine fZ ?_ NB157_165.out _; refine fZ ?_ NB157_165.out _; refine fZ ?_ NB157_165.out _; refine fZ ?_ NB157_165.out _; exact BK157.out) Tryz.underlying37 rfl (by kernel_rfl)) rfl ?_
   exact ⟨eT, Z18, bT HB, kT HK⟩
  simp only [Option.some.injEq, Prod.mk.injEq] at H
  obtain ⟨rfl, rfl, rfl, rfl, rfl, rfl⟩ := H
  go_enter Tryz.func24, Tryz.ntmps24
  go_wp2_with (first | ((with_reducible refine bH (N := 4) rfl ?_); refine fA ?hg (N := 4) ?hd (cs := #[.int .i64 0, .string (⟨#[]⟩ : ByteArray), .int .i64 0, .int .i64 0]) (t := 37) ?hr ?_; (case hd => rfl); (case hg => rfl); (case hr => first | (go_simp; done) | (go_simp; rfl)); intro gb157 hg w15 hbox hb; refine yA8 (dn.below Z4 hb) (bY.trans (kT HK) (bY.of_below hb g none) (.inl rfl)) (aA (bT HB) hb) (hbox) ((by rw [hg]; exact (eY (w := w) (g := g) (row := none) (kT HK)) : w.heap.size ≤ gb157)) ((Nat.le_trans HW0.out (by rw [hg]; exact (eY (w := w) (g := g) (row := none) (kT HK)) : w.heap.size ≤ gb157) : w0.heap.size ≤ gb157)) ((by rw [hg]; exact Nat.ne_of_lt (dn.lt (show dn w0 _ g s0_0 s0_1 s0_2 from Z4)) : g ≠ gb157)) ((by rw [hg]; exact Nat.ne_of_gt (dn.lt (show dn w0 _ g s0_0 s0_1 s0_2 from Z4)) : gb157 ≠ g)) ?_; clear HI0 HK HB; intro HI0 HK HB BK157 GW157 GE157 NB0_157 NB157_0; clear hb hbox hg) | ((with_reducible refine gC 63 rfl ?_); refine gM 63 9 rfl Tryz.func63 (kF.calls g s0_0 s0_1 s0_2 t158 t159 t160 t161 true t163 t164 w0 _ Z6 (bT HB) A3.out) ?_; rintro _ w16 ⟨rfl, hi, hb, hk⟩; refine ⟨_, rfl, yA4 (bY.blk hk (g' := gb157) (o := .cells #[.int .i64 0, .string (⟨#[]⟩ : ByteArray), .int .i64 0, .int .i64 0] 37 (0, 0)) (by exact BK157.out) NB157_0.out (by simp)) (bY.trans (kT HK) hk (.inl rfl)) (hb) (hi) ?_⟩; clear BK157 HK HB HI0 hb; intro BK157 HK HB HI0) | ((with_reducible refine bH (N := 5) rfl ?_); refine fA ?hg (N := 5) ?hd (cs := #[.int .i64 0, .string (⟨#[]⟩ : ByteArray), .int .i64 0, .int .i64 0]) (t := 37) ?hr ?_; (case hd => rfl); (case hg => rfl); (case hr => first | (go_simp; done) | (go_simp; rfl)); intro gb165 hg w17 hbox hb; have n0_ := af.mk (dn.below Z6 hb); have n1_ := af.mk (dL (g := gb157) (o := .cells #[.int .i64 0, .string (⟨#[]⟩ : ByteArray), .int .i64 0, .int .i64 0] 37 (0, 0)) (by exact BK157.out) hb); have n2_ := af.mk (bY.trans (kT HK) (bY.of_below hb g none) (.inl rfl)); have n3_ := af.mk (aA (bT HB) hb); have n4_ := af.mk (hbox); have n5_ := af.mk ((by rw [hg]; exact (eY (w := w) (g := g) (row := none) (kT HK)) : w.heap.size ≤ gb165)); have n6_ := af.mk ((Nat.le_trans HW0.out (by rw [hg]; exact (eY (w := w) (g := g) (row := none) (kT HK)) : w.heap.size ≤ gb165) : w0.heap.size ≤ gb165)); have n7_ := af.mk ((by rw [hg]; exact Nat.ne_of_lt (kH (g := gb157) (o := .cells #[.int .i64 0, .string (⟨#[]⟩ : ByteArray), .int .i64 0, .int .i64 0] 37 (0, 0)) (by exact BK157.out)) : gb157 ≠ gb165)); have n8_ := af.mk ((by rw [hg]; exact Nat.ne_of_gt (kH (g := gb157) (o := .cells #[.int .i64 0, .string (⟨#[]⟩ : ByteArray), .int .i64 0, .int .i64 0] 37 (0, 0)) (by exact BK157.out)) : gb165 ≠ gb157)); have n9_ := af.mk ((by rw [hg]; exact Nat.ne_of_lt (dn.lt (show dn w0 _ g s0_0 t163 t164 from Z6)) : g ≠ gb165)); have n10_ := af.mk ((by rw [hg]; exact Nat.ne_of_gt (dn.lt (show dn w0 _ g s0_0 t163 t164 from Z6)) : gb165 ≠ g)); clear HI0; clear BK157; clear HK; clear HB; have HI0 := n0_; have BK157 := n1_; have HK := n2_; have HB := n3_; have BK165 := n4_; have GW165 := n5_; have GE165 := n6_; have NB157_165 := n7_; have NB165_157 := n8_; have NB0_165 := n9_; have NB165_0 := n10_; clear n0_ n1_ n2_ n3_ n4_ n5_ n6_ n7_ n8_ n9_ n10_; clear hb hbox hg; have hnb18 := NB165_157.out; have hnc18 := NB157_165.out; have hnb19 := NB165_0.out; have hnc19 := NB0_165.out; have hcz20_0 : w17.cell? ⟨gb165, 0, none⟩ = some (.int .i64 0) := (ag BK165.out 0).trans rfl; have hcz20_1 : w17.cell? ⟨gb165, 1, none⟩ = some (.string (⟨#[]⟩ : ByteArray)) := (ag BK165.out 1).trans rfl; have hcz20_2 : w17.cell? ⟨gb165, 2, none⟩ = some (.int .i64 0) := (ag BK165.out 2).trans rfl; have hcz20_3 : w17.cell? ⟨gb165, 3, none⟩ = some (.int .i64 0) := (ag BK165.out 3).trans rfl; have hfz20_0 := ae BK165.out 0; have hfz20_1 := ae BK165.out 1; have hfz20_2 := ae BK165.out 2; have hfz20_3 := ae BK165.out 3; obtain ⟨ASz21_0, cSz21_0, HGz21, hgz21, HSz21_0⟩ := HI0.out; have hcz21_0 := kC HGz21; have hcz21_1 := kz HGz21; have hcz21_2 := kw HGz21; have hfz21_1 := ae HGz21 1; have hfz21_2 := ae HGz21 2; clear HGz21 hgz21; have hnb22 := NB157_0.out; have hnc22 := NB0_157.out; have hcz23_0 : w17.cell? ⟨gb157, 0, none⟩ = some (.int .i64 0) := (ag BK157.out 0).trans rfl; have hcz23_1 : w17.cell? ⟨gb157, 1, none⟩ = some (.string (⟨#[]⟩ : ByteArray)) := (ag BK157.out 1).trans rfl; have hcz23_2 : w17.cell? ⟨gb157, 2, none⟩ = some (.int .i64 0) := (ag BK157.out 2).trans rfl; have hcz23_3 : w17.cell? ⟨gb157, 3, none⟩ = some (.int .i64 0) := (ag BK157.out 3).trans rfl; have hfz23_0 := ae BK157.out 0; have hfz23_1 := ae BK157.out 1; have hfz23_2 := ae BK157.out 2; have hfz23_3 := ae BK157.out 3))
  refine bodyPost_ret (results_cell_row rfl _ _ gb157 37 #[.int .i64 0, .string (⟨#[]⟩ : ByteArray), .int .i64 0, .int .i64 0] (0, 0) _ rfl (by refine bW (cs := #[.int .i64 0, .string (⟨#[]⟩ : ByteArray), .int .i64 0, .int .i64 0]) ?_ 3 _ rfl; refine bW (cs := #[.int .i64 0, .string (⟨#[]⟩ : ByteArray), .int .i64 0, .int .i64 0]) ?_ 2 _ rfl; refine bW (cs := #[.int .i64 0, .string (⟨#[]⟩ : ByteArray), .int .i64 0, .int .i64 0]) ?_ 1 _ rfl; refine bW (cs := #[.int .i64 0, .string (⟨#[]⟩ : ByteArray), .int .i64 0, .int .i64 0]) ?_ 0 _ rfl; refine fZ ?_ NB157_0.out _; refine fZ ?_ NB157_165.out _; refine fZ ?_ NB157_165.out _; refine fZ ?_ NB157_165.out _; refine fZ ?_ NB157_165.out _; exact BK157.out) Tryz.underlying37 rfl (by kernel_rfl)) rfl ?_
  exact ⟨eT, Z18, bT HB, kT HK⟩
 replace H := yF H
 simp only [Option.some.injEq, Prod.mk.injEq] at H
 obtain ⟨rfl, rfl, rfl, rfl, rfl, rfl⟩ := H
 go_enter Tryz.func24, Tryz.ntmps24
 go_wp2_with (first | ((with_reducible refine bH (N := 4) rfl ?_); refine fA ?hg (N := 4) ?hd (cs := #[.int .i64 0, .string (⟨#[]⟩ : ByteArray), .int .i64 0, .int .i64 0]) (t := 37) ?hr ?_; (case hd => rfl); (case hg => rfl); (case hr => first | (go_simp; done) | (go_simp; rfl)); intro gb157 hg w24 hbox hb; refine yA8 (dn.below Z4 hb) (bY.trans (kT HK) (bY.of_below hb g none) (.inl rfl)) (aA (bT HB) hb) (hbox) ((by rw [hg]; exact (eY (w := w) (g := g) (row := none) (kT HK)) : w.heap.size ≤ gb157)) ((Nat.le_trans HW0.out (by rw [hg]; exact (eY (w := w) (g := g) (row := none) (kT HK)) : w.heap.size ≤ gb157) : w0.heap.size ≤ gb157)) ((by rw [hg]; exact Nat.ne_of_lt (dn.lt (show dn w0 _ g s0_0 s0_1 s0_2 from Z4)) : g ≠ gb157)) ((by rw [hg]; exact Nat.ne_of_gt (dn.lt (show dn w0 _ g s0_0 s0_1 s0_2 from Z4)) : gb157 ≠ g)) ?_; clear HI0 HK HB; intro HI0 HK HB BK157 GW157 GE157 NB0_157 NB157_0; clear hb hbox hg) | ((with_reducible refine gC 63 rfl ?_); refine gM 63 9 rfl Tryz.func63 (kF.calls g s0_0 s0_1 s0_2 t158 t159 t160 t161 false t163 t164 w0 _ Z6 (bT HB) A3.out) ?_; rintro _ w25 ⟨rfl, hi, hb, hk⟩; refine ⟨_, rfl, yA4 (bY.blk hk (g' := gb157) (o := .cells #[.int .i64 0, .string (⟨#[]⟩ : ByteArray), .int .i64 0, .int .i64 0] 37 (0, 0)) (by exact BK157.out) NB157_0.out (by simp)) (bY.trans (kT HK) hk (.inl rfl)) (hb) (hi) ?_⟩; clear BK157 HK HB HI0 hb; intro BK157 HK HB HI0) | ((with_reducible refine bH (N := 5) rfl ?_); refine fA ?hg (N := 5) ?hd (cs := #[.int .i64 0, .string (⟨#[]⟩ : ByteArray), .int .i64 0, .int .i64 0]) (t := 37) ?hr ?_; (case hd => rfl); (case hg => rfl); (case hr => first | (go_simp; done) | (go_simp; rfl)); intro gb165 hg w26 hbox hb; have n0_ := af.mk (dn.below Z6 hb); have n1_ := af.mk (dL (g := gb157) (o := .cells #[.int .i64 0, .string (⟨#[]⟩ : ByteArray), .int .i64 0, .int .i64 0] 37 (0, 0)) (by exact BK157.out) hb); have n2_ := af.mk (bY.trans (kT HK) (bY.of_below hb g none) (.inl rfl)); have n3_ := af.mk (aA (bT HB) hb); have n4_ := af.mk (hbox); have n5_ := af.mk ((by rw [hg]; exact (eY (w := w) (g := g) (row := none) (kT HK)) : w.heap.size ≤ gb165)); have n6_ := af.mk ((Nat.le_trans HW0.out (by rw [hg]; exact (eY (w := w) (g := g) (row := none) (kT HK)) : w.heap.size ≤ gb165) : w0.heap.size ≤ gb165)); have n7_ := af.mk ((by rw [hg]; exact Nat.ne_of_lt (kH (g := gb157) (o := .cells #[.int .i64 0, .string (⟨#[]⟩ : ByteArray), .int .i64 0, .int .i64 0] 37 (0, 0)) (by exact BK157.out)) : gb157 ≠ gb165)); have n8_ := af.mk ((by rw [hg]; exact Nat.ne_of_gt (kH (g := gb157) (o := .cells #[.int .i64 0, .string (⟨#[]⟩ : ByteArray), .int .i64 0, .int .i64 0] 37 (0, 0)) (by exact BK157.out)) : gb165 ≠ gb157)); have n9_ := af.mk ((by rw [hg]; exact Nat.ne_of_lt (dn.lt (show dn w0 _ g s0_0 t163 t164 from Z6)) : g ≠ gb165)); have n10_ := af.mk ((by rw [hg]; exact Nat.ne_of_gt (dn.lt (show dn w0 _ g s0_0 t163 t164 from Z6)) : gb165 ≠ g)); clear HI0; clear BK157; clear HK; clear HB; have HI0 := n0_; have BK157 := n1_; have HK := n2_; have HB := n3_; have BK165 := n4_; have GW165 := n5_; have GE165 := n6_; have NB157_165 := n7_; have NB165_157 := n8_; have NB0_165 := n9_; have NB165_0 := n10_; clear n0_ n1_ n2_ n3_ n4_ n5_ n6_ n7_ n8_ n9_ n10_; clear hb hbox hg; have hnb27 := NB165_157.out; have hnc27 := NB157_165.out; have hnb28 := NB165_0.out; have hnc28 := NB0_165.out; have hcz29_0 : w26.cell? ⟨gb165, 0, none⟩ = some (.int .i64 0) := (ag BK165.out 0).trans rfl; have hcz29_1 : w26.cell? ⟨gb165, 1, none⟩ = some (.string (⟨#[]⟩ : ByteArray)) := (ag BK165.out 1).trans rfl; have hcz29_2 : w26.cell? ⟨gb165, 2, none⟩ = some (.int .i64 0) := (ag BK165.out 2).trans rfl; have hcz29_3 : w26.cell? ⟨gb165, 3, none⟩ = some (.int .i64 0) := (ag BK165.out 3).trans rfl; have hfz29_0 := ae BK165.out 0; have hfz29_1 := ae BK165.out 1; have hfz29_2 := ae BK165.out 2; have hfz29_3 := ae BK165.out 3; obtain ⟨ASz30_0, cSz30_0, HGz30, hgz30, HSz30_0⟩ := HI0.out; have hcz30_0 := kC HGz30; have hcz30_1 := kz HGz30; have hcz30_2 := kw HGz30; have hfz30_1 := ae HGz30 1; have hfz30_2 := ae HGz30 2; clear HGz30 hgz30; have hnb31 := NB157_0.out; have hnc31 := NB0_157.out; have hcz32_0 : w26.cell? ⟨gb157, 0, none⟩ = some (.int .i64 0) := (ag BK157.out 0).trans rfl; have hcz32_1 : w26.cell? ⟨gb157, 1, none⟩ = some (.string (⟨#[]⟩ : ByteArray)) := (ag BK157.out 1).trans rfl; have hcz32_2 : w26.cell? ⟨gb157, 2, none⟩ = some (.int .i64 0) := (ag BK157.out 2).trans rfl; have hcz32_3 : w26.cell? ⟨gb157, 3, none⟩ = some (.int .i64 0) := (ag BK157.out 3).trans rfl; have hfz32_0 := ae BK157.out 0; have hfz32_1 := ae BK157.out 1; have hfz32_2 := ae BK157.out 2; have hfz32_3 := ae BK157.out 3))
 refine bodyPost_ret (results_cell_row rfl _ _ gb157 37 #[.int .i64 0, .string (⟨#[]⟩ : ByteArray), .int .i64 0, .int .i64 0] (0, 0) _ rfl (by refine bW (cs := #[.int .i64 0, .string (⟨#[]⟩ : ByteArray), .int .i64 0, .int .i64 0]) ?_ 3 _ rfl; refine bW (cs := #[.int .i64 0, .string (⟨#[]⟩ : ByteArray), .int .i64 0, .int .i64 0]) ?_ 2 _ rfl; refine bW (cs := #[.int .i64 0, .string (⟨#[]⟩ : ByteArray), .int .i64 0, .int .i64 0]) ?_ 1 _ rfl; refine bW (cs := #[.int .i64 0, .string (⟨#[]⟩ : ByteArray), .int .i64 0, .int .i64 0]) ?_ 0 _ rfl; refine fZ ?_ NB157_0.out _; refine fZ ?_ NB157_165.out _; refine fZ ?_ NB157_165.out _; refine fZ ?_ NB157_165.out _; refine fZ ?_ NB157_165.out _; exact BK157.out) Tryz.underlying37 rfl (by kernel_rfl)) rfl ?_
 exact ⟨eT, Z18, bT HB, kT HK⟩
/-! ### aW: function 28 -/
def aW.l0 : Nat → List (S29) → List (List (S29)) → Int → Int → Option ((List (S29)))
 | 0, _, _, _, _ => none
 | k + 1, x5, x13, x14, x15 => if x15 < x14 then (if 0 ≤ x15 then (if x15 < (x13.length : Int) then (if x5.length + (mZ x13 x15).length < 2513169434916 then (aW.l0 k (x5 ++ (mZ x13 x15)) x13 x14 (wrap64 (x15 + 1))) else (none)) else (none)) else (none)) else (some x5)
def aW.f (k : Nat) (a0_0 : Int) (a0_1 : Int) (a0_2 : ByteArray) (a0_3 : Int) (a0_4 : ByteArray) (l1 : List (List (S29))) : Option ((List (S29))) := aW.l0 k (([(⟨a0_0, (l1.length : Int), a0_2, a0_3, a0_4⟩ : S29)] : List (S29))) l1 (l1.length : Int) 0
theorem aW.bZ : ∀ k, (∀ y0 y1 y2 y3, LeO (aW.l0 k y0 y1 y2 y3) (aW.l0 (k + 1) y0 y1 y2 y3))
 | 0 => fun _ _ _ _ r h => by simp [aW.l0] at h
 | k + 1 => by
  have ih0 := aW.bZ k
  intro y0 y1 y2 y3
  unfold aW.l0
  exact yL
theorem aW.mono : ∀ a0 a1 a2 a3 a4 a5 k, LeO (aW.f k a0 a1 a2 a3 a4 a5) (aW.f (k + 1) a0 a1 a2 a3 a4 a5) := by
 intro a0 a1 a2 a3 a4 a5 k
 have ih0 := aW.bZ k
 unfold aW.f
 exact yL
set_option maxHeartbeats 8000000 in
set_option maxRecDepth 100000 in
theorem aW.calls (k : Nat) (a0_0 : Int) (a0_1 : Int) (a0_2 : ByteArray) (a0_3 : Int) (a0_4 : ByteArray) (A1 : Option Addr) (c1 : Nat) (l1 : List (List (S29))) (r : List (S29)) (w : World) (hr1 : Kd.C (Kd.slice 29 k29) w A1 l1.length l1) (hc1 : l1.length ≤ c1) (h : aW.f k a0_0 a0_1 a0_2 a0_3 a0_4 l1 = some r) :
 Calls Tryz.prog 28 #[.agg #[.int .i64 a0_0, .int .i64 a0_1, .string a0_2, .int .i64 a0_3, .string a0_4], .slice A1 l1.length c1] w fun e w' => ∃ v0_ : Value, e = .returned (v0_) ∧ Kd.R k29 29 w' w.heap.size (fun _ => True) v0_ r ∧ Below w.heap.size w w' := by
 have hu29 := Tryz.underlying29
 have HR1 := af.mk hr1
 have HC1 := af.mk hc1
 clear hr1 hc1
 have HB := af.mk (Below.refl w.heap.size w)
 have H := h
 clear h
 unfold aW.f at H
 obtain ⟨y167, hy167⟩ : ∃ y_ : List (S29), y_ = (([(⟨a0_0, (l1.length : Int), a0_2, a0_3, a0_4⟩ : S29)] : List (S29))) := ⟨_, rfl⟩
 replace H : (aW.l0 k y167 l1 (l1.length : Int) 0) = some r := by first | (rw [hy167]; with_reducible exact H) | (have H2_ := (Option.bind_some _ _).symm.trans H; rw [hy167]; with_reducible exact H2_) | (have H2_ := (Option.bind_some _ _).symm.trans H; with_reducible exact H2_) | with_reducible exact H | (rw [hy167]; exact H) | exact H
 have Ny167 := af.mk hy167
 clear hy167
 have H' := af.mk H
 clear H
 go_enter Tryz.func28, Tryz.ntmps28
 go_wp2_with (first | ((with_reducible refine bH (N := 2) rfl ?_); refine fA ?hg (N := 2) ?hd (cs := #[.int .i64 a0_0, .int .i64 a0_1, .string a0_2, .int .i64 a0_3, .string a0_4]) (t := 29) ?hr ?_; (case hd => rfl); (case hg => rfl); (case hr => first | (go_simp; done) | (go_simp; rfl)); intro gb166 hg w3 hbox hb; refine yA4 (aA (bT HB) hb) (hbox) ((by rw [hg]; exact (bD (bT HB)) : w.heap.size ≤ gb166)) ((by rw [hg]; exact (bD (bT HB)) : w.heap.size ≤ gb166)) ?_; clear HB; intro HB BK166 GW166 GE166; clear hb hbox hg; have hcz4_0 : w3.cell? ⟨gb166, 0, none⟩ = some (.int .i64 a0_0) := (ag BK166.out 0).trans rfl; have hcz4_1 : w3.cell? ⟨gb166, 1, none⟩ = some (.int .i64 a0_1) := (ag BK166.out 1).trans rfl; have hcz4_2 : w3.cell? ⟨gb166, 2, none⟩ = some (.string a0_2) := (ag BK166.out 2).trans rfl; have hcz4_3 : w3.cell? ⟨gb166, 3, none⟩ = some (.int .i64 a0_3) := (ag BK166.out 3).trans rfl; have hcz4_4 : w3.cell? ⟨gb166, 4, none⟩ = some (.string a0_4) := (ag BK166.out 4).trans rfl; have hfz4_0 := ae BK166.out 0; have hfz4_1 := ae BK166.out 1; have hfz4_2 := ae BK166.out 2; have hfz4_3 := ae BK166.out 3; have hfz4_4 := ae BK166.out 4) | ((with_reducible refine bH (N := 12) rfl ?_); refine Kd.pO k29 _ 29 ?hg (N := 12) ?hd (xs := ([(⟨a0_0, (l1.length : Int), a0_2, a0_3, a0_4⟩ : S29)] : List (S29))) (inner := [.int .i64 a0_0, .int .i64 (l1.length : Int), .string a0_2, .int .i64 a0_3, .string a0_4]) (ok := fun _ => True) (okp := fun _ => True) ?hr ?hp (fun _ hk => hk) trivial (Below.refl _ _) (Nat.le_refl _) (by simp) ?_; (case hd => rfl); (case hg => rfl); (case hr => first | (go_simp; done) | (go_simp; rfl)); (case hp => exact (eG.c5 (show Kd.M k29 _ _ _ (⟨a0_0, (l1.length : Int), a0_2, a0_3, a0_4⟩ : S29) [.int .i64 a0_0, .int .i64 (l1.length : Int), .string a0_2, .int .i64 a0_3, .string a0_4] from (xJ _ _ _ (⟨a0_0, (l1.length : Int), a0_2, a0_3, a0_4⟩ : S29) )) (eG.none _ _))); intro v168 w5 ho6 hb hg_ hnew_; clear hg_ hnew_; (first | rw [← Ny167.out] at ho6 | (simp only [Int.reduceToNat] at ho6; rw [← Ny167.out] at ho6)); refine yA3 (Kd.iw (Kd.EY ho6 (g := gb166) (o := .cells #[.int .i64 a0_0, .int .i64 (l1.length : Int), .string a0_2, .int .i64 a0_3, .string a0_4] 29 (0, 0)) (by refine bW (cs := #[.int .i64 a0_0, .int .i64 a0_1, .string a0_2, .int .i64 a0_3, .string a0_4]) ?_ 1 _ rfl; exact BK166.out)) (bD (bT HB))) (dL (g := gb166) (o := .cells #[.int .i64 a0_0, .int .i64 (l1.length : Int), .string a0_2, .int .i64 a0_3, .string a0_4] 29 (0, 0)) (by refine bW (cs := #[.int .i64 a0_0, .int .i64 a0_1, .string a0_2, .int .i64 a0_3, .string a0_4]) ?_ 1 _ rfl; exact BK166.out) hb) (aA (bT HB) hb) ?_; clear BK166 HB; intro HO169 BK166 HB; clear hb ho6))
 (try simp only [Act.put, List.setIfInBounds_toArray, List.set_cons_zero, List.set_cons_succ])
 go_loopg [5, 15] k (fun kq v5 v15 w' => ∃ (x5_1 : List (S29)) (x15_1 : Int), v15 = .int .i64 x15_1 ∧ af (aW.l0 kq x5_1 l1 (l1.length : Int) x15_1 = some r) ∧ af (kq ≤ k) ∧ af (Kd.R k29 29 w' w.heap.size (fun k_ => k_ ≠ gb166) v5 x5_1) ∧ af (w'.heap[gb166]? = some (.cells #[.int .i64 a0_0, .int .i64 (l1.length : Int), .string a0_2, .int .i64 a0_3, .string a0_4] 29 (0, 0))) ∧ af (Below w.heap.size w w'))
 case atStart => exact ⟨(y167), (0), fT, H', ⟨Nat.le_refl _⟩, ⟨by (with_reducible repeat (first | apply Kd.iP | apply Kd.iI | apply Kd.jf)); exact Kd.jb HO169.out (fun _ hk => hk.2)⟩, ⟨by exact BK166.out⟩, ⟨bT HB⟩⟩
 case round =>
  clear H'
  try clear c1
  try clear c2
  try clear p2
  try clear c5
  try clear hcz4_0
  try clear hcz4_1
  try clear hcz4_2
  try clear hcz4_3
  try clear hcz4_4
  try clear hfz4_0
  try clear hfz4_1
  try clear hfz4_2
  try clear hfz4_3
  try clear hfz4_4
  obtain ⟨x5_1, x15_1, rfl, HA, HK1, HO_5, BK166, HB⟩ := hrel
  cases gk with
  | zero => exact absurd HA.out (by simp [aW.l0])
  | succ k1 =>
   have H := HA.out
   clear HA
   simp only [aW.l0] at H
   revert H
   refine iR (fun c7b0 H => ?_) fun c7b0 H => ?_
   ·revert H
    refine gB (fun c8b0 H => ?_) fun c8 H => ?_
    ·revert H
     refine gB (fun c9b0 H => ?_) fun c9 H => ?_
     ·revert H
      refine gU (fun c10 H => ?_) fun c10 H => ?_
      ·have LMc10 := af.mk c10
       clear c10
       obtain ⟨y171, hy171⟩ : ∃ y_ : List (S29), y_ = (x5_1 ++ (mZ l1 x15_1)) := ⟨_, rfl⟩
       replace H : (aW.l0 k1 y171 l1 (l1.length : Int) (wrap64 (x15_1 + 1))) = some r := by first | (rw [hy171]; with_reducible exact H) | (have H2_ := (Option.bind_some _ _).symm.trans H; rw [hy171]; with_reducible exact H2_) | (have H2_ := (Option.bind_some _ _).symm.trans H; with_reducible exact H2_) | with_reducible exact H | (rw [hy171]; exact H) | exact H
       have Ny171 := af.mk hy171
       clear hy171
       have H' := af.mk H
       clear H
       have p170 : 0 ≤ (x15_1 : Int) := of_decide_eq_true aT
       have q170 : x15_1 < (l1.length : Int) := of_decide_eq_true aT
       obtain ⟨ad170, A170_0, c170_0, e170, hx170_0, hl170_0, hi170_0⟩ := Hy HR1.out x15_1 p170 q170
       cases e170
       replace hx170_0 := (HB.out.cell (World.block_lt_of_cell? w _ hx170_0)).trans hx170_0
       have HR170_0 := af.mk hi170_0
       have HC170_0 := af.mk hl170_0
       clear hi170_0 hl170_0
       replace p170 := eq_true p170
       replace q170 := eq_true q170
       go_wp2_with (first | ((with_reducible refine ed (b := .append) (xs := #[.tmp 19, .tmp 20]) rfl ?_); at_builtin; refine Kd.lD k29 (w0 := w) w.heap.size rfl (.tmp 19) (.tmp 20) 23 29 (.agg #[(.int .i64 0), (.int .i64 0), (.string ⟨#[]⟩), (.int .i64 0), (.string ⟨#[]⟩)]) 56 rfl Tryz.underlying23 tC rfl (by decide) (by omega) u5 x5_1 (mZ l1 x15_1) _ _ _ (fun k_ => k_ ≠ gb166) (fun _ => False) rfl rfl ?aO ?aR (fun _ _ h => h) (fun _ h => h.elim) ?aF ?aB ?aS ?aL ?_; (case aR => repeat (first | exact (Kd.jW HR170_0.out HB.out) | (with_reducible refine Kd.jR ?_ _) | (with_reducible refine Kd.jQ ?_ _) | (with_reducible refine Kd.kV ?_))); (case aB => exact (bT HB)); (case aF => exact (fun k_ hk => Kd.vM (g := gb166) (o := .cells #[.int .i64 a0_0, .int .i64 (l1.length : Int), .string a0_2, .int .i64 a0_3, .string a0_4] 29 (0, 0)) (by exact BK166.out) k_ hk)); (case aO => exact (qR HO_5)); (case aS => exact (bD (bT HB))); (case aL => have := LMc10.out; omega); intro v172 w11 ho hb hg hat; rw [← Ny171.out] at ho; refine yA3 (kN (g := gb166) (o := .cells #[.int .i64 a0_0, .int .i64 (l1.length : Int), .string a0_2, .int .i64 a0_3, .string a0_4] 29 (0, 0)) (by exact BK166.out) hg (Kd.AL HO_5.out (fun _ hk => hk))) (hb) (ho) ?_; clear BK166 HB HO_5; intro BK166 HB HO173; clear ho hb hg hat))
       go_roundg k1
       case measure => have := HK1.out; omega
       case rel => exact ⟨(y171), (wrap64 (x15_1 + 1)), fT, H', ⟨by have := HK1.out; omega⟩, ⟨qR HO173⟩, ⟨by exact BK166.out⟩, ⟨bT HB⟩⟩
      exact absurd H (by simp)
     exact absurd H (by simp)
    exact absurd H (by simp)
   obtain rfl := Option.some.inj H
   go_wp2
   go_ret
   exact ⟨_, eT, by (with_reducible repeat (first | apply Kd.iP | apply Kd.iI | apply Kd.jf)); exact Kd.jb HO_5.out (fun _ hk => trivial), bT HB⟩
end Go.Proofs.YtkbhkonenkgfoaaGreat.Q
end
section
namespace Go.Proofs.YtkbhkonenkgfoaaGreat.Q
open Go.RowKit Go.Proofs.YtkbhkonenkgfoaaGreatW.PrintWords Go.Proofs.YtkbhkonenkgfoaaGreatW.PrintLast Go.Proofs.YtkbhkonenkgfoaaGreatW.PrintMore
attribute [local go_sem] iM iL iK iJ dJ dH dS dR cZ cO dI dG
set_option linter.unusedVariables false
set_option linter.unusedSimpArgs false
/-! ### gu: function 26 -/
def gu.f (k : Nat) (s0_0 : List (S37)) (s0_1 : Int) (s0_2 : Bool) : Option ((List (S29)) × Int × Bool) := (dF.f s0_0 s0_1 s0_2 1).bind fun bt174 => ((aY.f s0_0 bt174.2.2.2.2.1 bt174.2.2.2.2.2 (⟨#[46]⟩ : ByteArray)).bind fun bt181 => ((dF.f s0_0 bt181.1 bt181.2 1).bind fun bt183 => ((aY.f s0_0 bt183.2.2.2.2.1 bt183.2.2.2.2.2 (⟨#[47]⟩ : ByteArray)).bind fun bt189 => ((dF.f s0_0 bt189.1 bt189.2 2).bind fun bt191 => ((aY.f s0_0 bt191.2.2.2.2.1 bt191.2.2.2.2.2 (⟨#[59]⟩ : ByteArray)).bind fun bt197 => ((aW.f k 2 0 bt174.2.1 bt191.2.2.1 bt183.2.1 ([] : List (List (S29)))).bind fun t199 => (some (t199, bt197.1, bt197.2))))))))
theorem gu.mono : ∀ a0 a1 a2 k, LeO (gu.f k a0 a1 a2) (gu.f (k + 1) a0 a1 a2) := by
 intro a0 a1 a2 k
 unfold gu.f
 have m0 := aW.mono
 exact yL
-- BY HAND: function 114 (runtime_boundsError_Error)
/-! ### dO: function 95 -/
def dO.f (F : Fam) (k : Nat) (s0_0 : List (S37)) (s0_1 : Int) (s0_2 : Bool) (a1_0 : Int) (a1_1 : Int) (a1_2 : ByteArray) (a1_3 : Int) (a1_4 : ByteArray) : Option ((List (S29)) × Int × Bool) := (jM.f F k s0_0 s0_1 s0_2).bind fun bt203 => ((aY.f s0_0 bt203.2.1 bt203.2.2 (⟨#[59]⟩ : ByteArray)).bind fun bt208 => ((aW.f k a1_0 a1_1 a1_2 a1_3 a1_4 (([bt203.1] : List (List (S29))))).bind fun t213 => (some (t213, bt208.1, bt208.2))))
theorem dO.mono {F F' : Fam} (HLE : kS F F') : ∀ a0 a1 a2 a3 a4 a5 a6 a7 k, LeO (dO.f F k a0 a1 a2 a3 a4 a5 a6 a7) (dO.f F' (k + 1) a0 a1 a2 a3 a4 a5 a6 a7) := by
 intro a0 a1 a2 a3 a4 a5 a6 a7 k
 unfold dO.f
 have m0 := aW.mono
 have m1 := (jM.mono HLE)
 exact yL
/-! ### fK: function 97 -/
def fK.f (k : Nat) (s0_0 : List (S37)) (s0_1 : Int) (s0_2 : Bool) (a1 : Int) : Option ((List (S29)) × Int × Bool) := (aY.f s0_0 s0_1 s0_2 (⟨#[59]⟩ : ByteArray)).bind fun bt216 => ((aW.f k a1 0 (⟨#[]⟩ : ByteArray) 0 (⟨#[]⟩ : ByteArray) ([] : List (List (S29)))).bind fun t218 => (some (t218, bt216.1, bt216.2)))
theorem fK.mono : ∀ a0 a1 a2 a3 k, LeO (fK.f k a0 a1 a2 a3) (fK.f (k + 1) a0 a1 a2 a3) := by
 intro a0 a1 a2 a3 k
 unfold fK.f
 have m0 := aW.mono
 exact yL
end Go.Proofs.YtkbhkonenkgfoaaGreat.Q
end
section
namespace Go.Proofs.YtkbhkonenkgfoaaGreat.Q
open Go.RowKit Go.Proofs.YtkbhkonenkgfoaaGreatW.PrintWords Go.Proofs.YtkbhkonenkgfoaaGreatW.PrintLast Go.Proofs.YtkbhkonenkgfoaaGreatW.PrintMore
attribute [local go_sem] iM iL iK iJ dJ dH dS dR cZ cO dI dG
set_option linter.unusedVariables false
set_option linter.unusedSimpArgs false
/-! ### df: function 98 -/
def df.j0 (F : Fam) : Nat → List (S29) → Bool → List (S37) → Int → Bool → Option ((List (S29)) × Int × Bool)
 | 0, _, _, _, _, _ => none
 | k + 1, x3, x8, x1000, x1001, x1002 => if x8 = true then ((aY.f x1000 x1001 x1002 (⟨#[59]⟩ : ByteArray)).bind fun bt244 => ((aW.f k 17 0 (⟨#[]⟩ : ByteArray) 0 (⟨#[]⟩ : ByteArray) (([x3] : List (List (S29))))).bind fun t249 => (some (t249, bt244.1, bt244.2)))) else (if 0 < (x3.length : Int) then (if ((ax x3 0).f0) = 21 then ((aY.f x1000 x1001 x1002 (⟨#[61]⟩ : ByteArray)).bind fun bt253 => ((dO.f F k x1000 bt253.1 bt253.2 7 0 ((ax x3 0).f2) 0 (⟨#[]⟩ : ByteArray)).bind fun bt256 => (some (bt256.1, bt256.2.1, bt256.2.2)))) else (if ((ax x3 0).f0) = 26 then ((aY.f x1000 x1001 x1002 (⟨#[61]⟩ : ByteArray)).bind fun bt262 => ((eX.f k x3 0).bind fun t264 => ((jM.f F k x1000 bt262.1 bt262.2).bind fun bt267 => ((aY.f x1000 bt267.2.1 bt267.2.2 (⟨#[59]⟩ : ByteArray)).bind fun bt272 => (if 0 < (t264.length : Int) then ((jg.f k x3 (rd t264 0)).bind fun t275 => (if 1 < (t264.length : Int) then ((jg.f k x3 (rd t264 1)).bind fun t279 => ((aW.f k 8 0 (⟨#[]⟩ : ByteArray) 0 (⟨#[]⟩ : ByteArray) (([t275, t279, bt267.1] : List (List (S29))))).bind fun t285 => (some (t285, bt272.1, bt272.2)))) else (none))) else (none)))))) else (some (([] : List (S29)), x1001, true)))) else (none))
def df.f (F : Fam) (k : Nat) (s0_0 : List (S37)) (s0_1 : Int) (s0_2 : Bool) : Option ((List (S29)) × Int × Bool) := (jM.f F k s0_0 s0_1 s0_2).bind fun bt236 => (if bt236.2.2 = true then (df.j0 F k bt236.1 true s0_0 bt236.2.1 bt236.2.2) else ((dE.f s0_0 bt236.2.1 bt236.2.2).bind fun bt241 => (df.j0 F k bt236.1 (bt241.1.toList != ([61] : List UInt8)) s0_0 bt241.2.1 bt241.2.2)))
theorem df.bZ {F F' : Fam} (HLE : kS F F') : ∀ k, (∀ y0 y1 y2 y3 y4, LeO (df.j0 F k y0 y1 y2 y3 y4) (df.j0 F' (k + 1) y0 y1 y2 y3 y4))
 | 0 => fun _ _ _ _ _ r h => by simp [df.j0] at h
 | k + 1 => by
  have ih0 := df.bZ HLE k
  intro y0 y1 y2 y3 y4
  unfold df.j0
  have m0 := aW.mono
  have m1 := (dO.mono HLE)
  have m2 := (jM.mono HLE)
  have m3 := eX.mono
  have m4 := jg.mono
  exact yL
theorem df.mono {F F' : Fam} (HLE : kS F F') : ∀ a0 a1 a2 k, LeO (df.f F k a0 a1 a2) (df.f F' (k + 1) a0 a1 a2) := by
 intro a0 a1 a2 k
 have ih0 := df.bZ HLE k
 unfold df.f
 have m0 := aW.mono
 have m1 := (dO.mono HLE)
 have m2 := (jM.mono HLE)
 have m3 := eX.mono
 have m4 := jg.mono
 exact yL
end Go.Proofs.YtkbhkonenkgfoaaGreat.Q
end
section
namespace Go.Proofs.YtkbhkonenkgfoaaGreat.Q
open Go.RowKit Go.Proofs.YtkbhkonenkgfoaaGreatW.PrintWords Go.Proofs.YtkbhkonenkgfoaaGreatW.PrintLast Go.Proofs.YtkbhkonenkgfoaaGreatW.PrintMore
attribute [local go_sem] iM iL iK iJ dJ dH dS dR cZ cO dI dG
set_option linter.unusedVariables false
set_option linter.unusedSimpArgs false
/-! ### aV: function 91 -/
mutual
def aV.j1 (F : Fam) : Nat → ByteArray → Int → List (S37) → Int → Bool → Option ((List (S29)) × Int × Bool)
 | 0, _, _, _, _, _ => none
 | k + 1, x3, x4, x1000, x1001, x1002 => if x4 = 0 then ((df.f F k x1000 x1001 x1002).bind fun bt378 => (some (bt378.1, bt378.2.1, bt378.2.2))) else ((bn.f x1000 x1001 x1002 x3).bind fun bt383 => ((dO.f F k x1000 bt383.2.1 bt383.2.2 x4 0 (⟨#[]⟩ : ByteArray) 0 (⟨#[]⟩ : ByteArray)).bind fun bt386 => (some (bt386.1, bt386.2.1, bt386.2.2))))
def aV.j0 (F : Fam) : Nat → ByteArray → Int → List (S37) → Int → Bool → Option ((List (S29)) × Int × Bool)
 | 0, _, _, _, _, _ => none
 | k + 1, x3, x4, x1000, x1001, x1002 => if x4 = 0 then ((bn.f x1000 x1001 x1002 x3).bind fun bt362 => ((fK.f k x1000 bt362.2.1 bt362.2.2 16).bind fun bt365 => (some (bt365.1, bt365.2.1, bt365.2.2)))) else ((bn.f x1000 x1001 x1002 x3).bind fun bt370 => ((fK.f k x1000 bt370.2.1 bt370.2.2 x4).bind fun bt373 => (some (bt373.1, bt373.2.1, bt373.2.2))))
end
def aV.f (F : Fam) (k : Nat) (s0_0 : List (S37)) (s0_1 : Int) (s0_2 : Bool) : Option ((List (S29)) × Int × Bool) := (dE.f s0_0 s0_1 s0_2).bind fun bt288 => (if bt288.1.toList = ([108, 101, 116] : List UInt8) then ((bn.f s0_0 bt288.2.1 bt288.2.2 bt288.1).bind fun bt291 => ((dF.f s0_0 bt291.2.1 bt291.2.2 1).bind fun bt294 => ((aY.f s0_0 bt294.2.2.2.2.1 bt294.2.2.2.2.2 (⟨#[61]⟩ : ByteArray)).bind fun bt300 => ((dO.f F k s0_0 bt300.1 bt300.2 6 0 bt294.2.1 0 (⟨#[]⟩ : ByteArray)).bind fun bt302 => (some (bt302.1, bt302.2.1, bt302.2.2)))))) else (if bt288.1.toList = ([105, 102] : List UInt8) then ((bn.f s0_0 bt288.2.1 bt288.2.2 bt288.1).bind fun bt307 => ((jM.f F k s0_0 bt307.2.1 bt307.2.2).bind fun bt310 => ((some (([bt310.1] : List (List (S29))) : List (List (S29)))).bind fun y315 => ((lT.f F k s0_0 bt310.2.1 bt310.2.2).bind fun bt318 => (if y315.length < 5864062014805 then ((some (y315 ++ [bt318.1] : List (List (S29)))).bind fun y323 => ((bn.f s0_0 bt318.2.1 bt318.2.2 (⟨#[101, 108, 115, 101]⟩ : ByteArray)).bind fun bt326 => (if bt326.1 = true then ((lT.f F k s0_0 bt326.2.1 bt326.2.2).bind fun bt329 => (if y323.length < 5864062014805 then ((aW.f k 9 0 (⟨#[]⟩ : ByteArray) 0 (⟨#[]⟩ : ByteArray) (y323 ++ [bt329.1])).bind fun t337 => (some (t337, bt329.2.1, bt329.2.2))) else (none))) else ((aW.f k 9 0 (⟨#[]⟩ : ByteArray) 0 (⟨#[]⟩ : ByteArray) y323).bind fun t340 => (some (t340, bt326.2.1, bt326.2.2)))))) else (none)))))) else (if bt288.1.toList = ([119, 104, 105, 108, 101] : List UInt8) then ((bn.f s0_0 bt288.2.1 bt288.2.2 bt288.1).bind fun bt343 => ((jM.f F k s0_0 bt343.2.1 bt343.2.2).bind fun bt346 => ((lT.f F k s0_0 bt346.2.1 bt346.2.2).bind fun bt351 => ((aW.f k 10 0 (⟨#[]⟩ : ByteArray) 0 (⟨#[]⟩ : ByteArray) (([bt346.1, bt351.1] : List (List (S29))))).bind fun t359 => (some (t359, bt351.2.1, bt351.2.2)))))) else (if bt288.1.toList = ([98, 114, 101, 97, 107] : List UInt8) then (if 11 = 0 then (aV.j0 F k bt288.1 12 s0_0 bt288.2.1 bt288.2.2) else (aV.j0 F k bt288.1 11 s0_0 bt288.2.1 bt288.2.2)) else (if bt288.1.toList = ([99, 111, 110, 116, 105, 110, 117, 101] : List UInt8) then (if 0 = 0 then (aV.j0 F k bt288.1 12 s0_0 bt288.2.1 bt288.2.2) else (aV.j0 F k bt288.1 0 s0_0 bt288.2.1 bt288.2.2)) else (if bt288.1.toList = ([121, 105, 101, 108, 100] : List UInt8) then (aV.j0 F k bt288.1 0 s0_0 bt288.2.1 bt288.2.2) else (if bt288.1.toList = ([114, 101, 116, 117, 114, 110] : List UInt8) then (aV.j1 F k bt288.1 13 s0_0 bt288.2.1 bt288.2.2) else (if bt288.1.toList = ([112, 117, 116] : List UInt8) then (aV.j1 F k bt288.1 14 s0_0 bt288.2.1 bt288.2.2) else (if bt288.1.toList = ([101, 109, 105, 116] : List UInt8) then (aV.j1 F k bt288.1 15 s0_0 bt288.2.1 bt288.2.2) else (aV.j1 F k bt288.1 0 s0_0 bt288.2.1 bt288.2.2))))))))))
theorem aV.bZ {F F' : Fam} (HLE : kS F F') : ∀ k, (∀ y0 y1 y2 y3 y4, LeO (aV.j1 F k y0 y1 y2 y3 y4) (aV.j1 F' (k + 1) y0 y1 y2 y3 y4)) ∧ (∀ y0 y1 y2 y3 y4, LeO (aV.j0 F k y0 y1 y2 y3 y4) (aV.j0 F' (k + 1) y0 y1 y2 y3 y4))
 | 0 => ⟨fun _ _ _ _ _ r h => by simp [aV.j1] at h, fun _ _ _ _ _ r h => by simp [aV.j0] at h⟩
 | k + 1 => by
  obtain ⟨ih0, ih1⟩ := aV.bZ HLE k
  refine ⟨?_, ?_⟩
  ·intro y0 y1 y2 y3 y4
   unfold aV.j1
   have m0 := aW.mono
   have m1 := fK.mono
   have m2 := (dO.mono HLE)
   have m3 := (df.mono HLE)
   have m4 := (lT.mono HLE)
   have m5 := (jM.mono HLE)
   exact yL
  intro y0 y1 y2 y3 y4
  unfold aV.j0
  have m0 := aW.mono
  have m1 := fK.mono
  have m2 := (dO.mono HLE)
  have m3 := (df.mono HLE)
  have m4 := (lT.mono HLE)
  have m5 := (jM.mono HLE)
  exact yL
theorem aV.mono {F F' : Fam} (HLE : kS F F') : ∀ a0 a1 a2 k, LeO (aV.f F k a0 a1 a2) (aV.f F' (k + 1) a0 a1 a2) := by
 intro a0 a1 a2 k
 obtain ⟨ih0, ih1⟩ := aV.bZ HLE k
 unfold aV.f
 have m0 := aW.mono
 have m1 := fK.mono
 have m2 := (dO.mono HLE)
 have m3 := (df.mono HLE)
 have m4 := (lT.mono HLE)
 have m5 := (jM.mono HLE)
 exact yL
end Go.Proofs.YtkbhkonenkgfoaaGreat.Q
end
section
namespace Go.Proofs.YtkbhkonenkgfoaaGreat.Q
open Go.RowKit Go.Proofs.YtkbhkonenkgfoaaGreatW.PrintWords Go.Proofs.YtkbhkonenkgfoaaGreatW.PrintLast Go.Proofs.YtkbhkonenkgfoaaGreatW.PrintMore
attribute [local go_sem] iM iL iK iJ dJ dH dS dR cZ cO dI dG
set_option linter.unusedVariables false
set_option linter.unusedSimpArgs false
/-! ### bU: function 67 -/
def bU.l0 (F : Fam) : Nat → List (List (S29)) → List (S37) → Int → Bool → Option ((List (S29)) × Int × Bool)
 | 0, _, _, _, _ => none
 | k + 1, x3, x1000, x1001, x1002 => if x1002 = true then ((aY.f x1000 x1001 x1002 (⟨#[125]⟩ : ByteArray)).bind fun bt393 => ((aW.f k 5 0 (⟨#[]⟩ : ByteArray) 0 (⟨#[]⟩ : ByteArray) x3).bind fun t395 => (some (t395, bt393.1, bt393.2)))) else ((dE.f x1000 x1001 x1002).bind fun bt398 => (if bt398.1.toList = ([125] : List UInt8) then ((aY.f x1000 bt398.2.1 bt398.2.2 (⟨#[125]⟩ : ByteArray)).bind fun bt401 => ((aW.f k 5 0 (⟨#[]⟩ : ByteArray) 0 (⟨#[]⟩ : ByteArray) x3).bind fun t403 => (some (t403, bt401.1, bt401.2)))) else ((aV.f F k x1000 bt398.2.1 bt398.2.2).bind fun bt406 => (if x3.length < 5864062014805 then (bU.l0 F k (x3 ++ [bt406.1]) x1000 bt406.2.1 bt406.2.2) else (none)))))
def bU.f (F : Fam) (k : Nat) (s0_0 : List (S37)) (s0_1 : Int) (s0_2 : Bool) : Option ((List (S29)) × Int × Bool) := (aY.f s0_0 s0_1 s0_2 (⟨#[123]⟩ : ByteArray)).bind fun bt391 => (bU.l0 F k ([] : List (List (S29))) s0_0 bt391.1 bt391.2)
theorem bU.bZ {F F' : Fam} (HLE : kS F F') : ∀ k, (∀ y0 y1 y2 y3, LeO (bU.l0 F k y0 y1 y2 y3) (bU.l0 F' (k + 1) y0 y1 y2 y3))
 | 0 => fun _ _ _ _ r h => by simp [bU.l0] at h
 | k + 1 => by
  have ih0 := bU.bZ HLE k
  intro y0 y1 y2 y3
  unfold bU.l0
  have m0 := aW.mono
  have m1 := (aV.mono HLE)
  exact yL
theorem bU.mono {F F' : Fam} (HLE : kS F F') : ∀ a0 a1 a2 k, LeO (bU.f F k a0 a1 a2) (bU.f F' (k + 1) a0 a1 a2) := by
 intro a0 a1 a2 k
 have ih0 := bU.bZ HLE k
 unfold bU.f
 have m0 := aW.mono
 have m1 := (aV.mono HLE)
 exact yL
/-! ### fB: function 66 -/
def fB.f (k : Nat) (s0_0 : List (S37)) (s0_1 : Int) (s0_2 : Bool) : Option ((List (S29)) × Int × Bool) := (dF.f s0_0 s0_1 s0_2 1).bind fun bt414 => ((aW.f k 4 0 bt414.2.1 0 (⟨#[]⟩ : ByteArray) ([] : List (List (S29)))).bind fun t420 => (some (t420, bt414.2.2.2.2.1, bt414.2.2.2.2.2)))
theorem fB.mono : ∀ a0 a1 a2 k, LeO (fB.f k a0 a1 a2) (fB.f (k + 1) a0 a1 a2) := by
 intro a0 a1 a2 k
 unfold fB.f
 have m0 := aW.mono
 exact yL
end Go.Proofs.YtkbhkonenkgfoaaGreat.Q
end
section
namespace Go.Proofs.YtkbhkonenkgfoaaGreat.Q
open Go.RowKit Go.Proofs.YtkbhkonenkgfoaaGreatW.PrintWords Go.Proofs.YtkbhkonenkgfoaaGreatW.PrintLast Go.Proofs.YtkbhkonenkgfoaaGreatW.PrintMore
attribute [local go_sem] iM iL iK iJ dJ dH dS dR cZ cO dI dG
set_option linter.unusedVariables false
set_option linter.unusedSimpArgs false
/-! ### gz: function 118 -/
mutual
def gz.l0 : Nat → List (List (S29)) → List (S37) → Int → Bool → Option ((List (List (S29))) × Int × Bool)
 | 0, _, _, _, _ => none
 | k + 1, x5, x1000, x1001, x1002 => if x1002 = true then (gz.j1 k x5 false x1000 x1001 x1002) else ((dE.f x1000 x1001 x1002).bind fun bt425 => (gz.j1 k x5 (bt425.1.toList != ([41] : List UInt8)) x1000 bt425.2.1 bt425.2.2))
def gz.j1 : Nat → List (List (S29)) → Bool → List (S37) → Int → Bool → Option ((List (List (S29))) × Int × Bool)
 | 0, _, _, _, _, _ => none
 | k + 1, x5, x17, x1000, x1001, x1002 => if x17 = true then (if (x5.length : Int) > 0 then ((aY.f x1000 x1001 x1002 (⟨#[44]⟩ : ByteArray)).bind fun bt430 => ((fB.f k x1000 bt430.1 bt430.2).bind fun bt432 => (if x5.length < 5864062014805 then (gz.l0 k (x5 ++ [bt432.1]) x1000 bt432.2.1 bt432.2.2) else (none)))) else ((fB.f k x1000 x1001 x1002).bind fun bt440 => (if x5.length < 5864062014805 then (gz.l0 k (x5 ++ [bt440.1]) x1000 bt440.2.1 bt440.2.2) else (none)))) else ((aY.f x1000 x1001 x1002 (⟨#[41]⟩ : ByteArray)).bind fun bt428 => (some (x5, bt428.1, bt428.2)))
end
def gz.f (k : Nat) (s0_0 : List (S37)) (s0_1 : Int) (s0_2 : Bool) : Option ((List (List (S29))) × Int × Bool) := (aY.f s0_0 s0_1 s0_2 (⟨#[40]⟩ : ByteArray)).bind fun bt423 => (gz.l0 k ([] : List (List (S29))) s0_0 bt423.1 bt423.2)
theorem gz.bZ : ∀ k, (∀ y0 y1 y2 y3, LeO (gz.l0 k y0 y1 y2 y3) (gz.l0 (k + 1) y0 y1 y2 y3)) ∧ (∀ y0 y1 y2 y3 y4, LeO (gz.j1 k y0 y1 y2 y3 y4) (gz.j1 (k + 1) y0 y1 y2 y3 y4))
 | 0 => ⟨fun _ _ _ _ r h => by simp [gz.l0] at h, fun _ _ _ _ _ r h => by simp [gz.j1] at h⟩
 | k + 1 => by
  obtain ⟨ih0, ih1⟩ := gz.bZ k
  refine ⟨?_, ?_⟩
  ·intro y0 y1 y2 y3
   unfold gz.l0
   have m0 := fB.mono
   exact yL
  intro y0 y1 y2 y3 y4
  unfold gz.j1
  have m0 := fB.mono
  exact yL
theorem gz.mono : ∀ a0 a1 a2 k, LeO (gz.f k a0 a1 a2) (gz.f (k + 1) a0 a1 a2) := by
 intro a0 a1 a2 k
 obtain ⟨ih0, ih1⟩ := gz.bZ k
 unfold gz.f
 have m0 := fB.mono
 exact yL
end Go.Proofs.YtkbhkonenkgfoaaGreat.Q
end
section
namespace Go.Proofs.YtkbhkonenkgfoaaGreat.Q
open Go.RowKit Go.Proofs.YtkbhkonenkgfoaaGreatW.PrintWords Go.Proofs.YtkbhkonenkgfoaaGreatW.PrintLast Go.Proofs.YtkbhkonenkgfoaaGreatW.PrintMore
attribute [local go_sem] iM iL iK iJ dJ dH dS dR cZ cO dI dG
set_option linter.unusedVariables false
set_option linter.unusedSimpArgs false
/-! ### dw: function 27 -/
def dw.f (F : Fam) (k : Nat) (s0_0 : List (S37)) (s0_1 : Int) (s0_2 : Bool) (a1_0 : Int) (a1_1 : Int) (a1_2 : ByteArray) (a1_3 : Int) (a1_4 : ByteArray) : Option ((List (S29)) × Int × Bool) := (gz.f k s0_0 s0_1 s0_2).bind fun bt449 => ((bU.f F k s0_0 bt449.2.1 bt449.2.2).bind fun bt454 => (if bt449.1.length < 5864062014805 then ((aW.f k a1_0 a1_1 a1_2 a1_3 a1_4 (bt449.1 ++ [bt454.1])).bind fun t462 => (some (t462, bt454.2.1, bt454.2.2))) else (none)))
theorem dw.mono {F F' : Fam} (HLE : kS F F') : ∀ a0 a1 a2 a3 a4 a5 a6 a7 k, LeO (dw.f F k a0 a1 a2 a3 a4 a5 a6 a7) (dw.f F' (k + 1) a0 a1 a2 a3 a4 a5 a6 a7) := by
 intro a0 a1 a2 a3 a4 a5 a6 a7 k
 unfold dw.f
 have m0 := aW.mono
 have m1 := (bU.mono HLE)
 have m2 := gz.mono
 exact yL
def dw.T2 : Bool × List (List Nat × List Nat) := (true, [([], []), ([], []), ([], []), ([2], [2]), ([3], [3]), ([1, 4, 3], [1, 4]), ([0, 5, 5], [0, 5]), ([6, 6, 0, 1, 2, 3, 4, 5, 6], [6])])
def dw.B2 : List Nat := [0, 0, 0, 4, 12, 30, 63, 127]
theorem dw.D5 : nI .any (opsOf Tryz.f27 2) = dw.T2 := by kernel_rfl
theorem dw.zx : oQ dw.T2.2 dw.B2 = true := by kernel_rfl
end Go.Proofs.YtkbhkonenkgfoaaGreat.Q
end
section
namespace Go.Proofs.YtkbhkonenkgfoaaGreat.Q
open Go.RowKit Go.Proofs.YtkbhkonenkgfoaaGreatW.PrintWords Go.Proofs.YtkbhkonenkgfoaaGreatW.PrintLast Go.Proofs.YtkbhkonenkgfoaaGreatW.PrintMore
attribute [local go_sem] iM iL iK iJ dJ dH dS dR cZ cO dI dG
set_option linter.unusedVariables false
set_option linter.unusedSimpArgs false
/-! ### aX: function 14 -/
mutual
def aX.l0 (F : Fam) : Nat → List (List (S29)) → List (S37) → Int → Bool → Int → Int → ByteArray → Int → ByteArray → Option ((List (S29)) × Int × Bool)
 | 0, _, _, _, _, _, _, _, _, _ => none
 | k + 1, x4, x1000, x1001, x1002, x474000, x474001, x474002, x474003, x474004 => (bn.f x1000 x1001 x1002 (⟨#[117, 115, 101]⟩ : ByteArray)).bind fun bt482 => (if bt482.1 = true then ((gu.f k x1000 bt482.2.1 bt482.2.2).bind fun bt485 => (if x4.length < 5864062014805 then (aX.l0 F k (x4 ++ [bt485.1]) x1000 bt485.2.1 bt485.2.2 x474000 x474001 x474002 x474003 x474004) else (none))) else (aX.l1 F k x4 x1000 bt482.2.1 bt482.2.2 x474000 x474001 x474002 x474003 x474004))
def aX.l1 (F : Fam) : Nat → List (List (S29)) → List (S37) → Int → Bool → Int → Int → ByteArray → Int → ByteArray → Option ((List (S29)) × Int × Bool)
 | 0, _, _, _, _, _, _, _, _, _ => none
 | k + 1, x4, x1000, x1001, x1002, x474000, x474001, x474002, x474003, x474004 => (bn.f x1000 x1001 x1002 (⟨#[102, 110]⟩ : ByteArray)).bind fun bt493 => (if bt493.1 = true then ((dF.f x1000 bt493.2.1 bt493.2.2 1).bind fun bt496 => ((dw.f F k x1000 bt496.2.2.2.2.1 bt496.2.2.2.2.2 3 0 bt496.2.1 0 (⟨#[]⟩ : ByteArray)).bind fun bt502 => (if x4.length < 5864062014805 then (aX.l1 F k (x4 ++ [bt502.1]) x1000 bt502.2.1 bt502.2.2 x474000 x474001 x474002 x474003 x474004) else (none)))) else ((aW.f k x474000 x474001 x474002 x474003 x474004 x4).bind fun t510 => (some (t510, bt493.2.1, bt493.2.2))))
end
def aX.f (F : Fam) (k : Nat) (s0_0 : List (S37)) (s0_1 : Int) (s0_2 : Bool) : Option ((List (S29)) × Int × Bool) := (aY.f s0_0 s0_1 s0_2 (⟨#[109, 111, 100, 117, 108, 101]⟩ : ByteArray)).bind fun bt465 => ((dF.f s0_0 bt465.1 bt465.2 1).bind fun bt467 => ((dF.f s0_0 bt467.2.2.2.2.1 bt467.2.2.2.2.2 2).bind fun bt474 => ((aY.f s0_0 bt474.2.2.2.2.1 bt474.2.2.2.2.2 (⟨#[59]⟩ : ByteArray)).bind fun bt480 => (aX.l0 F k ([] : List (List (S29))) s0_0 bt480.1 bt480.2 1 0 bt467.2.1 bt474.2.2.1 (⟨#[]⟩ : ByteArray)))))
theorem aX.bZ {F F' : Fam} (HLE : kS F F') : ∀ k, (∀ y0 y1 y2 y3 y4 y5 y6 y7 y8, LeO (aX.l0 F k y0 y1 y2 y3 y4 y5 y6 y7 y8) (aX.l0 F' (k + 1) y0 y1 y2 y3 y4 y5 y6 y7 y8)) ∧ (∀ y0 y1 y2 y3 y4 y5 y6 y7 y8, LeO (aX.l1 F k y0 y1 y2 y3 y4 y5 y6 y7 y8) (aX.l1 F' (k + 1) y0 y1 y2 y3 y4 y5 y6 y7 y8))
 | 0 => ⟨fun _ _ _ _ _ _ _ _ _ r h => by simp [aX.l0] at h, fun _ _ _ _ _ _ _ _ _ r h => by simp [aX.l1] at h⟩
 | k + 1 => by
  obtain ⟨ih0, ih1⟩ := aX.bZ HLE k
  refine ⟨?_, ?_⟩
  ·intro y0 y1 y2 y3 y4 y5 y6 y7 y8
   unfold aX.l0
   have m0 := aW.mono
   have m1 := (dw.mono HLE)
   have m2 := gu.mono
   exact yL
  intro y0 y1 y2 y3 y4 y5 y6 y7 y8
  unfold aX.l1
  have m0 := aW.mono
  have m1 := (dw.mono HLE)
  have m2 := gu.mono
  exact yL
theorem aX.mono {F F' : Fam} (HLE : kS F F') : ∀ a0 a1 a2 k, LeO (aX.f F k a0 a1 a2) (aX.f F' (k + 1) a0 a1 a2) := by
 intro a0 a1 a2 k
 obtain ⟨ih0, ih1⟩ := aX.bZ HLE k
 unfold aX.f
 have m0 := aW.mono
 have m1 := (dw.mono HLE)
 have m2 := gu.mono
 exact yL
end Go.Proofs.YtkbhkonenkgfoaaGreat.Q
end
