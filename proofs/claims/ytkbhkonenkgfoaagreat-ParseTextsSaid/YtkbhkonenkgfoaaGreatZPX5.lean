/- Walks over functions of the program, words for them, and what the functions come to; of each text only what this claim uses; no condition. -/
import Derived.Test.YtkbhkonenkgfoaaGreatZPX0
import Derived.Test.YtkbhkonenkgfoaaGreatZPX1
import Derived.Test.YtkbhkonenkgfoaaGreatZPX3
import Derived.Test.YtkbhkonenkgfoaaGreatZPX4
section
namespace Go.Proofs.YtkbhkonenkgfoaaGreat.Q
open Go.RowKit Go.Proofs.YtkbhkonenkgfoaaGreatW.PrintWords Go.Proofs.YtkbhkonenkgfoaaGreatW.PrintLast Go.Proofs.YtkbhkonenkgfoaaGreatW.PrintMore
attribute [local go_sem] iW iV iU iR dJ dH dW dV dh df dI dG
set_option linter.unusedVariables false
set_option linter.unusedSimpArgs false
/-! ### bn: function 25 -/
def bn.f (s0_0 : List (S37)) (s0_1 : Int) (s0_2 : Bool) (a1 : ByteArray) : Option (Bool × Int × Bool) := if a1.toList = ([] : List UInt8) then (some (false, s0_1, s0_2)) else ((dN.f s0_0 s0_1 s0_2).bind fun bt151 => (if bt151.1.toList = a1.toList then (some (true, wrap64 (bt151.2.1 + 1), bt151.2.2)) else (some (false, bt151.2.1, bt151.2.2))))
set_option maxHeartbeats 8000000 in
set_option maxRecDepth 100000 in
theorem bn.calls (g : Nat) (s0_0 : List (S37)) (s0_1 : Int) (s0_2 : Bool) (a1 : ByteArray) (r1 : Bool) (r2 : Int) (r3 : Bool) (w0 w : World) (hI : dB w0 w g s0_0 s0_1 s0_2) (hB : Below w0.heap.size w0 w) (h : bn.f s0_0 s0_1 s0_2 a1 = some (r1, r2, r3)) :
 Calls Tryz.prog 25 #[.pointer (some ⟨g, 0, none⟩), .string a1] w fun e w' => e = .returned (.bool r1) ∧ dB w0 w' g s0_0 r2 r3 ∧ Below w0.heap.size w0 w' ∧ cO w w' g none := by
 have HI0 := ae.mk hI
 have HK := ae.mk (cO.refl w g none)
 have HL := ae.mk hB.size
 clear hI
 have HW0 := ae.mk hB.size
 have HB := ae.mk hB
 clear hB
 have H := h
 clear h
 unfold bn.f at H
 revert H
 refine cZ (fun c3b0 c3b1 H => ?_) fun c3 c3b0 c3b1 H => ?_
 ·simp only [Option.some.injEq, Prod.mk.injEq] at H
  obtain ⟨rfl, rfl, rfl⟩ := H
  go_enter Tryz.func25, Tryz.ntmps25
  go_wp2
  go_ret
  exact ⟨eT, Z3, bT HB, kT HK⟩
 revert H
 refine yB3 fun t151 t152 t153 A4 H => ?_
 try dsimp only at H
 revert H
 refine cZ (fun c5b0 c5b1 H => ?_) fun c5 c5b0 c5b1 H => ?_
 ·simp only [Option.some.injEq, Prod.mk.injEq] at H
  obtain ⟨rfl, rfl, rfl⟩ := H
  go_enter Tryz.func25, Tryz.ntmps25
  go_wp2_with (first | (go_at_call 64; (with_reducible refine (dN.calls g s0_0 s0_1 s0_2 t151 t152 t153 w0 _ ?side1 ?side2 A4.out).mono ?_); (case side1 => exact Z3); (case side2 => repeat (first | (with_reducible first | exact HB.out | apply iF | apply gQ | apply jc | refine iZ ?_ (dB.ge HI0.out)) | exact HB.out)); rintro e w6 ⟨rfl, hi, hb, hk⟩; refine yA3 (cO.trans (kT HK) hk (.inl rfl)) (hb) (hi) ?_; clear HK HB HI0; intro HK HB HI0; (try clear hb); obtain ⟨ASz7_0, cSz7_0, HGz7, hgz7, HSz7_0⟩ := HI0.out; have hcz7_0 := kM HGz7; have hcz7_1 := kL HGz7; have hcz7_2 := kK HGz7; have hfz7_1 := ag HGz7 1; have hfz7_2 := ag HGz7 2; clear HGz7 hgz7))
  go_ret
  exact ⟨eT, Z3, bT HB, kT HK⟩
 simp only [Option.some.injEq, Prod.mk.injEq] at H
 obtain ⟨rfl, rfl, rfl⟩ := H
 go_enter Tryz.func25, Tryz.ntmps25
 go_wp2_with (first | (go_at_call 64; (with_reducible refine (dN.calls g s0_0 s0_1 s0_2 t151 t152 t153 w0 _ ?side1 ?side2 A4.out).mono ?_); (case side1 => exact Z3); (case side2 => repeat (first | (with_reducible first | exact HB.out | apply iF | apply gQ | apply jc | refine iZ ?_ (dB.ge HI0.out)) | exact HB.out)); rintro e w8 ⟨rfl, hi, hb, hk⟩; refine yA3 (cO.trans (kT HK) hk (.inl rfl)) (hb) (hi) ?_; clear HK HB HI0; intro HK HB HI0; (try clear hb)))
 go_ret
 exact ⟨eT, Z3, bT HB, kT HK⟩
/-! ### bg: function 23 -/
def bg.f (s0_0 : List (S37)) (s0_1 : Int) (s0_2 : Bool) (a1 : ByteArray) : Option (Int × Bool) := (bn.f s0_0 s0_1 s0_2 a1).bind fun bt154 => (if bt154.1 = true then (some (bt154.2.1, bt154.2.2)) else (some (bt154.2.1, true)))
set_option maxHeartbeats 8000000 in
set_option maxRecDepth 100000 in
theorem bg.calls (g : Nat) (s0_0 : List (S37)) (s0_1 : Int) (s0_2 : Bool) (a1 : ByteArray) (r1 : Int) (r2 : Bool) (w0 w : World) (hI : dB w0 w g s0_0 s0_1 s0_2) (hB : Below w0.heap.size w0 w) (h : bg.f s0_0 s0_1 s0_2 a1 = some (r1, r2)) :
 Calls Tryz.prog 23 #[.pointer (some ⟨g, 0, none⟩), .string a1] w fun e w' => e = .returned (.tuple #[]) ∧ dB w0 w' g s0_0 r1 r2 ∧ Below w0.heap.size w0 w' ∧ cO w w' g none := by
 have HI0 := ae.mk hI
 have HK := ae.mk (cO.refl w g none)
 have HL := ae.mk hB.size
 clear hI
 have HW0 := ae.mk hB.size
 have HB := ae.mk hB
 clear hB
 have H := h
 clear h
 unfold bg.f at H
 revert H
 refine yB3 fun t154 t155 t156 A3 H => ?_
 try dsimp only at H
 cases t154
 rotate_left
 ·replace H := yT H
  simp only [Option.some.injEq, Prod.mk.injEq] at H
  obtain ⟨rfl, rfl⟩ := H
  go_enter Tryz.func23, Tryz.ntmps23
  go_wp2_with (first | ((with_reducible refine gC 25 rfl ?_); refine gM 25 7 rfl Tryz.func25 (bn.calls g s0_0 s0_1 s0_2 a1 true t155 t156 w0 _ Z3 (bT HB) A3.out) ?_; rintro _ w5 ⟨rfl, hi, hb, hk⟩; refine ⟨_, rfl, yA3 (cO.trans (kT HK) hk (.inl rfl)) (hb) (hi) ?_⟩; clear HK HB HI0 hb; intro HK HB HI0; obtain ⟨ASz6_0, cSz6_0, HGz6, hgz6, HSz6_0⟩ := HI0.out; have hcz6_0 := kM HGz6; have hcz6_1 := kL HGz6; have hcz6_2 := kK HGz6; have hfz6_1 := ag HGz6 1; have hfz6_2 := ag HGz6 2; clear HGz6 hgz6))
  first | go_end0 | ((try simp only [Exit.inBlock, Exit.then]); refine bodyPost_ret (results_none rfl _ _ _) rfl ?_)
  exact ⟨eT, Z3, bT HB, kT HK⟩
 replace H := yF H
 simp only [Option.some.injEq, Prod.mk.injEq] at H
 obtain ⟨rfl, rfl⟩ := H
 go_enter Tryz.func23, Tryz.ntmps23
 go_wp2_with (first | ((with_reducible refine gC 25 rfl ?_); refine gM 25 7 rfl Tryz.func25 (bn.calls g s0_0 s0_1 s0_2 a1 false t155 t156 w0 _ Z3 (bT HB) A3.out) ?_; rintro _ w7 ⟨rfl, hi, hb, hk⟩; refine ⟨_, rfl, yA3 (cO.trans (kT HK) hk (.inl rfl)) (hb) (hi) ?_⟩; clear HK HB HI0 hb; intro HK HB HI0; obtain ⟨ASz8_0, cSz8_0, HGz8, hgz8, HSz8_0⟩ := HI0.out; have hcz8_0 := kM HGz8; have hcz8_1 := kL HGz8; have hcz8_2 := kK HGz8; have hfz8_1 := ag HGz8 1; have hfz8_2 := ag HGz8 2; clear HGz8 hgz8))
 first | go_end0 | ((try simp only [Exit.inBlock, Exit.then]); refine bodyPost_ret (results_none rfl _ _ _) rfl ?_)
 exact ⟨eT, Z3, bT HB, kT HK⟩
/-! ### dO: function 24 -/
def dO.f (s0_0 : List (S37)) (s0_1 : Int) (s0_2 : Bool) (a1 : Int) : Option (Int × ByteArray × Int × Int × Int × Bool) := (kR.f s0_0 s0_1 s0_2).bind fun bt158 => (if bt158.2.2.2.2.1 = true then (if bt158.1 = a1 then (some (bt158.1, bt158.2.1, bt158.2.2.1, bt158.2.2.2.1, wrap64 (bt158.2.2.2.2.2.1 + 1), bt158.2.2.2.2.2.2)) else (some (0, (⟨#[]⟩ : ByteArray), 0, 0, bt158.2.2.2.2.2.1, true))) else (some (0, (⟨#[]⟩ : ByteArray), 0, 0, bt158.2.2.2.2.2.1, true)))
set_option maxHeartbeats 8000000 in
set_option maxRecDepth 100000 in
theorem dO.calls (g : Nat) (s0_0 : List (S37)) (s0_1 : Int) (s0_2 : Bool) (a1 : Int) (r1 : Int) (r2 : ByteArray) (r3 : Int) (r4 : Int) (r5 : Int) (r6 : Bool) (w0 w : World) (hI : dB w0 w g s0_0 s0_1 s0_2) (hB : Below w0.heap.size w0 w) (h : dO.f s0_0 s0_1 s0_2 a1 = some (r1, r2, r3, r4, r5, r6)) :
 Calls Tryz.prog 24 #[.pointer (some ⟨g, 0, none⟩), .int .i64 a1] w fun e w' => e = .returned (.agg #[.int .i64 r1, .string r2, .int .i64 r3, .int .i64 r4]) ∧ dB w0 w' g s0_0 r5 r6 ∧ Below w0.heap.size w0 w' ∧ cO w w' g none := by
 have hu37 := Tryz.underlying37
 have HI0 := ae.mk hI
 have HK := ae.mk (cO.refl w g none)
 have HL := ae.mk hB.size
 clear hI
 have HW0 := ae.mk hB.size
 have HB := ae.mk hB
 clear hB
 have H := h
 clear h
 unfold dO.f at H
 revert H
 refine yB7 fun t158 t159 t160 t161 t162 t163 t164 A3 H => ?_
 try dsimp only at H
 cases t162
 rotate_left
 ·replace H := yT H
  revert H
  refine cZ (fun c5b0 c5b1 H => ?_) fun c5 c5b0 c5b1 H => ?_
  ·simp only [Option.some.injEq, Prod.mk.injEq] at H
   obtain ⟨rfl, rfl, rfl, rfl, rfl, rfl⟩ := H
   go_enter Tryz.func24, Tryz.ntmps24
   go_wp2_with (first | ((with_reducible refine bH (N := 4) rfl ?_); refine gp ?hg (N := 4) ?hd (cs := #[.int .i64 0, .string (⟨#[]⟩ : ByteArray), .int .i64 0, .int .i64 0]) (t := 37) ?hr ?_; (case hd => rfl); (case hg => rfl); (case hr => first | (go_simp; done) | (go_simp; rfl)); intro gb157 hg w6 hbox hb; refine yA8 (dB.below Z3 hb) (cO.trans (kT HK) (cO.of_below hb g none) (.inl rfl)) (aY (bT HB) hb) (hbox) ((by rw [hg]; exact (fG (w := w) (g := g) (row := none) (kT HK)) : w.heap.size ≤ gb157)) ((Nat.le_trans HW0.out (by rw [hg]; exact (fG (w := w) (g := g) (row := none) (kT HK)) : w.heap.size ≤ gb157) : w0.heap.size ≤ gb157)) ((by rw [hg]; exact Nat.ne_of_lt (dB.lt (show dB w0 _ g s0_0 s0_1 s0_2 from Z3)) : g ≠ gb157)) ((by rw [hg]; exact Nat.ne_of_gt (dB.lt (show dB w0 _ g s0_0 s0_1 s0_2 from Z3)) : gb157 ≠ g)) ?_; clear HI0 HK HB; intro HI0 HK HB BK157 GW157 GE157 NB0_157 NB157_0; clear hb hbox hg) | ((with_reducible refine gC 63 rfl ?_); refine gM 63 9 rfl Tryz.func63 (kR.calls g s0_0 s0_1 s0_2 t158 t159 t160 t161 true t163 t164 w0 _ Z5 (bT HB) A3.out) ?_; rintro _ w7 ⟨rfl, hi, hb, hk⟩; refine ⟨_, rfl, yA4 (cO.blk hk (g' := gb157) (o := .cells #[.int .i64 0, .string (⟨#[]⟩ : ByteArray), .int .i64 0, .int .i64 0] 37 (0, 0)) (by exact BK157.out) NB157_0.out (by simp)) (cO.trans (kT HK) hk (.inl rfl)) (hb) (hi) ?_⟩; clear BK157 HK HB HI0 hb; intro BK157 HK HB HI0) | ((with_reducible refine bH (N := 5) rfl ?_); refine gp ?hg (N := 5) ?hd (cs := #[.int .i64 0, .string (⟨#[]⟩ : ByteArray), .int .i64 0, .int .i64 0]) (t := 37) ?hr ?_; (case hd => rfl); (case hg => rfl); (case hr => first | (go_simp; done) | (go_simp; rfl)); intro gb165 hg w8 hbox hb; have n0_ := ae.mk (dB.below Z5 hb); have n1_ := ae.mk (iY (g := gb157) (o := .cells #[.int .i64 0, .string (⟨#[]⟩ : ByteArray), .int .i64 0, .int .i64 0] 37 (0, 0)) (by exact BK157.out) hb); have n2_ := ae.mk (cO.trans (kT HK) (cO.of_below hb g none) (.inl rfl)); have n3_ := ae.mk (aY (bT HB) hb); have n4_ := ae.mk (hbox); have n5_ := ae.mk ((by rw [hg]; exact (fG (w := w) (g := g) (row := none) (kT HK)) : w.heap.size ≤ gb165)); have n6_ := ae.mk ((Nat.le_trans HW0.out (by rw [hg]; exact (fG (w := w) (g := g) (row := none) (kT HK)) : w.heap.size ≤ gb165) : w0.heap.size ≤ gb165)); have n7_ := ae.mk ((by rw [hg]; exact Nat.ne_of_lt (kY (g := gb157) (o := .cells #[.int .i64 0, .string (⟨#[]⟩ : ByteArray), .int .i64 0, .int .i64 0] 37 (0, 0)) (by exact BK157.out)) : gb157 ≠ gb165)); have n8_ := ae.mk ((by rw [hg]; exact Nat.ne_of_gt (kY (g := gb157) (o := .cells #[.int .i64 0, .string (⟨#[]⟩ : ByteArray), .int .i64 0, .int .i64 0] 37 (0, 0)) (by exact BK157.out)) : gb165 ≠ gb157)); have n9_ := ae.mk ((by rw [hg]; exact Nat.ne_of_lt (dB.lt (show dB w0 _ g s0_0 t163 t164 from Z5)) : g ≠ gb165)); have n10_ := ae.mk ((by rw [hg]; exact Nat.ne_of_gt (dB.lt (show dB w0 _ g s0_0 t163 t164 from Z5)) : gb165 ≠ g)); clear HI0; clear BK157; clear HK; clear HB; have HI0 := n0_; have BK157 := n1_; have HK := n2_; have HB := n3_; have BK165 := n4_; have GW165 := n5_; have GE165 := n6_; have NB157_165 := n7_; have NB165_157 := n8_; have NB0_165 := n9_; have NB165_0 := n10_; clear n0_ n1_ n2_ n3_ n4_ n5_ n6_ n7_ n8_ n9_ n10_; clear hb hbox hg; have hnb9 := NB165_157.out; have hnc9 := NB157_165.out; have hnb10 := NB165_0.out; have hnc10 := NB0_165.out; have hcz11_0 : w8.cell? ⟨gb165, 0, none⟩ = some (.int .i64 0) := (aj BK165.out 0).trans rfl; have hcz11_1 : w8.cell? ⟨gb165, 1, none⟩ = some (.string (⟨#[]⟩ : ByteArray)) := (aj BK165.out 1).trans rfl; have hcz11_2 : w8.cell? ⟨gb165, 2, none⟩ = some (.int .i64 0) := (aj BK165.out 2).trans rfl; have hcz11_3 : w8.cell? ⟨gb165, 3, none⟩ = some (.int .i64 0) := (aj BK165.out 3).trans rfl; have hfz11_0 := ag BK165.out 0; have hfz11_1 := ag BK165.out 1; have hfz11_2 := ag BK165.out 2; have hfz11_3 := ag BK165.out 3; obtain ⟨ASz12_0, cSz12_0, HGz12, hgz12, HSz12_0⟩ := HI0.out; have hcz12_0 := kM HGz12; have hcz12_1 := kL HGz12; have hcz12_2 := kK HGz12; have hfz12_1 := ag HGz12 1; have hfz12_2 := ag HGz12 2; clear HGz12 hgz12; have hnb13 := NB157_0.out; have hnc13 := NB0_157.out; have hcz14_0 : w8.cell? ⟨gb157, 0, none⟩ = some (.int .i64 0) := (aj BK157.out 0).trans rfl; have hcz14_1 : w8.cell? ⟨gb157, 1, none⟩ = some (.string (⟨#[]⟩ : ByteArray)) := (aj BK157.out 1).trans rfl; have hcz14_2 : w8.cell? ⟨gb157, 2, none⟩ = some (.int .i64 0) := (aj BK157.out 2).trans rfl; have hcz14_3 : w8.cell? ⟨gb157, 3, none⟩ = some (.int .i64 0) := (aj BK157.out 3).trans rfl; have hfz14_0 := ag BK157.out 0; have hfz14_1 := ag BK157.out 1; have hfz14_2 := ag BK157.out 2; have hfz14_3 := ag BK157.out 3))
   refine bodyPost_ret (results_cell_row rfl _ _ gb157 37 #[.int .i64 t158, .string t159, .int .i64 t160, .int .i64 t161] (0, 0) _ rfl (by refine eQ (cs := #[.int .i64 t158, .string t159, .int .i64 t160, .int .i64 0]) ?_ 3 _ rfl; refine eQ (cs := #[.int .i64 t158, .string t159, .int .i64 0, .int .i64 0]) ?_ 2 _ rfl; refine eQ (cs := #[.int .i64 t158, .string (⟨#[]⟩ : ByteArray), .int .i64 0, .int .i64 0]) ?_ 1 _ rfl; refine eQ (cs := #[.int .i64 0, .string (⟨#[]⟩ : ByteArray), .int .i64 0, .int .i64 0]) ?_ 0 _ rfl; refine jC ?_ NB157_0.out _; refine jC ?_ NB157_165.out _; refine jC ?_ NB157_165.out _; refine jC ?_ NB157_165.out _; refine jC ?_ NB157_165.out _; exact BK157.out) Tryz.underlying37 rfl (by kernel_rfl)) rfl ?_
   exact ⟨eT, Z16, bT HB, kT HK⟩
  simp only [Option.some.injEq, Prod.mk.injEq] at H
  obtain ⟨rfl, rfl, rfl, rfl, rfl, rfl⟩ := H
  go_enter Tryz.func24, Tryz.ntmps24
  go_wp2_with (first | ((with_reducible refine bH (N := 4) rfl ?_); refine gp ?hg (N := 4) ?hd (cs := #[.int .i64 0, .string (⟨#[]⟩ : ByteArray), .int .i64 0, .int .i64 0]) (t := 37) ?hr ?_; (case hd => rfl); (case hg => rfl); (case hr => first | (go_simp; done) | (go_simp; rfl)); intro gb157 hg w15 hbox hb; refine yA8 (dB.below Z3 hb) (cO.trans (kT HK) (cO.of_below hb g none) (.inl rfl)) (aY (bT HB) hb) (hbox) ((by rw [hg]; exact (fG (w := w) (g := g) (row := none) (kT HK)) : w.heap.size ≤ gb157)) ((Nat.le_trans HW0.out (by rw [hg]; exact (fG (w := w) (g := g) (row := none) (kT HK)) : w.heap.size ≤ gb157) : w0.heap.size ≤ gb157)) ((by rw [hg]; exact Nat.ne_of_lt (dB.lt (show dB w0 _ g s0_0 s0_1 s0_2 from Z3)) : g ≠ gb157)) ((by rw [hg]; exact Nat.ne_of_gt (dB.lt (show dB w0 _ g s0_0 s0_1 s0_2 from Z3)) : gb157 ≠ g)) ?_; clear HI0 HK HB; intro HI0 HK HB BK157 GW157 GE157 NB0_157 NB157_0; clear hb hbox hg) | ((with_reducible refine gC 63 rfl ?_); refine gM 63 9 rfl Tryz.func63 (kR.calls g s0_0 s0_1 s0_2 t158 t159 t160 t161 true t163 t164 w0 _ Z5 (bT HB) A3.out) ?_; rintro _ w16 ⟨rfl, hi, hb, hk⟩; refine ⟨_, rfl, yA4 (cO.blk hk (g' := gb157) (o := .cells #[.int .i64 0, .string (⟨#[]⟩ : ByteArray), .int .i64 0, .int .i64 0] 37 (0, 0)) (by exact BK157.out) NB157_0.out (by simp)) (cO.trans (kT HK) hk (.inl rfl)) (hb) (hi) ?_⟩; clear BK157 HK HB HI0 hb; intro BK157 HK HB HI0) | ((with_reducible refine bH (N := 5) rfl ?_); refine gp ?hg (N := 5) ?hd (cs := #[.int .i64 0, .string (⟨#[]⟩ : ByteArray), .int .i64 0, .int .i64 0]) (t := 37) ?hr ?_; (case hd => rfl); (case hg => rfl); (case hr => first | (go_simp; done) | (go_simp; rfl)); intro gb165 hg w17 hbox hb; have n0_ := ae.mk (dB.below Z5 hb); have n1_ := ae.mk (iY (g := gb157) (o := .cells #[.int .i64 0, .string (⟨#[]⟩ : ByteArray), .int .i64 0, .int .i64 0] 37 (0, 0)) (by exact BK157.out) hb); have n2_ := ae.mk (cO.trans (kT HK) (cO.of_below hb g none) (.inl rfl)); have n3_ := ae.mk (aY (bT HB) hb); have n4_ := ae.mk (hbox); have n5_ := ae.mk ((by rw [hg]; exact (fG (w := w) (g := g) (row := none) (kT HK)) : w.heap.size ≤ gb165)); have n6_ := ae.mk ((Nat.le_trans HW0.out (by rw [hg]; exact (fG (w := w) (g := g) (row := none) (kT HK)) : w.heap.size ≤ gb165) : w0.heap.size ≤ gb165)); have n7_ := ae.mk ((by rw [hg]; exact Nat.ne_of_lt (kY (g := gb157) (o := .cells #[.int .i64 0, .string (⟨#[]⟩ : ByteArray), .int .i64 0, .int .i64 0] 37 (0, 0)) (by exact BK157.out)) : gb157 ≠ gb165)); have n8_ := ae.mk ((by rw [hg]; exact Nat.ne_of_gt (kY (g := gb157) (o := .cells #[.int .i64 0, .string (⟨#[]⟩ : ByteArray), .int .i64 0, .int .i64 0] 37 (0, 0)) (by exact BK157.out)) : gb165 ≠ gb157)); have n9_ := ae.mk ((by rw [hg]; exact Nat.ne_of_lt (dB.lt (show dB w0 _ g s0_0 t163 t164 from Z5)) : g ≠ gb165)); have n10_ := ae.mk ((by rw [hg]; exact Nat.ne_of_gt (dB.lt (show dB w0 _ g s0_0 t163 t164 from Z5)) : gb165 ≠ g)); clear HI0; clear BK157; clear HK; clear HB; have HI0 := n0_; have BK157 := n1_; have HK := n2_; have HB := n3_; have BK165 := n4_; have GW165 := n5_; have GE165 := n6_; have NB157_165 := n7_; have NB165_157 := n8_; have NB0_165 := n9_; have NB165_0 := n10_; clear n0_ n1_ n2_ n3_ n4_ n5_ n6_ n7_ n8_ n9_ n10_; clear hb hbox hg; have hnb18 := NB165_157.out; have hnc18 := NB157_165.out; have hnb19 := NB165_0.out; have hnc19 := NB0_165.out; have hcz20_0 : w17.cell? ⟨gb165, 0, none⟩ = some (.int .i64 0) := (aj BK165.out 0).trans rfl; have hcz20_1 : w17.cell? ⟨gb165, 1, none⟩ = some (.string (⟨#[]⟩ : ByteArray)) := (aj BK165.out 1).trans rfl; have hcz20_2 : w17.cell? ⟨gb165, 2, none⟩ = some (.int .i64 0) := (aj BK165.out 2).trans rfl; have hcz20_3 : w17.cell? ⟨gb165, 3, none⟩ = some (.int .i64 0) := (aj BK165.out 3).trans rfl; have hfz20_0 := ag BK165.out 0; have hfz20_1 := ag BK165.out 1; have hfz20_2 := ag BK165.out 2; have hfz20_3 := ag BK165.out 3; obtain ⟨ASz21_0, cSz21_0, HGz21, hgz21, HSz21_0⟩ := HI0.out; have hcz21_0 := kM HGz21; have hcz21_1 := kL HGz21; have hcz21_2 := kK HGz21; have hfz21_1 := ag HGz21 1; have hfz21_2 := ag HGz21 2; clear HGz21 hgz21; have hnb22 := NB157_0.out; have hnc22 := NB0_157.out; have hcz23_0 : w17.cell? ⟨gb157, 0, none⟩ = some (.int .i64 0) := (aj BK157.out 0).trans rfl; have hcz23_1 : w17.cell? ⟨gb157, 1, none⟩ = some (.string (⟨#[]⟩ : ByteArray)) := (aj BK157.out 1).trans rfl; have hcz23_2 : w17.cell? ⟨gb157, 2, none⟩ = some (.int .i64 0) := (aj BK157.out 2).trans rfl; have hcz23_3 : w17.cell? ⟨gb157, 3, none⟩ = some (.int .i64 0) := (aj BK157.out 3).trans rfl; have hfz23_0 := ag BK157.out 0; have hfz23_1 := ag BK157.out 1; have hfz23_2 := ag BK157.out 2; have hfz23_3 := ag BK157.out 3))
  refine bodyPost_ret (results_cell_row rfl _ _ gb157 37 #[.int .i64 0, .string (⟨#[]⟩ : ByteArray), .int .i64 0, .int .i64 0] (0, 0) _ rfl (by refine eQ (cs := #[.int .i64 0, .string (⟨#[]⟩ : ByteArray), .int .i64 0, .int .i64 0]) ?_ 3 _ rfl; refine eQ (cs := #[.int .i64 0, .string (⟨#[]⟩ : ByteArray), .int .i64 0, .int .i64 0]) ?_ 2 _ rfl; refine eQ (cs := #[.int .i64 0, .string (⟨#[]⟩ : ByteArray), .int .i64 0, .int .i64 0]) ?_ 1 _ rfl; refine eQ (cs := #[.int .i64 0, .string (⟨#[]⟩ : ByteArray), .int .i64 0, .int .i64 0]) ?_ 0 _ rfl; refine jC ?_ NB157_0.out _; refine jC ?_ NB157_165.out _; refine jC ?_ NB157_165.out _; refine jC ?_ NB157_165.out _; refine jC ?_ NB157_165.out _; exact BK157.out) Tryz.underlying37 rfl (by kernel_rfl)) rfl ?_
  exact ⟨eT, Z16, bT HB, kT HK⟩
 replace H := yF H
 simp only [Option.some.injEq, Prod.mk.injEq] at H
 obtain ⟨rfl, rfl, rfl, rfl, rfl, rfl⟩ := H
 go_enter Tryz.func24, Tryz.ntmps24
 go_wp2_with (first | ((with_reducible refine bH (N := 4) rfl ?_); refine gp ?hg (N := 4) ?hd (cs := #[.int .i64 0, .string (⟨#[]⟩ : ByteArray), .int .i64 0, .int .i64 0]) (t := 37) ?hr ?_; (case hd => rfl); (case hg => rfl); (case hr => first | (go_simp; done) | (go_simp; rfl)); intro gb157 hg w24 hbox hb; refine yA8 (dB.below Z3 hb) (cO.trans (kT HK) (cO.of_below hb g none) (.inl rfl)) (aY (bT HB) hb) (hbox) ((by rw [hg]; exact (fG (w := w) (g := g) (row := none) (kT HK)) : w.heap.size ≤ gb157)) ((Nat.le_trans HW0.out (by rw [hg]; exact (fG (w := w) (g := g) (row := none) (kT HK)) : w.heap.size ≤ gb157) : w0.heap.size ≤ gb157)) ((by rw [hg]; exact Nat.ne_of_lt (dB.lt (show dB w0 _ g s0_0 s0_1 s0_2 from Z3)) : g ≠ gb157)) ((by rw [hg]; exact Nat.ne_of_gt (dB.lt (show dB w0 _ g s0_0 s0_1 s0_2 from Z3)) : gb157 ≠ g)) ?_; clear HI0 HK HB; intro HI0 HK HB BK157 GW157 GE157 NB0_157 NB157_0; clear hb hbox hg) | ((with_reducible refine gC 63 rfl ?_); refine gM 63 9 rfl Tryz.func63 (kR.calls g s0_0 s0_1 s0_2 t158 t159 t160 t161 false t163 t164 w0 _ Z5 (bT HB) A3.out) ?_; rintro _ w25 ⟨rfl, hi, hb, hk⟩; refine ⟨_, rfl, yA4 (cO.blk hk (g' := gb157) (o := .cells #[.int .i64 0, .string (⟨#[]⟩ : ByteArray), .int .i64 0, .int .i64 0] 37 (0, 0)) (by exact BK157.out) NB157_0.out (by simp)) (cO.trans (kT HK) hk (.inl rfl)) (hb) (hi) ?_⟩; clear BK157 HK HB HI0 hb; intro BK157 HK HB HI0) | ((with_reducible refine bH (N := 5) rfl ?_); refine gp ?hg (N := 5) ?hd (cs := #[.int .i64 0, .string (⟨#[]⟩ : ByteArray), .int .i64 0, .int .i64 0]) (t := 37) ?hr ?_; (case hd => rfl); (case hg => rfl); (case hr => first | (go_simp; done) | (go_simp; rfl)); intro gb165 hg w26 hbox hb; have n0_ := ae.mk (dB.below Z5 hb); have n1_ := ae.mk (iY (g := gb157) (o := .cells #[.int .i64 0, .string (⟨#[]⟩ : ByteArray), .int .i64 0, .int .i64 0] 37 (0, 0)) (by exact BK157.out) hb); have n2_ := ae.mk (cO.trans (kT HK) (cO.of_below hb g none) (.inl rfl)); have n3_ := ae.mk (aY (bT HB) hb); have n4_ := ae.mk (hbox); have n5_ := ae.mk ((by rw [hg]; exact (fG (w := w) (g := g) (row := none) (kT HK)) : w.heap.size ≤ gb165)); have n6_ := ae.mk ((Nat.le_trans HW0.out (by rw [hg]; exact (fG (w := w) (g := g) (row := none) (kT HK)) : w.heap.size ≤ gb165) : w0.heap.size ≤ gb165)); have n7_ := ae.mk ((by rw [hg]; exact Nat.ne_of_lt (kY (g := gb157) (o := .cells #[.int .i64 0, .string (⟨#[]⟩ : ByteArray), .int .i64 0, .int .i64 0] 37 (0, 0)) (by exact BK157.out)) : gb157 ≠ gb165)); have n8_ := ae.mk ((by rw [hg]; exact Nat.ne_of_gt (kY (g := gb157) (o := .cells #[.int .i64 0, .string (⟨#[]⟩ : ByteArray), .int .i64 0, .int .i64 0] 37 (0, 0)) (by exact BK157.out)) : gb165 ≠ gb157)); have n9_ := ae.mk ((by rw [hg]; exact Nat.ne_of_lt (dB.lt (show dB w0 _ g s0_0 t163 t164 from Z5)) : g ≠ gb165)); have n10_ := ae.mk ((by rw [hg]; exact Nat.ne_of_gt (dB.lt (show dB w0 _ g s0_0 t163 t164 from Z5)) : gb165 ≠ g)); clear HI0; clear BK157; clear HK; clear HB; have HI0 := n0_; have BK157 := n1_; have HK := n2_; have HB := n3_; have BK165 := n4_; have GW165 := n5_; have GE165 := n6_; have NB157_165 := n7_; have NB165_157 := n8_; have NB0_165 := n9_; have NB165_0 := n10_; clear n0_ n1_ n2_ n3_ n4_ n5_ n6_ n7_ n8_ n9_ n10_; clear hb hbox hg; have hnb27 := NB165_157.out; have hnc27 := NB157_165.out; have hnb28 := NB165_0.out; have hnc28 := NB0_165.out; have hcz29_0 : w26.cell? ⟨gb165, 0, none⟩ = some (.int .i64 0) := (aj BK165.out 0).trans rfl; have hcz29_1 : w26.cell? ⟨gb165, 1, none⟩ = some (.string (⟨#[]⟩ : ByteArray)) := (aj BK165.out 1).trans rfl; have hcz29_2 : w26.cell? ⟨gb165, 2, none⟩ = some (.int .i64 0) := (aj BK165.out 2).trans rfl; have hcz29_3 : w26.cell? ⟨gb165, 3, none⟩ = some (.int .i64 0) := (aj BK165.out 3).trans rfl; have hfz29_0 := ag BK165.out 0; have hfz29_1 := ag BK165.out 1; have hfz29_2 := ag BK165.out 2; have hfz29_3 := ag BK165.out 3; obtain ⟨ASz30_0, cSz30_0, HGz30, hgz30, HSz30_0⟩ := HI0.out; have hcz30_0 := kM HGz30; have hcz30_1 := kL HGz30; have hcz30_2 := kK HGz30; have hfz30_1 := ag HGz30 1; have hfz30_2 := ag HGz30 2; clear HGz30 hgz30; have hnb31 := NB157_0.out; have hnc31 := NB0_157.out; have hcz32_0 : w26.cell? ⟨gb157, 0, none⟩ = some (.int .i64 0) := (aj BK157.out 0).trans rfl; have hcz32_1 : w26.cell? ⟨gb157, 1, none⟩ = some (.string (⟨#[]⟩ : ByteArray)) := (aj BK157.out 1).trans rfl; have hcz32_2 : w26.cell? ⟨gb157, 2, none⟩ = some (.int .i64 0) := (aj BK157.out 2).trans rfl; have hcz32_3 : w26.cell? ⟨gb157, 3, none⟩ = some (.int .i64 0) := (aj BK157.out 3).trans rfl; have hfz32_0 := ag BK157.out 0; have hfz32_1 := ag BK157.out 1; have hfz32_2 := ag BK157.out 2; have hfz32_3 := ag BK157.out 3))
 refine bodyPost_ret (results_cell_row rfl _ _ gb157 37 #[.int .i64 0, .string (⟨#[]⟩ : ByteArray), .int .i64 0, .int .i64 0] (0, 0) _ rfl (by refine eQ (cs := #[.int .i64 0, .string (⟨#[]⟩ : ByteArray), .int .i64 0, .int .i64 0]) ?_ 3 _ rfl; refine eQ (cs := #[.int .i64 0, .string (⟨#[]⟩ : ByteArray), .int .i64 0, .int .i64 0]) ?_ 2 _ rfl; refine eQ (cs := #[.int .i64 0, .string (⟨#[]⟩ : ByteArray), .int .i64 0, .int .i64 0]) ?_ 1 _ rfl; refine eQ (cs := #[.int .i64 0, .string (⟨#[]⟩ : ByteArray), .int .i64 0, .int .i64 0]) ?_ 0 _ rfl; refine jC ?_ NB157_0.out _; refine jC ?_ NB157_165.out _; refine jC ?_ NB157_165.out _; refine jC ?_ NB157_165.out _; refine jC ?_ NB157_165.out _; exact BK157.out) Tryz.underlying37 rfl (by kernel_rfl)) rfl ?_
 exact ⟨eT, Z16, bT HB, kT HK⟩
/-! ### aZ: function 28 -/
def aZ.l0 : Nat → List (S29) → List (List (S29)) → Int → Int → Option ((List (S29)))
 | 0, _, _, _, _ => none
 | k + 1, x5, x13, x14, x15 => if x15 < x14 then (if 0 ≤ x15 then (if x15 < (x13.length : Int) then (if x5.length + (nN x13 x15).length < 2513169434916 then (aZ.l0 k (x5 ++ (nN x13 x15)) x13 x14 (wrap64 (x15 + 1))) else (none)) else (none)) else (none)) else (some x5)
def aZ.f (k : Nat) (a0_0 : Int) (a0_1 : Int) (a0_2 : ByteArray) (a0_3 : Int) (a0_4 : ByteArray) (l1 : List (List (S29))) : Option ((List (S29))) := aZ.l0 k (([(⟨a0_0, (l1.length : Int), a0_2, a0_3, a0_4⟩ : S29)] : List (S29))) l1 (l1.length : Int) 0
theorem aZ.bP : ∀ k, (∀ y0 y1 y2 y3, LeO (aZ.l0 k y0 y1 y2 y3) (aZ.l0 (k + 1) y0 y1 y2 y3))
 | 0 => fun _ _ _ _ r h => by simp [aZ.l0] at h
 | k + 1 => by
  have ih0 := aZ.bP k
  intro y0 y1 y2 y3
  unfold aZ.l0
  exact yL
theorem aZ.mono : ∀ a0 a1 a2 a3 a4 a5 k, LeO (aZ.f k a0 a1 a2 a3 a4 a5) (aZ.f (k + 1) a0 a1 a2 a3 a4 a5) := by
 intro a0 a1 a2 a3 a4 a5 k
 have ih0 := aZ.bP k
 unfold aZ.f
 exact yL
set_option maxHeartbeats 8000000 in
set_option maxRecDepth 100000 in
theorem aZ.calls (k : Nat) (a0_0 : Int) (a0_1 : Int) (a0_2 : ByteArray) (a0_3 : Int) (a0_4 : ByteArray) (A1 : Option Addr) (c1 : Nat) (l1 : List (List (S29))) (r : List (S29)) (w : World) (hr1 : Kd.C (Kd.slice 29 k29) w A1 l1.length l1) (hc1 : l1.length ≤ c1) (h : aZ.f k a0_0 a0_1 a0_2 a0_3 a0_4 l1 = some r) :
 Calls Tryz.prog 28 #[.agg #[.int .i64 a0_0, .int .i64 a0_1, .string a0_2, .int .i64 a0_3, .string a0_4], .slice A1 l1.length c1] w fun e w' => ∃ v0_ : Value, e = .returned (v0_) ∧ Kd.R k29 29 w' w.heap.size (fun _ => True) v0_ r ∧ Below w.heap.size w w' := by
 have hu29 := Tryz.underlying29
 have HR1 := ae.mk hr1
 have HC1 := ae.mk hc1
 clear hr1 hc1
 have HB := ae.mk (Below.refl w.heap.size w)
 have H := h
 clear h
 unfold aZ.f at H
 obtain ⟨y167, hy167⟩ : ∃ y_ : List (S29), y_ = (([(⟨a0_0, (l1.length : Int), a0_2, a0_3, a0_4⟩ : S29)] : List (S29))) := ⟨_, rfl⟩
 replace H : (aZ.l0 k y167 l1 (l1.length : Int) 0) = some r := by first | (rw [hy167]; with_reducible exact H) | (have H2_ := (Option.bind_some _ _).symm.trans H; rw [hy167]; with_reducible exact H2_) | (have H2_ := (Option.bind_some _ _).symm.trans H; with_reducible exact H2_) | with_reducible exact H | (rw [hy167]; exact H) | exact H
 have Ny167 := ae.mk hy167
 clear hy167
 have H' := ae.mk H
 clear H
 go_enter Tryz.func28, Tryz.ntmps28
 go_wp2_with (first | ((with_reducible refine bH (N := 2) rfl ?_); refine gp ?hg (N := 2) ?hd (cs := #[.int .i64 a0_0, .int .i64 a0_1, .string a0_2, .int .i64 a0_3, .string a0_4]) (t := 29) ?hr ?_; (case hd => rfl); (case hg => rfl); (case hr => first | (go_simp; done) | (go_simp; rfl)); intro gb166 hg w3 hbox hb; refine yA4 (aY (bT HB) hb) (hbox) ((by rw [hg]; exact (bY (bT HB)) : w.heap.size ≤ gb166)) ((by rw [hg]; exact (bY (bT HB)) : w.heap.size ≤ gb166)) ?_; clear HB; intro HB BK166 GW166 GE166; clear hb hbox hg; have hcz4_0 : w3.cell? ⟨gb166, 0, none⟩ = some (.int .i64 a0_0) := (aj BK166.out 0).trans rfl; have hcz4_1 : w3.cell? ⟨gb166, 1, none⟩ = some (.int .i64 a0_1) := (aj BK166.out 1).trans rfl; have hcz4_2 : w3.cell? ⟨gb166, 2, none⟩ = some (.string a0_2) := (aj BK166.out 2).trans rfl; have hcz4_3 : w3.cell? ⟨gb166, 3, none⟩ = some (.int .i64 a0_3) := (aj BK166.out 3).trans rfl; have hcz4_4 : w3.cell? ⟨gb166, 4, none⟩ = some (.string a0_4) := (aj BK166.out 4).trans rfl; have hfz4_0 := ag BK166.out 0; have hfz4_1 := ag BK166.out 1; have hfz4_2 := ag BK166.out 2; have hfz4_3 := ag BK166.out 3; have hfz4_4 := ag BK166.out 4) | ((with_reducible refine bH (N := 12) rfl ?_); refine Kd.oH k29 _ 29 ?hg (N := 12) ?hd (xs := ([(⟨a0_0, (l1.length : Int), a0_2, a0_3, a0_4⟩ : S29)] : List (S29))) (inner := [.int .i64 a0_0, .int .i64 (l1.length : Int), .string a0_2, .int .i64 a0_3, .string a0_4]) (ok := fun _ => True) (okp := fun _ => True) ?hr ?hp (fun _ hk => hk) trivial (Below.refl _ _) (Nat.le_refl _) (by simp) ?_; (case hd => rfl); (case hg => rfl); (case hr => first | (go_simp; done) | (go_simp; rfl)); (case hp => exact (dQ.c5 (show Kd.M k29 _ _ _ (⟨a0_0, (l1.length : Int), a0_2, a0_3, a0_4⟩ : S29) [.int .i64 a0_0, .int .i64 (l1.length : Int), .string a0_2, .int .i64 a0_3, .string a0_4] from (vO _ _ _ (⟨a0_0, (l1.length : Int), a0_2, a0_3, a0_4⟩ : S29) )) (dQ.none _ _))); intro v168 w5 ho6 hb hg_ hnew_; clear hg_ hnew_; (first | rw [← Ny167.out] at ho6 | (simp only [Int.reduceToNat] at ho6; rw [← Ny167.out] at ho6)); refine yA3 (Kd.ig (Kd.Ho ho6 (g := gb166) (o := .cells #[.int .i64 a0_0, .int .i64 (l1.length : Int), .string a0_2, .int .i64 a0_3, .string a0_4] 29 (0, 0)) (by refine eQ (cs := #[.int .i64 a0_0, .int .i64 a0_1, .string a0_2, .int .i64 a0_3, .string a0_4]) ?_ 1 _ rfl; exact BK166.out)) (bY (bT HB))) (iY (g := gb166) (o := .cells #[.int .i64 a0_0, .int .i64 (l1.length : Int), .string a0_2, .int .i64 a0_3, .string a0_4] 29 (0, 0)) (by refine eQ (cs := #[.int .i64 a0_0, .int .i64 a0_1, .string a0_2, .int .i64 a0_3, .string a0_4]) ?_ 1 _ rfl; exact BK166.out) hb) (aY (bT HB) hb) ?_; clear BK166 HB; intro HO169 BK166 HB; clear hb ho6))
 (try simp only [Act.put, List.setIfInBounds_toArray, List.set_cons_zero, List.set_cons_succ])
 go_loopg [5, 15] k (fun kq v5 v15 w' => ∃ (x5_1 : List (S29)) (x15_1 : Int), v15 = .int .i64 x15_1 ∧ ae (aZ.l0 kq x5_1 l1 (l1.length : Int) x15_1 = some r) ∧ ae (kq ≤ k) ∧ ae (Kd.R k29 29 w' w.heap.size (fun k_ => k_ ≠ gb166) v5 x5_1) ∧ ae (w'.heap[gb166]? = some (.cells #[.int .i64 a0_0, .int .i64 (l1.length : Int), .string a0_2, .int .i64 a0_3, .string a0_4] 29 (0, 0))) ∧ ae (Below w.heap.size w w'))
 case atStart => exact ⟨(y167), (0), fT, H', ⟨Nat.le_refl _⟩, ⟨by (with_reducible repeat (first | apply Kd.iw | apply Kd.ik | apply Kd.jb)); exact Kd.iO HO169.out (fun _ hk => hk.2)⟩, ⟨by exact BK166.out⟩, ⟨bT HB⟩⟩
 case round =>
  clear H'
  try clear c1
  try clear c2
  try clear p2
  try clear c5
  try clear hcz4_0
  try clear hcz4_1
  try clear hcz4_2
  try clear hcz4_3
  try clear hcz4_4
  try clear hfz4_0
  try clear hfz4_1
  try clear hfz4_2
  try clear hfz4_3
  try clear hfz4_4
  obtain ⟨x5_1, x15_1, rfl, HA, HK1, HO_5, BK166, HB⟩ := hrel
  cases gk with
  | zero => exact absurd HA.out (by simp [aZ.l0])
  | succ k1 =>
   have H := HA.out
   clear HA
   simp only [aZ.l0] at H
   revert H
   refine iQ (fun c7b0 H => ?_) fun c7b0 H => ?_
   ·revert H
    refine gJ (fun c8b0 H => ?_) fun c8 H => ?_
    ·revert H
     refine gJ (fun c9b0 H => ?_) fun c9 H => ?_
     ·revert H
      refine iC (fun c10 H => ?_) fun c10 H => ?_
      ·have LMc10 := ae.mk c10
       clear c10
       obtain ⟨y171, hy171⟩ : ∃ y_ : List (S29), y_ = (x5_1 ++ (nN l1 x15_1)) := ⟨_, rfl⟩
       replace H : (aZ.l0 k1 y171 l1 (l1.length : Int) (wrap64 (x15_1 + 1))) = some r := by first | (rw [hy171]; with_reducible exact H) | (have H2_ := (Option.bind_some _ _).symm.trans H; rw [hy171]; with_reducible exact H2_) | (have H2_ := (Option.bind_some _ _).symm.trans H; with_reducible exact H2_) | with_reducible exact H | (rw [hy171]; exact H) | exact H
       have Ny171 := ae.mk hy171
       clear hy171
       have H' := ae.mk H
       clear H
       have p170 : 0 ≤ (x15_1 : Int) := of_decide_eq_true aT
       have q170 : x15_1 < (l1.length : Int) := of_decide_eq_true aT
       obtain ⟨ad170, A170_0, c170_0, e170, hx170_0, hl170_0, hi170_0⟩ := J9 HR1.out x15_1 p170 q170
       cases e170
       replace hx170_0 := (HB.out.cell (World.block_lt_of_cell? w _ hx170_0)).trans hx170_0
       have HR170_0 := ae.mk hi170_0
       have HC170_0 := ae.mk hl170_0
       clear hi170_0 hl170_0
       replace p170 := eq_true p170
       replace q170 := eq_true q170
       go_wp2_with (first | ((with_reducible refine eu (b := .append) (xs := #[.tmp 19, .tmp 20]) rfl ?_); at_builtin; refine Kd.lN k29 (w0 := w) w.heap.size rfl (.tmp 19) (.tmp 20) 23 29 (.agg #[(.int .i64 0), (.int .i64 0), (.string ⟨#[]⟩), (.int .i64 0), (.string ⟨#[]⟩)]) 56 rfl Tryz.underlying23 uJ rfl (by decide) (by omega) u5 x5_1 (nN l1 x15_1) _ _ _ (fun k_ => k_ ≠ gb166) (fun _ => False) rfl rfl ?aO ?aR (fun _ _ h => h) (fun _ h => h.elim) ?aF ?aB ?aS ?aL ?_; (case aR => repeat (first | exact (Kd.lh HR170_0.out HB.out) | (with_reducible refine Kd.jY ?_ _) | (with_reducible refine Kd.jX ?_ _) | (with_reducible refine Kd.lu ?_))); (case aB => exact (bT HB)); (case aF => exact (fun k_ hk => Kd.uK (g := gb166) (o := .cells #[.int .i64 a0_0, .int .i64 (l1.length : Int), .string a0_2, .int .i64 a0_3, .string a0_4] 29 (0, 0)) (by exact BK166.out) k_ hk)); (case aO => exact (qR HO_5)); (case aS => exact (bY (bT HB))); (case aL => have := LMc10.out; omega); intro v172 w11 ho hb hg hat; rw [← Ny171.out] at ho; refine yA3 (kN (g := gb166) (o := .cells #[.int .i64 a0_0, .int .i64 (l1.length : Int), .string a0_2, .int .i64 a0_3, .string a0_4] 29 (0, 0)) (by exact BK166.out) hg (Kd.zH HO_5.out (fun _ hk => hk))) (hb) (ho) ?_; clear BK166 HB HO_5; intro BK166 HB HO173; clear ho hb hg hat))
       go_roundg k1
       case measure => have := HK1.out; omega
       case rel => exact ⟨(y171), (wrap64 (x15_1 + 1)), fT, H', ⟨by have := HK1.out; omega⟩, ⟨qR HO173⟩, ⟨by exact BK166.out⟩, ⟨bT HB⟩⟩
      exact absurd H (by simp)
     exact absurd H (by simp)
    exact absurd H (by simp)
   obtain rfl := Option.some.inj H
   go_wp2
   go_ret
   exact ⟨_, eT, by (with_reducible repeat (first | apply Kd.iw | apply Kd.ik | apply Kd.jb)); exact Kd.iO HO_5.out (fun _ hk => trivial), bT HB⟩
end Go.Proofs.YtkbhkonenkgfoaaGreat.Q
end
section
namespace Go.Proofs.YtkbhkonenkgfoaaGreat.Q
open Go.RowKit Go.Proofs.YtkbhkonenkgfoaaGreatW.PrintWords Go.Proofs.YtkbhkonenkgfoaaGreatW.PrintLast Go.Proofs.YtkbhkonenkgfoaaGreatW.PrintMore
attribute [local go_sem] iW iV iU iR dJ dH dW dV dh df dI dG
set_option linter.unusedVariables false
set_option linter.unusedSimpArgs false
/-! ### gG: function 26 -/
def gG.f (k : Nat) (s0_0 : List (S37)) (s0_1 : Int) (s0_2 : Bool) : Option ((List (S29)) × Int × Bool) := (dO.f s0_0 s0_1 s0_2 1).bind fun bt174 => ((bg.f s0_0 bt174.2.2.2.2.1 bt174.2.2.2.2.2 (⟨#[46]⟩ : ByteArray)).bind fun bt181 => ((dO.f s0_0 bt181.1 bt181.2 1).bind fun bt183 => ((bg.f s0_0 bt183.2.2.2.2.1 bt183.2.2.2.2.2 (⟨#[47]⟩ : ByteArray)).bind fun bt189 => ((dO.f s0_0 bt189.1 bt189.2 2).bind fun bt191 => ((bg.f s0_0 bt191.2.2.2.2.1 bt191.2.2.2.2.2 (⟨#[59]⟩ : ByteArray)).bind fun bt197 => ((aZ.f k 2 0 bt174.2.1 bt191.2.2.1 bt183.2.1 ([] : List (List (S29)))).bind fun t199 => (some (t199, bt197.1, bt197.2))))))))
theorem gG.mono : ∀ a0 a1 a2 k, LeO (gG.f k a0 a1 a2) (gG.f (k + 1) a0 a1 a2) := by
 intro a0 a1 a2 k
 unfold gG.f
 have m0 := aZ.mono
 exact yL
-- BY HAND: function 114 (runtime_boundsError_Error)
/-! ### dU: function 95 -/
def dU.f (F : Fam) (k : Nat) (s0_0 : List (S37)) (s0_1 : Int) (s0_2 : Bool) (a1_0 : Int) (a1_1 : Int) (a1_2 : ByteArray) (a1_3 : Int) (a1_4 : ByteArray) : Option ((List (S29)) × Int × Bool) := (jV.f F k s0_0 s0_1 s0_2).bind fun bt203 => ((bg.f s0_0 bt203.2.1 bt203.2.2 (⟨#[59]⟩ : ByteArray)).bind fun bt208 => ((aZ.f k a1_0 a1_1 a1_2 a1_3 a1_4 (([bt203.1] : List (List (S29))))).bind fun t213 => (some (t213, bt208.1, bt208.2))))
theorem dU.mono {F F' : Fam} (HLE : lg F F') : ∀ a0 a1 a2 a3 a4 a5 a6 a7 k, LeO (dU.f F k a0 a1 a2 a3 a4 a5 a6 a7) (dU.f F' (k + 1) a0 a1 a2 a3 a4 a5 a6 a7) := by
 intro a0 a1 a2 a3 a4 a5 a6 a7 k
 unfold dU.f
 have m0 := aZ.mono
 have m1 := (jV.mono HLE)
 exact yL
/-! ### fV: function 97 -/
def fV.f (k : Nat) (s0_0 : List (S37)) (s0_1 : Int) (s0_2 : Bool) (a1 : Int) : Option ((List (S29)) × Int × Bool) := (bg.f s0_0 s0_1 s0_2 (⟨#[59]⟩ : ByteArray)).bind fun bt216 => ((aZ.f k a1 0 (⟨#[]⟩ : ByteArray) 0 (⟨#[]⟩ : ByteArray) ([] : List (List (S29)))).bind fun t218 => (some (t218, bt216.1, bt216.2)))
theorem fV.mono : ∀ a0 a1 a2 a3 k, LeO (fV.f k a0 a1 a2 a3) (fV.f (k + 1) a0 a1 a2 a3) := by
 intro a0 a1 a2 a3 k
 unfold fV.f
 have m0 := aZ.mono
 exact yL
end Go.Proofs.YtkbhkonenkgfoaaGreat.Q
end
section
namespace Go.Proofs.YtkbhkonenkgfoaaGreat.Q
open Go.RowKit Go.Proofs.YtkbhkonenkgfoaaGreatW.PrintWords Go.Proofs.YtkbhkonenkgfoaaGreatW.PrintLast Go.Proofs.YtkbhkonenkgfoaaGreatW.PrintMore
attribute [local go_sem] dJ dH dW dV dh df dI dG
set_option linter.unusedVariables false
set_option linter.unusedSimpArgs false
/-! ### dX: function 29 -/
mutual
def dX.l0 : Nat → List (S29) → Int → Int → Option (Int)
 | 0, _, _, _ => none
 | k + 1, x0, x1, x5 => if x1 < (x0.length : Int) then (if 0 ≤ x1 then (if ((ax x0 x1).f1) < 0 then (dX.j1 k x0 x1 x5 ((ax x0 x1).f1) true) else (dX.j1 k x0 x1 x5 ((ax x0 x1).f1) (decide (((ax x0 x1).f1) > (x0.length : Int))))) else (none)) else (some (-1))
def dX.j1 : Nat → List (S29) → Int → Int → Int → Bool → Option (Int)
 | 0, _, _, _, _, _ => none
 | k + 1, x0, x1, x5, x6, x27 => if x27 = true then (some (-1)) else (if (wrap64 (x5 + (wrap64 (x6 - 1)))) = 0 then (some (wrap64 (x1 + 1))) else (dX.l0 k x0 (wrap64 (x1 + 1)) (wrap64 (x5 + (wrap64 (x6 - 1))))))
end
def dX.f (k : Nat) (l0 : List (S29)) (a1 : Int) : Option (Int) := if a1 < 0 then (some (-1)) else (dX.l0 k l0 a1 1)
theorem dX.bP : ∀ k, (∀ y0 y1 y2, LeO (dX.l0 k y0 y1 y2) (dX.l0 (k + 1) y0 y1 y2)) ∧ (∀ y0 y1 y2 y3 y4, LeO (dX.j1 k y0 y1 y2 y3 y4) (dX.j1 (k + 1) y0 y1 y2 y3 y4))
 | 0 => ⟨fun _ _ _ r h => by simp [dX.l0] at h, fun _ _ _ _ _ r h => by simp [dX.j1] at h⟩
 | k + 1 => by
  obtain ⟨ih0, ih1⟩ := dX.bP k
  refine ⟨?_, ?_⟩
  ·intro y0 y1 y2
   unfold dX.l0
   exact yL
  intro y0 y1 y2 y3 y4
  unfold dX.j1
  exact yL
theorem dX.mono : ∀ a0 a1 k, LeO (dX.f k a0 a1) (dX.f (k + 1) a0 a1) := by
 intro a0 a1 k
 obtain ⟨ih0, ih1⟩ := dX.bP k
 unfold dX.f
 exact yL
set_option maxHeartbeats 8000000 in
set_option maxRecDepth 100000 in
theorem dX.calls (k : Nat) (A0 : Option Addr) (c0 : Nat) (l0 : List (S29)) (a1 : Int) (r : Int) (w : World) (hr0 : Kd.C k29 w A0 l0.length l0) (hc0 : l0.length ≤ c0) (h : dX.f k l0 a1 = some r) :
 Calls Tryz.prog 29 #[.slice A0 l0.length c0, .int .i64 a1] w fun e w' => e = .returned (.int .i64 r) ∧ eF w w' := by
 have HR0 := ae.mk hr0
 have HC0 := ae.mk hc0
 clear hr0 hc0
 have H := h
 clear h
 unfold dX.f at H
 revert H
 refine iQ (fun c3b0 H => ?_) fun c3b0 H => ?_
 ·obtain rfl := Option.some.inj H
  go_enter Tryz.func29, Tryz.ntmps29
  go_wp2
  go_ret
  exact ⟨fT, Z0⟩
 have H' := ae.mk H
 clear H
 go_enter Tryz.func29, Tryz.ntmps29
 go_wp2
 go_loopg [1, 5] k (fun kq v1 v5 w' => ∃ (x1_1 : Int) (x5_1 : Int), v1 = .int .i64 x1_1 ∧ v5 = .int .i64 x5_1 ∧ ae (dX.l0 kq l0 x1_1 x5_1 = some r) ∧ ae (kq ≤ k) ∧ eF w w')
 case atStart => exact ⟨(a1), (1), fT, fT, H', ⟨Nat.le_refl _⟩, Z0⟩
 case round =>
  clear H'
  try clear c2
  try clear p2
  try clear c3
  try clear c3b0
  obtain ⟨x1_1, x5_1, rfl, rfl, HA, HK1, ⟨m1, rfl⟩⟩ := hrel
  cases gk with
  | zero => exact absurd HA.out (by simp [dX.l0])
  | succ k1 =>
   have H := HA.out
   clear HA
   simp only [dX.l0] at H
   revert H
   refine iQ (fun c4b0 H => ?_) fun c4b0 H => ?_
   ·revert H
    refine gJ (fun c5b0 H => ?_) fun c5 H => ?_
    ·have HC6 := ae.mk H
     clear H
     have p221 : 0 ≤ (x1_1 : Int) := of_decide_eq_true aT
     have q221 : x1_1 < (l0.length : Int) := of_decide_eq_true aT
     obtain ⟨ad221, e221, hx221_0, hx221_1, hx221_2, hx221_3, hx221_4⟩ := ja HR0.out x1_1 p221 q221
     cases e221
     replace p221 := eq_true p221
     replace q221 := eq_true q221
     go_upto_region 7 with (fail)
     go_cut [27] (fun v27 wc => ∃ (kq : Nat) (x27_5 : Bool), v27 = .bool x27_5 ∧ ae (dX.j1 kq l0 x1_1 x5_1 ((ax l0 x1_1).f1) x27_5 = some r) ∧ ae (kq ≤ k1) ∧ eF w wc)
     case first =>
      have H := HC6.out
      clear HC6
      revert H
      refine iQ (fun c7b0 H => ?_) fun c7b0 H => ?_
      ·(first | rw [c7b0] | (simp only [gX, iP]; rw [c7b0]) | skip)
       have H' := ae.mk H
       clear H
       go_wp2
       go_meet
       case rel => exact ⟨_, (true), fT, H', ⟨by have := HK1.out; first | omega | exact Nat.le_refl _⟩, Z0⟩
      (first | rw [c7b0] | (simp only [gX, iP]; rw [c7b0]) | skip)
      have H' := ae.mk H
      clear H
      go_wp2
      go_meet
      case rel => exact ⟨_, (decide (((ax l0 x1_1).f1) > (l0.length : Int))), fT, H', ⟨by have := HK1.out; first | omega | exact Nat.le_refl _⟩, Z0⟩
     case rest =>
      clear HC6
      try clear c2
      try clear p2
      try clear q2
      try clear hx2
      try clear c3
      try clear c3b0
      try clear c4
      try clear c4b0
      try clear c5
      try clear c5b0
      try clear c7
      try clear c7b0
      try clear hx221_0
      try clear hx221_1
      try clear hx221_2
      try clear hx221_3
      try clear hx221_4
      try clear p2
      try clear p221
      try clear q221
      obtain ⟨kq, x27_5, rfl, HA, HJ5, ⟨mc5, rfl⟩⟩ := hcut
      cases kq with
      | zero => exact absurd HA.out (by simp [dX.j1])
      | succ kj5 =>
       have H := HA.out
       clear HA
       simp only [dX.j1] at H
       cases x27_5
       rotate_left
       ·replace H := yT H
        obtain rfl := Option.some.inj H
        go_wp2
        go_ret
        exact ⟨fT, Z0⟩
       replace H := yF H
       revert H
       refine cZ (fun c9b0 c9b1 H => ?_) fun c9 c9b0 c9b1 H => ?_
       ·obtain rfl := Option.some.inj H
        go_wp2
        go_ret
        exact ⟨fT, Z0⟩
       have H' := ae.mk H
       clear H
       go_wp2
       go_roundg kj5
       case measure => have := HK1.out; have := HJ5.out; omega
       case rel => exact ⟨(wrap64 (x1_1 + 1)), (wrap64 (x5_1 + (wrap64 (((ax l0 x1_1).f1) - 1)))), fT, fT, H', ⟨by have := HK1.out; have := HJ5.out; omega⟩, Z0⟩
    exact absurd H (by simp)
   obtain rfl := Option.some.inj H
   go_wp2
   go_ret
   exact ⟨fT, Z0⟩
end Go.Proofs.YtkbhkonenkgfoaaGreat.Q
end
section
namespace Go.Proofs.YtkbhkonenkgfoaaGreat.Q
open Go.RowKit Go.Proofs.YtkbhkonenkgfoaaGreatW.PrintWords Go.Proofs.YtkbhkonenkgfoaaGreatW.PrintLast Go.Proofs.YtkbhkonenkgfoaaGreatW.PrintMore
attribute [local go_sem] dJ dH dW dV dh df dI dG
set_option linter.unusedVariables false
set_option linter.unusedSimpArgs false
/-! ### fE: function 31 -/
def fE.l0 : Nat → List (S29) → Int → List Int → Int → Option (List Int)
 | 0, _, _, _, _ => none
 | k + 1, x0, x1, x5, x6 => if 0 ≤ x1 then (if x1 < (x0.length : Int) then (if (x5.length : Int) < ((ax x0 x1).f1) then (if x5.length < 17592186044416 then ((dX.f k x0 x6).bind fun t227 => (fE.l0 k x0 x1 (x5 ++ [x6]) t227)) else (none)) else (some x5)) else (none)) else (none)
def fE.f (k : Nat) (l0 : List (S29)) (a1 : Int) : Option (List Int) := (dX.f k l0 a1).bind fun t222 => (if t222 < 0 then (some ([] : List Int)) else (fE.l0 k l0 a1 ([] : List Int) (wrap64 (a1 + 1))))
theorem fE.bP : ∀ k, (∀ y0 y1 y2 y3, LeO (fE.l0 k y0 y1 y2 y3) (fE.l0 (k + 1) y0 y1 y2 y3))
 | 0 => fun _ _ _ _ r h => by simp [fE.l0] at h
 | k + 1 => by
  have ih0 := fE.bP k
  intro y0 y1 y2 y3
  unfold fE.l0
  have m0 := dX.mono
  exact yL
theorem fE.mono : ∀ a0 a1 k, LeO (fE.f k a0 a1) (fE.f (k + 1) a0 a1) := by
 intro a0 a1 k
 have ih0 := fE.bP k
 unfold fE.f
 have m0 := dX.mono
 exact yL
set_option maxHeartbeats 8000000 in
set_option maxRecDepth 100000 in
theorem fE.calls (k : Nat) (A0 : Option Addr) (c0 : Nat) (l0 : List (S29)) (a1 : Int) (r : List Int) (w : World) (hr0 : Kd.C k29 w A0 l0.length l0) (hc0 : l0.length ≤ c0) (h : fE.f k l0 a1 = some r) :
 Calls Tryz.prog 31 #[.slice A0 l0.length c0, .int .i64 a1] w fun e w' => ∃ v0_ : Value, e = .returned (v0_) ∧ Kd.R (Kd.int .i64) 3 w' w.heap.size (fun _ => True) v0_ r ∧ Below w.heap.size w w' := by
 have HR0 := ae.mk hr0
 have HC0 := ae.mk hc0
 clear hr0 hc0
 have HB := ae.mk (Below.refl w.heap.size w)
 have H := h
 clear h
 unfold fE.f at H
 revert H
 refine yB1 fun t222 A3 H => ?_
 revert H
 refine iQ (fun c4b0 H => ?_) fun c4b0 H => ?_
 ·obtain rfl := Option.some.inj H
  go_enter Tryz.func31, Tryz.ntmps31
  go_wp2_with (first | ((with_reducible refine gC 29 rfl ?_); refine gM 29 9 rfl Tryz.func29 (dX.calls k _ _ l0 a1 t222 _ Z8 HC0.out A3.out) ?_; rintro _ w' ⟨rfl, ⟨nd, rfl⟩⟩; refine ⟨_, rfl, ?_⟩))
  go_ret
  exact ⟨_, eT, Z4, bT HB⟩
 have H' := ae.mk H
 clear H
 go_enter Tryz.func31, Tryz.ntmps31
 go_wp2_with (first | ((with_reducible refine gC 29 rfl ?_); refine gM 29 9 rfl Tryz.func29 (dX.calls k _ _ l0 a1 t222 _ Z8 HC0.out A3.out) ?_; rintro _ w' ⟨rfl, ⟨nd, rfl⟩⟩; refine ⟨_, rfl, ?_⟩))
 go_loopg [5, 6] k (fun kq v5 v6 w' => ∃ (x5_1 : List Int) (x6_1 : Int), v6 = .int .i64 x6_1 ∧ ae (fE.l0 kq l0 a1 x5_1 x6_1 = some r) ∧ ae (kq ≤ k) ∧ ae (Kd.R (Kd.int .i64) 3 w' w.heap.size (fun _ => True) v5 x5_1) ∧ ae (Below w.heap.size w w'))
 case atStart => exact ⟨(([] : List Int)), (wrap64 (a1 + 1)), fT, H', ⟨Nat.le_refl _⟩, ⟨Z4⟩, ⟨bT HB⟩⟩
 case round =>
  clear H'
  try clear c2
  try clear p2
  try clear c3
  try clear c4
  try clear c4b0
  obtain ⟨x5_1, x6_1, rfl, HA, HK1, HO_5, HB⟩ := hrel
  cases gk with
  | zero => exact absurd HA.out (by simp [fE.l0])
  | succ k1 =>
   have H := HA.out
   clear HA
   simp only [fE.l0] at H
   revert H
   refine gJ (fun c5b0 H => ?_) fun c5 H => ?_
   ·revert H
    refine gJ (fun c6b0 H => ?_) fun c6 H => ?_
    ·revert H
     refine iQ (fun c7b0 H => ?_) fun c7b0 H => ?_
     ·revert H
      refine iC (fun c8 H => ?_) fun c8 H => ?_
      ·have LMc8 := ae.mk c8
       clear c8
       obtain ⟨y224, hy224⟩ : ∃ y_ : List Int, y_ = (x5_1 ++ [x6_1]) := ⟨_, rfl⟩
       replace H : ((dX.f k1 l0 x6_1).bind fun t227 => (fE.l0 k1 l0 a1 y224 t227)) = some r := by first | (rw [hy224]; with_reducible exact H) | (have H2_ := (Option.bind_some _ _).symm.trans H; rw [hy224]; with_reducible exact H2_) | (have H2_ := (Option.bind_some _ _).symm.trans H; with_reducible exact H2_) | with_reducible exact H | (rw [hy224]; exact H) | exact H
       have Ny224 := ae.mk hy224
       clear hy224
       revert H
       refine yB1 fun t227 A9 H => ?_
       have H' := ae.mk H
       clear H
       obtain ⟨Ao10, co10, eo10⟩ := Kd.eU HO_5.out
       subst eo10
       have p223 : 0 ≤ (a1 : Int) := of_decide_eq_true aT
       have q223 : a1 < (l0.length : Int) := of_decide_eq_true aT
       obtain ⟨ad223, e223, hx223_0, hx223_1, hx223_2, hx223_3, hx223_4⟩ := ja HR0.out a1 p223 q223
       cases e223
       replace hx223_0 := (HB.out.cell (World.block_lt_of_cell? w _ hx223_0)).trans hx223_0
       replace hx223_1 := (HB.out.cell (World.block_lt_of_cell? w _ hx223_1)).trans hx223_1
       replace hx223_2 := (HB.out.cell (World.block_lt_of_cell? w _ hx223_2)).trans hx223_2
       replace hx223_3 := (HB.out.cell (World.block_lt_of_cell? w _ hx223_3)).trans hx223_3
       replace hx223_4 := (HB.out.cell (World.block_lt_of_cell? w _ hx223_4)).trans hx223_4
       replace p223 := eq_true p223
       replace q223 := eq_true q223
       go_wp2_with (first | ((with_reducible refine eu (b := .append) (xs := #[.tmp 24, .tmp 26]) rfl ?_); at_builtin; refine Kd.jW (Kd.int .i64) (w0 := w) w.heap.size rfl (.tmp 24) (.tmp 26) 60 3 (.int .i64 0) 8 rfl Tryz.underlying60 info3 rfl (by decide) (by omega) (.slice Ao10 x5_1.length co10) x5_1 x6_1 [.int .i64 x6_1] (fun _ => True) (fun _ => False) rfl rfl ?aP (fun _ hk => hk.elim) ?aF ?aO ?aB ?aS ?aL ?_; (case aP => exact rfl); (case aB => exact (bT HB)); (case aF => exact (fun _ _ => trivial)); (case aO => exact (qR HO_5)); (case aS => exact (bY (bT HB))); (case aL => have := LMc8.out; omega); intro v225 w11 ho hb hg hat; rw [← Ny224.out] at ho; refine yA2 (hb) (ho) ?_; clear HB HO_5; intro HB HO226; clear ho hb hg hat) | ((with_reducible refine gC 29 rfl ?_); refine gM 29 23 rfl Tryz.func29 (dX.calls k1 _ _ l0 x6_1 t227 _ Z6 HC0.out A9.out) ?_; rintro _ w' ⟨rfl, ⟨nd, rfl⟩⟩; refine ⟨_, rfl, ?_⟩))
       go_roundg k1
       case measure => have := HK1.out; omega
       case rel => exact ⟨(y224), (t227), fT, H', ⟨by have := HK1.out; omega⟩, ⟨qR HO226⟩, ⟨bT HB⟩⟩
      exact absurd H (by simp)
     obtain rfl := Option.some.inj H
     obtain ⟨Ao12, co12, eo12⟩ := Kd.eU HO_5.out
     subst eo12
     have p223 : 0 ≤ (a1 : Int) := of_decide_eq_true aT
     have q223 : a1 < (l0.length : Int) := of_decide_eq_true aT
     obtain ⟨ad223, e223, hx223_0, hx223_1, hx223_2, hx223_3, hx223_4⟩ := ja HR0.out a1 p223 q223
     cases e223
     replace hx223_0 := (HB.out.cell (World.block_lt_of_cell? w _ hx223_0)).trans hx223_0
     replace hx223_1 := (HB.out.cell (World.block_lt_of_cell? w _ hx223_1)).trans hx223_1
     replace hx223_2 := (HB.out.cell (World.block_lt_of_cell? w _ hx223_2)).trans hx223_2
     replace hx223_3 := (HB.out.cell (World.block_lt_of_cell? w _ hx223_3)).trans hx223_3
     replace hx223_4 := (HB.out.cell (World.block_lt_of_cell? w _ hx223_4)).trans hx223_4
     replace p223 := eq_true p223
     replace q223 := eq_true q223
     go_wp2
     go_ret
     exact ⟨_, eT, qR HO_5, bT HB⟩
    exact absurd H (by simp)
   exact absurd H (by simp)
/-! ### jy: function 103 -/
def jy.f (k : Nat) (l0 : List (S29)) (a1 : Int) : Option ((List (S29))) := (dX.f k l0 a1).bind fun t228 => (if t228 < 0 then (some ([] : List (S29))) else (if 0 ≤ a1 then (if a1 ≤ t228 then (if t228 ≤ (l0.length : Int) then ((some ((l0.take (t228 : Int).toNat).drop (a1 : Int).toNat : List (S29))).bind fun y229 => (if ([] : List (S29)).length + y229.length < 2513169434916 then (some (([] : List (S29)) ++ y229)) else (none))) else (none)) else (none)) else (none)))
theorem jy.mono : ∀ a0 a1 k, LeO (jy.f k a0 a1) (jy.f (k + 1) a0 a1) := by
 intro a0 a1 k
 unfold jy.f
 have m0 := dX.mono
 exact yL
set_option maxHeartbeats 8000000 in
set_option maxRecDepth 100000 in
theorem jy.calls (k : Nat) (A0 : Option Addr) (c0 : Nat) (l0 : List (S29)) (a1 : Int) (r : List (S29)) (w : World) (hr0 : Kd.C k29 w A0 l0.length l0) (hc0 : l0.length ≤ c0) (h : jy.f k l0 a1 = some r) :
 Calls Tryz.prog 103 #[.slice A0 l0.length c0, .int .i64 a1] w fun e w' => ∃ v0_ : Value, e = .returned (v0_) ∧ Kd.R k29 29 w' w.heap.size (fun _ => True) v0_ r ∧ Below w.heap.size w w' := by
 have HR0 := ae.mk hr0
 have HC0 := ae.mk hc0
 clear hr0 hc0
 have HB := ae.mk (Below.refl w.heap.size w)
 have H := h
 clear h
 unfold jy.f at H
 revert H
 refine yB1 fun t228 A3 H => ?_
 revert H
 refine iQ (fun c4b0 H => ?_) fun c4b0 H => ?_
 ·obtain rfl := Option.some.inj H
  go_enter Tryz.func103, Tryz.ntmps103
  go_wp2_with (first | ((with_reducible refine gC 29 rfl ?_); refine gM 29 8 rfl Tryz.func29 (dX.calls k _ _ l0 a1 t228 _ Z8 HC0.out A3.out) ?_; rintro _ w' ⟨rfl, ⟨nd, rfl⟩⟩; refine ⟨_, rfl, ?_⟩))
  go_ret
  exact ⟨_, eT, Z4, bT HB⟩
 revert H
 refine jO (fun c5b0 c5b1 H => ?_) fun c5 H => ?_
 ·revert H
  refine jO (fun c6b0 c6b1 H => ?_) fun c6 H => ?_
  ·revert H
   refine jO (fun c7b0 c7b1 H => ?_) fun c7 H => ?_
   ·obtain ⟨y229, hy229⟩ : ∃ y_ : List (S29), y_ = ((l0.take (t228 : Int).toNat).drop (a1 : Int).toNat) := ⟨_, rfl⟩
    replace H : (if ([] : List (S29)).length + y229.length < 2513169434916 then (some (([] : List (S29)) ++ y229)) else (none)) = some r := by first | (rw [hy229]; with_reducible exact H) | (have H2_ := (Option.bind_some _ _).symm.trans H; rw [hy229]; with_reducible exact H2_) | (have H2_ := (Option.bind_some _ _).symm.trans H; with_reducible exact H2_) | with_reducible exact H | (rw [hy229]; exact H) | exact H
    have Ny229 := ae.mk hy229
    clear hy229
    revert H
    refine iC (fun c8 H => ?_) fun c8 H => ?_
    ·have LMc8 := ae.mk c8
     clear c8
     obtain ⟨y233, hy233⟩ : ∃ y_ : List (S29), y_ = (([] : List (S29)) ++ y229) := ⟨_, rfl⟩
     replace H : (some y233) = some r := by first | (rw [hy233]; with_reducible exact H) | (have H2_ := (Option.bind_some _ _).symm.trans H; rw [hy233]; with_reducible exact H2_) | (have H2_ := (Option.bind_some _ _).symm.trans H; with_reducible exact H2_) | with_reducible exact H | (rw [hy233]; exact H) | exact H
     have Ny233 := ae.mk hy233
     clear hy233
     obtain rfl := Option.some.inj H
     go_enter Tryz.func103, Tryz.ntmps103
     go_wp2_with (first | ((with_reducible refine gC 29 rfl ?_); refine gM 29 8 rfl Tryz.func29 (dX.calls k _ _ l0 a1 t228 _ Z8 HC0.out A3.out) ?_; rintro _ w' ⟨rfl, ⟨nd, rfl⟩⟩; refine ⟨_, rfl, ?_⟩; have q9 : (t228 : Int) ≤ ((l0.length : Int) : Int) := of_decide_eq_true aT; obtain ⟨i09, hi09, _, hsz9, _⟩ := info_parts uJ; have hroom9 : l0.length ≤ c0 := HC0.out; have hC9 : Kd.C k29 _ A0 l0.length l0 := HR0.out; have ql9 : (a1 : Int) ≤ (t228 : Int) := of_decide_eq_true aT; have q09 : (0 : Int) ≤ (a1 : Int) := of_decide_eq_true aT; have hcut9 := DD (P := Tryz.prog) 23 29 .i64 .i64 Tryz.underlying23 hi09 5 hsz9 A0 l0.length c0 a1 t228 q09 ql9 q9 hroom9; have hr9 := Kd.JF (lo := (a1 : Int).toNat) (hi := (t228 : Int).toNat) (c := c0) hC9 (by omega) (by omega) hroom9; obtain ⟨A9, hA9⟩ : ∃ A1, A1 = (if c0 = (a1 : Int).toNat then A0 else (A0 : Option Addr).map (·.add ((a1 : Int).toNat * 5))) := ⟨_, rfl⟩; obtain ⟨c9, hc9⟩ : ∃ c1, c1 = c0 - (a1 : Int).toNat := ⟨_, rfl⟩; have hy9 : y229.length = (t228 : Int).toNat - (a1 : Int).toNat := (by rw [Ny229.out, List.length_drop, List.length_take] <;> omega); rw [show ((l0).take (t228 : Int).toNat).drop (a1 : Int).toNat = y229 from Ny229.out.symm] at hr9; replace hr9 : Kd.C k29 _ A9 y229.length y229 := (by rw [hA9]; exact hr9); rw [← hy9, ← hA9, ← hc9] at hcut9; have HR232 := ae.mk hr9; have HC232 := ae.mk (show y229.length ≤ c9 from by rw [hy9, hc9]; exact Nat.sub_le_sub_right (Nat.le_trans (by omega) hroom9) _); clear hr9 hC9 hroom9 hi09 hsz9 hc9; have KY9 := ae.mk hy9; have KA9 := ae.mk hA9; clear hy9 hA9; replace q9 := eq_true q9) | ((with_reducible refine eu (b := .append) (xs := #[.const (.slice none 0 0), .tmp 14]) rfl ?_); at_builtin; refine Kd.lN k29 (w0 := w) w.heap.size rfl (.const (.slice none 0 0)) (.tmp 14) 23 29 (.agg #[(.int .i64 0), (.int .i64 0), (.string ⟨#[]⟩), (.int .i64 0), (.string ⟨#[]⟩)]) 56 rfl Tryz.underlying23 uJ rfl (by decide) (by omega) (.slice none 0 0) ([] : List (S29)) y229 _ _ _ (fun _ => True) (fun _ => False) rfl rfl ?aO ?aR (fun _ _ h => h) (fun _ h => h.elim) ?aF ?aB ?aS ?aL ?_; (case aR => repeat (first | exact HR232.out | (with_reducible refine Kd.jY ?_ _) | (with_reducible refine Kd.jX ?_ _) | (with_reducible refine Kd.lu ?_))); (case aB => exact (bT HB)); (case aF => exact (fun _ _ => trivial)); (case aO => exact ((Kd.oG _ _ _ _ (fun _ => True)))); (case aS => exact (bY (bT HB))); (case aL => have := LMc8.out; omega); intro v234 w10 ho hb hg hat; rw [← Ny233.out] at ho; refine yA2 (hb) (ho) ?_; clear HB; intro HB HO235; clear ho hb hg hat))
     go_ret
     exact ⟨_, eT, qR HO235, bT HB⟩
    exact absurd H (by simp)
   exact absurd H (by simp)
  exact absurd H (by simp)
 exact absurd H (by simp)
end Go.Proofs.YtkbhkonenkgfoaaGreat.Q
end
section
namespace Go.Proofs.YtkbhkonenkgfoaaGreat.Q
open Go.RowKit Go.Proofs.YtkbhkonenkgfoaaGreatW.PrintWords Go.Proofs.YtkbhkonenkgfoaaGreatW.PrintLast Go.Proofs.YtkbhkonenkgfoaaGreatW.PrintMore
attribute [local go_sem] iW iV iU iR dJ dH dW dV dh df dI dG
set_option linter.unusedVariables false
set_option linter.unusedSimpArgs false
/-! ### dA: function 98 -/
def dA.j0 (F : Fam) : Nat → List (S29) → Bool → List (S37) → Int → Bool → Option ((List (S29)) × Int × Bool)
 | 0, _, _, _, _, _ => none
 | k + 1, x3, x8, x1000, x1001, x1002 => if x8 = true then ((bg.f x1000 x1001 x1002 (⟨#[59]⟩ : ByteArray)).bind fun bt244 => ((aZ.f k 17 0 (⟨#[]⟩ : ByteArray) 0 (⟨#[]⟩ : ByteArray) (([x3] : List (List (S29))))).bind fun t249 => (some (t249, bt244.1, bt244.2)))) else (if 0 < (x3.length : Int) then (if ((ax x3 0).f0) = 21 then ((bg.f x1000 x1001 x1002 (⟨#[61]⟩ : ByteArray)).bind fun bt253 => ((dU.f F k x1000 bt253.1 bt253.2 7 0 ((ax x3 0).f2) 0 (⟨#[]⟩ : ByteArray)).bind fun bt256 => (some (bt256.1, bt256.2.1, bt256.2.2)))) else (if ((ax x3 0).f0) = 26 then ((bg.f x1000 x1001 x1002 (⟨#[61]⟩ : ByteArray)).bind fun bt262 => ((fE.f k x3 0).bind fun t264 => ((jV.f F k x1000 bt262.1 bt262.2).bind fun bt267 => ((bg.f x1000 bt267.2.1 bt267.2.2 (⟨#[59]⟩ : ByteArray)).bind fun bt272 => (if 0 < (t264.length : Int) then ((jy.f k x3 (rd t264 0)).bind fun t275 => (if 1 < (t264.length : Int) then ((jy.f k x3 (rd t264 1)).bind fun t279 => ((aZ.f k 8 0 (⟨#[]⟩ : ByteArray) 0 (⟨#[]⟩ : ByteArray) (([t275, t279, bt267.1] : List (List (S29))))).bind fun t285 => (some (t285, bt272.1, bt272.2)))) else (none))) else (none)))))) else (some (([] : List (S29)), x1001, true)))) else (none))
def dA.f (F : Fam) (k : Nat) (s0_0 : List (S37)) (s0_1 : Int) (s0_2 : Bool) : Option ((List (S29)) × Int × Bool) := (jV.f F k s0_0 s0_1 s0_2).bind fun bt236 => (if bt236.2.2 = true then (dA.j0 F k bt236.1 true s0_0 bt236.2.1 bt236.2.2) else ((dN.f s0_0 bt236.2.1 bt236.2.2).bind fun bt241 => (dA.j0 F k bt236.1 (bt241.1.toList != ([61] : List UInt8)) s0_0 bt241.2.1 bt241.2.2)))
theorem dA.bP {F F' : Fam} (HLE : lg F F') : ∀ k, (∀ y0 y1 y2 y3 y4, LeO (dA.j0 F k y0 y1 y2 y3 y4) (dA.j0 F' (k + 1) y0 y1 y2 y3 y4))
 | 0 => fun _ _ _ _ _ r h => by simp [dA.j0] at h
 | k + 1 => by
  have ih0 := dA.bP HLE k
  intro y0 y1 y2 y3 y4
  unfold dA.j0
  have m0 := aZ.mono
  have m1 := (dU.mono HLE)
  have m2 := (jV.mono HLE)
  have m3 := fE.mono
  have m4 := jy.mono
  exact yL
theorem dA.mono {F F' : Fam} (HLE : lg F F') : ∀ a0 a1 a2 k, LeO (dA.f F k a0 a1 a2) (dA.f F' (k + 1) a0 a1 a2) := by
 intro a0 a1 a2 k
 have ih0 := dA.bP HLE k
 unfold dA.f
 have m0 := aZ.mono
 have m1 := (dU.mono HLE)
 have m2 := (jV.mono HLE)
 have m3 := fE.mono
 have m4 := jy.mono
 exact yL
end Go.Proofs.YtkbhkonenkgfoaaGreat.Q
end
section
namespace Go.Proofs.YtkbhkonenkgfoaaGreat.Q
open Go.RowKit Go.Proofs.YtkbhkonenkgfoaaGreatW.PrintWords Go.Proofs.YtkbhkonenkgfoaaGreatW.PrintLast Go.Proofs.YtkbhkonenkgfoaaGreatW.PrintMore
attribute [local go_sem] iW iV iU iR dJ dH dW dV dh df dI dG
set_option linter.unusedVariables false
set_option linter.unusedSimpArgs false
/-! ### aX: function 91 -/
mutual
def aX.j1 (F : Fam) : Nat → ByteArray → Int → List (S37) → Int → Bool → Option ((List (S29)) × Int × Bool)
 | 0, _, _, _, _, _ => none
 | k + 1, x3, x4, x1000, x1001, x1002 => if x4 = 0 then ((dA.f F k x1000 x1001 x1002).bind fun bt378 => (some (bt378.1, bt378.2.1, bt378.2.2))) else ((bn.f x1000 x1001 x1002 x3).bind fun bt383 => ((dU.f F k x1000 bt383.2.1 bt383.2.2 x4 0 (⟨#[]⟩ : ByteArray) 0 (⟨#[]⟩ : ByteArray)).bind fun bt386 => (some (bt386.1, bt386.2.1, bt386.2.2))))
def aX.j0 (F : Fam) : Nat → ByteArray → Int → List (S37) → Int → Bool → Option ((List (S29)) × Int × Bool)
 | 0, _, _, _, _, _ => none
 | k + 1, x3, x4, x1000, x1001, x1002 => if x4 = 0 then ((bn.f x1000 x1001 x1002 x3).bind fun bt362 => ((fV.f k x1000 bt362.2.1 bt362.2.2 16).bind fun bt365 => (some (bt365.1, bt365.2.1, bt365.2.2)))) else ((bn.f x1000 x1001 x1002 x3).bind fun bt370 => ((fV.f k x1000 bt370.2.1 bt370.2.2 x4).bind fun bt373 => (some (bt373.1, bt373.2.1, bt373.2.2))))
end
def aX.f (F : Fam) (k : Nat) (s0_0 : List (S37)) (s0_1 : Int) (s0_2 : Bool) : Option ((List (S29)) × Int × Bool) := (dN.f s0_0 s0_1 s0_2).bind fun bt288 => (if bt288.1.toList = ([108, 101, 116] : List UInt8) then ((bn.f s0_0 bt288.2.1 bt288.2.2 bt288.1).bind fun bt291 => ((dO.f s0_0 bt291.2.1 bt291.2.2 1).bind fun bt294 => ((bg.f s0_0 bt294.2.2.2.2.1 bt294.2.2.2.2.2 (⟨#[61]⟩ : ByteArray)).bind fun bt300 => ((dU.f F k s0_0 bt300.1 bt300.2 6 0 bt294.2.1 0 (⟨#[]⟩ : ByteArray)).bind fun bt302 => (some (bt302.1, bt302.2.1, bt302.2.2)))))) else (if bt288.1.toList = ([105, 102] : List UInt8) then ((bn.f s0_0 bt288.2.1 bt288.2.2 bt288.1).bind fun bt307 => ((jV.f F k s0_0 bt307.2.1 bt307.2.2).bind fun bt310 => ((some (([bt310.1] : List (List (S29))) : List (List (S29)))).bind fun y315 => ((mg.f F k s0_0 bt310.2.1 bt310.2.2).bind fun bt318 => (if y315.length < 5864062014805 then ((some (y315 ++ [bt318.1] : List (List (S29)))).bind fun y323 => ((bn.f s0_0 bt318.2.1 bt318.2.2 (⟨#[101, 108, 115, 101]⟩ : ByteArray)).bind fun bt326 => (if bt326.1 = true then ((mg.f F k s0_0 bt326.2.1 bt326.2.2).bind fun bt329 => (if y323.length < 5864062014805 then ((aZ.f k 9 0 (⟨#[]⟩ : ByteArray) 0 (⟨#[]⟩ : ByteArray) (y323 ++ [bt329.1])).bind fun t337 => (some (t337, bt329.2.1, bt329.2.2))) else (none))) else ((aZ.f k 9 0 (⟨#[]⟩ : ByteArray) 0 (⟨#[]⟩ : ByteArray) y323).bind fun t340 => (some (t340, bt326.2.1, bt326.2.2)))))) else (none)))))) else (if bt288.1.toList = ([119, 104, 105, 108, 101] : List UInt8) then ((bn.f s0_0 bt288.2.1 bt288.2.2 bt288.1).bind fun bt343 => ((jV.f F k s0_0 bt343.2.1 bt343.2.2).bind fun bt346 => ((mg.f F k s0_0 bt346.2.1 bt346.2.2).bind fun bt351 => ((aZ.f k 10 0 (⟨#[]⟩ : ByteArray) 0 (⟨#[]⟩ : ByteArray) (([bt346.1, bt351.1] : List (List (S29))))).bind fun t359 => (some (t359, bt351.2.1, bt351.2.2)))))) else (if bt288.1.toList = ([98, 114, 101, 97, 107] : List UInt8) then (if 11 = 0 then (aX.j0 F k bt288.1 12 s0_0 bt288.2.1 bt288.2.2) else (aX.j0 F k bt288.1 11 s0_0 bt288.2.1 bt288.2.2)) else (if bt288.1.toList = ([99, 111, 110, 116, 105, 110, 117, 101] : List UInt8) then (if 0 = 0 then (aX.j0 F k bt288.1 12 s0_0 bt288.2.1 bt288.2.2) else (aX.j0 F k bt288.1 0 s0_0 bt288.2.1 bt288.2.2)) else (if bt288.1.toList = ([121, 105, 101, 108, 100] : List UInt8) then (aX.j0 F k bt288.1 0 s0_0 bt288.2.1 bt288.2.2) else (if bt288.1.toList = ([114, 101, 116, 117, 114, 110] : List UInt8) then (aX.j1 F k bt288.1 13 s0_0 bt288.2.1 bt288.2.2) else (if bt288.1.toList = ([112, 117, 116] : List UInt8) then (aX.j1 F k bt288.1 14 s0_0 bt288.2.1 bt288.2.2) else (if bt288.1.toList = ([101, 109, 105, 116] : List UInt8) then (aX.j1 F k bt288.1 15 s0_0 bt288.2.1 bt288.2.2) else (aX.j1 F k bt288.1 0 s0_0 bt288.2.1 bt288.2.2))))))))))
theorem aX.bP {F F' : Fam} (HLE : lg F F') : ∀ k, (∀ y0 y1 y2 y3 y4, LeO (aX.j1 F k y0 y1 y2 y3 y4) (aX.j1 F' (k + 1) y0 y1 y2 y3 y4)) ∧ (∀ y0 y1 y2 y3 y4, LeO (aX.j0 F k y0 y1 y2 y3 y4) (aX.j0 F' (k + 1) y0 y1 y2 y3 y4))
 | 0 => ⟨fun _ _ _ _ _ r h => by simp [aX.j1] at h, fun _ _ _ _ _ r h => by simp [aX.j0] at h⟩
 | k + 1 => by
  obtain ⟨ih0, ih1⟩ := aX.bP HLE k
  refine ⟨?_, ?_⟩
  ·intro y0 y1 y2 y3 y4
   unfold aX.j1
   have m0 := aZ.mono
   have m1 := fV.mono
   have m2 := (dU.mono HLE)
   have m3 := (dA.mono HLE)
   have m4 := (mg.mono HLE)
   have m5 := (jV.mono HLE)
   exact yL
  intro y0 y1 y2 y3 y4
  unfold aX.j0
  have m0 := aZ.mono
  have m1 := fV.mono
  have m2 := (dU.mono HLE)
  have m3 := (dA.mono HLE)
  have m4 := (mg.mono HLE)
  have m5 := (jV.mono HLE)
  exact yL
theorem aX.mono {F F' : Fam} (HLE : lg F F') : ∀ a0 a1 a2 k, LeO (aX.f F k a0 a1 a2) (aX.f F' (k + 1) a0 a1 a2) := by
 intro a0 a1 a2 k
 obtain ⟨ih0, ih1⟩ := aX.bP HLE k
 unfold aX.f
 have m0 := aZ.mono
 have m1 := fV.mono
 have m2 := (dU.mono HLE)
 have m3 := (dA.mono HLE)
 have m4 := (mg.mono HLE)
 have m5 := (jV.mono HLE)
 exact yL
end Go.Proofs.YtkbhkonenkgfoaaGreat.Q
end
section
namespace Go.Proofs.YtkbhkonenkgfoaaGreat.Q
open Go.RowKit Go.Proofs.YtkbhkonenkgfoaaGreatW.PrintWords Go.Proofs.YtkbhkonenkgfoaaGreatW.PrintLast Go.Proofs.YtkbhkonenkgfoaaGreatW.PrintMore
attribute [local go_sem] iW iV iU iR dJ dH dW dV dh df dI dG
set_option linter.unusedVariables false
set_option linter.unusedSimpArgs false
/-! ### bW: function 67 -/
def bW.l0 (F : Fam) : Nat → List (List (S29)) → List (S37) → Int → Bool → Option ((List (S29)) × Int × Bool)
 | 0, _, _, _, _ => none
 | k + 1, x3, x1000, x1001, x1002 => if x1002 = true then ((bg.f x1000 x1001 x1002 (⟨#[125]⟩ : ByteArray)).bind fun bt393 => ((aZ.f k 5 0 (⟨#[]⟩ : ByteArray) 0 (⟨#[]⟩ : ByteArray) x3).bind fun t395 => (some (t395, bt393.1, bt393.2)))) else ((dN.f x1000 x1001 x1002).bind fun bt398 => (if bt398.1.toList = ([125] : List UInt8) then ((bg.f x1000 bt398.2.1 bt398.2.2 (⟨#[125]⟩ : ByteArray)).bind fun bt401 => ((aZ.f k 5 0 (⟨#[]⟩ : ByteArray) 0 (⟨#[]⟩ : ByteArray) x3).bind fun t403 => (some (t403, bt401.1, bt401.2)))) else ((aX.f F k x1000 bt398.2.1 bt398.2.2).bind fun bt406 => (if x3.length < 5864062014805 then (bW.l0 F k (x3 ++ [bt406.1]) x1000 bt406.2.1 bt406.2.2) else (none)))))
def bW.f (F : Fam) (k : Nat) (s0_0 : List (S37)) (s0_1 : Int) (s0_2 : Bool) : Option ((List (S29)) × Int × Bool) := (bg.f s0_0 s0_1 s0_2 (⟨#[123]⟩ : ByteArray)).bind fun bt391 => (bW.l0 F k ([] : List (List (S29))) s0_0 bt391.1 bt391.2)
theorem bW.bP {F F' : Fam} (HLE : lg F F') : ∀ k, (∀ y0 y1 y2 y3, LeO (bW.l0 F k y0 y1 y2 y3) (bW.l0 F' (k + 1) y0 y1 y2 y3))
 | 0 => fun _ _ _ _ r h => by simp [bW.l0] at h
 | k + 1 => by
  have ih0 := bW.bP HLE k
  intro y0 y1 y2 y3
  unfold bW.l0
  have m0 := aZ.mono
  have m1 := (aX.mono HLE)
  exact yL
theorem bW.mono {F F' : Fam} (HLE : lg F F') : ∀ a0 a1 a2 k, LeO (bW.f F k a0 a1 a2) (bW.f F' (k + 1) a0 a1 a2) := by
 intro a0 a1 a2 k
 have ih0 := bW.bP HLE k
 unfold bW.f
 have m0 := aZ.mono
 have m1 := (aX.mono HLE)
 exact yL
/-! ### fH: function 66 -/
def fH.f (k : Nat) (s0_0 : List (S37)) (s0_1 : Int) (s0_2 : Bool) : Option ((List (S29)) × Int × Bool) := (dO.f s0_0 s0_1 s0_2 1).bind fun bt414 => ((aZ.f k 4 0 bt414.2.1 0 (⟨#[]⟩ : ByteArray) ([] : List (List (S29)))).bind fun t420 => (some (t420, bt414.2.2.2.2.1, bt414.2.2.2.2.2)))
theorem fH.mono : ∀ a0 a1 a2 k, LeO (fH.f k a0 a1 a2) (fH.f (k + 1) a0 a1 a2) := by
 intro a0 a1 a2 k
 unfold fH.f
 have m0 := aZ.mono
 exact yL
end Go.Proofs.YtkbhkonenkgfoaaGreat.Q
end
section
set_option linter.unusedVariables false
set_option linter.unusedSimpArgs false
namespace Go.Proofs.YtkbhkonenkgfoaaGreat.Q
open Go Go.RowKit Go.Proofs.YtkbhkonenkgfoaaGreatW.PrintWords Go.Proofs.YtkbhkonenkgfoaaGreatW.PrintLast Go.Proofs.YtkbhkonenkgfoaaGreatW.PrintMore
attribute [local go_sem] lK lJ lI lH
set_option maxHeartbeats 8000000 in
set_option maxRecDepth 100000 in
theorem yj (F : Fam) (HF : lL F) (k : Nat) (g : Nat) (s0 : List S37) (s1 : Int) (s2 : Bool) (a0 : Int) (a1 : Int) (a2 : ByteArray) (a3 : Int) (a4 : ByteArray) (r : List S29) (e1 : Int) (e2 : Bool) (w0 w : World) (hI : Rd 40 w0 w g s0 s1 s2) (hB : Below w0.heap.size w0 w) (h : dU.f F k s0 s1 s2 a0 a1 a2 a3 a4 = some (r, e1, e2)) :
 Calls Tryz.prog 95 #[.pointer (some ⟨g, 0, none⟩), .agg #[.int .i64 a0, .int .i64 a1, .string a2, .int .i64 a3, .string a4]] w (Back 40 w0 w g s0 e1 e2 (IsL w r)) := by
 unfold dU.f at h
 have HS := St.new (T := 40) (by decide) hI hB
 have H := ae.mk h
 clear h hI hB
 go_enter Tryz.func95, Tryz.ntmps95
 go_wp2_with (first | ((with_reducible refine bH (N := 3) rfl ?_); refine boxS (N := 3) (stT HS) (by first | (go_simp; done) | (go_simp; rfl)) ?_; clear HS; intro gb w' HS hne hge; (try (have hb_ := HS.box rfl; have hx0 := (aj hb_ 0).trans rfl; have hf0 := ag hb_ 0; have hx1 := (aj hb_ 1).trans rfl; have hf1 := ag hb_ 1; have hx2 := (aj hb_ 2).trans rfl; have hf2 := ag hb_ 2; have hx3 := (aj hb_ 3).trans rfl; have hf3 := ag hb_ 3; have hx4 := (aj hb_ 4).trans rfl; have hf4 := ag hb_ 4; clear hb_))) | ((with_reducible refine gC 96 rfl ?_); refine sL 96 rfl Tryz.func96 (stX HS) H (fun t q b hI hB h => toL (HF.expr g _ _ _ t q b w0 _ hI hB h)) ?_; (try clear hx0 hx1 hx2 hx3 hx4 hf0 hf1 hf2 hf3 hf4); clear HS H; intro t q b w' A c HS H; (try dsimp only at H)) | ((with_reducible refine gC 23 rfl ?_); refine sU 23 rfl Tryz.func23 (stX HS) H (fun q b hI hB => bg.calls g _ _ _ _ q b w0 _ hI hB) ?_; (try clear hx0 hx1 hx2 hx3 hx4 hf0 hf1 hf2 hf3 hf4); clear HS H; intro q b w' HS H; (try dsimp only at H); (try (have hb_ := HS.box rfl; have hx0 := (aj hb_ 0).trans rfl; have hf0 := ag hb_ 0; have hx1 := (aj hb_ 1).trans rfl; have hf1 := ag hb_ 1; have hx2 := (aj hb_ 2).trans rfl; have hf2 := ag hb_ 2; have hx3 := (aj hb_ 3).trans rfl; have hf3 := ag hb_ 3; have hx4 := (aj hb_ 4).trans rfl; have hf4 := ag hb_ 4; clear hb_))) | ((with_reducible refine bH (N := 12) rfl ?_); refine kZ (N := 12) (stX HS) (by first | (go_simp; done) | (go_simp; rfl)) ?_; clear HS; intro A c w' HS) | ((with_reducible refine gC 28 rfl ?_); refine sJ 28 rfl Tryz.func28 (stX HS) H (fun t hr hc => aZ.calls _ _ _ _ _ _ _ _ _ t _ hr hc) ?_; (try clear hx0 hx1 hx2 hx3 hx4 hf0 hf1 hf2 hf3 hf4); clear HS H; intro t w' A c HS H; (try dsimp only at H)))
 all_goals
  have h_ := H.out; simp only [Option.some.injEq, Prod.mk.injEq] at h_; obtain ⟨rfl, rfl, rfl⟩ := h_
  go_ret
  exact (stT HS).jD (.head _)
set_option maxHeartbeats 8000000 in
set_option maxRecDepth 100000 in
theorem I8 (k : Nat) (g : Nat) (s0 : List S37) (s1 : Int) (s2 : Bool) (a : Int) (r : List S29) (e1 : Int) (e2 : Bool) (w0 w : World) (hI : Rd 40 w0 w g s0 s1 s2) (hB : Below w0.heap.size w0 w) (h : fV.f k s0 s1 s2 a = some (r, e1, e2)) :
 Calls Tryz.prog 97 #[.pointer (some ⟨g, 0, none⟩), .int .i64 a] w (Back 40 w0 w g s0 e1 e2 (IsL w r)) := by
 unfold fV.f at h
 have HS := St.new (T := 40) (by decide) hI hB
 have H := ae.mk h
 clear h hI hB
 go_enter Tryz.func97, Tryz.ntmps97
 go_wp2_with (first | ((with_reducible refine gC 23 rfl ?_); refine sU 23 rfl Tryz.func23 (stT HS) H (fun q b hI hB => bg.calls g _ _ _ _ q b w0 _ hI hB) ?_; clear HS H; intro q b w' HS H; (try dsimp only at H)) | ((with_reducible refine gC 28 rfl ?_); refine sJ 28 rfl Tryz.func28 (stT HS).uG H (fun t hr hc => aZ.calls _ _ _ _ _ _ _ _ _ t _ hr hc) ?_; clear HS H; intro t w' A c HS H; (try dsimp only at H)))
 all_goals
  have h_ := H.out; simp only [Option.some.injEq, Prod.mk.injEq] at h_; obtain ⟨rfl, rfl, rfl⟩ := h_
  go_ret
  exact (stT HS).jD (.head _)
set_option maxHeartbeats 8000000 in
set_option maxRecDepth 100000 in
theorem JZ (k : Nat) (g : Nat) (s0 : List S37) (s1 : Int) (s2 : Bool) (r : List S29) (e1 : Int) (e2 : Bool) (w0 w : World) (hI : Rd 40 w0 w g s0 s1 s2) (hB : Below w0.heap.size w0 w) (h : gG.f k s0 s1 s2 = some (r, e1, e2)) :
 Calls Tryz.prog 26 #[.pointer (some ⟨g, 0, none⟩)] w (Back 40 w0 w g s0 e1 e2 (IsL w r)) := by
 unfold gG.f at h
 have HS := St.new (T := 40) (by decide) hI hB
 have H := ae.mk h
 clear h hI hB
 go_enter Tryz.func26, Tryz.ntmps26
 go_wp2_with (first | ((with_reducible refine bH (N := 3) rfl ?_); refine boxS (N := 3) (stT HS) (by first | (go_simp; done) | (go_simp; rfl)) ?_; clear HS; intro gb w' HS hne hge; (try (have hb_ := HS.box rfl; have hx0 := (aj hb_ 0).trans rfl; have hf0 := ag hb_ 0; have hx1 := (aj hb_ 1).trans rfl; have hf1 := ag hb_ 1; have hx2 := (aj hb_ 2).trans rfl; have hf2 := ag hb_ 2; have hx3 := (aj hb_ 3).trans rfl; have hf3 := ag hb_ 3; have hx4 := (aj hb_ 4).trans rfl; have hf4 := ag hb_ 4; clear hb_))) | ((with_reducible refine gC 24 rfl ?_); refine sN 24 rfl Tryz.func24 (stX HS) H (fun t1 t2 t3 t4 q b hI hB => dO.calls g _ _ _ _ t1 t2 t3 t4 q b w0 _ hI hB) ?_; (try clear hx0 hx1 hx2 hx3 hx4 hf0 hf1 hf2 hf3 hf4); clear HS H; intro t1 t2 t3 t4 q b w' HS H; (try dsimp only at H); (try (have hb_ := HS.box rfl; have hx0 := (aj hb_ 0).trans rfl; have hf0 := ag hb_ 0; have hx1 := (aj hb_ 1).trans rfl; have hf1 := ag hb_ 1; have hx2 := (aj hb_ 2).trans rfl; have hf2 := ag hb_ 2; have hx3 := (aj hb_ 3).trans rfl; have hf3 := ag hb_ 3; have hx4 := (aj hb_ 4).trans rfl; have hf4 := ag hb_ 4; clear hb_))) | ((with_reducible refine gC 23 rfl ?_); refine sU 23 rfl Tryz.func23 (stX HS) H (fun q b hI hB => bg.calls g _ _ _ _ q b w0 _ hI hB) ?_; (try clear hx0 hx1 hx2 hx3 hx4 hf0 hf1 hf2 hf3 hf4); clear HS H; intro q b w' HS H; (try dsimp only at H); (try (have hb_ := HS.box rfl; have hx0 := (aj hb_ 0).trans rfl; have hf0 := ag hb_ 0; have hx1 := (aj hb_ 1).trans rfl; have hf1 := ag hb_ 1; have hx2 := (aj hb_ 2).trans rfl; have hf2 := ag hb_ 2; have hx3 := (aj hb_ 3).trans rfl; have hf3 := ag hb_ 3; have hx4 := (aj hb_ 4).trans rfl; have hf4 := ag hb_ 4; clear hb_))) | ((with_reducible refine gC 28 rfl ?_); refine sJ 28 rfl Tryz.func28 (stX HS).uG H (fun t hr hc => aZ.calls _ _ _ _ _ _ _ _ _ t _ hr hc) ?_; (try clear hx0 hx1 hx2 hx3 hx4 hf0 hf1 hf2 hf3 hf4); clear HS H; intro t w' A c HS H; (try dsimp only at H)))
 all_goals
  have h_ := H.out; simp only [Option.some.injEq, Prod.mk.injEq] at h_; obtain ⟨rfl, rfl, rfl⟩ := h_
  go_ret
  exact (stT HS).jD (.head _)
set_option maxHeartbeats 8000000 in
set_option maxRecDepth 100000 in
theorem Fv (k : Nat) (g : Nat) (s0 : List S37) (s1 : Int) (s2 : Bool) (r : List S29) (e1 : Int) (e2 : Bool) (w0 w : World) (hI : Rd 40 w0 w g s0 s1 s2) (hB : Below w0.heap.size w0 w) (h : fH.f k s0 s1 s2 = some (r, e1, e2)) :
 Calls Tryz.prog 66 #[.pointer (some ⟨g, 0, none⟩)] w (Back 40 w0 w g s0 e1 e2 (IsL w r)) := by
 unfold fH.f at h
 have HS := St.new (T := 40) (by decide) hI hB
 have H := ae.mk h
 clear h hI hB
 go_enter Tryz.func66, Tryz.ntmps66
 go_wp2_with (first | ((with_reducible refine gC 24 rfl ?_); refine sN 24 rfl Tryz.func24 (stT HS) H (fun t1 t2 t3 t4 q b hI hB => dO.calls g _ _ _ _ t1 t2 t3 t4 q b w0 _ hI hB) ?_; clear HS H; intro t1 t2 t3 t4 q b w' HS H; (try dsimp only at H)) | ((with_reducible refine gC 28 rfl ?_); refine sJ 28 rfl Tryz.func28 (stT HS).uG H (fun t hr hc => aZ.calls _ _ _ _ _ _ _ _ _ t _ hr hc) ?_; clear HS H; intro t w' A c HS H; (try dsimp only at H)))
 all_goals
  have h_ := H.out; simp only [Option.some.injEq, Prod.mk.injEq] at h_; obtain ⟨rfl, rfl, rfl⟩ := h_
  go_ret
  exact (stT HS).jD (.head _)
end Go.Proofs.YtkbhkonenkgfoaaGreat.Q
end
section
namespace Go.Proofs.YtkbhkonenkgfoaaGreat.Q
open Go.RowKit Go.Proofs.YtkbhkonenkgfoaaGreatW.PrintWords Go.Proofs.YtkbhkonenkgfoaaGreatW.PrintLast Go.Proofs.YtkbhkonenkgfoaaGreatW.PrintMore
attribute [local go_sem] iW iV iU iR dJ dH dW dV dh df dI dG
set_option linter.unusedVariables false
set_option linter.unusedSimpArgs false
/-! ### iJ: function 119 -/
mutual
def iJ.l0 (F : Fam) : Nat → List (List (S29)) → List (S37) → Int → Bool → Option ((List (List (S29))) × Int × Bool)
 | 0, _, _, _, _ => none
 | k + 1, x5, x1000, x1001, x1002 => if x1002 = true then (iJ.j1 F k x5 false x1000 x1001 x1002) else ((dN.f x1000 x1001 x1002).bind fun bt580 => (iJ.j1 F k x5 (bt580.1.toList != ([41] : List UInt8)) x1000 bt580.2.1 bt580.2.2))
def iJ.j1 (F : Fam) : Nat → List (List (S29)) → Bool → List (S37) → Int → Bool → Option ((List (List (S29))) × Int × Bool)
 | 0, _, _, _, _, _ => none
 | k + 1, x5, x17, x1000, x1001, x1002 => if x17 = true then (if (x5.length : Int) > 0 then ((bg.f x1000 x1001 x1002 (⟨#[44]⟩ : ByteArray)).bind fun bt585 => ((jV.f F k x1000 bt585.1 bt585.2).bind fun bt587 => (if x5.length < 5864062014805 then (iJ.l0 F k (x5 ++ [bt587.1]) x1000 bt587.2.1 bt587.2.2) else (none)))) else ((jV.f F k x1000 x1001 x1002).bind fun bt595 => (if x5.length < 5864062014805 then (iJ.l0 F k (x5 ++ [bt595.1]) x1000 bt595.2.1 bt595.2.2) else (none)))) else ((bg.f x1000 x1001 x1002 (⟨#[41]⟩ : ByteArray)).bind fun bt583 => (some (x5, bt583.1, bt583.2)))
end
def iJ.f (F : Fam) (k : Nat) (s0_0 : List (S37)) (s0_1 : Int) (s0_2 : Bool) : Option ((List (List (S29))) × Int × Bool) := (bg.f s0_0 s0_1 s0_2 (⟨#[40]⟩ : ByteArray)).bind fun bt578 => (iJ.l0 F k ([] : List (List (S29))) s0_0 bt578.1 bt578.2)
theorem iJ.bP {F F' : Fam} (HLE : lg F F') : ∀ k, (∀ y0 y1 y2 y3, LeO (iJ.l0 F k y0 y1 y2 y3) (iJ.l0 F' (k + 1) y0 y1 y2 y3)) ∧ (∀ y0 y1 y2 y3 y4, LeO (iJ.j1 F k y0 y1 y2 y3 y4) (iJ.j1 F' (k + 1) y0 y1 y2 y3 y4))
 | 0 => ⟨fun _ _ _ _ r h => by simp [iJ.l0] at h, fun _ _ _ _ _ r h => by simp [iJ.j1] at h⟩
 | k + 1 => by
  obtain ⟨ih0, ih1⟩ := iJ.bP HLE k
  refine ⟨?_, ?_⟩
  ·intro y0 y1 y2 y3
   unfold iJ.l0
   have m0 := (jV.mono HLE)
   exact yL
  intro y0 y1 y2 y3 y4
  unfold iJ.j1
  have m0 := (jV.mono HLE)
  exact yL
theorem iJ.mono {F F' : Fam} (HLE : lg F F') : ∀ a0 a1 a2 k, LeO (iJ.f F k a0 a1 a2) (iJ.f F' (k + 1) a0 a1 a2) := by
 intro a0 a1 a2 k
 obtain ⟨ih0, ih1⟩ := iJ.bP HLE k
 unfold iJ.f
 have m0 := (jV.mono HLE)
 exact yL
end Go.Proofs.YtkbhkonenkgfoaaGreat.Q
end
section
set_option linter.unusedVariables false
set_option linter.unusedSimpArgs false
namespace Go.Proofs.YtkbhkonenkgfoaaGreat.Q
open Go Go.RowKit Go.Proofs.YtkbhkonenkgfoaaGreatW.PrintWords Go.Proofs.YtkbhkonenkgfoaaGreatW.PrintLast Go.Proofs.YtkbhkonenkgfoaaGreatW.PrintMore
attribute [local go_sem] lK lJ lI lH
set_option maxHeartbeats 8000000 in
set_option maxRecDepth 100000 in
theorem Am (F : Fam) (HF : lL F) (k : Nat) (g : Nat) (s0 : List S37) (s1 : Int) (s2 : Bool) (r : List (List S29)) (e1 : Int) (e2 : Bool) (w0 w : World) (hI : Rd 40 w0 w g s0 s1 s2) (hB : Below w0.heap.size w0 w) (h : iJ.f F k s0 s1 s2 = some (r, e1, e2)) :
 Calls Tryz.prog 65 #[.pointer (some ⟨g, 0, none⟩), .func (.func 96) #[.pointer (some ⟨g, 0, none⟩)] #[]] w (Back 40 w0 w g s0 e1 e2 (IsK w g r)) := by
 unfold iJ.f at h
 have HS := St.new (T := 40) (by decide) hI hB
 have H := ae.mk h
 clear h hI hB
 go_enter Tryz.func65, Tryz.ntmps65
 go_wp2_with (first | ((with_reducible refine gC 23 rfl ?_); refine sU 23 rfl Tryz.func23 (stT HS) H (fun q b hI hB => bg.calls g _ _ _ _ q b w0 _ hI hB) ?_; clear HS H; intro q b w' HS H; (try dsimp only at H)))
 (try simp only [Act.put, List.setIfInBounds_toArray, List.set_cons_zero, List.set_cons_succ])
 go_loopg [5] k (fun kq v3 w' => ∃ (x3 : List (List S29)) (p : Int) (d : Bool) (A : Option Addr) (c : Nat), v3 = .slice A x3.length c ∧ ae (iJ.l0 F kq x3 s0 p d = some (r, e1, e2)) ∧ ae (kq ≤ k) ∧ St 40 w0 w w' g s0 p d [] [(.slice A x3.length c, x3)] ⟨[], []⟩)
 case atStart => exact ⟨[], _, _, none, 0, rfl, H, ⟨Nat.le_refl _⟩, (stT HS).clear.uG⟩
 case round =>
  clear HS H
  obtain ⟨x3, p, d, A, c, rfl, H, HK1, HS⟩ := hrel
  cases gk with
  | zero => exact absurd H.out (by simp [iJ.l0])
  | succ k1 =>
   simp only [iJ.l0] at H
   cases k1 with
   | zero => exact absurd H.out (by cases d <;> simp [iJ.j1])
   | succ k2 =>
   simp only [iJ.j1] at H
   have hc2 := HS.rd.cell2
   by_cases hx : (x3.length : Int) > 0
   all_goals
    simp only [hx, if_true, if_false] at H
    first | (have hxb : decide (0 < (x3.length : Int)) = true := decide_eq_true hx; have hxc : decide (0 < x3.length) = true := decide_eq_true (by omega)) | (have hxb : decide (0 < (x3.length : Int)) = false := decide_eq_false hx; have hxc : decide (0 < x3.length) = false := decide_eq_false (by omega))
    clear hx
   all_goals
    cases d <;> (try simp only [if_true, if_false, eq_self, Bool.false_eq_true, Bool.not_true, Bool.not_false] at H)
   all_goals go_wp2_with (first | (go_at_call 64; refine cX (stT HS) H (fun t q b hI hB => dN.calls g _ _ _ t q b w0 _ hI hB) ?_; clear HS H; intro t q b w' HS H; (try dsimp only at H); rcases tS t ([41] : List UInt8) with ⟨c, cb1, cn1⟩ | ⟨c, cb1, cn1⟩ <;> (simp only [cn1, if_true, if_false, eq_self, Bool.false_eq_true] at H; clear c)) | ((with_reducible refine gC 23 rfl ?_); refine sU 23 rfl Tryz.func23 (stT HS) H (fun q b hI hB => bg.calls g _ _ _ _ q b w0 _ hI hB) ?_; clear HS H; intro q b w' HS H; (try dsimp only at H)) | (go_at_call 96; refine cL (stT HS) H (fun t q b hI hB h => toL (HF.expr g _ _ _ t q b w0 _ hI hB h)) ?_; clear HS H; intro t q b w' A c HS H; (try dsimp only at H)) | ((with_reducible refine bH (N := 26) rfl ?_); refine kZ (N := 26) (stT HS) (by first | (go_simp; done) | (go_simp; rfl)) ?_; clear HS; intro A c w' HS) | ((with_reducible refine eu (b := .append) (xs := #[.tmp 23, .tmp 26]) rfl ?_); at_builtin; refine zD (N := 27) (.tmp 23) (.tmp 26) rfl Tryz.underlying55 info23 (stT HS) rfl rfl H ?_; clear HS H; intro A c w' HS H; (try replace H := hB H); (try dsimp only at H)))
   all_goals first
    | (go_roundg k2; (case measure => have := HK1.out; omega); (case rel => exact ⟨_, _, _, _, _, by first | rfl | simp, H, ⟨by have := HK1.out; omega⟩, stT HS⟩))
    | (have h_ := H.out; simp only [Option.some.injEq, Prod.mk.injEq] at h_; obtain ⟨rfl, rfl, rfl⟩ := h_; go_ret; exact (stT HS).Bv)
end Go.Proofs.YtkbhkonenkgfoaaGreat.Q
end
section
namespace Go.Proofs.YtkbhkonenkgfoaaGreat.Q
open Go.RowKit Go.Proofs.YtkbhkonenkgfoaaGreatW.PrintWords Go.Proofs.YtkbhkonenkgfoaaGreatW.PrintLast Go.Proofs.YtkbhkonenkgfoaaGreatW.PrintMore
attribute [local go_sem] iW iV iU iR dJ dH dW dV dh df dI dG
set_option linter.unusedVariables false
set_option linter.unusedSimpArgs false
/-! ### gq: function 113 -/
def gq.f (F : Fam) (k : Nat) (s0_0 : List (S37)) (s0_1 : Int) (s0_2 : Bool) : Option ((List (S29)) × Int × Bool) := (kR.f s0_0 s0_1 s0_2).bind fun bt603 => (if bt603.2.2.2.2.1 = true then (if bt603.1 = 2 then ((aZ.f k 19 0 (⟨#[]⟩ : ByteArray) bt603.2.2.1 (⟨#[]⟩ : ByteArray) ([] : List (List (S29)))).bind fun t611 => (some (t611, wrap64 (bt603.2.2.2.2.2.1 + 1), bt603.2.2.2.2.2.2))) else (if bt603.1 = 3 then ((aZ.f k 20 0 (⟨#[]⟩ : ByteArray) 0 bt603.2.1 ([] : List (List (S29)))).bind fun t614 => (some (t614, wrap64 (bt603.2.2.2.2.2.1 + 1), bt603.2.2.2.2.2.2))) else ((dO.f s0_0 bt603.2.2.2.2.2.1 bt603.2.2.2.2.2.2 1).bind fun bt617 => ((bn.f s0_0 bt617.2.2.2.2.1 bt617.2.2.2.2.2 (⟨#[46]⟩ : ByteArray)).bind fun bt623 => (if bt623.1 = true then ((dO.f s0_0 bt623.2.1 bt623.2.2 1).bind fun bt626 => ((iJ.f F k s0_0 bt626.2.2.2.2.1 bt626.2.2.2.2.2).bind fun bt632 => ((aZ.f k 23 0 bt617.2.1 0 bt626.2.1 bt632.1).bind fun t637 => (some (t637, bt632.2.1, bt632.2.2))))) else ((aZ.f k 21 0 bt617.2.1 0 (⟨#[]⟩ : ByteArray) ([] : List (List (S29)))).bind fun t640 => (some (t640, bt623.2.1, bt623.2.2)))))))) else (some (([] : List (S29)), bt603.2.2.2.2.2.1, true)))
theorem gq.mono {F F' : Fam} (HLE : lg F F') : ∀ a0 a1 a2 k, LeO (gq.f F k a0 a1 a2) (gq.f F' (k + 1) a0 a1 a2) := by
 intro a0 a1 a2 k
 unfold gq.f
 have m0 := aZ.mono
 have m1 := (iJ.mono HLE)
 exact yL
end Go.Proofs.YtkbhkonenkgfoaaGreat.Q
end
section
set_option linter.unusedVariables false
set_option linter.unusedSimpArgs false
namespace Go.Proofs.YtkbhkonenkgfoaaGreat.Q
open Go Go.RowKit Go.Proofs.YtkbhkonenkgfoaaGreatW.PrintWords Go.Proofs.YtkbhkonenkgfoaaGreatW.PrintLast Go.Proofs.YtkbhkonenkgfoaaGreatW.PrintMore
attribute [local go_sem] lK lJ lI lH
set_option maxHeartbeats 8000000 in
set_option maxRecDepth 100000 in
theorem I5 (F : Fam) (HF : lL F) (k : Nat) (g : Nat) (s0 : List S37) (s1 : Int) (s2 : Bool) (r : List S29) (e1 : Int) (e2 : Bool) (w0 w : World) (hI : Rd 40 w0 w g s0 s1 s2) (hB : Below w0.heap.size w0 w) (h : gq.f F k s0 s1 s2 = some (r, e1, e2)) :
 Calls Tryz.prog 113 #[.pointer (some ⟨g, 0, none⟩)] w (Back 40 w0 w g s0 e1 e2 (IsL w r)) := by
 unfold gq.f at h
 have HS := St.new (T := 40) (by decide) hI hB
 have H := ae.mk h
 clear h hI hB
 go_enter Tryz.func113, Tryz.ntmps113
 go_wp2_with (first | ((with_reducible refine gC 63 rfl ?_); refine sX 63 rfl Tryz.func63 (stT HS) H (fun t1 t2 t3 t4 o q b hI hB => kR.calls g _ _ _ t1 t2 t3 t4 o q b w0 _ hI hB) ?_; clear HS H; intro t1 t2 t3 t4 o q b w' HS H; (try dsimp only at H); cases o <;> (try simp only [if_true, if_false, eq_self, Bool.false_eq_true] at H); rotate_left; rcases nS t1 2 with ⟨c, cb1, cn1⟩ | ⟨c, cb1, cn1⟩; replace H := hI c H; clear c; rotate_left; replace H := hE c H; clear c; rcases nS t1 3 with ⟨c, cb2, cn2⟩ | ⟨c, cb2, cn2⟩; replace H := hI c H; clear c; rotate_left; replace H := hE c H; clear c) | ((with_reducible refine bH (N := 3) rfl ?_); refine boxS (N := 3) (cs := #[.int .i64 0, .string (⟨#[]⟩ : ByteArray), .int .i64 0, .int .i64 0]) (t := 37) (stT HS) (by first | (go_simp; done) | (go_simp; rfl)) ?_; clear HS; intro gb w' HS hne hge; have hnc := Ne.symm hne; (try (have hb_ := HS.box rfl; have hx0 := (aj hb_ 0).trans rfl; have hf0 := ag hb_ 0; have hx1 := (aj hb_ 1).trans rfl; have hf1 := ag hb_ 1; have hx2 := (aj hb_ 2).trans rfl; have hf2 := ag hb_ 2; have hx3 := (aj hb_ 3).trans rfl; have hf3 := ag hb_ 3; clear hb_)); have hc1 := HS.rd.cell1; have hf1 := HS.rd.fro 1; have hc2 := HS.rd.cell2; have hf2 := HS.rd.fro 2) | ((with_reducible refine gC 24 rfl ?_); refine sN 24 rfl Tryz.func24 (stX HS) H (fun t1 t2 t3 t4 q b hI hB => dO.calls g _ _ _ _ t1 t2 t3 t4 q b w0 _ hI hB) ?_; (try clear hx0 hx1 hx2 hx3 hx4 hf0 hf1 hf2 hf3 hf4); (try clear hc1 hf1 hc2 hf2); clear HS H; intro t1 t2 t3 t4 q b w' HS H; (try dsimp only at H)) | ((with_reducible refine gC 25 rfl ?_); refine sB 25 rfl Tryz.func25 (stX HS) H (fun t q b hI hB => bn.calls g _ _ _ _ t q b w0 _ hI hB) ?_; (try clear hx0 hx1 hx2 hx3 hx4 hf0 hf1 hf2 hf3 hf4); (try clear hc1 hf1 hc2 hf2); clear HS H; intro t q b w' HS H; (try dsimp only at H); cases t <;> (try simp only [if_true, if_false, eq_self, Bool.false_eq_true, Bool.not_true, Bool.not_false] at H)) | ((with_reducible refine gC 65 rfl ?_); refine sK 65 rfl Tryz.func65 (stX HS) H (fun t q b hI hB h => Am F HF _ g _ _ _ t q b w0 _ hI hB h) ?_; (try clear hx0 hx1 hx2 hx3 hx4 hf0 hf1 hf2 hf3 hf4); (try clear hc1 hf1 hc2 hf2); clear HS H; intro t q b w' A c HS H; (try dsimp only at H)) | ((with_reducible refine gC 28 rfl ?_); refine sJ 28 rfl Tryz.func28 (stX HS) H (fun t hr hc => aZ.calls _ _ _ _ _ _ _ _ _ t _ hr hc) ?_; (try clear hx0 hx1 hx2 hx3 hx4 hf0 hf1 hf2 hf3 hf4); (try clear hc1 hf1 hc2 hf2); clear HS H; intro t w' A c HS H; (try dsimp only at H)) | ((with_reducible refine gC 28 rfl ?_); refine sJ 28 rfl Tryz.func28 (stX HS).uG H (fun t hr hc => aZ.calls _ _ _ _ _ _ _ _ _ t _ hr hc) ?_; (try clear hx0 hx1 hx2 hx3 hx4 hf0 hf1 hf2 hf3 hf4); (try clear hc1 hf1 hc2 hf2); clear HS H; intro t w' A c HS H; (try dsimp only at H)))
 all_goals first
  | (have h_ := H.out; simp only [Option.some.injEq, Prod.mk.injEq] at h_; obtain ⟨rfl, rfl, rfl⟩ := h_; go_ret; exact (stT HS).jD (.head _))
  | (have h_ := H.out; simp only [Option.some.injEq, Prod.mk.injEq] at h_; obtain ⟨rfl, rfl, rfl⟩ := h_; go_ret; exact St.Bq (stX HS))
end Go.Proofs.YtkbhkonenkgfoaaGreat.Q
end
