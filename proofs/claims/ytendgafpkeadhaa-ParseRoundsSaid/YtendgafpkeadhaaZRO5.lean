/- Walks over functions of the program, words for them, and what the functions come to; of each text only what this claim uses; no condition. -/
import Derived.Test.YtendgafpkeadhaaZRO0
import Derived.Test.YtendgafpkeadhaaZRO1
import Derived.Test.YtendgafpkeadhaaZRO3
import Derived.Test.YtendgafpkeadhaaZRO4
section
namespace Go.Proofs.Ytendgafpkeadhaa.Q
open Go.RowKit Go.Proofs.YtendgafpkeadhaaW.PrintWords Go.Proofs.YtendgafpkeadhaaW.PrintLast Go.Proofs.YtendgafpkeadhaaW.PrintMore
attribute [local go_sem] iY iW iV iU max2_int min2_int max_two min_two max_three min_three max_four min_four
set_option linter.unusedVariables false
set_option linter.unusedSimpArgs false
/-! ### ax: function 53 -/
def ax.f (s0_0 : List (S38)) (s0_1 : Int) (s0_2 : Bool) (a1 : ByteArray) : Option (Bool × Int × Bool) := if a1.toList = ([] : List UInt8) then (some (false, s0_1, s0_2)) else ((aZ.f s0_0 s0_1 s0_2).bind fun bt221 => (if bt221.1.toList = a1.toList then (some (true, wrap64 (bt221.2.1 + 1), bt221.2.2)) else (some (false, bt221.2.1, bt221.2.2))))
set_option maxHeartbeats 8000000 in
set_option maxRecDepth 100000 in
theorem ax.calls (g : Nat) (s0_0 : List (S38)) (s0_1 : Int) (s0_2 : Bool) (a1 : ByteArray) (r1 : Bool) (r2 : Int) (r3 : Bool) (w0 w : World) (hI : ai w0 w g s0_0 s0_1 s0_2) (hB : Below w0.heap.size w0 w) (h : ax.f s0_0 s0_1 s0_2 a1 = some (r1, r2, r3)) :
 Calls Try.prog 53 #[.pointer (some ⟨g, 0, none⟩), .string a1] w fun e w' => e = .returned (.bool r1) ∧ ai w0 w' g s0_0 r2 r3 ∧ Below w0.heap.size w0 w' ∧ ag w w' g none := by
 have HI0 := Aside0.mk hI
 have HK := Aside0.mk (ag.refl w g none)
 have HL := Aside0.mk hB.size
 clear hI
 have HW0 := Aside0.mk hB.size
 have HB := Aside0.mk hB
 clear hB
 have H := h
 clear h
 unfold ax.f at H
 revert H
 refine aJ (fun c3b0 c3b1 H => ?_) fun c3 c3b0 c3b1 H => ?_
 ·simp only [Option.some.injEq, Prod.mk.injEq] at H
  obtain ⟨rfl, rfl, rfl⟩ := H
  go_enter Try.func53, Try.ntmps53
  go_wp2
  go_ret
  exact ⟨Z4, Z0, Z2, Z1⟩
 revert H
 refine yB3 fun t221 t222 t223 A4 H => ?_
 try dsimp only at H
 revert H
 refine aJ (fun c5b0 c5b1 H => ?_) fun c5 c5b0 c5b1 H => ?_
 ·simp only [Option.some.injEq, Prod.mk.injEq] at H
  obtain ⟨rfl, rfl, rfl⟩ := H
  go_enter Try.func53, Try.ntmps53
  go_wp2_with (first | (go_at_call 71; (with_reducible refine (aZ.calls g s0_0 s0_1 s0_2 t221 t222 t223 w0 _ ?side1 ?side2 A4.out).mono ?_); (case side1 => exact Z0); (case side2 => exact Z2); rintro e w6 ⟨rfl, hi, hb, hk⟩; refine yA3 (ag.trans Z1 hk (.inl rfl)) (hb) (hi) ?_; clear HK HB HI0; intro HK HB HI0; (try clear hb); obtain ⟨ASz7_0, cSz7_0, HGz7, hgz7, HSz7_0⟩ := HI0.out; have hcz7_0 := dH HGz7; have hcz7_1 := dG HGz7; have hcz7_2 := dF HGz7; have hfz7_1 := ae HGz7 1; have hfz7_2 := ae HGz7 2; clear HGz7 hgz7))
  go_ret
  exact ⟨Z4, Z0, Z2, Z1⟩
 simp only [Option.some.injEq, Prod.mk.injEq] at H
 obtain ⟨rfl, rfl, rfl⟩ := H
 go_enter Try.func53, Try.ntmps53
 go_wp2_with (first | (go_at_call 71; (with_reducible refine (aZ.calls g s0_0 s0_1 s0_2 t221 t222 t223 w0 _ ?side1 ?side2 A4.out).mono ?_); (case side1 => exact Z0); (case side2 => exact Z2); rintro e w8 ⟨rfl, hi, hb, hk⟩; refine yA3 (ag.trans Z1 hk (.inl rfl)) (hb) (hi) ?_; clear HK HB HI0; intro HK HB HI0; (try clear hb)))
 go_ret
 exact ⟨Z4, Z0, Z2, Z1⟩
/-! ### aG: function 51 -/
def aG.f (s0_0 : List (S38)) (s0_1 : Int) (s0_2 : Bool) (a1 : ByteArray) : Option (Int × Bool) := (ax.f s0_0 s0_1 s0_2 a1).bind fun bt224 => (if bt224.1 = true then (some (bt224.2.1, bt224.2.2)) else (some (bt224.2.1, true)))
set_option maxHeartbeats 8000000 in
set_option maxRecDepth 100000 in
theorem aG.calls (g : Nat) (s0_0 : List (S38)) (s0_1 : Int) (s0_2 : Bool) (a1 : ByteArray) (r1 : Int) (r2 : Bool) (w0 w : World) (hI : ai w0 w g s0_0 s0_1 s0_2) (hB : Below w0.heap.size w0 w) (h : aG.f s0_0 s0_1 s0_2 a1 = some (r1, r2)) :
 Calls Try.prog 51 #[.pointer (some ⟨g, 0, none⟩), .string a1] w fun e w' => e = .returned (.tuple #[]) ∧ ai w0 w' g s0_0 r1 r2 ∧ Below w0.heap.size w0 w' ∧ ag w w' g none := by
 have HI0 := Aside0.mk hI
 have HK := Aside0.mk (ag.refl w g none)
 have HL := Aside0.mk hB.size
 clear hI
 have HW0 := Aside0.mk hB.size
 have HB := Aside0.mk hB
 clear hB
 have H := h
 clear h
 unfold aG.f at H
 revert H
 refine yB3 fun t224 t225 t226 A3 H => ?_
 try dsimp only at H
 cases t224
 rotate_left
 ·replace H := yT H
  simp only [Option.some.injEq, Prod.mk.injEq] at H
  obtain ⟨rfl, rfl⟩ := H
  go_enter Try.func51, Try.ntmps51
  go_wp2_with (first | ((with_reducible refine gC 53 rfl ?_); refine gM 53 7 rfl Try.func53 (ax.calls g s0_0 s0_1 s0_2 a1 true t225 t226 w0 _ Z0 Z2 A3.out) ?_; rintro _ w5 ⟨rfl, hi, hb, hk⟩; refine ⟨_, rfl, yA3 (ag.trans Z1 hk (.inl rfl)) (hb) (hi) ?_⟩; clear HK HB HI0 hb; intro HK HB HI0; obtain ⟨ASz6_0, cSz6_0, HGz6, hgz6, HSz6_0⟩ := HI0.out; have hcz6_0 := dH HGz6; have hcz6_1 := dG HGz6; have hcz6_2 := dF HGz6; have hfz6_1 := ae HGz6 1; have hfz6_2 := ae HGz6 2; clear HGz6 hgz6))
  first | go_end0 | ((try simp only [Exit.inBlock, Exit.then]); refine bodyPost_ret (results_none rfl _ _ _) rfl ?_)
  exact ⟨Z4, Z0, Z2, Z1⟩
 replace H := yF H
 simp only [Option.some.injEq, Prod.mk.injEq] at H
 obtain ⟨rfl, rfl⟩ := H
 go_enter Try.func51, Try.ntmps51
 go_wp2_with (first | ((with_reducible refine gC 53 rfl ?_); refine gM 53 7 rfl Try.func53 (ax.calls g s0_0 s0_1 s0_2 a1 false t225 t226 w0 _ Z0 Z2 A3.out) ?_; rintro _ w7 ⟨rfl, hi, hb, hk⟩; refine ⟨_, rfl, yA3 (ag.trans Z1 hk (.inl rfl)) (hb) (hi) ?_⟩; clear HK HB HI0 hb; intro HK HB HI0; obtain ⟨ASz8_0, cSz8_0, HGz8, hgz8, HSz8_0⟩ := HI0.out; have hcz8_0 := dH HGz8; have hcz8_1 := dG HGz8; have hcz8_2 := dF HGz8; have hfz8_1 := ae HGz8 1; have hfz8_2 := ae HGz8 2; clear HGz8 hgz8))
 first | go_end0 | ((try simp only [Exit.inBlock, Exit.then]); refine bodyPost_ret (results_none rfl _ _ _) rfl ?_)
 exact ⟨Z4, Z0, Z2, Z1⟩
/-! ### bu: function 52 -/
def bu.f (s0_0 : List (S38)) (s0_1 : Int) (s0_2 : Bool) (a1 : Int) : Option (Int × ByteArray × Int × Int × Int × Bool) := (gu.f s0_0 s0_1 s0_2).bind fun bt228 => (if bt228.2.2.2.2.1 = true then (if bt228.1 = a1 then (some (bt228.1, bt228.2.1, bt228.2.2.1, bt228.2.2.2.1, wrap64 (bt228.2.2.2.2.2.1 + 1), bt228.2.2.2.2.2.2)) else (some (0, (⟨#[]⟩ : ByteArray), 0, 0, bt228.2.2.2.2.2.1, true))) else (some (0, (⟨#[]⟩ : ByteArray), 0, 0, bt228.2.2.2.2.2.1, true)))
set_option maxHeartbeats 8000000 in
set_option maxRecDepth 100000 in
theorem bu.calls (g : Nat) (s0_0 : List (S38)) (s0_1 : Int) (s0_2 : Bool) (a1 : Int) (r1 : Int) (r2 : ByteArray) (r3 : Int) (r4 : Int) (r5 : Int) (r6 : Bool) (w0 w : World) (hI : ai w0 w g s0_0 s0_1 s0_2) (hB : Below w0.heap.size w0 w) (h : bu.f s0_0 s0_1 s0_2 a1 = some (r1, r2, r3, r4, r5, r6)) :
 Calls Try.prog 52 #[.pointer (some ⟨g, 0, none⟩), .int .i64 a1] w fun e w' => e = .returned (.agg #[.int .i64 r1, .string r2, .int .i64 r3, .int .i64 r4]) ∧ ai w0 w' g s0_0 r5 r6 ∧ Below w0.heap.size w0 w' ∧ ag w w' g none := by
 have hu38 := Try.underlying38
 have HI0 := Aside0.mk hI
 have HK := Aside0.mk (ag.refl w g none)
 have HL := Aside0.mk hB.size
 clear hI
 have HW0 := Aside0.mk hB.size
 have HB := Aside0.mk hB
 clear hB
 have H := h
 clear h
 unfold bu.f at H
 revert H
 refine yB7 fun t228 t229 t230 t231 t232 t233 t234 A3 H => ?_
 try dsimp only at H
 cases t232
 rotate_left
 ·replace H := yT H
  revert H
  refine aJ (fun c5b0 c5b1 H => ?_) fun c5 c5b0 c5b1 H => ?_
  ·simp only [Option.some.injEq, Prod.mk.injEq] at H
   obtain ⟨rfl, rfl, rfl, rfl, rfl, rfl⟩ := H
   go_enter Try.func52, Try.ntmps52
   go_wp2_with (first | ((with_reducible refine bJ (N := 4) rfl ?_); refine bU ?hg (N := 4) ?hd (cs := #[.int .i64 0, .string (⟨#[]⟩ : ByteArray), .int .i64 0, .int .i64 0]) (t := 38) ?hr ?_; (case hd => rfl); (case hg => rfl); (case hr => first | (go_simp; done) | (go_simp; rfl)); intro gb227 hg w6 hbox hb; refine yA8 (ai.below Z0 hb) (ag.trans Z1 (ag.of_below hb g none) (.inl rfl)) (below_step Z2 hb) (hbox) ((by rw [hg]; exact (by exact aC (w := w) (g := g) (row := none) Z1) : w.heap.size ≤ gb227)) ((Nat.le_trans HW0.out (by rw [hg]; exact (by exact aC (w := w) (g := g) (row := none) Z1) : w.heap.size ≤ gb227) : w0.heap.size ≤ gb227)) ((by rw [hg]; exact Nat.ne_of_lt (ai.lt (show ai w0 _ g s0_0 s0_1 s0_2 from Z0)) : g ≠ gb227)) ((by rw [hg]; exact Nat.ne_of_gt (ai.lt (show ai w0 _ g s0_0 s0_1 s0_2 from Z0)) : gb227 ≠ g)) ?_; clear HI0 HK HB; intro HI0 HK HB BK227 GW227 GE227 NB0_227 NB227_0; clear hb hbox hg) | ((with_reducible refine gC 70 rfl ?_); refine gM 70 9 rfl Try.func70 (gu.calls g s0_0 s0_1 s0_2 t228 t229 t230 t231 true t233 t234 w0 _ Z22 Z40 A3.out) ?_; rintro _ w7 ⟨rfl, hi, hb, hk⟩; refine ⟨_, rfl, yA4 (ag.blk hk (g' := gb227) (o := .cells #[.int .i64 0, .string (⟨#[]⟩ : ByteArray), .int .i64 0, .int .i64 0] 38 (0, 0)) (by exact BK227.out) NB227_0.out (by simp)) (ag.trans Z26 hk (.inl rfl)) (hb) (hi) ?_⟩; clear BK227 HK HB HI0 hb; intro BK227 HK HB HI0) | ((with_reducible refine bJ (N := 5) rfl ?_); refine bU ?hg (N := 5) ?hd (cs := #[.int .i64 0, .string (⟨#[]⟩ : ByteArray), .int .i64 0, .int .i64 0]) (t := 38) ?hr ?_; (case hd => rfl); (case hg => rfl); (case hr => first | (go_simp; done) | (go_simp; rfl)); intro gb235 hg w8 hbox hb; have n0_ := Aside0.mk (ai.below Z22 hb); have n1_ := Aside0.mk (bV (g := gb227) (o := .cells #[.int .i64 0, .string (⟨#[]⟩ : ByteArray), .int .i64 0, .int .i64 0] 38 (0, 0)) (by exact BK227.out) hb); have n2_ := Aside0.mk (ag.trans Z26 (ag.of_below hb g none) (.inl rfl)); have n3_ := Aside0.mk (below_step Z40 hb); have n4_ := Aside0.mk (hbox); have n5_ := Aside0.mk ((by rw [hg]; exact (by exact aC (w := w) (g := g) (row := none) Z26) : w.heap.size ≤ gb235)); have n6_ := Aside0.mk ((Nat.le_trans HW0.out (by rw [hg]; exact (by exact aC (w := w) (g := g) (row := none) Z26) : w.heap.size ≤ gb235) : w0.heap.size ≤ gb235)); have n7_ := Aside0.mk ((by rw [hg]; exact Nat.ne_of_lt (iE (g := gb227) (o := .cells #[.int .i64 0, .string (⟨#[]⟩ : ByteArray), .int .i64 0, .int .i64 0] 38 (0, 0)) (by exact BK227.out)) : gb227 ≠ gb235)); have n8_ := Aside0.mk ((by rw [hg]; exact Nat.ne_of_gt (iE (g := gb227) (o := .cells #[.int .i64 0, .string (⟨#[]⟩ : ByteArray), .int .i64 0, .int .i64 0] 38 (0, 0)) (by exact BK227.out)) : gb235 ≠ gb227)); have n9_ := Aside0.mk ((by rw [hg]; exact Nat.ne_of_lt (ai.lt (show ai w0 _ g s0_0 t233 t234 from Z22)) : g ≠ gb235)); have n10_ := Aside0.mk ((by rw [hg]; exact Nat.ne_of_gt (ai.lt (show ai w0 _ g s0_0 t233 t234 from Z22)) : gb235 ≠ g)); clear HI0; clear BK227; clear HK; clear HB; have HI0 := n0_; have BK227 := n1_; have HK := n2_; have HB := n3_; have BK235 := n4_; have GW235 := n5_; have GE235 := n6_; have NB227_235 := n7_; have NB235_227 := n8_; have NB0_235 := n9_; have NB235_0 := n10_; clear n0_ n1_ n2_ n3_ n4_ n5_ n6_ n7_ n8_ n9_ n10_; clear hb hbox hg; have hnb9 := NB235_227.out; have hnc9 := NB227_235.out; have hnb10 := NB235_0.out; have hnc10 := NB0_235.out; have hcz11_0 : w8.cell? ⟨gb235, 0, none⟩ = some (.int .i64 0) := (af BK235.out 0).trans rfl; have hcz11_1 : w8.cell? ⟨gb235, 1, none⟩ = some (.string (⟨#[]⟩ : ByteArray)) := (af BK235.out 1).trans rfl; have hcz11_2 : w8.cell? ⟨gb235, 2, none⟩ = some (.int .i64 0) := (af BK235.out 2).trans rfl; have hcz11_3 : w8.cell? ⟨gb235, 3, none⟩ = some (.int .i64 0) := (af BK235.out 3).trans rfl; have hfz11_0 := ae BK235.out 0; have hfz11_1 := ae BK235.out 1; have hfz11_2 := ae BK235.out 2; have hfz11_3 := ae BK235.out 3; obtain ⟨ASz12_0, cSz12_0, HGz12, hgz12, HSz12_0⟩ := HI0.out; have hcz12_0 := dH HGz12; have hcz12_1 := dG HGz12; have hcz12_2 := dF HGz12; have hfz12_1 := ae HGz12 1; have hfz12_2 := ae HGz12 2; clear HGz12 hgz12; have hnb13 := NB227_0.out; have hnc13 := NB0_227.out; have hcz14_0 : w8.cell? ⟨gb227, 0, none⟩ = some (.int .i64 0) := (af BK227.out 0).trans rfl; have hcz14_1 : w8.cell? ⟨gb227, 1, none⟩ = some (.string (⟨#[]⟩ : ByteArray)) := (af BK227.out 1).trans rfl; have hcz14_2 : w8.cell? ⟨gb227, 2, none⟩ = some (.int .i64 0) := (af BK227.out 2).trans rfl; have hcz14_3 : w8.cell? ⟨gb227, 3, none⟩ = some (.int .i64 0) := (af BK227.out 3).trans rfl; have hfz14_0 := ae BK227.out 0; have hfz14_1 := ae BK227.out 1; have hfz14_2 := ae BK227.out 2; have hfz14_3 := ae BK227.out 3))
   refine bodyPost_ret (results_cell_row rfl _ _ gb227 38 #[.int .i64 t228, .string t229, .int .i64 t230, .int .i64 t231] (0, 0) _ rfl (by refine aA (cs := #[.int .i64 t228, .string t229, .int .i64 t230, .int .i64 0]) ?_ 3 _ rfl; refine aA (cs := #[.int .i64 t228, .string t229, .int .i64 0, .int .i64 0]) ?_ 2 _ rfl; refine aA (cs := #[.int .i64 t228, .string (⟨#[]⟩ : ByteArray), .int .i64 0, .int .i64 0]) ?_ 1 _ rfl; refine aA (cs := #[.int .i64 0, .string (⟨#[]⟩ : ByteArray), .int .i64 0, .int .i64 0]) ?_ 0 _ rfl; refine eF ?_ NB227_0.out _; refine eF ?_ NB227_235.out _; refine eF ?_ NB227_235.out _; refine eF ?_ NB227_235.out _; refine eF ?_ NB227_235.out _; exact BK227.out) Try.underlying38 rfl (by kernel_rfl)) rfl ?_
   exact ⟨Z4, Z56, Z61, Z63⟩
  simp only [Option.some.injEq, Prod.mk.injEq] at H
  obtain ⟨rfl, rfl, rfl, rfl, rfl, rfl⟩ := H
  go_enter Try.func52, Try.ntmps52
  go_wp2_with (first | ((with_reducible refine bJ (N := 4) rfl ?_); refine bU ?hg (N := 4) ?hd (cs := #[.int .i64 0, .string (⟨#[]⟩ : ByteArray), .int .i64 0, .int .i64 0]) (t := 38) ?hr ?_; (case hd => rfl); (case hg => rfl); (case hr => first | (go_simp; done) | (go_simp; rfl)); intro gb227 hg w15 hbox hb; refine yA8 (ai.below Z0 hb) (ag.trans Z1 (ag.of_below hb g none) (.inl rfl)) (below_step Z2 hb) (hbox) ((by rw [hg]; exact (by exact aC (w := w) (g := g) (row := none) Z1) : w.heap.size ≤ gb227)) ((Nat.le_trans HW0.out (by rw [hg]; exact (by exact aC (w := w) (g := g) (row := none) Z1) : w.heap.size ≤ gb227) : w0.heap.size ≤ gb227)) ((by rw [hg]; exact Nat.ne_of_lt (ai.lt (show ai w0 _ g s0_0 s0_1 s0_2 from Z0)) : g ≠ gb227)) ((by rw [hg]; exact Nat.ne_of_gt (ai.lt (show ai w0 _ g s0_0 s0_1 s0_2 from Z0)) : gb227 ≠ g)) ?_; clear HI0 HK HB; intro HI0 HK HB BK227 GW227 GE227 NB0_227 NB227_0; clear hb hbox hg) | ((with_reducible refine gC 70 rfl ?_); refine gM 70 9 rfl Try.func70 (gu.calls g s0_0 s0_1 s0_2 t228 t229 t230 t231 true t233 t234 w0 _ Z22 Z40 A3.out) ?_; rintro _ w16 ⟨rfl, hi, hb, hk⟩; refine ⟨_, rfl, yA4 (ag.blk hk (g' := gb227) (o := .cells #[.int .i64 0, .string (⟨#[]⟩ : ByteArray), .int .i64 0, .int .i64 0] 38 (0, 0)) (by exact BK227.out) NB227_0.out (by simp)) (ag.trans Z26 hk (.inl rfl)) (hb) (hi) ?_⟩; clear BK227 HK HB HI0 hb; intro BK227 HK HB HI0) | ((with_reducible refine bJ (N := 5) rfl ?_); refine bU ?hg (N := 5) ?hd (cs := #[.int .i64 0, .string (⟨#[]⟩ : ByteArray), .int .i64 0, .int .i64 0]) (t := 38) ?hr ?_; (case hd => rfl); (case hg => rfl); (case hr => first | (go_simp; done) | (go_simp; rfl)); intro gb235 hg w17 hbox hb; have n0_ := Aside0.mk (ai.below Z22 hb); have n1_ := Aside0.mk (bV (g := gb227) (o := .cells #[.int .i64 0, .string (⟨#[]⟩ : ByteArray), .int .i64 0, .int .i64 0] 38 (0, 0)) (by exact BK227.out) hb); have n2_ := Aside0.mk (ag.trans Z26 (ag.of_below hb g none) (.inl rfl)); have n3_ := Aside0.mk (below_step Z40 hb); have n4_ := Aside0.mk (hbox); have n5_ := Aside0.mk ((by rw [hg]; exact (by exact aC (w := w) (g := g) (row := none) Z26) : w.heap.size ≤ gb235)); have n6_ := Aside0.mk ((Nat.le_trans HW0.out (by rw [hg]; exact (by exact aC (w := w) (g := g) (row := none) Z26) : w.heap.size ≤ gb235) : w0.heap.size ≤ gb235)); have n7_ := Aside0.mk ((by rw [hg]; exact Nat.ne_of_lt (iE (g := gb227) (o := .cells #[.int .i64 0, .string (⟨#[]⟩ : ByteArray), .int .i64 0, .int .i64 0] 38 (0, 0)) (by exact BK227.out)) : gb227 ≠ gb235)); have n8_ := Aside0.mk ((by rw [hg]; exact Nat.ne_of_gt (iE (g := gb227) (o := .cells #[.int .i64 0, .string (⟨#[]⟩ : ByteArray), .int .i64 0, .int .i64 0] 38 (0, 0)) (by exact BK227.out)) : gb235 ≠ gb227)); have n9_ := Aside0.mk ((by rw [hg]; exact Nat.ne_of_lt (ai.lt (show ai w0 _ g s0_0 t233 t234 from Z22)) : g ≠ gb235)); have n10_ := Aside0.mk ((by rw [hg]; exact Nat.ne_of_gt (ai.lt (show ai w0 _ g s0_0 t233 t234 from Z22)) : gb235 ≠ g)); clear HI0; clear BK227; clear HK; clear HB; have HI0 := n0_; have BK227 := n1_; have HK := n2_; have HB := n3_; have BK235 := n4_; have GW235 := n5_; have GE235 := n6_; have NB227_235 := n7_; have NB235_227 := n8_; have NB0_235 := n9_; have NB235_0 := n10_; clear n0_ n1_ n2_ n3_ n4_ n5_ n6_ n7_ n8_ n9_ n10_; clear hb hbox hg; have hnb18 := NB235_227.out; have hnc18 := NB227_235.out; have hnb19 := NB235_0.out; have hnc19 := NB0_235.out; have hcz20_0 : w17.cell? ⟨gb235, 0, none⟩ = some (.int .i64 0) := (af BK235.out 0).trans rfl; have hcz20_1 : w17.cell? ⟨gb235, 1, none⟩ = some (.string (⟨#[]⟩ : ByteArray)) := (af BK235.out 1).trans rfl; have hcz20_2 : w17.cell? ⟨gb235, 2, none⟩ = some (.int .i64 0) := (af BK235.out 2).trans rfl; have hcz20_3 : w17.cell? ⟨gb235, 3, none⟩ = some (.int .i64 0) := (af BK235.out 3).trans rfl; have hfz20_0 := ae BK235.out 0; have hfz20_1 := ae BK235.out 1; have hfz20_2 := ae BK235.out 2; have hfz20_3 := ae BK235.out 3; obtain ⟨ASz21_0, cSz21_0, HGz21, hgz21, HSz21_0⟩ := HI0.out; have hcz21_0 := dH HGz21; have hcz21_1 := dG HGz21; have hcz21_2 := dF HGz21; have hfz21_1 := ae HGz21 1; have hfz21_2 := ae HGz21 2; clear HGz21 hgz21; have hnb22 := NB227_0.out; have hnc22 := NB0_227.out; have hcz23_0 : w17.cell? ⟨gb227, 0, none⟩ = some (.int .i64 0) := (af BK227.out 0).trans rfl; have hcz23_1 : w17.cell? ⟨gb227, 1, none⟩ = some (.string (⟨#[]⟩ : ByteArray)) := (af BK227.out 1).trans rfl; have hcz23_2 : w17.cell? ⟨gb227, 2, none⟩ = some (.int .i64 0) := (af BK227.out 2).trans rfl; have hcz23_3 : w17.cell? ⟨gb227, 3, none⟩ = some (.int .i64 0) := (af BK227.out 3).trans rfl; have hfz23_0 := ae BK227.out 0; have hfz23_1 := ae BK227.out 1; have hfz23_2 := ae BK227.out 2; have hfz23_3 := ae BK227.out 3))
  refine bodyPost_ret (results_cell_row rfl _ _ gb227 38 #[.int .i64 0, .string (⟨#[]⟩ : ByteArray), .int .i64 0, .int .i64 0] (0, 0) _ rfl (by refine aA (cs := #[.int .i64 0, .string (⟨#[]⟩ : ByteArray), .int .i64 0, .int .i64 0]) ?_ 3 _ rfl; refine aA (cs := #[.int .i64 0, .string (⟨#[]⟩ : ByteArray), .int .i64 0, .int .i64 0]) ?_ 2 _ rfl; refine aA (cs := #[.int .i64 0, .string (⟨#[]⟩ : ByteArray), .int .i64 0, .int .i64 0]) ?_ 1 _ rfl; refine aA (cs := #[.int .i64 0, .string (⟨#[]⟩ : ByteArray), .int .i64 0, .int .i64 0]) ?_ 0 _ rfl; refine eF ?_ NB227_0.out _; refine eF ?_ NB227_235.out _; refine eF ?_ NB227_235.out _; refine eF ?_ NB227_235.out _; refine eF ?_ NB227_235.out _; exact BK227.out) Try.underlying38 rfl (by kernel_rfl)) rfl ?_
  exact ⟨Z4, Z56, Z61, Z63⟩
 replace H := yF H
 simp only [Option.some.injEq, Prod.mk.injEq] at H
 obtain ⟨rfl, rfl, rfl, rfl, rfl, rfl⟩ := H
 go_enter Try.func52, Try.ntmps52
 go_wp2_with (first | ((with_reducible refine bJ (N := 4) rfl ?_); refine bU ?hg (N := 4) ?hd (cs := #[.int .i64 0, .string (⟨#[]⟩ : ByteArray), .int .i64 0, .int .i64 0]) (t := 38) ?hr ?_; (case hd => rfl); (case hg => rfl); (case hr => first | (go_simp; done) | (go_simp; rfl)); intro gb227 hg w24 hbox hb; refine yA8 (ai.below Z0 hb) (ag.trans Z1 (ag.of_below hb g none) (.inl rfl)) (below_step Z2 hb) (hbox) ((by rw [hg]; exact (by exact aC (w := w) (g := g) (row := none) Z1) : w.heap.size ≤ gb227)) ((Nat.le_trans HW0.out (by rw [hg]; exact (by exact aC (w := w) (g := g) (row := none) Z1) : w.heap.size ≤ gb227) : w0.heap.size ≤ gb227)) ((by rw [hg]; exact Nat.ne_of_lt (ai.lt (show ai w0 _ g s0_0 s0_1 s0_2 from Z0)) : g ≠ gb227)) ((by rw [hg]; exact Nat.ne_of_gt (ai.lt (show ai w0 _ g s0_0 s0_1 s0_2 from Z0)) : gb227 ≠ g)) ?_; clear HI0 HK HB; intro HI0 HK HB BK227 GW227 GE227 NB0_227 NB227_0; clear hb hbox hg) | ((with_reducible refine gC 70 rfl ?_); refine gM 70 9 rfl Try.func70 (gu.calls g s0_0 s0_1 s0_2 t228 t229 t230 t231 false t233 t234 w0 _ Z22 Z40 A3.out) ?_; rintro _ w25 ⟨rfl, hi, hb, hk⟩; refine ⟨_, rfl, yA4 (ag.blk hk (g' := gb227) (o := .cells #[.int .i64 0, .string (⟨#[]⟩ : ByteArray), .int .i64 0, .int .i64 0] 38 (0, 0)) (by exact BK227.out) NB227_0.out (by simp)) (ag.trans Z26 hk (.inl rfl)) (hb) (hi) ?_⟩; clear BK227 HK HB HI0 hb; intro BK227 HK HB HI0) | ((with_reducible refine bJ (N := 5) rfl ?_); refine bU ?hg (N := 5) ?hd (cs := #[.int .i64 0, .string (⟨#[]⟩ : ByteArray), .int .i64 0, .int .i64 0]) (t := 38) ?hr ?_; (case hd => rfl); (case hg => rfl); (case hr => first | (go_simp; done) | (go_simp; rfl)); intro gb235 hg w26 hbox hb; have n0_ := Aside0.mk (ai.below Z22 hb); have n1_ := Aside0.mk (bV (g := gb227) (o := .cells #[.int .i64 0, .string (⟨#[]⟩ : ByteArray), .int .i64 0, .int .i64 0] 38 (0, 0)) (by exact BK227.out) hb); have n2_ := Aside0.mk (ag.trans Z26 (ag.of_below hb g none) (.inl rfl)); have n3_ := Aside0.mk (below_step Z40 hb); have n4_ := Aside0.mk (hbox); have n5_ := Aside0.mk ((by rw [hg]; exact (by exact aC (w := w) (g := g) (row := none) Z26) : w.heap.size ≤ gb235)); have n6_ := Aside0.mk ((Nat.le_trans HW0.out (by rw [hg]; exact (by exact aC (w := w) (g := g) (row := none) Z26) : w.heap.size ≤ gb235) : w0.heap.size ≤ gb235)); have n7_ := Aside0.mk ((by rw [hg]; exact Nat.ne_of_lt (iE (g := gb227) (o := .cells #[.int .i64 0, .string (⟨#[]⟩ : ByteArray), .int .i64 0, .int .i64 0] 38 (0, 0)) (by exact BK227.out)) : gb227 ≠ gb235)); have n8_ := Aside0.mk ((by rw [hg]; exact Nat.ne_of_gt (iE (g := gb227) (o := .cells #[.int .i64 0, .string (⟨#[]⟩ : ByteArray), .int .i64 0, .int .i64 0] 38 (0, 0)) (by exact BK227.out)) : gb235 ≠ gb227)); have n9_ := Aside0.mk ((by rw [hg]; exact Nat.ne_of_lt (ai.lt (show ai w0 _ g s0_0 t233 t234 from Z22)) : g ≠ gb235)); have n10_ := Aside0.mk ((by rw [hg]; exact Nat.ne_of_gt (ai.lt (show ai w0 _ g s0_0 t233 t234 from Z22)) : gb235 ≠ g)); clear HI0; clear BK227; clear HK; clear HB; have HI0 := n0_; have BK227 := n1_; have HK := n2_; have HB := n3_; have BK235 := n4_; have GW235 := n5_; have GE235 := n6_; have NB227_235 := n7_; have NB235_227 := n8_; have NB0_235 := n9_; have NB235_0 := n10_; clear n0_ n1_ n2_ n3_ n4_ n5_ n6_ n7_ n8_ n9_ n10_; clear hb hbox hg; have hnb27 := NB235_227.out; have hnc27 := NB227_235.out; have hnb28 := NB235_0.out; have hnc28 := NB0_235.out; have hcz29_0 : w26.cell? ⟨gb235, 0, none⟩ = some (.int .i64 0) := (af BK235.out 0).trans rfl; have hcz29_1 : w26.cell? ⟨gb235, 1, none⟩ = some (.string (⟨#[]⟩ : ByteArray)) := (af BK235.out 1).trans rfl; have hcz29_2 : w26.cell? ⟨gb235, 2, none⟩ = some (.int .i64 0) := (af BK235.out 2).trans rfl; have hcz29_3 : w26.cell? ⟨gb235, 3, none⟩ = some (.int .i64 0) := (af BK235.out 3).trans rfl; have hfz29_0 := ae BK235.out 0; have hfz29_1 := ae BK235.out 1; have hfz29_2 := ae BK235.out 2; have hfz29_3 := ae BK235.out 3; obtain ⟨ASz30_0, cSz30_0, HGz30, hgz30, HSz30_0⟩ := HI0.out; have hcz30_0 := dH HGz30; have hcz30_1 := dG HGz30; have hcz30_2 := dF HGz30; have hfz30_1 := ae HGz30 1; have hfz30_2 := ae HGz30 2; clear HGz30 hgz30; have hnb31 := NB227_0.out; have hnc31 := NB0_227.out; have hcz32_0 : w26.cell? ⟨gb227, 0, none⟩ = some (.int .i64 0) := (af BK227.out 0).trans rfl; have hcz32_1 : w26.cell? ⟨gb227, 1, none⟩ = some (.string (⟨#[]⟩ : ByteArray)) := (af BK227.out 1).trans rfl; have hcz32_2 : w26.cell? ⟨gb227, 2, none⟩ = some (.int .i64 0) := (af BK227.out 2).trans rfl; have hcz32_3 : w26.cell? ⟨gb227, 3, none⟩ = some (.int .i64 0) := (af BK227.out 3).trans rfl; have hfz32_0 := ae BK227.out 0; have hfz32_1 := ae BK227.out 1; have hfz32_2 := ae BK227.out 2; have hfz32_3 := ae BK227.out 3))
 refine bodyPost_ret (results_cell_row rfl _ _ gb227 38 #[.int .i64 0, .string (⟨#[]⟩ : ByteArray), .int .i64 0, .int .i64 0] (0, 0) _ rfl (by refine aA (cs := #[.int .i64 0, .string (⟨#[]⟩ : ByteArray), .int .i64 0, .int .i64 0]) ?_ 3 _ rfl; refine aA (cs := #[.int .i64 0, .string (⟨#[]⟩ : ByteArray), .int .i64 0, .int .i64 0]) ?_ 2 _ rfl; refine aA (cs := #[.int .i64 0, .string (⟨#[]⟩ : ByteArray), .int .i64 0, .int .i64 0]) ?_ 1 _ rfl; refine aA (cs := #[.int .i64 0, .string (⟨#[]⟩ : ByteArray), .int .i64 0, .int .i64 0]) ?_ 0 _ rfl; refine eF ?_ NB227_0.out _; refine eF ?_ NB227_235.out _; refine eF ?_ NB227_235.out _; refine eF ?_ NB227_235.out _; refine eF ?_ NB227_235.out _; exact BK227.out) Try.underlying38 rfl (by kernel_rfl)) rfl ?_
 exact ⟨Z4, Z56, Z61, Z63⟩
/-! ### au: function 56 -/
def au.l0 : Nat → List (S41) → List (List (S41)) → Int → Int → Option ((List (S41)))
 | 0, _, _, _, _ => none
 | k + 1, x5, x13, x14, x15 => if x15 < x14 then (if 0 ≤ x15 then (if x15 < (x13.length : Int) then (if x5.length + (pg x13 x15).length < 2513169434916 then (au.l0 k (x5 ++ (pg x13 x15)) x13 x14 (wrap64 (x15 + 1))) else (none)) else (none)) else (none)) else (some x5)
def au.f (k : Nat) (a0_0 : Int) (a0_1 : Int) (a0_2 : ByteArray) (a0_3 : Int) (a0_4 : ByteArray) (l1 : List (List (S41))) : Option ((List (S41))) := au.l0 k (([(⟨a0_0, (l1.length : Int), a0_2, a0_3, a0_4⟩ : S41)] : List (S41))) l1 (l1.length : Int) 0
theorem au.mono_l : ∀ k, (∀ y0 y1 y2 y3, LeO (au.l0 k y0 y1 y2 y3) (au.l0 (k + 1) y0 y1 y2 y3))
 | 0 => fun _ _ _ _ r h => by simp [au.l0] at h
 | k + 1 => by
  have ih0 := au.mono_l k
  intro y0 y1 y2 y3
  unfold au.l0
  exact yL
theorem au.mono : ∀ a0 a1 a2 a3 a4 a5 k, LeO (au.f k a0 a1 a2 a3 a4 a5) (au.f (k + 1) a0 a1 a2 a3 a4 a5) := by
 intro a0 a1 a2 a3 a4 a5 k
 have ih0 := au.mono_l k
 unfold au.f
 exact yL
set_option maxHeartbeats 8000000 in
set_option maxRecDepth 100000 in
theorem au.calls (k : Nat) (a0_0 : Int) (a0_1 : Int) (a0_2 : ByteArray) (a0_3 : Int) (a0_4 : ByteArray) (A1 : Option Addr) (c1 : Nat) (l1 : List (List (S41))) (r : List (S41)) (w : World) (hr1 : Kd.C (Kd.slice 41 k41) w A1 l1.length l1) (hc1 : l1.length ≤ c1) (h : au.f k a0_0 a0_1 a0_2 a0_3 a0_4 l1 = some r) :
 Calls Try.prog 56 #[.agg #[.int .i64 a0_0, .int .i64 a0_1, .string a0_2, .int .i64 a0_3, .string a0_4], .slice A1 l1.length c1] w fun e w' => ∃ v0_ : Value, e = .returned (v0_) ∧ Kd.R k41 41 w' w.heap.size (fun _ => True) v0_ r ∧ Below w.heap.size w w' := by
 have hu41 := Try.underlying41
 have HR1 := Aside0.mk hr1
 have HC1 := Aside0.mk hc1
 clear hr1 hc1
 have HB := Aside0.mk (Below.refl w.heap.size w)
 have H := h
 clear h
 unfold au.f at H
 obtain ⟨y237, hy237⟩ : ∃ y_ : List (S41), y_ = (([(⟨a0_0, (l1.length : Int), a0_2, a0_3, a0_4⟩ : S41)] : List (S41))) := ⟨_, rfl⟩
 replace H : (au.l0 k y237 l1 (l1.length : Int) 0) = some r := by first | (rw [hy237]; with_reducible exact H) | (have H2_ := (Option.bind_some _ _).symm.trans H; rw [hy237]; with_reducible exact H2_) | (have H2_ := (Option.bind_some _ _).symm.trans H; with_reducible exact H2_) | with_reducible exact H | (rw [hy237]; exact H) | exact H
 have Ny237 := Aside0.mk hy237
 clear hy237
 have H' := Aside0.mk H
 clear H
 go_enter Try.func56, Try.ntmps56
 go_wp2_with (first | ((with_reducible refine bJ (N := 2) rfl ?_); refine bU ?hg (N := 2) ?hd (cs := #[.int .i64 a0_0, .int .i64 a0_1, .string a0_2, .int .i64 a0_3, .string a0_4]) (t := 41) ?hr ?_; (case hd => rfl); (case hg => rfl); (case hr => first | (go_simp; done) | (go_simp; rfl)); intro gb236 hg w3 hbox hb; refine yA4 (below_step Z3 hb) (hbox) ((by rw [hg]; exact (below_size Z3) : w.heap.size ≤ gb236)) ((by rw [hg]; exact (below_size Z3) : w.heap.size ≤ gb236)) ?_; clear HB; intro HB BK236 GW236 GE236; clear hb hbox hg; have hcz4_0 : w3.cell? ⟨gb236, 0, none⟩ = some (.int .i64 a0_0) := (af BK236.out 0).trans rfl; have hcz4_1 : w3.cell? ⟨gb236, 1, none⟩ = some (.int .i64 a0_1) := (af BK236.out 1).trans rfl; have hcz4_2 : w3.cell? ⟨gb236, 2, none⟩ = some (.string a0_2) := (af BK236.out 2).trans rfl; have hcz4_3 : w3.cell? ⟨gb236, 3, none⟩ = some (.int .i64 a0_3) := (af BK236.out 3).trans rfl; have hcz4_4 : w3.cell? ⟨gb236, 4, none⟩ = some (.string a0_4) := (af BK236.out 4).trans rfl; have hfz4_0 := ae BK236.out 0; have hfz4_1 := ae BK236.out 1; have hfz4_2 := ae BK236.out 2; have hfz4_3 := ae BK236.out 3; have hfz4_4 := ae BK236.out 4) | ((with_reducible refine bJ (N := 12) rfl ?_); refine Kd.vU k41 _ 41 ?hg (N := 12) ?hd (xs := ([(⟨a0_0, (l1.length : Int), a0_2, a0_3, a0_4⟩ : S41)] : List (S41))) (inner := [.int .i64 a0_0, .int .i64 (l1.length : Int), .string a0_2, .int .i64 a0_3, .string a0_4]) (ok := fun _ => True) (okp := fun _ => True) ?hr ?hp (fun _ hk => hk) trivial (Below.refl _ _) (Nat.le_refl _) (by simp) ?_; (case hd => rfl); (case hg => rfl); (case hr => first | (go_simp; done) | (go_simp; rfl)); (case hp => exact (bT.c5 (show Kd.M k41 _ _ _ (⟨a0_0, (l1.length : Int), a0_2, a0_3, a0_4⟩ : S41) [.int .i64 a0_0, .int .i64 (l1.length : Int), .string a0_2, .int .i64 a0_3, .string a0_4] from (Gy _ _ _ (⟨a0_0, (l1.length : Int), a0_2, a0_3, a0_4⟩ : S41) )) (bT.none _ _))); intro v238 w5 ho6 hb hg_ hnew_; clear hg_ hnew_; (first | rw [← Ny237.out] at ho6 | (simp only [Int.reduceToNat] at ho6; rw [← Ny237.out] at ho6)); refine yA3 (Kd.R_lower (Kd.nz ho6 (g := gb236) (o := .cells #[.int .i64 a0_0, .int .i64 (l1.length : Int), .string a0_2, .int .i64 a0_3, .string a0_4] 41 (0, 0)) (by refine aA (cs := #[.int .i64 a0_0, .int .i64 a0_1, .string a0_2, .int .i64 a0_3, .string a0_4]) ?_ 1 _ rfl; exact BK236.out)) (below_size Z42)) (bV (g := gb236) (o := .cells #[.int .i64 a0_0, .int .i64 (l1.length : Int), .string a0_2, .int .i64 a0_3, .string a0_4] 41 (0, 0)) (by refine aA (cs := #[.int .i64 a0_0, .int .i64 a0_1, .string a0_2, .int .i64 a0_3, .string a0_4]) ?_ 1 _ rfl; exact BK236.out) hb) (below_step Z42 hb) ?_; clear BK236 HB; intro HO239 BK236 HB; clear hb ho6))
 (try simp only [Act.put, List.setIfInBounds_toArray, List.set_cons_zero, List.set_cons_succ])
 go_loopg [5, 15] k (fun kq v5 v15 w' => ∃ (x5_1 : List (S41)) (x15_1 : Int), v15 = .int .i64 x15_1 ∧ Aside0 (au.l0 kq x5_1 l1 (l1.length : Int) x15_1 = some r) ∧ Aside0 (kq ≤ k) ∧ Aside0 (Kd.R k41 41 w' w.heap.size (fun k_ => k_ ≠ gb236) v5 x5_1) ∧ Aside0 (w'.heap[gb236]? = some (.cells #[.int .i64 a0_0, .int .i64 (l1.length : Int), .string a0_2, .int .i64 a0_3, .string a0_4] 41 (0, 0))) ∧ Aside0 (Below w.heap.size w w'))
 case atStart => exact ⟨(y237), (0), Z6, H', ⟨Nat.le_refl _⟩, ⟨by (with_reducible repeat (first | apply Kd.R_alloc | apply Kd.R_drewN | apply Kd.R_drew)); exact Kd.bn HO239.out (fun _ hk => hk.2)⟩, ⟨by exact BK236.out⟩, ⟨Z42⟩⟩
 case round =>
  clear H'
  try clear c1
  try clear p2
  try clear c5
  try clear hcz4_0
  try clear hcz4_1
  try clear hcz4_2
  try clear hcz4_3
  try clear hcz4_4
  try clear hfz4_0
  try clear hfz4_1
  try clear hfz4_2
  try clear hfz4_3
  try clear hfz4_4
  obtain ⟨x5_1, x15_1, rfl, HA, HK1, HO_5, BK236, HB⟩ := hrel
  cases gk with
  | zero => exact absurd HA.out (by simp [au.l0])
  | succ k1 =>
   have H := HA.out
   clear HA
   simp only [au.l0] at H
   revert H
   refine fO (fun c7b0 H => ?_) fun c7b0 H => ?_
   ·revert H
    refine eQ (fun c8b0 H => ?_) fun c8 H => ?_
    ·revert H
     refine eQ (fun c9b0 H => ?_) fun c9 H => ?_
     ·revert H
      refine dX (fun c10 H => ?_) fun c10 H => ?_
      ·have LMc10 := Aside0.mk c10
       clear c10
       obtain ⟨y241, hy241⟩ : ∃ y_ : List (S41), y_ = (x5_1 ++ (pg l1 x15_1)) := ⟨_, rfl⟩
       replace H : (au.l0 k1 y241 l1 (l1.length : Int) (wrap64 (x15_1 + 1))) = some r := by first | (rw [hy241]; with_reducible exact H) | (have H2_ := (Option.bind_some _ _).symm.trans H; rw [hy241]; with_reducible exact H2_) | (have H2_ := (Option.bind_some _ _).symm.trans H; with_reducible exact H2_) | with_reducible exact H | (rw [hy241]; exact H) | exact H
       have Ny241 := Aside0.mk hy241
       clear hy241
       have H' := Aside0.mk H
       clear H
       have p240 : 0 ≤ (x15_1 : Int) := of_decide_eq_true Z5
       have q240 : x15_1 < (l1.length : Int) := of_decide_eq_true Z5
       obtain ⟨ad240, A240_0, c240_0, e240, hx240_0, hl240_0, hi240_0⟩ := JC HR1.out x15_1 p240 q240
       cases e240
       replace hx240_0 := (HB.out.cell (World.block_lt_of_cell? w _ hx240_0)).trans hx240_0
       have HR240_0 := Aside0.mk hi240_0
       have HC240_0 := Aside0.mk hl240_0
       clear hi240_0 hl240_0
       replace p240 := eq_true p240
       replace q240 := eq_true q240
       go_wp2_with (first | ((with_reducible refine dB (b := .append) (xs := #[.tmp 19, .tmp 20]) rfl ?_); at_builtin; refine Kd.mi k41 (w0 := w) w.heap.size rfl (.tmp 19) (.tmp 20) 23 41 (.agg #[(.int .i64 0), (.int .i64 0), (.string ⟨#[]⟩), (.int .i64 0), (.string ⟨#[]⟩)]) 56 rfl Try.underlying23 zo rfl (by decide) (by omega) u5 x5_1 (pg l1 x15_1) _ _ _ (fun k_ => k_ ≠ gb236) (fun _ => False) rfl rfl ?aO ?aR (fun _ _ h => h) (fun _ h => h.elim) ?aF ?aB ?aS ?aL ?_; (case aR => repeat (first | exact (Kd.C_below HR240_0.out HB.out) | (with_reducible refine Kd.C_alloc ?_ _) | (with_reducible refine Kd.C_drewN ?_ _) | (with_reducible refine Kd.C_drew ?_))); (case aB => exact Z42); (case aF => exact (fun k_ hk => Kd.nM (g := gb236) (o := .cells #[.int .i64 a0_0, .int .i64 (l1.length : Int), .string a0_2, .int .i64 a0_3, .string a0_4] 41 (0, 0)) (by exact BK236.out) k_ hk)); (case aO => exact Z19); (case aS => exact (below_size Z42)); (case aL => have := LMc10.out; omega); intro v242 w11 ho hb hg hat; rw [← Ny241.out] at ho; refine yA3 (jd (g := gb236) (o := .cells #[.int .i64 a0_0, .int .i64 (l1.length : Int), .string a0_2, .int .i64 a0_3, .string a0_4] 41 (0, 0)) (by exact BK236.out) hg (Kd.zU HO_5.out (fun _ hk => hk))) (hb) (ho) ?_; clear BK236 HB HO_5; intro BK236 HB HO243; clear ho hb hg hat))
       go_roundg k1
       case measure => have := HK1.out; omega
       case rel => exact ⟨(y241), (wrap64 (x15_1 + 1)), Z6, H', ⟨by have := HK1.out; omega⟩, ⟨by (with_reducible repeat (first | apply Kd.R_alloc | apply Kd.R_drewN | apply Kd.R_drew)); exact HO243.out⟩, ⟨by exact BK236.out⟩, ⟨Z42⟩⟩
      exact absurd H (by simp)
     exact absurd H (by simp)
    exact absurd H (by simp)
   obtain rfl := Option.some.inj H
   go_wp2
   go_ret
   exact ⟨_, Z4, by (with_reducible repeat (first | apply Kd.R_alloc | apply Kd.R_drewN | apply Kd.R_drew)); exact Kd.bn HO_5.out (fun _ hk => trivial), Z42⟩
end Go.Proofs.Ytendgafpkeadhaa.Q
end
section
namespace Go.Proofs.Ytendgafpkeadhaa.Q
open Go.RowKit Go.Proofs.YtendgafpkeadhaaW.PrintWords Go.Proofs.YtendgafpkeadhaaW.PrintLast Go.Proofs.YtendgafpkeadhaaW.PrintMore
attribute [local go_sem] iY iW iV iU max2_int min2_int max_two min_two max_three min_three max_four min_four
set_option linter.unusedVariables false
set_option linter.unusedSimpArgs false
/-! ### dU: function 91 -/
mutual
def dU.l0 (F : Fam) : Nat → List (List (S41)) → List (S38) → Int → Bool → Option ((List (List (S41))) × Int × Bool)
 | 0, _, _, _, _ => none
 | k + 1, x5, x1000, x1001, x1002 => if x1002 = true then (dU.j1 F k x5 false x1000 x1001 x1002) else ((aZ.f x1000 x1001 x1002).bind fun bt580 => (dU.j1 F k x5 (bt580.1.toList != ([41] : List UInt8)) x1000 bt580.2.1 bt580.2.2))
def dU.j1 (F : Fam) : Nat → List (List (S41)) → Bool → List (S38) → Int → Bool → Option ((List (List (S41))) × Int × Bool)
 | 0, _, _, _, _, _ => none
 | k + 1, x5, x17, x1000, x1001, x1002 => if x17 = true then (if (x5.length : Int) > 0 then ((aG.f x1000 x1001 x1002 (⟨#[44]⟩ : ByteArray)).bind fun bt585 => ((fE.f F k x1000 bt585.1 bt585.2).bind fun bt587 => (if x5.length < 5864062014805 then (dU.l0 F k (x5 ++ [bt587.1]) x1000 bt587.2.1 bt587.2.2) else (none)))) else ((fE.f F k x1000 x1001 x1002).bind fun bt595 => (if x5.length < 5864062014805 then (dU.l0 F k (x5 ++ [bt595.1]) x1000 bt595.2.1 bt595.2.2) else (none)))) else ((aG.f x1000 x1001 x1002 (⟨#[41]⟩ : ByteArray)).bind fun bt583 => (some (x5, bt583.1, bt583.2)))
end
def dU.f (F : Fam) (k : Nat) (s0_0 : List (S38)) (s0_1 : Int) (s0_2 : Bool) : Option ((List (List (S41))) × Int × Bool) := (aG.f s0_0 s0_1 s0_2 (⟨#[40]⟩ : ByteArray)).bind fun bt578 => (dU.l0 F k ([] : List (List (S41))) s0_0 bt578.1 bt578.2)
theorem dU.mono_l {F F' : Fam} (HLE : ji F F') : ∀ k, (∀ y0 y1 y2 y3, LeO (dU.l0 F k y0 y1 y2 y3) (dU.l0 F' (k + 1) y0 y1 y2 y3)) ∧ (∀ y0 y1 y2 y3 y4, LeO (dU.j1 F k y0 y1 y2 y3 y4) (dU.j1 F' (k + 1) y0 y1 y2 y3 y4))
 | 0 => ⟨fun _ _ _ _ r h => by simp [dU.l0] at h, fun _ _ _ _ _ r h => by simp [dU.j1] at h⟩
 | k + 1 => by
  obtain ⟨ih0, ih1⟩ := dU.mono_l HLE k
  refine ⟨?_, ?_⟩
  ·intro y0 y1 y2 y3
   unfold dU.l0
   have m0 := (fE.mono HLE)
   exact yL
  intro y0 y1 y2 y3 y4
  unfold dU.j1
  have m0 := (fE.mono HLE)
  exact yL
theorem dU.mono {F F' : Fam} (HLE : ji F F') : ∀ a0 a1 a2 k, LeO (dU.f F k a0 a1 a2) (dU.f F' (k + 1) a0 a1 a2) := by
 intro a0 a1 a2 k
 obtain ⟨ih0, ih1⟩ := dU.mono_l HLE k
 unfold dU.f
 have m0 := (fE.mono HLE)
 exact yL
set_option maxHeartbeats 8000000 in
set_option maxRecDepth 100000 in
theorem dU.calls (F : Fam) (HF : kL F) (k : Nat) (g : Nat) (s0_0 : List (S38)) (s0_1 : Int) (s0_2 : Bool) (r1 : List (List (S41))) (r2 : Int) (r3 : Bool) (w0 w : World) (hI : ai w0 w g s0_0 s0_1 s0_2) (hB : Below w0.heap.size w0 w) (h : dU.f F k s0_0 s0_1 s0_2 = some (r1, r2, r3)) :
 Calls Try.prog 72 #[.pointer (some ⟨g, 0, none⟩), .func (.func 77) #[.pointer (some ⟨g, 0, none⟩)] #[]] w fun e w' => ∃ v0_ : Value, e = .returned (v0_) ∧ Kd.S (Kd.slice 41 k41) 23 w' w.heap.size (fun _ => True) v0_ r1 ∧ ai w0 w' g s0_0 r2 r3 ∧ Below w0.heap.size w0 w' ∧ ag w w' g none := by
 have HI0 := Aside0.mk hI
 have HK := Aside0.mk (ag.refl w g none)
 have HL := Aside0.mk hB.size
 clear hI
 have HW0 := Aside0.mk hB.size
 have HB := Aside0.mk hB
 clear hB
 have H := h
 clear h
 unfold dU.f at H
 revert H
 refine yB2 fun t578 t579 A2 H => ?_
 try dsimp only at H
 have H' := Aside0.mk H
 clear H
 go_enter Try.func72, Try.ntmps72
 go_wp2_with (first | ((with_reducible refine gC 51 rfl ?_); refine gM 51 7 rfl Try.func51 (aG.calls g s0_0 s0_1 s0_2 (⟨#[40]⟩ : ByteArray) t578 t579 w0 _ Z0 Z2 A2.out) ?_; rintro _ w3 ⟨rfl, hi, hb, hk⟩; refine ⟨_, rfl, yA3 (ag.trans Z1 hk (.inl rfl)) (hb) (hi) ?_⟩; clear HK HB HI0 hb; intro HK HB HI0))
 (try simp only [Act.put, List.setIfInBounds_toArray, List.set_cons_zero, List.set_cons_succ])
 go_loopg [5] k (fun kq v5 w' => ∃ (x5_1 : List (List (S41))) (x1001_1 : Int) (x1002_1 : Bool), Aside0 (dU.l0 F kq x5_1 s0_0 x1001_1 x1002_1 = some (r1, r2, r3)) ∧ Aside0 (kq ≤ k) ∧ Aside0 (Kd.S (Kd.slice 41 k41) 23 w' w.heap.size (fun _ => True) v5 x5_1) ∧ Aside0 (ai w0 w' g s0_0 x1001_1 x1002_1) ∧ Aside0 (ag w w' g none) ∧ Aside0 (Below w0.heap.size w0 w'))
 case atStart => exact ⟨(([] : List (List (S41)))), (t578), (t579), H', ⟨Nat.le_refl _⟩, ⟨Z66⟩, ⟨Z0⟩, ⟨Z1⟩, ⟨Z2⟩⟩
 case round =>
  clear H'
  try clear p2
  obtain ⟨x5_1, x1001_1, x1002_1, HA, HK1, HO_5, HI0, HK, HB⟩ := hrel
  cases gk with
  | zero => exact absurd HA.out (by simp [dU.l0])
  | succ k1 =>
   have H := HA.out
   clear HA
   simp only [dU.l0] at H
   have HC4 := Aside0.mk H
   clear H
   go_upto_region 3 with (fail)
   go_cut [17] (fun v17 wc => ∃ (kq : Nat) (x17_3 : Bool) (x1001_3 : Int) (x1002_3 : Bool), v17 = .bool x17_3 ∧ Aside0 (dU.j1 F kq x5_1 x17_3 s0_0 x1001_3 x1002_3 = some (r1, r2, r3)) ∧ Aside0 (kq ≤ k1) ∧ Aside0 (Kd.S (Kd.slice 41 k41) 23 wc w.heap.size (fun _ => True) u5 x5_1) ∧ Aside0 (ai w0 wc g s0_0 x1001_3 x1002_3) ∧ Aside0 (ag w wc g none) ∧ Aside0 (Below w0.heap.size w0 wc))
   case first =>
    have H := HC4.out
    clear HC4
    cases x1002_1
    rotate_left
    ·replace H := yT H
     have H' := Aside0.mk H
     clear H
     obtain ⟨ASz6_0, cSz6_0, HGz6, hgz6, HSz6_0⟩ := HI0.out
     have hcz6_0 := dH HGz6
     have hcz6_1 := dG HGz6
     have hcz6_2 := dF HGz6
     have hfz6_1 := ae HGz6 1
     have hfz6_2 := ae HGz6 2
     clear HGz6 hgz6
     go_wp2
     go_meet
     case rel => exact ⟨_, (false), (x1001_1), (true), Z6, H', ⟨by have := HK1.out; first | omega | exact Nat.le_refl _⟩, ⟨Z28⟩, ⟨Z0⟩, ⟨Z1⟩, ⟨Z2⟩⟩
    replace H := yF H
    revert H
    refine yB3 fun t580 t581 t582 A7 H => ?_
    try dsimp only at H
    have H' := Aside0.mk H
    clear H
    obtain ⟨ASz8_0, cSz8_0, HGz8, hgz8, HSz8_0⟩ := HI0.out
    have hcz8_0 := dH HGz8
    have hcz8_1 := dG HGz8
    have hcz8_2 := dF HGz8
    have hfz8_1 := ae HGz8 1
    have hfz8_2 := ae HGz8 2
    clear HGz8 hgz8
    go_wp2_with (first | (go_at_call 71; (with_reducible refine (aZ.calls g s0_0 x1001_1 false t580 t581 t582 w0 _ ?side1 ?side2 A7.out).mono ?_); (case side1 => exact Z0); (case side2 => exact Z2); rintro e w9 ⟨rfl, hi, hb, hk⟩; refine yA4 (Kd.eX (Kd.jG (ai.gK (show ai w0 _ g s0_0 x1001_1 false from Z0) Z28 (by decide)) hk (fun _ h => h.2)) (fun _ h => h.1)) (ag.trans Z1 hk (.inl rfl)) (hb) (hi) ?_; clear HO_5 HK HB HI0; intro HO_5 HK HB HI0; (try clear hb)))
    go_meet
    case rel => exact ⟨_, ((t580.toList != ([41] : List UInt8))), (t581), (t582), Z6, H', ⟨by have := HK1.out; first | omega | exact Nat.le_refl _⟩, ⟨Z28⟩, ⟨Z0⟩, ⟨Z1⟩, ⟨Z2⟩⟩
   case rest =>
    clear HC4
    try clear p2
    try clear c5
    try clear c9
    try clear hcz6_0
    try clear hcz6_1
    try clear hcz6_2
    try clear hcz8_0
    try clear hcz8_1
    try clear hcz8_2
    try clear hfz6_1
    try clear hfz6_2
    try clear hfz8_1
    try clear hfz8_2
    try clear p2
    obtain ⟨kq, x17_3, x1001_3, x1002_3, rfl, HA, HJ3, HO_5, HI0, HK, HB⟩ := hcut
    cases kq with
    | zero => exact absurd HA.out (by simp [dU.j1])
    | succ kj3 =>
     have H := HA.out
     clear HA
     simp only [dU.j1] at H
     cases x17_3
     rotate_left
     ·replace H := yT H
      revert H
      refine dX (fun c11 H => ?_) fun c11 H => ?_
      ·have c11b0 : decide (0 < (x5_1.length : Int)) = true := decide_eq_true c11
       have c11b1 : decide (0 < x5_1.length) = true := decide_eq_true (by omega)
       clear c11
       revert H
       refine yB2 fun t585 t586 A12 H => ?_
       try dsimp only at H
       revert H
       refine yB3 fun t587 t590 t591 A13 H => ?_
       try dsimp only at H
       revert H
       refine dX (fun c14 H => ?_) fun c14 H => ?_
       ·have LMc14 := Aside0.mk c14
        clear c14
        obtain ⟨y592, hy592⟩ : ∃ y_ : List (List (S41)), y_ = (x5_1 ++ [t587]) := ⟨_, rfl⟩
        replace H : (dU.l0 F kj3 y592 s0_0 t590 t591) = some (r1, r2, r3) := by first | (rw [hy592]; with_reducible exact H) | (have H2_ := (Option.bind_some _ _).symm.trans H; rw [hy592]; with_reducible exact H2_) | (have H2_ := (Option.bind_some _ _).symm.trans H; with_reducible exact H2_) | with_reducible exact H | (rw [hy592]; exact H) | exact H
        have Ny592 := Aside0.mk hy592
        clear hy592
        have H' := Aside0.mk H
        clear H
        obtain ⟨Ao15, co15, eo15⟩ := Kd.kW HO_5.out
        subst eo15
        go_wp2_with (first | ((with_reducible refine gC 51 rfl ?_); refine gM 51 22 rfl Try.func51 (aG.calls g s0_0 x1001_3 x1002_3 (⟨#[44]⟩ : ByteArray) t585 t586 w0 _ Z0 Z2 A12.out) ?_; rintro _ w16 ⟨rfl, hi, hb, hk⟩; refine ⟨_, rfl, yA4 (Kd.eX (Kd.jG (ai.gK (show ai w0 _ g s0_0 x1001_3 x1002_3 from Z0) Z28 (by decide)) hk (fun _ h => h.2)) (fun _ h => h.1)) (ag.trans Z1 hk (.inl rfl)) (hb) (hi) ?_⟩; clear HO_5 HK HB HI0 hb; intro HO_5 HK HB HI0) | ((with_reducible refine (fE.calls F HF kj3 g s0_0 t585 t586 t587 t590 t591 w0 _ ?side1 ?side2 A13.out).mono ?_); (case side1 => exact Z0); (case side2 => exact Z2); rintro e w17 ⟨v588, rfl, ho0, hi, hb, hk⟩; refine yA5 (Kd.eX (Kd.nX (Kd.nY (ai.gK (show ai w0 _ g s0_0 t585 t586 from Z0) Z28 (by decide)) hk) (Kd.R_base ho0)) (fun _ h_ => h_.1)) (Kd.R_lower ho0 (by exact aC (w := w) (g := g) (row := none) Z1)) (ag.trans Z1 hk (.inl rfl)) (hb) (hi) ?_; clear HO_5 HK HB HI0; intro HO_5 HO589 HK HB HI0; (try clear hb); (try clear ho0); obtain ⟨Ao19, co19, rfl⟩ := Kd.R_slice HO589.out) | ((with_reducible refine dB (b := .append) (xs := #[.tmp 23, .tmp 26]) rfl ?_); at_builtin; refine Kd.lG (Kd.slice 41 k41) w.heap.size rfl (.tmp 23) (.tmp 26) 78 23 (.slice none 0 0) 24 rfl Try.underlying78 info23 rfl (by decide) (by omega) (.slice Ao15 x5_1.length co15) x5_1 t587 [.slice Ao19 t587.length co19] (fun _ => True) (fun k_ => some k_ = (.slice Ao19 t587.length co19 : Value).ownBlock) rfl rfl ?aP (fun k_ hk_ => ((Kd.bn (ok' := fun k_ => ((fun _ => True)) k_ ∧ some k_ ≠ (.slice Ao15 x5_1.length co15 : Value).ownBlock) (Kd.dV (HO589.out) (Kd.iI HO_5.out) (by decide)) (fun k_ hk => ⟨trivial, hk.2⟩))).1 k_ hk_.symm) ?aF ?aO (Below.refl _ _) ?aS ?aL ?_; (case aP => exact Kd.rF (Kd.bn (Kd.kX rfl (Kd.bn (ok' := fun k_ => ((fun _ => True)) k_ ∧ some k_ ≠ (.slice Ao15 x5_1.length co15 : Value).ownBlock) (Kd.dV (HO589.out) (Kd.iI HO_5.out) (by decide)) (fun k_ hk => ⟨trivial, hk.2⟩))) (fun _ h_ => h_))); (case aF => exact (fun _ _ => trivial)); (case aO => exact Z64); (case aS => exact (by exact aC (w := w) (g := g) (row := none) Z1)); (case aL => have := LMc14.out; omega); intro v593 w18 ho hb hg hat; rw [← Ny592.out] at ho; refine yA4 (ai.grown Z0 hg (ai.lQ HI0.out HO_5.out (by decide))) (eY Z2 HL.out hb) (ag.trans Z1 (ag.iq hg g) (Kd.lV HO_5.out)) (ho) ?_; clear HI0 HB HK HO_5 HO589; intro HI0 HB HK HO594; clear ho hb hg hat))
        go_roundg kj3
        case measure => have := HK1.out; have := HJ3.out; omega
        case rel => exact ⟨(y592), (t590), (t591), H', ⟨by have := HK1.out; have := HJ3.out; omega⟩, ⟨by (with_reducible repeat (first | apply Kd.gX | apply Kd.gW | apply Kd.ja)); exact HO594.out⟩, ⟨Z0⟩, ⟨Z1⟩, ⟨Z2⟩⟩
       exact absurd H (by simp)
      have c11b0 : decide (0 < (x5_1.length : Int)) = false := decide_eq_false c11
      have c11b1 : decide (0 < x5_1.length) = false := decide_eq_false (by omega)
      clear c11
      revert H
      refine yB3 fun t595 t598 t599 A20 H => ?_
      try dsimp only at H
      revert H
      refine dX (fun c21 H => ?_) fun c21 H => ?_
      ·have LMc21 := Aside0.mk c21
       clear c21
       obtain ⟨y600, hy600⟩ : ∃ y_ : List (List (S41)), y_ = (x5_1 ++ [t595]) := ⟨_, rfl⟩
       replace H : (dU.l0 F kj3 y600 s0_0 t598 t599) = some (r1, r2, r3) := by first | (rw [hy600]; with_reducible exact H) | (have H2_ := (Option.bind_some _ _).symm.trans H; rw [hy600]; with_reducible exact H2_) | (have H2_ := (Option.bind_some _ _).symm.trans H; with_reducible exact H2_) | with_reducible exact H | (rw [hy600]; exact H) | exact H
       have Ny600 := Aside0.mk hy600
       clear hy600
       have H' := Aside0.mk H
       clear H
       obtain ⟨Ao22, co22, eo22⟩ := Kd.kW HO_5.out
       subst eo22
       go_wp2_with (first | ((with_reducible refine (fE.calls F HF kj3 g s0_0 x1001_3 x1002_3 t595 t598 t599 w0 _ ?side1 ?side2 A20.out).mono ?_); (case side1 => exact Z0); (case side2 => exact Z2); rintro e w23 ⟨v596, rfl, ho0, hi, hb, hk⟩; refine yA5 (Kd.eX (Kd.nX (Kd.nY (ai.gK (show ai w0 _ g s0_0 x1001_3 x1002_3 from Z0) Z28 (by decide)) hk) (Kd.R_base ho0)) (fun _ h_ => h_.1)) (Kd.R_lower ho0 (by exact aC (w := w) (g := g) (row := none) Z1)) (ag.trans Z1 hk (.inl rfl)) (hb) (hi) ?_; clear HO_5 HK HB HI0; intro HO_5 HO597 HK HB HI0; (try clear hb); (try clear ho0); obtain ⟨Ao25, co25, rfl⟩ := Kd.R_slice HO597.out) | ((with_reducible refine dB (b := .append) (xs := #[.tmp 23, .tmp 26]) rfl ?_); at_builtin; refine Kd.lG (Kd.slice 41 k41) w.heap.size rfl (.tmp 23) (.tmp 26) 78 23 (.slice none 0 0) 24 rfl Try.underlying78 info23 rfl (by decide) (by omega) (.slice Ao22 x5_1.length co22) x5_1 t595 [.slice Ao25 t595.length co25] (fun _ => True) (fun k_ => some k_ = (.slice Ao25 t595.length co25 : Value).ownBlock) rfl rfl ?aP (fun k_ hk_ => ((Kd.bn (ok' := fun k_ => ((fun _ => True)) k_ ∧ some k_ ≠ (.slice Ao22 x5_1.length co22 : Value).ownBlock) (Kd.dV (HO597.out) (Kd.iI HO_5.out) (by decide)) (fun k_ hk => ⟨trivial, hk.2⟩))).1 k_ hk_.symm) ?aF ?aO (Below.refl _ _) ?aS ?aL ?_; (case aP => exact Kd.rF (Kd.bn (Kd.kX rfl (Kd.bn (ok' := fun k_ => ((fun _ => True)) k_ ∧ some k_ ≠ (.slice Ao22 x5_1.length co22 : Value).ownBlock) (Kd.dV (HO597.out) (Kd.iI HO_5.out) (by decide)) (fun k_ hk => ⟨trivial, hk.2⟩))) (fun _ h_ => h_))); (case aF => exact (fun _ _ => trivial)); (case aO => exact Z64); (case aS => exact (by exact aC (w := w) (g := g) (row := none) Z1)); (case aL => have := LMc21.out; omega); intro v601 w24 ho hb hg hat; rw [← Ny600.out] at ho; refine yA4 (ai.grown Z0 hg (ai.lQ HI0.out HO_5.out (by decide))) (eY Z2 HL.out hb) (ag.trans Z1 (ag.iq hg g) (Kd.lV HO_5.out)) (ho) ?_; clear HI0 HB HK HO_5 HO597; intro HI0 HB HK HO602; clear ho hb hg hat))
       go_roundg kj3
       case measure => have := HK1.out; have := HJ3.out; omega
       case rel => exact ⟨(y600), (t598), (t599), H', ⟨by have := HK1.out; have := HJ3.out; omega⟩, ⟨by (with_reducible repeat (first | apply Kd.gX | apply Kd.gW | apply Kd.ja)); exact HO602.out⟩, ⟨Z0⟩, ⟨Z1⟩, ⟨Z2⟩⟩
      exact absurd H (by simp)
     replace H := yF H
     revert H
     refine yB2 fun t583 t584 A26 H => ?_
     try dsimp only at H
     simp only [Option.some.injEq, Prod.mk.injEq] at H
     obtain ⟨rfl, rfl, rfl⟩ := H
     go_wp2_with (first | ((with_reducible refine gC 51 rfl ?_); refine gM 51 29 rfl Try.func51 (aG.calls g s0_0 x1001_3 x1002_3 (⟨#[41]⟩ : ByteArray) t583 t584 w0 _ Z0 Z2 A26.out) ?_; rintro _ w27 ⟨rfl, hi, hb, hk⟩; refine ⟨_, rfl, yA4 (Kd.eX (Kd.jG (ai.gK (show ai w0 _ g s0_0 x1001_3 x1002_3 from Z0) Z28 (by decide)) hk (fun _ h => h.2)) (fun _ h => h.1)) (ag.trans Z1 hk (.inl rfl)) (hb) (hi) ?_⟩; clear HO_5 HK HB HI0 hb; intro HO_5 HK HB HI0))
     go_ret
     exact ⟨_, Z4, Z28, Z0, Z2, Z1⟩
end Go.Proofs.Ytendgafpkeadhaa.Q
end
section
namespace Go.Proofs.Ytendgafpkeadhaa.Q
open Go.RowKit Go.Proofs.YtendgafpkeadhaaW.PrintWords Go.Proofs.YtendgafpkeadhaaW.PrintLast Go.Proofs.YtendgafpkeadhaaW.PrintMore
attribute [local go_sem] max2_int min2_int max_two min_two max_three min_three max_four min_four
set_option linter.unusedVariables false
set_option linter.unusedSimpArgs false
/-! ### bM: function 17 -/
mutual
def bM.l0 : Nat → List (S41) → Int → Int → Option (Int)
 | 0, _, _, _ => none
 | k + 1, x0, x1, x5 => if x1 < (x0.length : Int) then (if 0 ≤ x1 then (if ((rd_T41 x0 x1).f1) < 0 then (bM.j1 k x0 x1 x5 ((rd_T41 x0 x1).f1) true) else (bM.j1 k x0 x1 x5 ((rd_T41 x0 x1).f1) (decide (((rd_T41 x0 x1).f1) > (x0.length : Int))))) else (none)) else (some (-1))
def bM.j1 : Nat → List (S41) → Int → Int → Int → Bool → Option (Int)
 | 0, _, _, _, _, _ => none
 | k + 1, x0, x1, x5, x6, x27 => if x27 = true then (some (-1)) else (if (wrap64 (x5 + (wrap64 (x6 - 1)))) = 0 then (some (wrap64 (x1 + 1))) else (bM.l0 k x0 (wrap64 (x1 + 1)) (wrap64 (x5 + (wrap64 (x6 - 1))))))
end
def bM.f (k : Nat) (l0 : List (S41)) (a1 : Int) : Option (Int) := if a1 < 0 then (some (-1)) else (bM.l0 k l0 a1 1)
theorem bM.mono_l : ∀ k, (∀ y0 y1 y2, LeO (bM.l0 k y0 y1 y2) (bM.l0 (k + 1) y0 y1 y2)) ∧ (∀ y0 y1 y2 y3 y4, LeO (bM.j1 k y0 y1 y2 y3 y4) (bM.j1 (k + 1) y0 y1 y2 y3 y4))
 | 0 => ⟨fun _ _ _ r h => by simp [bM.l0] at h, fun _ _ _ _ _ r h => by simp [bM.j1] at h⟩
 | k + 1 => by
  obtain ⟨ih0, ih1⟩ := bM.mono_l k
  refine ⟨?_, ?_⟩
  ·intro y0 y1 y2
   unfold bM.l0
   exact yL
  intro y0 y1 y2 y3 y4
  unfold bM.j1
  exact yL
theorem bM.mono : ∀ a0 a1 k, LeO (bM.f k a0 a1) (bM.f (k + 1) a0 a1) := by
 intro a0 a1 k
 obtain ⟨ih0, ih1⟩ := bM.mono_l k
 unfold bM.f
 exact yL
set_option maxHeartbeats 8000000 in
set_option maxRecDepth 100000 in
theorem bM.calls (k : Nat) (A0 : Option Addr) (c0 : Nat) (l0 : List (S41)) (a1 : Int) (r : Int) (w : World) (hr0 : Kd.C k41 w A0 l0.length l0) (hc0 : l0.length ≤ c0) (h : bM.f k l0 a1 = some r) :
 Calls Try.prog 17 #[.slice A0 l0.length c0, .int .i64 a1] w fun e w' => e = .returned (.int .i64 r) ∧ dw w w' := by
 have HR0 := Aside0.mk hr0
 have HC0 := Aside0.mk hc0
 clear hr0 hc0
 have H := h
 clear h
 unfold bM.f at H
 revert H
 refine fO (fun c3b0 H => ?_) fun c3b0 H => ?_
 ·obtain rfl := Option.some.inj H
  go_enter Try.func17, Try.ntmps17
  go_wp2
  go_ret
  exact ⟨Z6, Z8⟩
 have H' := Aside0.mk H
 clear H
 go_enter Try.func17, Try.ntmps17
 go_wp2
 go_loopg [1, 5] k (fun kq v1 v5 w' => ∃ (x1_1 : Int) (x5_1 : Int), v1 = .int .i64 x1_1 ∧ v5 = .int .i64 x5_1 ∧ Aside0 (bM.l0 kq l0 x1_1 x5_1 = some r) ∧ Aside0 (kq ≤ k) ∧ dw w w')
 case atStart => exact ⟨(a1), (1), Z6, Z6, H', ⟨Nat.le_refl _⟩, Z8⟩
 case round =>
  clear H'
  try clear c1
  try clear p2
  try clear c3
  try clear c3b0
  obtain ⟨x1_1, x5_1, rfl, rfl, HA, HK1, ⟨m1, rfl⟩⟩ := hrel
  cases gk with
  | zero => exact absurd HA.out (by simp [bM.l0])
  | succ k1 =>
   have H := HA.out
   clear HA
   simp only [bM.l0] at H
   revert H
   refine fO (fun c4b0 H => ?_) fun c4b0 H => ?_
   ·revert H
    refine eQ (fun c5b0 H => ?_) fun c5 H => ?_
    ·have HC6 := Aside0.mk H
     clear H
     have p101 : 0 ≤ (x1_1 : Int) := of_decide_eq_true Z5
     have q101 : x1_1 < (l0.length : Int) := of_decide_eq_true Z5
     obtain ⟨ad101, e101, hx101_0, hx101_1, hx101_2, hx101_3, hx101_4⟩ := gJ HR0.out x1_1 p101 q101
     cases e101
     replace p101 := eq_true p101
     replace q101 := eq_true q101
     go_upto_region 7 with (fail)
     go_cut [27] (fun v27 wc => ∃ (kq : Nat) (x27_5 : Bool), v27 = .bool x27_5 ∧ Aside0 (bM.j1 kq l0 x1_1 x5_1 ((rd_T41 l0 x1_1).f1) x27_5 = some r) ∧ Aside0 (kq ≤ k1) ∧ dw w wc)
     case first =>
      have H := HC6.out
      clear HC6
      revert H
      refine fO (fun c7b0 H => ?_) fun c7b0 H => ?_
      ·(first | rw [c7b0] | (simp only [dE, dM]; rw [c7b0]) | skip)
       have H' := Aside0.mk H
       clear H
       go_wp2
       go_meet
       case rel => exact ⟨_, (true), Z6, H', ⟨by have := HK1.out; first | omega | exact Nat.le_refl _⟩, Z8⟩
      (first | rw [c7b0] | (simp only [dE, dM]; rw [c7b0]) | skip)
      have H' := Aside0.mk H
      clear H
      go_wp2
      go_meet
      case rel => exact ⟨_, (decide (((rd_T41 l0 x1_1).f1) > (l0.length : Int))), Z6, H', ⟨by have := HK1.out; first | omega | exact Nat.le_refl _⟩, Z8⟩
     case rest =>
      clear HC6
      try clear c1
      try clear p1
      try clear q1
      try clear hx1
      try clear p2
      try clear c3
      try clear c3b0
      try clear c4
      try clear c4b0
      try clear c5
      try clear c5b0
      try clear c7
      try clear c7b0
      try clear hx101_0
      try clear hx101_1
      try clear hx101_2
      try clear hx101_3
      try clear hx101_4
      try clear p101
      try clear p2
      try clear q101
      obtain ⟨kq, x27_5, rfl, HA, HJ5, ⟨mc5, rfl⟩⟩ := hcut
      cases kq with
      | zero => exact absurd HA.out (by simp [bM.j1])
      | succ kj5 =>
       have H := HA.out
       clear HA
       simp only [bM.j1] at H
       cases x27_5
       rotate_left
       ·replace H := yT H
        obtain rfl := Option.some.inj H
        go_wp2
        go_ret
        exact ⟨Z6, Z8⟩
       replace H := yF H
       revert H
       refine aJ (fun c9b0 c9b1 H => ?_) fun c9 c9b0 c9b1 H => ?_
       ·obtain rfl := Option.some.inj H
        go_wp2
        go_ret
        exact ⟨Z6, Z8⟩
       have H' := Aside0.mk H
       clear H
       go_wp2
       go_roundg kj5
       case measure => have := HK1.out; have := HJ5.out; omega
       case rel => exact ⟨(wrap64 (x1_1 + 1)), (wrap64 (x5_1 + (wrap64 (((rd_T41 l0 x1_1).f1) - 1)))), Z6, Z6, H', ⟨by have := HK1.out; have := HJ5.out; omega⟩, Z8⟩
    exact absurd H (by simp)
   obtain rfl := Option.some.inj H
   go_wp2
   go_ret
   exact ⟨Z6, Z8⟩
end Go.Proofs.Ytendgafpkeadhaa.Q
end
