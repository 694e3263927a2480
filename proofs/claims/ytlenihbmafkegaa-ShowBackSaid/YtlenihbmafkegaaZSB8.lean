/- Walks over functions of the program, words for them, and what the functions come to; of each text only what this claim uses; no condition. -/
import Derived.Test.YtlenihbmafkegaaZSB0
import Derived.Test.YtlenihbmafkegaaZSB1
import Derived.Test.YtlenihbmafkegaaZSB2
import Derived.Test.YtlenihbmafkegaaZSB3
import Derived.Test.YtlenihbmafkegaaZSB4
import Derived.Test.YtlenihbmafkegaaZSB7
section
namespace Go.Proofs.Ytlenihbmafkegaa.Q
open Go.RowKit Go.Proofs.YtlenihbmafkegaaW.PrintWords Go.Proofs.YtlenihbmafkegaaW.PrintLast Go.Proofs.YtlenihbmafkegaaW.PrintMore
attribute [local go_sem] jE jD jC jB df cO dI dH bV bU cZ cu
set_option linter.unusedVariables false
set_option linter.unusedSimpArgs false
/-! ### dZ: function 12 -/
def dZ.l0 : Nat → ByteArray → List (S56) → ByteArray → Option ((List (S56)) × Int × Int)
 | 0, _, _, _ => none
 | k + 1, x0, x5, x6 => if x6.toList = ([] : List UInt8) then (some (x5, 0, 0)) else ((iE.f k x6).bind fun bt241 => (if bt241.2.2.2.2.2 = 0 then (if x5.length < 3518437208883 then (if 0 ≤ bt241.2.2.2.2.1 then (if bt241.2.2.2.2.1 ≤ (x6.size : Int) then ((mF.f (x6.extract (bt241.2.2.2.2.1 : Int).toNat x6.size)).bind fun t251 => (dZ.l0 k x0 (x5 ++ [(⟨bt241.1, bt241.2.1, bt241.2.2.1, wrap64 ((x0.size : Int) - (x6.size : Int))⟩ : S56)]) t251)) else (none)) else (none)) else (none)) else (some (([] : List (S56)), bt241.2.2.2.2.2, wrap64 ((x0.size : Int) - (x6.size : Int))))))
def dZ.f (k : Nat) (a0 : ByteArray) : Option ((List (S56)) × Int × Int) := if (a0.size : Int) > 8192 then (some (([] : List (S56)), 3, 0)) else ((mF.f a0).bind fun t240 => (dZ.l0 k a0 ([] : List (S56)) t240))
theorem dZ.bW : ∀ k, (∀ y0 y1 y2, LeO (dZ.l0 k y0 y1 y2) (dZ.l0 (k + 1) y0 y1 y2))
 | 0 => fun _ _ _ r h => by simp [dZ.l0] at h
 | k + 1 => by
  have ih0 := dZ.bW k
  intro y0 y1 y2
  unfold dZ.l0
  have m0 := iE.mono
  exact yL
theorem dZ.mono : ∀ a0 k, LeO (dZ.f k a0) (dZ.f (k + 1) a0) := by
 intro a0 k
 have ih0 := dZ.bW k
 unfold dZ.f
 have m0 := iE.mono
 exact yL
set_option maxHeartbeats 8000000 in
set_option maxRecDepth 100000 in
theorem dZ.calls (k : Nat) (a0 : ByteArray) (r1 : List (S56)) (r2 : Int) (r3 : Int) (w : World) (h : dZ.f k a0 = some (r1, r2, r3)) :
 Calls Try.prog 12 #[.string a0] w fun e w' => ∃ v0_ : Value, e = .returned (.tuple #[v0_, .int .i64 r2, .int .i64 r3]) ∧ Kd.R k56 56 w' w.heap.size (fun _ => True) v0_ r1 ∧ Below w.heap.size w w' := by
 have hu56 := Try.underlying56
 have HB := ae.mk (Below.refl w.heap.size w)
 have H := h
 clear h
 unfold dZ.f at H
 revert H
 refine gG (fun c2 H => ?_) fun c2 H => ?_
 ·have c2b0 : decide (8192 < (a0.size : Int)) = true := decide_eq_true c2
  have c2b1 : decide (8192 < a0.size) = true := decide_eq_true (by omega)
  clear c2
  simp only [Option.some.injEq, Prod.mk.injEq] at H
  obtain ⟨rfl, rfl, rfl⟩ := H
  go_enter Try.func12, Try.ntmps12
  go_wp2
  go_ret3
  exact ⟨_, eT, Z5, bT HB⟩
 have c2b0 : decide (8192 < (a0.size : Int)) = false := decide_eq_false c2
 have c2b1 : decide (8192 < a0.size) = false := decide_eq_false (by omega)
 clear c2
 revert H
 refine yB1 fun t240 A3 H => ?_
 have H' := ae.mk H
 clear H
 go_enter Try.func12, Try.ntmps12
 go_wp2_with (first | ((with_reducible refine gC 23 rfl ?_); refine gM 23 15 rfl Try.func23 (mF.calls a0 t240 _ A3.out) ?_; rintro _ w4 ⟨rfl, hb⟩; refine ⟨_, rfl, yA1 (aj (bT HB) hb) ?_⟩; clear HB hb; intro HB))
 (try simp only [Act.put, List.setIfInBounds_toArray, List.set_cons_zero, List.set_cons_succ])
 go_loopg [5, 6] k (fun kq v5 v6 w' => ∃ (x5_1 : List (S56)) (x6_1 : ByteArray), v6 = .string x6_1 ∧ ae (dZ.l0 kq a0 x5_1 x6_1 = some (r1, r2, r3)) ∧ ae (kq ≤ k) ∧ ae (Kd.R k56 56 w' w.heap.size (fun _ => True) v5 x5_1) ∧ ae (Below w.heap.size w w'))
 case atStart => exact ⟨(([] : List (S56))), (t240), fT, H', ⟨Nat.le_refl _⟩, ⟨Z5⟩, ⟨bT HB⟩⟩
 case round =>
  clear H'
  try clear c1
  try clear c2
  try clear c2b0
  try clear c2b1
  try clear p2
  obtain ⟨x5_1, x6_1, rfl, HA, HK1, HO_5, HB⟩ := hrel
  cases gk with
  | zero => exact absurd HA.out (by simp [dZ.l0])
  | succ k1 =>
   have H := HA.out
   clear HA
   simp only [dZ.l0] at H
   revert H
   refine bu (fun c5b0 c5b1 H => ?_) fun c5 c5b0 c5b1 H => ?_
   ·simp only [Option.some.injEq, Prod.mk.injEq] at H
    obtain ⟨rfl, rfl, rfl⟩ := H
    go_wp2
    go_ret3
    exact ⟨_, eT, qR HO_5, bT HB⟩
   revert H
   refine yB6 fun t241 t242 t243 t244 t245 t246 A6 H => ?_
   try dsimp only at H
   revert H
   refine bu (fun c7b0 c7b1 H => ?_) fun c7 c7b0 c7b1 H => ?_
   ·revert H
    refine gG (fun c8 H => ?_) fun c8 H => ?_
    ·have LMc8 := ae.mk c8
     clear c8
     obtain ⟨y248, hy248⟩ : ∃ y_ : List (S56), y_ = (x5_1 ++ [(⟨t241, t242, t243, wrap64 ((a0.size : Int) - (x6_1.size : Int))⟩ : S56)]) := ⟨_, rfl⟩
     replace H : (if 0 ≤ t245 then (if t245 ≤ (x6_1.size : Int) then ((mF.f (x6_1.extract (t245 : Int).toNat x6_1.size)).bind fun t251 => (dZ.l0 k1 a0 y248 t251)) else (none)) else (none)) = some (r1, r2, r3) := by first | (rw [hy248]; with_reducible exact H) | (have H2_ := (Option.bind_some _ _).symm.trans H; rw [hy248]; with_reducible exact H2_) | (have H2_ := (Option.bind_some _ _).symm.trans H; with_reducible exact H2_) | with_reducible exact H | (rw [hy248]; exact H) | exact H
     have Ny248 := ae.mk hy248
     clear hy248
     revert H
     refine jI (fun c9b0 c9b1 H => ?_) fun c9 H => ?_
     ·revert H
      refine jI (fun c10b0 c10b1 H => ?_) fun c10 H => ?_
      ·revert H
       refine yB1 fun t251 A11 H => ?_
       have H' := ae.mk H
       clear H
       go_wp2_with (first | ((with_reducible refine gC 24 rfl ?_); refine gM 24 25 rfl Try.func24 (iE.calls k1 x6_1 t241 t242 t243 t244 t245 t246 _ A6.out) ?_; rintro _ w12 ⟨rfl, hb⟩; refine ⟨_, rfl, yA2 (Kd.dN (qR HO_5) hb) (aj (bT HB) hb) ?_⟩; clear HO_5 HB hb; intro HO_5 HB) | ((with_reducible refine bF (N := 8) rfl ?_); refine dS ?hg (N := 8) ?hd (cs := #[.int .i64 0, .string (⟨#[]⟩ : ByteArray), .int .i64 0, .int .i64 0]) (t := 56) ?hr ?_; (case hd => rfl); (case hg => rfl); (case hr => first | (go_simp; done) | (go_simp; rfl)); intro gb247 hg w13 hbox hb; refine yA5 (Kd.dN (Kd.Be (qR HO_5) gb247 (Nat.le_of_eq hg.symm)) hb) (aj (bT HB) hb) (hbox) ((by rw [hg]; exact (aX (bT HB)) : w.heap.size ≤ gb247)) ((by rw [hg]; exact (aX (bT HB)) : w.heap.size ≤ gb247)) ?_; clear HO_5 HB; intro HO_5 HB BK247 GW247 GE247; clear hb hbox hg; have hcz14_0 : w13.cell? ⟨gb247, 0, none⟩ = some (.int .i64 0) := (ah BK247.out 0).trans rfl; have hcz14_1 : w13.cell? ⟨gb247, 1, none⟩ = some (.string (⟨#[]⟩ : ByteArray)) := (ah BK247.out 1).trans rfl; have hcz14_2 : w13.cell? ⟨gb247, 2, none⟩ = some (.int .i64 0) := (ah BK247.out 2).trans rfl; have hcz14_3 : w13.cell? ⟨gb247, 3, none⟩ = some (.int .i64 0) := (ah BK247.out 3).trans rfl; have hfz14_0 := af BK247.out 0; have hfz14_1 := af BK247.out 1; have hfz14_2 := af BK247.out 2; have hfz14_3 := af BK247.out 3; have hdd14 := xZ hcz14_3) | ((with_reducible refine dO (b := .append) (xs := #[.tmp 35, .tmp 37]) rfl ?_); at_builtin; refine Kd.lV k56 (w0 := w) w.heap.size rfl (.tmp 35) (.tmp 37) 33 56 (.agg #[(.int .i64 0), (.string ⟨#[]⟩), (.int .i64 0), (.int .i64 0)]) 40 rfl Try.underlying33 yN rfl (by decide) (by omega) u5 x5_1 (⟨t241, t242, t243, wrap64 ((a0.size : Int) - (x6_1.size : Int))⟩ : S56) [.int .i64 t241, .string t242, .int .i64 t243, .int .i64 (wrap64 ((a0.size : Int) - (x6_1.size : Int)))] (fun k_ => k_ ≠ gb247) (fun _ => False) rfl (by first | (go_simp; done) | (go_simp; rfl)) ?aP (fun _ hk => hk.elim) ?aF ?aO ?aB ?aS ?aL ?_; (case aP => exact yJ _ _ _ (⟨t241, t242, t243, wrap64 ((a0.size : Int) - (x6_1.size : Int))⟩ : S56)); (case aB => exact (bT HB)); (case aF => exact (fun k_ hk => Kd.CE (g := gb247) (o := .cells #[.int .i64 t241, .string t242, .int .i64 t243, .int .i64 (wrap64 ((a0.size : Int) - (x6_1.size : Int)))] 56 (0, 0)) (by refine dm (cs := #[.int .i64 t241, .string t242, .int .i64 t243, .int .i64 t244]) ?_ 3 _ rfl; refine dm (cs := #[.int .i64 t241, .string t242, .int .i64 t243, .int .i64 0]) ?_ 3 _ rfl; refine dm (cs := #[.int .i64 t241, .string t242, .int .i64 0, .int .i64 0]) ?_ 2 _ rfl; refine dm (cs := #[.int .i64 t241, .string (⟨#[]⟩ : ByteArray), .int .i64 0, .int .i64 0]) ?_ 1 _ rfl; refine dm (cs := #[.int .i64 0, .string (⟨#[]⟩ : ByteArray), .int .i64 0, .int .i64 0]) ?_ 0 _ rfl; exact BK247.out) k_ hk)); (case aO => exact (by (with_reducible repeat (first | apply Kd.jP | apply Kd.jZ | apply Kd.lI)); exact Kd.fG (Kd.qy (p := ⟨gb247, 3, none⟩) (Kd.qy (p := ⟨gb247, 3, none⟩) (Kd.qy (p := ⟨gb247, 2, none⟩) (Kd.qy (p := ⟨gb247, 1, none⟩) (Kd.qy (p := ⟨gb247, 0, none⟩) (Kd.fG HO_5.out (fun k_ hk => (⟨hk, hk.2⟩ : _ ∧ k_ ≠ gb247))) (fun _ hk => hk.2) (.int .i64 t241)) (fun _ hk => hk.2) (.string t242)) (fun _ hk => hk.2) (.int .i64 t243)) (fun _ hk => hk.2) (.int .i64 t244)) (fun _ hk => hk.2) (.int .i64 (wrap64 ((a0.size : Int) - (x6_1.size : Int))))) (fun _ hk => hk.1.2))); (case aS => exact (aX (bT HB))); (case aL => have := LMc8.out; omega); intro v249 w15 ho hb hg hat; rw [← Ny248.out] at ho; refine yA3 (kR (g := gb247) (o := .cells #[.int .i64 t241, .string t242, .int .i64 t243, .int .i64 (wrap64 ((a0.size : Int) - (x6_1.size : Int)))] 56 (0, 0)) (by refine dm (cs := #[.int .i64 t241, .string t242, .int .i64 t243, .int .i64 t244]) ?_ 3 _ rfl; refine dm (cs := #[.int .i64 t241, .string t242, .int .i64 t243, .int .i64 0]) ?_ 3 _ rfl; refine dm (cs := #[.int .i64 t241, .string t242, .int .i64 0, .int .i64 0]) ?_ 2 _ rfl; refine dm (cs := #[.int .i64 t241, .string (⟨#[]⟩ : ByteArray), .int .i64 0, .int .i64 0]) ?_ 1 _ rfl; refine dm (cs := #[.int .i64 0, .string (⟨#[]⟩ : ByteArray), .int .i64 0, .int .i64 0]) ?_ 0 _ rfl; exact BK247.out) hg (Kd.Ii HO_5.out (fun _ hk => hk.2))) (hb) (ho) ?_; clear BK247 HB HO_5; intro BK247 HB HO250; clear ho hb hg hat) | ((with_reducible refine gC 23 rfl ?_); refine gM 23 42 rfl Try.func23 (mF.calls (x6_1.extract (t245 : Int).toNat x6_1.size) t251 _ A11.out) ?_; rintro _ w16 ⟨rfl, hb⟩; refine ⟨_, rfl, yA3 (Kd.dN (qR HO250) hb) (eG (g := gb247) (o := .cells #[.int .i64 t241, .string t242, .int .i64 t243, .int .i64 (wrap64 ((a0.size : Int) - (x6_1.size : Int)))] 56 (0, 0)) (by exact BK247.out) hb) (aj (bT HB) hb) ?_⟩; clear HO250 BK247 HB hb; intro HO250 BK247 HB))
       go_roundg k1
       case measure => have := HK1.out; omega
       case rel => exact ⟨(y248), (t251), fT, H', ⟨by have := HK1.out; omega⟩, ⟨by (with_reducible repeat (first | apply Kd.jP | apply Kd.jZ | apply Kd.lI)); exact Kd.fG HO250.out (fun _ hk => trivial)⟩, ⟨bT HB⟩⟩
      exact absurd H (by simp)
     exact absurd H (by simp)
    exact absurd H (by simp)
   simp only [Option.some.injEq, Prod.mk.injEq] at H
   obtain ⟨rfl, rfl, rfl⟩ := H
   go_wp2_with (first | ((with_reducible refine gC 24 rfl ?_); refine gM 24 25 rfl Try.func24 (iE.calls k1 x6_1 t241 t242 t243 t244 t245 t246 _ A6.out) ?_; rintro _ w17 ⟨rfl, hb⟩; refine ⟨_, rfl, yA2 (Kd.dN (qR HO_5) hb) (aj (bT HB) hb) ?_⟩; clear HO_5 HB hb; intro HO_5 HB) | ((with_reducible refine bF (N := 8) rfl ?_); refine dS ?hg (N := 8) ?hd (cs := #[.int .i64 0, .string (⟨#[]⟩ : ByteArray), .int .i64 0, .int .i64 0]) (t := 56) ?hr ?_; (case hd => rfl); (case hg => rfl); (case hr => first | (go_simp; done) | (go_simp; rfl)); intro gb247 hg w18 hbox hb; refine yA5 (Kd.dN (Kd.Be (qR HO_5) gb247 (Nat.le_of_eq hg.symm)) hb) (aj (bT HB) hb) (hbox) ((by rw [hg]; exact (aX (bT HB)) : w.heap.size ≤ gb247)) ((by rw [hg]; exact (aX (bT HB)) : w.heap.size ≤ gb247)) ?_; clear HO_5 HB; intro HO_5 HB BK247 GW247 GE247; clear hb hbox hg; have hcz19_0 : w18.cell? ⟨gb247, 0, none⟩ = some (.int .i64 0) := (ah BK247.out 0).trans rfl; have hcz19_1 : w18.cell? ⟨gb247, 1, none⟩ = some (.string (⟨#[]⟩ : ByteArray)) := (ah BK247.out 1).trans rfl; have hcz19_2 : w18.cell? ⟨gb247, 2, none⟩ = some (.int .i64 0) := (ah BK247.out 2).trans rfl; have hcz19_3 : w18.cell? ⟨gb247, 3, none⟩ = some (.int .i64 0) := (ah BK247.out 3).trans rfl; have hfz19_0 := af BK247.out 0; have hfz19_1 := af BK247.out 1; have hfz19_2 := af BK247.out 2; have hfz19_3 := af BK247.out 3; have hdd19 := xZ hcz19_3))
   go_ret3
   exact ⟨_, eT, Z5, bT HB⟩
-- BY HAND: function 21 (parse_Tree)
-- BY HAND: function 74 (parse_reader_next)
/-! ### bi: function 75 -/
def bi.f (s0_0 : List (S56)) (s0_1 : Int) (s0_2 : Bool) : Option (ByteArray × Int × Bool) := (jy.f s0_0 s0_1 s0_2).bind fun bt252 => (if bt252.2.2.2.2.1 = true then (if bt252.1 = 5 then (some (bt252.2.1, bt252.2.2.2.2.2.1, bt252.2.2.2.2.2.2)) else (if bt252.1 = 4 then (some (bt252.2.1, bt252.2.2.2.2.2.1, bt252.2.2.2.2.2.2)) else (some ((⟨#[]⟩ : ByteArray), bt252.2.2.2.2.2.1, bt252.2.2.2.2.2.2)))) else (some ((⟨#[]⟩ : ByteArray), bt252.2.2.2.2.2.1, bt252.2.2.2.2.2.2)))
set_option maxHeartbeats 8000000 in
set_option maxRecDepth 100000 in
theorem bi.calls (g : Nat) (s0_0 : List (S56)) (s0_1 : Int) (s0_2 : Bool) (r1 : ByteArray) (r2 : Int) (r3 : Bool) (w0 w : World) (hI : aY w0 w g s0_0 s0_1 s0_2) (hB : Below w0.heap.size w0 w) (h : bi.f s0_0 s0_1 s0_2 = some (r1, r2, r3)) :
 Calls Try.prog 75 #[.pointer (some ⟨g, 0, none⟩)] w fun e w' => e = .returned (.string r1) ∧ aY w0 w' g s0_0 r2 r3 ∧ Below w0.heap.size w0 w' ∧ aQ w w' g none := by
 have hu56 := Try.underlying56
 have HI0 := ae.mk hI
 have HK := ae.mk (aQ.refl w g none)
 have HL := ae.mk hB.size
 clear hI
 have HW0 := ae.mk hB.size
 have HB := ae.mk hB
 clear hB
 have H := h
 clear h
 unfold bi.f at H
 revert H
 refine yB7 fun t252 t253 t254 t255 t256 t257 t258 A2 H => ?_
 try dsimp only at H
 cases t256
 rotate_left
 ·replace H := yT H
  revert H
  refine bu (fun c4b0 c4b1 H => ?_) fun c4 c4b0 c4b1 H => ?_
  ·simp only [Option.some.injEq, Prod.mk.injEq] at H
   obtain ⟨rfl, rfl, rfl⟩ := H
   go_enter Try.func75, Try.ntmps75
   go_wp2_with (first | ((with_reducible refine gC 74 rfl ?_); refine gM 74 7 rfl Try.func74 (jy.calls g s0_0 s0_1 s0_2 t252 t253 t254 t255 true t257 t258 w0 _ (iT HI0) (bT HB) A2.out) ?_; rintro _ w5 ⟨rfl, hi, hb, hk⟩; refine ⟨_, rfl, yA3 (aQ.trans (kT HK) hk (.inl rfl)) (hb) (hi) ?_⟩; clear HK HB HI0 hb; intro HK HB HI0) | ((with_reducible refine bF (N := 3) rfl ?_); refine dS ?hg (N := 3) ?hd (cs := #[.int .i64 0, .string (⟨#[]⟩ : ByteArray), .int .i64 0, .int .i64 0]) (t := 56) ?hr ?_; (case hd => rfl); (case hg => rfl); (case hr => first | (go_simp; done) | (go_simp; rfl)); intro gb259 hg w6 hbox hb; refine yA8 (aY.below (iT HI0) hb) (aQ.trans (kT HK) (aQ.of_below hb g none) (.inl rfl)) (aj (bT HB) hb) (hbox) ((by rw [hg]; exact (dD (w := w) (g := g) (row := none) (kT HK)) : w.heap.size ≤ gb259)) ((Nat.le_trans HW0.out (by rw [hg]; exact (dD (w := w) (g := g) (row := none) (kT HK)) : w.heap.size ≤ gb259) : w0.heap.size ≤ gb259)) ((by rw [hg]; exact Nat.ne_of_lt (aY.lt (show aY w0 _ g s0_0 t257 t258 from iT HI0)) : g ≠ gb259)) ((by rw [hg]; exact Nat.ne_of_gt (aY.lt (show aY w0 _ g s0_0 t257 t258 from iT HI0)) : gb259 ≠ g)) ?_; clear HI0 HK HB; intro HI0 HK HB BK259 GW259 GE259 NB0_259 NB259_0; clear hb hbox hg; have hnb7 := NB259_0.out; have hnc7 := NB0_259.out; have hcz8_0 : w6.cell? ⟨gb259, 0, none⟩ = some (.int .i64 0) := (ah BK259.out 0).trans rfl; have hcz8_1 : w6.cell? ⟨gb259, 1, none⟩ = some (.string (⟨#[]⟩ : ByteArray)) := (ah BK259.out 1).trans rfl; have hcz8_2 : w6.cell? ⟨gb259, 2, none⟩ = some (.int .i64 0) := (ah BK259.out 2).trans rfl; have hcz8_3 : w6.cell? ⟨gb259, 3, none⟩ = some (.int .i64 0) := (ah BK259.out 3).trans rfl; have hfz8_0 := af BK259.out 0; have hfz8_1 := af BK259.out 1; have hfz8_2 := af BK259.out 2; have hfz8_3 := af BK259.out 3))
   go_ret
   exact ⟨eT, iT HI0, bT HB, kT HK⟩
  revert H
  refine bu (fun c9b0 c9b1 H => ?_) fun c9 c9b0 c9b1 H => ?_
  ·simp only [Option.some.injEq, Prod.mk.injEq] at H
   obtain ⟨rfl, rfl, rfl⟩ := H
   go_enter Try.func75, Try.ntmps75
   go_wp2_with (first | ((with_reducible refine gC 74 rfl ?_); refine gM 74 7 rfl Try.func74 (jy.calls g s0_0 s0_1 s0_2 t252 t253 t254 t255 true t257 t258 w0 _ (iT HI0) (bT HB) A2.out) ?_; rintro _ w10 ⟨rfl, hi, hb, hk⟩; refine ⟨_, rfl, yA3 (aQ.trans (kT HK) hk (.inl rfl)) (hb) (hi) ?_⟩; clear HK HB HI0 hb; intro HK HB HI0) | ((with_reducible refine bF (N := 3) rfl ?_); refine dS ?hg (N := 3) ?hd (cs := #[.int .i64 0, .string (⟨#[]⟩ : ByteArray), .int .i64 0, .int .i64 0]) (t := 56) ?hr ?_; (case hd => rfl); (case hg => rfl); (case hr => first | (go_simp; done) | (go_simp; rfl)); intro gb259 hg w11 hbox hb; refine yA8 (aY.below (iT HI0) hb) (aQ.trans (kT HK) (aQ.of_below hb g none) (.inl rfl)) (aj (bT HB) hb) (hbox) ((by rw [hg]; exact (dD (w := w) (g := g) (row := none) (kT HK)) : w.heap.size ≤ gb259)) ((Nat.le_trans HW0.out (by rw [hg]; exact (dD (w := w) (g := g) (row := none) (kT HK)) : w.heap.size ≤ gb259) : w0.heap.size ≤ gb259)) ((by rw [hg]; exact Nat.ne_of_lt (aY.lt (show aY w0 _ g s0_0 t257 t258 from iT HI0)) : g ≠ gb259)) ((by rw [hg]; exact Nat.ne_of_gt (aY.lt (show aY w0 _ g s0_0 t257 t258 from iT HI0)) : gb259 ≠ g)) ?_; clear HI0 HK HB; intro HI0 HK HB BK259 GW259 GE259 NB0_259 NB259_0; clear hb hbox hg; have hnb12 := NB259_0.out; have hnc12 := NB0_259.out; have hcz13_0 : w11.cell? ⟨gb259, 0, none⟩ = some (.int .i64 0) := (ah BK259.out 0).trans rfl; have hcz13_1 : w11.cell? ⟨gb259, 1, none⟩ = some (.string (⟨#[]⟩ : ByteArray)) := (ah BK259.out 1).trans rfl; have hcz13_2 : w11.cell? ⟨gb259, 2, none⟩ = some (.int .i64 0) := (ah BK259.out 2).trans rfl; have hcz13_3 : w11.cell? ⟨gb259, 3, none⟩ = some (.int .i64 0) := (ah BK259.out 3).trans rfl; have hfz13_0 := af BK259.out 0; have hfz13_1 := af BK259.out 1; have hfz13_2 := af BK259.out 2; have hfz13_3 := af BK259.out 3))
   go_ret
   exact ⟨eT, iT HI0, bT HB, kT HK⟩
  simp only [Option.some.injEq, Prod.mk.injEq] at H
  obtain ⟨rfl, rfl, rfl⟩ := H
  go_enter Try.func75, Try.ntmps75
  go_wp2_with (first | ((with_reducible refine gC 74 rfl ?_); refine gM 74 7 rfl Try.func74 (jy.calls g s0_0 s0_1 s0_2 t252 t253 t254 t255 true t257 t258 w0 _ (iT HI0) (bT HB) A2.out) ?_; rintro _ w14 ⟨rfl, hi, hb, hk⟩; refine ⟨_, rfl, yA3 (aQ.trans (kT HK) hk (.inl rfl)) (hb) (hi) ?_⟩; clear HK HB HI0 hb; intro HK HB HI0) | ((with_reducible refine bF (N := 3) rfl ?_); refine dS ?hg (N := 3) ?hd (cs := #[.int .i64 0, .string (⟨#[]⟩ : ByteArray), .int .i64 0, .int .i64 0]) (t := 56) ?hr ?_; (case hd => rfl); (case hg => rfl); (case hr => first | (go_simp; done) | (go_simp; rfl)); intro gb259 hg w15 hbox hb; refine yA8 (aY.below (iT HI0) hb) (aQ.trans (kT HK) (aQ.of_below hb g none) (.inl rfl)) (aj (bT HB) hb) (hbox) ((by rw [hg]; exact (dD (w := w) (g := g) (row := none) (kT HK)) : w.heap.size ≤ gb259)) ((Nat.le_trans HW0.out (by rw [hg]; exact (dD (w := w) (g := g) (row := none) (kT HK)) : w.heap.size ≤ gb259) : w0.heap.size ≤ gb259)) ((by rw [hg]; exact Nat.ne_of_lt (aY.lt (show aY w0 _ g s0_0 t257 t258 from iT HI0)) : g ≠ gb259)) ((by rw [hg]; exact Nat.ne_of_gt (aY.lt (show aY w0 _ g s0_0 t257 t258 from iT HI0)) : gb259 ≠ g)) ?_; clear HI0 HK HB; intro HI0 HK HB BK259 GW259 GE259 NB0_259 NB259_0; clear hb hbox hg; have hnb16 := NB259_0.out; have hnc16 := NB0_259.out; have hcz17_0 : w15.cell? ⟨gb259, 0, none⟩ = some (.int .i64 0) := (ah BK259.out 0).trans rfl; have hcz17_1 : w15.cell? ⟨gb259, 1, none⟩ = some (.string (⟨#[]⟩ : ByteArray)) := (ah BK259.out 1).trans rfl; have hcz17_2 : w15.cell? ⟨gb259, 2, none⟩ = some (.int .i64 0) := (ah BK259.out 2).trans rfl; have hcz17_3 : w15.cell? ⟨gb259, 3, none⟩ = some (.int .i64 0) := (ah BK259.out 3).trans rfl; have hfz17_0 := af BK259.out 0; have hfz17_1 := af BK259.out 1; have hfz17_2 := af BK259.out 2; have hfz17_3 := af BK259.out 3))
  go_ret
  exact ⟨eT, iT HI0, bT HB, kT HK⟩
 replace H := yF H
 simp only [Option.some.injEq, Prod.mk.injEq] at H
 obtain ⟨rfl, rfl, rfl⟩ := H
 go_enter Try.func75, Try.ntmps75
 go_wp2_with (first | ((with_reducible refine gC 74 rfl ?_); refine gM 74 7 rfl Try.func74 (jy.calls g s0_0 s0_1 s0_2 t252 t253 t254 t255 false t257 t258 w0 _ (iT HI0) (bT HB) A2.out) ?_; rintro _ w18 ⟨rfl, hi, hb, hk⟩; refine ⟨_, rfl, yA3 (aQ.trans (kT HK) hk (.inl rfl)) (hb) (hi) ?_⟩; clear HK HB HI0 hb; intro HK HB HI0) | ((with_reducible refine bF (N := 3) rfl ?_); refine dS ?hg (N := 3) ?hd (cs := #[.int .i64 0, .string (⟨#[]⟩ : ByteArray), .int .i64 0, .int .i64 0]) (t := 56) ?hr ?_; (case hd => rfl); (case hg => rfl); (case hr => first | (go_simp; done) | (go_simp; rfl)); intro gb259 hg w19 hbox hb; refine yA8 (aY.below (iT HI0) hb) (aQ.trans (kT HK) (aQ.of_below hb g none) (.inl rfl)) (aj (bT HB) hb) (hbox) ((by rw [hg]; exact (dD (w := w) (g := g) (row := none) (kT HK)) : w.heap.size ≤ gb259)) ((Nat.le_trans HW0.out (by rw [hg]; exact (dD (w := w) (g := g) (row := none) (kT HK)) : w.heap.size ≤ gb259) : w0.heap.size ≤ gb259)) ((by rw [hg]; exact Nat.ne_of_lt (aY.lt (show aY w0 _ g s0_0 t257 t258 from iT HI0)) : g ≠ gb259)) ((by rw [hg]; exact Nat.ne_of_gt (aY.lt (show aY w0 _ g s0_0 t257 t258 from iT HI0)) : gb259 ≠ g)) ?_; clear HI0 HK HB; intro HI0 HK HB BK259 GW259 GE259 NB0_259 NB259_0; clear hb hbox hg; have hnb20 := NB259_0.out; have hnc20 := NB0_259.out; have hcz21_0 : w19.cell? ⟨gb259, 0, none⟩ = some (.int .i64 0) := (ah BK259.out 0).trans rfl; have hcz21_1 : w19.cell? ⟨gb259, 1, none⟩ = some (.string (⟨#[]⟩ : ByteArray)) := (ah BK259.out 1).trans rfl; have hcz21_2 : w19.cell? ⟨gb259, 2, none⟩ = some (.int .i64 0) := (ah BK259.out 2).trans rfl; have hcz21_3 : w19.cell? ⟨gb259, 3, none⟩ = some (.int .i64 0) := (ah BK259.out 3).trans rfl; have hfz21_0 := af BK259.out 0; have hfz21_1 := af BK259.out 1; have hfz21_2 := af BK259.out 2; have hfz21_3 := af BK259.out 3))
 go_ret
 exact ⟨eT, iT HI0, bT HB, kT HK⟩
end Go.Proofs.Ytlenihbmafkegaa.Q
end
section
namespace Go.Proofs.Ytlenihbmafkegaa.Q
open Go.RowKit Go.Proofs.YtlenihbmafkegaaW.PrintWords Go.Proofs.YtlenihbmafkegaaW.PrintLast Go.Proofs.YtlenihbmafkegaaW.PrintMore
attribute [local go_sem] jE jD jC jB df cO dI dH bV bU cZ cu
set_option linter.unusedVariables false
set_option linter.unusedSimpArgs false
/-! ### aG: function 58 -/
def aG.f (s0_0 : List (S56)) (s0_1 : Int) (s0_2 : Bool) (a1 : ByteArray) : Option (Bool × Int × Bool) := if a1.toList = ([] : List UInt8) then (some (false, s0_1, s0_2)) else ((bi.f s0_0 s0_1 s0_2).bind fun bt260 => (if bt260.1.toList = a1.toList then (some (true, wrap64 (bt260.2.1 + 1), bt260.2.2)) else (some (false, bt260.2.1, bt260.2.2))))
set_option maxHeartbeats 8000000 in
set_option maxRecDepth 100000 in
theorem aG.calls (g : Nat) (s0_0 : List (S56)) (s0_1 : Int) (s0_2 : Bool) (a1 : ByteArray) (r1 : Bool) (r2 : Int) (r3 : Bool) (w0 w : World) (hI : aY w0 w g s0_0 s0_1 s0_2) (hB : Below w0.heap.size w0 w) (h : aG.f s0_0 s0_1 s0_2 a1 = some (r1, r2, r3)) :
 Calls Try.prog 58 #[.pointer (some ⟨g, 0, none⟩), .string a1] w fun e w' => e = .returned (.bool r1) ∧ aY w0 w' g s0_0 r2 r3 ∧ Below w0.heap.size w0 w' ∧ aQ w w' g none := by
 have HI0 := ae.mk hI
 have HK := ae.mk (aQ.refl w g none)
 have HL := ae.mk hB.size
 clear hI
 have HW0 := ae.mk hB.size
 have HB := ae.mk hB
 clear hB
 have H := h
 clear h
 unfold aG.f at H
 revert H
 refine bu (fun c3b0 c3b1 H => ?_) fun c3 c3b0 c3b1 H => ?_
 ·simp only [Option.some.injEq, Prod.mk.injEq] at H
  obtain ⟨rfl, rfl, rfl⟩ := H
  go_enter Try.func58, Try.ntmps58
  go_wp2
  go_ret
  exact ⟨eT, Z2, bT HB, kT HK⟩
 revert H
 refine yB3 fun t260 t261 t262 A4 H => ?_
 try dsimp only at H
 revert H
 refine bu (fun c5b0 c5b1 H => ?_) fun c5 c5b0 c5b1 H => ?_
 ·simp only [Option.some.injEq, Prod.mk.injEq] at H
  obtain ⟨rfl, rfl, rfl⟩ := H
  go_enter Try.func58, Try.ntmps58
  go_wp2_with (first | (go_at_call 75; (with_reducible refine (bi.calls g s0_0 s0_1 s0_2 t260 t261 t262 w0 _ ?side1 ?side2 A4.out).mono ?_); (case side1 => exact Z2); (case side2 => repeat (first | (with_reducible first | exact HB.out | apply eY | apply fF | apply ik | refine gz ?_ (aY.ge HI0.out)) | exact HB.out)); rintro e w6 ⟨rfl, hi, hb, hk⟩; refine yA3 (aQ.trans (kT HK) hk (.inl rfl)) (hb) (hi) ?_; clear HK HB HI0; intro HK HB HI0; (try clear hb); obtain ⟨ASz7_0, cSz7_0, HGz7, hgz7, HSz7_0⟩ := HI0.out; have hcz7_0 := jl HGz7; have hcz7_1 := jk HGz7; have hcz7_2 := ji HGz7; have hfz7_1 := af HGz7 1; have hfz7_2 := af HGz7 2; clear HGz7 hgz7))
  go_ret
  exact ⟨eT, Z2, bT HB, kT HK⟩
 simp only [Option.some.injEq, Prod.mk.injEq] at H
 obtain ⟨rfl, rfl, rfl⟩ := H
 go_enter Try.func58, Try.ntmps58
 go_wp2_with (first | (go_at_call 75; (with_reducible refine (bi.calls g s0_0 s0_1 s0_2 t260 t261 t262 w0 _ ?side1 ?side2 A4.out).mono ?_); (case side1 => exact Z2); (case side2 => repeat (first | (with_reducible first | exact HB.out | apply eY | apply fF | apply ik | refine gz ?_ (aY.ge HI0.out)) | exact HB.out)); rintro e w8 ⟨rfl, hi, hb, hk⟩; refine yA3 (aQ.trans (kT HK) hk (.inl rfl)) (hb) (hi) ?_; clear HK HB HI0; intro HK HB HI0; (try clear hb)))
 go_ret
 exact ⟨eT, Z2, bT HB, kT HK⟩
/-! ### aC: function 56 -/
def aC.f (s0_0 : List (S56)) (s0_1 : Int) (s0_2 : Bool) (a1 : ByteArray) : Option (Int × Bool) := (aG.f s0_0 s0_1 s0_2 a1).bind fun bt263 => (if bt263.1 = true then (some (bt263.2.1, bt263.2.2)) else (some (bt263.2.1, true)))
set_option maxHeartbeats 8000000 in
set_option maxRecDepth 100000 in
theorem aC.calls (g : Nat) (s0_0 : List (S56)) (s0_1 : Int) (s0_2 : Bool) (a1 : ByteArray) (r1 : Int) (r2 : Bool) (w0 w : World) (hI : aY w0 w g s0_0 s0_1 s0_2) (hB : Below w0.heap.size w0 w) (h : aC.f s0_0 s0_1 s0_2 a1 = some (r1, r2)) :
 Calls Try.prog 56 #[.pointer (some ⟨g, 0, none⟩), .string a1] w fun e w' => e = .returned (.tuple #[]) ∧ aY w0 w' g s0_0 r1 r2 ∧ Below w0.heap.size w0 w' ∧ aQ w w' g none := by
 have HI0 := ae.mk hI
 have HK := ae.mk (aQ.refl w g none)
 have HL := ae.mk hB.size
 clear hI
 have HW0 := ae.mk hB.size
 have HB := ae.mk hB
 clear hB
 have H := h
 clear h
 unfold aC.f at H
 revert H
 refine yB3 fun t263 t264 t265 A3 H => ?_
 try dsimp only at H
 cases t263
 rotate_left
 ·replace H := yT H
  simp only [Option.some.injEq, Prod.mk.injEq] at H
  obtain ⟨rfl, rfl⟩ := H
  go_enter Try.func56, Try.ntmps56
  go_wp2_with (first | ((with_reducible refine gC 58 rfl ?_); refine gM 58 7 rfl Try.func58 (aG.calls g s0_0 s0_1 s0_2 a1 true t264 t265 w0 _ Z2 (bT HB) A3.out) ?_; rintro _ w5 ⟨rfl, hi, hb, hk⟩; refine ⟨_, rfl, yA3 (aQ.trans (kT HK) hk (.inl rfl)) (hb) (hi) ?_⟩; clear HK HB HI0 hb; intro HK HB HI0; obtain ⟨ASz6_0, cSz6_0, HGz6, hgz6, HSz6_0⟩ := HI0.out; have hcz6_0 := jl HGz6; have hcz6_1 := jk HGz6; have hcz6_2 := ji HGz6; have hfz6_1 := af HGz6 1; have hfz6_2 := af HGz6 2; clear HGz6 hgz6))
  first | go_end0 | ((try simp only [Exit.inBlock, Exit.then]); refine bodyPost_ret (results_none rfl _ _ _) rfl ?_)
  exact ⟨eT, Z2, bT HB, kT HK⟩
 replace H := yF H
 simp only [Option.some.injEq, Prod.mk.injEq] at H
 obtain ⟨rfl, rfl⟩ := H
 go_enter Try.func56, Try.ntmps56
 go_wp2_with (first | ((with_reducible refine gC 58 rfl ?_); refine gM 58 7 rfl Try.func58 (aG.calls g s0_0 s0_1 s0_2 a1 false t264 t265 w0 _ Z2 (bT HB) A3.out) ?_; rintro _ w7 ⟨rfl, hi, hb, hk⟩; refine ⟨_, rfl, yA3 (aQ.trans (kT HK) hk (.inl rfl)) (hb) (hi) ?_⟩; clear HK HB HI0 hb; intro HK HB HI0; obtain ⟨ASz8_0, cSz8_0, HGz8, hgz8, HSz8_0⟩ := HI0.out; have hcz8_0 := jl HGz8; have hcz8_1 := jk HGz8; have hcz8_2 := ji HGz8; have hfz8_1 := af HGz8 1; have hfz8_2 := af HGz8 2; clear HGz8 hgz8))
 first | go_end0 | ((try simp only [Exit.inBlock, Exit.then]); refine bodyPost_ret (results_none rfl _ _ _) rfl ?_)
 exact ⟨eT, Z2, bT HB, kT HK⟩
/-! ### bn: function 57 -/
def bn.f (s0_0 : List (S56)) (s0_1 : Int) (s0_2 : Bool) (a1 : Int) : Option (Int × ByteArray × Int × Int × Int × Bool) := (jy.f s0_0 s0_1 s0_2).bind fun bt267 => (if bt267.2.2.2.2.1 = true then (if bt267.1 = a1 then (some (bt267.1, bt267.2.1, bt267.2.2.1, bt267.2.2.2.1, wrap64 (bt267.2.2.2.2.2.1 + 1), bt267.2.2.2.2.2.2)) else (some (0, (⟨#[]⟩ : ByteArray), 0, 0, bt267.2.2.2.2.2.1, true))) else (some (0, (⟨#[]⟩ : ByteArray), 0, 0, bt267.2.2.2.2.2.1, true)))
set_option maxHeartbeats 8000000 in
set_option maxRecDepth 100000 in
theorem bn.calls (g : Nat) (s0_0 : List (S56)) (s0_1 : Int) (s0_2 : Bool) (a1 : Int) (r1 : Int) (r2 : ByteArray) (r3 : Int) (r4 : Int) (r5 : Int) (r6 : Bool) (w0 w : World) (hI : aY w0 w g s0_0 s0_1 s0_2) (hB : Below w0.heap.size w0 w) (h : bn.f s0_0 s0_1 s0_2 a1 = some (r1, r2, r3, r4, r5, r6)) :
 Calls Try.prog 57 #[.pointer (some ⟨g, 0, none⟩), .int .i64 a1] w fun e w' => e = .returned (.agg #[.int .i64 r1, .string r2, .int .i64 r3, .int .i64 r4]) ∧ aY w0 w' g s0_0 r5 r6 ∧ Below w0.heap.size w0 w' ∧ aQ w w' g none := by
 have hu56 := Try.underlying56
 have HI0 := ae.mk hI
 have HK := ae.mk (aQ.refl w g none)
 have HL := ae.mk hB.size
 clear hI
 have HW0 := ae.mk hB.size
 have HB := ae.mk hB
 clear hB
 have H := h
 clear h
 unfold bn.f at H
 revert H
 refine yB7 fun t267 t268 t269 t270 t271 t272 t273 A3 H => ?_
 try dsimp only at H
 cases t271
 rotate_left
 ·replace H := yT H
  revert H
  refine bu (fun c5b0 c5b1 H => ?_) fun c5 c5b0 c5b1 H => ?_
  ·simp only [Option.some.injEq, Prod.mk.injEq] at H
   obtain ⟨rfl, rfl, rfl, rfl, rfl, rfl⟩ := H
   go_enter Try.func57, Try.ntmps57
   go_wp2_with (first | ((with_reducible refine bF (N := 4) rfl ?_); refine dS ?hg (N := 4) ?hd (cs := #[.int .i64 0, .string (⟨#[]⟩ : ByteArray), .int .i64 0, .int .i64 0]) (t := 56) ?hr ?_; (case hd => rfl); (case hg => rfl); (case hr => first | (go_simp; done) | (go_simp; rfl)); intro gb266 hg w6 hbox hb; refine yA8 (aY.below Z2 hb) (aQ.trans (kT HK) (aQ.of_below hb g none) (.inl rfl)) (aj (bT HB) hb) (hbox) ((by rw [hg]; exact (dD (w := w) (g := g) (row := none) (kT HK)) : w.heap.size ≤ gb266)) ((Nat.le_trans HW0.out (by rw [hg]; exact (dD (w := w) (g := g) (row := none) (kT HK)) : w.heap.size ≤ gb266) : w0.heap.size ≤ gb266)) ((by rw [hg]; exact Nat.ne_of_lt (aY.lt (show aY w0 _ g s0_0 s0_1 s0_2 from Z2)) : g ≠ gb266)) ((by rw [hg]; exact Nat.ne_of_gt (aY.lt (show aY w0 _ g s0_0 s0_1 s0_2 from Z2)) : gb266 ≠ g)) ?_; clear HI0 HK HB; intro HI0 HK HB BK266 GW266 GE266 NB0_266 NB266_0; clear hb hbox hg) | ((with_reducible refine gC 74 rfl ?_); refine gM 74 9 rfl Try.func74 (jy.calls g s0_0 s0_1 s0_2 t267 t268 t269 t270 true t272 t273 w0 _ Z3 (bT HB) A3.out) ?_; rintro _ w7 ⟨rfl, hi, hb, hk⟩; refine ⟨_, rfl, yA4 (aQ.blk hk (g' := gb266) (o := .cells #[.int .i64 0, .string (⟨#[]⟩ : ByteArray), .int .i64 0, .int .i64 0] 56 (0, 0)) (by exact BK266.out) NB266_0.out (by simp)) (aQ.trans (kT HK) hk (.inl rfl)) (hb) (hi) ?_⟩; clear BK266 HK HB HI0 hb; intro BK266 HK HB HI0) | ((with_reducible refine bF (N := 5) rfl ?_); refine dS ?hg (N := 5) ?hd (cs := #[.int .i64 0, .string (⟨#[]⟩ : ByteArray), .int .i64 0, .int .i64 0]) (t := 56) ?hr ?_; (case hd => rfl); (case hg => rfl); (case hr => first | (go_simp; done) | (go_simp; rfl)); intro gb274 hg w8 hbox hb; have n0_ := ae.mk (aY.below Z3 hb); have n1_ := ae.mk (eG (g := gb266) (o := .cells #[.int .i64 0, .string (⟨#[]⟩ : ByteArray), .int .i64 0, .int .i64 0] 56 (0, 0)) (by exact BK266.out) hb); have n2_ := ae.mk (aQ.trans (kT HK) (aQ.of_below hb g none) (.inl rfl)); have n3_ := ae.mk (aj (bT HB) hb); have n4_ := ae.mk (hbox); have n5_ := ae.mk ((by rw [hg]; exact (dD (w := w) (g := g) (row := none) (kT HK)) : w.heap.size ≤ gb274)); have n6_ := ae.mk ((Nat.le_trans HW0.out (by rw [hg]; exact (dD (w := w) (g := g) (row := none) (kT HK)) : w.heap.size ≤ gb274) : w0.heap.size ≤ gb274)); have n7_ := ae.mk ((by rw [hg]; exact Nat.ne_of_lt (jL (g := gb266) (o := .cells #[.int .i64 0, .string (⟨#[]⟩ : ByteArray), .int .i64 0, .int .i64 0] 56 (0, 0)) (by exact BK266.out)) : gb266 ≠ gb274)); have n8_ := ae.mk ((by rw [hg]; exact Nat.ne_of_gt (jL (g := gb266) (o := .cells #[.int .i64 0, .string (⟨#[]⟩ : ByteArray), .int .i64 0, .int .i64 0] 56 (0, 0)) (by exact BK266.out)) : gb274 ≠ gb266)); have n9_ := ae.mk ((by rw [hg]; exact Nat.ne_of_lt (aY.lt (show aY w0 _ g s0_0 t272 t273 from Z3)) : g ≠ gb274)); have n10_ := ae.mk ((by rw [hg]; exact Nat.ne_of_gt (aY.lt (show aY w0 _ g s0_0 t272 t273 from Z3)) : gb274 ≠ g)); clear HI0; clear BK266; clear HK; clear HB; have HI0 := n0_; have BK266 := n1_; have HK := n2_; have HB := n3_; have BK274 := n4_; have GW274 := n5_; have GE274 := n6_; have NB266_274 := n7_; have NB274_266 := n8_; have NB0_274 := n9_; have NB274_0 := n10_; clear n0_ n1_ n2_ n3_ n4_ n5_ n6_ n7_ n8_ n9_ n10_; clear hb hbox hg; have hnb9 := NB274_266.out; have hnc9 := NB266_274.out; have hnb10 := NB274_0.out; have hnc10 := NB0_274.out; have hcz11_0 : w8.cell? ⟨gb274, 0, none⟩ = some (.int .i64 0) := (ah BK274.out 0).trans rfl; have hcz11_1 : w8.cell? ⟨gb274, 1, none⟩ = some (.string (⟨#[]⟩ : ByteArray)) := (ah BK274.out 1).trans rfl; have hcz11_2 : w8.cell? ⟨gb274, 2, none⟩ = some (.int .i64 0) := (ah BK274.out 2).trans rfl; have hcz11_3 : w8.cell? ⟨gb274, 3, none⟩ = some (.int .i64 0) := (ah BK274.out 3).trans rfl; have hfz11_0 := af BK274.out 0; have hfz11_1 := af BK274.out 1; have hfz11_2 := af BK274.out 2; have hfz11_3 := af BK274.out 3; obtain ⟨ASz12_0, cSz12_0, HGz12, hgz12, HSz12_0⟩ := HI0.out; have hcz12_0 := jl HGz12; have hcz12_1 := jk HGz12; have hcz12_2 := ji HGz12; have hfz12_1 := af HGz12 1; have hfz12_2 := af HGz12 2; clear HGz12 hgz12; have hnb13 := NB266_0.out; have hnc13 := NB0_266.out; have hcz14_0 : w8.cell? ⟨gb266, 0, none⟩ = some (.int .i64 0) := (ah BK266.out 0).trans rfl; have hcz14_1 : w8.cell? ⟨gb266, 1, none⟩ = some (.string (⟨#[]⟩ : ByteArray)) := (ah BK266.out 1).trans rfl; have hcz14_2 : w8.cell? ⟨gb266, 2, none⟩ = some (.int .i64 0) := (ah BK266.out 2).trans rfl; have hcz14_3 : w8.cell? ⟨gb266, 3, none⟩ = some (.int .i64 0) := (ah BK266.out 3).trans rfl; have hfz14_0 := af BK266.out 0; have hfz14_1 := af BK266.out 1; have hfz14_2 := af BK266.out 2; have hfz14_3 := af BK266.out 3))
   refine bodyPost_ret (results_cell_row rfl _ _ gb266 56 #[.int .i64 t267, .string t268, .int .i64 t269, .int .i64 t270] (0, 0) _ rfl (by refine dm (cs := #[.int .i64 t267, .string t268, .int .i64 t269, .int .i64 0]) ?_ 3 _ rfl; refine dm (cs := #[.int .i64 t267, .string t268, .int .i64 0, .int .i64 0]) ?_ 2 _ rfl; refine dm (cs := #[.int .i64 t267, .string (⟨#[]⟩ : ByteArray), .int .i64 0, .int .i64 0]) ?_ 1 _ rfl; refine dm (cs := #[.int .i64 0, .string (⟨#[]⟩ : ByteArray), .int .i64 0, .int .i64 0]) ?_ 0 _ rfl; refine iP ?_ NB266_0.out _; refine iP ?_ NB266_274.out _; refine iP ?_ NB266_274.out _; refine iP ?_ NB266_274.out _; refine iP ?_ NB266_274.out _; exact BK266.out) Try.underlying56 rfl (by kernel_rfl)) rfl ?_
   exact ⟨eT, Z10, bT HB, kT HK⟩
  simp only [Option.some.injEq, Prod.mk.injEq] at H
  obtain ⟨rfl, rfl, rfl, rfl, rfl, rfl⟩ := H
  go_enter Try.func57, Try.ntmps57
  go_wp2_with (first | ((with_reducible refine bF (N := 4) rfl ?_); refine dS ?hg (N := 4) ?hd (cs := #[.int .i64 0, .string (⟨#[]⟩ : ByteArray), .int .i64 0, .int .i64 0]) (t := 56) ?hr ?_; (case hd => rfl); (case hg => rfl); (case hr => first | (go_simp; done) | (go_simp; rfl)); intro gb266 hg w15 hbox hb; refine yA8 (aY.below Z2 hb) (aQ.trans (kT HK) (aQ.of_below hb g none) (.inl rfl)) (aj (bT HB) hb) (hbox) ((by rw [hg]; exact (dD (w := w) (g := g) (row := none) (kT HK)) : w.heap.size ≤ gb266)) ((Nat.le_trans HW0.out (by rw [hg]; exact (dD (w := w) (g := g) (row := none) (kT HK)) : w.heap.size ≤ gb266) : w0.heap.size ≤ gb266)) ((by rw [hg]; exact Nat.ne_of_lt (aY.lt (show aY w0 _ g s0_0 s0_1 s0_2 from Z2)) : g ≠ gb266)) ((by rw [hg]; exact Nat.ne_of_gt (aY.lt (show aY w0 _ g s0_0 s0_1 s0_2 from Z2)) : gb266 ≠ g)) ?_; clear HI0 HK HB; intro HI0 HK HB BK266 GW266 GE266 NB0_266 NB266_0; clear hb hbox hg) | ((with_reducible refine gC 74 rfl ?_); refine gM 74 9 rfl Try.func74 (jy.calls g s0_0 s0_1 s0_2 t267 t268 t269 t270 true t272 t273 w0 _ Z3 (bT HB) A3.out) ?_; rintro _ w16 ⟨rfl, hi, hb, hk⟩; refine ⟨_, rfl, yA4 (aQ.blk hk (g' := gb266) (o := .cells #[.int .i64 0, .string (⟨#[]⟩ : ByteArray), .int .i64 0, .int .i64 0] 56 (0, 0)) (by exact BK266.out) NB266_0.out (by simp)) (aQ.trans (kT HK) hk (.inl rfl)) (hb) (hi) ?_⟩; clear BK266 HK HB HI0 hb; intro BK266 HK HB HI0) | ((with_reducible refine bF (N := 5) rfl ?_); refine dS ?hg (N := 5) ?hd (cs := #[.int .i64 0, .string (⟨#[]⟩ : ByteArray), .int .i64 0, .int .i64 0]) (t := 56) ?hr ?_; (case hd => rfl); (case hg => rfl); (case hr => first | (go_simp; done) | (go_simp; rfl)); intro gb274 hg w17 hbox hb; have n0_ := ae.mk (aY.below Z3 hb); have n1_ := ae.mk (eG (g := gb266) (o := .cells #[.int .i64 0, .string (⟨#[]⟩ : ByteArray), .int .i64 0, .int .i64 0] 56 (0, 0)) (by exact BK266.out) hb); have n2_ := ae.mk (aQ.trans (kT HK) (aQ.of_below hb g none) (.inl rfl)); have n3_ := ae.mk (aj (bT HB) hb); have n4_ := ae.mk (hbox); have n5_ := ae.mk ((by rw [hg]; exact (dD (w := w) (g := g) (row := none) (kT HK)) : w.heap.size ≤ gb274)); have n6_ := ae.mk ((Nat.le_trans HW0.out (by rw [hg]; exact (dD (w := w) (g := g) (row := none) (kT HK)) : w.heap.size ≤ gb274) : w0.heap.size ≤ gb274)); have n7_ := ae.mk ((by rw [hg]; exact Nat.ne_of_lt (jL (g := gb266) (o := .cells #[.int .i64 0, .string (⟨#[]⟩ : ByteArray), .int .i64 0, .int .i64 0] 56 (0, 0)) (by exact BK266.out)) : gb266 ≠ gb274)); have n8_ := ae.mk ((by rw [hg]; exact Nat.ne_of_gt (jL (g := gb266) (o := .cells #[.int .i64 0, .string (⟨#[]⟩ : ByteArray), .int .i64 0, .int .i64 0] 56 (0, 0)) (by exact BK266.out)) : gb274 ≠ gb266)); have n9_ := ae.mk ((by rw [hg]; exact Nat.ne_of_lt (aY.lt (show aY w0 _ g s0_0 t272 t273 from Z3)) : g ≠ gb274)); have n10_ := ae.mk ((by rw [hg]; exact Nat.ne_of_gt (aY.lt (show aY w0 _ g s0_0 t272 t273 from Z3)) : gb274 ≠ g)); clear HI0; clear BK266; clear HK; clear HB; have HI0 := n0_; have BK266 := n1_; have HK := n2_; have HB := n3_; have BK274 := n4_; have GW274 := n5_; have GE274 := n6_; have NB266_274 := n7_; have NB274_266 := n8_; have NB0_274 := n9_; have NB274_0 := n10_; clear n0_ n1_ n2_ n3_ n4_ n5_ n6_ n7_ n8_ n9_ n10_; clear hb hbox hg; have hnb18 := NB274_266.out; have hnc18 := NB266_274.out; have hnb19 := NB274_0.out; have hnc19 := NB0_274.out; have hcz20_0 : w17.cell? ⟨gb274, 0, none⟩ = some (.int .i64 0) := (ah BK274.out 0).trans rfl; have hcz20_1 : w17.cell? ⟨gb274, 1, none⟩ = some (.string (⟨#[]⟩ : ByteArray)) := (ah BK274.out 1).trans rfl; have hcz20_2 : w17.cell? ⟨gb274, 2, none⟩ = some (.int .i64 0) := (ah BK274.out 2).trans rfl; have hcz20_3 : w17.cell? ⟨gb274, 3, none⟩ = some (.int .i64 0) := (ah BK274.out 3).trans rfl; have hfz20_0 := af BK274.out 0; have hfz20_1 := af BK274.out 1; have hfz20_2 := af BK274.out 2; have hfz20_3 := af BK274.out 3; obtain ⟨ASz21_0, cSz21_0, HGz21, hgz21, HSz21_0⟩ := HI0.out; have hcz21_0 := jl HGz21; have hcz21_1 := jk HGz21; have hcz21_2 := ji HGz21; have hfz21_1 := af HGz21 1; have hfz21_2 := af HGz21 2; clear HGz21 hgz21; have hnb22 := NB266_0.out; have hnc22 := NB0_266.out; have hcz23_0 : w17.cell? ⟨gb266, 0, none⟩ = some (.int .i64 0) := (ah BK266.out 0).trans rfl; have hcz23_1 : w17.cell? ⟨gb266, 1, none⟩ = some (.string (⟨#[]⟩ : ByteArray)) := (ah BK266.out 1).trans rfl; have hcz23_2 : w17.cell? ⟨gb266, 2, none⟩ = some (.int .i64 0) := (ah BK266.out 2).trans rfl; have hcz23_3 : w17.cell? ⟨gb266, 3, none⟩ = some (.int .i64 0) := (ah BK266.out 3).trans rfl; have hfz23_0 := af BK266.out 0; have hfz23_1 := af BK266.out 1; have hfz23_2 := af BK266.out 2; have hfz23_3 := af BK266.out 3))
  refine bodyPost_ret (results_cell_row rfl _ _ gb266 56 #[.int .i64 0, .string (⟨#[]⟩ : ByteArray), .int .i64 0, .int .i64 0] (0, 0) _ rfl (by refine dm (cs := #[.int .i64 0, .string (⟨#[]⟩ : ByteArray), .int .i64 0, .int .i64 0]) ?_ 3 _ rfl; refine dm (cs := #[.int .i64 0, .string (⟨#[]⟩ : ByteArray), .int .i64 0, .int .i64 0]) ?_ 2 _ rfl; refine dm (cs := #[.int .i64 0, .string (⟨#[]⟩ : ByteArray), .int .i64 0, .int .i64 0]) ?_ 1 _ rfl; refine dm (cs := #[.int .i64 0, .string (⟨#[]⟩ : ByteArray), .int .i64 0, .int .i64 0]) ?_ 0 _ rfl; refine iP ?_ NB266_0.out _; refine iP ?_ NB266_274.out _; refine iP ?_ NB266_274.out _; refine iP ?_ NB266_274.out _; refine iP ?_ NB266_274.out _; exact BK266.out) Try.underlying56 rfl (by kernel_rfl)) rfl ?_
  exact ⟨eT, Z10, bT HB, kT HK⟩
 replace H := yF H
 simp only [Option.some.injEq, Prod.mk.injEq] at H
 obtain ⟨rfl, rfl, rfl, rfl, rfl, rfl⟩ := H
 go_enter Try.func57, Try.ntmps57
 go_wp2_with (first | ((with_reducible refine bF (N := 4) rfl ?_); refine dS ?hg (N := 4) ?hd (cs := #[.int .i64 0, .string (⟨#[]⟩ : ByteArray), .int .i64 0, .int .i64 0]) (t := 56) ?hr ?_; (case hd => rfl); (case hg => rfl); (case hr => first | (go_simp; done) | (go_simp; rfl)); intro gb266 hg w24 hbox hb; refine yA8 (aY.below Z2 hb) (aQ.trans (kT HK) (aQ.of_below hb g none) (.inl rfl)) (aj (bT HB) hb) (hbox) ((by rw [hg]; exact (dD (w := w) (g := g) (row := none) (kT HK)) : w.heap.size ≤ gb266)) ((Nat.le_trans HW0.out (by rw [hg]; exact (dD (w := w) (g := g) (row := none) (kT HK)) : w.heap.size ≤ gb266) : w0.heap.size ≤ gb266)) ((by rw [hg]; exact Nat.ne_of_lt (aY.lt (show aY w0 _ g s0_0 s0_1 s0_2 from Z2)) : g ≠ gb266)) ((by rw [hg]; exact Nat.ne_of_gt (aY.lt (show aY w0 _ g s0_0 s0_1 s0_2 from Z2)) : gb266 ≠ g)) ?_; clear HI0 HK HB; intro HI0 HK HB BK266 GW266 GE266 NB0_266 NB266_0; clear hb hbox hg) | ((with_reducible refine gC 74 rfl ?_); refine gM 74 9 rfl Try.func74 (jy.calls g s0_0 s0_1 s0_2 t267 t268 t269 t270 false t272 t273 w0 _ Z3 (bT HB) A3.out) ?_; rintro _ w25 ⟨rfl, hi, hb, hk⟩; refine ⟨_, rfl, yA4 (aQ.blk hk (g' := gb266) (o := .cells #[.int .i64 0, .string (⟨#[]⟩ : ByteArray), .int .i64 0, .int .i64 0] 56 (0, 0)) (by exact BK266.out) NB266_0.out (by simp)) (aQ.trans (kT HK) hk (.inl rfl)) (hb) (hi) ?_⟩; clear BK266 HK HB HI0 hb; intro BK266 HK HB HI0) | ((with_reducible refine bF (N := 5) rfl ?_); refine dS ?hg (N := 5) ?hd (cs := #[.int .i64 0, .string (⟨#[]⟩ : ByteArray), .int .i64 0, .int .i64 0]) (t := 56) ?hr ?_; (case hd => rfl); (case hg => rfl); (case hr => first | (go_simp; done) | (go_simp; rfl)); intro gb274 hg w26 hbox hb; have n0_ := ae.mk (aY.below Z3 hb); have n1_ := ae.mk (eG (g := gb266) (o := .cells #[.int .i64 0, .string (⟨#[]⟩ : ByteArray), .int .i64 0, .int .i64 0] 56 (0, 0)) (by exact BK266.out) hb); have n2_ := ae.mk (aQ.trans (kT HK) (aQ.of_below hb g none) (.inl rfl)); have n3_ := ae.mk (aj (bT HB) hb); have n4_ := ae.mk (hbox); have n5_ := ae.mk ((by rw [hg]; exact (dD (w := w) (g := g) (row := none) (kT HK)) : w.heap.size ≤ gb274)); have n6_ := ae.mk ((Nat.le_trans HW0.out (by rw [hg]; exact (dD (w := w) (g := g) (row := none) (kT HK)) : w.heap.size ≤ gb274) : w0.heap.size ≤ gb274)); have n7_ := ae.mk ((by rw [hg]; exact Nat.ne_of_lt (jL (g := gb266) (o := .cells #[.int .i64 0, .string (⟨#[]⟩ : ByteArray), .int .i64 0, .int .i64 0] 56 (0, 0)) (by exact BK266.out)) : gb266 ≠ gb274)); have n8_ := ae.mk ((by rw [hg]; exact Nat.ne_of_gt (jL (g := gb266) (o := .cells #[.int .i64 0, .string (⟨#[]⟩ : ByteArray), .int .i64 0, .int .i64 0] 56 (0, 0)) (by exact BK266.out)) : gb274 ≠ gb266)); have n9_ := ae.mk ((by rw [hg]; exact Nat.ne_of_lt (aY.lt (show aY w0 _ g s0_0 t272 t273 from Z3)) : g ≠ gb274)); have n10_ := ae.mk ((by rw [hg]; exact Nat.ne_of_gt (aY.lt (show aY w0 _ g s0_0 t272 t273 from Z3)) : gb274 ≠ g)); clear HI0; clear BK266; clear HK; clear HB; have HI0 := n0_; have BK266 := n1_; have HK := n2_; have HB := n3_; have BK274 := n4_; have GW274 := n5_; have GE274 := n6_; have NB266_274 := n7_; have NB274_266 := n8_; have NB0_274 := n9_; have NB274_0 := n10_; clear n0_ n1_ n2_ n3_ n4_ n5_ n6_ n7_ n8_ n9_ n10_; clear hb hbox hg; have hnb27 := NB274_266.out; have hnc27 := NB266_274.out; have hnb28 := NB274_0.out; have hnc28 := NB0_274.out; have hcz29_0 : w26.cell? ⟨gb274, 0, none⟩ = some (.int .i64 0) := (ah BK274.out 0).trans rfl; have hcz29_1 : w26.cell? ⟨gb274, 1, none⟩ = some (.string (⟨#[]⟩ : ByteArray)) := (ah BK274.out 1).trans rfl; have hcz29_2 : w26.cell? ⟨gb274, 2, none⟩ = some (.int .i64 0) := (ah BK274.out 2).trans rfl; have hcz29_3 : w26.cell? ⟨gb274, 3, none⟩ = some (.int .i64 0) := (ah BK274.out 3).trans rfl; have hfz29_0 := af BK274.out 0; have hfz29_1 := af BK274.out 1; have hfz29_2 := af BK274.out 2; have hfz29_3 := af BK274.out 3; obtain ⟨ASz30_0, cSz30_0, HGz30, hgz30, HSz30_0⟩ := HI0.out; have hcz30_0 := jl HGz30; have hcz30_1 := jk HGz30; have hcz30_2 := ji HGz30; have hfz30_1 := af HGz30 1; have hfz30_2 := af HGz30 2; clear HGz30 hgz30; have hnb31 := NB266_0.out; have hnc31 := NB0_266.out; have hcz32_0 : w26.cell? ⟨gb266, 0, none⟩ = some (.int .i64 0) := (ah BK266.out 0).trans rfl; have hcz32_1 : w26.cell? ⟨gb266, 1, none⟩ = some (.string (⟨#[]⟩ : ByteArray)) := (ah BK266.out 1).trans rfl; have hcz32_2 : w26.cell? ⟨gb266, 2, none⟩ = some (.int .i64 0) := (ah BK266.out 2).trans rfl; have hcz32_3 : w26.cell? ⟨gb266, 3, none⟩ = some (.int .i64 0) := (ah BK266.out 3).trans rfl; have hfz32_0 := af BK266.out 0; have hfz32_1 := af BK266.out 1; have hfz32_2 := af BK266.out 2; have hfz32_3 := af BK266.out 3))
 refine bodyPost_ret (results_cell_row rfl _ _ gb266 56 #[.int .i64 0, .string (⟨#[]⟩ : ByteArray), .int .i64 0, .int .i64 0] (0, 0) _ rfl (by refine dm (cs := #[.int .i64 0, .string (⟨#[]⟩ : ByteArray), .int .i64 0, .int .i64 0]) ?_ 3 _ rfl; refine dm (cs := #[.int .i64 0, .string (⟨#[]⟩ : ByteArray), .int .i64 0, .int .i64 0]) ?_ 2 _ rfl; refine dm (cs := #[.int .i64 0, .string (⟨#[]⟩ : ByteArray), .int .i64 0, .int .i64 0]) ?_ 1 _ rfl; refine dm (cs := #[.int .i64 0, .string (⟨#[]⟩ : ByteArray), .int .i64 0, .int .i64 0]) ?_ 0 _ rfl; refine iP ?_ NB266_0.out _; refine iP ?_ NB266_274.out _; refine iP ?_ NB266_274.out _; refine iP ?_ NB266_274.out _; refine iP ?_ NB266_274.out _; exact BK266.out) Try.underlying56 rfl (by kernel_rfl)) rfl ?_
 exact ⟨eT, Z10, bT HB, kT HK⟩
/-! ### az: function 61 -/
def az.l0 : Nat → List (S40) → List (List (S40)) → Int → Int → Option ((List (S40)))
 | 0, _, _, _, _ => none
 | k + 1, x5, x13, x14, x15 => if x15 < x14 then (if 0 ≤ x15 then (if x15 < (x13.length : Int) then (if x5.length + (qU x13 x15).length < 2513169434916 then (az.l0 k (x5 ++ (qU x13 x15)) x13 x14 (wrap64 (x15 + 1))) else (none)) else (none)) else (none)) else (some x5)
def az.f (k : Nat) (a0_0 : Int) (a0_1 : Int) (a0_2 : ByteArray) (a0_3 : Int) (a0_4 : ByteArray) (l1 : List (List (S40))) : Option ((List (S40))) := az.l0 k (([(⟨a0_0, (l1.length : Int), a0_2, a0_3, a0_4⟩ : S40)] : List (S40))) l1 (l1.length : Int) 0
theorem az.bW : ∀ k, (∀ y0 y1 y2 y3, LeO (az.l0 k y0 y1 y2 y3) (az.l0 (k + 1) y0 y1 y2 y3))
 | 0 => fun _ _ _ _ r h => by simp [az.l0] at h
 | k + 1 => by
  have ih0 := az.bW k
  intro y0 y1 y2 y3
  unfold az.l0
  exact yL
theorem az.mono : ∀ a0 a1 a2 a3 a4 a5 k, LeO (az.f k a0 a1 a2 a3 a4 a5) (az.f (k + 1) a0 a1 a2 a3 a4 a5) := by
 intro a0 a1 a2 a3 a4 a5 k
 have ih0 := az.bW k
 unfold az.f
 exact yL
set_option maxHeartbeats 8000000 in
set_option maxRecDepth 100000 in
theorem az.calls (k : Nat) (a0_0 : Int) (a0_1 : Int) (a0_2 : ByteArray) (a0_3 : Int) (a0_4 : ByteArray) (A1 : Option Addr) (c1 : Nat) (l1 : List (List (S40))) (r : List (S40)) (w : World) (hr1 : Kd.C (Kd.slice 40 k40) w A1 l1.length l1) (hc1 : l1.length ≤ c1) (h : az.f k a0_0 a0_1 a0_2 a0_3 a0_4 l1 = some r) :
 Calls Try.prog 61 #[.agg #[.int .i64 a0_0, .int .i64 a0_1, .string a0_2, .int .i64 a0_3, .string a0_4], .slice A1 l1.length c1] w fun e w' => ∃ v0_ : Value, e = .returned (v0_) ∧ Kd.R k40 40 w' w.heap.size (fun _ => True) v0_ r ∧ Below w.heap.size w w' := by
 have hu40 := Try.underlying40
 have HR1 := ae.mk hr1
 have HC1 := ae.mk hc1
 clear hr1 hc1
 have HB := ae.mk (Below.refl w.heap.size w)
 have H := h
 clear h
 unfold az.f at H
 obtain ⟨y276, hy276⟩ : ∃ y_ : List (S40), y_ = (([(⟨a0_0, (l1.length : Int), a0_2, a0_3, a0_4⟩ : S40)] : List (S40))) := ⟨_, rfl⟩
 replace H : (az.l0 k y276 l1 (l1.length : Int) 0) = some r := by first | (rw [hy276]; with_reducible exact H) | (have H2_ := (Option.bind_some _ _).symm.trans H; rw [hy276]; with_reducible exact H2_) | (have H2_ := (Option.bind_some _ _).symm.trans H; with_reducible exact H2_) | with_reducible exact H | (rw [hy276]; exact H) | exact H
 have Ny276 := ae.mk hy276
 clear hy276
 have H' := ae.mk H
 clear H
 go_enter Try.func61, Try.ntmps61
 go_wp2_with (first | ((with_reducible refine bF (N := 2) rfl ?_); refine dS ?hg (N := 2) ?hd (cs := #[.int .i64 a0_0, .int .i64 a0_1, .string a0_2, .int .i64 a0_3, .string a0_4]) (t := 40) ?hr ?_; (case hd => rfl); (case hg => rfl); (case hr => first | (go_simp; done) | (go_simp; rfl)); intro gb275 hg w3 hbox hb; refine yA4 (aj (bT HB) hb) (hbox) ((by rw [hg]; exact (aX (bT HB)) : w.heap.size ≤ gb275)) ((by rw [hg]; exact (aX (bT HB)) : w.heap.size ≤ gb275)) ?_; clear HB; intro HB BK275 GW275 GE275; clear hb hbox hg; have hcz4_0 : w3.cell? ⟨gb275, 0, none⟩ = some (.int .i64 a0_0) := (ah BK275.out 0).trans rfl; have hcz4_1 : w3.cell? ⟨gb275, 1, none⟩ = some (.int .i64 a0_1) := (ah BK275.out 1).trans rfl; have hcz4_2 : w3.cell? ⟨gb275, 2, none⟩ = some (.string a0_2) := (ah BK275.out 2).trans rfl; have hcz4_3 : w3.cell? ⟨gb275, 3, none⟩ = some (.int .i64 a0_3) := (ah BK275.out 3).trans rfl; have hcz4_4 : w3.cell? ⟨gb275, 4, none⟩ = some (.string a0_4) := (ah BK275.out 4).trans rfl; have hfz4_0 := af BK275.out 0; have hfz4_1 := af BK275.out 1; have hfz4_2 := af BK275.out 2; have hfz4_3 := af BK275.out 3; have hfz4_4 := af BK275.out 4) | ((with_reducible refine bF (N := 12) rfl ?_); refine Kd.uK k40 _ 40 ?hg (N := 12) ?hd (xs := ([(⟨a0_0, (l1.length : Int), a0_2, a0_3, a0_4⟩ : S40)] : List (S40))) (inner := [.int .i64 a0_0, .int .i64 (l1.length : Int), .string a0_2, .int .i64 a0_3, .string a0_4]) (ok := fun _ => True) (okp := fun _ => True) ?hr ?hp (fun _ hk => hk) trivial (Below.refl _ _) (Nat.le_refl _) (by simp) ?_; (case hd => rfl); (case hg => rfl); (case hr => first | (go_simp; done) | (go_simp; rfl)); (case hp => exact (dR.c5 (show Kd.M k40 _ _ _ (⟨a0_0, (l1.length : Int), a0_2, a0_3, a0_4⟩ : S40) [.int .i64 a0_0, .int .i64 (l1.length : Int), .string a0_2, .int .i64 a0_3, .string a0_4] from (tq _ _ _ (⟨a0_0, (l1.length : Int), a0_2, a0_3, a0_4⟩ : S40) )) (dR.none _ _))); intro v277 w5 ho6 hb hg_ hnew_; clear hg_ hnew_; (first | rw [← Ny276.out] at ho6 | (simp only [Int.reduceToNat] at ho6; rw [← Ny276.out] at ho6)); refine yA3 (Kd.eU (Kd.Nq ho6 (g := gb275) (o := .cells #[.int .i64 a0_0, .int .i64 (l1.length : Int), .string a0_2, .int .i64 a0_3, .string a0_4] 40 (0, 0)) (by refine dm (cs := #[.int .i64 a0_0, .int .i64 a0_1, .string a0_2, .int .i64 a0_3, .string a0_4]) ?_ 1 _ rfl; exact BK275.out)) (aX (bT HB))) (eG (g := gb275) (o := .cells #[.int .i64 a0_0, .int .i64 (l1.length : Int), .string a0_2, .int .i64 a0_3, .string a0_4] 40 (0, 0)) (by refine dm (cs := #[.int .i64 a0_0, .int .i64 a0_1, .string a0_2, .int .i64 a0_3, .string a0_4]) ?_ 1 _ rfl; exact BK275.out) hb) (aj (bT HB) hb) ?_; clear BK275 HB; intro HO278 BK275 HB; clear hb ho6))
 (try simp only [Act.put, List.setIfInBounds_toArray, List.set_cons_zero, List.set_cons_succ])
 go_loopg [5, 15] k (fun kq v5 v15 w' => ∃ (x5_1 : List (S40)) (x15_1 : Int), v15 = .int .i64 x15_1 ∧ ae (az.l0 kq x5_1 l1 (l1.length : Int) x15_1 = some r) ∧ ae (kq ≤ k) ∧ ae (Kd.R k40 40 w' w.heap.size (fun k_ => k_ ≠ gb275) v5 x5_1) ∧ ae (w'.heap[gb275]? = some (.cells #[.int .i64 a0_0, .int .i64 (l1.length : Int), .string a0_2, .int .i64 a0_3, .string a0_4] 40 (0, 0))) ∧ ae (Below w.heap.size w w'))
 case atStart => exact ⟨(y276), (0), fT, H', ⟨Nat.le_refl _⟩, ⟨by (with_reducible repeat (first | apply Kd.jP | apply Kd.jZ | apply Kd.lI)); exact Kd.fG HO278.out (fun _ hk => hk.2)⟩, ⟨by exact BK275.out⟩, ⟨bT HB⟩⟩
 case round =>
  clear H'
  try clear c1
  try clear p2
  try clear c5
  try clear c6
  try clear hcz4_0
  try clear hcz4_1
  try clear hcz4_2
  try clear hcz4_3
  try clear hcz4_4
  try clear hfz4_0
  try clear hfz4_1
  try clear hfz4_2
  try clear hfz4_3
  try clear hfz4_4
  obtain ⟨x5_1, x15_1, rfl, HA, HK1, HO_5, BK275, HB⟩ := hrel
  cases gk with
  | zero => exact absurd HA.out (by simp [az.l0])
  | succ k1 =>
   have H := HA.out
   clear HA
   simp only [az.l0] at H
   revert H
   refine jT (fun c7b0 H => ?_) fun c7b0 H => ?_
   ·revert H
    refine gY (fun c8b0 H => ?_) fun c8 H => ?_
    ·revert H
     refine gY (fun c9b0 H => ?_) fun c9 H => ?_
     ·revert H
      refine gG (fun c10 H => ?_) fun c10 H => ?_
      ·have LMc10 := ae.mk c10
       clear c10
       obtain ⟨y280, hy280⟩ : ∃ y_ : List (S40), y_ = (x5_1 ++ (qU l1 x15_1)) := ⟨_, rfl⟩
       replace H : (az.l0 k1 y280 l1 (l1.length : Int) (wrap64 (x15_1 + 1))) = some r := by first | (rw [hy280]; with_reducible exact H) | (have H2_ := (Option.bind_some _ _).symm.trans H; rw [hy280]; with_reducible exact H2_) | (have H2_ := (Option.bind_some _ _).symm.trans H; with_reducible exact H2_) | with_reducible exact H | (rw [hy280]; exact H) | exact H
       have Ny280 := ae.mk hy280
       clear hy280
       have H' := ae.mk H
       clear H
       have p279 : 0 ≤ (x15_1 : Int) := of_decide_eq_true aT
       have q279 : x15_1 < (l1.length : Int) := of_decide_eq_true aT
       obtain ⟨ad279, A279_0, c279_0, e279, hx279_0, hl279_0, hi279_0⟩ := Oi HR1.out x15_1 p279 q279
       cases e279
       replace hx279_0 := (HB.out.cell (World.block_lt_of_cell? w _ hx279_0)).trans hx279_0
       have HR279_0 := ae.mk hi279_0
       have HC279_0 := ae.mk hl279_0
       clear hi279_0 hl279_0
       replace p279 := eq_true p279
       replace q279 := eq_true q279
       go_wp2_with (first | ((with_reducible refine dO (b := .append) (xs := #[.tmp 19, .tmp 20]) rfl ?_); at_builtin; refine Kd.iW k40 (w0 := w) w.heap.size rfl (.tmp 19) (.tmp 20) 22 40 (.agg #[(.int .i64 0), (.int .i64 0), (.string ⟨#[]⟩), (.int .i64 0), (.string ⟨#[]⟩)]) 56 rfl Try.underlying22 yO rfl (by decide) (by omega) u5 x5_1 (qU l1 x15_1) _ _ _ (fun k_ => k_ ≠ gb275) (fun _ => False) rfl rfl ?aO ?aR (fun _ _ h => h) (fun _ h => h.elim) ?aF ?aB ?aS ?aL ?_; (case aR => repeat (first | exact (Kd.gX HR279_0.out HB.out) | (with_reducible refine Kd.gQ ?_ _) | (with_reducible refine Kd.gK ?_ _) | (with_reducible refine Kd.iY ?_))); (case aB => exact (bT HB)); (case aF => exact (fun k_ hk => Kd.CE (g := gb275) (o := .cells #[.int .i64 a0_0, .int .i64 (l1.length : Int), .string a0_2, .int .i64 a0_3, .string a0_4] 40 (0, 0)) (by exact BK275.out) k_ hk)); (case aO => exact (qR HO_5)); (case aS => exact (aX (bT HB))); (case aL => have := LMc10.out; omega); intro v281 w11 ho hb hg hat; rw [← Ny280.out] at ho; refine yA3 (kR (g := gb275) (o := .cells #[.int .i64 a0_0, .int .i64 (l1.length : Int), .string a0_2, .int .i64 a0_3, .string a0_4] 40 (0, 0)) (by exact BK275.out) hg (Kd.Ii HO_5.out (fun _ hk => hk))) (hb) (ho) ?_; clear BK275 HB HO_5; intro BK275 HB HO282; clear ho hb hg hat))
       go_roundg k1
       case measure => have := HK1.out; omega
       case rel => exact ⟨(y280), (wrap64 (x15_1 + 1)), fT, H', ⟨by have := HK1.out; omega⟩, ⟨qR HO282⟩, ⟨by exact BK275.out⟩, ⟨bT HB⟩⟩
      exact absurd H (by simp)
     exact absurd H (by simp)
    exact absurd H (by simp)
   obtain rfl := Option.some.inj H
   go_wp2
   go_ret
   exact ⟨_, eT, by (with_reducible repeat (first | apply Kd.jP | apply Kd.jZ | apply Kd.lI)); exact Kd.fG HO_5.out (fun _ hk => trivial), bT HB⟩
end Go.Proofs.Ytlenihbmafkegaa.Q
end
section
namespace Go.Proofs.Ytlenihbmafkegaa.Q
open Go.RowKit Go.Proofs.YtlenihbmafkegaaW.PrintWords Go.Proofs.YtlenihbmafkegaaW.PrintLast Go.Proofs.YtlenihbmafkegaaW.PrintMore
attribute [local go_sem] jE jD jC jB df cO dI dH bV bU cZ cu
set_option linter.unusedVariables false
set_option linter.unusedSimpArgs false
/-! ### ed: function 59 -/
def ed.f (k : Nat) (s0_0 : List (S56)) (s0_1 : Int) (s0_2 : Bool) : Option ((List (S40)) × Int × Bool) := (bn.f s0_0 s0_1 s0_2 1).bind fun bt283 => ((aC.f s0_0 bt283.2.2.2.2.1 bt283.2.2.2.2.2 (⟨#[46]⟩ : ByteArray)).bind fun bt290 => ((bn.f s0_0 bt290.1 bt290.2 1).bind fun bt292 => ((aC.f s0_0 bt292.2.2.2.2.1 bt292.2.2.2.2.2 (⟨#[47]⟩ : ByteArray)).bind fun bt298 => ((bn.f s0_0 bt298.1 bt298.2 2).bind fun bt300 => ((aC.f s0_0 bt300.2.2.2.2.1 bt300.2.2.2.2.2 (⟨#[59]⟩ : ByteArray)).bind fun bt306 => ((az.f k 2 0 bt283.2.1 bt300.2.2.1 bt292.2.1 ([] : List (List (S40)))).bind fun t308 => (some (t308, bt306.1, bt306.2))))))))
theorem ed.mono : ∀ a0 a1 a2 k, LeO (ed.f k a0 a1 a2) (ed.f (k + 1) a0 a1 a2) := by
 intro a0 a1 a2 k
 unfold ed.f
 have m0 := az.mono
 exact yL
-- BY HAND: function 91 (runtime_boundsError_Error)
/-! ### bD: function 82 -/
def bD.f (F : Fam) (k : Nat) (s0_0 : List (S56)) (s0_1 : Int) (s0_2 : Bool) (a1_0 : Int) (a1_1 : Int) (a1_2 : ByteArray) (a1_3 : Int) (a1_4 : ByteArray) : Option ((List (S40)) × Int × Bool) := (iO.f F k s0_0 s0_1 s0_2).bind fun bt312 => ((aC.f s0_0 bt312.2.1 bt312.2.2 (⟨#[59]⟩ : ByteArray)).bind fun bt317 => ((az.f k a1_0 a1_1 a1_2 a1_3 a1_4 (([bt312.1] : List (List (S40))))).bind fun t322 => (some (t322, bt317.1, bt317.2))))
theorem bD.mono {F F' : Fam} (HLE : jQ F F') : ∀ a0 a1 a2 a3 a4 a5 a6 a7 k, LeO (bD.f F k a0 a1 a2 a3 a4 a5 a6 a7) (bD.f F' (k + 1) a0 a1 a2 a3 a4 a5 a6 a7) := by
 intro a0 a1 a2 a3 a4 a5 a6 a7 k
 unfold bD.f
 have m0 := az.mono
 have m1 := (iO.mono HLE)
 exact yL
/-! ### dQ: function 84 -/
def dQ.f (k : Nat) (s0_0 : List (S56)) (s0_1 : Int) (s0_2 : Bool) (a1 : Int) : Option ((List (S40)) × Int × Bool) := (aC.f s0_0 s0_1 s0_2 (⟨#[59]⟩ : ByteArray)).bind fun bt325 => ((az.f k a1 0 (⟨#[]⟩ : ByteArray) 0 (⟨#[]⟩ : ByteArray) ([] : List (List (S40)))).bind fun t327 => (some (t327, bt325.1, bt325.2)))
theorem dQ.mono : ∀ a0 a1 a2 a3 k, LeO (dQ.f k a0 a1 a2 a3) (dQ.f (k + 1) a0 a1 a2 a3) := by
 intro a0 a1 a2 a3 k
 unfold dQ.f
 have m0 := az.mono
 exact yL
/-! ### fH: function 25 -/
def fH.f (k : Nat) (l0 : List (S40)) (a1 : Int) : Option ((List (S40))) := (bI.f k l0 a1).bind fun t330 => (if t330 < 0 then (some ([] : List (S40))) else (if 0 ≤ a1 then (if a1 ≤ t330 then (if t330 ≤ (l0.length : Int) then ((some ((l0.take (t330 : Int).toNat).drop (a1 : Int).toNat : List (S40))).bind fun y331 => (if ([] : List (S40)).length + y331.length < 2513169434916 then (some (([] : List (S40)) ++ y331)) else (none))) else (none)) else (none)) else (none)))
theorem fH.mono : ∀ a0 a1 k, LeO (fH.f k a0 a1) (fH.f (k + 1) a0 a1) := by
 intro a0 a1 k
 unfold fH.f
 have m0 := bI.mono
 exact yL
set_option maxHeartbeats 8000000 in
set_option maxRecDepth 100000 in
theorem fH.calls (k : Nat) (A0 : Option Addr) (c0 : Nat) (l0 : List (S40)) (a1 : Int) (r : List (S40)) (w : World) (hr0 : Kd.C k40 w A0 l0.length l0) (hc0 : l0.length ≤ c0) (h : fH.f k l0 a1 = some r) :
 Calls Try.prog 25 #[.slice A0 l0.length c0, .int .i64 a1] w fun e w' => ∃ v0_ : Value, e = .returned (v0_) ∧ Kd.R k40 40 w' w.heap.size (fun _ => True) v0_ r ∧ Below w.heap.size w w' := by
 have HR0 := ae.mk hr0
 have HC0 := ae.mk hc0
 clear hr0 hc0
 have HB := ae.mk (Below.refl w.heap.size w)
 have H := h
 clear h
 unfold fH.f at H
 revert H
 refine yB1 fun t330 A3 H => ?_
 revert H
 refine jT (fun c4b0 H => ?_) fun c4b0 H => ?_
 ·obtain rfl := Option.some.inj H
  go_enter Try.func25, Try.ntmps25
  go_wp2_with (first | ((with_reducible refine gC 16 rfl ?_); refine gM 16 8 rfl Try.func16 (bI.calls k _ _ l0 a1 t330 _ Z1 HC0.out A3.out) ?_; rintro _ w' ⟨rfl, ⟨nd, rfl⟩⟩; refine ⟨_, rfl, ?_⟩))
  go_ret
  exact ⟨_, eT, Z5, bT HB⟩
 revert H
 refine jI (fun c5b0 c5b1 H => ?_) fun c5 H => ?_
 ·revert H
  refine jI (fun c6b0 c6b1 H => ?_) fun c6 H => ?_
  ·revert H
   refine jI (fun c7b0 c7b1 H => ?_) fun c7 H => ?_
   ·obtain ⟨y331, hy331⟩ : ∃ y_ : List (S40), y_ = ((l0.take (t330 : Int).toNat).drop (a1 : Int).toNat) := ⟨_, rfl⟩
    replace H : (if ([] : List (S40)).length + y331.length < 2513169434916 then (some (([] : List (S40)) ++ y331)) else (none)) = some r := by first | (rw [hy331]; with_reducible exact H) | (have H2_ := (Option.bind_some _ _).symm.trans H; rw [hy331]; with_reducible exact H2_) | (have H2_ := (Option.bind_some _ _).symm.trans H; with_reducible exact H2_) | with_reducible exact H | (rw [hy331]; exact H) | exact H
    have Ny331 := ae.mk hy331
    clear hy331
    revert H
    refine gG (fun c8 H => ?_) fun c8 H => ?_
    ·have LMc8 := ae.mk c8
     clear c8
     obtain ⟨y335, hy335⟩ : ∃ y_ : List (S40), y_ = (([] : List (S40)) ++ y331) := ⟨_, rfl⟩
     replace H : (some y335) = some r := by first | (rw [hy335]; with_reducible exact H) | (have H2_ := (Option.bind_some _ _).symm.trans H; rw [hy335]; with_reducible exact H2_) | (have H2_ := (Option.bind_some _ _).symm.trans H; with_reducible exact H2_) | with_reducible exact H | (rw [hy335]; exact H) | exact H
     have Ny335 := ae.mk hy335
     clear hy335
     obtain rfl := Option.some.inj H
     go_enter Try.func25, Try.ntmps25
     go_wp2_with (first | ((with_reducible refine gC 16 rfl ?_); refine gM 16 8 rfl Try.func16 (bI.calls k _ _ l0 a1 t330 _ Z1 HC0.out A3.out) ?_; rintro _ w' ⟨rfl, ⟨nd, rfl⟩⟩; refine ⟨_, rfl, ?_⟩; have q9 : (t330 : Int) ≤ ((l0.length : Int) : Int) := of_decide_eq_true aT; obtain ⟨i09, hi09, _, hsz9, _⟩ := info_parts yO; have hroom9 : l0.length ≤ c0 := HC0.out; have hC9 : Kd.C k40 _ A0 l0.length l0 := HR0.out; have ql9 : (a1 : Int) ≤ (t330 : Int) := of_decide_eq_true aT; have q09 : (0 : Int) ≤ (a1 : Int) := of_decide_eq_true aT; have hcut9 := JJ (P := Try.prog) 22 40 .i64 .i64 Try.underlying22 hi09 5 hsz9 A0 l0.length c0 a1 t330 q09 ql9 q9 hroom9; have hr9 := Kd.O5 (lo := (a1 : Int).toNat) (hi := (t330 : Int).toNat) (c := c0) hC9 (by omega) (by omega) hroom9; obtain ⟨A9, hA9⟩ : ∃ A1, A1 = (if c0 = (a1 : Int).toNat then A0 else (A0 : Option Addr).map (·.add ((a1 : Int).toNat * 5))) := ⟨_, rfl⟩; obtain ⟨c9, hc9⟩ : ∃ c1, c1 = c0 - (a1 : Int).toNat := ⟨_, rfl⟩; have hy9 : y331.length = (t330 : Int).toNat - (a1 : Int).toNat := (by rw [Ny331.out, List.length_drop, List.length_take] <;> omega); rw [show ((l0).take (t330 : Int).toNat).drop (a1 : Int).toNat = y331 from Ny331.out.symm] at hr9; replace hr9 : Kd.C k40 _ A9 y331.length y331 := (by rw [hA9]; exact hr9); rw [← hy9, ← hA9, ← hc9] at hcut9; have HR334 := ae.mk hr9; have HC334 := ae.mk (show y331.length ≤ c9 from by rw [hy9, hc9]; exact Nat.sub_le_sub_right (Nat.le_trans (by omega) hroom9) _); clear hr9 hC9 hroom9 hi09 hsz9 hc9; have KY9 := ae.mk hy9; have KA9 := ae.mk hA9; clear hy9 hA9; replace q9 := eq_true q9) | ((with_reducible refine dO (b := .append) (xs := #[.const (.slice none 0 0), .tmp 14]) rfl ?_); at_builtin; refine Kd.iW k40 (w0 := w) w.heap.size rfl (.const (.slice none 0 0)) (.tmp 14) 22 40 (.agg #[(.int .i64 0), (.int .i64 0), (.string ⟨#[]⟩), (.int .i64 0), (.string ⟨#[]⟩)]) 56 rfl Try.underlying22 yO rfl (by decide) (by omega) (.slice none 0 0) ([] : List (S40)) y331 _ _ _ (fun _ => True) (fun _ => False) rfl rfl ?aO ?aR (fun _ _ h => h) (fun _ h => h.elim) ?aF ?aB ?aS ?aL ?_; (case aR => repeat (first | exact HR334.out | (with_reducible refine Kd.gQ ?_ _) | (with_reducible refine Kd.gK ?_ _) | (with_reducible refine Kd.iY ?_))); (case aB => exact (bT HB)); (case aF => exact (fun _ _ => trivial)); (case aO => exact ((Kd.pJ _ _ _ _ (fun _ => True)))); (case aS => exact (aX (bT HB))); (case aL => have := LMc8.out; omega); intro v336 w10 ho hb hg hat; rw [← Ny335.out] at ho; refine yA2 (hb) (ho) ?_; clear HB; intro HB HO337; clear ho hb hg hat))
     go_ret
     exact ⟨_, eT, qR HO337, bT HB⟩
    exact absurd H (by simp)
   exact absurd H (by simp)
  exact absurd H (by simp)
 exact absurd H (by simp)
end Go.Proofs.Ytlenihbmafkegaa.Q
end
section
namespace Go.Proofs.Ytlenihbmafkegaa.Q
open Go.RowKit Go.Proofs.YtlenihbmafkegaaW.PrintWords Go.Proofs.YtlenihbmafkegaaW.PrintLast Go.Proofs.YtlenihbmafkegaaW.PrintMore
attribute [local go_sem] jE jD jC jB df cO dI dH bV bU cZ cu
set_option linter.unusedVariables false
set_option linter.unusedSimpArgs false
/-! ### aW: function 85 -/
def aW.j0 (F : Fam) : Nat → List (S40) → Bool → List (S56) → Int → Bool → Option ((List (S40)) × Int × Bool)
 | 0, _, _, _, _, _ => none
 | k + 1, x3, x8, x1000, x1001, x1002 => if x8 = true then ((aC.f x1000 x1001 x1002 (⟨#[59]⟩ : ByteArray)).bind fun bt346 => ((az.f k 17 0 (⟨#[]⟩ : ByteArray) 0 (⟨#[]⟩ : ByteArray) (([x3] : List (List (S40))))).bind fun t351 => (some (t351, bt346.1, bt346.2)))) else (if 0 < (x3.length : Int) then (if ((ak x3 0).f0) = 21 then ((aC.f x1000 x1001 x1002 (⟨#[61]⟩ : ByteArray)).bind fun bt355 => ((bD.f F k x1000 bt355.1 bt355.2 7 0 ((ak x3 0).f2) 0 (⟨#[]⟩ : ByteArray)).bind fun bt358 => (some (bt358.1, bt358.2.1, bt358.2.2)))) else (if ((ak x3 0).f0) = 26 then ((aC.f x1000 x1001 x1002 (⟨#[61]⟩ : ByteArray)).bind fun bt364 => ((bM.f k x3 0).bind fun t366 => ((iO.f F k x1000 bt364.1 bt364.2).bind fun bt369 => ((aC.f x1000 bt369.2.1 bt369.2.2 (⟨#[59]⟩ : ByteArray)).bind fun bt374 => (if 0 < (t366.length : Int) then ((fH.f k x3 (rd t366 0)).bind fun t377 => (if 1 < (t366.length : Int) then ((fH.f k x3 (rd t366 1)).bind fun t381 => ((az.f k 8 0 (⟨#[]⟩ : ByteArray) 0 (⟨#[]⟩ : ByteArray) (([t377, t381, bt369.1] : List (List (S40))))).bind fun t387 => (some (t387, bt374.1, bt374.2)))) else (none))) else (none)))))) else (some (([] : List (S40)), x1001, true)))) else (none))
def aW.f (F : Fam) (k : Nat) (s0_0 : List (S56)) (s0_1 : Int) (s0_2 : Bool) : Option ((List (S40)) × Int × Bool) := (iO.f F k s0_0 s0_1 s0_2).bind fun bt338 => (if bt338.2.2 = true then (aW.j0 F k bt338.1 true s0_0 bt338.2.1 bt338.2.2) else ((bi.f s0_0 bt338.2.1 bt338.2.2).bind fun bt343 => (aW.j0 F k bt338.1 (bt343.1.toList != ([61] : List UInt8)) s0_0 bt343.2.1 bt343.2.2)))
theorem aW.bW {F F' : Fam} (HLE : jQ F F') : ∀ k, (∀ y0 y1 y2 y3 y4, LeO (aW.j0 F k y0 y1 y2 y3 y4) (aW.j0 F' (k + 1) y0 y1 y2 y3 y4))
 | 0 => fun _ _ _ _ _ r h => by simp [aW.j0] at h
 | k + 1 => by
  have ih0 := aW.bW HLE k
  intro y0 y1 y2 y3 y4
  unfold aW.j0
  have m0 := az.mono
  have m1 := (bD.mono HLE)
  have m2 := (iO.mono HLE)
  have m3 := bM.mono
  have m4 := fH.mono
  exact yL
theorem aW.mono {F F' : Fam} (HLE : jQ F F') : ∀ a0 a1 a2 k, LeO (aW.f F k a0 a1 a2) (aW.f F' (k + 1) a0 a1 a2) := by
 intro a0 a1 a2 k
 have ih0 := aW.bW HLE k
 unfold aW.f
 have m0 := az.mono
 have m1 := (bD.mono HLE)
 have m2 := (iO.mono HLE)
 have m3 := bM.mono
 have m4 := fH.mono
 exact yL
end Go.Proofs.Ytlenihbmafkegaa.Q
end
section
namespace Go.Proofs.Ytlenihbmafkegaa.Q
open Go.RowKit Go.Proofs.YtlenihbmafkegaaW.PrintWords Go.Proofs.YtlenihbmafkegaaW.PrintLast Go.Proofs.YtlenihbmafkegaaW.PrintMore
attribute [local go_sem] jE jD jC jB df cO dI dH bV bU cZ cu
set_option linter.unusedVariables false
set_option linter.unusedSimpArgs false
/-! ### ay: function 81 -/
mutual
def ay.j1 (F : Fam) : Nat → ByteArray → Int → List (S56) → Int → Bool → Option ((List (S40)) × Int × Bool)
 | 0, _, _, _, _, _ => none
 | k + 1, x3, x4, x1000, x1001, x1002 => if x4 = 0 then ((aW.f F k x1000 x1001 x1002).bind fun bt480 => (some (bt480.1, bt480.2.1, bt480.2.2))) else ((aG.f x1000 x1001 x1002 x3).bind fun bt485 => ((bD.f F k x1000 bt485.2.1 bt485.2.2 x4 0 (⟨#[]⟩ : ByteArray) 0 (⟨#[]⟩ : ByteArray)).bind fun bt488 => (some (bt488.1, bt488.2.1, bt488.2.2))))
def ay.j0 (F : Fam) : Nat → ByteArray → Int → List (S56) → Int → Bool → Option ((List (S40)) × Int × Bool)
 | 0, _, _, _, _, _ => none
 | k + 1, x3, x4, x1000, x1001, x1002 => if x4 = 0 then ((aG.f x1000 x1001 x1002 x3).bind fun bt464 => ((dQ.f k x1000 bt464.2.1 bt464.2.2 16).bind fun bt467 => (some (bt467.1, bt467.2.1, bt467.2.2)))) else ((aG.f x1000 x1001 x1002 x3).bind fun bt472 => ((dQ.f k x1000 bt472.2.1 bt472.2.2 x4).bind fun bt475 => (some (bt475.1, bt475.2.1, bt475.2.2))))
end
def ay.f (F : Fam) (k : Nat) (s0_0 : List (S56)) (s0_1 : Int) (s0_2 : Bool) : Option ((List (S40)) × Int × Bool) := (bi.f s0_0 s0_1 s0_2).bind fun bt390 => (if bt390.1.toList = ([108, 101, 116] : List UInt8) then ((aG.f s0_0 bt390.2.1 bt390.2.2 bt390.1).bind fun bt393 => ((bn.f s0_0 bt393.2.1 bt393.2.2 1).bind fun bt396 => ((aC.f s0_0 bt396.2.2.2.2.1 bt396.2.2.2.2.2 (⟨#[61]⟩ : ByteArray)).bind fun bt402 => ((bD.f F k s0_0 bt402.1 bt402.2 6 0 bt396.2.1 0 (⟨#[]⟩ : ByteArray)).bind fun bt404 => (some (bt404.1, bt404.2.1, bt404.2.2)))))) else (if bt390.1.toList = ([105, 102] : List UInt8) then ((aG.f s0_0 bt390.2.1 bt390.2.2 bt390.1).bind fun bt409 => ((iO.f F k s0_0 bt409.2.1 bt409.2.2).bind fun bt412 => ((some (([bt412.1] : List (List (S40))) : List (List (S40)))).bind fun y417 => ((kU.f F k s0_0 bt412.2.1 bt412.2.2).bind fun bt420 => (if y417.length < 5864062014805 then ((some (y417 ++ [bt420.1] : List (List (S40)))).bind fun y425 => ((aG.f s0_0 bt420.2.1 bt420.2.2 (⟨#[101, 108, 115, 101]⟩ : ByteArray)).bind fun bt428 => (if bt428.1 = true then ((kU.f F k s0_0 bt428.2.1 bt428.2.2).bind fun bt431 => (if y425.length < 5864062014805 then ((az.f k 9 0 (⟨#[]⟩ : ByteArray) 0 (⟨#[]⟩ : ByteArray) (y425 ++ [bt431.1])).bind fun t439 => (some (t439, bt431.2.1, bt431.2.2))) else (none))) else ((az.f k 9 0 (⟨#[]⟩ : ByteArray) 0 (⟨#[]⟩ : ByteArray) y425).bind fun t442 => (some (t442, bt428.2.1, bt428.2.2)))))) else (none)))))) else (if bt390.1.toList = ([119, 104, 105, 108, 101] : List UInt8) then ((aG.f s0_0 bt390.2.1 bt390.2.2 bt390.1).bind fun bt445 => ((iO.f F k s0_0 bt445.2.1 bt445.2.2).bind fun bt448 => ((kU.f F k s0_0 bt448.2.1 bt448.2.2).bind fun bt453 => ((az.f k 10 0 (⟨#[]⟩ : ByteArray) 0 (⟨#[]⟩ : ByteArray) (([bt448.1, bt453.1] : List (List (S40))))).bind fun t461 => (some (t461, bt453.2.1, bt453.2.2)))))) else (if bt390.1.toList = ([98, 114, 101, 97, 107] : List UInt8) then (if 11 = 0 then (ay.j0 F k bt390.1 12 s0_0 bt390.2.1 bt390.2.2) else (ay.j0 F k bt390.1 11 s0_0 bt390.2.1 bt390.2.2)) else (if bt390.1.toList = ([99, 111, 110, 116, 105, 110, 117, 101] : List UInt8) then (if 0 = 0 then (ay.j0 F k bt390.1 12 s0_0 bt390.2.1 bt390.2.2) else (ay.j0 F k bt390.1 0 s0_0 bt390.2.1 bt390.2.2)) else (if bt390.1.toList = ([121, 105, 101, 108, 100] : List UInt8) then (ay.j0 F k bt390.1 0 s0_0 bt390.2.1 bt390.2.2) else (if bt390.1.toList = ([114, 101, 116, 117, 114, 110] : List UInt8) then (ay.j1 F k bt390.1 13 s0_0 bt390.2.1 bt390.2.2) else (if bt390.1.toList = ([112, 117, 116] : List UInt8) then (ay.j1 F k bt390.1 14 s0_0 bt390.2.1 bt390.2.2) else (if bt390.1.toList = ([101, 109, 105, 116] : List UInt8) then (ay.j1 F k bt390.1 15 s0_0 bt390.2.1 bt390.2.2) else (ay.j1 F k bt390.1 0 s0_0 bt390.2.1 bt390.2.2))))))))))
theorem ay.bW {F F' : Fam} (HLE : jQ F F') : ∀ k, (∀ y0 y1 y2 y3 y4, LeO (ay.j1 F k y0 y1 y2 y3 y4) (ay.j1 F' (k + 1) y0 y1 y2 y3 y4)) ∧ (∀ y0 y1 y2 y3 y4, LeO (ay.j0 F k y0 y1 y2 y3 y4) (ay.j0 F' (k + 1) y0 y1 y2 y3 y4))
 | 0 => ⟨fun _ _ _ _ _ r h => by simp [ay.j1] at h, fun _ _ _ _ _ r h => by simp [ay.j0] at h⟩
 | k + 1 => by
  obtain ⟨ih0, ih1⟩ := ay.bW HLE k
  refine ⟨?_, ?_⟩
  ·intro y0 y1 y2 y3 y4
   unfold ay.j1
   have m0 := az.mono
   have m1 := dQ.mono
   have m2 := (bD.mono HLE)
   have m3 := (aW.mono HLE)
   have m4 := (kU.mono HLE)
   have m5 := (iO.mono HLE)
   exact yL
  intro y0 y1 y2 y3 y4
  unfold ay.j0
  have m0 := az.mono
  have m1 := dQ.mono
  have m2 := (bD.mono HLE)
  have m3 := (aW.mono HLE)
  have m4 := (kU.mono HLE)
  have m5 := (iO.mono HLE)
  exact yL
theorem ay.mono {F F' : Fam} (HLE : jQ F F') : ∀ a0 a1 a2 k, LeO (ay.f F k a0 a1 a2) (ay.f F' (k + 1) a0 a1 a2) := by
 intro a0 a1 a2 k
 obtain ⟨ih0, ih1⟩ := ay.bW HLE k
 unfold ay.f
 have m0 := az.mono
 have m1 := dQ.mono
 have m2 := (bD.mono HLE)
 have m3 := (aW.mono HLE)
 have m4 := (kU.mono HLE)
 have m5 := (iO.mono HLE)
 exact yL
end Go.Proofs.Ytlenihbmafkegaa.Q
end
section
namespace Go.Proofs.Ytlenihbmafkegaa.Q
open Go.RowKit Go.Proofs.YtlenihbmafkegaaW.PrintWords Go.Proofs.YtlenihbmafkegaaW.PrintLast Go.Proofs.YtlenihbmafkegaaW.PrintMore
attribute [local go_sem] jE jD jC jB df cO dI dH bV bU cZ cu
set_option linter.unusedVariables false
set_option linter.unusedSimpArgs false
/-! ### aJ: function 78 -/
def aJ.l0 (F : Fam) : Nat → List (List (S40)) → List (S56) → Int → Bool → Option ((List (S40)) × Int × Bool)
 | 0, _, _, _, _ => none
 | k + 1, x3, x1000, x1001, x1002 => if x1002 = true then ((aC.f x1000 x1001 x1002 (⟨#[125]⟩ : ByteArray)).bind fun bt495 => ((az.f k 5 0 (⟨#[]⟩ : ByteArray) 0 (⟨#[]⟩ : ByteArray) x3).bind fun t497 => (some (t497, bt495.1, bt495.2)))) else ((bi.f x1000 x1001 x1002).bind fun bt500 => (if bt500.1.toList = ([125] : List UInt8) then ((aC.f x1000 bt500.2.1 bt500.2.2 (⟨#[125]⟩ : ByteArray)).bind fun bt503 => ((az.f k 5 0 (⟨#[]⟩ : ByteArray) 0 (⟨#[]⟩ : ByteArray) x3).bind fun t505 => (some (t505, bt503.1, bt503.2)))) else ((ay.f F k x1000 bt500.2.1 bt500.2.2).bind fun bt508 => (if x3.length < 5864062014805 then (aJ.l0 F k (x3 ++ [bt508.1]) x1000 bt508.2.1 bt508.2.2) else (none)))))
def aJ.f (F : Fam) (k : Nat) (s0_0 : List (S56)) (s0_1 : Int) (s0_2 : Bool) : Option ((List (S40)) × Int × Bool) := (aC.f s0_0 s0_1 s0_2 (⟨#[123]⟩ : ByteArray)).bind fun bt493 => (aJ.l0 F k ([] : List (List (S40))) s0_0 bt493.1 bt493.2)
theorem aJ.bW {F F' : Fam} (HLE : jQ F F') : ∀ k, (∀ y0 y1 y2 y3, LeO (aJ.l0 F k y0 y1 y2 y3) (aJ.l0 F' (k + 1) y0 y1 y2 y3))
 | 0 => fun _ _ _ _ r h => by simp [aJ.l0] at h
 | k + 1 => by
  have ih0 := aJ.bW HLE k
  intro y0 y1 y2 y3
  unfold aJ.l0
  have m0 := az.mono
  have m1 := (ay.mono HLE)
  exact yL
theorem aJ.mono {F F' : Fam} (HLE : jQ F F') : ∀ a0 a1 a2 k, LeO (aJ.f F k a0 a1 a2) (aJ.f F' (k + 1) a0 a1 a2) := by
 intro a0 a1 a2 k
 have ih0 := aJ.bW HLE k
 unfold aJ.f
 have m0 := az.mono
 have m1 := (ay.mono HLE)
 exact yL
/-! ### dn: function 77 -/
def dn.f (k : Nat) (s0_0 : List (S56)) (s0_1 : Int) (s0_2 : Bool) : Option ((List (S40)) × Int × Bool) := (bn.f s0_0 s0_1 s0_2 1).bind fun bt516 => ((az.f k 4 0 bt516.2.1 0 (⟨#[]⟩ : ByteArray) ([] : List (List (S40)))).bind fun t522 => (some (t522, bt516.2.2.2.2.1, bt516.2.2.2.2.2)))
theorem dn.mono : ∀ a0 a1 a2 k, LeO (dn.f k a0 a1 a2) (dn.f (k + 1) a0 a1 a2) := by
 intro a0 a1 a2 k
 unfold dn.f
 have m0 := az.mono
 exact yL
end Go.Proofs.Ytlenihbmafkegaa.Q
end
section
namespace Go.Proofs.Ytlenihbmafkegaa.Q
open Go.RowKit Go.Proofs.YtlenihbmafkegaaW.PrintWords Go.Proofs.YtlenihbmafkegaaW.PrintLast Go.Proofs.YtlenihbmafkegaaW.PrintMore
attribute [local go_sem] jE jD jC jB df cO dI dH bV bU cZ cu
set_option linter.unusedVariables false
set_option linter.unusedSimpArgs false
/-! ### dX: function 95 -/
mutual
def dX.l0 : Nat → List (List (S40)) → List (S56) → Int → Bool → Option ((List (List (S40))) × Int × Bool)
 | 0, _, _, _, _ => none
 | k + 1, x5, x1000, x1001, x1002 => if x1002 = true then (dX.j1 k x5 false x1000 x1001 x1002) else ((bi.f x1000 x1001 x1002).bind fun bt527 => (dX.j1 k x5 (bt527.1.toList != ([41] : List UInt8)) x1000 bt527.2.1 bt527.2.2))
def dX.j1 : Nat → List (List (S40)) → Bool → List (S56) → Int → Bool → Option ((List (List (S40))) × Int × Bool)
 | 0, _, _, _, _, _ => none
 | k + 1, x5, x17, x1000, x1001, x1002 => if x17 = true then (if (x5.length : Int) > 0 then ((aC.f x1000 x1001 x1002 (⟨#[44]⟩ : ByteArray)).bind fun bt532 => ((dn.f k x1000 bt532.1 bt532.2).bind fun bt534 => (if x5.length < 5864062014805 then (dX.l0 k (x5 ++ [bt534.1]) x1000 bt534.2.1 bt534.2.2) else (none)))) else ((dn.f k x1000 x1001 x1002).bind fun bt542 => (if x5.length < 5864062014805 then (dX.l0 k (x5 ++ [bt542.1]) x1000 bt542.2.1 bt542.2.2) else (none)))) else ((aC.f x1000 x1001 x1002 (⟨#[41]⟩ : ByteArray)).bind fun bt530 => (some (x5, bt530.1, bt530.2)))
end
def dX.f (k : Nat) (s0_0 : List (S56)) (s0_1 : Int) (s0_2 : Bool) : Option ((List (List (S40))) × Int × Bool) := (aC.f s0_0 s0_1 s0_2 (⟨#[40]⟩ : ByteArray)).bind fun bt525 => (dX.l0 k ([] : List (List (S40))) s0_0 bt525.1 bt525.2)
theorem dX.bW : ∀ k, (∀ y0 y1 y2 y3, LeO (dX.l0 k y0 y1 y2 y3) (dX.l0 (k + 1) y0 y1 y2 y3)) ∧ (∀ y0 y1 y2 y3 y4, LeO (dX.j1 k y0 y1 y2 y3 y4) (dX.j1 (k + 1) y0 y1 y2 y3 y4))
 | 0 => ⟨fun _ _ _ _ r h => by simp [dX.l0] at h, fun _ _ _ _ _ r h => by simp [dX.j1] at h⟩
 | k + 1 => by
  obtain ⟨ih0, ih1⟩ := dX.bW k
  refine ⟨?_, ?_⟩
  ·intro y0 y1 y2 y3
   unfold dX.l0
   have m0 := dn.mono
   exact yL
  intro y0 y1 y2 y3 y4
  unfold dX.j1
  have m0 := dn.mono
  exact yL
theorem dX.mono : ∀ a0 a1 a2 k, LeO (dX.f k a0 a1 a2) (dX.f (k + 1) a0 a1 a2) := by
 intro a0 a1 a2 k
 obtain ⟨ih0, ih1⟩ := dX.bW k
 unfold dX.f
 have m0 := dn.mono
 exact yL
end Go.Proofs.Ytlenihbmafkegaa.Q
end
section
namespace Go.Proofs.Ytlenihbmafkegaa.Q
open Go.RowKit Go.Proofs.YtlenihbmafkegaaW.PrintWords Go.Proofs.YtlenihbmafkegaaW.PrintLast Go.Proofs.YtlenihbmafkegaaW.PrintMore
attribute [local go_sem] jE jD jC jB df cO dI dH bV bU cZ cu
set_option linter.unusedVariables false
set_option linter.unusedSimpArgs false
/-! ### aZ: function 60 -/
def aZ.f (F : Fam) (k : Nat) (s0_0 : List (S56)) (s0_1 : Int) (s0_2 : Bool) (a1_0 : Int) (a1_1 : Int) (a1_2 : ByteArray) (a1_3 : Int) (a1_4 : ByteArray) : Option ((List (S40)) × Int × Bool) := (dX.f k s0_0 s0_1 s0_2).bind fun bt551 => ((aJ.f F k s0_0 bt551.2.1 bt551.2.2).bind fun bt556 => (if bt551.1.length < 5864062014805 then ((az.f k a1_0 a1_1 a1_2 a1_3 a1_4 (bt551.1 ++ [bt556.1])).bind fun t564 => (some (t564, bt556.2.1, bt556.2.2))) else (none)))
theorem aZ.mono {F F' : Fam} (HLE : jQ F F') : ∀ a0 a1 a2 a3 a4 a5 a6 a7 k, LeO (aZ.f F k a0 a1 a2 a3 a4 a5 a6 a7) (aZ.f F' (k + 1) a0 a1 a2 a3 a4 a5 a6 a7) := by
 intro a0 a1 a2 a3 a4 a5 a6 a7 k
 unfold aZ.f
 have m0 := az.mono
 have m1 := (aJ.mono HLE)
 have m2 := dX.mono
 exact yL
def aZ.T2 : Bool × List (List Nat × List Nat) := (true, [([], []), ([], []), ([], []), ([2], [2]), ([3], [3]), ([1, 4, 3], [1, 4]), ([0, 5, 5], [0, 5]), ([6, 6, 0, 1, 2, 3, 4, 5, 6], [6])])
def aZ.B2 : List Nat := [0, 0, 0, 4, 12, 30, 63, 127]
theorem aZ.FC : nz .any (opsOf Try.f60 2) = aZ.T2 := by kernel_rfl
theorem aZ.AZ : oI aZ.T2.2 aZ.B2 = true := by kernel_rfl
end Go.Proofs.Ytlenihbmafkegaa.Q
end
section
namespace Go.Proofs.Ytlenihbmafkegaa.Q
open Go.RowKit Go.Proofs.YtlenihbmafkegaaW.PrintWords Go.Proofs.YtlenihbmafkegaaW.PrintLast Go.Proofs.YtlenihbmafkegaaW.PrintMore
attribute [local go_sem] jE jD jC jB df cO dI dH bV bU cZ cu
set_option linter.unusedVariables false
set_option linter.unusedSimpArgs false
/-! ### aA: function 38 -/
mutual
def aA.l0 (F : Fam) : Nat → List (List (S40)) → List (S56) → Int → Bool → Int → Int → ByteArray → Int → ByteArray → Option ((List (S40)) × Int × Bool)
 | 0, _, _, _, _, _, _, _, _, _ => none
 | k + 1, x4, x1000, x1001, x1002, x576000, x576001, x576002, x576003, x576004 => (aG.f x1000 x1001 x1002 (⟨#[117, 115, 101]⟩ : ByteArray)).bind fun bt584 => (if bt584.1 = true then ((ed.f k x1000 bt584.2.1 bt584.2.2).bind fun bt587 => (if x4.length < 5864062014805 then (aA.l0 F k (x4 ++ [bt587.1]) x1000 bt587.2.1 bt587.2.2 x576000 x576001 x576002 x576003 x576004) else (none))) else (aA.l1 F k x4 x1000 bt584.2.1 bt584.2.2 x576000 x576001 x576002 x576003 x576004))
def aA.l1 (F : Fam) : Nat → List (List (S40)) → List (S56) → Int → Bool → Int → Int → ByteArray → Int → ByteArray → Option ((List (S40)) × Int × Bool)
 | 0, _, _, _, _, _, _, _, _, _ => none
 | k + 1, x4, x1000, x1001, x1002, x576000, x576001, x576002, x576003, x576004 => (aG.f x1000 x1001 x1002 (⟨#[102, 110]⟩ : ByteArray)).bind fun bt595 => (if bt595.1 = true then ((bn.f x1000 bt595.2.1 bt595.2.2 1).bind fun bt598 => ((aZ.f F k x1000 bt598.2.2.2.2.1 bt598.2.2.2.2.2 3 0 bt598.2.1 0 (⟨#[]⟩ : ByteArray)).bind fun bt604 => (if x4.length < 5864062014805 then (aA.l1 F k (x4 ++ [bt604.1]) x1000 bt604.2.1 bt604.2.2 x576000 x576001 x576002 x576003 x576004) else (none)))) else ((az.f k x576000 x576001 x576002 x576003 x576004 x4).bind fun t612 => (some (t612, bt595.2.1, bt595.2.2))))
end
def aA.f (F : Fam) (k : Nat) (s0_0 : List (S56)) (s0_1 : Int) (s0_2 : Bool) : Option ((List (S40)) × Int × Bool) := (aC.f s0_0 s0_1 s0_2 (⟨#[109, 111, 100, 117, 108, 101]⟩ : ByteArray)).bind fun bt567 => ((bn.f s0_0 bt567.1 bt567.2 1).bind fun bt569 => ((bn.f s0_0 bt569.2.2.2.2.1 bt569.2.2.2.2.2 2).bind fun bt576 => ((aC.f s0_0 bt576.2.2.2.2.1 bt576.2.2.2.2.2 (⟨#[59]⟩ : ByteArray)).bind fun bt582 => (aA.l0 F k ([] : List (List (S40))) s0_0 bt582.1 bt582.2 1 0 bt569.2.1 bt576.2.2.1 (⟨#[]⟩ : ByteArray)))))
theorem aA.bW {F F' : Fam} (HLE : jQ F F') : ∀ k, (∀ y0 y1 y2 y3 y4 y5 y6 y7 y8, LeO (aA.l0 F k y0 y1 y2 y3 y4 y5 y6 y7 y8) (aA.l0 F' (k + 1) y0 y1 y2 y3 y4 y5 y6 y7 y8)) ∧ (∀ y0 y1 y2 y3 y4 y5 y6 y7 y8, LeO (aA.l1 F k y0 y1 y2 y3 y4 y5 y6 y7 y8) (aA.l1 F' (k + 1) y0 y1 y2 y3 y4 y5 y6 y7 y8))
 | 0 => ⟨fun _ _ _ _ _ _ _ _ _ r h => by simp [aA.l0] at h, fun _ _ _ _ _ _ _ _ _ r h => by simp [aA.l1] at h⟩
 | k + 1 => by
  obtain ⟨ih0, ih1⟩ := aA.bW HLE k
  refine ⟨?_, ?_⟩
  ·intro y0 y1 y2 y3 y4 y5 y6 y7 y8
   unfold aA.l0
   have m0 := az.mono
   have m1 := (aZ.mono HLE)
   have m2 := ed.mono
   exact yL
  intro y0 y1 y2 y3 y4 y5 y6 y7 y8
  unfold aA.l1
  have m0 := az.mono
  have m1 := (aZ.mono HLE)
  have m2 := ed.mono
  exact yL
theorem aA.mono {F F' : Fam} (HLE : jQ F F') : ∀ a0 a1 a2 k, LeO (aA.f F k a0 a1 a2) (aA.f F' (k + 1) a0 a1 a2) := by
 intro a0 a1 a2 k
 obtain ⟨ih0, ih1⟩ := aA.bW HLE k
 unfold aA.f
 have m0 := az.mono
 have m1 := (aZ.mono HLE)
 have m2 := ed.mono
 exact yL
end Go.Proofs.Ytlenihbmafkegaa.Q
end
