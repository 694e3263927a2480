/- Walks over functions of the program, words for them, and what the functions come to; of each text only what this claim uses; no condition. -/
import Derived.Test.YtendgafpkeadhaaZRO0
import Derived.Test.YtendgafpkeadhaaZRO1
import Derived.Test.YtendgafpkeadhaaZRO3
import Derived.Test.YtendgafpkeadhaaZRO4
import Derived.Test.YtendgafpkeadhaaZRO5
section
namespace Go.Proofs.Ytendgafpkeadhaa.Q
open Go.RowKit Go.Proofs.YtendgafpkeadhaaW.PrintWords Go.Proofs.YtendgafpkeadhaaW.PrintLast Go.Proofs.YtendgafpkeadhaaW.PrintMore
attribute [local go_sem] iY iW iV iU max2_int min2_int max_two min_two max_three min_three max_four min_four
set_option linter.unusedVariables false
set_option linter.unusedSimpArgs false
/-! ### dJ: function 54 -/
def dJ.f (k : Nat) (s0_0 : List (S38)) (s0_1 : Int) (s0_2 : Bool) : Option ((List (S41)) × Int × Bool) := (bu.f s0_0 s0_1 s0_2 1).bind fun bt244 => ((aG.f s0_0 bt244.2.2.2.2.1 bt244.2.2.2.2.2 (⟨#[46]⟩ : ByteArray)).bind fun bt251 => ((bu.f s0_0 bt251.1 bt251.2 1).bind fun bt253 => ((aG.f s0_0 bt253.2.2.2.2.1 bt253.2.2.2.2.2 (⟨#[47]⟩ : ByteArray)).bind fun bt259 => ((bu.f s0_0 bt259.1 bt259.2 2).bind fun bt261 => ((aG.f s0_0 bt261.2.2.2.2.1 bt261.2.2.2.2.2 (⟨#[59]⟩ : ByteArray)).bind fun bt267 => ((au.f k 2 0 bt244.2.1 bt261.2.2.1 bt253.2.1 ([] : List (List (S41)))).bind fun t269 => (some (t269, bt267.1, bt267.2))))))))
theorem dJ.mono : ∀ a0 a1 a2 k, LeO (dJ.f k a0 a1 a2) (dJ.f (k + 1) a0 a1 a2) := by
 intro a0 a1 a2 k
 unfold dJ.f
 have m0 := au.mono
 exact yL
set_option maxHeartbeats 8000000 in
set_option maxRecDepth 100000 in
theorem dJ.calls (k : Nat) (g : Nat) (s0_0 : List (S38)) (s0_1 : Int) (s0_2 : Bool) (r1 : List (S41)) (r2 : Int) (r3 : Bool) (w0 w : World) (hI : ai w0 w g s0_0 s0_1 s0_2) (hB : Below w0.heap.size w0 w) (h : dJ.f k s0_0 s0_1 s0_2 = some (r1, r2, r3)) :
 Calls Try.prog 54 #[.pointer (some ⟨g, 0, none⟩)] w fun e w' => ∃ v0_ : Value, e = .returned (v0_) ∧ Kd.R k41 41 w' w.heap.size (fun _ => True) v0_ r1 ∧ ai w0 w' g s0_0 r2 r3 ∧ Below w0.heap.size w0 w' ∧ ag w w' g none := by
 have hu41 := Try.underlying41
 have HI0 := Aside0.mk hI
 have HK := Aside0.mk (ag.refl w g none)
 have HL := Aside0.mk hB.size
 clear hI
 have HW0 := Aside0.mk hB.size
 have HB := Aside0.mk hB
 clear hB
 have H := h
 clear h
 unfold dJ.f at H
 revert H
 refine yB6 fun t244 t245 t246 t247 t248 t249 A2 H => ?_
 try dsimp only at H
 revert H
 refine yB2 fun t251 t252 A3 H => ?_
 try dsimp only at H
 revert H
 refine yB6 fun t253 t254 t255 t256 t257 t258 A4 H => ?_
 try dsimp only at H
 revert H
 refine yB2 fun t259 t260 A5 H => ?_
 try dsimp only at H
 revert H
 refine yB6 fun t261 t262 t263 t264 t265 t266 A6 H => ?_
 try dsimp only at H
 revert H
 refine yB2 fun t267 t268 A7 H => ?_
 try dsimp only at H
 revert H
 refine yB1 fun t269 A8 H => ?_
 simp only [Option.some.injEq, Prod.mk.injEq] at H
 obtain ⟨rfl, rfl, rfl⟩ := H
 go_enter Try.func54, Try.ntmps54
 go_wp2_with (first | ((with_reducible refine gC 52 rfl ?_); refine gM 52 5 rfl Try.func52 (bu.calls g s0_0 s0_1 s0_2 1 t244 t245 t246 t247 t248 t249 w0 _ Z0 Z2 A2.out) ?_; rintro _ w9 ⟨rfl, hi, hb, hk⟩; refine ⟨_, rfl, yA3 (ag.trans Z1 hk (.inl rfl)) (hb) (hi) ?_⟩; clear HK HB HI0 hb; intro HK HB HI0) | ((with_reducible refine bJ (N := 3) rfl ?_); refine bU ?hg (N := 3) ?hd (cs := #[.int .i64 0, .int .i64 0, .string (⟨#[]⟩ : ByteArray), .int .i64 0, .string (⟨#[]⟩ : ByteArray)]) (t := 41) ?hr ?_; (case hd => rfl); (case hg => rfl); (case hr => first | (go_simp; done) | (go_simp; rfl)); intro gb250 hg w10 hbox hb; refine yA8 (ai.below Z0 hb) (ag.trans Z1 (ag.of_below hb g none) (.inl rfl)) (below_step Z2 hb) (hbox) ((by rw [hg]; exact (by exact aC (w := w) (g := g) (row := none) Z1) : w.heap.size ≤ gb250)) ((Nat.le_trans HW0.out (by rw [hg]; exact (by exact aC (w := w) (g := g) (row := none) Z1) : w.heap.size ≤ gb250) : w0.heap.size ≤ gb250)) ((by rw [hg]; exact Nat.ne_of_lt (ai.lt (show ai w0 _ g s0_0 t248 t249 from Z0)) : g ≠ gb250)) ((by rw [hg]; exact Nat.ne_of_gt (ai.lt (show ai w0 _ g s0_0 t248 t249 from Z0)) : gb250 ≠ g)) ?_; clear HI0 HK HB; intro HI0 HK HB BK250 GW250 GE250 NB0_250 NB250_0; clear hb hbox hg; have hnb11 := NB250_0.out; have hnc11 := NB0_250.out; have hcz12_0 : w10.cell? ⟨gb250, 0, none⟩ = some (.int .i64 0) := (af BK250.out 0).trans rfl; have hcz12_1 : w10.cell? ⟨gb250, 1, none⟩ = some (.int .i64 0) := (af BK250.out 1).trans rfl; have hcz12_2 : w10.cell? ⟨gb250, 2, none⟩ = some (.string (⟨#[]⟩ : ByteArray)) := (af BK250.out 2).trans rfl; have hcz12_3 : w10.cell? ⟨gb250, 3, none⟩ = some (.int .i64 0) := (af BK250.out 3).trans rfl; have hcz12_4 : w10.cell? ⟨gb250, 4, none⟩ = some (.string (⟨#[]⟩ : ByteArray)) := (af BK250.out 4).trans rfl; have hfz12_0 := ae BK250.out 0; have hfz12_1 := ae BK250.out 1; have hfz12_2 := ae BK250.out 2; have hfz12_3 := ae BK250.out 3; have hfz12_4 := ae BK250.out 4) | ((with_reducible refine gC 51 rfl ?_); refine gM 51 9 rfl Try.func51 (aG.calls g s0_0 t248 t249 (⟨#[46]⟩ : ByteArray) t251 t252 w0 _ Z31 Z34 A3.out) ?_; rintro _ w13 ⟨rfl, hi, hb, hk⟩; refine ⟨_, rfl, yA4 (ag.blk hk (g' := gb250) (o := .cells #[.int .i64 2, .int .i64 0, .string t245, .int .i64 0, .string (⟨#[]⟩ : ByteArray)] 41 (0, 0)) (by refine aA (cs := #[.int .i64 2, .int .i64 0, .string t245, .int .i64 0, .string (⟨#[]⟩ : ByteArray)]) ?_ 4 _ rfl; refine aA (cs := #[.int .i64 2, .int .i64 0, .string t245, .int .i64 0, .string (⟨#[]⟩ : ByteArray)]) ?_ 3 _ rfl; refine aA (cs := #[.int .i64 2, .int .i64 0, .string (⟨#[]⟩ : ByteArray), .int .i64 0, .string (⟨#[]⟩ : ByteArray)]) ?_ 2 _ rfl; refine aA (cs := #[.int .i64 2, .int .i64 0, .string (⟨#[]⟩ : ByteArray), .int .i64 0, .string (⟨#[]⟩ : ByteArray)]) ?_ 1 _ rfl; refine aA (cs := #[.int .i64 0, .int .i64 0, .string (⟨#[]⟩ : ByteArray), .int .i64 0, .string (⟨#[]⟩ : ByteArray)]) ?_ 0 _ rfl; exact BK250.out) NB250_0.out (by simp)) (ag.trans Z35 hk (.inl rfl)) (hb) (hi) ?_⟩; clear BK250 HK HB HI0 hb; intro BK250 HK HB HI0) | ((with_reducible refine gC 52 rfl ?_); refine gM 52 11 rfl Try.func52 (bu.calls g s0_0 t251 t252 1 t253 t254 t255 t256 t257 t258 w0 _ Z31 Z34 A4.out) ?_; rintro _ w14 ⟨rfl, hi, hb, hk⟩; refine ⟨_, rfl, yA4 (ag.blk hk (g' := gb250) (o := .cells #[.int .i64 2, .int .i64 0, .string t245, .int .i64 0, .string (⟨#[]⟩ : ByteArray)] 41 (0, 0)) (by exact BK250.out) NB250_0.out (by simp)) (ag.trans Z35 hk (.inl rfl)) (hb) (hi) ?_⟩; clear BK250 HK HB HI0 hb; intro BK250 HK HB HI0; have hcz15_0 : w14.cell? ⟨gb250, 0, none⟩ = some (.int .i64 2) := (af BK250.out 0).trans rfl; have hcz15_1 : w14.cell? ⟨gb250, 1, none⟩ = some (.int .i64 0) := (af BK250.out 1).trans rfl; have hcz15_2 : w14.cell? ⟨gb250, 2, none⟩ = some (.string t245) := (af BK250.out 2).trans rfl; have hcz15_3 : w14.cell? ⟨gb250, 3, none⟩ = some (.int .i64 0) := (af BK250.out 3).trans rfl; have hcz15_4 : w14.cell? ⟨gb250, 4, none⟩ = some (.string (⟨#[]⟩ : ByteArray)) := (af BK250.out 4).trans rfl; have hfz15_0 := ae BK250.out 0; have hfz15_1 := ae BK250.out 1; have hfz15_2 := ae BK250.out 2; have hfz15_3 := ae BK250.out 3; have hfz15_4 := ae BK250.out 4) | ((with_reducible refine gC 51 rfl ?_); refine gM 51 15 rfl Try.func51 (aG.calls g s0_0 t257 t258 (⟨#[47]⟩ : ByteArray) t259 t260 w0 _ Z31 Z34 A5.out) ?_; rintro _ w16 ⟨rfl, hi, hb, hk⟩; refine ⟨_, rfl, yA4 (ag.blk hk (g' := gb250) (o := .cells #[.int .i64 2, .int .i64 0, .string t245, .int .i64 0, .string t254] 41 (0, 0)) (by refine aA (cs := #[.int .i64 2, .int .i64 0, .string t245, .int .i64 0, .string (⟨#[]⟩ : ByteArray)]) ?_ 4 _ rfl; exact BK250.out) NB250_0.out (by simp)) (ag.trans Z35 hk (.inl rfl)) (hb) (hi) ?_⟩; clear BK250 HK HB HI0 hb; intro BK250 HK HB HI0) | ((with_reducible refine gC 52 rfl ?_); refine gM 52 17 rfl Try.func52 (bu.calls g s0_0 t259 t260 2 t261 t262 t263 t264 t265 t266 w0 _ Z31 Z34 A6.out) ?_; rintro _ w17 ⟨rfl, hi, hb, hk⟩; refine ⟨_, rfl, yA4 (ag.blk hk (g' := gb250) (o := .cells #[.int .i64 2, .int .i64 0, .string t245, .int .i64 0, .string t254] 41 (0, 0)) (by exact BK250.out) NB250_0.out (by simp)) (ag.trans Z35 hk (.inl rfl)) (hb) (hi) ?_⟩; clear BK250 HK HB HI0 hb; intro BK250 HK HB HI0; have hcz18_0 : w17.cell? ⟨gb250, 0, none⟩ = some (.int .i64 2) := (af BK250.out 0).trans rfl; have hcz18_1 : w17.cell? ⟨gb250, 1, none⟩ = some (.int .i64 0) := (af BK250.out 1).trans rfl; have hcz18_2 : w17.cell? ⟨gb250, 2, none⟩ = some (.string t245) := (af BK250.out 2).trans rfl; have hcz18_3 : w17.cell? ⟨gb250, 3, none⟩ = some (.int .i64 0) := (af BK250.out 3).trans rfl; have hcz18_4 : w17.cell? ⟨gb250, 4, none⟩ = some (.string t254) := (af BK250.out 4).trans rfl; have hfz18_0 := ae BK250.out 0; have hfz18_1 := ae BK250.out 1; have hfz18_2 := ae BK250.out 2; have hfz18_3 := ae BK250.out 3; have hfz18_4 := ae BK250.out 4) | ((with_reducible refine gC 51 rfl ?_); refine gM 51 21 rfl Try.func51 (aG.calls g s0_0 t265 t266 (⟨#[59]⟩ : ByteArray) t267 t268 w0 _ Z31 Z34 A7.out) ?_; rintro _ w19 ⟨rfl, hi, hb, hk⟩; refine ⟨_, rfl, yA4 (ag.blk hk (g' := gb250) (o := .cells #[.int .i64 2, .int .i64 0, .string t245, .int .i64 t263, .string t254] 41 (0, 0)) (by refine aA (cs := #[.int .i64 2, .int .i64 0, .string t245, .int .i64 0, .string t254]) ?_ 3 _ rfl; exact BK250.out) NB250_0.out (by simp)) (ag.trans Z35 hk (.inl rfl)) (hb) (hi) ?_⟩; clear BK250 HK HB HI0 hb; intro BK250 HK HB HI0; have hcz20_0 : w19.cell? ⟨gb250, 0, none⟩ = some (.int .i64 2) := (af BK250.out 0).trans rfl; have hcz20_1 : w19.cell? ⟨gb250, 1, none⟩ = some (.int .i64 0) := (af BK250.out 1).trans rfl; have hcz20_2 : w19.cell? ⟨gb250, 2, none⟩ = some (.string t245) := (af BK250.out 2).trans rfl; have hcz20_3 : w19.cell? ⟨gb250, 3, none⟩ = some (.int .i64 t263) := (af BK250.out 3).trans rfl; have hcz20_4 : w19.cell? ⟨gb250, 4, none⟩ = some (.string t254) := (af BK250.out 4).trans rfl; have hfz20_0 := ae BK250.out 0; have hfz20_1 := ae BK250.out 1; have hfz20_2 := ae BK250.out 2; have hfz20_3 := ae BK250.out 3; have hfz20_4 := ae BK250.out 4) | ((with_reducible refine gC 56 rfl ?_); refine gM 56 23 rfl Try.func56 (au.calls k 2 0 t245 t263 t254 _ _ ([] : List (List (S41))) t269 _ (Kd.pI _ _) (Nat.le_refl _) A8.out) ?_; rintro _ w21 ⟨v270, rfl, ho0, hb⟩; refine ⟨_, rfl, yA5 (Kd.R_lower (Kd.nz ho0 (g := gb250) (o := .cells #[.int .i64 2, .int .i64 0, .string t245, .int .i64 t263, .string t254] 41 (0, 0)) (by exact BK250.out)) (by exact aC (w := w) (g := g) (row := none) Z35)) (ai.below Z31 hb) (bV (g := gb250) (o := .cells #[.int .i64 2, .int .i64 0, .string t245, .int .i64 t263, .string t254] 41 (0, 0)) (by exact BK250.out) hb) (ag.trans Z35 (ag.of_below hb g none) (.inl rfl)) (below_step Z34 hb) ?_⟩; clear HI0 BK250 HK HB hb ho0; intro HO271 HI0 BK250 HK HB))
 go_ret
 exact ⟨_, Z4, by (with_reducible repeat (first | apply Kd.R_alloc | apply Kd.R_drewN | apply Kd.R_drew)); exact Kd.bn HO271.out (fun _ hk => trivial), Z31, Z34, Z35⟩
-- BY HAND: function 86 (runtime_boundsError_Error)
/-! ### bC: function 76 -/
def bC.f (F : Fam) (k : Nat) (s0_0 : List (S38)) (s0_1 : Int) (s0_2 : Bool) (a1_0 : Int) (a1_1 : Int) (a1_2 : ByteArray) (a1_3 : Int) (a1_4 : ByteArray) : Option ((List (S41)) × Int × Bool) := (fE.f F k s0_0 s0_1 s0_2).bind fun bt273 => ((aG.f s0_0 bt273.2.1 bt273.2.2 (⟨#[59]⟩ : ByteArray)).bind fun bt278 => ((au.f k a1_0 a1_1 a1_2 a1_3 a1_4 (([bt273.1] : List (List (S41))))).bind fun t283 => (some (t283, bt278.1, bt278.2))))
theorem bC.mono {F F' : Fam} (HLE : ji F F') : ∀ a0 a1 a2 a3 a4 a5 a6 a7 k, LeO (bC.f F k a0 a1 a2 a3 a4 a5 a6 a7) (bC.f F' (k + 1) a0 a1 a2 a3 a4 a5 a6 a7) := by
 intro a0 a1 a2 a3 a4 a5 a6 a7 k
 unfold bC.f
 have m0 := au.mono
 have m1 := (fE.mono HLE)
 exact yL
set_option maxHeartbeats 8000000 in
set_option maxRecDepth 100000 in
theorem bC.calls (F : Fam) (HF : kL F) (k : Nat) (g : Nat) (s0_0 : List (S38)) (s0_1 : Int) (s0_2 : Bool) (a1_0 : Int) (a1_1 : Int) (a1_2 : ByteArray) (a1_3 : Int) (a1_4 : ByteArray) (r1 : List (S41)) (r2 : Int) (r3 : Bool) (w0 w : World) (hI : ai w0 w g s0_0 s0_1 s0_2) (hB : Below w0.heap.size w0 w) (h : bC.f F k s0_0 s0_1 s0_2 a1_0 a1_1 a1_2 a1_3 a1_4 = some (r1, r2, r3)) :
 Calls Try.prog 76 #[.pointer (some ⟨g, 0, none⟩), .agg #[.int .i64 a1_0, .int .i64 a1_1, .string a1_2, .int .i64 a1_3, .string a1_4]] w fun e w' => ∃ v0_ : Value, e = .returned (v0_) ∧ Kd.R k41 41 w' w.heap.size (fun _ => True) v0_ r1 ∧ ai w0 w' g s0_0 r2 r3 ∧ Below w0.heap.size w0 w' ∧ ag w w' g none := by
 have hu41 := Try.underlying41
 have HI0 := Aside0.mk hI
 have HK := Aside0.mk (ag.refl w g none)
 have HL := Aside0.mk hB.size
 clear hI
 have HW0 := Aside0.mk hB.size
 have HB := Aside0.mk hB
 clear hB
 have H := h
 clear h
 unfold bC.f at H
 revert H
 refine yB3 fun t273 t276 t277 A3 H => ?_
 try dsimp only at H
 revert H
 refine yB2 fun t278 t279 A4 H => ?_
 try dsimp only at H
 obtain ⟨y280, hy280⟩ : ∃ y_ : List (List (S41)), y_ = (([t273] : List (List (S41)))) := ⟨_, rfl⟩
 replace H : ((au.f k a1_0 a1_1 a1_2 a1_3 a1_4 y280).bind fun t283 => (some (t283, t278, t279))) = some (r1, r2, r3) := by first | (rw [hy280]; with_reducible exact H) | (have H2_ := (Option.bind_some _ _).symm.trans H; rw [hy280]; with_reducible exact H2_) | (have H2_ := (Option.bind_some _ _).symm.trans H; with_reducible exact H2_) | with_reducible exact H | (rw [hy280]; exact H) | exact H
 have Ny280 := Aside0.mk hy280
 clear hy280
 revert H
 refine yB1 fun t283 A5 H => ?_
 simp only [Option.some.injEq, Prod.mk.injEq] at H
 obtain ⟨rfl, rfl, rfl⟩ := H
 go_enter Try.func76, Try.ntmps76
 go_wp2_with (first | ((with_reducible refine bJ (N := 3) rfl ?_); refine bU ?hg (N := 3) ?hd (cs := #[.int .i64 a1_0, .int .i64 a1_1, .string a1_2, .int .i64 a1_3, .string a1_4]) (t := 41) ?hr ?_; (case hd => rfl); (case hg => rfl); (case hr => first | (go_simp; done) | (go_simp; rfl)); intro gb272 hg w6 hbox hb; refine yA8 (ai.below Z0 hb) (ag.trans Z1 (ag.of_below hb g none) (.inl rfl)) (below_step Z2 hb) (hbox) ((by rw [hg]; exact (by exact aC (w := w) (g := g) (row := none) Z1) : w.heap.size ≤ gb272)) ((Nat.le_trans HW0.out (by rw [hg]; exact (by exact aC (w := w) (g := g) (row := none) Z1) : w.heap.size ≤ gb272) : w0.heap.size ≤ gb272)) ((by rw [hg]; exact Nat.ne_of_lt (ai.lt (show ai w0 _ g s0_0 s0_1 s0_2 from Z0)) : g ≠ gb272)) ((by rw [hg]; exact Nat.ne_of_gt (ai.lt (show ai w0 _ g s0_0 s0_1 s0_2 from Z0)) : gb272 ≠ g)) ?_; clear HI0 HK HB; intro HI0 HK HB BK272 GW272 GE272 NB0_272 NB272_0; clear hb hbox hg) | ((with_reducible refine gC 77 rfl ?_); refine gM 77 7 rfl Try.func77 (fE.calls F HF k g s0_0 s0_1 s0_2 t273 t276 t277 w0 _ Z32 Z44 A3.out) ?_; rintro _ w7 ⟨v274, rfl, ho0, hi, hb, hk⟩; refine ⟨_, rfl, yA5 (ag.blk hk (g' := gb272) (o := .cells #[.int .i64 a1_0, .int .i64 a1_1, .string a1_2, .int .i64 a1_3, .string a1_4] 41 (0, 0)) (by exact BK272.out) NB272_0.out (by simp)) (Kd.R_lower (Kd.nz ho0 (g := gb272) (o := .cells #[.int .i64 a1_0, .int .i64 a1_1, .string a1_2, .int .i64 a1_3, .string a1_4] 41 (0, 0)) (by exact BK272.out)) (by exact aC (w := w) (g := g) (row := none) Z36)) (ag.trans Z36 hk (.inl rfl)) (hb) (hi) ?_⟩; clear BK272 HK HB HI0 hb ho0; intro BK272 HO275 HK HB HI0) | ((with_reducible refine gC 51 rfl ?_); refine gM 51 9 rfl Try.func51 (aG.calls g s0_0 t276 t277 (⟨#[59]⟩ : ByteArray) t278 t279 w0 _ Z32 Z44 A4.out) ?_; rintro _ w8 ⟨rfl, hi, hb, hk⟩; refine ⟨_, rfl, yA5 (ag.blk hk (g' := gb272) (o := .cells #[.int .i64 a1_0, .int .i64 a1_1, .string a1_2, .int .i64 a1_3, .string a1_4] 41 (0, 0)) (by exact BK272.out) NB272_0.out (by simp)) (Kd.bn (Kd.iF (ai.apart (show ai w0 _ g s0_0 t276 t277 from Z32) (by (with_reducible repeat (first | apply Kd.R_alloc | apply Kd.R_drewN | apply Kd.R_drew)); exact HO275.out) (by decide)) hk (fun _ h => h.2)) (fun _ h => h.1)) (ag.trans Z36 hk (.inl rfl)) (hb) (hi) ?_⟩; clear BK272 HO275 HK HB HI0 hb; intro BK272 HO275 HK HB HI0; have hnb9 := NB272_0.out; have hnc9 := NB0_272.out; have hcz10_0 : w8.cell? ⟨gb272, 0, none⟩ = some (.int .i64 a1_0) := (af BK272.out 0).trans rfl; have hcz10_1 : w8.cell? ⟨gb272, 1, none⟩ = some (.int .i64 a1_1) := (af BK272.out 1).trans rfl; have hcz10_2 : w8.cell? ⟨gb272, 2, none⟩ = some (.string a1_2) := (af BK272.out 2).trans rfl; have hcz10_3 : w8.cell? ⟨gb272, 3, none⟩ = some (.int .i64 a1_3) := (af BK272.out 3).trans rfl; have hcz10_4 : w8.cell? ⟨gb272, 4, none⟩ = some (.string a1_4) := (af BK272.out 4).trans rfl; have hfz10_0 := ae BK272.out 0; have hfz10_1 := ae BK272.out 1; have hfz10_2 := ae BK272.out 2; have hfz10_3 := ae BK272.out 3; have hfz10_4 := ae BK272.out 4; obtain ⟨Ao11, co11, rfl⟩ := Kd.R_slice HO275.out) | ((with_reducible refine bJ (N := 12) rfl ?_); refine Kd.oh (Kd.slice 41 k41) _ 23 ?hg (N' := 12) ?hd (xs := ([t273] : List (List (S41)))) (inner := [.slice Ao11 t273.length co11]) (ok := (fun k_ => k_ ≠ gb272 ∧ k_ ≠ g)) (okp := (fun k_ => k_ ≠ gb272 ∧ k_ ≠ g)) ?hr ?hp (fun _ hk => hk) ((show ∀ k_, w8.heap.size ≤ k_ → (fun k_ => k_ ≠ gb272 ∧ k_ ≠ g) k_ from fun k_ hk => ⟨Kd.nM (g := gb272) (o := .cells #[.int .i64 a1_0, .int .i64 a1_1, .string a1_2, .int .i64 a1_3, .string a1_4] 41 (0, 0)) (by exact BK272.out) k_ hk, ai.fresh Z32 k_ hk⟩) _ (Nat.le_refl _)) (Below.refl _ _) (Nat.le_refl _) (by simp) ?_; (case hd => rfl); (case hg => rfl); (case hr => first | (go_simp; done) | (go_simp; rfl)); (case hp => exact (bT.one (show Kd.FK (Kd.slice 41 k41) _ _ t273 [.slice Ao11 t273.length co11] from (Kd.dP (Kd.R_reads' (Kd.bn (ok' := (fun k_ => k_ ≠ gb272 ∧ k_ ≠ g)) (ai.apart HI0.out (HO275.out) (by decide)) (fun k_ hk => ⟨hk.1.2, hk.2⟩))).2.1 (Kd.R_F (Kd.bn (ok' := (fun k_ => k_ ≠ gb272 ∧ k_ ≠ g)) (ai.apart HI0.out (HO275.out) (by decide)) (fun k_ hk => ⟨hk.1.2, hk.2⟩))))) (bT.none _ _))); intro v281 w12 ho13 hb hg_ hnew_; clear hg_ hnew_; (first | rw [← Ny280.out] at ho13 | (simp only [Int.reduceToNat] at ho13; rw [← Ny280.out] at ho13)); refine yA5 (Kd.jq ho13 (by exact aC (w := w) (g := g) (row := none) Z36)) (ai.below Z32 hb) (bV (g := gb272) (o := .cells #[.int .i64 a1_0, .int .i64 a1_1, .string a1_2, .int .i64 a1_3, .string a1_4] 41 (0, 0)) (by exact BK272.out) hb) (ag.trans Z36 (ag.of_below hb g none) (.inl rfl)) (below_step Z44 hb) ?_; clear HI0 BK272 HK HB HO275; intro HO282 HI0 BK272 HK HB; clear hb ho13; obtain ⟨Ao14, co14, rfl⟩ := Kd.jo HO282.out) | ((with_reducible refine gC 56 rfl ?_); refine gM 56 13 rfl Try.func56 (au.calls k a1_0 a1_1 a1_2 a1_3 a1_4 _ _ y280 t283 _ (by repeat (first | exact (Kd.eG HO282.out).2.2 | (with_reducible refine Kd.C_alloc ?_ _) | (with_reducible refine Kd.C_drewN ?_ _) | (with_reducible refine Kd.C_drew ?_))) ((Kd.eG HO282.out).2.1) A5.out) ?_; rintro _ w15 ⟨v284, rfl, ho0, hb⟩; refine ⟨_, rfl, yA6 (Kd.iQ (by (with_reducible repeat (first | apply Kd.fG | apply Kd.fF | apply Kd.gQ)); exact HO282.out) (Kd.R_base ho0) hb) (Kd.R_lower (Kd.nz ho0 (g := gb272) (o := .cells #[.int .i64 a1_0, .int .i64 a1_1, .string a1_2, .int .i64 a1_3, .string a1_4] 41 (0, 0)) (by exact BK272.out)) (by exact aC (w := w) (g := g) (row := none) Z36)) (ai.below Z32 hb) (bV (g := gb272) (o := .cells #[.int .i64 a1_0, .int .i64 a1_1, .string a1_2, .int .i64 a1_3, .string a1_4] 41 (0, 0)) (by exact BK272.out) hb) (ag.trans Z36 (ag.of_below hb g none) (.inl rfl)) (below_step Z44 hb) ?_⟩; clear HO282 HI0 BK272 HK HB hb ho0; intro HO282 HO285 HI0 BK272 HK HB))
 go_ret
 exact ⟨_, Z4, by (with_reducible repeat (first | apply Kd.R_alloc | apply Kd.R_drewN | apply Kd.R_drew)); exact Kd.bn HO285.out (fun _ hk => trivial), Z32, Z44, Z36⟩
/-! ### dm: function 78 -/
def dm.f (k : Nat) (s0_0 : List (S38)) (s0_1 : Int) (s0_2 : Bool) (a1 : Int) : Option ((List (S41)) × Int × Bool) := (aG.f s0_0 s0_1 s0_2 (⟨#[59]⟩ : ByteArray)).bind fun bt286 => ((au.f k a1 0 (⟨#[]⟩ : ByteArray) 0 (⟨#[]⟩ : ByteArray) ([] : List (List (S41)))).bind fun t288 => (some (t288, bt286.1, bt286.2)))
theorem dm.mono : ∀ a0 a1 a2 a3 k, LeO (dm.f k a0 a1 a2 a3) (dm.f (k + 1) a0 a1 a2 a3) := by
 intro a0 a1 a2 a3 k
 unfold dm.f
 have m0 := au.mono
 exact yL
set_option maxHeartbeats 8000000 in
set_option maxRecDepth 100000 in
theorem dm.calls (k : Nat) (g : Nat) (s0_0 : List (S38)) (s0_1 : Int) (s0_2 : Bool) (a1 : Int) (r1 : List (S41)) (r2 : Int) (r3 : Bool) (w0 w : World) (hI : ai w0 w g s0_0 s0_1 s0_2) (hB : Below w0.heap.size w0 w) (h : dm.f k s0_0 s0_1 s0_2 a1 = some (r1, r2, r3)) :
 Calls Try.prog 78 #[.pointer (some ⟨g, 0, none⟩), .int .i64 a1] w fun e w' => ∃ v0_ : Value, e = .returned (v0_) ∧ Kd.R k41 41 w' w.heap.size (fun _ => True) v0_ r1 ∧ ai w0 w' g s0_0 r2 r3 ∧ Below w0.heap.size w0 w' ∧ ag w w' g none := by
 have hu41 := Try.underlying41
 have HI0 := Aside0.mk hI
 have HK := Aside0.mk (ag.refl w g none)
 have HL := Aside0.mk hB.size
 clear hI
 have HW0 := Aside0.mk hB.size
 have HB := Aside0.mk hB
 clear hB
 have H := h
 clear h
 unfold dm.f at H
 revert H
 refine yB2 fun t286 t287 A3 H => ?_
 try dsimp only at H
 revert H
 refine yB1 fun t288 A4 H => ?_
 simp only [Option.some.injEq, Prod.mk.injEq] at H
 obtain ⟨rfl, rfl, rfl⟩ := H
 go_enter Try.func78, Try.ntmps78
 go_wp2_with (first | ((with_reducible refine gC 51 rfl ?_); refine gM 51 6 rfl Try.func51 (aG.calls g s0_0 s0_1 s0_2 (⟨#[59]⟩ : ByteArray) t286 t287 w0 _ Z0 Z2 A3.out) ?_; rintro _ w5 ⟨rfl, hi, hb, hk⟩; refine ⟨_, rfl, yA3 (ag.trans Z1 hk (.inl rfl)) (hb) (hi) ?_⟩; clear HK HB HI0 hb; intro HK HB HI0) | ((with_reducible refine gC 56 rfl ?_); refine gM 56 9 rfl Try.func56 (au.calls k a1 0 (⟨#[]⟩ : ByteArray) 0 (⟨#[]⟩ : ByteArray) _ _ ([] : List (List (S41))) t288 _ (Kd.pI _ _) (Nat.le_refl _) A4.out) ?_; rintro _ w6 ⟨v289, rfl, ho0, hb⟩; refine ⟨_, rfl, yA4 (Kd.R_lower ho0 (by exact aC (w := w) (g := g) (row := none) Z1)) (ai.below Z0 hb) (ag.trans Z1 (ag.of_below hb g none) (.inl rfl)) (below_step Z2 hb) ?_⟩; clear HI0 HK HB hb ho0; intro HO290 HI0 HK HB))
 go_ret
 exact ⟨_, Z4, by (with_reducible repeat (first | apply Kd.R_alloc | apply Kd.R_drewN | apply Kd.R_drew)); exact HO290.out, Z0, Z2, Z1⟩
/-! ### fJ: function 81 -/
def fJ.f (k : Nat) (l0 : List (S41)) (a1 : Int) : Option ((List (S41))) := (bM.f k l0 a1).bind fun t291 => (if t291 < 0 then (some ([] : List (S41))) else (if 0 ≤ a1 then (if a1 ≤ t291 then (if t291 ≤ (l0.length : Int) then ((some ((l0.take (t291 : Int).toNat).drop (a1 : Int).toNat : List (S41))).bind fun y292 => (if ([] : List (S41)).length + y292.length < 2513169434916 then (some (([] : List (S41)) ++ y292)) else (none))) else (none)) else (none)) else (none)))
theorem fJ.mono : ∀ a0 a1 k, LeO (fJ.f k a0 a1) (fJ.f (k + 1) a0 a1) := by
 intro a0 a1 k
 unfold fJ.f
 have m0 := bM.mono
 exact yL
set_option maxHeartbeats 8000000 in
set_option maxRecDepth 100000 in
theorem fJ.calls (k : Nat) (A0 : Option Addr) (c0 : Nat) (l0 : List (S41)) (a1 : Int) (r : List (S41)) (w : World) (hr0 : Kd.C k41 w A0 l0.length l0) (hc0 : l0.length ≤ c0) (h : fJ.f k l0 a1 = some r) :
 Calls Try.prog 81 #[.slice A0 l0.length c0, .int .i64 a1] w fun e w' => ∃ v0_ : Value, e = .returned (v0_) ∧ Kd.R k41 41 w' w.heap.size (fun _ => True) v0_ r ∧ Below w.heap.size w w' := by
 have HR0 := Aside0.mk hr0
 have HC0 := Aside0.mk hc0
 clear hr0 hc0
 have HB := Aside0.mk (Below.refl w.heap.size w)
 have H := h
 clear h
 unfold fJ.f at H
 revert H
 refine yB1 fun t291 A3 H => ?_
 revert H
 refine fO (fun c4b0 H => ?_) fun c4b0 H => ?_
 ·obtain rfl := Option.some.inj H
  go_enter Try.func81, Try.ntmps81
  go_wp2_with (first | ((with_reducible refine gC 17 rfl ?_); refine gM 17 8 rfl Try.func17 (bM.calls k _ _ l0 a1 t291 _ Z54 HC0.out A3.out) ?_; rintro _ w' ⟨rfl, ⟨nd, rfl⟩⟩; refine ⟨_, rfl, ?_⟩))
  go_ret
  exact ⟨_, Z4, Z24, Z3⟩
 revert H
 refine fU (fun c5b0 c5b1 H => ?_) fun c5 H => ?_
 ·revert H
  refine fU (fun c6b0 c6b1 H => ?_) fun c6 H => ?_
  ·revert H
   refine fU (fun c7b0 c7b1 H => ?_) fun c7 H => ?_
   ·obtain ⟨y292, hy292⟩ : ∃ y_ : List (S41), y_ = ((l0.take (t291 : Int).toNat).drop (a1 : Int).toNat) := ⟨_, rfl⟩
    replace H : (if ([] : List (S41)).length + y292.length < 2513169434916 then (some (([] : List (S41)) ++ y292)) else (none)) = some r := by first | (rw [hy292]; with_reducible exact H) | (have H2_ := (Option.bind_some _ _).symm.trans H; rw [hy292]; with_reducible exact H2_) | (have H2_ := (Option.bind_some _ _).symm.trans H; with_reducible exact H2_) | with_reducible exact H | (rw [hy292]; exact H) | exact H
    have Ny292 := Aside0.mk hy292
    clear hy292
    revert H
    refine dX (fun c8 H => ?_) fun c8 H => ?_
    ·have LMc8 := Aside0.mk c8
     clear c8
     obtain ⟨y296, hy296⟩ : ∃ y_ : List (S41), y_ = (([] : List (S41)) ++ y292) := ⟨_, rfl⟩
     replace H : (some y296) = some r := by first | (rw [hy296]; with_reducible exact H) | (have H2_ := (Option.bind_some _ _).symm.trans H; rw [hy296]; with_reducible exact H2_) | (have H2_ := (Option.bind_some _ _).symm.trans H; with_reducible exact H2_) | with_reducible exact H | (rw [hy296]; exact H) | exact H
     have Ny296 := Aside0.mk hy296
     clear hy296
     obtain rfl := Option.some.inj H
     go_enter Try.func81, Try.ntmps81
     go_wp2_with (first | ((with_reducible refine gC 17 rfl ?_); refine gM 17 8 rfl Try.func17 (bM.calls k _ _ l0 a1 t291 _ Z54 HC0.out A3.out) ?_; rintro _ w' ⟨rfl, ⟨nd, rfl⟩⟩; refine ⟨_, rfl, ?_⟩; have q9 : (t291 : Int) ≤ ((l0.length : Int) : Int) := of_decide_eq_true Z5; obtain ⟨i09, hi09, _, hsz9, _⟩ := info_parts zo; have hroom9 : l0.length ≤ c0 := HC0.out; have hC9 : Kd.C k41 _ A0 l0.length l0 := HR0.out; have ql9 : (a1 : Int) ≤ (t291 : Int) := of_decide_eq_true Z5; have q09 : (0 : Int) ≤ (a1 : Int) := of_decide_eq_true Z5; have hcut9 := cut_mid (P := Try.prog) 23 41 .i64 .i64 Try.underlying23 hi09 5 hsz9 A0 l0.length c0 a1 t291 q09 ql9 q9 hroom9; have hr9 := Kd.C_mid (lo := (a1 : Int).toNat) (hi := (t291 : Int).toNat) (c := c0) hC9 (by omega) (by omega) hroom9; obtain ⟨A9, hA9⟩ : ∃ A1, A1 = (if c0 = (a1 : Int).toNat then A0 else (A0 : Option Addr).map (·.add ((a1 : Int).toNat * 5))) := ⟨_, rfl⟩; obtain ⟨c9, hc9⟩ : ∃ c1, c1 = c0 - (a1 : Int).toNat := ⟨_, rfl⟩; have hy9 : y292.length = (t291 : Int).toNat - (a1 : Int).toNat := (by rw [Ny292.out, List.length_drop, List.length_take] <;> omega); rw [show ((l0).take (t291 : Int).toNat).drop (a1 : Int).toNat = y292 from Ny292.out.symm] at hr9; replace hr9 : Kd.C k41 _ A9 y292.length y292 := (by rw [hA9]; exact hr9); rw [← hy9, ← hA9, ← hc9] at hcut9; have HR295 := Aside0.mk hr9; have HC295 := Aside0.mk (show y292.length ≤ c9 from by rw [hy9, hc9]; exact Nat.sub_le_sub_right (Nat.le_trans (by omega) hroom9) _); clear hr9 hC9 hroom9 hi09 hsz9 hc9; have KY9 := Aside0.mk hy9; have KA9 := Aside0.mk hA9; clear hy9 hA9; replace q9 := eq_true q9) | ((with_reducible refine dB (b := .append) (xs := #[.const (.slice none 0 0), .tmp 14]) rfl ?_); at_builtin; refine Kd.mi k41 (w0 := w) w.heap.size rfl (.const (.slice none 0 0)) (.tmp 14) 23 41 (.agg #[(.int .i64 0), (.int .i64 0), (.string ⟨#[]⟩), (.int .i64 0), (.string ⟨#[]⟩)]) 56 rfl Try.underlying23 zo rfl (by decide) (by omega) (.slice none 0 0) ([] : List (S41)) y292 _ _ _ (fun _ => True) (fun _ => False) rfl rfl ?aO ?aR (fun _ _ h => h) (fun _ h => h.elim) ?aF ?aB ?aS ?aL ?_; (case aR => repeat (first | exact HR295.out | (with_reducible refine Kd.C_alloc ?_ _) | (with_reducible refine Kd.C_drewN ?_ _) | (with_reducible refine Kd.C_drew ?_))); (case aB => exact Z3); (case aF => exact (fun _ _ => trivial)); (case aO => exact ((Kd.qH _ _ _ _ (fun _ => True)))); (case aS => exact (below_size Z3)); (case aL => have := LMc8.out; omega); intro v297 w10 ho hb hg hat; rw [← Ny296.out] at ho; refine yA2 (hb) (ho) ?_; clear HB; intro HB HO298; clear ho hb hg hat))
     go_ret
     exact ⟨_, Z4, by (with_reducible repeat (first | apply Kd.R_alloc | apply Kd.R_drewN | apply Kd.R_drew)); exact HO298.out, Z3⟩
    exact absurd H (by simp)
   exact absurd H (by simp)
  exact absurd H (by simp)
 exact absurd H (by simp)
end Go.Proofs.Ytendgafpkeadhaa.Q
end
section
namespace Go.Proofs.Ytendgafpkeadhaa.Q
open Go.RowKit Go.Proofs.YtendgafpkeadhaaW.PrintWords Go.Proofs.YtendgafpkeadhaaW.PrintLast Go.Proofs.YtendgafpkeadhaaW.PrintMore
attribute [local go_sem] max2_int min2_int max_two min_two max_three min_three max_four min_four
set_option linter.unusedVariables false
set_option linter.unusedSimpArgs false
/-! ### df: function 19 -/
def df.l0 : Nat → List (S41) → Int → List Int → Int → Option (List Int)
 | 0, _, _, _, _ => none
 | k + 1, x0, x1, x5, x6 => if 0 ≤ x1 then (if x1 < (x0.length : Int) then (if (x5.length : Int) < ((rd_T41 x0 x1).f1) then (if x5.length < 17592186044416 then ((bM.f k x0 x6).bind fun t119 => (df.l0 k x0 x1 (x5 ++ [x6]) t119)) else (none)) else (some x5)) else (none)) else (none)
def df.f (k : Nat) (l0 : List (S41)) (a1 : Int) : Option (List Int) := (bM.f k l0 a1).bind fun t114 => (if t114 < 0 then (some ([] : List Int)) else (df.l0 k l0 a1 ([] : List Int) (wrap64 (a1 + 1))))
theorem df.mono_l : ∀ k, (∀ y0 y1 y2 y3, LeO (df.l0 k y0 y1 y2 y3) (df.l0 (k + 1) y0 y1 y2 y3))
 | 0 => fun _ _ _ _ r h => by simp [df.l0] at h
 | k + 1 => by
  have ih0 := df.mono_l k
  intro y0 y1 y2 y3
  unfold df.l0
  have m0 := bM.mono
  exact yL
theorem df.mono : ∀ a0 a1 k, LeO (df.f k a0 a1) (df.f (k + 1) a0 a1) := by
 intro a0 a1 k
 have ih0 := df.mono_l k
 unfold df.f
 have m0 := bM.mono
 exact yL
set_option maxHeartbeats 8000000 in
set_option maxRecDepth 100000 in
theorem df.calls (k : Nat) (A0 : Option Addr) (c0 : Nat) (l0 : List (S41)) (a1 : Int) (r : List Int) (w : World) (hr0 : Kd.C k41 w A0 l0.length l0) (hc0 : l0.length ≤ c0) (h : df.f k l0 a1 = some r) :
 Calls Try.prog 19 #[.slice A0 l0.length c0, .int .i64 a1] w fun e w' => ∃ v0_ : Value, e = .returned (v0_) ∧ Kd.R (Kd.int .i64) 3 w' w.heap.size (fun _ => True) v0_ r ∧ Below w.heap.size w w' := by
 have HR0 := Aside0.mk hr0
 have HC0 := Aside0.mk hc0
 clear hr0 hc0
 have HB := Aside0.mk (Below.refl w.heap.size w)
 have H := h
 clear h
 unfold df.f at H
 revert H
 refine yB1 fun t114 A3 H => ?_
 revert H
 refine fO (fun c4b0 H => ?_) fun c4b0 H => ?_
 ·obtain rfl := Option.some.inj H
  go_enter Try.func19, Try.ntmps19
  go_wp2_with (first | ((with_reducible refine gC 17 rfl ?_); refine gM 17 9 rfl Try.func17 (bM.calls k _ _ l0 a1 t114 _ Z54 HC0.out A3.out) ?_; rintro _ w' ⟨rfl, ⟨nd, rfl⟩⟩; refine ⟨_, rfl, ?_⟩))
  go_ret
  exact ⟨_, Z4, Z24, Z3⟩
 have H' := Aside0.mk H
 clear H
 go_enter Try.func19, Try.ntmps19
 go_wp2_with (first | ((with_reducible refine gC 17 rfl ?_); refine gM 17 9 rfl Try.func17 (bM.calls k _ _ l0 a1 t114 _ Z54 HC0.out A3.out) ?_; rintro _ w' ⟨rfl, ⟨nd, rfl⟩⟩; refine ⟨_, rfl, ?_⟩))
 go_loopg [5, 6] k (fun kq v5 v6 w' => ∃ (x5_1 : List Int) (x6_1 : Int), v6 = .int .i64 x6_1 ∧ Aside0 (df.l0 kq l0 a1 x5_1 x6_1 = some r) ∧ Aside0 (kq ≤ k) ∧ Aside0 (Kd.R (Kd.int .i64) 3 w' w.heap.size (fun _ => True) v5 x5_1) ∧ Aside0 (Below w.heap.size w w'))
 case atStart => exact ⟨(([] : List Int)), (wrap64 (a1 + 1)), Z6, H', ⟨Nat.le_refl _⟩, ⟨Z24⟩, ⟨Z3⟩⟩
 case round =>
  clear H'
  try clear c1
  try clear p2
  try clear c4
  try clear c4b0
  obtain ⟨x5_1, x6_1, rfl, HA, HK1, HO_5, HB⟩ := hrel
  cases gk with
  | zero => exact absurd HA.out (by simp [df.l0])
  | succ k1 =>
   have H := HA.out
   clear HA
   simp only [df.l0] at H
   revert H
   refine eQ (fun c5b0 H => ?_) fun c5 H => ?_
   ·revert H
    refine eQ (fun c6b0 H => ?_) fun c6 H => ?_
    ·revert H
     refine fO (fun c7b0 H => ?_) fun c7b0 H => ?_
     ·revert H
      refine dX (fun c8 H => ?_) fun c8 H => ?_
      ·have LMc8 := Aside0.mk c8
       clear c8
       obtain ⟨y116, hy116⟩ : ∃ y_ : List Int, y_ = (x5_1 ++ [x6_1]) := ⟨_, rfl⟩
       replace H : ((bM.f k1 l0 x6_1).bind fun t119 => (df.l0 k1 l0 a1 y116 t119)) = some r := by first | (rw [hy116]; with_reducible exact H) | (have H2_ := (Option.bind_some _ _).symm.trans H; rw [hy116]; with_reducible exact H2_) | (have H2_ := (Option.bind_some _ _).symm.trans H; with_reducible exact H2_) | with_reducible exact H | (rw [hy116]; exact H) | exact H
       have Ny116 := Aside0.mk hy116
       clear hy116
       revert H
       refine yB1 fun t119 A9 H => ?_
       have H' := Aside0.mk H
       clear H
       obtain ⟨Ao10, co10, eo10⟩ := Kd.R_slice HO_5.out
       subst eo10
       have p115 : 0 ≤ (a1 : Int) := of_decide_eq_true Z5
       have q115 : a1 < (l0.length : Int) := of_decide_eq_true Z5
       obtain ⟨ad115, e115, hx115_0, hx115_1, hx115_2, hx115_3, hx115_4⟩ := gJ HR0.out a1 p115 q115
       cases e115
       replace hx115_0 := (HB.out.cell (World.block_lt_of_cell? w _ hx115_0)).trans hx115_0
       replace hx115_1 := (HB.out.cell (World.block_lt_of_cell? w _ hx115_1)).trans hx115_1
       replace hx115_2 := (HB.out.cell (World.block_lt_of_cell? w _ hx115_2)).trans hx115_2
       replace hx115_3 := (HB.out.cell (World.block_lt_of_cell? w _ hx115_3)).trans hx115_3
       replace hx115_4 := (HB.out.cell (World.block_lt_of_cell? w _ hx115_4)).trans hx115_4
       replace p115 := eq_true p115
       replace q115 := eq_true q115
       go_wp2_with (first | ((with_reducible refine dB (b := .append) (xs := #[.tmp 24, .tmp 26]) rfl ?_); at_builtin; refine Kd.iP (Kd.int .i64) (w0 := w) w.heap.size rfl (.tmp 24) (.tmp 26) 46 3 (.int .i64 0) 8 rfl Try.underlying46 info3 rfl (by decide) (by omega) (.slice Ao10 x5_1.length co10) x5_1 x6_1 [.int .i64 x6_1] (fun _ => True) (fun _ => False) rfl rfl ?aP (fun _ hk => hk.elim) ?aF ?aO ?aB ?aS ?aL ?_; (case aP => exact rfl); (case aB => exact Z3); (case aF => exact (fun _ _ => trivial)); (case aO => exact Z19); (case aS => exact (below_size Z3)); (case aL => have := LMc8.out; omega); intro v117 w11 ho hb hg hat; rw [← Ny116.out] at ho; refine yA2 (hb) (ho) ?_; clear HB HO_5; intro HB HO118; clear ho hb hg hat) | ((with_reducible refine gC 17 rfl ?_); refine gM 17 23 rfl Try.func17 (bM.calls k1 _ _ l0 x6_1 t119 _ Z46 HC0.out A9.out) ?_; rintro _ w' ⟨rfl, ⟨nd, rfl⟩⟩; refine ⟨_, rfl, ?_⟩))
       go_roundg k1
       case measure => have := HK1.out; omega
       case rel => exact ⟨(y116), (t119), Z6, H', ⟨by have := HK1.out; omega⟩, ⟨by (with_reducible repeat (first | apply Kd.R_alloc | apply Kd.R_drewN | apply Kd.R_drew)); exact HO118.out⟩, ⟨Z3⟩⟩
      exact absurd H (by simp)
     obtain rfl := Option.some.inj H
     obtain ⟨Ao12, co12, eo12⟩ := Kd.R_slice HO_5.out
     subst eo12
     have p115 : 0 ≤ (a1 : Int) := of_decide_eq_true Z5
     have q115 : a1 < (l0.length : Int) := of_decide_eq_true Z5
     obtain ⟨ad115, e115, hx115_0, hx115_1, hx115_2, hx115_3, hx115_4⟩ := gJ HR0.out a1 p115 q115
     cases e115
     replace hx115_0 := (HB.out.cell (World.block_lt_of_cell? w _ hx115_0)).trans hx115_0
     replace hx115_1 := (HB.out.cell (World.block_lt_of_cell? w _ hx115_1)).trans hx115_1
     replace hx115_2 := (HB.out.cell (World.block_lt_of_cell? w _ hx115_2)).trans hx115_2
     replace hx115_3 := (HB.out.cell (World.block_lt_of_cell? w _ hx115_3)).trans hx115_3
     replace hx115_4 := (HB.out.cell (World.block_lt_of_cell? w _ hx115_4)).trans hx115_4
     replace p115 := eq_true p115
     replace q115 := eq_true q115
     go_wp2
     go_ret
     exact ⟨_, Z4, Z19, Z3⟩
    exact absurd H (by simp)
   exact absurd H (by simp)
end Go.Proofs.Ytendgafpkeadhaa.Q
end
