/- Walks over functions of the program, words for them, and what the functions come to; of each text only what this claim uses; no condition. -/
import Derived.Test.YtlenihbmafkegaaZSB0
import Derived.Test.YtlenihbmafkegaaZSB1
import Derived.Test.YtlenihbmafkegaaZSB3
import Derived.Test.YtlenihbmafkegaaZSB4
import Derived.Test.YtlenihbmafkegaaZSB7
import Derived.Test.YtlenihbmafkegaaZSB8
import Derived.Test.YtlenihbmafkegaaZSB9
section
namespace Go.Proofs.Ytlenihbmafkegaa.Q
open Go.RowKit Go.Proofs.YtlenihbmafkegaaW.PrintWords Go.Proofs.YtlenihbmafkegaaW.PrintLast Go.Proofs.YtlenihbmafkegaaW.PrintMore
attribute [local go_sem] jE jD jC jB df cO dI dH bV bU cZ cu
set_option linter.unusedVariables false
set_option linter.unusedSimpArgs false
/-! ### dU: function 90 -/
def dU.f (F : Fam) (k : Nat) (s0_0 : List (S56)) (s0_1 : Int) (s0_2 : Bool) : Option ((List (S40)) × Int × Bool) := (jy.f s0_0 s0_1 s0_2).bind fun bt642 => (if bt642.2.2.2.2.1 = true then (if bt642.1 = 2 then ((az.f k 19 0 (⟨#[]⟩ : ByteArray) bt642.2.2.1 (⟨#[]⟩ : ByteArray) ([] : List (List (S40)))).bind fun t650 => (some (t650, wrap64 (bt642.2.2.2.2.2.1 + 1), bt642.2.2.2.2.2.2))) else (if bt642.1 = 3 then ((az.f k 20 0 (⟨#[]⟩ : ByteArray) 0 bt642.2.1 ([] : List (List (S40)))).bind fun t653 => (some (t653, wrap64 (bt642.2.2.2.2.2.1 + 1), bt642.2.2.2.2.2.2))) else ((bn.f s0_0 bt642.2.2.2.2.2.1 bt642.2.2.2.2.2.2 1).bind fun bt656 => ((aG.f s0_0 bt656.2.2.2.2.1 bt656.2.2.2.2.2 (⟨#[46]⟩ : ByteArray)).bind fun bt662 => (if bt662.1 = true then ((bn.f s0_0 bt662.2.1 bt662.2.2 1).bind fun bt665 => ((eX.f F k s0_0 bt665.2.2.2.2.1 bt665.2.2.2.2.2).bind fun bt671 => ((az.f k 23 0 bt656.2.1 0 bt665.2.1 bt671.1).bind fun t676 => (some (t676, bt671.2.1, bt671.2.2))))) else ((az.f k 21 0 bt656.2.1 0 (⟨#[]⟩ : ByteArray) ([] : List (List (S40)))).bind fun t679 => (some (t679, bt662.2.1, bt662.2.2)))))))) else (some (([] : List (S40)), bt642.2.2.2.2.2.1, true)))
theorem dU.mono {F F' : Fam} (HLE : jQ F F') : ∀ a0 a1 a2 k, LeO (dU.f F k a0 a1 a2) (dU.f F' (k + 1) a0 a1 a2) := by
 intro a0 a1 a2 k
 unfold dU.f
 have m0 := az.mono
 have m1 := (eX.mono HLE)
 exact yL
end Go.Proofs.Ytlenihbmafkegaa.Q
end
section
set_option linter.unusedVariables false
set_option linter.unusedSimpArgs false
namespace Go.Proofs.Ytlenihbmafkegaa.Q
open Go Go.RowKit Go.Proofs.YtlenihbmafkegaaW.PrintWords Go.Proofs.YtlenihbmafkegaaW.PrintLast Go.Proofs.YtlenihbmafkegaaW.PrintMore
attribute [local go_sem] pG pF pz pg
set_option maxHeartbeats 8000000 in
set_option maxRecDepth 100000 in
theorem IZ (F : Fam) (HF : kz F) (k : Nat) (g : Nat) (s0 : List S56) (s1 : Int) (s2 : Bool) (r : List S40) (e1 : Int) (e2 : Bool) (w0 w : World) (hI : Rd 72 w0 w g s0 s1 s2) (hB : Below w0.heap.size w0 w) (h : dU.f F k s0 s1 s2 = some (r, e1, e2)) :
 Calls Try.prog 90 #[.pointer (some ⟨g, 0, none⟩)] w (Back 72 w0 w g s0 e1 e2 (IsL w r)) := by
 unfold dU.f at h
 have HS := St.new (T := 72) (by decide) hI hB
 have H := ae.mk h
 clear h hI hB
 go_enter Try.func90, Try.ntmps90
 go_wp2_with (first | ((with_reducible refine gC 74 rfl ?_); refine sX 74 rfl Try.func74 (stT HS) H (fun t1 t2 t3 t4 o q b hI hB => jy.calls g _ _ _ t1 t2 t3 t4 o q b w0 _ hI hB) ?_; clear HS H; intro t1 t2 t3 t4 o q b w' HS H; (try dsimp only at H); cases o <;> (try simp only [if_true, if_false, eq_self, Bool.false_eq_true] at H); rotate_left; rcases nS t1 2 with ⟨c, cb1, cn1⟩ | ⟨c, cb1, cn1⟩; replace H := hI c H; clear c; rotate_left; replace H := hE c H; clear c; rcases nS t1 3 with ⟨c, cb2, cn2⟩ | ⟨c, cb2, cn2⟩; replace H := hI c H; clear c; rotate_left; replace H := hE c H; clear c) | ((with_reducible refine bF (N := 3) rfl ?_); refine boxS (N := 3) (cs := #[.int .i64 0, .string (⟨#[]⟩ : ByteArray), .int .i64 0, .int .i64 0]) (t := 56) (stT HS) (by first | (go_simp; done) | (go_simp; rfl)) ?_; clear HS; intro gb w' HS hne hge; have hnc := Ne.symm hne; (try (have hb_ := HS.box rfl; have hx0 := (ah hb_ 0).trans rfl; have hf0 := af hb_ 0; have hx1 := (ah hb_ 1).trans rfl; have hf1 := af hb_ 1; have hx2 := (ah hb_ 2).trans rfl; have hf2 := af hb_ 2; have hx3 := (ah hb_ 3).trans rfl; have hf3 := af hb_ 3; clear hb_)); have hc1 := HS.rd.cell1; have hf1 := HS.rd.fro 1; have hc2 := HS.rd.cell2; have hf2 := HS.rd.fro 2) | ((with_reducible refine gC 57 rfl ?_); refine sN 57 rfl Try.func57 (stX HS) H (fun t1 t2 t3 t4 q b hI hB => bn.calls g _ _ _ _ t1 t2 t3 t4 q b w0 _ hI hB) ?_; (try clear hx0 hx1 hx2 hx3 hx4 hf0 hf1 hf2 hf3 hf4); (try clear hc1 hf1 hc2 hf2); clear HS H; intro t1 t2 t3 t4 q b w' HS H; (try dsimp only at H)) | ((with_reducible refine gC 58 rfl ?_); refine sB 58 rfl Try.func58 (stX HS) H (fun t q b hI hB => aG.calls g _ _ _ _ t q b w0 _ hI hB) ?_; (try clear hx0 hx1 hx2 hx3 hx4 hf0 hf1 hf2 hf3 hf4); (try clear hc1 hf1 hc2 hf2); clear HS H; intro t q b w' HS H; (try dsimp only at H); cases t <;> (try simp only [if_true, if_false, eq_self, Bool.false_eq_true, Bool.not_true, Bool.not_false] at H)) | ((with_reducible refine gC 76 rfl ?_); refine sK 76 rfl Try.func76 (stX HS) H (fun t q b hI hB h => zT F HF _ g _ _ _ t q b w0 _ hI hB h) ?_; (try clear hx0 hx1 hx2 hx3 hx4 hf0 hf1 hf2 hf3 hf4); (try clear hc1 hf1 hc2 hf2); clear HS H; intro t q b w' A c HS H; (try dsimp only at H)) | ((with_reducible refine gC 61 rfl ?_); refine sJ 61 rfl Try.func61 (stX HS) H (fun t hr hc => az.calls _ _ _ _ _ _ _ _ _ t _ hr hc) ?_; (try clear hx0 hx1 hx2 hx3 hx4 hf0 hf1 hf2 hf3 hf4); (try clear hc1 hf1 hc2 hf2); clear HS H; intro t w' A c HS H; (try dsimp only at H)) | ((with_reducible refine gC 61 rfl ?_); refine sJ 61 rfl Try.func61 (stX HS).yE H (fun t hr hc => az.calls _ _ _ _ _ _ _ _ _ t _ hr hc) ?_; (try clear hx0 hx1 hx2 hx3 hx4 hf0 hf1 hf2 hf3 hf4); (try clear hc1 hf1 hc2 hf2); clear HS H; intro t w' A c HS H; (try dsimp only at H)))
 all_goals first
  | (have h_ := H.out; simp only [Option.some.injEq, Prod.mk.injEq] at h_; obtain ⟨rfl, rfl, rfl⟩ := h_; go_ret; exact (stT HS).lu (.head _))
  | (have h_ := H.out; simp only [Option.some.injEq, Prod.mk.injEq] at h_; obtain ⟨rfl, rfl, rfl⟩ := h_; go_ret; exact St.KO (stX HS))
end Go.Proofs.Ytlenihbmafkegaa.Q
end
section
set_option linter.unusedVariables false
set_option linter.unusedSimpArgs false
namespace Go.Proofs.Ytlenihbmafkegaa.Q
open Go Go.RowKit Go.Proofs.YtlenihbmafkegaaW.PrintWords Go.Proofs.YtlenihbmafkegaaW.PrintLast Go.Proofs.YtlenihbmafkegaaW.PrintMore
attribute [local go_sem] pG pF pz pg
set_option maxHeartbeats 8000000 in
set_option maxRecDepth 100000 in
theorem FT (F : Fam) (HF : kz F) (k : Nat) (g : Nat) (s0 : List S56) (s1 : Int) (s2 : Bool) (r : List S40) (e1 : Int) (e2 : Bool) (w0 w : World) (hI : Rd 72 w0 w g s0 s1 s2) (hB : Below w0.heap.size w0 w) (h : aW.f F k s0 s1 s2 = some (r, e1, e2)) :
 Calls Try.prog 85 #[.pointer (some ⟨g, 0, none⟩)] w (Back 72 w0 w g s0 e1 e2 (IsL w r)) := by
 unfold aW.f at h
 have HS := St.new (T := 72) (by decide) hI hB
 have H := ae.mk h
 clear h hI hB
 go_enter Try.func85, Try.ntmps85
 go_wp2_with (first | ((with_reducible refine bF (N := 7) rfl ?_); (with_reducible refine gC 83 rfl ?_); refine sL 83 rfl Try.func83 (stT HS) H (fun t q b hI hB h => toL (HF.expr g _ _ _ t q b w0 _ hI hB h)) ?_; clear HS H; intro te q b w' Ae ce HS H; (try dsimp only at H); have hc2 := HS.rd.cell2; cases b <;> (try simp only [if_true, if_false, eq_self, Bool.false_eq_true, Bool.not_true, Bool.not_false] at H); rotate_left; (cases k; exact absurd H.out (by simp [aW.j0]); simp only [aW.j0, if_true, if_false, eq_self, Bool.false_eq_true, Bool.not_true, Bool.not_false] at H); rotate_left) | (go_at_call 75; refine cX (stT HS) H (fun t q b hI hB => bi.calls g _ _ _ t q b w0 _ hI hB) ?_; clear HS H; intro t1 q b w' HS H; (try dsimp only at H); (cases k; exact absurd H.out (by simp [aW.j0]); simp only [aW.j0] at H); rcases tS t1 ([61] : List UInt8) with ⟨c, cb1, cn1⟩ | ⟨c, cb1, cn1⟩ <;> (simp only [cn1, if_true, if_false, eq_self, Bool.false_eq_true] at H; clear c); refine JR.h ?_; rotate_left) | ((with_reducible refine gC 56 rfl ?_); refine sU 56 rfl Try.func56 (stT HS) H (fun q b hI hB => aC.calls g _ _ _ _ q b w0 _ hI hB) ?_; clear HS H; intro q b w' HS H; (try dsimp only at H)) | ((with_reducible refine bF (N := 22) rfl ?_); refine o6 (N := 22) (stT HS) (by first | (go_simp; done) | (go_simp; rfl)) ?_; clear HS; intro A c w' HS) | ((with_reducible refine gC 61 rfl ?_); refine sJ 61 rfl Try.func61 (stT HS) H (fun t hr hc => az.calls _ _ _ _ _ _ _ _ _ t _ hr hc) ?_; clear HS H; intro t w' A c HS H; (try dsimp only at H)))
 all_goals first
  | (have h_ := H.out; simp only [Option.some.injEq, Prod.mk.injEq] at h_; obtain ⟨rfl, rfl, rfl⟩ := h_; go_ret; exact (stT HS).lu (.head _))
  | skip
 refine ⟨?_⟩
 by_cases c1 : 0 < (te.length : Int)
 rotate_left
 ·exact absurd (hE c1 H).out (by simp)
 replace H := hI c1 H
 obtain ⟨ad, rfl, hx0, hx2⟩ := HS.node (.head _) c1
 have q3 := eq_true c1
 have qi := eq_true (show 0 < te.length by omega)
 clear c1
 rcases nS (ak te 0).f0 21 with ⟨c2, c2b, c2n⟩ | ⟨c2, c2b, c2n⟩
 ·replace H := hI c2 H
  clear c2
  go_wp2_with (first | ((with_reducible refine gC 56 rfl ?_); refine sU 56 rfl Try.func56 (stT HS) H (fun q b hI hB => aC.calls g _ _ _ _ q b w0 _ hI hB) ?_; clear HS H; intro q b w' HS H; (try dsimp only at H); obtain ⟨hx0, hx2⟩ := HS.NL (.head _) q3) | ((with_reducible refine gC 82 rfl ?_); refine sL 82 rfl Try.func82 (stT HS) H (fun t q b hI hB h => xK F HF _ g _ _ _ _ _ _ _ _ t q b w0 _ hI hB h) ?_; clear HS H; intro t q b w' A c HS H; (try dsimp only at H)))
  have h_ := H.out; simp only [Option.some.injEq, Prod.mk.injEq] at h_; obtain ⟨rfl, rfl, rfl⟩ := h_
  go_ret
  exact (stT HS).lu (.head _)
 replace H := hE c2 H
 clear c2
 rcases nS (ak te 0).f0 26 with ⟨c3, c3b, c3n⟩ | ⟨c3, c3b, c3n⟩
 rotate_left
 ·replace H := hE c3 H
  clear c3
  have hc2 := HS.rd.cell2
  have hf2 := HS.rd.fro 2
  go_wp2
  have h_ := H.out; simp only [Option.some.injEq, Prod.mk.injEq] at h_; obtain ⟨rfl, rfl, rfl⟩ := h_
  go_ret
  exact (stT HS).KO
 replace H := hI c3 H
 clear c3
 go_wp2_with (first | ((with_reducible refine bF (N := 52) rfl ?_); (with_reducible refine gC 56 rfl ?_); refine sU 56 rfl Try.func56 (stT HS) H (fun q b hI hB => aC.calls g _ _ _ _ q b w0 _ hI hB) ?_; clear HS H; intro q b w' HS H; (try dsimp only at H); skip) | ((with_reducible refine gC 56 rfl ?_); refine sU 56 rfl Try.func56 (stT HS) H (fun q b hI hB => aC.calls g _ _ _ _ q b w0 _ hI hB) ?_; clear HS H; intro q b w' HS H; (try dsimp only at H)) | ((with_reducible refine gC 83 rfl ?_); refine sL 83 rfl Try.func83 (stT HS) H (fun t q b hI hB h => toL (HF.expr g _ _ _ t q b w0 _ hI hB h)) ?_; clear HS H; intro t q b w' A c HS H; (try dsimp only at H)) | ((with_reducible refine gC 18 rfl ?_); refine sI2 18 rfl Try.func18 (stT HS) H (l := te) (by repeat (first | exact .head _ | apply List.Mem.tail)) (fun t hn hr hc => bM.calls _ _ _ _ _ t _ hr hc) ?_; clear HS H; intro ti w' Ai ci HS HC H; (try dsimp only at H); have HS0 := HS; clear HS; have HS := St.new HS0.t HS0.rd HS0.below))
 (try simp only [Act.put, List.setIfInBounds_toArray, List.set_cons_zero, List.set_cons_succ])
 have hk := HS.keep
 replace HC := (Kd.bG (HS0.ints (by decide) HC hk)).2.2
 replace HS := (HS0.step hk HS.rd HS.below).push (dD HS0.keep) (HS.o _ (.head _))
 clear hk HS0
 by_cases c5 : 1 < (ti.length : Int)
 rotate_left
 ·exact absurd H.out (by simp [c5])
 replace H := hI (show 0 < (ti.length : Int) by omega) H
 have q5 := eq_true c5
 have q6 := eq_true (show 0 < (ti.length : Int) by omega)
 have q7 := eq_true (show 1 < ti.length by omega)
 have q8 := eq_true (show 0 < ti.length by omega)
 obtain ⟨ai, rfl, hy0⟩ := Kd.lG HC 0 (by omega) (by omega)
 obtain ⟨ai', e2, hy1⟩ := Kd.lG HC 1 (by omega) (by omega)
 obtain rfl : ai = ai' := by injection e2
 (try rw [show (0 : Int).toNat = 0 from rfl, Addr.add_zero'] at hy0)
 (try simp only [show (1 : Int).toNat = 1 from rfl, Nat.reduceMul, Nat.reduceEqDiff, Go.Addr.add, ↓reduceIte] at hy1)
 clear c5 HC e2
 go_region_held3 (fun w' => w'.cell? ai = some (.int .i64 (rd ti 0)) ∧ w'.cell? ⟨ai.block, ai.off + 1, none⟩ = some (.int .i64 (rd ti 1))) (first | exact ⟨hy0, hy1⟩ | go_keep) (first | (go_at_call 25; refine cS (stT HS) H (l := te) (by repeat (first | exact .head _ | apply List.Mem.tail)) (fun t hn hr hc => fH.calls _ _ _ _ _ t _ hr hc) ?_; clear HS H; intro t w' A c HS hb H; (try dsimp only at H); (try replace H := hI (of_eq_true q5) H); have y0 := (hb.cell (World.block_lt_of_cell? _ _ hy0)).trans hy0; have y1 := (hb.cell (World.block_lt_of_cell? _ _ hy1)).trans hy1; clear hy0 hy1 hb; have hy0 := y0; have hy1 := y1; clear y0 y1) | (go_at_call 61; refine cJ (stT HS).NM H (fun t hr hc => az.calls _ _ _ _ _ _ _ _ _ t _ hr hc) ?_; clear HS H; intro t w' A c HS hb H; (try dsimp only at H); have y0 := (hb.cell (World.block_lt_of_cell? _ _ (DX hy0))).trans (DX hy0); have y1 := (hb.cell (World.block_lt_of_cell? _ _ (DX hy1))).trans (DX hy1); clear hy0 hy1 hb; have hy0 := y0; have hy1 := y1; clear y0 y1))
 go_wp2
 have h_ := H.out; simp only [Option.some.injEq, Prod.mk.injEq] at h_; obtain ⟨rfl, rfl, rfl⟩ := h_
 go_ret
 exact (stT HS).lu (.head _)
end Go.Proofs.Ytlenihbmafkegaa.Q
end
section
set_option linter.unusedVariables false
set_option linter.unusedSimpArgs false
namespace Go.Proofs.Ytlenihbmafkegaa.Q
open Go Go.RowKit Go.Proofs.YtlenihbmafkegaaW.PrintWords Go.Proofs.YtlenihbmafkegaaW.PrintLast Go.Proofs.YtlenihbmafkegaaW.PrintMore
attribute [local go_sem] pG pF pz pg
set_option maxHeartbeats 8000000 in
set_option maxRecDepth 100000 in
theorem IX (F : Fam) (HF : kz F) (k : Nat) (g : Nat) (s0 : List S56) (s1 : Int) (s2 : Bool) (r : List S40) (e1 : Int) (e2 : Bool) (w0 w : World) (hI : Rd 72 w0 w g s0 s1 s2) (hB : Below w0.heap.size w0 w) (h : ay.f F k s0 s1 s2 = some (r, e1, e2)) :
 Calls Try.prog 81 #[.pointer (some ⟨g, 0, none⟩)] w (Back 72 w0 w g s0 e1 e2 (IsL w r)) := by
 unfold ay.f at h
 have HS := St.new (T := 72) (by decide) hI hB
 have H := ae.mk h
 clear h hI hB
 go_enter Try.func81, Try.ntmps81
 go_wp2_with (first | ((with_reducible refine gC 75 rfl ?_); refine sS 75 rfl Try.func75 (stT HS) H (fun t q b hI hB => bi.calls g _ _ _ t q b w0 _ hI hB) ?_; clear HS H; intro t q b w' HS H; (try dsimp only at H); rcases tS t ([108, 101, 116] : List UInt8) with ⟨c, cb1, cn1⟩ | ⟨c, cb1, cn1⟩; replace H := hI c H; clear c; rotate_left; replace H := hE c H; clear c; rcases tS t ([105, 102] : List UInt8) with ⟨c, cb2, cn2⟩ | ⟨c, cb2, cn2⟩; replace H := hI c H; clear c; rotate_left; replace H := hE c H; clear c; rcases tS t ([119, 104, 105, 108, 101] : List UInt8) with ⟨c, cb3, cn3⟩ | ⟨c, cb3, cn3⟩; replace H := hI c H; clear c; rotate_left; replace H := hE c H; clear c; rcases tS t ([98, 114, 101, 97, 107] : List UInt8) with ⟨c, cb4, cn4⟩ | ⟨c, cb4, cn4⟩; replace H := hI c H; clear c; (try replace H := hE (by decide) H); rcases k with _ | k; exact absurd H.out (by simp [ay.j0]); simp only [ay.j0] at H; (try replace H := hE (by decide) H); rotate_left; replace H := hE c H; clear c; rcases tS t ([99, 111, 110, 116, 105, 110, 117, 101] : List UInt8) with ⟨c, cb5, cn5⟩ | ⟨c, cb5, cn5⟩; replace H := hI c H; clear c; (try replace H := hI rfl H); rcases k with _ | k; exact absurd H.out (by simp [ay.j0]); simp only [ay.j0] at H; (try replace H := hE (by decide) H); rotate_left; replace H := hE c H; clear c; rcases tS t ([121, 105, 101, 108, 100] : List UInt8) with ⟨c, cb6, cn6⟩ | ⟨c, cb6, cn6⟩; replace H := hI c H; clear c; rcases k with _ | k; exact absurd H.out (by simp [ay.j0]); simp only [ay.j0] at H; (try replace H := hI rfl H); rotate_left; replace H := hE c H; clear c; rcases tS t ([114, 101, 116, 117, 114, 110] : List UInt8) with ⟨c, cb7, cn7⟩ | ⟨c, cb7, cn7⟩; replace H := hI c H; clear c; rcases k with _ | k; exact absurd H.out (by simp [ay.j1]); simp only [ay.j1] at H; (try replace H := hE (by decide) H); rotate_left; replace H := hE c H; clear c; rcases tS t ([112, 117, 116] : List UInt8) with ⟨c, cb8, cn8⟩ | ⟨c, cb8, cn8⟩; replace H := hI c H; clear c; rcases k with _ | k; exact absurd H.out (by simp [ay.j1]); simp only [ay.j1] at H; (try replace H := hE (by decide) H); rotate_left; replace H := hE c H; clear c; rcases tS t ([101, 109, 105, 116] : List UInt8) with ⟨c, cb9, cn9⟩ | ⟨c, cb9, cn9⟩; replace H := hI c H; clear c; rcases k with _ | k; exact absurd H.out (by simp [ay.j1]); simp only [ay.j1] at H; (try replace H := hE (by decide) H); rotate_left; replace H := hE c H; clear c; rcases k with _ | k; exact absurd H.out (by simp [ay.j1]); simp only [ay.j1] at H; (try replace H := hI rfl H)) | ((with_reducible refine bF (N := 53) rfl ?_); (with_reducible refine gC 58 rfl ?_); refine sB 58 rfl Try.func58 (stT HS) H (fun t q b hI hB => aG.calls g _ _ _ _ t q b w0 _ hI hB) ?_; clear HS H; intro t q b w' HS H; (try dsimp only at H); cases t <;> (try simp only [if_true, if_false, eq_self, Bool.false_eq_true, Bool.not_true, Bool.not_false] at H)) | ((with_reducible refine gC 58 rfl ?_); refine sB 58 rfl Try.func58 (stT HS) H (fun t q b hI hB => aG.calls g _ _ _ _ t q b w0 _ hI hB) ?_; clear HS H; intro t q b w' HS H; (try dsimp only at H)) | ((with_reducible refine gC 57 rfl ?_); refine sN 57 rfl Try.func57 (stT HS) H (fun t1 t2 t3 t4 q b hI hB => bn.calls g _ _ _ _ t1 t2 t3 t4 q b w0 _ hI hB) ?_; clear HS H; intro t1 t2 t3 t4 q b w' HS H; (try dsimp only at H)) | ((with_reducible refine gC 56 rfl ?_); refine sU 56 rfl Try.func56 (stT HS) H (fun q b hI hB => aC.calls g _ _ _ _ q b w0 _ hI hB) ?_; clear HS H; intro q b w' HS H; (try dsimp only at H)) | ((with_reducible refine gC 83 rfl ?_); refine sL 83 rfl Try.func83 (stT HS) H (fun t q b hI hB h => toL (HF.expr g _ _ _ t q b w0 _ hI hB h)) ?_; clear HS H; intro t q b w' A c HS H; (try dsimp only at H)) | ((with_reducible refine gC 78 rfl ?_); refine sL 78 rfl Try.func78 (stT HS) H (fun t q b hI hB h => toL (HF.block g _ _ _ t q b w0 _ hI hB h)) ?_; clear HS H; intro t q b w' A c HS H; (try dsimp only at H)) | ((with_reducible refine gC 82 rfl ?_); refine sL 82 rfl Try.func82 (stT HS) H (fun t q b hI hB h => xK F HF _ g _ _ _ _ _ _ _ _ t q b w0 _ hI hB h) ?_; clear HS H; intro t q b w' A c HS H; (try dsimp only at H)) | ((with_reducible refine gC 84 rfl ?_); refine sL 84 rfl Try.func84 (stT HS) H (fun t q b hI hB h => Jb _ g _ _ _ _ t q b w0 _ hI hB h) ?_; clear HS H; intro t q b w' A c HS H; (try dsimp only at H)) | ((with_reducible refine gC 85 rfl ?_); refine sL 85 rfl Try.func85 (stT HS) H (fun t q b hI hB h => FT F HF _ g _ _ _ t q b w0 _ hI hB h) ?_; clear HS H; intro t q b w' A c HS H; (try dsimp only at H)) | ((with_reducible refine bF (N := 46) rfl ?_); refine o6 (N := 46) (stT HS) (by first | (go_simp; done) | (go_simp; rfl)) ?_; clear HS; intro A c w' HS; replace H := hB H; (try dsimp only at H)) | ((with_reducible refine bF (N := 50) rfl ?_); refine o6 (N := 50) (stT HS) (by first | (go_simp; done) | (go_simp; rfl)) ?_; clear HS; intro A c w' HS) | ((with_reducible refine dO (b := .append) (xs := #[.tmp 47, .tmp 50]) rfl ?_); at_builtin; refine zo (N := 51) (.tmp 47) (.tmp 50) rfl Try.underlying86 info22 (stT HS) rfl rfl H ?_; clear HS H; intro A c w' HS H; (try replace H := hB H); (try dsimp only at H)) | ((with_reducible refine bF (N := 57) rfl ?_); refine o6 (N := 57) (stT HS) (by first | (go_simp; done) | (go_simp; rfl)) ?_; clear HS; intro A c w' HS) | ((with_reducible refine dO (b := .append) (xs := #[.tmp 54, .tmp 57]) rfl ?_); at_builtin; refine zo (N := 58) (.tmp 54) (.tmp 57) rfl Try.underlying86 info22 (stT HS) rfl rfl H ?_; clear HS H; intro A c w' HS H; (try replace H := hB H); (try dsimp only at H)) | ((with_reducible refine bF (N := 71) rfl ?_); refine G8 (N := 71) (stT HS) (by first | (go_simp; done) | (go_simp; rfl)) ?_; clear HS; intro A c w' HS) | ((with_reducible refine gC 61 rfl ?_); refine sJ 61 rfl Try.func61 (stT HS) H (fun t hr hc => az.calls _ _ _ _ _ _ _ _ _ t _ hr hc) ?_; clear HS H; intro t w' A c HS H; (try dsimp only at H)))
 all_goals
  have h_ := H.out; simp only [Option.some.injEq, Prod.mk.injEq] at h_; obtain ⟨rfl, rfl, rfl⟩ := h_
  go_ret
  exact (stT HS).lu (.head _)
end Go.Proofs.Ytlenihbmafkegaa.Q
end
section
set_option linter.unusedVariables false
set_option linter.unusedSimpArgs false
namespace Go.Proofs.Ytlenihbmafkegaa.Q
open Go Go.RowKit Go.Proofs.YtlenihbmafkegaaW.PrintWords Go.Proofs.YtlenihbmafkegaaW.PrintLast Go.Proofs.YtlenihbmafkegaaW.PrintMore
attribute [local go_sem] pG pF pz pg
set_option maxHeartbeats 8000000 in
set_option maxRecDepth 100000 in
theorem zV (F : Fam) (HF : kz F) (k : Nat) (g : Nat) (s0 : List S56) (s1 : Int) (s2 : Bool) (r : List S40) (e1 : Int) (e2 : Bool) (w0 w : World) (hI : Rd 72 w0 w g s0 s1 s2) (hB : Below w0.heap.size w0 w) (h : aJ.f F k s0 s1 s2 = some (r, e1, e2)) :
 Calls Try.prog 78 #[.pointer (some ⟨g, 0, none⟩)] w (Back 72 w0 w g s0 e1 e2 (IsL w r)) := by
 unfold aJ.f at h
 have HS := St.new (T := 72) (by decide) hI hB
 have H := ae.mk h
 clear h hI hB
 go_enter Try.func78, Try.ntmps78
 go_wp2_with (first | ((with_reducible refine gC 56 rfl ?_); refine sU 56 rfl Try.func56 (stT HS) H (fun q b hI hB => aC.calls g _ _ _ _ q b w0 _ hI hB) ?_; clear HS H; intro q b w' HS H; (try dsimp only at H)))
 (try simp only [Act.put, List.setIfInBounds_toArray, List.set_cons_zero, List.set_cons_succ])
 go_loopg [3] k (fun kq v3 w' => ∃ (x3 : List (List S40)) (p : Int) (d : Bool) (A : Option Addr) (c : Nat), v3 = .slice A x3.length c ∧ ae (aJ.l0 F kq x3 s0 p d = some (r, e1, e2)) ∧ ae (kq ≤ k) ∧ St 72 w0 w w' g s0 p d [] [(.slice A x3.length c, x3)] ⟨[], []⟩)
 case atStart => exact ⟨[], _, _, none, 0, rfl, H, ⟨Nat.le_refl _⟩, (stT HS).clear.yE⟩
 case round =>
  clear HS H
  obtain ⟨x3, p, d, A, c, rfl, H, HK1, HS⟩ := hrel
  cases gk with
  | zero => exact absurd H.out (by simp [aJ.l0])
  | succ k1 =>
   simp only [aJ.l0] at H
   have hc2 := HS.rd.cell2
   all_goals
    cases d <;> (try simp only [if_true, if_false, eq_self, Bool.false_eq_true, Bool.not_true, Bool.not_false] at H)
   all_goals go_wp2_with (first | (go_at_call 75; refine cX (stT HS) H (fun t q b hI hB => bi.calls g _ _ _ t q b w0 _ hI hB) ?_; clear HS H; intro t q b w' HS H; (try dsimp only at H); rcases tS t ([125] : List UInt8) with ⟨c, cb1, cn1⟩ | ⟨c, cb1, cn1⟩; replace H := hI c H; clear c; rotate_left; replace H := hE c H; clear c) | ((with_reducible refine gC 56 rfl ?_); refine sU 56 rfl Try.func56 (stT HS) H (fun q b hI hB => aC.calls g _ _ _ _ q b w0 _ hI hB) ?_; clear HS H; intro q b w' HS H; (try dsimp only at H)) | ((with_reducible refine gC 81 rfl ?_); refine sL 81 rfl Try.func81 (stT HS) H (fun t q b hI hB h => IX F HF _ g _ _ _ t q b w0 _ hI hB h) ?_; clear HS H; intro t q b w' A c HS H; (try dsimp only at H)) | ((with_reducible refine bF (N := 19) rfl ?_); refine o6 (N := 19) (stT HS) (by first | (go_simp; done) | (go_simp; rfl)) ?_; clear HS; intro A c w' HS) | ((with_reducible refine dO (b := .append) (xs := #[.tmp 16, .tmp 19]) rfl ?_); at_builtin; refine zo (N := 20) (.tmp 16) (.tmp 19) rfl Try.underlying86 info22 (stT HS) rfl rfl H ?_; clear HS H; intro A c w' HS H; (try replace H := hB H); (try dsimp only at H)) | ((with_reducible refine gC 61 rfl ?_); refine sJ 61 rfl Try.func61 (stT HS) H (fun t hr hc => az.calls _ _ _ _ _ _ _ _ _ t _ hr hc) ?_; clear HS H; intro t w' A c HS H; (try dsimp only at H)))
   all_goals first
    | (go_roundg k1; (case measure => have := HK1.out; omega); (case rel => exact ⟨_, _, _, _, _, by first | rfl | simp, H, ⟨by have := HK1.out; omega⟩, stT HS⟩))
    | (have h_ := H.out; simp only [Option.some.injEq, Prod.mk.injEq] at h_; obtain ⟨rfl, rfl, rfl⟩ := h_; go_ret; exact (stT HS).lu (.head _))
theorem aJ.calls (F : Fam) (HF : kz F) (k : Nat) (g : Nat) (s0 : List S56) (s1 : Int) (s2 : Bool) (r1 : List S40) (r2 : Int) (r3 : Bool) (w0 w : World) (hI : aY w0 w g s0 s1 s2) (hB : Below w0.heap.size w0 w) (h : aJ.f F k s0 s1 s2 = some (r1, r2, r3)) : Reads 78 #[] g s0 r1 r2 r3 w0 w :=
 ofL (zV F HF k g s0 s1 s2 r1 r2 r3 w0 w hI hB h)
end Go.Proofs.Ytlenihbmafkegaa.Q
end
section
set_option linter.unusedVariables false
set_option linter.unusedSimpArgs false
namespace Go.Proofs.Ytlenihbmafkegaa.Q
open Go Go.RowKit Go.Proofs.YtlenihbmafkegaaW.PrintWords Go.Proofs.YtlenihbmafkegaaW.PrintLast Go.Proofs.YtlenihbmafkegaaW.PrintMore
attribute [local go_sem] pG pF pz pg
set_option maxHeartbeats 8000000 in
set_option maxRecDepth 100000 in
theorem FV (k : Nat) (g : Nat) (s0 : List S56) (s1 : Int) (s2 : Bool) (r : List (List S40)) (e1 : Int) (e2 : Bool) (w0 w : World) (hI : Rd 72 w0 w g s0 s1 s2) (hB : Below w0.heap.size w0 w) (h : dX.f k s0 s1 s2 = some (r, e1, e2)) :
 Calls Try.prog 76 #[.pointer (some ⟨g, 0, none⟩), .func (.func 77) #[.pointer (some ⟨g, 0, none⟩)] #[]] w (Back 72 w0 w g s0 e1 e2 (IsK w g r)) := by
 unfold dX.f at h
 have HS := St.new (T := 72) (by decide) hI hB
 have H := ae.mk h
 clear h hI hB
 go_enter Try.func76, Try.ntmps76
 go_wp2_with (first | ((with_reducible refine gC 56 rfl ?_); refine sU 56 rfl Try.func56 (stT HS) H (fun q b hI hB => aC.calls g _ _ _ _ q b w0 _ hI hB) ?_; clear HS H; intro q b w' HS H; (try dsimp only at H)))
 (try simp only [Act.put, List.setIfInBounds_toArray, List.set_cons_zero, List.set_cons_succ])
 go_loopg [5] k (fun kq v3 w' => ∃ (x3 : List (List S40)) (p : Int) (d : Bool) (A : Option Addr) (c : Nat), v3 = .slice A x3.length c ∧ ae (dX.l0 kq x3 s0 p d = some (r, e1, e2)) ∧ ae (kq ≤ k) ∧ St 72 w0 w w' g s0 p d [] [(.slice A x3.length c, x3)] ⟨[], []⟩)
 case atStart => exact ⟨[], _, _, none, 0, rfl, H, ⟨Nat.le_refl _⟩, (stT HS).clear.yE⟩
 case round =>
  clear HS H
  obtain ⟨x3, p, d, A, c, rfl, H, HK1, HS⟩ := hrel
  cases gk with
  | zero => exact absurd H.out (by simp [dX.l0])
  | succ k1 =>
   simp only [dX.l0] at H
   cases k1 with
   | zero => exact absurd H.out (by cases d <;> simp [dX.j1])
   | succ k2 =>
   simp only [dX.j1] at H
   have hc2 := HS.rd.cell2
   by_cases hx : (x3.length : Int) > 0
   all_goals
    simp only [hx, if_true, if_false] at H
    first | (have hxb : decide (0 < (x3.length : Int)) = true := decide_eq_true hx; have hxc : decide (0 < x3.length) = true := decide_eq_true (by omega)) | (have hxb : decide (0 < (x3.length : Int)) = false := decide_eq_false hx; have hxc : decide (0 < x3.length) = false := decide_eq_false (by omega))
    clear hx
   all_goals
    cases d <;> (try simp only [if_true, if_false, eq_self, Bool.false_eq_true, Bool.not_true, Bool.not_false] at H)
   all_goals go_wp2_with (first | (go_at_call 75; refine cX (stT HS) H (fun t q b hI hB => bi.calls g _ _ _ t q b w0 _ hI hB) ?_; clear HS H; intro t q b w' HS H; (try dsimp only at H); rcases tS t ([41] : List UInt8) with ⟨c, cb1, cn1⟩ | ⟨c, cb1, cn1⟩ <;> (simp only [cn1, if_true, if_false, eq_self, Bool.false_eq_true] at H; clear c)) | ((with_reducible refine gC 56 rfl ?_); refine sU 56 rfl Try.func56 (stT HS) H (fun q b hI hB => aC.calls g _ _ _ _ q b w0 _ hI hB) ?_; clear HS H; intro q b w' HS H; (try dsimp only at H)) | (go_at_call 77; refine cL (stT HS) H (fun t q b hI hB h => FU _ g _ _ _ t q b w0 _ hI hB h) ?_; clear HS H; intro t q b w' A c HS H; (try dsimp only at H)) | ((with_reducible refine bF (N := 26) rfl ?_); refine o6 (N := 26) (stT HS) (by first | (go_simp; done) | (go_simp; rfl)) ?_; clear HS; intro A c w' HS) | ((with_reducible refine dO (b := .append) (xs := #[.tmp 23, .tmp 26]) rfl ?_); at_builtin; refine zo (N := 27) (.tmp 23) (.tmp 26) rfl Try.underlying86 info22 (stT HS) rfl rfl H ?_; clear HS H; intro A c w' HS H; (try replace H := hB H); (try dsimp only at H)))
   all_goals first
    | (go_roundg k2; (case measure => have := HK1.out; omega); (case rel => exact ⟨_, _, _, _, _, by first | rfl | simp, H, ⟨by have := HK1.out; omega⟩, stT HS⟩))
    | (have h_ := H.out; simp only [Option.some.injEq, Prod.mk.injEq] at h_; obtain ⟨rfl, rfl, rfl⟩ := h_; go_ret; exact (stT HS).KP)
end Go.Proofs.Ytlenihbmafkegaa.Q
end
section
set_option linter.unusedVariables false
set_option linter.unusedSimpArgs false
namespace Go.Proofs.Ytlenihbmafkegaa.Q
open Go Go.RowKit Go.Proofs.YtlenihbmafkegaaW.PrintWords Go.Proofs.YtlenihbmafkegaaW.PrintLast Go.Proofs.YtlenihbmafkegaaW.PrintMore
attribute [local go_sem] pG pF pz pg
set_option maxHeartbeats 8000000 in
set_option maxRecDepth 100000 in
theorem uD (F : Fam) (HF : kz F) (k : Nat) (g : Nat) (s0 : List S56) (s1 : Int) (s2 : Bool) (a0 : Int) (a1 : Int) (a2 : ByteArray) (a3 : Int) (a4 : ByteArray) (r : List S40) (e1 : Int) (e2 : Bool) (w0 w : World) (hI : Rd 72 w0 w g s0 s1 s2) (hB : Below w0.heap.size w0 w) (h : aZ.f F k s0 s1 s2 a0 a1 a2 a3 a4 = some (r, e1, e2)) :
 Calls Try.prog 60 #[.pointer (some ⟨g, 0, none⟩), .agg #[.int .i64 a0, .int .i64 a1, .string a2, .int .i64 a3, .string a4]] w (Back 72 w0 w g s0 e1 e2 (IsL w r)) := by
 unfold aZ.f at h
 have HS := St.new (T := 72) (by decide) hI hB
 have H := ae.mk h
 clear h hI hB
 go_enter Try.func60, Try.ntmps60
 go_wp2_with (first | ((with_reducible refine bF (N := 3) rfl ?_); refine boxS (N := 3) (stT HS) (by first | (go_simp; done) | (go_simp; rfl)) ?_; clear HS; intro gb w' HS hne hge; (try (have hb_ := HS.box rfl; have hx0 := (ah hb_ 0).trans rfl; have hf0 := af hb_ 0; have hx1 := (ah hb_ 1).trans rfl; have hf1 := af hb_ 1; have hx2 := (ah hb_ 2).trans rfl; have hf2 := af hb_ 2; have hx3 := (ah hb_ 3).trans rfl; have hf3 := af hb_ 3; have hx4 := (ah hb_ 4).trans rfl; have hf4 := af hb_ 4; clear hb_))) | ((with_reducible refine gC 76 rfl ?_); refine sK 76 rfl Try.func76 (stX HS) H (fun t q b hI hB h => FV _ g _ _ _ t q b w0 _ hI hB h) ?_; (try clear hx0 hx1 hx2 hx3 hx4 hf0 hf1 hf2 hf3 hf4); clear HS H; intro t q b w' A c HS H; (try dsimp only at H); (try (have hb_ := HS.box rfl; have hx0 := (ah hb_ 0).trans rfl; have hf0 := af hb_ 0; have hx1 := (ah hb_ 1).trans rfl; have hf1 := af hb_ 1; have hx2 := (ah hb_ 2).trans rfl; have hf2 := af hb_ 2; have hx3 := (ah hb_ 3).trans rfl; have hf3 := af hb_ 3; have hx4 := (ah hb_ 4).trans rfl; have hf4 := af hb_ 4; clear hb_))))
 (try simp only [Act.put, List.setIfInBounds_toArray, List.set_cons_zero, List.set_cons_succ])
 go_region_held3 (fun w' => w'.cell? ⟨gb, 0, none⟩ = some (.int .i64 a0) ∧ w'.cell? ⟨gb, 1, none⟩ = some (.int .i64 a1) ∧ w'.cell? ⟨gb, 2, none⟩ = some (.string a2) ∧ w'.cell? ⟨gb, 3, none⟩ = some (.int .i64 a3) ∧ w'.cell? ⟨gb, 4, none⟩ = some (.string a4)) (first | exact ⟨hx0, hx1, hx2, hx3, hx4⟩ | go_keep) (first | (go_at_call 78; refine cL (stT HS) H (fun t q b hI hB h => zV F HF _ g _ _ _ t q b w0 _ hI hB h) ?_; (try clear hx0 hx1 hx2 hx3 hx4 hf0 hf1 hf2 hf3 hf4); clear HS H; intro t q b w' A c HS H; (try dsimp only at H); (try (have hb_ := HS.box rfl; have hx0 := (ah hb_ 0).trans rfl; have hf0 := af hb_ 0; have hx1 := (ah hb_ 1).trans rfl; have hf1 := af hb_ 1; have hx2 := (ah hb_ 2).trans rfl; have hf2 := af hb_ 2; have hx3 := (ah hb_ 3).trans rfl; have hf3 := af hb_ 3; have hx4 := (ah hb_ 4).trans rfl; have hf4 := af hb_ 4; clear hb_))) | (go_at_call 61; obtain rfl := hn.out; refine cJ (stT HS) H (fun t hr hc => az.calls _ _ _ _ _ _ _ _ _ t _ hr hc) ?_; (try clear hx0 hx1 hx2 hx3 hx4 hf0 hf1 hf2 hf3 hf4); clear HS H; intro t w' A c HS hb H; (try dsimp only at H); clear hb; (try (have hb_ := HS.box rfl; have hx0 := (ah hb_ 0).trans rfl; have hf0 := af hb_ 0; have hx1 := (ah hb_ 1).trans rfl; have hf1 := af hb_ 1; have hx2 := (ah hb_ 2).trans rfl; have hf2 := af hb_ 2; have hx3 := (ah hb_ 3).trans rfl; have hf3 := af hb_ 3; have hx4 := (ah hb_ 4).trans rfl; have hf4 := af hb_ 4; clear hb_))) | (refine OO (N := 15) (.tmp 11) (.tmp 14) rfl Try.underlying86 info22 HS.NP (by rfl) rfl rfl H ?_; (try clear hx0 hx1 hx2 hx3 hx4 hf0 hf1 hf2 hf3 hf4); clear HS H; intro A c w' n hn HS H; (try (have hb_ := HS.box rfl; have hx0 := (ah hb_ 0).trans rfl; have hf0 := af hb_ 0; have hx1 := (ah hb_ 1).trans rfl; have hf1 := af hb_ 1; have hx2 := (ah hb_ 2).trans rfl; have hf2 := af hb_ 2; have hx3 := (ah hb_ 3).trans rfl; have hf3 := af hb_ 3; have hx4 := (ah hb_ 4).trans rfl; have hf4 := af hb_ 4; clear hb_))))
 go_wp2
 all_goals
  have h_ := H.out; simp only [Option.some.injEq, Prod.mk.injEq] at h_; obtain ⟨rfl, rfl, rfl⟩ := h_
  go_ret
  exact (stT HS).lu (.head _)
end Go.Proofs.Ytlenihbmafkegaa.Q
end
section
namespace Go.Proofs.Ytlenihbmafkegaa.Q
open Go.RowKit Go.Proofs.YtlenihbmafkegaaW.PrintWords Go.Proofs.YtlenihbmafkegaaW.PrintLast Go.Proofs.YtlenihbmafkegaaW.PrintMore
attribute [local go_sem] jE jD jC jB df cO dI dH bV bU cZ cu
set_option linter.unusedVariables false
set_option linter.unusedSimpArgs false
/-! ### dK: function 89 -/
def dK.f (F : Fam) (k : Nat) (s0_0 : List (S56)) (s0_1 : Int) (s0_2 : Bool) : Option ((List (S40)) × Int × Bool) := (bi.f s0_0 s0_1 s0_2).bind fun bt682 => (if bt682.1.toList = ([110, 105, 108] : List UInt8) then ((aG.f s0_0 bt682.2.1 bt682.2.2 bt682.1).bind fun bt685 => ((az.f k 18 0 (⟨#[]⟩ : ByteArray) 0 (⟨#[]⟩ : ByteArray) ([] : List (List (S40)))).bind fun t688 => (some (t688, bt685.2.1, bt685.2.2)))) else (if bt682.1.toList = ([115, 116, 97, 116, 101] : List UInt8) then ((aG.f s0_0 bt682.2.1 bt682.2.2 bt682.1).bind fun bt691 => ((az.f k 29 0 (⟨#[]⟩ : ByteArray) 0 (⟨#[]⟩ : ByteArray) ([] : List (List (S40)))).bind fun t694 => (some (t694, bt691.2.1, bt691.2.2)))) else (if bt682.1.toList = ([123] : List UInt8) then ((aG.f s0_0 bt682.2.1 bt682.2.2 bt682.1).bind fun bt697 => ((aC.f s0_0 bt697.2.1 bt697.2.2 (⟨#[125]⟩ : ByteArray)).bind fun bt700 => ((az.f k 25 0 (⟨#[]⟩ : ByteArray) 0 (⟨#[]⟩ : ByteArray) ([] : List (List (S40)))).bind fun t702 => (some (t702, bt700.1, bt700.2))))) else (if bt682.1.toList = ([102, 110] : List UInt8) then ((aG.f s0_0 bt682.2.1 bt682.2.2 bt682.1).bind fun bt705 => ((aZ.f F k s0_0 bt705.2.1 bt705.2.2 24 0 (⟨#[]⟩ : ByteArray) 0 (⟨#[]⟩ : ByteArray)).bind fun bt708 => (some (bt708.1, bt708.2.1, bt708.2.2)))) else (if bt682.1.toList = ([40] : List UInt8) then ((aG.f s0_0 bt682.2.1 bt682.2.2 bt682.1).bind fun bt713 => ((iO.f F k s0_0 bt713.2.1 bt713.2.2).bind fun bt716 => ((aC.f s0_0 bt716.2.1 bt716.2.2 (⟨#[41]⟩ : ByteArray)).bind fun bt721 => (some (bt716.1, bt721.1, bt721.2))))) else ((dU.f F k s0_0 bt682.2.1 bt682.2.2).bind fun bt723 => (some (bt723.1, bt723.2.1, bt723.2.2))))))))
theorem dK.mono {F F' : Fam} (HLE : jQ F F') : ∀ a0 a1 a2 k, LeO (dK.f F k a0 a1 a2) (dK.f F' (k + 1) a0 a1 a2) := by
 intro a0 a1 a2 k
 unfold dK.f
 have m0 := az.mono
 have m1 := (aZ.mono HLE)
 have m2 := (dU.mono HLE)
 have m3 := (iO.mono HLE)
 exact yL
-- BY HAND: function 94 (runtime_errorString_RuntimeError)
end Go.Proofs.Ytlenihbmafkegaa.Q
end
section
set_option linter.unusedVariables false
set_option linter.unusedSimpArgs false
namespace Go.Proofs.Ytlenihbmafkegaa.Q
open Go Go.RowKit Go.Proofs.YtlenihbmafkegaaW.PrintWords Go.Proofs.YtlenihbmafkegaaW.PrintLast Go.Proofs.YtlenihbmafkegaaW.PrintMore
attribute [local go_sem] pG pF pz pg
set_option maxHeartbeats 8000000 in
set_option maxRecDepth 100000 in
theorem IY (F : Fam) (HF : kz F) (k : Nat) (g : Nat) (s0 : List S56) (s1 : Int) (s2 : Bool) (r : List S40) (e1 : Int) (e2 : Bool) (w0 w : World) (hI : Rd 72 w0 w g s0 s1 s2) (hB : Below w0.heap.size w0 w) (h : dK.f F k s0 s1 s2 = some (r, e1, e2)) :
 Calls Try.prog 89 #[.pointer (some ⟨g, 0, none⟩)] w (Back 72 w0 w g s0 e1 e2 (IsL w r)) := by
 unfold dK.f at h
 have HS := St.new (T := 72) (by decide) hI hB
 have H := ae.mk h
 clear h hI hB
 go_enter Try.func89, Try.ntmps89
 go_wp2_with (first | ((with_reducible refine gC 75 rfl ?_); refine sS 75 rfl Try.func75 (stT HS) H (fun t q b hI hB => bi.calls g _ _ _ t q b w0 _ hI hB) ?_; clear HS H; intro t q b w' HS H; (try dsimp only at H); rcases tS t ([110, 105, 108] : List UInt8) with ⟨c, cb1, cn1⟩ | ⟨c, cb1, cn1⟩; replace H := hI c H; clear c; rotate_left; replace H := hE c H; clear c; rcases tS t ([115, 116, 97, 116, 101] : List UInt8) with ⟨c, cb2, cn2⟩ | ⟨c, cb2, cn2⟩; replace H := hI c H; clear c; rotate_left; replace H := hE c H; clear c; rcases tS t ([123] : List UInt8) with ⟨c, cb3, cn3⟩ | ⟨c, cb3, cn3⟩; replace H := hI c H; clear c; rotate_left; replace H := hE c H; clear c; rcases tS t ([102, 110] : List UInt8) with ⟨c, cb4, cn4⟩ | ⟨c, cb4, cn4⟩; replace H := hI c H; clear c; rotate_left; replace H := hE c H; clear c; rcases tS t ([40] : List UInt8) with ⟨c, cb5, cn5⟩ | ⟨c, cb5, cn5⟩; replace H := hI c H; clear c; rotate_left; replace H := hE c H; clear c) | ((with_reducible refine gC 58 rfl ?_); refine sB 58 rfl Try.func58 (stT HS) H (fun t q b hI hB => aG.calls g _ _ _ _ t q b w0 _ hI hB) ?_; clear HS H; intro t q b w' HS H; (try dsimp only at H)) | ((with_reducible refine gC 61 rfl ?_); refine sJ 61 rfl Try.func61 (stT HS).yE H (fun t hr hc => az.calls _ _ _ _ _ _ _ _ _ t _ hr hc) ?_; clear HS H; intro t w' A c HS H; (try dsimp only at H)) | ((with_reducible refine gC 56 rfl ?_); refine sU 56 rfl Try.func56 (stT HS) H (fun q b hI hB => aC.calls g _ _ _ _ q b w0 _ hI hB) ?_; clear HS H; intro q b w' HS H; (try dsimp only at H)) | ((with_reducible refine gC 60 rfl ?_); refine sL 60 rfl Try.func60 (stT HS) H (fun t q b hI hB h => uD F HF _ g _ _ _ _ _ _ _ _ t q b w0 _ hI hB h) ?_; clear HS H; intro t q b w' A c HS H; (try dsimp only at H)) | ((with_reducible refine gC 83 rfl ?_); refine sL 83 rfl Try.func83 (stT HS) H (fun t q b hI hB h => toL (HF.expr g _ _ _ t q b w0 _ hI hB h)) ?_; clear HS H; intro t q b w' A c HS H; (try dsimp only at H)) | ((with_reducible refine gC 90 rfl ?_); refine sL 90 rfl Try.func90 (stT HS) H (fun t q b hI hB h => IZ F HF _ g _ _ _ t q b w0 _ hI hB h) ?_; clear HS H; intro t q b w' A c HS H; (try dsimp only at H)))
 all_goals
  have h_ := H.out; simp only [Option.some.injEq, Prod.mk.injEq] at h_; obtain ⟨rfl, rfl, rfl⟩ := h_
  go_ret
  exact (stT HS).lu (.head _)
end Go.Proofs.Ytlenihbmafkegaa.Q
end
section
namespace Go.Proofs.Ytlenihbmafkegaa.Q
open Go.RowKit Go.Proofs.YtlenihbmafkegaaW.PrintWords Go.Proofs.YtlenihbmafkegaaW.PrintLast Go.Proofs.YtlenihbmafkegaaW.PrintMore
attribute [local go_sem] jE jD jC jB df cO dI dH bV bU cZ cu
set_option linter.unusedVariables false
set_option linter.unusedSimpArgs false
/-! ### ax: function 87 -/
mutual
def ax.j0 (F : Fam) : Nat → ByteArray → ByteArray → Bool → List (S56) → Int → Bool → Option ((List (S40)) × Int × Bool)
 | 0, _, _, _, _, _, _ => none
 | k + 1, x3, x8, x9, x1000, x1001, x1002 => if x9 = true then ((aG.f x1000 x1001 x1002 x3).bind fun bt731 => ((oh.f F k x1000 bt731.2.1 bt731.2.2).bind fun bt734 => ((az.f k 28 0 (⟨#[]⟩ : ByteArray) 0 x3 (([bt734.1] : List (List (S40))))).bind fun t742 => (some (t742, bt734.2.1, bt734.2.2))))) else (if x8.toList = ([115, 112, 97, 119, 110] : List UInt8) then ((aG.f x1000 x1001 x1002 x3).bind fun bt745 => ((oh.f F k x1000 bt745.2.1 bt745.2.2).bind fun bt748 => ((az.f k 30 0 (⟨#[]⟩ : ByteArray) 0 (⟨#[]⟩ : ByteArray) (([bt748.1] : List (List (S40))))).bind fun t756 => (some (t756, bt748.2.1, bt748.2.2))))) else ((dK.f F k x1000 x1001 x1002).bind fun bt759 => (ax.l0 F k bt759.1 x1000 bt759.2.1 bt759.2.2)))
def ax.l0 (F : Fam) : Nat → List (S40) → List (S56) → Int → Bool → Option ((List (S40)) × Int × Bool)
 | 0, _, _, _, _ => none
 | k + 1, x4, x1000, x1001, x1002 => if x1002 = true then (some (x4, x1001, x1002)) else ((bi.f x1000 x1001 x1002).bind fun bt764 => (if bt764.1.toList = ([40] : List UInt8) then ((some (([x4] : List (List (S40))) : List (List (S40)))).bind fun y767 => ((eX.f F k x1000 bt764.2.1 bt764.2.2).bind fun bt770 => (if y767.length + bt770.1.length < 5864062014805 then ((az.f k 22 0 (⟨#[]⟩ : ByteArray) 0 (⟨#[]⟩ : ByteArray) (y767 ++ bt770.1)).bind fun t778 => (ax.l0 F k t778 x1000 bt770.2.1 bt770.2.2)) else (none)))) else (if bt764.1.toList = ([91] : List UInt8) then ((aG.f x1000 bt764.2.1 bt764.2.2 (⟨#[91]⟩ : ByteArray)).bind fun bt781 => ((iO.f F k x1000 bt781.2.1 bt781.2.2).bind fun bt784 => ((az.f k 26 0 (⟨#[]⟩ : ByteArray) 0 (⟨#[]⟩ : ByteArray) (([x4, bt784.1] : List (List (S40))))).bind fun t792 => ((aC.f x1000 bt784.2.1 bt784.2.2 (⟨#[93]⟩ : ByteArray)).bind fun bt795 => (ax.l0 F k t792 x1000 bt795.1 bt795.2))))) else (some (x4, bt764.2.1, bt764.2.2)))))
end
def ax.f (F : Fam) (k : Nat) (s0_0 : List (S56)) (s0_1 : Int) (s0_2 : Bool) : Option ((List (S40)) × Int × Bool) := (bi.f s0_0 s0_1 s0_2).bind fun bt728 => (if bt728.1.toList = ([45] : List UInt8) then (ax.j0 F k bt728.1 bt728.1 (bt728.1.toList == ([45] : List UInt8)) s0_0 bt728.2.1 bt728.2.2) else (if bt728.1.toList = ([110, 111, 116] : List UInt8) then (ax.j0 F k bt728.1 bt728.1 (bt728.1.toList == ([110, 111, 116] : List UInt8)) s0_0 bt728.2.1 bt728.2.2) else (ax.j0 F k bt728.1 bt728.1 (bt728.1.toList == ([108, 101, 110] : List UInt8)) s0_0 bt728.2.1 bt728.2.2)))
theorem ax.bW {F F' : Fam} (HLE : jQ F F') : ∀ k, (∀ y0 y1 y2 y3 y4 y5, LeO (ax.j0 F k y0 y1 y2 y3 y4 y5) (ax.j0 F' (k + 1) y0 y1 y2 y3 y4 y5)) ∧ (∀ y0 y1 y2 y3, LeO (ax.l0 F k y0 y1 y2 y3) (ax.l0 F' (k + 1) y0 y1 y2 y3))
 | 0 => ⟨fun _ _ _ _ _ _ r h => by simp [ax.j0] at h, fun _ _ _ _ r h => by simp [ax.l0] at h⟩
 | k + 1 => by
  obtain ⟨ih0, ih1⟩ := ax.bW HLE k
  refine ⟨?_, ?_⟩
  ·intro y0 y1 y2 y3 y4 y5
   unfold ax.j0
   have m0 := az.mono
   have m1 := (dK.mono HLE)
   have m2 := (eX.mono HLE)
   have m3 := (iO.mono HLE)
   have m4 := (oh.mono HLE)
   exact yL
  intro y0 y1 y2 y3
  unfold ax.l0
  have m0 := az.mono
  have m1 := (dK.mono HLE)
  have m2 := (eX.mono HLE)
  have m3 := (iO.mono HLE)
  have m4 := (oh.mono HLE)
  exact yL
theorem ax.mono {F F' : Fam} (HLE : jQ F F') : ∀ a0 a1 a2 k, LeO (ax.f F k a0 a1 a2) (ax.f F' (k + 1) a0 a1 a2) := by
 intro a0 a1 a2 k
 obtain ⟨ih0, ih1⟩ := ax.bW HLE k
 unfold ax.f
 have m0 := az.mono
 have m1 := (dK.mono HLE)
 have m2 := (eX.mono HLE)
 have m3 := (iO.mono HLE)
 have m4 := (oh.mono HLE)
 exact yL
end Go.Proofs.Ytlenihbmafkegaa.Q
end
section
set_option linter.unusedVariables false
set_option linter.unusedSimpArgs false
namespace Go.Proofs.Ytlenihbmafkegaa.Q
open Go Go.RowKit Go.Proofs.YtlenihbmafkegaaW.PrintWords Go.Proofs.YtlenihbmafkegaaW.PrintLast Go.Proofs.YtlenihbmafkegaaW.PrintMore
attribute [local go_sem] pG pF pz pg
set_option maxHeartbeats 8000000 in
set_option maxRecDepth 100000 in
theorem zS (F : Fam) (HF : kz F) (k : Nat) (g : Nat) (s0 : List S56) (s1 : Int) (s2 : Bool) (r : List S40) (e1 : Int) (e2 : Bool) (w0 w : World) (hI : Rd 72 w0 w g s0 s1 s2) (hB : Below w0.heap.size w0 w) (h : ax.f F k s0 s1 s2 = some (r, e1, e2)) :
 Calls Try.prog 87 #[.pointer (some ⟨g, 0, none⟩)] w (Back 72 w0 w g s0 e1 e2 (IsL w r)) := by
 unfold ax.f at h
 have HS := St.new (T := 72) (by decide) hI hB
 have H := ae.mk h
 clear h hI hB
 go_enter Try.func87, Try.ntmps87
 go_wp2_with (first | ((with_reducible refine gC 75 rfl ?_); refine sS 75 rfl Try.func75 (stT HS) H (fun t q b hI hB => bi.calls g _ _ _ t q b w0 _ hI hB) ?_; clear HS H; intro t q b w' HS H; (try dsimp only at H); rcases tS t ([45] : List UInt8) with ⟨c, cb1, cn1⟩ | ⟨c, cb1, cn1⟩; replace H := hI c H; clear c; rcases k with _ | k; exact absurd H.out (by simp [ax.j0]); simp only [ax.j0] at H; simp only [cb1, if_true] at H; rotate_left; replace H := hE c H; clear c; rcases tS t ([110, 111, 116] : List UInt8) with ⟨c, cb2, cn2⟩ | ⟨c, cb2, cn2⟩; replace H := hI c H; clear c; rcases k with _ | k; exact absurd H.out (by simp [ax.j0]); simp only [ax.j0] at H; simp only [cb2, if_true] at H; rotate_left; replace H := hE c H; clear c; (rcases k with _ | k; exact absurd H.out (by simp [ax.j0]); simp only [ax.j0] at H); rcases tS t ([108, 101, 110] : List UInt8) with ⟨c, cb3, cn3⟩ | ⟨c, cb3, cn3⟩; clear c; simp only [cb3, if_true] at H; rotate_left; clear c; simp only [cb3, Bool.false_eq_true, if_false] at H; rcases tS t ([115, 112, 97, 119, 110] : List UInt8) with ⟨c, cb4, cn4⟩ | ⟨c, cb4, cn4⟩; replace H := hI c H; clear c; rotate_left; replace H := hE c H; clear c) | ((with_reducible refine gC 58 rfl ?_); refine sB 58 rfl Try.func58 (stT HS) H (fun t q b hI hB => aG.calls g _ _ _ _ t q b w0 _ hI hB) ?_; clear HS H; intro t q b w' HS H; (try dsimp only at H)) | ((with_reducible refine gC 87 rfl ?_); refine sL 87 rfl Try.func87 (stT HS) H (fun t q b hI hB h => toL (HF.unary g _ _ _ t q b w0 _ hI hB h)) ?_; clear HS H; intro t q b w' A c HS H; (try dsimp only at H)) | ((with_reducible refine bF (N := 20) rfl ?_); refine o6 (N := 20) (stT HS) (by first | (go_simp; done) | (go_simp; rfl)) ?_; clear HS; intro A c w' HS) | ((with_reducible refine bF (N := 30) rfl ?_); refine o6 (N := 30) (stT HS) (by first | (go_simp; done) | (go_simp; rfl)) ?_; clear HS; intro A c w' HS) | ((with_reducible refine gC 61 rfl ?_); refine sJ 61 rfl Try.func61 (stT HS) H (fun t hr hc => az.calls _ _ _ _ _ _ _ _ _ t _ hr hc) ?_; clear HS H; intro t w' A c HS H; (try dsimp only at H)) | ((with_reducible refine gC 89 rfl ?_); refine sL 89 rfl Try.func89 (stT HS) H (fun t q b hI hB h => IY F HF _ g _ _ _ t q b w0 _ hI hB h) ?_; clear HS H; intro t q b w' A c HS H; (try dsimp only at H)))
 all_goals first
  | (have h_ := H.out; simp only [Option.some.injEq, Prod.mk.injEq] at h_; obtain ⟨rfl, rfl, rfl⟩ := h_; go_ret; exact (stT HS).lu (.head _))
  | skip
 (try simp only [Act.put, List.setIfInBounds_toArray, List.set_cons_zero, List.set_cons_succ])
 go_loopg [4] k (fun kq v4 w' => ∃ (x4 : List S40) (p : Int) (d : Bool) (A : Option Addr) (c : Nat), v4 = .slice A x4.length c ∧ ae (ax.l0 F kq x4 s0 p d = some (r, e1, e2)) ∧ ae (kq ≤ k) ∧ St 72 w0 w w' g s0 p d [(.slice A x4.length c, x4)] [] ⟨[], []⟩)
 case atStart => exact ⟨_, _, _, _, _, rfl, H, ⟨Nat.le_refl _⟩, stT HS⟩
 case round =>
  clear HS H
  obtain ⟨x4, p, d, A, c, rfl, H, HK1, HS⟩ := hrel
  cases gk with
  | zero => exact absurd H.out (by simp [ax.l0])
  | succ k1 =>
   simp only [ax.l0] at H
   have hc2 := HS.rd.cell2
   cases d <;> (try simp only [if_true, if_false, eq_self, Bool.false_eq_true, Bool.not_true, Bool.not_false] at H)
   all_goals go_wp2_with (first | ((with_reducible refine gC 75 rfl ?_); refine sS 75 rfl Try.func75 (stT HS) H (fun t q b hI hB => bi.calls g _ _ _ t q b w0 _ hI hB) ?_; clear HS H; intro t1 q b w' HS H; (try dsimp only at H); rcases tS t1 ([40] : List UInt8) with ⟨c, cb5, cn5⟩ | ⟨c, cb5, cn5⟩; replace H := hI c H; clear c; rotate_left; replace H := hE c H; clear c; rcases tS t1 ([91] : List UInt8) with ⟨c, cb6, cn6⟩ | ⟨c, cb6, cn6⟩; replace H := hI c H; clear c; rotate_left; replace H := hE c H; clear c) | ((with_reducible refine bF (N := 44) rfl ?_); refine o6 (N := 44) (stT HS) (by first | (go_simp; done) | (go_simp; rfl)) ?_; clear HS; intro A c w' HS; replace H := hB H; (try dsimp only at H)) | ((with_reducible refine gC 76 rfl ?_); refine sK 76 rfl Try.func76 (stT HS) H (fun t q b hI hB h => zT F HF _ g _ _ _ t q b w0 _ hI hB h) ?_; clear HS H; intro t q b w' A c HS H; (try dsimp only at H)) | ((with_reducible refine dO (b := .append) (xs := #[.tmp 46, .tmp 50]) rfl ?_); at_builtin; refine zo (N := 51) (.tmp 46) (.tmp 50) rfl Try.underlying86 info22 (stT HS) rfl rfl H ?_; clear HS H; intro A c w' HS H; (try replace H := hB H); (try dsimp only at H)) | ((with_reducible refine gC 61 rfl ?_); refine sJ 61 rfl Try.func61 (stT HS) H (fun t hr hc => az.calls _ _ _ _ _ _ _ _ _ t _ hr hc) ?_; clear HS H; intro t w' A c HS H; (try dsimp only at H)) | ((with_reducible refine gC 58 rfl ?_); refine sB 58 rfl Try.func58 (stT HS) H (fun t q b hI hB => aG.calls g _ _ _ _ t q b w0 _ hI hB) ?_; clear HS H; intro t q b w' HS H; (try dsimp only at H)) | ((with_reducible refine gC 83 rfl ?_); refine sL 83 rfl Try.func83 (stT HS) H (fun t q b hI hB h => toL (HF.expr g _ _ _ t q b w0 _ hI hB h)) ?_; clear HS H; intro t q b w' A c HS H; (try dsimp only at H)) | ((with_reducible refine bF (N := 61) rfl ?_); refine G8 (N := 61) (stT HS) (by first | (go_simp; done) | (go_simp; rfl)) ?_; clear HS; intro A c w' HS) | ((with_reducible refine gC 56 rfl ?_); refine sU 56 rfl Try.func56 (stT HS) H (fun q b hI hB => aC.calls g _ _ _ _ q b w0 _ hI hB) ?_; clear HS H; intro q b w' HS H; (try dsimp only at H)))
   all_goals first
    | (go_roundg k1; (case measure => have := HK1.out; omega); (case rel => exact ⟨_, _, _, _, _, by first | rfl | simp, H, ⟨by have := HK1.out; omega⟩, (stT HS).KG⟩))
    | (have h_ := H.out; simp only [Option.some.injEq, Prod.mk.injEq] at h_; obtain ⟨rfl, rfl, rfl⟩ := h_; go_ret; exact (stT HS).lu (.head _))
theorem ax.calls (F : Fam) (HF : kz F) (k : Nat) (g : Nat) (s0 : List S56) (s1 : Int) (s2 : Bool) (r1 : List S40) (r2 : Int) (r3 : Bool) (w0 w : World) (hI : aY w0 w g s0 s1 s2) (hB : Below w0.heap.size w0 w) (h : ax.f F k s0 s1 s2 = some (r1, r2, r3)) : Reads 87 #[] g s0 r1 r2 r3 w0 w :=
 ofL (zS F HF k g s0 s1 s2 r1 r2 r3 w0 w hI hB h)
end Go.Proofs.Ytlenihbmafkegaa.Q
end
section
namespace Go.Proofs.Ytlenihbmafkegaa.Q
open Go.RowKit Go.Proofs.YtlenihbmafkegaaW.PrintWords Go.Proofs.YtlenihbmafkegaaW.PrintLast Go.Proofs.YtlenihbmafkegaaW.PrintMore
attribute [local go_sem] df cO dI dH bV bU cZ cu
set_option linter.unusedVariables false
set_option linter.unusedSimpArgs false
/-! ### bC: function 88 -/
mutual
def bC.j0 : Nat → ByteArray → Bool → Option (Int)
 | 0, _, _ => none
 | k + 1, x3, x8 => if x8 = true then (some 3) else (if x3.toList = ([43] : List UInt8) then (bC.j1 k x3 (x3.toList == ([43] : List UInt8))) else (if x3.toList = ([45] : List UInt8) then (bC.j1 k x3 (x3.toList == ([45] : List UInt8))) else (bC.j1 k x3 (x3.toList == ([46, 46] : List UInt8)))))
def bC.j1 : Nat → ByteArray → Bool → Option (Int)
 | 0, _, _ => none
 | k + 1, x3, x13 => if x13 = true then (some 4) else (if x3.toList = ([42] : List UInt8) then (some 5) else (if x3.toList = ([47] : List UInt8) then (some 5) else (if x3.toList = ([37] : List UInt8) then (some 5) else (some 0))))
end
def bC.f (k : Nat) (a0 : ByteArray) : Option (Int) := if a0.toList = ([111, 114] : List UInt8) then (some 1) else (if a0.toList = ([97, 110, 100] : List UInt8) then (some 2) else (if a0.toList = ([61, 61] : List UInt8) then (bC.j0 k a0 (a0.toList == ([61, 61] : List UInt8))) else (if a0.toList = ([33, 61] : List UInt8) then (bC.j0 k a0 (a0.toList == ([33, 61] : List UInt8))) else (if a0.toList = ([60] : List UInt8) then (bC.j0 k a0 (a0.toList == ([60] : List UInt8))) else (bC.j0 k a0 (a0.toList == ([60, 61] : List UInt8)))))))
theorem bC.bW : ∀ k, (∀ y0 y1, LeO (bC.j0 k y0 y1) (bC.j0 (k + 1) y0 y1)) ∧ (∀ y0 y1, LeO (bC.j1 k y0 y1) (bC.j1 (k + 1) y0 y1))
 | 0 => ⟨fun _ _ r h => by simp [bC.j0] at h, fun _ _ r h => by simp [bC.j1] at h⟩
 | k + 1 => by
  obtain ⟨ih0, ih1⟩ := bC.bW k
  refine ⟨?_, ?_⟩
  ·intro y0 y1
   unfold bC.j0
   exact yL
  intro y0 y1
  unfold bC.j1
  exact yL
theorem bC.mono : ∀ a0 k, LeO (bC.f k a0) (bC.f (k + 1) a0) := by
 intro a0 k
 obtain ⟨ih0, ih1⟩ := bC.bW k
 unfold bC.f
 exact yL
set_option maxHeartbeats 8000000 in
set_option maxRecDepth 100000 in
theorem bC.calls (k : Nat) (a0 : ByteArray) (r : Int) (w : World) (h : bC.f k a0 = some r) :
 Calls Try.prog 88 #[.string a0] w fun e w' => e = .returned (.int .i64 r) ∧ dM w w' := by
 have H := h
 clear h
 unfold bC.f at H
 revert H
 refine bu (fun c2b0 c2b1 H => ?_) fun c2 c2b0 c2b1 H => ?_
 ·obtain rfl := Option.some.inj H
  go_enter Try.func88, Try.ntmps88
  go_wp2
  go_ret
  exact ⟨fT, Z0⟩
 revert H
 refine bu (fun c3b0 c3b1 H => ?_) fun c3 c3b0 c3b1 H => ?_
 ·obtain rfl := Option.some.inj H
  go_enter Try.func88, Try.ntmps88
  go_wp2
  go_ret
  exact ⟨fT, Z0⟩
 have HC4 := ae.mk H
 clear H
 go_enter Try.func88, Try.ntmps88
 go_upto_if 8 with (fail)
 go_cut [8] (fun v8 wc => ∃ (kq : Nat) (x8_3 : Bool), v8 = .bool x8_3 ∧ ae (bC.j0 kq a0 x8_3 = some r) ∧ ae (kq ≤ k) ∧ dM w wc)
 case first =>
  have H := HC4.out
  clear HC4
  revert H
  refine bu (fun c5b0 c5b1 H => ?_) fun c5 c5b0 c5b1 H => ?_
  ·(first | rw [c5b0] | (simp only [gp, iJ]; rw [c5b0]) | skip)
   have H' := ae.mk H
   clear H
   go_wp2
   go_meet
   case rel => exact ⟨_, ((a0.toList == ([61, 61] : List UInt8))), fT, H', ⟨Z11⟩, Z0⟩
  (first | rw [c5b0] | (simp only [gp, iJ]; rw [c5b0]) | skip)
  revert H
  refine bu (fun c6b0 c6b1 H => ?_) fun c6 c6b0 c6b1 H => ?_
  ·have H' := ae.mk H
   clear H
   go_wp2
   go_meet
   case rel => exact ⟨_, ((a0.toList == ([33, 61] : List UInt8))), fT, H', ⟨Z11⟩, Z0⟩
  revert H
  refine bu (fun c7b0 c7b1 H => ?_) fun c7 c7b0 c7b1 H => ?_
  ·have H' := ae.mk H
   clear H
   go_wp2
   go_meet
   case rel => exact ⟨_, ((a0.toList == ([60] : List UInt8))), fT, H', ⟨Z11⟩, Z0⟩
  have H' := ae.mk H
  clear H
  go_wp2
  go_meet
  case rel => exact ⟨_, ((a0.toList == ([60, 61] : List UInt8))), fT, H', ⟨Z11⟩, Z0⟩
 case rest =>
  clear HC4
  try clear c2
  try clear c2b0
  try clear c2b1
  try clear p2
  try clear c3
  try clear c3b0
  try clear c3b1
  try clear c5
  try clear c5b0
  try clear c5b1
  try clear c6
  try clear c6b0
  try clear c6b1
  try clear c7
  try clear c7b0
  try clear c7b1
  obtain ⟨kq, x8_3, rfl, HA, HJ3, ⟨mc3, rfl⟩⟩ := hcut
  cases kq with
  | zero => exact absurd HA.out (by simp [bC.j0])
  | succ kj3 =>
   have H := HA.out
   clear HA
   simp only [bC.j0] at H
   cases x8_3
   rotate_left
   ·replace H := yT H
    obtain rfl := Option.some.inj H
    go_wp2
    go_ret
    exact ⟨fT, Z0⟩
   replace H := yF H
   have HC9 := ae.mk H
   clear H
   go_upto_if 13 with (fail)
   go_cut [13] (fun v13 wc => ∃ (kq : Nat) (x13_8 : Bool), v13 = .bool x13_8 ∧ ae (bC.j1 kq a0 x13_8 = some r) ∧ ae (kq ≤ kj3) ∧ dM w wc)
   case first =>
    have H := HC9.out
    clear HC9
    revert H
    refine bu (fun c10b0 c10b1 H => ?_) fun c10 c10b0 c10b1 H => ?_
    ·(first | rw [c10b0] | (simp only [gp, iJ]; rw [c10b0]) | skip)
     have H' := ae.mk H
     clear H
     go_wp2
     go_meet
     case rel => exact ⟨_, ((a0.toList == ([43] : List UInt8))), fT, H', ⟨by have := HJ3.out; first | omega | exact Nat.le_refl _⟩, Z0⟩
    (first | rw [c10b0] | (simp only [gp, iJ]; rw [c10b0]) | skip)
    revert H
    refine bu (fun c11b0 c11b1 H => ?_) fun c11 c11b0 c11b1 H => ?_
    ·have H' := ae.mk H
     clear H
     go_wp2
     go_meet
     case rel => exact ⟨_, ((a0.toList == ([45] : List UInt8))), fT, H', ⟨by have := HJ3.out; first | omega | exact Nat.le_refl _⟩, Z0⟩
    have H' := ae.mk H
    clear H
    go_wp2
    go_meet
    case rel => exact ⟨_, ((a0.toList == ([46, 46] : List UInt8))), fT, H', ⟨by have := HJ3.out; first | omega | exact Nat.le_refl _⟩, Z0⟩
   case rest =>
    clear HC9
    try clear c1
    try clear c2
    try clear c2b0
    try clear c2b1
    try clear p2
    try clear c3
    try clear c3b0
    try clear c3b1
    try clear c5
    try clear c5b0
    try clear c5b1
    try clear c6
    try clear c6b0
    try clear c6b1
    try clear c7
    try clear c7b0
    try clear c7b1
    try clear c8
    try clear c10
    try clear c10b0
    try clear c10b1
    try clear c11
    try clear c11b0
    try clear c11b1
    try clear p2
    obtain ⟨kq, x13_8, rfl, HA, HJ8, ⟨mc8, rfl⟩⟩ := hcut
    cases kq with
    | zero => exact absurd HA.out (by simp [bC.j1])
    | succ kj8 =>
     have H := HA.out
     clear HA
     simp only [bC.j1] at H
     cases x13_8
     rotate_left
     ·replace H := yT H
      obtain rfl := Option.some.inj H
      go_wp2
      go_ret
      exact ⟨fT, Z0⟩
     replace H := yF H
     revert H
     refine bu (fun c13b0 c13b1 H => ?_) fun c13 c13b0 c13b1 H => ?_
     ·obtain rfl := Option.some.inj H
      go_wp2
      go_ret
      exact ⟨fT, Z0⟩
     revert H
     refine bu (fun c14b0 c14b1 H => ?_) fun c14 c14b0 c14b1 H => ?_
     ·obtain rfl := Option.some.inj H
      go_wp2
      go_ret
      exact ⟨fT, Z0⟩
     revert H
     refine bu (fun c15b0 c15b1 H => ?_) fun c15 c15b0 c15b1 H => ?_
     ·obtain rfl := Option.some.inj H
      go_wp2
      go_ret
      exact ⟨fT, Z0⟩
     obtain rfl := Option.some.inj H
     go_wp2
     go_ret
     exact ⟨fT, Z0⟩
end Go.Proofs.Ytlenihbmafkegaa.Q
end
section
namespace Go.Proofs.Ytlenihbmafkegaa.Q
open Go.RowKit Go.Proofs.YtlenihbmafkegaaW.PrintWords Go.Proofs.YtlenihbmafkegaaW.PrintLast Go.Proofs.YtlenihbmafkegaaW.PrintMore
attribute [local go_sem] jE jD jC jB df cO dI dH bV bU cZ cu
set_option linter.unusedVariables false
set_option linter.unusedSimpArgs false
-- BY HAND: function 93 (runtime_errorString_Error)
/-! ### aI: function 86 -/
def aI.l0 (F : Fam) : Nat → Int → List (S40) → List (S56) → Int → Bool → Option ((List (S40)) × Int × Bool)
 | 0, _, _, _, _, _ => none
 | k + 1, x1, x5, x1000, x1001, x1002 => if x1002 = true then (some (x5, x1001, x1002)) else ((bi.f x1000 x1001 x1002).bind fun bt807 => ((bC.f k bt807.1).bind fun t810 => (if t810 = x1 then ((aG.f x1000 bt807.2.1 bt807.2.2 bt807.1).bind fun bt811 => ((oJ.f F k x1000 bt811.2.1 bt811.2.2 (wrap64 (x1 + 1))).bind fun bt814 => ((az.f k 27 0 (⟨#[]⟩ : ByteArray) 0 bt807.1 (([x5, bt814.1] : List (List (S40))))).bind fun t822 => (if x1 = 3 then (some (t822, bt814.2.1, bt814.2.2)) else (aI.l0 F k x1 t822 x1000 bt814.2.1 bt814.2.2))))) else (some (x5, bt807.2.1, bt807.2.2)))))
def aI.f (F : Fam) (k : Nat) (s0_0 : List (S56)) (s0_1 : Int) (s0_2 : Bool) (a1 : Int) : Option ((List (S40)) × Int × Bool) := if a1 = 6 then ((ax.f F k s0_0 s0_1 s0_2).bind fun bt797 => (some (bt797.1, bt797.2.1, bt797.2.2))) else ((oJ.f F k s0_0 s0_1 s0_2 (wrap64 (a1 + 1))).bind fun bt802 => (aI.l0 F k a1 bt802.1 s0_0 bt802.2.1 bt802.2.2))
theorem aI.bW {F F' : Fam} (HLE : jQ F F') : ∀ k, (∀ y0 y1 y2 y3 y4, LeO (aI.l0 F k y0 y1 y2 y3 y4) (aI.l0 F' (k + 1) y0 y1 y2 y3 y4))
 | 0 => fun _ _ _ _ _ r h => by simp [aI.l0] at h
 | k + 1 => by
  have ih0 := aI.bW HLE k
  intro y0 y1 y2 y3 y4
  unfold aI.l0
  have m0 := az.mono
  have m1 := (ax.mono HLE)
  have m2 := bC.mono
  have m3 := (oJ.mono HLE)
  exact yL
theorem aI.mono {F F' : Fam} (HLE : jQ F F') : ∀ a0 a1 a2 a3 k, LeO (aI.f F k a0 a1 a2 a3) (aI.f F' (k + 1) a0 a1 a2 a3) := by
 intro a0 a1 a2 a3 k
 have ih0 := aI.bW HLE k
 unfold aI.f
 have m0 := az.mono
 have m1 := (ax.mono HLE)
 have m2 := bC.mono
 have m3 := (oJ.mono HLE)
 exact yL
/-! ### dC: function 83 -/
def dC.f (F : Fam) (k : Nat) (s0_0 : List (S56)) (s0_1 : Int) (s0_2 : Bool) : Option ((List (S40)) × Int × Bool) := (aI.f F k s0_0 s0_1 s0_2 1).bind fun bt825 => (some (bt825.1, bt825.2.1, bt825.2.2))
theorem dC.mono {F F' : Fam} (HLE : jQ F F') : ∀ a0 a1 a2 k, LeO (dC.f F k a0 a1 a2) (dC.f F' (k + 1) a0 a1 a2) := by
 intro a0 a1 a2 k
 unfold dC.f
 have m0 := (aI.mono HLE)
 exact yL
end Go.Proofs.Ytlenihbmafkegaa.Q
end
section
set_option linter.unusedVariables false
set_option linter.unusedSimpArgs false
namespace Go.Proofs.Ytlenihbmafkegaa.Q
open Go Go.RowKit Go.Proofs.YtlenihbmafkegaaW.PrintWords Go.Proofs.YtlenihbmafkegaaW.PrintLast Go.Proofs.YtlenihbmafkegaaW.PrintMore
attribute [local go_sem] pG pF pz pg
set_option maxHeartbeats 8000000 in
set_option maxRecDepth 100000 in
theorem zU (F : Fam) (HF : kz F) (k : Nat) (g : Nat) (s0 : List S56) (s1 : Int) (s2 : Bool) (a : Int) (r : List S40) (e1 : Int) (e2 : Bool) (w0 w : World) (hI : Rd 72 w0 w g s0 s1 s2) (hB : Below w0.heap.size w0 w) (h : aI.f F k s0 s1 s2 a = some (r, e1, e2)) :
 Calls Try.prog 86 #[.pointer (some ⟨g, 0, none⟩), .int .i64 a] w (Back 72 w0 w g s0 e1 e2 (IsL w r)) := by
 unfold aI.f at h
 have HS := St.new (T := 72) (by decide) hI hB
 have H := ae.mk h
 clear h hI hB
 rcases nS a 6 with ⟨c, cb0, cn0⟩ | ⟨c, cb0, cn0⟩
 ·replace H := hI c H
  subst c
  go_enter Try.func86, Try.ntmps86
  go_wp2_with (first | ((with_reducible refine gC 87 rfl ?_); refine sL 87 rfl Try.func87 (stT HS) H (fun t q b hI hB h => zS F HF _ g _ _ _ t q b w0 _ hI hB h) ?_; clear HS H; intro t q b w' A c HS H; (try dsimp only at H)))
  all_goals
   have h_ := H.out; simp only [Option.some.injEq, Prod.mk.injEq] at h_; obtain ⟨rfl, rfl, rfl⟩ := h_
   go_ret
   exact (stT HS).lu (.head _)
 replace H := hE c H
 clear c
 go_enter Try.func86, Try.ntmps86
 go_wp2_with (first | ((with_reducible refine gC 86 rfl ?_); refine sL 86 rfl Try.func86 (stT HS) H (fun t q b hI hB h => toL (HF.bound g _ _ _ _ t q b w0 _ hI hB h)) ?_; clear HS H; intro t q b w' A c HS H; (try dsimp only at H)))
 (try simp only [Act.put, List.setIfInBounds_toArray, List.set_cons_zero, List.set_cons_succ])
 go_loopg [5] k (fun kq v5 w' => ∃ (x5 : List S40) (p : Int) (d : Bool) (A : Option Addr) (c : Nat), v5 = .slice A x5.length c ∧ ae (aI.l0 F kq a x5 s0 p d = some (r, e1, e2)) ∧ ae (kq ≤ k) ∧ St 72 w0 w w' g s0 p d [(.slice A x5.length c, x5)] [] ⟨[], []⟩)
 case atStart => exact ⟨_, _, _, _, _, rfl, H, ⟨Nat.le_refl _⟩, stT HS⟩
 case round =>
  clear HS H
  obtain ⟨x5, p, d, A, c, rfl, H, HK1, HS⟩ := hrel
  cases gk with
  | zero => exact absurd H.out (by simp [aI.l0])
  | succ k1 =>
   simp only [aI.l0] at H
   have hc2 := HS.rd.cell2
   rcases nS a 3 with ⟨c3, cb3, cn3⟩ | ⟨c3, cb3, cn3⟩ <;> (first | simp only [eq_true c3, if_true] at H | simp only [eq_false c3, if_false] at H)
   all_goals (try clear c3)
   all_goals
    cases d <;> (try simp only [if_true, if_false, eq_self, Bool.false_eq_true, Bool.not_true, Bool.not_false] at H)
   all_goals go_wp2_with (first | ((with_reducible refine gC 75 rfl ?_); refine sS 75 rfl Try.func75 (stT HS) H (fun t q b hI hB => bi.calls g _ _ _ t q b w0 _ hI hB) ?_; clear HS H; intro t q b w' HS H; (try dsimp only at H)) | ((with_reducible refine gC 88 rfl ?_); refine sV 88 rfl Try.func88 (stT HS) H (fun t => bC.calls _ _ t _) ?_; clear HS H; intro n1 w' HS H; (try dsimp only at H); rcases nS n1 a with ⟨c, cb1, cn1⟩ | ⟨c, cb1, cn1⟩; replace H := hI c H; clear c; rotate_left; replace H := hE c H; clear c; rotate_left) | ((with_reducible refine gC 58 rfl ?_); refine sB 58 rfl Try.func58 (stT HS) H (fun t q b hI hB => aG.calls g _ _ _ _ t q b w0 _ hI hB) ?_; clear HS H; intro t q b w' HS H; (try dsimp only at H)) | ((with_reducible refine gC 86 rfl ?_); refine sL 86 rfl Try.func86 (stT HS) H (fun t q b hI hB h => toL (HF.bound g _ _ _ _ t q b w0 _ hI hB h)) ?_; clear HS H; intro t q b w' A c HS H; (try dsimp only at H)) | ((with_reducible refine bF (N := 36) rfl ?_); refine G8 (N := 36) (stT HS) (by first | (go_simp; done) | (go_simp; rfl)) ?_; clear HS; intro A c w' HS) | ((with_reducible refine gC 61 rfl ?_); refine sJ 61 rfl Try.func61 (stT HS) H (fun t hr hc => az.calls _ _ _ _ _ _ _ _ _ t _ hr hc) ?_; clear HS H; intro t w' A c HS H; (try dsimp only at H)))
   all_goals first
    | (go_roundg k1; (case measure => have := HK1.out; omega); (case rel => exact ⟨_, _, _, _, _, by first | rfl | simp, H, ⟨by have := HK1.out; omega⟩, (stT HS).KG⟩))
    | (have h_ := H.out; simp only [Option.some.injEq, Prod.mk.injEq] at h_; obtain ⟨rfl, rfl, rfl⟩ := h_; go_ret; exact (stT HS).lu (.head _))
theorem aI.calls (F : Fam) (HF : kz F) (k : Nat) (g : Nat) (s0 : List S56) (s1 : Int) (s2 : Bool) (a0 : Int) (r1 : List S40) (r2 : Int) (r3 : Bool) (w0 w : World) (hI : aY w0 w g s0 s1 s2) (hB : Below w0.heap.size w0 w) (h : aI.f F k s0 s1 s2 a0 = some (r1, r2, r3)) : Reads 86 #[.int .i64 a0] g s0 r1 r2 r3 w0 w :=
 ofL (zU F HF k g s0 s1 s2 a0 r1 r2 r3 w0 w hI hB h)
set_option maxHeartbeats 8000000 in
set_option maxRecDepth 100000 in
theorem Ja (F : Fam) (HF : kz F) (k : Nat) (g : Nat) (s0 : List S56) (s1 : Int) (s2 : Bool) (r : List S40) (e1 : Int) (e2 : Bool) (w0 w : World) (hI : Rd 72 w0 w g s0 s1 s2) (hB : Below w0.heap.size w0 w) (h : dC.f F k s0 s1 s2 = some (r, e1, e2)) :
 Calls Try.prog 83 #[.pointer (some ⟨g, 0, none⟩)] w (Back 72 w0 w g s0 e1 e2 (IsL w r)) := by
 unfold dC.f at h
 have HS := St.new (T := 72) (by decide) hI hB
 have H := ae.mk h
 clear h hI hB
 go_enter Try.func83, Try.ntmps83
 go_wp2_with (first | ((with_reducible refine gC 86 rfl ?_); refine sL 86 rfl Try.func86 (stT HS) H (fun t q b hI hB h => zU F HF _ g _ _ _ _ t q b w0 _ hI hB h) ?_; clear HS H; intro t q b w' A c HS H; (try dsimp only at H)))
 all_goals
  have h_ := H.out; simp only [Option.some.injEq, Prod.mk.injEq] at h_; obtain ⟨rfl, rfl, rfl⟩ := h_
  go_ret
  exact (stT HS).lu (.head _)
theorem dC.calls (F : Fam) (HF : kz F) (k : Nat) (g : Nat) (s0 : List S56) (s1 : Int) (s2 : Bool) (r1 : List S40) (r2 : Int) (r3 : Bool) (w0 w : World) (hI : aY w0 w g s0 s1 s2) (hB : Below w0.heap.size w0 w) (h : dC.f F k s0 s1 s2 = some (r1, r2, r3)) : Reads 83 #[] g s0 r1 r2 r3 w0 w :=
 ofL (Ja F HF k g s0 s1 s2 r1 r2 r3 w0 w hI hB h)
end Go.Proofs.Ytlenihbmafkegaa.Q
end
section
set_option linter.unusedVariables false
set_option linter.unusedSimpArgs false
namespace Go.Proofs.Ytlenihbmafkegaa.Q
open Go Go.RowKit Go.Proofs.YtlenihbmafkegaaW.PrintWords Go.Proofs.YtlenihbmafkegaaW.PrintLast Go.Proofs.YtlenihbmafkegaaW.PrintMore
attribute [local go_sem] pG pF pz pg
set_option maxHeartbeats 8000000 in
set_option maxRecDepth 100000 in
theorem EC (F : Fam) (HF : kz F) (k : Nat) (g : Nat) (s0 : List S56) (s1 : Int) (s2 : Bool) (r : List S40) (e1 : Int) (e2 : Bool) (w0 w : World) (hI : Rd 72 w0 w g s0 s1 s2) (hB : Below w0.heap.size w0 w) (h : aA.f F k s0 s1 s2 = some (r, e1, e2)) :
 Calls Try.prog 38 #[.pointer (some ⟨g, 0, none⟩)] w (Back 72 w0 w g s0 e1 e2 (IsL w r)) := by
 unfold aA.f at h
 have HS := St.new (T := 72) (by decide) hI hB
 have H := ae.mk h
 clear h hI hB
 go_enter Try.func38, Try.ntmps38
 go_wp2_with (first | ((with_reducible refine bF (N := 8) rfl ?_); (with_reducible refine gC 57 rfl ?_); refine sN 57 rfl Try.func57 (stT HS) H (fun t1 t2 t3 t4 q b hI hB => bn.calls g _ _ _ _ t1 t2 t3 t4 q b w0 _ hI hB) ?_; clear HS H; intro n1 nm n3 n4 q b w' HS H; (try dsimp only at H)) | ((with_reducible refine bF (N := 12) rfl ?_); (with_reducible refine gC 57 rfl ?_); refine sN 57 rfl Try.func57 (stX HS) H (fun t1 t2 t3 t4 q b hI hB => bn.calls g _ _ _ _ t1 t2 t3 t4 q b w0 _ hI hB) ?_; (try clear hx0 hx1 hx2 hx3 hx4 hf0 hf1 hf2 hf3 hf4); clear HS H; intro m1 m2 vn m4 q b w' HS H; (try dsimp only at H); (try (have hb_ := HS.box rfl; have hx0 := (ah hb_ 0).trans rfl; have hf0 := af hb_ 0; have hx1 := (ah hb_ 1).trans rfl; have hf1 := af hb_ 1; have hx2 := (ah hb_ 2).trans rfl; have hf2 := af hb_ 2; have hx3 := (ah hb_ 3).trans rfl; have hf3 := af hb_ 3; have hx4 := (ah hb_ 4).trans rfl; have hf4 := af hb_ 4; clear hb_))) | ((with_reducible refine bF (N := 3) rfl ?_); refine boxS (N := 3) (cs := #[.int .i64 0, .int .i64 0, .string (⟨#[]⟩ : ByteArray), .int .i64 0, .string (⟨#[]⟩ : ByteArray)]) (t := 40) (stT HS) (by first | (go_simp; done) | (go_simp; rfl)) ?_; clear HS; intro gb w' HS hne hge; have hnc := Ne.symm hne; (try (have hb_ := HS.box rfl; have hx0 := (ah hb_ 0).trans rfl; have hf0 := af hb_ 0; have hx1 := (ah hb_ 1).trans rfl; have hf1 := af hb_ 1; have hx2 := (ah hb_ 2).trans rfl; have hf2 := af hb_ 2; have hx3 := (ah hb_ 3).trans rfl; have hf3 := af hb_ 3; have hx4 := (ah hb_ 4).trans rfl; have hf4 := af hb_ 4; clear hb_))) | ((with_reducible refine gC 56 rfl ?_); refine sU 56 rfl Try.func56 (stX HS) H (fun q b hI hB => aC.calls g _ _ _ _ q b w0 _ hI hB) ?_; (try clear hx0 hx1 hx2 hx3 hx4 hf0 hf1 hf2 hf3 hf4); clear HS H; intro q b w' HS H; (try dsimp only at H)))
 (try simp only [Act.put, List.setIfInBounds_toArray, List.set_cons_zero, List.set_cons_succ])
 go_loopg [4] k (fun kq v3 w' => ∃ (x3 : List (List S40)) (p : Int) (d : Bool) (A : Option Addr) (c : Nat), v3 = .slice A x3.length c ∧ ae (aA.l0 F kq x3 s0 p d 1 0 nm vn (⟨#[]⟩ : ByteArray) = some (r, e1, e2)) ∧ ae (kq ≤ k) ∧ St 72 w0 w w' g s0 p d [] [(.slice A x3.length c, x3)] ⟨[(gb, .cells #[.int .i64 1, .int .i64 0, .string nm, .int .i64 vn, .string (⟨#[]⟩ : ByteArray)] 40 (0, 0))], []⟩)
 case atStart => exact ⟨[], _, _, none, 0, rfl, H, ⟨Nat.le_refl _⟩, HS.yE⟩
 case round =>
  clear HS H
  obtain ⟨x3, p, d, A, c, rfl, H, HK1, HS⟩ := hrel
  cases gk with
  | zero => exact absurd H.out (by simp [aA.l0])
  | succ k1 =>
   simp only [aA.l0] at H
   go_wp2_with (first | ((with_reducible refine gC 58 rfl ?_); refine sB 58 rfl Try.func58 (stT HS) H (fun t q b hI hB => aG.calls g _ _ _ _ t q b w0 _ hI hB) ?_; clear HS H; intro t q b w' HS H; (try dsimp only at H); cases t <;> (try simp only [if_true, if_false, eq_self, Bool.false_eq_true, Bool.not_true, Bool.not_false] at H)) | ((with_reducible refine gC 59 rfl ?_); refine sL 59 rfl Try.func59 (stT HS) H (fun t q b hI hB h => LM _ g _ _ _ t q b w0 _ hI hB h) ?_; clear HS H; intro t q b w' A c HS H; (try dsimp only at H)) | ((with_reducible refine bF (N := 22) rfl ?_); refine o6 (N := 22) (stT HS) (by first | (go_simp; done) | (go_simp; rfl)) ?_; clear HS; intro A c w' HS) | ((with_reducible refine dO (b := .append) (xs := #[.tmp 19, .tmp 22]) rfl ?_); at_builtin; refine zo (N := 23) (.tmp 19) (.tmp 22) rfl Try.underlying86 info22 (stT HS) rfl rfl H ?_; clear HS H; intro A c w' HS H; (try replace H := hB H); (try dsimp only at H)))
   all_goals first
    | (go_roundg k1; (case measure => have := HK1.out; omega); (case rel => exact ⟨_, _, _, _, _, by first | rfl | simp, H, ⟨by have := HK1.out; omega⟩, stT HS⟩))
    | skip
   (try simp only [Act.put, List.setIfInBounds_toArray, List.set_cons_zero, List.set_cons_succ])
   go_loopg [4] k1 (fun kq v3 w' => ∃ (x3 : List (List S40)) (p : Int) (d : Bool) (A : Option Addr) (c : Nat), v3 = .slice A x3.length c ∧ ae (aA.l1 F kq x3 s0 p d 1 0 nm vn (⟨#[]⟩ : ByteArray) = some (r, e1, e2)) ∧ ae (kq ≤ k1) ∧ St 72 w0 w w' g s0 p d [] [(.slice A x3.length c, x3)] ⟨[(gb, .cells #[.int .i64 1, .int .i64 0, .string nm, .int .i64 vn, .string (⟨#[]⟩ : ByteArray)] 40 (0, 0))], []⟩)
   case atStart => exact ⟨_, _, _, _, _, rfl, H, ⟨Nat.le_refl _⟩, stT HS⟩
   case round =>
    clear HS H
    obtain ⟨x3, p, d, A, c, rfl, H, HK2, HS⟩ := hrel
    cases gk with
    | zero => exact absurd H.out (by simp [aA.l1])
    | succ k2 =>
     simp only [aA.l1] at H
     go_wp2_with (first | ((with_reducible refine gC 58 rfl ?_); refine sB 58 rfl Try.func58 (stT HS) H (fun t q b hI hB => aG.calls g _ _ _ _ t q b w0 _ hI hB) ?_; clear HS H; intro t q b w' HS H; (try dsimp only at H); cases t <;> (try simp only [if_true, if_false, eq_self, Bool.false_eq_true, Bool.not_true, Bool.not_false] at H); (try (have hb_ := HS.box rfl; have hx0 := (ah hb_ 0).trans rfl; have hf0 := af hb_ 0; have hx1 := (ah hb_ 1).trans rfl; have hf1 := af hb_ 1; have hx2 := (ah hb_ 2).trans rfl; have hf2 := af hb_ 2; have hx3 := (ah hb_ 3).trans rfl; have hf3 := af hb_ 3; have hx4 := (ah hb_ 4).trans rfl; have hf4 := af hb_ 4; clear hb_))) | ((with_reducible refine gC 57 rfl ?_); refine sN 57 rfl Try.func57 (stT HS) H (fun t1 t2 t3 t4 q b hI hB => bn.calls g _ _ _ _ t1 t2 t3 t4 q b w0 _ hI hB) ?_; clear HS H; intro t1 t2 t3 t4 q b w' HS H; (try dsimp only at H)) | ((with_reducible refine gC 60 rfl ?_); refine sL 60 rfl Try.func60 (stT HS) H (fun t q b hI hB h => uD F HF _ g _ _ _ _ _ _ _ _ t q b w0 _ hI hB h) ?_; clear HS H; intro t q b w' A c HS H; (try dsimp only at H)) | ((with_reducible refine bF (N := 33) rfl ?_); refine o6 (N := 33) (stT HS) (by first | (go_simp; done) | (go_simp; rfl)) ?_; clear HS; intro A c w' HS) | ((with_reducible refine dO (b := .append) (xs := #[.tmp 26, .tmp 33]) rfl ?_); at_builtin; refine zo (N := 34) (.tmp 26) (.tmp 33) rfl Try.underlying86 info22 (stT HS) rfl rfl H ?_; clear HS H; intro A c w' HS H; (try replace H := hB H); (try dsimp only at H)) | ((with_reducible refine gC 61 rfl ?_); refine sJ 61 rfl Try.func61 (stT HS) H (fun t hr hc => az.calls _ _ _ _ _ _ _ _ _ t _ hr hc) ?_; clear HS H; intro t w' A c HS H; (try dsimp only at H)))
     all_goals first
      | (go_roundg k2; (case measure => have := HK2.out; omega); (case rel => exact ⟨_, _, _, _, _, by first | rfl | simp, H, ⟨by have := HK2.out; omega⟩, stT HS⟩))
      | (have h_ := H.out; simp only [Option.some.injEq, Prod.mk.injEq] at h_; obtain ⟨rfl, rfl, rfl⟩ := h_; go_ret; exact (stT HS).lu (.head _))
theorem aA.calls (F : Fam) (HF : kz F) (k : Nat) (g : Nat) (s0 : List S56) (s1 : Int) (s2 : Bool) (r1 : List S40) (r2 : Int) (r3 : Bool) (w0 w : World) (hI : aY w0 w g s0 s1 s2) (hB : Below w0.heap.size w0 w) (h : aA.f F k s0 s1 s2 = some (r1, r2, r3)) : Calls Try.prog 38 #[.pointer (some ⟨g, 0, none⟩)] w fun e w' => ∃ v0_ : Value, e = .returned (v0_) ∧ Kd.R k40 40 w' w.heap.size (fun _ => True) v0_ r1 ∧ aY w0 w' g s0 r2 r3 ∧ Below w0.heap.size w0 w' ∧ aQ w w' g none :=
 ofL (EC F HF k g s0 s1 s2 r1 r2 r3 w0 w hI hB h)
end Go.Proofs.Ytlenihbmafkegaa.Q
end
section
set_option linter.unusedVariables false
set_option linter.unusedSimpArgs false
namespace Go.Proofs.Ytlenihbmafkegaa.Q
open Go.RowKit Go.Proofs.YtlenihbmafkegaaW.PrintWords Go.Proofs.YtlenihbmafkegaaW.PrintLast Go.Proofs.YtlenihbmafkegaaW.PrintMore
def fam : Nat → Fam
 | 0 => ⟨fun _ _ _ => none, fun _ _ _ => none, fun _ _ _ _ => none, fun _ _ _ => none⟩
 | k + 1 => ⟨fun a b c => dC.f (fam k) k a b c, fun a b c => aJ.f (fam k) k a b c, fun a b c d => aI.f (fam k) k a b c d, fun a b c => ax.f (fam k) k a b c⟩
theorem wQ : ∀ k, kz (fam k)
 | 0 => ⟨fun _ _ _ _ _ _ _ _ _ _ _ h => (by simp [fam] at h), fun _ _ _ _ _ _ _ _ _ _ _ h => (by simp [fam] at h), fun _ _ _ _ _ _ _ _ _ _ _ _ h => (by simp [fam] at h), fun _ _ _ _ _ _ _ _ _ _ _ h => (by simp [fam] at h)⟩
 | k + 1 => ⟨fun g s0 s1 s2 r1 r2 r3 w0 w hI hB h => dC.calls (fam k) (wQ k) k g s0 s1 s2 r1 r2 r3 w0 w hI hB h,
  fun g s0 s1 s2 r1 r2 r3 w0 w hI hB h => aJ.calls (fam k) (wQ k) k g s0 s1 s2 r1 r2 r3 w0 w hI hB h,
  fun g s0 s1 s2 a1 r1 r2 r3 w0 w hI hB h => aI.calls (fam k) (wQ k) k g s0 s1 s2 a1 r1 r2 r3 w0 w hI hB h,
  fun g s0 s1 s2 r1 r2 r3 w0 w hI hB h => ax.calls (fam k) (wQ k) k g s0 s1 s2 r1 r2 r3 w0 w hI hB h⟩
theorem wR : ∀ k, jQ (fam k) (fam (k + 1))
 | 0 => ⟨fun _ _ _ => LeO.none _, fun _ _ _ => LeO.none _, fun _ _ _ _ => LeO.none _, fun _ _ _ => LeO.none _⟩
 | k + 1 => ⟨fun a b c => dC.mono (wR k) a b c k, fun a b c => aJ.mono (wR k) a b c k, fun a b c d => aI.mono (wR k) a b c d k, fun a b c => ax.mono (wR k) a b c k⟩
end Go.Proofs.Ytlenihbmafkegaa.Q
end
section
namespace Go.Proofs.Ytlenihbmafkegaa.Q
open Go.RowKit Go.Proofs.YtlenihbmafkegaaW.PrintWords Go.Proofs.YtlenihbmafkegaaW.PrintLast Go.Proofs.YtlenihbmafkegaaW.PrintMore
attribute [local go_sem] jE jD jC jB df cO dI dH bV bU cZ cu
set_option linter.unusedVariables false
set_option linter.unusedSimpArgs false
/-! ### eF: function 39 -/
def eF.f (s0_0 : List (S56)) (s0_1 : Int) (s0_2 : Bool) : Option (Int × Int × Bool) := if s0_1 < (s0_0.length : Int) then (if 0 ≤ s0_1 then (some ((dF s0_0 s0_1).f3, s0_1, s0_2)) else (none)) else (if (s0_0.length : Int) > 0 then (if 0 ≤ (wrap64 ((s0_0.length : Int) - 1)) then (if (wrap64 ((s0_0.length : Int) - 1)) < (s0_0.length : Int) then (some (wrap64 (((dF s0_0 (wrap64 ((s0_0.length : Int) - 1))).f3) + 1), s0_1, s0_2)) else (none)) else (none)) else (some (0, s0_1, s0_2)))
set_option maxHeartbeats 8000000 in
set_option maxRecDepth 100000 in
theorem eF.calls (g : Nat) (s0_0 : List (S56)) (s0_1 : Int) (s0_2 : Bool) (r1 : Int) (r2 : Int) (r3 : Bool) (w0 w : World) (hI : aY w0 w g s0_0 s0_1 s0_2) (hB : Below w0.heap.size w0 w) (h : eF.f s0_0 s0_1 s0_2 = some (r1, r2, r3)) :
 Calls Try.prog 39 #[.pointer (some ⟨g, 0, none⟩)] w fun e w' => e = .returned (.int .i64 r1) ∧ aY w0 w' g s0_0 r2 r3 ∧ Below w0.heap.size w0 w' ∧ aQ w w' g none := by
 have HI0 := ae.mk hI
 have HK := ae.mk (aQ.refl w g none)
 have HL := ae.mk hB.size
 clear hI
 have HW0 := ae.mk hB.size
 have HB := ae.mk hB
 clear hB
 have H := h
 clear h
 unfold eF.f at H
 revert H
 refine jT (fun c2b0 H => ?_) fun c2b0 H => ?_
 ·revert H
  refine gY (fun c3b0 H => ?_) fun c3 H => ?_
  ·simp only [Option.some.injEq, Prod.mk.injEq] at H
   obtain ⟨rfl, rfl, rfl⟩ := H
   obtain ⟨ASz4_0, cSz4_0, HGz4, hgz4, HSz4_0⟩ := HI0.out
   have hcz4_0 := jl HGz4
   have hcz4_1 := jk HGz4
   have hcz4_2 := ji HGz4
   have hfz4_1 := af HGz4 1
   have hfz4_2 := af HGz4 2
   clear HGz4 hgz4
   have p615 : 0 ≤ (s0_1 : Int) := of_decide_eq_true aT
   have q615 : s0_1 < (s0_0.length : Int) := of_decide_eq_true aT
   obtain ⟨ad615, e615, hx615_0, hx615_1, hx615_2, hx615_3⟩ := rV HSz4_0 s0_1 p615 q615
   cases e615
   replace hx615_0 := aN HB.out hx615_0
   replace hx615_1 := aN HB.out hx615_1
   replace hx615_2 := aN HB.out hx615_2
   replace hx615_3 := aN HB.out hx615_3
   replace p615 := eq_true p615
   replace q615 := eq_true q615
   go_enter Try.func39, Try.ntmps39
   go_wp2
   repeat (go_quiet (fail); try go_wp2)
   go_ret
   exact ⟨eT, iT HI0, bT HB, kT HK⟩
  exact absurd H (by simp)
 revert H
 refine gG (fun c5 H => ?_) fun c5 H => ?_
 ·have c5b0 : decide (0 < (s0_0.length : Int)) = true := decide_eq_true c5
  have c5b1 : decide (0 < s0_0.length) = true := decide_eq_true (by omega)
  clear c5
  obtain ⟨ji6, hji6⟩ : ∃ j_ : Int, (wrap64 ((s0_0.length : Int) - 1)) = j_ := ⟨_, rfl⟩
  replace H : (if 0 ≤ (ji6) then (if (ji6) < (s0_0.length : Int) then (some (wrap64 (((dF s0_0 (ji6)).f3) + 1), s0_1, s0_2)) else (none)) else (none)) = some (r1, r2, r3) := by first | (rw [hji6] at H; exact H) | (simp only [hji6] at H ⊢; exact H)
  have hji6w : (IntKind.i64.wrap ((s0_0.length : Int) - 1)) = ji6 := (gp _).trans hji6
  revert H
  refine gY (fun c7b0 H => ?_) fun c7 H => ?_
  ·revert H
   refine gY (fun c8b0 H => ?_) fun c8 H => ?_
   ·simp only [Option.some.injEq, Prod.mk.injEq] at H
    obtain ⟨rfl, rfl, rfl⟩ := H
    obtain ⟨ASz9_0, cSz9_0, HGz9, hgz9, HSz9_0⟩ := HI0.out
    have hcz9_0 := jl HGz9
    have hcz9_1 := jk HGz9
    have hcz9_2 := ji HGz9
    have hfz9_1 := af HGz9 1
    have hfz9_2 := af HGz9 2
    clear HGz9 hgz9
    have p616 : 0 ≤ ((ji6) : Int) := of_decide_eq_true aT
    have q616 : (ji6) < (s0_0.length : Int) := of_decide_eq_true aT
    obtain ⟨ad616, e616, hx616_0, hx616_1, hx616_2, hx616_3⟩ := rV HSz9_0 (ji6) p616 q616
    cases e616
    replace hx616_0 := aN HB.out hx616_0
    replace hx616_1 := aN HB.out hx616_1
    replace hx616_2 := aN HB.out hx616_2
    replace hx616_3 := aN HB.out hx616_3
    replace p616 := eq_true p616
    replace q616 := eq_true q616
    go_enter Try.func39, Try.ntmps39
    go_wp2
    repeat (go_quiet (fail); try go_wp2)
    go_ret
    exact ⟨by first | rfl | (simp [jh, jg] <;> rfl) | (simp only [← hji6]; first | rfl | (simp [jh, jg] <;> rfl)) | (simp [*, jh, jg] <;> rfl), iT HI0, bT HB, kT HK⟩
   exact absurd H (by simp)
  exact absurd H (by simp)
 have c5b0 : decide (0 < (s0_0.length : Int)) = false := decide_eq_false c5
 have c5b1 : decide (0 < s0_0.length) = false := decide_eq_false (by omega)
 clear c5
 simp only [Option.some.injEq, Prod.mk.injEq] at H
 obtain ⟨rfl, rfl, rfl⟩ := H
 obtain ⟨ASz10_0, cSz10_0, HGz10, hgz10, HSz10_0⟩ := HI0.out
 have hcz10_0 := jl HGz10
 have hcz10_1 := jk HGz10
 have hcz10_2 := ji HGz10
 have hfz10_1 := af HGz10 1
 have hfz10_2 := af HGz10 2
 clear HGz10 hgz10
 go_enter Try.func39, Try.ntmps39
 go_wp2
 repeat (go_quiet (fail); try go_wp2)
 go_ret
 exact ⟨eT, iT HI0, bT HB, kT HK⟩
end Go.Proofs.Ytlenihbmafkegaa.Q
end
section
set_option linter.unusedVariables false
set_option linter.unusedSimpArgs false
namespace Go.Proofs.Ytlenihbmafkegaa.Q
open Go.RowKit Go.Proofs.YtlenihbmafkegaaW.PrintWords Go.Proofs.YtlenihbmafkegaaW.PrintLast Go.Proofs.YtlenihbmafkegaaW.PrintMore
def iq.f (k : Nat) (l0 : List S56) : Option (List S40 × Int × Int) :=
 (aA.f (fam k) k l0 0 false).bind fun t => if t.2.2 = true then ((eF.f l0 t.2.1 t.2.2).bind fun p => some (([] : List S40), 10, p.1))
  else if t.2.1 < (l0.length : Int) then ((eF.f l0 t.2.1 t.2.2).bind fun p => some (([] : List S40), 10, p.1))
  else (aK.f k t.1).bind fun c => if c.1 = 0 then some (t.1, 0, 0) else some (([] : List S40), c.1, 0)
theorem iq.mono (a0 : List S56) (k : Nat) : LeO (iq.f k a0) (iq.f (k + 1) a0) := by
 unfold iq.f
 repeat' first
 | exact aA.mono (wR k) _ _ _ k
 | exact aK.mono _ k
 | exact LeO.refl _
 | exact LeO.none _
 | refine LeO.ite ?_ ?_
 | refine LeO.bind ?_ (fun _ => ?_)
set_option maxHeartbeats 8000000 in
set_option maxRecDepth 100000 in
theorem iq.calls (k : Nat) (A0 : Option Addr) (c0 : Nat) (l0 : List S56) (r1 : List S40) (r2 : Int) (r3 : Int) (w : World) (hr0 : Kd.C k56 w A0 l0.length l0) (hc0 : l0.length ≤ c0) (h : iq.f k l0 = some (r1, r2, r3)) :
 Calls Try.prog 21 #[.slice A0 l0.length c0] w fun e w' => ∃ v0_ : Value, e = .returned (.tuple #[v0_, .int .i64 r2, .int .i64 r3]) ∧ Kd.R k40 40 w' w.heap.size (fun _ => True) v0_ r1 ∧ Below w.heap.size w w' := by
 have HR0 := ae.mk hr0
 have HB := ae.mk (Below.refl w.heap.size w)
 clear hr0 hc0
 unfold iq.f at h
 obtain ⟨⟨t, u, b⟩, hm, h⟩ := Option.bind_eq_some_iff.mp h
 have AM := ae.mk hm
 have HQ := ae.mk h
 clear hm h
 have hu72 := Try.underlying72
 go_enter Try.func21, Try.ntmps21
 go_upto_region 3 with (first
  | ((with_reducible refine bF (N := 11) rfl ?_); refine dS ?hg (N := 11) ?hd (cs := #[.slice A0 l0.length c0, .int .i64 0, .bool false]) (t := 72) ?hr ?_; (case hd => rfl); (case hg => rfl); (case hr => first | (go_simp; done) | (go_simp; rfl)); intro g hg w1 hbox hb; have HI1 := ae.mk (show aY w w1 g l0 0 false from ⟨A0, c0, hbox, by rw [hg]; exact Nat.le_refl _, HR0.out⟩); have HB1 := ae.mk hb; clear hbox hb hg)
  | ((with_reducible refine lU (f := 38) rfl ?_); refine jJ (some 13) rfl rfl Try.func38 (by kernel_rfl) rfl #[.pointer (some ⟨g, 0, none⟩)] rfl Z6 ?_; (with_reducible refine (aA.calls (fam k) (wQ k) k g l0 0 false t u b w _ ?side1 ?side2 AM.out).mono ?_); (case side1 => exact HI1.out); (case side2 => exact HB1.out); rintro e w2 ⟨v, rfl, ho, hi, hb, hk⟩; refine ⟨_, rfl, ?_⟩; have HO := ae.mk (Kd.eU ho HB1.out.size); have HI2 := ae.mk hi; have HB2 := ae.mk hb; clear ho hi hb hk))
 obtain ⟨ASz, cSz, HGz, hgz, HSz⟩ := HI2.out
 have hcz0 := jl HGz
 have hcz1 := jk HGz
 have hcz2 := ji HGz
 clear HGz hgz HSz
 have h := HQ.out
 clear HQ
 dsimp only at h
 by_cases c1 : b = true
 ·rw [if_pos c1] at h
  subst c1
  obtain ⟨⟨p1, p2, p3⟩, hp, h⟩ := Option.bind_eq_some_iff.mp h
  have AP := ae.mk hp
  clear hp
  cases h
  go_wp2_with (first | ((with_reducible refine lU (f := 39) rfl ?_); refine jJ (some 28) rfl rfl Try.func39 (by kernel_rfl) rfl #[.pointer (some ⟨g, 0, none⟩)] rfl Z6 ?_; (with_reducible refine (eF.calls g l0 u true p1 p2 p3 w _ ?side1 ?side2 AP.out).mono ?_); (case side1 => exact HI2.out); (case side2 => exact HB2.out); rintro e w3 ⟨rfl, hi, hb, hk⟩; refine ⟨_, rfl, ?_⟩; have HB3 := ae.mk hb; clear hi hb hk))
  go_ret3
  exact ⟨_, rfl, Kd.pJ _ _ _ _ _, HB3.out⟩
 rw [if_neg c1] at h
 replace c1 := Bool.eq_false_iff.mpr c1
 subst c1
 by_cases c2 : u < (l0.length : Int)
 ·rw [if_pos c2] at h
  have c2b : decide (u < (l0.length : Int)) = true := decide_eq_true c2
  clear c2
  obtain ⟨⟨p1, p2, p3⟩, hp, h⟩ := Option.bind_eq_some_iff.mp h
  have AP := ae.mk hp
  clear hp
  cases h
  go_wp2_with (first | ((with_reducible refine lU (f := 39) rfl ?_); refine jJ (some 28) rfl rfl Try.func39 (by kernel_rfl) rfl #[.pointer (some ⟨g, 0, none⟩)] rfl Z6 ?_; (with_reducible refine (eF.calls g l0 u false p1 p2 p3 w _ ?side1 ?side2 AP.out).mono ?_); (case side1 => exact HI2.out); (case side2 => exact HB2.out); rintro e w3 ⟨rfl, hi, hb, hk⟩; refine ⟨_, rfl, ?_⟩; have HB3 := ae.mk hb; clear hi hb hk))
  go_ret3
  exact ⟨_, rfl, Kd.pJ _ _ _ _ _, HB3.out⟩
 rw [if_neg c2] at h
 have c2b : decide (u < (l0.length : Int)) = false := decide_eq_false c2
 clear c2
 obtain ⟨⟨p1, p2⟩, hp, h⟩ := Option.bind_eq_some_iff.mp h
 have AP := ae.mk hp
 clear hp
 obtain ⟨Ao, co, eo⟩ := Kd.dL HO.out
 subst eo
 dsimp only at h
 have HC := ae.mk (Kd.bG HO.out).2.2
 have HL := ae.mk (Kd.bG HO.out).2.1
 by_cases c3 : p1 = 0
 ·rw [if_pos c3] at h
  have c3b0 : (p1 == 0) = true := beq_iff_eq.mpr c3
  have c3b1 : (p1 != 0) = false := bne_eq_false_iff_eq.mpr c3
  clear c3
  simp only [Option.some.injEq, Prod.mk.injEq] at h
  obtain ⟨h1, h2, h3⟩ := h
  subst h1
  subst h2
  subst h3
  go_wp2_with (first | ((with_reducible refine lU (f := 8) rfl ?_); refine jJ (some 31) rfl rfl Try.func8 (by kernel_rfl) rfl #[.slice Ao t.length co] rfl Z6 ?_; (with_reducible refine (aK.calls k _ _ t p1 p2 _ ?side1 ?side2 AP.out).mono ?_); (case side1 => exact HC.out); (case side2 => exact HL.out); rintro e w3 ⟨rfl, hb⟩; refine ⟨_, rfl, ?_⟩; have HB3 := ae.mk (aj HB2.out hb); have HO3 := ae.mk (Kd.dN HO.out hb); clear hb))
  go_ret3
  exact ⟨_, rfl, HO3.out, HB3.out⟩
 rw [if_neg c3] at h
 have c3b0 : (p1 == 0) = false := beq_eq_false_iff_ne.mpr c3
 have c3b1 : (p1 != 0) = true := bne_iff_ne.mpr c3
 clear c3
 simp only [Option.some.injEq, Prod.mk.injEq] at h
 obtain ⟨h1, h2, h3⟩ := h
 subst h1
 subst h2
 subst h3
 go_wp2_with (first | ((with_reducible refine lU (f := 8) rfl ?_); refine jJ (some 31) rfl rfl Try.func8 (by kernel_rfl) rfl #[.slice Ao t.length co] rfl Z6 ?_; (with_reducible refine (aK.calls k _ _ t p1 p2 _ ?side1 ?side2 AP.out).mono ?_); (case side1 => exact HC.out); (case side2 => exact HL.out); rintro e w3 ⟨rfl, hb⟩; refine ⟨_, rfl, ?_⟩; have HB3 := ae.mk (aj HB2.out hb); have HO3 := ae.mk (Kd.dN HO.out hb); clear hb))
 go_ret3
 exact ⟨_, rfl, Kd.pJ _ _ _ _ _, HB3.out⟩
end Go.Proofs.Ytlenihbmafkegaa.Q
end
