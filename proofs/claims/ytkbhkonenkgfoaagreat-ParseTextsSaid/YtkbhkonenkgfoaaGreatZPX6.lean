/- Walks over functions of the program, words for them, and what the functions come to; of each text only what this claim uses; no condition. -/
import Derived.Test.YtkbhkonenkgfoaaGreatZPX0
import Derived.Test.YtkbhkonenkgfoaaGreatZPX1
import Derived.Test.YtkbhkonenkgfoaaGreatZPX3
import Derived.Test.YtkbhkonenkgfoaaGreatZPX4
import Derived.Test.YtkbhkonenkgfoaaGreatZPX5
section
set_option linter.unusedVariables false
set_option linter.unusedSimpArgs false
namespace Go.Proofs.YtkbhkonenkgfoaaGreat.Q
open Go Go.RowKit Go.Proofs.YtkbhkonenkgfoaaGreatW.PrintWords Go.Proofs.YtkbhkonenkgfoaaGreatW.PrintLast Go.Proofs.YtkbhkonenkgfoaaGreatW.PrintMore
attribute [local go_sem] lK lJ lI lH
set_option maxHeartbeats 8000000 in
set_option maxRecDepth 100000 in
theorem Fq (F : Fam) (HF : lL F) (k : Nat) (g : Nat) (s0 : List S37) (s1 : Int) (s2 : Bool) (r : List S29) (e1 : Int) (e2 : Bool) (w0 w : World) (hI : Rd 40 w0 w g s0 s1 s2) (hB : Below w0.heap.size w0 w) (h : dA.f F k s0 s1 s2 = some (r, e1, e2)) :
 Calls Tryz.prog 98 #[.pointer (some ⟨g, 0, none⟩)] w (Back 40 w0 w g s0 e1 e2 (IsL w r)) := by
 unfold dA.f at h
 have HS := St.new (T := 40) (by decide) hI hB
 have H := ae.mk h
 clear h hI hB
 go_enter Tryz.func98, Tryz.ntmps98
 go_wp2_with (first | ((with_reducible refine bH (N := 7) rfl ?_); (with_reducible refine gC 96 rfl ?_); refine sL 96 rfl Tryz.func96 (stT HS) H (fun t q b hI hB h => toL (HF.expr g _ _ _ t q b w0 _ hI hB h)) ?_; clear HS H; intro te q b w' Ae ce HS H; (try dsimp only at H); have hc2 := HS.rd.cell2; cases b <;> (try simp only [if_true, if_false, eq_self, Bool.false_eq_true, Bool.not_true, Bool.not_false] at H); rotate_left; (cases k; exact absurd H.out (by simp [dA.j0]); simp only [dA.j0, if_true, if_false, eq_self, Bool.false_eq_true, Bool.not_true, Bool.not_false] at H); rotate_left) | (go_at_call 64; refine cX (stT HS) H (fun t q b hI hB => dN.calls g _ _ _ t q b w0 _ hI hB) ?_; clear HS H; intro t1 q b w' HS H; (try dsimp only at H); (cases k; exact absurd H.out (by simp [dA.j0]); simp only [dA.j0] at H); rcases tS t1 ([61] : List UInt8) with ⟨c, cb1, cn1⟩ | ⟨c, cb1, cn1⟩ <;> (simp only [cn1, if_true, if_false, eq_self, Bool.false_eq_true] at H; clear c); refine DN.h ?_; rotate_left) | ((with_reducible refine gC 23 rfl ?_); refine sU 23 rfl Tryz.func23 (stT HS) H (fun q b hI hB => bg.calls g _ _ _ _ q b w0 _ hI hB) ?_; clear HS H; intro q b w' HS H; (try dsimp only at H)) | ((with_reducible refine bH (N := 22) rfl ?_); refine kZ (N := 22) (stT HS) (by first | (go_simp; done) | (go_simp; rfl)) ?_; clear HS; intro A c w' HS) | ((with_reducible refine gC 28 rfl ?_); refine sJ 28 rfl Tryz.func28 (stT HS) H (fun t hr hc => aZ.calls _ _ _ _ _ _ _ _ _ t _ hr hc) ?_; clear HS H; intro t w' A c HS H; (try dsimp only at H)))
 all_goals first
  | (have h_ := H.out; simp only [Option.some.injEq, Prod.mk.injEq] at h_; obtain ⟨rfl, rfl, rfl⟩ := h_; go_ret; exact (stT HS).jD (.head _))
  | skip
 refine ⟨?_⟩
 by_cases c1 : 0 < (te.length : Int)
 rotate_left
 ·exact absurd (hE c1 H).out (by simp)
 replace H := hI c1 H
 obtain ⟨ad, rfl, hx0, hx2⟩ := HS.node (.head _) c1
 have q3 := eq_true c1
 have qi := eq_true (show 0 < te.length by omega)
 clear c1
 rcases nS (ax te 0).f0 21 with ⟨c2, c2b, c2n⟩ | ⟨c2, c2b, c2n⟩
 ·replace H := hI c2 H
  clear c2
  go_wp2_with (first | ((with_reducible refine gC 23 rfl ?_); refine sU 23 rfl Tryz.func23 (stT HS) H (fun q b hI hB => bg.calls g _ _ _ _ q b w0 _ hI hB) ?_; clear HS H; intro q b w' HS H; (try dsimp only at H); obtain ⟨hx0, hx2⟩ := HS.J4 (.head _) q3) | ((with_reducible refine gC 95 rfl ?_); refine sL 95 rfl Tryz.func95 (stT HS) H (fun t q b hI hB h => yj F HF _ g _ _ _ _ _ _ _ _ t q b w0 _ hI hB h) ?_; clear HS H; intro t q b w' A c HS H; (try dsimp only at H)))
  have h_ := H.out; simp only [Option.some.injEq, Prod.mk.injEq] at h_; obtain ⟨rfl, rfl, rfl⟩ := h_
  go_ret
  exact (stT HS).jD (.head _)
 replace H := hE c2 H
 clear c2
 rcases nS (ax te 0).f0 26 with ⟨c3, c3b, c3n⟩ | ⟨c3, c3b, c3n⟩
 rotate_left
 ·replace H := hE c3 H
  clear c3
  have hc2 := HS.rd.cell2
  have hf2 := HS.rd.fro 2
  go_wp2
  have h_ := H.out; simp only [Option.some.injEq, Prod.mk.injEq] at h_; obtain ⟨rfl, rfl, rfl⟩ := h_
  go_ret
  exact (stT HS).Bq
 replace H := hI c3 H
 clear c3
 go_wp2_with (first | ((with_reducible refine bH (N := 52) rfl ?_); (with_reducible refine gC 23 rfl ?_); refine sU 23 rfl Tryz.func23 (stT HS) H (fun q b hI hB => bg.calls g _ _ _ _ q b w0 _ hI hB) ?_; clear HS H; intro q b w' HS H; (try dsimp only at H); skip) | ((with_reducible refine gC 23 rfl ?_); refine sU 23 rfl Tryz.func23 (stT HS) H (fun q b hI hB => bg.calls g _ _ _ _ q b w0 _ hI hB) ?_; clear HS H; intro q b w' HS H; (try dsimp only at H)) | ((with_reducible refine gC 96 rfl ?_); refine sL 96 rfl Tryz.func96 (stT HS) H (fun t q b hI hB h => toL (HF.expr g _ _ _ t q b w0 _ hI hB h)) ?_; clear HS H; intro t q b w' A c HS H; (try dsimp only at H)) | ((with_reducible refine gC 31 rfl ?_); refine sI2 31 rfl Tryz.func31 (stT HS) H (l := te) Z38 (fun t hn hr hc => fE.calls _ _ _ _ _ t _ hr hc) ?_; clear HS H; intro ti w' Ai ci HS HC H; (try dsimp only at H); have HS0 := HS; clear HS; have HS := St.new HS0.t HS0.rd HS0.below))
 (try simp only [Act.put, List.setIfInBounds_toArray, List.set_cons_zero, List.set_cons_succ])
 have hk := HS.keep
 replace HC := (Kd.dL (HS0.ints (by decide) HC hk)).2.2
 replace HS := (HS0.step hk HS.rd HS.below).push (fG HS0.keep) (HS.o _ (.head _))
 clear hk HS0
 by_cases c5 : 1 < (ti.length : Int)
 rotate_left
 ·exact absurd H.out (by simp [c5])
 replace H := hI (show 0 < (ti.length : Int) by omega) H
 have q5 := eq_true c5
 have q6 := eq_true (show 0 < (ti.length : Int) by omega)
 have q7 := eq_true (show 1 < ti.length by omega)
 have q8 := eq_true (show 0 < ti.length by omega)
 obtain ⟨ai, rfl, hy0⟩ := Kd.jv HC 0 (by omega) (by omega)
 obtain ⟨ai', e2, hy1⟩ := Kd.jv HC 1 (by omega) (by omega)
 obtain rfl : ai = ai' := by injection e2
 (try rw [show (0 : Int).toNat = 0 from rfl, Addr.add_zero'] at hy0)
 (try simp only [show (1 : Int).toNat = 1 from rfl, Nat.reduceMul, Nat.reduceEqDiff, Go.Addr.add, ↓reduceIte] at hy1)
 clear c5 HC e2
 go_region_held3 (fun w' => w'.cell? ai = some (.int .i64 (rd ti 0)) ∧ w'.cell? ⟨ai.block, ai.off + 1, none⟩ = some (.int .i64 (rd ti 1))) (first | exact ⟨hy0, hy1⟩ | go_keep) (first | (go_at_call 103; refine cS (stT HS) H (l := te) Z38 (fun t hn hr hc => jy.calls _ _ _ _ _ t _ hr hc) ?_; clear HS H; intro t w' A c HS hb H; (try dsimp only at H); (try replace H := hI (of_eq_true q5) H); have y0 := (hb.cell (World.block_lt_of_cell? _ _ hy0)).trans hy0; have y1 := (hb.cell (World.block_lt_of_cell? _ _ hy1)).trans hy1; clear hy0 hy1 hb; have hy0 := y0; have hy1 := y1; clear y0 y1) | (go_at_call 28; refine cJ (stT HS).J5 H (fun t hr hc => aZ.calls _ _ _ _ _ _ _ _ _ t _ hr hc) ?_; clear HS H; intro t w' A c HS hb H; (try dsimp only at H); have y0 := (hb.cell (World.block_lt_of_cell? _ _ (vH hy0))).trans (vH hy0); have y1 := (hb.cell (World.block_lt_of_cell? _ _ (vH hy1))).trans (vH hy1); clear hy0 hy1 hb; have hy0 := y0; have hy1 := y1; clear y0 y1))
 go_wp2
 have h_ := H.out; simp only [Option.some.injEq, Prod.mk.injEq] at h_; obtain ⟨rfl, rfl, rfl⟩ := h_
 go_ret
 exact (stT HS).jD (.head _)
end Go.Proofs.YtkbhkonenkgfoaaGreat.Q
end
section
set_option linter.unusedVariables false
set_option linter.unusedSimpArgs false
namespace Go.Proofs.YtkbhkonenkgfoaaGreat.Q
open Go Go.RowKit Go.Proofs.YtkbhkonenkgfoaaGreatW.PrintWords Go.Proofs.YtkbhkonenkgfoaaGreatW.PrintLast Go.Proofs.YtkbhkonenkgfoaaGreatW.PrintMore
attribute [local go_sem] lK lJ lI lH
set_option maxHeartbeats 8000000 in
set_option maxRecDepth 100000 in
theorem Iz (F : Fam) (HF : lL F) (k : Nat) (g : Nat) (s0 : List S37) (s1 : Int) (s2 : Bool) (r : List S29) (e1 : Int) (e2 : Bool) (w0 w : World) (hI : Rd 40 w0 w g s0 s1 s2) (hB : Below w0.heap.size w0 w) (h : aX.f F k s0 s1 s2 = some (r, e1, e2)) :
 Calls Tryz.prog 91 #[.pointer (some ⟨g, 0, none⟩)] w (Back 40 w0 w g s0 e1 e2 (IsL w r)) := by
 unfold aX.f at h
 have HS := St.new (T := 40) (by decide) hI hB
 have H := ae.mk h
 clear h hI hB
 go_enter Tryz.func91, Tryz.ntmps91
 go_wp2_with (first | ((with_reducible refine gC 64 rfl ?_); refine sS 64 rfl Tryz.func64 (stT HS) H (fun t q b hI hB => dN.calls g _ _ _ t q b w0 _ hI hB) ?_; clear HS H; intro t q b w' HS H; (try dsimp only at H); rcases tS t ([108, 101, 116] : List UInt8) with ⟨c, cb1, cn1⟩ | ⟨c, cb1, cn1⟩; replace H := hI c H; clear c; rotate_left; replace H := hE c H; clear c; rcases tS t ([105, 102] : List UInt8) with ⟨c, cb2, cn2⟩ | ⟨c, cb2, cn2⟩; replace H := hI c H; clear c; rotate_left; replace H := hE c H; clear c; rcases tS t ([119, 104, 105, 108, 101] : List UInt8) with ⟨c, cb3, cn3⟩ | ⟨c, cb3, cn3⟩; replace H := hI c H; clear c; rotate_left; replace H := hE c H; clear c; rcases tS t ([98, 114, 101, 97, 107] : List UInt8) with ⟨c, cb4, cn4⟩ | ⟨c, cb4, cn4⟩; replace H := hI c H; clear c; (try replace H := hE (by decide) H); cases k; exact absurd H.out (by simp [aX.j0]); simp only [aX.j0] at H; (try replace H := hE (by decide) H); rotate_left; replace H := hE c H; clear c; rcases tS t ([99, 111, 110, 116, 105, 110, 117, 101] : List UInt8) with ⟨c, cb5, cn5⟩ | ⟨c, cb5, cn5⟩; replace H := hI c H; clear c; (try replace H := hI rfl H); cases k; exact absurd H.out (by simp [aX.j0]); simp only [aX.j0] at H; (try replace H := hE (by decide) H); rotate_left; replace H := hE c H; clear c; rcases tS t ([121, 105, 101, 108, 100] : List UInt8) with ⟨c, cb6, cn6⟩ | ⟨c, cb6, cn6⟩; replace H := hI c H; clear c; cases k; exact absurd H.out (by simp [aX.j0]); simp only [aX.j0] at H; (try replace H := hI rfl H); rotate_left; replace H := hE c H; clear c; rcases tS t ([114, 101, 116, 117, 114, 110] : List UInt8) with ⟨c, cb7, cn7⟩ | ⟨c, cb7, cn7⟩; replace H := hI c H; clear c; cases k; exact absurd H.out (by simp [aX.j1]); simp only [aX.j1] at H; (try replace H := hE (by decide) H); rotate_left; replace H := hE c H; clear c; rcases tS t ([112, 117, 116] : List UInt8) with ⟨c, cb8, cn8⟩ | ⟨c, cb8, cn8⟩; replace H := hI c H; clear c; cases k; exact absurd H.out (by simp [aX.j1]); simp only [aX.j1] at H; (try replace H := hE (by decide) H); rotate_left; replace H := hE c H; clear c; rcases tS t ([101, 109, 105, 116] : List UInt8) with ⟨c, cb9, cn9⟩ | ⟨c, cb9, cn9⟩; replace H := hI c H; clear c; cases k; exact absurd H.out (by simp [aX.j1]); simp only [aX.j1] at H; (try replace H := hE (by decide) H); rotate_left; replace H := hE c H; clear c; cases k; exact absurd H.out (by simp [aX.j1]); simp only [aX.j1] at H; (try replace H := hI rfl H)) | ((with_reducible refine bH (N := 53) rfl ?_); (with_reducible refine gC 25 rfl ?_); refine sB 25 rfl Tryz.func25 (stT HS) H (fun t q b hI hB => bn.calls g _ _ _ _ t q b w0 _ hI hB) ?_; clear HS H; intro t q b w' HS H; (try dsimp only at H); cases t <;> (try simp only [if_true, if_false, eq_self, Bool.false_eq_true, Bool.not_true, Bool.not_false] at H)) | ((with_reducible refine gC 25 rfl ?_); refine sB 25 rfl Tryz.func25 (stT HS) H (fun t q b hI hB => bn.calls g _ _ _ _ t q b w0 _ hI hB) ?_; clear HS H; intro t q b w' HS H; (try dsimp only at H)) | ((with_reducible refine gC 24 rfl ?_); refine sN 24 rfl Tryz.func24 (stT HS) H (fun t1 t2 t3 t4 q b hI hB => dO.calls g _ _ _ _ t1 t2 t3 t4 q b w0 _ hI hB) ?_; clear HS H; intro t1 t2 t3 t4 q b w' HS H; (try dsimp only at H)) | ((with_reducible refine gC 23 rfl ?_); refine sU 23 rfl Tryz.func23 (stT HS) H (fun q b hI hB => bg.calls g _ _ _ _ q b w0 _ hI hB) ?_; clear HS H; intro q b w' HS H; (try dsimp only at H)) | ((with_reducible refine gC 96 rfl ?_); refine sL 96 rfl Tryz.func96 (stT HS) H (fun t q b hI hB h => toL (HF.expr g _ _ _ t q b w0 _ hI hB h)) ?_; clear HS H; intro t q b w' A c HS H; (try dsimp only at H)) | ((with_reducible refine gC 67 rfl ?_); refine sL 67 rfl Tryz.func67 (stT HS) H (fun t q b hI hB h => toL (HF.block g _ _ _ t q b w0 _ hI hB h)) ?_; clear HS H; intro t q b w' A c HS H; (try dsimp only at H)) | ((with_reducible refine gC 95 rfl ?_); refine sL 95 rfl Tryz.func95 (stT HS) H (fun t q b hI hB h => yj F HF _ g _ _ _ _ _ _ _ _ t q b w0 _ hI hB h) ?_; clear HS H; intro t q b w' A c HS H; (try dsimp only at H)) | ((with_reducible refine gC 97 rfl ?_); refine sL 97 rfl Tryz.func97 (stT HS) H (fun t q b hI hB h => I8 _ g _ _ _ _ t q b w0 _ hI hB h) ?_; clear HS H; intro t q b w' A c HS H; (try dsimp only at H)) | ((with_reducible refine gC 98 rfl ?_); refine sL 98 rfl Tryz.func98 (stT HS) H (fun t q b hI hB h => Fq F HF _ g _ _ _ t q b w0 _ hI hB h) ?_; clear HS H; intro t q b w' A c HS H; (try dsimp only at H)) | ((with_reducible refine bH (N := 46) rfl ?_); refine kZ (N := 46) (stT HS) (by first | (go_simp; done) | (go_simp; rfl)) ?_; clear HS; intro A c w' HS; replace H := hB H; (try dsimp only at H)) | ((with_reducible refine bH (N := 50) rfl ?_); refine kZ (N := 50) (stT HS) (by first | (go_simp; done) | (go_simp; rfl)) ?_; clear HS; intro A c w' HS) | ((with_reducible refine eu (b := .append) (xs := #[.tmp 47, .tmp 50]) rfl ?_); at_builtin; refine zD (N := 51) (.tmp 47) (.tmp 50) rfl Tryz.underlying55 info23 (stT HS) rfl rfl H ?_; clear HS H; intro A c w' HS H; (try replace H := hB H); (try dsimp only at H)) | ((with_reducible refine bH (N := 57) rfl ?_); refine kZ (N := 57) (stT HS) (by first | (go_simp; done) | (go_simp; rfl)) ?_; clear HS; intro A c w' HS) | ((with_reducible refine eu (b := .append) (xs := #[.tmp 54, .tmp 57]) rfl ?_); at_builtin; refine zD (N := 58) (.tmp 54) (.tmp 57) rfl Tryz.underlying55 info23 (stT HS) rfl rfl H ?_; clear HS H; intro A c w' HS H; (try replace H := hB H); (try dsimp only at H)) | ((with_reducible refine bH (N := 71) rfl ?_); refine wZ (N := 71) (stT HS) (by first | (go_simp; done) | (go_simp; rfl)) ?_; clear HS; intro A c w' HS) | ((with_reducible refine gC 28 rfl ?_); refine sJ 28 rfl Tryz.func28 (stT HS) H (fun t hr hc => aZ.calls _ _ _ _ _ _ _ _ _ t _ hr hc) ?_; clear HS H; intro t w' A c HS H; (try dsimp only at H)))
 all_goals
  have h_ := H.out; simp only [Option.some.injEq, Prod.mk.injEq] at h_; obtain ⟨rfl, rfl, rfl⟩ := h_
  go_ret
  exact (stT HS).jD (.head _)
end Go.Proofs.YtkbhkonenkgfoaaGreat.Q
end
section
set_option linter.unusedVariables false
set_option linter.unusedSimpArgs false
namespace Go.Proofs.YtkbhkonenkgfoaaGreat.Q
open Go Go.RowKit Go.Proofs.YtkbhkonenkgfoaaGreatW.PrintWords Go.Proofs.YtkbhkonenkgfoaaGreatW.PrintLast Go.Proofs.YtkbhkonenkgfoaaGreatW.PrintMore
attribute [local go_sem] lK lJ lI lH
set_option maxHeartbeats 8000000 in
set_option maxRecDepth 100000 in
theorem Aq (F : Fam) (HF : lL F) (k : Nat) (g : Nat) (s0 : List S37) (s1 : Int) (s2 : Bool) (r : List S29) (e1 : Int) (e2 : Bool) (w0 w : World) (hI : Rd 40 w0 w g s0 s1 s2) (hB : Below w0.heap.size w0 w) (h : bW.f F k s0 s1 s2 = some (r, e1, e2)) :
 Calls Tryz.prog 67 #[.pointer (some ⟨g, 0, none⟩)] w (Back 40 w0 w g s0 e1 e2 (IsL w r)) := by
 unfold bW.f at h
 have HS := St.new (T := 40) (by decide) hI hB
 have H := ae.mk h
 clear h hI hB
 go_enter Tryz.func67, Tryz.ntmps67
 go_wp2_with (first | ((with_reducible refine gC 23 rfl ?_); refine sU 23 rfl Tryz.func23 (stT HS) H (fun q b hI hB => bg.calls g _ _ _ _ q b w0 _ hI hB) ?_; clear HS H; intro q b w' HS H; (try dsimp only at H)))
 (try simp only [Act.put, List.setIfInBounds_toArray, List.set_cons_zero, List.set_cons_succ])
 go_loopg [3] k (fun kq v3 w' => ∃ (x3 : List (List S29)) (p : Int) (d : Bool) (A : Option Addr) (c : Nat), v3 = .slice A x3.length c ∧ ae (bW.l0 F kq x3 s0 p d = some (r, e1, e2)) ∧ ae (kq ≤ k) ∧ St 40 w0 w w' g s0 p d [] [(.slice A x3.length c, x3)] ⟨[], []⟩)
 case atStart => exact ⟨[], _, _, none, 0, rfl, H, ⟨Nat.le_refl _⟩, (stT HS).clear.uG⟩
 case round =>
  clear HS H
  obtain ⟨x3, p, d, A, c, rfl, H, HK1, HS⟩ := hrel
  cases gk with
  | zero => exact absurd H.out (by simp [bW.l0])
  | succ k1 =>
   simp only [bW.l0] at H
   have hc2 := HS.rd.cell2
   all_goals
    cases d <;> (try simp only [if_true, if_false, eq_self, Bool.false_eq_true, Bool.not_true, Bool.not_false] at H)
   all_goals go_wp2_with (first | (go_at_call 64; refine cX (stT HS) H (fun t q b hI hB => dN.calls g _ _ _ t q b w0 _ hI hB) ?_; clear HS H; intro t q b w' HS H; (try dsimp only at H); rcases tS t ([125] : List UInt8) with ⟨c, cb1, cn1⟩ | ⟨c, cb1, cn1⟩; replace H := hI c H; clear c; rotate_left; replace H := hE c H; clear c) | ((with_reducible refine gC 23 rfl ?_); refine sU 23 rfl Tryz.func23 (stT HS) H (fun q b hI hB => bg.calls g _ _ _ _ q b w0 _ hI hB) ?_; clear HS H; intro q b w' HS H; (try dsimp only at H)) | ((with_reducible refine gC 91 rfl ?_); refine sL 91 rfl Tryz.func91 (stT HS) H (fun t q b hI hB h => Iz F HF _ g _ _ _ t q b w0 _ hI hB h) ?_; clear HS H; intro t q b w' A c HS H; (try dsimp only at H)) | ((with_reducible refine bH (N := 19) rfl ?_); refine kZ (N := 19) (stT HS) (by first | (go_simp; done) | (go_simp; rfl)) ?_; clear HS; intro A c w' HS) | ((with_reducible refine eu (b := .append) (xs := #[.tmp 16, .tmp 19]) rfl ?_); at_builtin; refine zD (N := 20) (.tmp 16) (.tmp 19) rfl Tryz.underlying55 info23 (stT HS) rfl rfl H ?_; clear HS H; intro A c w' HS H; (try replace H := hB H); (try dsimp only at H)) | ((with_reducible refine gC 28 rfl ?_); refine sJ 28 rfl Tryz.func28 (stT HS) H (fun t hr hc => aZ.calls _ _ _ _ _ _ _ _ _ t _ hr hc) ?_; clear HS H; intro t w' A c HS H; (try dsimp only at H)))
   all_goals first
    | (go_roundg k1; (case measure => have := HK1.out; omega); (case rel => exact ⟨_, _, _, _, _, by first | rfl | simp, H, ⟨by have := HK1.out; omega⟩, stT HS⟩))
    | (have h_ := H.out; simp only [Option.some.injEq, Prod.mk.injEq] at h_; obtain ⟨rfl, rfl, rfl⟩ := h_; go_ret; exact (stT HS).jD (.head _))
theorem bW.calls (F : Fam) (HF : lL F) (k : Nat) (g : Nat) (s0 : List S37) (s1 : Int) (s2 : Bool) (r1 : List S29) (r2 : Int) (r3 : Bool) (w0 w : World) (hI : dB w0 w g s0 s1 s2) (hB : Below w0.heap.size w0 w) (h : bW.f F k s0 s1 s2 = some (r1, r2, r3)) : Reads 67 #[] g s0 r1 r2 r3 w0 w :=
 ofL (Aq F HF k g s0 s1 s2 r1 r2 r3 w0 w hI hB h)
end Go.Proofs.YtkbhkonenkgfoaaGreat.Q
end
section
namespace Go.Proofs.YtkbhkonenkgfoaaGreat.Q
open Go.RowKit Go.Proofs.YtkbhkonenkgfoaaGreatW.PrintWords Go.Proofs.YtkbhkonenkgfoaaGreatW.PrintLast Go.Proofs.YtkbhkonenkgfoaaGreatW.PrintMore
attribute [local go_sem] iW iV iU iR dJ dH dW dV dh df dI dG
set_option linter.unusedVariables false
set_option linter.unusedSimpArgs false
/-! ### gW: function 118 -/
mutual
def gW.l0 : Nat → List (List (S29)) → List (S37) → Int → Bool → Option ((List (List (S29))) × Int × Bool)
 | 0, _, _, _, _ => none
 | k + 1, x5, x1000, x1001, x1002 => if x1002 = true then (gW.j1 k x5 false x1000 x1001 x1002) else ((dN.f x1000 x1001 x1002).bind fun bt425 => (gW.j1 k x5 (bt425.1.toList != ([41] : List UInt8)) x1000 bt425.2.1 bt425.2.2))
def gW.j1 : Nat → List (List (S29)) → Bool → List (S37) → Int → Bool → Option ((List (List (S29))) × Int × Bool)
 | 0, _, _, _, _, _ => none
 | k + 1, x5, x17, x1000, x1001, x1002 => if x17 = true then (if (x5.length : Int) > 0 then ((bg.f x1000 x1001 x1002 (⟨#[44]⟩ : ByteArray)).bind fun bt430 => ((fH.f k x1000 bt430.1 bt430.2).bind fun bt432 => (if x5.length < 5864062014805 then (gW.l0 k (x5 ++ [bt432.1]) x1000 bt432.2.1 bt432.2.2) else (none)))) else ((fH.f k x1000 x1001 x1002).bind fun bt440 => (if x5.length < 5864062014805 then (gW.l0 k (x5 ++ [bt440.1]) x1000 bt440.2.1 bt440.2.2) else (none)))) else ((bg.f x1000 x1001 x1002 (⟨#[41]⟩ : ByteArray)).bind fun bt428 => (some (x5, bt428.1, bt428.2)))
end
def gW.f (k : Nat) (s0_0 : List (S37)) (s0_1 : Int) (s0_2 : Bool) : Option ((List (List (S29))) × Int × Bool) := (bg.f s0_0 s0_1 s0_2 (⟨#[40]⟩ : ByteArray)).bind fun bt423 => (gW.l0 k ([] : List (List (S29))) s0_0 bt423.1 bt423.2)
theorem gW.bP : ∀ k, (∀ y0 y1 y2 y3, LeO (gW.l0 k y0 y1 y2 y3) (gW.l0 (k + 1) y0 y1 y2 y3)) ∧ (∀ y0 y1 y2 y3 y4, LeO (gW.j1 k y0 y1 y2 y3 y4) (gW.j1 (k + 1) y0 y1 y2 y3 y4))
 | 0 => ⟨fun _ _ _ _ r h => by simp [gW.l0] at h, fun _ _ _ _ _ r h => by simp [gW.j1] at h⟩
 | k + 1 => by
  obtain ⟨ih0, ih1⟩ := gW.bP k
  refine ⟨?_, ?_⟩
  ·intro y0 y1 y2 y3
   unfold gW.l0
   have m0 := fH.mono
   exact yL
  intro y0 y1 y2 y3 y4
  unfold gW.j1
  have m0 := fH.mono
  exact yL
theorem gW.mono : ∀ a0 a1 a2 k, LeO (gW.f k a0 a1 a2) (gW.f (k + 1) a0 a1 a2) := by
 intro a0 a1 a2 k
 obtain ⟨ih0, ih1⟩ := gW.bP k
 unfold gW.f
 have m0 := fH.mono
 exact yL
end Go.Proofs.YtkbhkonenkgfoaaGreat.Q
end
section
set_option linter.unusedVariables false
set_option linter.unusedSimpArgs false
namespace Go.Proofs.YtkbhkonenkgfoaaGreat.Q
open Go Go.RowKit Go.Proofs.YtkbhkonenkgfoaaGreatW.PrintWords Go.Proofs.YtkbhkonenkgfoaaGreatW.PrintLast Go.Proofs.YtkbhkonenkgfoaaGreatW.PrintMore
attribute [local go_sem] lK lJ lI lH
set_option maxHeartbeats 8000000 in
set_option maxRecDepth 100000 in
theorem Fz (k : Nat) (g : Nat) (s0 : List S37) (s1 : Int) (s2 : Bool) (r : List (List S29)) (e1 : Int) (e2 : Bool) (w0 w : World) (hI : Rd 40 w0 w g s0 s1 s2) (hB : Below w0.heap.size w0 w) (h : gW.f k s0 s1 s2 = some (r, e1, e2)) :
 Calls Tryz.prog 65 #[.pointer (some ⟨g, 0, none⟩), .func (.func 66) #[.pointer (some ⟨g, 0, none⟩)] #[]] w (Back 40 w0 w g s0 e1 e2 (IsK w g r)) := by
 unfold gW.f at h
 have HS := St.new (T := 40) (by decide) hI hB
 have H := ae.mk h
 clear h hI hB
 go_enter Tryz.func65, Tryz.ntmps65
 go_wp2_with (first | ((with_reducible refine gC 23 rfl ?_); refine sU 23 rfl Tryz.func23 (stT HS) H (fun q b hI hB => bg.calls g _ _ _ _ q b w0 _ hI hB) ?_; clear HS H; intro q b w' HS H; (try dsimp only at H)))
 (try simp only [Act.put, List.setIfInBounds_toArray, List.set_cons_zero, List.set_cons_succ])
 go_loopg [5] k (fun kq v3 w' => ∃ (x3 : List (List S29)) (p : Int) (d : Bool) (A : Option Addr) (c : Nat), v3 = .slice A x3.length c ∧ ae (gW.l0 kq x3 s0 p d = some (r, e1, e2)) ∧ ae (kq ≤ k) ∧ St 40 w0 w w' g s0 p d [] [(.slice A x3.length c, x3)] ⟨[], []⟩)
 case atStart => exact ⟨[], _, _, none, 0, rfl, H, ⟨Nat.le_refl _⟩, (stT HS).clear.uG⟩
 case round =>
  clear HS H
  obtain ⟨x3, p, d, A, c, rfl, H, HK1, HS⟩ := hrel
  cases gk with
  | zero => exact absurd H.out (by simp [gW.l0])
  | succ k1 =>
   simp only [gW.l0] at H
   cases k1 with
   | zero => exact absurd H.out (by cases d <;> simp [gW.j1])
   | succ k2 =>
   simp only [gW.j1] at H
   have hc2 := HS.rd.cell2
   by_cases hx : (x3.length : Int) > 0
   all_goals
    simp only [hx, if_true, if_false] at H
    first | (have hxb : decide (0 < (x3.length : Int)) = true := decide_eq_true hx; have hxc : decide (0 < x3.length) = true := decide_eq_true (by omega)) | (have hxb : decide (0 < (x3.length : Int)) = false := decide_eq_false hx; have hxc : decide (0 < x3.length) = false := decide_eq_false (by omega))
    clear hx
   all_goals
    cases d <;> (try simp only [if_true, if_false, eq_self, Bool.false_eq_true, Bool.not_true, Bool.not_false] at H)
   all_goals go_wp2_with (first | (go_at_call 64; refine cX (stT HS) H (fun t q b hI hB => dN.calls g _ _ _ t q b w0 _ hI hB) ?_; clear HS H; intro t q b w' HS H; (try dsimp only at H); rcases tS t ([41] : List UInt8) with ⟨c, cb1, cn1⟩ | ⟨c, cb1, cn1⟩ <;> (simp only [cn1, if_true, if_false, eq_self, Bool.false_eq_true] at H; clear c)) | ((with_reducible refine gC 23 rfl ?_); refine sU 23 rfl Tryz.func23 (stT HS) H (fun q b hI hB => bg.calls g _ _ _ _ q b w0 _ hI hB) ?_; clear HS H; intro q b w' HS H; (try dsimp only at H)) | (go_at_call 66; refine cL (stT HS) H (fun t q b hI hB h => Fv _ g _ _ _ t q b w0 _ hI hB h) ?_; clear HS H; intro t q b w' A c HS H; (try dsimp only at H)) | ((with_reducible refine bH (N := 26) rfl ?_); refine kZ (N := 26) (stT HS) (by first | (go_simp; done) | (go_simp; rfl)) ?_; clear HS; intro A c w' HS) | ((with_reducible refine eu (b := .append) (xs := #[.tmp 23, .tmp 26]) rfl ?_); at_builtin; refine zD (N := 27) (.tmp 23) (.tmp 26) rfl Tryz.underlying55 info23 (stT HS) rfl rfl H ?_; clear HS H; intro A c w' HS H; (try replace H := hB H); (try dsimp only at H)))
   all_goals first
    | (go_roundg k2; (case measure => have := HK1.out; omega); (case rel => exact ⟨_, _, _, _, _, by first | rfl | simp, H, ⟨by have := HK1.out; omega⟩, stT HS⟩))
    | (have h_ := H.out; simp only [Option.some.injEq, Prod.mk.injEq] at h_; obtain ⟨rfl, rfl, rfl⟩ := h_; go_ret; exact (stT HS).Bv)
end Go.Proofs.YtkbhkonenkgfoaaGreat.Q
end
section
namespace Go.Proofs.YtkbhkonenkgfoaaGreat.Q
open Go.RowKit Go.Proofs.YtkbhkonenkgfoaaGreatW.PrintWords Go.Proofs.YtkbhkonenkgfoaaGreatW.PrintLast Go.Proofs.YtkbhkonenkgfoaaGreatW.PrintMore
attribute [local go_sem] iW iV iU iR dJ dH dW dV dh df dI dG
set_option linter.unusedVariables false
set_option linter.unusedSimpArgs false
/-! ### dD: function 27 -/
def dD.f (F : Fam) (k : Nat) (s0_0 : List (S37)) (s0_1 : Int) (s0_2 : Bool) (a1_0 : Int) (a1_1 : Int) (a1_2 : ByteArray) (a1_3 : Int) (a1_4 : ByteArray) : Option ((List (S29)) × Int × Bool) := (gW.f k s0_0 s0_1 s0_2).bind fun bt449 => ((bW.f F k s0_0 bt449.2.1 bt449.2.2).bind fun bt454 => (if bt449.1.length < 5864062014805 then ((aZ.f k a1_0 a1_1 a1_2 a1_3 a1_4 (bt449.1 ++ [bt454.1])).bind fun t462 => (some (t462, bt454.2.1, bt454.2.2))) else (none)))
theorem dD.mono {F F' : Fam} (HLE : lg F F') : ∀ a0 a1 a2 a3 a4 a5 a6 a7 k, LeO (dD.f F k a0 a1 a2 a3 a4 a5 a6 a7) (dD.f F' (k + 1) a0 a1 a2 a3 a4 a5 a6 a7) := by
 intro a0 a1 a2 a3 a4 a5 a6 a7 k
 unfold dD.f
 have m0 := aZ.mono
 have m1 := (bW.mono HLE)
 have m2 := gW.mono
 exact yL
def dD.T2 : Bool × List (List Nat × List Nat) := (true, [([], []), ([], []), ([], []), ([2], [2]), ([3], [3]), ([1, 4, 3], [1, 4]), ([0, 5, 5], [0, 5]), ([6, 6, 0, 1, 2, 3, 4, 5, 6], [6])])
def dD.B2 : List Nat := [0, 0, 0, 4, 12, 30, 63, 127]
theorem dD.EX : oz .any (opsOf Tryz.f27 2) = dD.T2 := by kernel_rfl
theorem dD.Bo : pK dD.T2.2 dD.B2 = true := by kernel_rfl
end Go.Proofs.YtkbhkonenkgfoaaGreat.Q
end
section
set_option linter.unusedVariables false
set_option linter.unusedSimpArgs false
namespace Go.Proofs.YtkbhkonenkgfoaaGreat.Q
open Go Go.RowKit Go.Proofs.YtkbhkonenkgfoaaGreatW.PrintWords Go.Proofs.YtkbhkonenkgfoaaGreatW.PrintLast Go.Proofs.YtkbhkonenkgfoaaGreatW.PrintMore
attribute [local go_sem] lK lJ lI lH
set_option maxHeartbeats 8000000 in
set_option maxRecDepth 100000 in
theorem uX (F : Fam) (HF : lL F) (k : Nat) (g : Nat) (s0 : List S37) (s1 : Int) (s2 : Bool) (a0 : Int) (a1 : Int) (a2 : ByteArray) (a3 : Int) (a4 : ByteArray) (r : List S29) (e1 : Int) (e2 : Bool) (w0 w : World) (hI : Rd 40 w0 w g s0 s1 s2) (hB : Below w0.heap.size w0 w) (h : dD.f F k s0 s1 s2 a0 a1 a2 a3 a4 = some (r, e1, e2)) :
 Calls Tryz.prog 27 #[.pointer (some ⟨g, 0, none⟩), .agg #[.int .i64 a0, .int .i64 a1, .string a2, .int .i64 a3, .string a4]] w (Back 40 w0 w g s0 e1 e2 (IsL w r)) := by
 unfold dD.f at h
 have HS := St.new (T := 40) (by decide) hI hB
 have H := ae.mk h
 clear h hI hB
 go_enter Tryz.func27, Tryz.ntmps27
 go_wp2_with (first | ((with_reducible refine bH (N := 3) rfl ?_); refine boxS (N := 3) (stT HS) (by first | (go_simp; done) | (go_simp; rfl)) ?_; clear HS; intro gb w' HS hne hge; (try (have hb_ := HS.box rfl; have hx0 := (aj hb_ 0).trans rfl; have hf0 := ag hb_ 0; have hx1 := (aj hb_ 1).trans rfl; have hf1 := ag hb_ 1; have hx2 := (aj hb_ 2).trans rfl; have hf2 := ag hb_ 2; have hx3 := (aj hb_ 3).trans rfl; have hf3 := ag hb_ 3; have hx4 := (aj hb_ 4).trans rfl; have hf4 := ag hb_ 4; clear hb_))) | ((with_reducible refine gC 65 rfl ?_); refine sK 65 rfl Tryz.func65 (stX HS) H (fun t q b hI hB h => Fz _ g _ _ _ t q b w0 _ hI hB h) ?_; (try clear hx0 hx1 hx2 hx3 hx4 hf0 hf1 hf2 hf3 hf4); clear HS H; intro t q b w' A c HS H; (try dsimp only at H); (try (have hb_ := HS.box rfl; have hx0 := (aj hb_ 0).trans rfl; have hf0 := ag hb_ 0; have hx1 := (aj hb_ 1).trans rfl; have hf1 := ag hb_ 1; have hx2 := (aj hb_ 2).trans rfl; have hf2 := ag hb_ 2; have hx3 := (aj hb_ 3).trans rfl; have hf3 := ag hb_ 3; have hx4 := (aj hb_ 4).trans rfl; have hf4 := ag hb_ 4; clear hb_))))
 (try simp only [Act.put, List.setIfInBounds_toArray, List.set_cons_zero, List.set_cons_succ])
 go_region_held3 (fun w' => w'.cell? ⟨gb, 0, none⟩ = some (.int .i64 a0) ∧ w'.cell? ⟨gb, 1, none⟩ = some (.int .i64 a1) ∧ w'.cell? ⟨gb, 2, none⟩ = some (.string a2) ∧ w'.cell? ⟨gb, 3, none⟩ = some (.int .i64 a3) ∧ w'.cell? ⟨gb, 4, none⟩ = some (.string a4)) (first | exact ⟨hx0, hx1, hx2, hx3, hx4⟩ | go_keep) (first | (go_at_call 67; refine cL (stT HS) H (fun t q b hI hB h => Aq F HF _ g _ _ _ t q b w0 _ hI hB h) ?_; (try clear hx0 hx1 hx2 hx3 hx4 hf0 hf1 hf2 hf3 hf4); clear HS H; intro t q b w' A c HS H; (try dsimp only at H); (try (have hb_ := HS.box rfl; have hx0 := (aj hb_ 0).trans rfl; have hf0 := ag hb_ 0; have hx1 := (aj hb_ 1).trans rfl; have hf1 := ag hb_ 1; have hx2 := (aj hb_ 2).trans rfl; have hf2 := ag hb_ 2; have hx3 := (aj hb_ 3).trans rfl; have hf3 := ag hb_ 3; have hx4 := (aj hb_ 4).trans rfl; have hf4 := ag hb_ 4; clear hb_))) | (go_at_call 28; obtain rfl := hn.out; refine cJ (stT HS) H (fun t hr hc => aZ.calls _ _ _ _ _ _ _ _ _ t _ hr hc) ?_; (try clear hx0 hx1 hx2 hx3 hx4 hf0 hf1 hf2 hf3 hf4); clear HS H; intro t w' A c HS hb H; (try dsimp only at H); clear hb; (try (have hb_ := HS.box rfl; have hx0 := (aj hb_ 0).trans rfl; have hf0 := ag hb_ 0; have hx1 := (aj hb_ 1).trans rfl; have hf1 := ag hb_ 1; have hx2 := (aj hb_ 2).trans rfl; have hf2 := ag hb_ 2; have hx3 := (aj hb_ 3).trans rfl; have hf3 := ag hb_ 3; have hx4 := (aj hb_ 4).trans rfl; have hf4 := ag hb_ 4; clear hb_))) | (refine Na (N := 15) (.tmp 11) (.tmp 14) rfl Tryz.underlying55 info23 HS.J6 (by rfl) rfl rfl H ?_; (try clear hx0 hx1 hx2 hx3 hx4 hf0 hf1 hf2 hf3 hf4); clear HS H; intro A c w' n hn HS H; (try (have hb_ := HS.box rfl; have hx0 := (aj hb_ 0).trans rfl; have hf0 := ag hb_ 0; have hx1 := (aj hb_ 1).trans rfl; have hf1 := ag hb_ 1; have hx2 := (aj hb_ 2).trans rfl; have hf2 := ag hb_ 2; have hx3 := (aj hb_ 3).trans rfl; have hf3 := ag hb_ 3; have hx4 := (aj hb_ 4).trans rfl; have hf4 := ag hb_ 4; clear hb_))))
 go_wp2
 all_goals
  have h_ := H.out; simp only [Option.some.injEq, Prod.mk.injEq] at h_; obtain ⟨rfl, rfl, rfl⟩ := h_
  go_ret
  exact (stT HS).jD (.head _)
end Go.Proofs.YtkbhkonenkgfoaaGreat.Q
end
section
namespace Go.Proofs.YtkbhkonenkgfoaaGreat.Q
open Go.RowKit Go.Proofs.YtkbhkonenkgfoaaGreatW.PrintWords Go.Proofs.YtkbhkonenkgfoaaGreatW.PrintLast Go.Proofs.YtkbhkonenkgfoaaGreatW.PrintMore
attribute [local go_sem] iW iV iU iR dJ dH dW dV dh df dI dG
set_option linter.unusedVariables false
set_option linter.unusedSimpArgs false
/-! ### fQ: function 109 -/
def fQ.f (F : Fam) (k : Nat) (s0_0 : List (S37)) (s0_1 : Int) (s0_2 : Bool) : Option ((List (S29)) × Int × Bool) := (dN.f s0_0 s0_1 s0_2).bind fun bt643 => (if bt643.1.toList = ([110, 105, 108] : List UInt8) then ((bn.f s0_0 bt643.2.1 bt643.2.2 bt643.1).bind fun bt646 => ((aZ.f k 18 0 (⟨#[]⟩ : ByteArray) 0 (⟨#[]⟩ : ByteArray) ([] : List (List (S29)))).bind fun t649 => (some (t649, bt646.2.1, bt646.2.2)))) else (if bt643.1.toList = ([115, 116, 97, 116, 101] : List UInt8) then ((bn.f s0_0 bt643.2.1 bt643.2.2 bt643.1).bind fun bt652 => ((aZ.f k 29 0 (⟨#[]⟩ : ByteArray) 0 (⟨#[]⟩ : ByteArray) ([] : List (List (S29)))).bind fun t655 => (some (t655, bt652.2.1, bt652.2.2)))) else (if bt643.1.toList = ([123] : List UInt8) then ((bn.f s0_0 bt643.2.1 bt643.2.2 bt643.1).bind fun bt658 => ((bg.f s0_0 bt658.2.1 bt658.2.2 (⟨#[125]⟩ : ByteArray)).bind fun bt661 => ((aZ.f k 25 0 (⟨#[]⟩ : ByteArray) 0 (⟨#[]⟩ : ByteArray) ([] : List (List (S29)))).bind fun t663 => (some (t663, bt661.1, bt661.2))))) else (if bt643.1.toList = ([102, 110] : List UInt8) then ((bn.f s0_0 bt643.2.1 bt643.2.2 bt643.1).bind fun bt666 => ((dD.f F k s0_0 bt666.2.1 bt666.2.2 24 0 (⟨#[]⟩ : ByteArray) 0 (⟨#[]⟩ : ByteArray)).bind fun bt669 => (some (bt669.1, bt669.2.1, bt669.2.2)))) else (if bt643.1.toList = ([40] : List UInt8) then ((bn.f s0_0 bt643.2.1 bt643.2.2 bt643.1).bind fun bt674 => ((jV.f F k s0_0 bt674.2.1 bt674.2.2).bind fun bt677 => ((bg.f s0_0 bt677.2.1 bt677.2.2 (⟨#[41]⟩ : ByteArray)).bind fun bt682 => (some (bt677.1, bt682.1, bt682.2))))) else ((gq.f F k s0_0 bt643.2.1 bt643.2.2).bind fun bt684 => (some (bt684.1, bt684.2.1, bt684.2.2))))))))
theorem fQ.mono {F F' : Fam} (HLE : lg F F') : ∀ a0 a1 a2 k, LeO (fQ.f F k a0 a1 a2) (fQ.f F' (k + 1) a0 a1 a2) := by
 intro a0 a1 a2 k
 unfold fQ.f
 have m0 := aZ.mono
 have m1 := (dD.mono HLE)
 have m2 := (gq.mono HLE)
 have m3 := (jV.mono HLE)
 exact yL
-- BY HAND: function 117 (runtime_errorString_RuntimeError)
end Go.Proofs.YtkbhkonenkgfoaaGreat.Q
end
section
set_option linter.unusedVariables false
set_option linter.unusedSimpArgs false
namespace Go.Proofs.YtkbhkonenkgfoaaGreat.Q
open Go Go.RowKit Go.Proofs.YtkbhkonenkgfoaaGreatW.PrintWords Go.Proofs.YtkbhkonenkgfoaaGreatW.PrintLast Go.Proofs.YtkbhkonenkgfoaaGreatW.PrintMore
attribute [local go_sem] lK lJ lI lH
set_option maxHeartbeats 8000000 in
set_option maxRecDepth 100000 in
theorem I4 (F : Fam) (HF : lL F) (k : Nat) (g : Nat) (s0 : List S37) (s1 : Int) (s2 : Bool) (r : List S29) (e1 : Int) (e2 : Bool) (w0 w : World) (hI : Rd 40 w0 w g s0 s1 s2) (hB : Below w0.heap.size w0 w) (h : fQ.f F k s0 s1 s2 = some (r, e1, e2)) :
 Calls Tryz.prog 109 #[.pointer (some ⟨g, 0, none⟩)] w (Back 40 w0 w g s0 e1 e2 (IsL w r)) := by
 unfold fQ.f at h
 have HS := St.new (T := 40) (by decide) hI hB
 have H := ae.mk h
 clear h hI hB
 go_enter Tryz.func109, Tryz.ntmps109
 go_wp2_with (first | ((with_reducible refine gC 64 rfl ?_); refine sS 64 rfl Tryz.func64 (stT HS) H (fun t q b hI hB => dN.calls g _ _ _ t q b w0 _ hI hB) ?_; clear HS H; intro t q b w' HS H; (try dsimp only at H); rcases tS t ([110, 105, 108] : List UInt8) with ⟨c, cb1, cn1⟩ | ⟨c, cb1, cn1⟩; replace H := hI c H; clear c; rotate_left; replace H := hE c H; clear c; rcases tS t ([115, 116, 97, 116, 101] : List UInt8) with ⟨c, cb2, cn2⟩ | ⟨c, cb2, cn2⟩; replace H := hI c H; clear c; rotate_left; replace H := hE c H; clear c; rcases tS t ([123] : List UInt8) with ⟨c, cb3, cn3⟩ | ⟨c, cb3, cn3⟩; replace H := hI c H; clear c; rotate_left; replace H := hE c H; clear c; rcases tS t ([102, 110] : List UInt8) with ⟨c, cb4, cn4⟩ | ⟨c, cb4, cn4⟩; replace H := hI c H; clear c; rotate_left; replace H := hE c H; clear c; rcases tS t ([40] : List UInt8) with ⟨c, cb5, cn5⟩ | ⟨c, cb5, cn5⟩; replace H := hI c H; clear c; rotate_left; replace H := hE c H; clear c) | ((with_reducible refine gC 25 rfl ?_); refine sB 25 rfl Tryz.func25 (stT HS) H (fun t q b hI hB => bn.calls g _ _ _ _ t q b w0 _ hI hB) ?_; clear HS H; intro t q b w' HS H; (try dsimp only at H)) | ((with_reducible refine gC 28 rfl ?_); refine sJ 28 rfl Tryz.func28 (stT HS).uG H (fun t hr hc => aZ.calls _ _ _ _ _ _ _ _ _ t _ hr hc) ?_; clear HS H; intro t w' A c HS H; (try dsimp only at H)) | ((with_reducible refine gC 23 rfl ?_); refine sU 23 rfl Tryz.func23 (stT HS) H (fun q b hI hB => bg.calls g _ _ _ _ q b w0 _ hI hB) ?_; clear HS H; intro q b w' HS H; (try dsimp only at H)) | ((with_reducible refine gC 27 rfl ?_); refine sL 27 rfl Tryz.func27 (stT HS) H (fun t q b hI hB h => uX F HF _ g _ _ _ _ _ _ _ _ t q b w0 _ hI hB h) ?_; clear HS H; intro t q b w' A c HS H; (try dsimp only at H)) | ((with_reducible refine gC 96 rfl ?_); refine sL 96 rfl Tryz.func96 (stT HS) H (fun t q b hI hB h => toL (HF.expr g _ _ _ t q b w0 _ hI hB h)) ?_; clear HS H; intro t q b w' A c HS H; (try dsimp only at H)) | ((with_reducible refine gC 113 rfl ?_); refine sL 113 rfl Tryz.func113 (stT HS) H (fun t q b hI hB h => I5 F HF _ g _ _ _ t q b w0 _ hI hB h) ?_; clear HS H; intro t q b w' A c HS H; (try dsimp only at H)))
 all_goals
  have h_ := H.out; simp only [Option.some.injEq, Prod.mk.injEq] at h_; obtain ⟨rfl, rfl, rfl⟩ := h_
  go_ret
  exact (stT HS).jD (.head _)
end Go.Proofs.YtkbhkonenkgfoaaGreat.Q
end
section
namespace Go.Proofs.YtkbhkonenkgfoaaGreat.Q
open Go.RowKit Go.Proofs.YtkbhkonenkgfoaaGreatW.PrintWords Go.Proofs.YtkbhkonenkgfoaaGreatW.PrintLast Go.Proofs.YtkbhkonenkgfoaaGreatW.PrintMore
attribute [local go_sem] iW iV iU iR dJ dH dW dV dh df dI dG
set_option linter.unusedVariables false
set_option linter.unusedSimpArgs false
/-! ### aW: function 105 -/
mutual
def aW.j0 (F : Fam) : Nat → ByteArray → ByteArray → Bool → List (S37) → Int → Bool → Option ((List (S29)) × Int × Bool)
 | 0, _, _, _, _, _, _ => none
 | k + 1, x3, x8, x9, x1000, x1001, x1002 => if x9 = true then ((bn.f x1000 x1001 x1002 x3).bind fun bt692 => ((oV.f F k x1000 bt692.2.1 bt692.2.2).bind fun bt695 => ((aZ.f k 28 0 (⟨#[]⟩ : ByteArray) 0 x3 (([bt695.1] : List (List (S29))))).bind fun t703 => (some (t703, bt695.2.1, bt695.2.2))))) else (if x8.toList = ([115, 112, 97, 119, 110] : List UInt8) then ((bn.f x1000 x1001 x1002 x3).bind fun bt706 => ((oV.f F k x1000 bt706.2.1 bt706.2.2).bind fun bt709 => ((aZ.f k 30 0 (⟨#[]⟩ : ByteArray) 0 (⟨#[]⟩ : ByteArray) (([bt709.1] : List (List (S29))))).bind fun t717 => (some (t717, bt709.2.1, bt709.2.2))))) else ((fQ.f F k x1000 x1001 x1002).bind fun bt720 => (aW.l0 F k bt720.1 x1000 bt720.2.1 bt720.2.2)))
def aW.l0 (F : Fam) : Nat → List (S29) → List (S37) → Int → Bool → Option ((List (S29)) × Int × Bool)
 | 0, _, _, _, _ => none
 | k + 1, x4, x1000, x1001, x1002 => if x1002 = true then (some (x4, x1001, x1002)) else ((dN.f x1000 x1001 x1002).bind fun bt725 => (if bt725.1.toList = ([40] : List UInt8) then ((some (([x4] : List (List (S29))) : List (List (S29)))).bind fun y728 => ((iJ.f F k x1000 bt725.2.1 bt725.2.2).bind fun bt731 => (if y728.length + bt731.1.length < 5864062014805 then ((aZ.f k 22 0 (⟨#[]⟩ : ByteArray) 0 (⟨#[]⟩ : ByteArray) (y728 ++ bt731.1)).bind fun t739 => (aW.l0 F k t739 x1000 bt731.2.1 bt731.2.2)) else (none)))) else (if bt725.1.toList = ([91] : List UInt8) then ((bn.f x1000 bt725.2.1 bt725.2.2 (⟨#[91]⟩ : ByteArray)).bind fun bt742 => ((jV.f F k x1000 bt742.2.1 bt742.2.2).bind fun bt745 => ((aZ.f k 26 0 (⟨#[]⟩ : ByteArray) 0 (⟨#[]⟩ : ByteArray) (([x4, bt745.1] : List (List (S29))))).bind fun t753 => ((bg.f x1000 bt745.2.1 bt745.2.2 (⟨#[93]⟩ : ByteArray)).bind fun bt756 => (aW.l0 F k t753 x1000 bt756.1 bt756.2))))) else (some (x4, bt725.2.1, bt725.2.2)))))
end
def aW.f (F : Fam) (k : Nat) (s0_0 : List (S37)) (s0_1 : Int) (s0_2 : Bool) : Option ((List (S29)) × Int × Bool) := (dN.f s0_0 s0_1 s0_2).bind fun bt689 => (if bt689.1.toList = ([45] : List UInt8) then (aW.j0 F k bt689.1 bt689.1 (bt689.1.toList == ([45] : List UInt8)) s0_0 bt689.2.1 bt689.2.2) else (if bt689.1.toList = ([110, 111, 116] : List UInt8) then (aW.j0 F k bt689.1 bt689.1 (bt689.1.toList == ([110, 111, 116] : List UInt8)) s0_0 bt689.2.1 bt689.2.2) else (aW.j0 F k bt689.1 bt689.1 (bt689.1.toList == ([108, 101, 110] : List UInt8)) s0_0 bt689.2.1 bt689.2.2)))
theorem aW.bP {F F' : Fam} (HLE : lg F F') : ∀ k, (∀ y0 y1 y2 y3 y4 y5, LeO (aW.j0 F k y0 y1 y2 y3 y4 y5) (aW.j0 F' (k + 1) y0 y1 y2 y3 y4 y5)) ∧ (∀ y0 y1 y2 y3, LeO (aW.l0 F k y0 y1 y2 y3) (aW.l0 F' (k + 1) y0 y1 y2 y3))
 | 0 => ⟨fun _ _ _ _ _ _ r h => by simp [aW.j0] at h, fun _ _ _ _ r h => by simp [aW.l0] at h⟩
 | k + 1 => by
  obtain ⟨ih0, ih1⟩ := aW.bP HLE k
  refine ⟨?_, ?_⟩
  ·intro y0 y1 y2 y3 y4 y5
   unfold aW.j0
   have m0 := aZ.mono
   have m1 := (fQ.mono HLE)
   have m2 := (iJ.mono HLE)
   have m3 := (jV.mono HLE)
   have m4 := (oV.mono HLE)
   exact yL
  intro y0 y1 y2 y3
  unfold aW.l0
  have m0 := aZ.mono
  have m1 := (fQ.mono HLE)
  have m2 := (iJ.mono HLE)
  have m3 := (jV.mono HLE)
  have m4 := (oV.mono HLE)
  exact yL
theorem aW.mono {F F' : Fam} (HLE : lg F F') : ∀ a0 a1 a2 k, LeO (aW.f F k a0 a1 a2) (aW.f F' (k + 1) a0 a1 a2) := by
 intro a0 a1 a2 k
 obtain ⟨ih0, ih1⟩ := aW.bP HLE k
 unfold aW.f
 have m0 := aZ.mono
 have m1 := (fQ.mono HLE)
 have m2 := (iJ.mono HLE)
 have m3 := (jV.mono HLE)
 have m4 := (oV.mono HLE)
 exact yL
end Go.Proofs.YtkbhkonenkgfoaaGreat.Q
end
section
set_option linter.unusedVariables false
set_option linter.unusedSimpArgs false
namespace Go.Proofs.YtkbhkonenkgfoaaGreat.Q
open Go Go.RowKit Go.Proofs.YtkbhkonenkgfoaaGreatW.PrintWords Go.Proofs.YtkbhkonenkgfoaaGreatW.PrintLast Go.Proofs.YtkbhkonenkgfoaaGreatW.PrintMore
attribute [local go_sem] lK lJ lI lH
set_option maxHeartbeats 8000000 in
set_option maxRecDepth 100000 in
theorem Ak (F : Fam) (HF : lL F) (k : Nat) (g : Nat) (s0 : List S37) (s1 : Int) (s2 : Bool) (r : List S29) (e1 : Int) (e2 : Bool) (w0 w : World) (hI : Rd 40 w0 w g s0 s1 s2) (hB : Below w0.heap.size w0 w) (h : aW.f F k s0 s1 s2 = some (r, e1, e2)) :
 Calls Tryz.prog 105 #[.pointer (some ⟨g, 0, none⟩)] w (Back 40 w0 w g s0 e1 e2 (IsL w r)) := by
 unfold aW.f at h
 have HS := St.new (T := 40) (by decide) hI hB
 have H := ae.mk h
 clear h hI hB
 go_enter Tryz.func105, Tryz.ntmps105
 go_wp2_with (first | ((with_reducible refine gC 64 rfl ?_); refine sS 64 rfl Tryz.func64 (stT HS) H (fun t q b hI hB => dN.calls g _ _ _ t q b w0 _ hI hB) ?_; clear HS H; intro t q b w' HS H; (try dsimp only at H); rcases tS t ([45] : List UInt8) with ⟨c, cb1, cn1⟩ | ⟨c, cb1, cn1⟩; replace H := hI c H; clear c; rcases k with _ | k; exact absurd H.out (by simp [aW.j0]); simp only [aW.j0] at H; simp only [cb1, if_true] at H; rotate_left; replace H := hE c H; clear c; rcases tS t ([110, 111, 116] : List UInt8) with ⟨c, cb2, cn2⟩ | ⟨c, cb2, cn2⟩; replace H := hI c H; clear c; rcases k with _ | k; exact absurd H.out (by simp [aW.j0]); simp only [aW.j0] at H; simp only [cb2, if_true] at H; rotate_left; replace H := hE c H; clear c; (rcases k with _ | k; exact absurd H.out (by simp [aW.j0]); simp only [aW.j0] at H); rcases tS t ([108, 101, 110] : List UInt8) with ⟨c, cb3, cn3⟩ | ⟨c, cb3, cn3⟩; clear c; simp only [cb3, if_true] at H; rotate_left; clear c; simp only [cb3, Bool.false_eq_true, if_false] at H; rcases tS t ([115, 112, 97, 119, 110] : List UInt8) with ⟨c, cb4, cn4⟩ | ⟨c, cb4, cn4⟩; replace H := hI c H; clear c; rotate_left; replace H := hE c H; clear c) | ((with_reducible refine gC 25 rfl ?_); refine sB 25 rfl Tryz.func25 (stT HS) H (fun t q b hI hB => bn.calls g _ _ _ _ t q b w0 _ hI hB) ?_; clear HS H; intro t q b w' HS H; (try dsimp only at H)) | ((with_reducible refine gC 105 rfl ?_); refine sL 105 rfl Tryz.func105 (stT HS) H (fun t q b hI hB h => toL (HF.unary g _ _ _ t q b w0 _ hI hB h)) ?_; clear HS H; intro t q b w' A c HS H; (try dsimp only at H)) | ((with_reducible refine bH (N := 20) rfl ?_); refine kZ (N := 20) (stT HS) (by first | (go_simp; done) | (go_simp; rfl)) ?_; clear HS; intro A c w' HS) | ((with_reducible refine bH (N := 30) rfl ?_); refine kZ (N := 30) (stT HS) (by first | (go_simp; done) | (go_simp; rfl)) ?_; clear HS; intro A c w' HS) | ((with_reducible refine gC 28 rfl ?_); refine sJ 28 rfl Tryz.func28 (stT HS) H (fun t hr hc => aZ.calls _ _ _ _ _ _ _ _ _ t _ hr hc) ?_; clear HS H; intro t w' A c HS H; (try dsimp only at H)) | ((with_reducible refine gC 109 rfl ?_); refine sL 109 rfl Tryz.func109 (stT HS) H (fun t q b hI hB h => I4 F HF _ g _ _ _ t q b w0 _ hI hB h) ?_; clear HS H; intro t q b w' A c HS H; (try dsimp only at H)))
 all_goals first
  | (have h_ := H.out; simp only [Option.some.injEq, Prod.mk.injEq] at h_; obtain ⟨rfl, rfl, rfl⟩ := h_; go_ret; exact (stT HS).jD (.head _))
  | skip
 (try simp only [Act.put, List.setIfInBounds_toArray, List.set_cons_zero, List.set_cons_succ])
 go_loopg [4] k (fun kq v4 w' => ∃ (x4 : List S29) (p : Int) (d : Bool) (A : Option Addr) (c : Nat), v4 = .slice A x4.length c ∧ ae (aW.l0 F kq x4 s0 p d = some (r, e1, e2)) ∧ ae (kq ≤ k) ∧ St 40 w0 w w' g s0 p d [(.slice A x4.length c, x4)] [] ⟨[], []⟩)
 case atStart => exact ⟨_, _, _, _, _, rfl, H, ⟨Nat.le_refl _⟩, stT HS⟩
 case round =>
  clear HS H
  obtain ⟨x4, p, d, A, c, rfl, H, HK1, HS⟩ := hrel
  cases gk with
  | zero => exact absurd H.out (by simp [aW.l0])
  | succ k1 =>
   simp only [aW.l0] at H
   have hc2 := HS.rd.cell2
   cases d <;> (try simp only [if_true, if_false, eq_self, Bool.false_eq_true, Bool.not_true, Bool.not_false] at H)
   all_goals go_wp2_with (first | ((with_reducible refine gC 64 rfl ?_); refine sS 64 rfl Tryz.func64 (stT HS) H (fun t q b hI hB => dN.calls g _ _ _ t q b w0 _ hI hB) ?_; clear HS H; intro t1 q b w' HS H; (try dsimp only at H); rcases tS t1 ([40] : List UInt8) with ⟨c, cb5, cn5⟩ | ⟨c, cb5, cn5⟩; replace H := hI c H; clear c; rotate_left; replace H := hE c H; clear c; rcases tS t1 ([91] : List UInt8) with ⟨c, cb6, cn6⟩ | ⟨c, cb6, cn6⟩; replace H := hI c H; clear c; rotate_left; replace H := hE c H; clear c) | ((with_reducible refine bH (N := 44) rfl ?_); refine kZ (N := 44) (stT HS) (by first | (go_simp; done) | (go_simp; rfl)) ?_; clear HS; intro A c w' HS; replace H := hB H; (try dsimp only at H)) | ((with_reducible refine gC 65 rfl ?_); refine sK 65 rfl Tryz.func65 (stT HS) H (fun t q b hI hB h => Am F HF _ g _ _ _ t q b w0 _ hI hB h) ?_; clear HS H; intro t q b w' A c HS H; (try dsimp only at H)) | ((with_reducible refine eu (b := .append) (xs := #[.tmp 46, .tmp 50]) rfl ?_); at_builtin; refine zD (N := 51) (.tmp 46) (.tmp 50) rfl Tryz.underlying55 info23 (stT HS) rfl rfl H ?_; clear HS H; intro A c w' HS H; (try replace H := hB H); (try dsimp only at H)) | ((with_reducible refine gC 28 rfl ?_); refine sJ 28 rfl Tryz.func28 (stT HS) H (fun t hr hc => aZ.calls _ _ _ _ _ _ _ _ _ t _ hr hc) ?_; clear HS H; intro t w' A c HS H; (try dsimp only at H)) | ((with_reducible refine gC 25 rfl ?_); refine sB 25 rfl Tryz.func25 (stT HS) H (fun t q b hI hB => bn.calls g _ _ _ _ t q b w0 _ hI hB) ?_; clear HS H; intro t q b w' HS H; (try dsimp only at H)) | ((with_reducible refine gC 96 rfl ?_); refine sL 96 rfl Tryz.func96 (stT HS) H (fun t q b hI hB h => toL (HF.expr g _ _ _ t q b w0 _ hI hB h)) ?_; clear HS H; intro t q b w' A c HS H; (try dsimp only at H)) | ((with_reducible refine bH (N := 61) rfl ?_); refine wZ (N := 61) (stT HS) (by first | (go_simp; done) | (go_simp; rfl)) ?_; clear HS; intro A c w' HS) | ((with_reducible refine gC 23 rfl ?_); refine sU 23 rfl Tryz.func23 (stT HS) H (fun q b hI hB => bg.calls g _ _ _ _ q b w0 _ hI hB) ?_; clear HS H; intro q b w' HS H; (try dsimp only at H)))
   all_goals first
    | (go_roundg k1; (case measure => have := HK1.out; omega); (case rel => exact ⟨_, _, _, _, _, by first | rfl | simp, H, ⟨by have := HK1.out; omega⟩, (stT HS).Bd⟩))
    | (have h_ := H.out; simp only [Option.some.injEq, Prod.mk.injEq] at h_; obtain ⟨rfl, rfl, rfl⟩ := h_; go_ret; exact (stT HS).jD (.head _))
theorem aW.calls (F : Fam) (HF : lL F) (k : Nat) (g : Nat) (s0 : List S37) (s1 : Int) (s2 : Bool) (r1 : List S29) (r2 : Int) (r3 : Bool) (w0 w : World) (hI : dB w0 w g s0 s1 s2) (hB : Below w0.heap.size w0 w) (h : aW.f F k s0 s1 s2 = some (r1, r2, r3)) : Reads 105 #[] g s0 r1 r2 r3 w0 w :=
 ofL (Ak F HF k g s0 s1 s2 r1 r2 r3 w0 w hI hB h)
end Go.Proofs.YtkbhkonenkgfoaaGreat.Q
end
section
namespace Go.Proofs.YtkbhkonenkgfoaaGreat.Q
open Go.RowKit Go.Proofs.YtkbhkonenkgfoaaGreatW.PrintWords Go.Proofs.YtkbhkonenkgfoaaGreatW.PrintLast Go.Proofs.YtkbhkonenkgfoaaGreatW.PrintMore
attribute [local go_sem] dJ dH dW dV dh df dI dG
set_option linter.unusedVariables false
set_option linter.unusedSimpArgs false
/-! ### dS: function 106 -/
mutual
def dS.j0 : Nat → ByteArray → Bool → Option (Int)
 | 0, _, _ => none
 | k + 1, x3, x8 => if x8 = true then (some 3) else (if x3.toList = ([43] : List UInt8) then (dS.j1 k x3 (x3.toList == ([43] : List UInt8))) else (if x3.toList = ([45] : List UInt8) then (dS.j1 k x3 (x3.toList == ([45] : List UInt8))) else (dS.j1 k x3 (x3.toList == ([46, 46] : List UInt8)))))
def dS.j1 : Nat → ByteArray → Bool → Option (Int)
 | 0, _, _ => none
 | k + 1, x3, x13 => if x13 = true then (some 4) else (if x3.toList = ([42] : List UInt8) then (some 5) else (if x3.toList = ([47] : List UInt8) then (some 5) else (if x3.toList = ([37] : List UInt8) then (some 5) else (some 0))))
end
def dS.f (k : Nat) (a0 : ByteArray) : Option (Int) := if a0.toList = ([111, 114] : List UInt8) then (some 1) else (if a0.toList = ([97, 110, 100] : List UInt8) then (some 2) else (if a0.toList = ([61, 61] : List UInt8) then (dS.j0 k a0 (a0.toList == ([61, 61] : List UInt8))) else (if a0.toList = ([33, 61] : List UInt8) then (dS.j0 k a0 (a0.toList == ([33, 61] : List UInt8))) else (if a0.toList = ([60] : List UInt8) then (dS.j0 k a0 (a0.toList == ([60] : List UInt8))) else (dS.j0 k a0 (a0.toList == ([60, 61] : List UInt8)))))))
theorem dS.bP : ∀ k, (∀ y0 y1, LeO (dS.j0 k y0 y1) (dS.j0 (k + 1) y0 y1)) ∧ (∀ y0 y1, LeO (dS.j1 k y0 y1) (dS.j1 (k + 1) y0 y1))
 | 0 => ⟨fun _ _ r h => by simp [dS.j0] at h, fun _ _ r h => by simp [dS.j1] at h⟩
 | k + 1 => by
  obtain ⟨ih0, ih1⟩ := dS.bP k
  refine ⟨?_, ?_⟩
  ·intro y0 y1
   unfold dS.j0
   exact yL
  intro y0 y1
  unfold dS.j1
  exact yL
theorem dS.mono : ∀ a0 k, LeO (dS.f k a0) (dS.f (k + 1) a0) := by
 intro a0 k
 obtain ⟨ih0, ih1⟩ := dS.bP k
 unfold dS.f
 exact yL
set_option maxHeartbeats 8000000 in
set_option maxRecDepth 100000 in
theorem dS.calls (k : Nat) (a0 : ByteArray) (r : Int) (w : World) (h : dS.f k a0 = some r) :
 Calls Tryz.prog 106 #[.string a0] w fun e w' => e = .returned (.int .i64 r) ∧ eF w w' := by
 have H := h
 clear h
 unfold dS.f at H
 revert H
 refine cZ (fun c2b0 c2b1 H => ?_) fun c2 c2b0 c2b1 H => ?_
 ·obtain rfl := Option.some.inj H
  go_enter Tryz.func106, Tryz.ntmps106
  go_wp2
  go_ret
  exact ⟨fT, Z0⟩
 revert H
 refine cZ (fun c3b0 c3b1 H => ?_) fun c3 c3b0 c3b1 H => ?_
 ·obtain rfl := Option.some.inj H
  go_enter Tryz.func106, Tryz.ntmps106
  go_wp2
  go_ret
  exact ⟨fT, Z0⟩
 have HC4 := ae.mk H
 clear H
 go_enter Tryz.func106, Tryz.ntmps106
 go_upto_if 8 with (fail)
 go_cut [8] (fun v8 wc => ∃ (kq : Nat) (x8_3 : Bool), v8 = .bool x8_3 ∧ ae (dS.j0 kq a0 x8_3 = some r) ∧ ae (kq ≤ k) ∧ eF w wc)
 case first =>
  have H := HC4.out
  clear HC4
  revert H
  refine cZ (fun c5b0 c5b1 H => ?_) fun c5 c5b0 c5b1 H => ?_
  ·(first | rw [c5b0] | (simp only [gX, iP]; rw [c5b0]) | skip)
   have H' := ae.mk H
   clear H
   go_wp2
   go_meet
   case rel => exact ⟨_, ((a0.toList == ([61, 61] : List UInt8))), fT, H', ⟨Z11⟩, Z0⟩
  (first | rw [c5b0] | (simp only [gX, iP]; rw [c5b0]) | skip)
  revert H
  refine cZ (fun c6b0 c6b1 H => ?_) fun c6 c6b0 c6b1 H => ?_
  ·have H' := ae.mk H
   clear H
   go_wp2
   go_meet
   case rel => exact ⟨_, ((a0.toList == ([33, 61] : List UInt8))), fT, H', ⟨Z11⟩, Z0⟩
  revert H
  refine cZ (fun c7b0 c7b1 H => ?_) fun c7 c7b0 c7b1 H => ?_
  ·have H' := ae.mk H
   clear H
   go_wp2
   go_meet
   case rel => exact ⟨_, ((a0.toList == ([60] : List UInt8))), fT, H', ⟨Z11⟩, Z0⟩
  have H' := ae.mk H
  clear H
  go_wp2
  go_meet
  case rel => exact ⟨_, ((a0.toList == ([60, 61] : List UInt8))), fT, H', ⟨Z11⟩, Z0⟩
 case rest =>
  clear HC4
  try clear c1
  try clear c2
  try clear c2b0
  try clear c2b1
  try clear p2
  try clear c3
  try clear c3b0
  try clear c3b1
  try clear c5
  try clear c5b0
  try clear c5b1
  try clear c6
  try clear c6b0
  try clear c6b1
  try clear c7
  try clear c7b0
  try clear c7b1
  obtain ⟨kq, x8_3, rfl, HA, HJ3, ⟨mc3, rfl⟩⟩ := hcut
  cases kq with
  | zero => exact absurd HA.out (by simp [dS.j0])
  | succ kj3 =>
   have H := HA.out
   clear HA
   simp only [dS.j0] at H
   cases x8_3
   rotate_left
   ·replace H := yT H
    obtain rfl := Option.some.inj H
    go_wp2
    go_ret
    exact ⟨fT, Z0⟩
   replace H := yF H
   have HC9 := ae.mk H
   clear H
   go_upto_if 13 with (fail)
   go_cut [13] (fun v13 wc => ∃ (kq : Nat) (x13_8 : Bool), v13 = .bool x13_8 ∧ ae (dS.j1 kq a0 x13_8 = some r) ∧ ae (kq ≤ kj3) ∧ eF w wc)
   case first =>
    have H := HC9.out
    clear HC9
    revert H
    refine cZ (fun c10b0 c10b1 H => ?_) fun c10 c10b0 c10b1 H => ?_
    ·(first | rw [c10b0] | (simp only [gX, iP]; rw [c10b0]) | skip)
     have H' := ae.mk H
     clear H
     go_wp2
     go_meet
     case rel => exact ⟨_, ((a0.toList == ([43] : List UInt8))), fT, H', ⟨by have := HJ3.out; first | omega | exact Nat.le_refl _⟩, Z0⟩
    (first | rw [c10b0] | (simp only [gX, iP]; rw [c10b0]) | skip)
    revert H
    refine cZ (fun c11b0 c11b1 H => ?_) fun c11 c11b0 c11b1 H => ?_
    ·have H' := ae.mk H
     clear H
     go_wp2
     go_meet
     case rel => exact ⟨_, ((a0.toList == ([45] : List UInt8))), fT, H', ⟨by have := HJ3.out; first | omega | exact Nat.le_refl _⟩, Z0⟩
    have H' := ae.mk H
    clear H
    go_wp2
    go_meet
    case rel => exact ⟨_, ((a0.toList == ([46, 46] : List UInt8))), fT, H', ⟨by have := HJ3.out; first | omega | exact Nat.le_refl _⟩, Z0⟩
   case rest =>
    clear HC9
    try clear c1
    try clear c2
    try clear c2b0
    try clear c2b1
    try clear p2
    try clear c3
    try clear c3b0
    try clear c3b1
    try clear c5
    try clear c5b0
    try clear c5b1
    try clear c6
    try clear c6b0
    try clear c6b1
    try clear c7
    try clear c7b0
    try clear c7b1
    try clear c8
    try clear c10
    try clear c10b0
    try clear c10b1
    try clear c11
    try clear c11b0
    try clear c11b1
    try clear p2
    obtain ⟨kq, x13_8, rfl, HA, HJ8, ⟨mc8, rfl⟩⟩ := hcut
    cases kq with
    | zero => exact absurd HA.out (by simp [dS.j1])
    | succ kj8 =>
     have H := HA.out
     clear HA
     simp only [dS.j1] at H
     cases x13_8
     rotate_left
     ·replace H := yT H
      obtain rfl := Option.some.inj H
      go_wp2
      go_ret
      exact ⟨fT, Z0⟩
     replace H := yF H
     revert H
     refine cZ (fun c13b0 c13b1 H => ?_) fun c13 c13b0 c13b1 H => ?_
     ·obtain rfl := Option.some.inj H
      go_wp2
      go_ret
      exact ⟨fT, Z0⟩
     revert H
     refine cZ (fun c14b0 c14b1 H => ?_) fun c14 c14b0 c14b1 H => ?_
     ·obtain rfl := Option.some.inj H
      go_wp2
      go_ret
      exact ⟨fT, Z0⟩
     revert H
     refine cZ (fun c15b0 c15b1 H => ?_) fun c15 c15b0 c15b1 H => ?_
     ·obtain rfl := Option.some.inj H
      go_wp2
      go_ret
      exact ⟨fT, Z0⟩
     obtain rfl := Option.some.inj H
     go_wp2
     go_ret
     exact ⟨fT, Z0⟩
end Go.Proofs.YtkbhkonenkgfoaaGreat.Q
end
section
namespace Go.Proofs.YtkbhkonenkgfoaaGreat.Q
open Go.RowKit Go.Proofs.YtkbhkonenkgfoaaGreatW.PrintWords Go.Proofs.YtkbhkonenkgfoaaGreatW.PrintLast Go.Proofs.YtkbhkonenkgfoaaGreatW.PrintMore
attribute [local go_sem] iW iV iU iR dJ dH dW dV dh df dI dG
set_option linter.unusedVariables false
set_option linter.unusedSimpArgs false
-- BY HAND: function 116 (runtime_errorString_Error)
/-! ### bM: function 102 -/
def bM.l0 (F : Fam) : Nat → Int → List (S29) → List (S37) → Int → Bool → Option ((List (S29)) × Int × Bool)
 | 0, _, _, _, _, _ => none
 | k + 1, x1, x5, x1000, x1001, x1002 => if x1002 = true then (some (x5, x1001, x1002)) else ((dN.f x1000 x1001 x1002).bind fun bt768 => ((dS.f k bt768.1).bind fun t771 => (if t771 = x1 then ((bn.f x1000 bt768.2.1 bt768.2.2 bt768.1).bind fun bt772 => ((pR.f F k x1000 bt772.2.1 bt772.2.2 (wrap64 (x1 + 1))).bind fun bt775 => ((aZ.f k 27 0 (⟨#[]⟩ : ByteArray) 0 bt768.1 (([x5, bt775.1] : List (List (S29))))).bind fun t783 => (if x1 = 3 then (some (t783, bt775.2.1, bt775.2.2)) else (bM.l0 F k x1 t783 x1000 bt775.2.1 bt775.2.2))))) else (some (x5, bt768.2.1, bt768.2.2)))))
def bM.f (F : Fam) (k : Nat) (s0_0 : List (S37)) (s0_1 : Int) (s0_2 : Bool) (a1 : Int) : Option ((List (S29)) × Int × Bool) := if a1 = 6 then ((aW.f F k s0_0 s0_1 s0_2).bind fun bt758 => (some (bt758.1, bt758.2.1, bt758.2.2))) else ((pR.f F k s0_0 s0_1 s0_2 (wrap64 (a1 + 1))).bind fun bt763 => (bM.l0 F k a1 bt763.1 s0_0 bt763.2.1 bt763.2.2))
theorem bM.bP {F F' : Fam} (HLE : lg F F') : ∀ k, (∀ y0 y1 y2 y3 y4, LeO (bM.l0 F k y0 y1 y2 y3 y4) (bM.l0 F' (k + 1) y0 y1 y2 y3 y4))
 | 0 => fun _ _ _ _ _ r h => by simp [bM.l0] at h
 | k + 1 => by
  have ih0 := bM.bP HLE k
  intro y0 y1 y2 y3 y4
  unfold bM.l0
  have m0 := aZ.mono
  have m1 := (aW.mono HLE)
  have m2 := dS.mono
  have m3 := (pR.mono HLE)
  exact yL
theorem bM.mono {F F' : Fam} (HLE : lg F F') : ∀ a0 a1 a2 a3 k, LeO (bM.f F k a0 a1 a2 a3) (bM.f F' (k + 1) a0 a1 a2 a3) := by
 intro a0 a1 a2 a3 k
 have ih0 := bM.bP HLE k
 unfold bM.f
 have m0 := aZ.mono
 have m1 := (aW.mono HLE)
 have m2 := dS.mono
 have m3 := (pR.mono HLE)
 exact yL
/-! ### fP: function 96 -/
def fP.f (F : Fam) (k : Nat) (s0_0 : List (S37)) (s0_1 : Int) (s0_2 : Bool) : Option ((List (S29)) × Int × Bool) := (bM.f F k s0_0 s0_1 s0_2 1).bind fun bt786 => (some (bt786.1, bt786.2.1, bt786.2.2))
theorem fP.mono {F F' : Fam} (HLE : lg F F') : ∀ a0 a1 a2 k, LeO (fP.f F k a0 a1 a2) (fP.f F' (k + 1) a0 a1 a2) := by
 intro a0 a1 a2 k
 unfold fP.f
 have m0 := (bM.mono HLE)
 exact yL
end Go.Proofs.YtkbhkonenkgfoaaGreat.Q
end
section
set_option linter.unusedVariables false
set_option linter.unusedSimpArgs false
namespace Go.Proofs.YtkbhkonenkgfoaaGreat.Q
open Go Go.RowKit Go.Proofs.YtkbhkonenkgfoaaGreatW.PrintWords Go.Proofs.YtkbhkonenkgfoaaGreatW.PrintLast Go.Proofs.YtkbhkonenkgfoaaGreatW.PrintMore
attribute [local go_sem] lK lJ lI lH
set_option maxHeartbeats 8000000 in
set_option maxRecDepth 100000 in
theorem Ap (F : Fam) (HF : lL F) (k : Nat) (g : Nat) (s0 : List S37) (s1 : Int) (s2 : Bool) (a : Int) (r : List S29) (e1 : Int) (e2 : Bool) (w0 w : World) (hI : Rd 40 w0 w g s0 s1 s2) (hB : Below w0.heap.size w0 w) (h : bM.f F k s0 s1 s2 a = some (r, e1, e2)) :
 Calls Tryz.prog 102 #[.pointer (some ⟨g, 0, none⟩), .int .i64 a] w (Back 40 w0 w g s0 e1 e2 (IsL w r)) := by
 unfold bM.f at h
 have HS := St.new (T := 40) (by decide) hI hB
 have H := ae.mk h
 clear h hI hB
 rcases nS a 6 with ⟨c, cb0, cn0⟩ | ⟨c, cb0, cn0⟩
 ·replace H := hI c H
  subst c
  go_enter Tryz.func102, Tryz.ntmps102
  go_wp2_with (first | ((with_reducible refine gC 105 rfl ?_); refine sL 105 rfl Tryz.func105 (stT HS) H (fun t q b hI hB h => Ak F HF _ g _ _ _ t q b w0 _ hI hB h) ?_; clear HS H; intro t q b w' A c HS H; (try dsimp only at H)))
  all_goals
   have h_ := H.out; simp only [Option.some.injEq, Prod.mk.injEq] at h_; obtain ⟨rfl, rfl, rfl⟩ := h_
   go_ret
   exact (stT HS).jD (.head _)
 replace H := hE c H
 clear c
 go_enter Tryz.func102, Tryz.ntmps102
 go_wp2_with (first | ((with_reducible refine gC 102 rfl ?_); refine sL 102 rfl Tryz.func102 (stT HS) H (fun t q b hI hB h => toL (HF.bound g _ _ _ _ t q b w0 _ hI hB h)) ?_; clear HS H; intro t q b w' A c HS H; (try dsimp only at H)))
 (try simp only [Act.put, List.setIfInBounds_toArray, List.set_cons_zero, List.set_cons_succ])
 go_loopg [5] k (fun kq v5 w' => ∃ (x5 : List S29) (p : Int) (d : Bool) (A : Option Addr) (c : Nat), v5 = .slice A x5.length c ∧ ae (bM.l0 F kq a x5 s0 p d = some (r, e1, e2)) ∧ ae (kq ≤ k) ∧ St 40 w0 w w' g s0 p d [(.slice A x5.length c, x5)] [] ⟨[], []⟩)
 case atStart => exact ⟨_, _, _, _, _, rfl, H, ⟨Nat.le_refl _⟩, stT HS⟩
 case round =>
  clear HS H
  obtain ⟨x5, p, d, A, c, rfl, H, HK1, HS⟩ := hrel
  cases gk with
  | zero => exact absurd H.out (by simp [bM.l0])
  | succ k1 =>
   simp only [bM.l0] at H
   have hc2 := HS.rd.cell2
   rcases nS a 3 with ⟨c3, cb3, cn3⟩ | ⟨c3, cb3, cn3⟩ <;> (first | simp only [eq_true c3, if_true] at H | simp only [eq_false c3, if_false] at H)
   all_goals (try clear c3)
   all_goals
    cases d <;> (try simp only [if_true, if_false, eq_self, Bool.false_eq_true, Bool.not_true, Bool.not_false] at H)
   all_goals go_wp2_with (first | ((with_reducible refine gC 64 rfl ?_); refine sS 64 rfl Tryz.func64 (stT HS) H (fun t q b hI hB => dN.calls g _ _ _ t q b w0 _ hI hB) ?_; clear HS H; intro t q b w' HS H; (try dsimp only at H)) | ((with_reducible refine gC 106 rfl ?_); refine sV 106 rfl Tryz.func106 (stT HS) H (fun t => dS.calls _ _ t _) ?_; clear HS H; intro n1 w' HS H; (try dsimp only at H); rcases nS n1 a with ⟨c, cb1, cn1⟩ | ⟨c, cb1, cn1⟩; replace H := hI c H; clear c; rotate_left; replace H := hE c H; clear c; rotate_left) | ((with_reducible refine gC 25 rfl ?_); refine sB 25 rfl Tryz.func25 (stT HS) H (fun t q b hI hB => bn.calls g _ _ _ _ t q b w0 _ hI hB) ?_; clear HS H; intro t q b w' HS H; (try dsimp only at H)) | ((with_reducible refine gC 102 rfl ?_); refine sL 102 rfl Tryz.func102 (stT HS) H (fun t q b hI hB h => toL (HF.bound g _ _ _ _ t q b w0 _ hI hB h)) ?_; clear HS H; intro t q b w' A c HS H; (try dsimp only at H)) | ((with_reducible refine bH (N := 36) rfl ?_); refine wZ (N := 36) (stT HS) (by first | (go_simp; done) | (go_simp; rfl)) ?_; clear HS; intro A c w' HS) | ((with_reducible refine gC 28 rfl ?_); refine sJ 28 rfl Tryz.func28 (stT HS) H (fun t hr hc => aZ.calls _ _ _ _ _ _ _ _ _ t _ hr hc) ?_; clear HS H; intro t w' A c HS H; (try dsimp only at H)))
   all_goals first
    | (go_roundg k1; (case measure => have := HK1.out; omega); (case rel => exact ⟨_, _, _, _, _, by first | rfl | simp, H, ⟨by have := HK1.out; omega⟩, (stT HS).Bd⟩))
    | (have h_ := H.out; simp only [Option.some.injEq, Prod.mk.injEq] at h_; obtain ⟨rfl, rfl, rfl⟩ := h_; go_ret; exact (stT HS).jD (.head _))
theorem bM.calls (F : Fam) (HF : lL F) (k : Nat) (g : Nat) (s0 : List S37) (s1 : Int) (s2 : Bool) (a0 : Int) (r1 : List S29) (r2 : Int) (r3 : Bool) (w0 w : World) (hI : dB w0 w g s0 s1 s2) (hB : Below w0.heap.size w0 w) (h : bM.f F k s0 s1 s2 a0 = some (r1, r2, r3)) : Reads 102 #[.int .i64 a0] g s0 r1 r2 r3 w0 w :=
 ofL (Ap F HF k g s0 s1 s2 a0 r1 r2 r3 w0 w hI hB h)
set_option maxHeartbeats 8000000 in
set_option maxRecDepth 100000 in
theorem I7 (F : Fam) (HF : lL F) (k : Nat) (g : Nat) (s0 : List S37) (s1 : Int) (s2 : Bool) (r : List S29) (e1 : Int) (e2 : Bool) (w0 w : World) (hI : Rd 40 w0 w g s0 s1 s2) (hB : Below w0.heap.size w0 w) (h : fP.f F k s0 s1 s2 = some (r, e1, e2)) :
 Calls Tryz.prog 96 #[.pointer (some ⟨g, 0, none⟩)] w (Back 40 w0 w g s0 e1 e2 (IsL w r)) := by
 unfold fP.f at h
 have HS := St.new (T := 40) (by decide) hI hB
 have H := ae.mk h
 clear h hI hB
 go_enter Tryz.func96, Tryz.ntmps96
 go_wp2_with (first | ((with_reducible refine gC 102 rfl ?_); refine sL 102 rfl Tryz.func102 (stT HS) H (fun t q b hI hB h => Ap F HF _ g _ _ _ _ t q b w0 _ hI hB h) ?_; clear HS H; intro t q b w' A c HS H; (try dsimp only at H)))
 all_goals
  have h_ := H.out; simp only [Option.some.injEq, Prod.mk.injEq] at h_; obtain ⟨rfl, rfl, rfl⟩ := h_
  go_ret
  exact (stT HS).jD (.head _)
theorem fP.calls (F : Fam) (HF : lL F) (k : Nat) (g : Nat) (s0 : List S37) (s1 : Int) (s2 : Bool) (r1 : List S29) (r2 : Int) (r3 : Bool) (w0 w : World) (hI : dB w0 w g s0 s1 s2) (hB : Below w0.heap.size w0 w) (h : fP.f F k s0 s1 s2 = some (r1, r2, r3)) : Reads 96 #[] g s0 r1 r2 r3 w0 w :=
 ofL (I7 F HF k g s0 s1 s2 r1 r2 r3 w0 w hI hB h)
end Go.Proofs.YtkbhkonenkgfoaaGreat.Q
end
section
namespace Go.Proofs.YtkbhkonenkgfoaaGreat.Q
open Go.RowKit Go.Proofs.YtkbhkonenkgfoaaGreatW.PrintWords Go.Proofs.YtkbhkonenkgfoaaGreatW.PrintLast Go.Proofs.YtkbhkonenkgfoaaGreatW.PrintMore
attribute [local go_sem] iW iV iU iR dJ dH dW dV dh df dI dG
set_option linter.unusedVariables false
set_option linter.unusedSimpArgs false
/-! ### bf: function 14 -/
mutual
def bf.l0 (F : Fam) : Nat → List (List (S29)) → List (S37) → Int → Bool → Int → Int → ByteArray → Int → ByteArray → Option ((List (S29)) × Int × Bool)
 | 0, _, _, _, _, _, _, _, _, _ => none
 | k + 1, x4, x1000, x1001, x1002, x474000, x474001, x474002, x474003, x474004 => (bn.f x1000 x1001 x1002 (⟨#[117, 115, 101]⟩ : ByteArray)).bind fun bt482 => (if bt482.1 = true then ((gG.f k x1000 bt482.2.1 bt482.2.2).bind fun bt485 => (if x4.length < 5864062014805 then (bf.l0 F k (x4 ++ [bt485.1]) x1000 bt485.2.1 bt485.2.2 x474000 x474001 x474002 x474003 x474004) else (none))) else (bf.l1 F k x4 x1000 bt482.2.1 bt482.2.2 x474000 x474001 x474002 x474003 x474004))
def bf.l1 (F : Fam) : Nat → List (List (S29)) → List (S37) → Int → Bool → Int → Int → ByteArray → Int → ByteArray → Option ((List (S29)) × Int × Bool)
 | 0, _, _, _, _, _, _, _, _, _ => none
 | k + 1, x4, x1000, x1001, x1002, x474000, x474001, x474002, x474003, x474004 => (bn.f x1000 x1001 x1002 (⟨#[102, 110]⟩ : ByteArray)).bind fun bt493 => (if bt493.1 = true then ((dO.f x1000 bt493.2.1 bt493.2.2 1).bind fun bt496 => ((dD.f F k x1000 bt496.2.2.2.2.1 bt496.2.2.2.2.2 3 0 bt496.2.1 0 (⟨#[]⟩ : ByteArray)).bind fun bt502 => (if x4.length < 5864062014805 then (bf.l1 F k (x4 ++ [bt502.1]) x1000 bt502.2.1 bt502.2.2 x474000 x474001 x474002 x474003 x474004) else (none)))) else ((aZ.f k x474000 x474001 x474002 x474003 x474004 x4).bind fun t510 => (some (t510, bt493.2.1, bt493.2.2))))
end
def bf.f (F : Fam) (k : Nat) (s0_0 : List (S37)) (s0_1 : Int) (s0_2 : Bool) : Option ((List (S29)) × Int × Bool) := (bg.f s0_0 s0_1 s0_2 (⟨#[109, 111, 100, 117, 108, 101]⟩ : ByteArray)).bind fun bt465 => ((dO.f s0_0 bt465.1 bt465.2 1).bind fun bt467 => ((dO.f s0_0 bt467.2.2.2.2.1 bt467.2.2.2.2.2 2).bind fun bt474 => ((bg.f s0_0 bt474.2.2.2.2.1 bt474.2.2.2.2.2 (⟨#[59]⟩ : ByteArray)).bind fun bt480 => (bf.l0 F k ([] : List (List (S29))) s0_0 bt480.1 bt480.2 1 0 bt467.2.1 bt474.2.2.1 (⟨#[]⟩ : ByteArray)))))
theorem bf.bP {F F' : Fam} (HLE : lg F F') : ∀ k, (∀ y0 y1 y2 y3 y4 y5 y6 y7 y8, LeO (bf.l0 F k y0 y1 y2 y3 y4 y5 y6 y7 y8) (bf.l0 F' (k + 1) y0 y1 y2 y3 y4 y5 y6 y7 y8)) ∧ (∀ y0 y1 y2 y3 y4 y5 y6 y7 y8, LeO (bf.l1 F k y0 y1 y2 y3 y4 y5 y6 y7 y8) (bf.l1 F' (k + 1) y0 y1 y2 y3 y4 y5 y6 y7 y8))
 | 0 => ⟨fun _ _ _ _ _ _ _ _ _ r h => by simp [bf.l0] at h, fun _ _ _ _ _ _ _ _ _ r h => by simp [bf.l1] at h⟩
 | k + 1 => by
  obtain ⟨ih0, ih1⟩ := bf.bP HLE k
  refine ⟨?_, ?_⟩
  ·intro y0 y1 y2 y3 y4 y5 y6 y7 y8
   unfold bf.l0
   have m0 := aZ.mono
   have m1 := (dD.mono HLE)
   have m2 := gG.mono
   exact yL
  intro y0 y1 y2 y3 y4 y5 y6 y7 y8
  unfold bf.l1
  have m0 := aZ.mono
  have m1 := (dD.mono HLE)
  have m2 := gG.mono
  exact yL
theorem bf.mono {F F' : Fam} (HLE : lg F F') : ∀ a0 a1 a2 k, LeO (bf.f F k a0 a1 a2) (bf.f F' (k + 1) a0 a1 a2) := by
 intro a0 a1 a2 k
 obtain ⟨ih0, ih1⟩ := bf.bP HLE k
 unfold bf.f
 have m0 := aZ.mono
 have m1 := (dD.mono HLE)
 have m2 := gG.mono
 exact yL
end Go.Proofs.YtkbhkonenkgfoaaGreat.Q
end
section
set_option linter.unusedVariables false
set_option linter.unusedSimpArgs false
namespace Go.Proofs.YtkbhkonenkgfoaaGreat.Q
open Go Go.RowKit Go.Proofs.YtkbhkonenkgfoaaGreatW.PrintWords Go.Proofs.YtkbhkonenkgfoaaGreatW.PrintLast Go.Proofs.YtkbhkonenkgfoaaGreatW.PrintMore
attribute [local go_sem] lK lJ lI lH
set_option maxHeartbeats 8000000 in
set_option maxRecDepth 100000 in
theorem Ei (F : Fam) (HF : lL F) (k : Nat) (g : Nat) (s0 : List S37) (s1 : Int) (s2 : Bool) (r : List S29) (e1 : Int) (e2 : Bool) (w0 w : World) (hI : Rd 40 w0 w g s0 s1 s2) (hB : Below w0.heap.size w0 w) (h : bf.f F k s0 s1 s2 = some (r, e1, e2)) :
 Calls Tryz.prog 14 #[.pointer (some ⟨g, 0, none⟩)] w (Back 40 w0 w g s0 e1 e2 (IsL w r)) := by
 unfold bf.f at h
 have HS := St.new (T := 40) (by decide) hI hB
 have H := ae.mk h
 clear h hI hB
 go_enter Tryz.func14, Tryz.ntmps14
 go_wp2_with (first | ((with_reducible refine bH (N := 8) rfl ?_); (with_reducible refine gC 24 rfl ?_); refine sN 24 rfl Tryz.func24 (stT HS) H (fun t1 t2 t3 t4 q b hI hB => dO.calls g _ _ _ _ t1 t2 t3 t4 q b w0 _ hI hB) ?_; clear HS H; intro n1 nm n3 n4 q b w' HS H; (try dsimp only at H)) | ((with_reducible refine bH (N := 12) rfl ?_); (with_reducible refine gC 24 rfl ?_); refine sN 24 rfl Tryz.func24 (stX HS) H (fun t1 t2 t3 t4 q b hI hB => dO.calls g _ _ _ _ t1 t2 t3 t4 q b w0 _ hI hB) ?_; (try clear hx0 hx1 hx2 hx3 hx4 hf0 hf1 hf2 hf3 hf4); clear HS H; intro m1 m2 vn m4 q b w' HS H; (try dsimp only at H); (try (have hb_ := HS.box rfl; have hx0 := (aj hb_ 0).trans rfl; have hf0 := ag hb_ 0; have hx1 := (aj hb_ 1).trans rfl; have hf1 := ag hb_ 1; have hx2 := (aj hb_ 2).trans rfl; have hf2 := ag hb_ 2; have hx3 := (aj hb_ 3).trans rfl; have hf3 := ag hb_ 3; have hx4 := (aj hb_ 4).trans rfl; have hf4 := ag hb_ 4; clear hb_))) | ((with_reducible refine bH (N := 3) rfl ?_); refine boxS (N := 3) (cs := #[.int .i64 0, .int .i64 0, .string (⟨#[]⟩ : ByteArray), .int .i64 0, .string (⟨#[]⟩ : ByteArray)]) (t := 29) (stT HS) (by first | (go_simp; done) | (go_simp; rfl)) ?_; clear HS; intro gb w' HS hne hge; have hnc := Ne.symm hne; (try (have hb_ := HS.box rfl; have hx0 := (aj hb_ 0).trans rfl; have hf0 := ag hb_ 0; have hx1 := (aj hb_ 1).trans rfl; have hf1 := ag hb_ 1; have hx2 := (aj hb_ 2).trans rfl; have hf2 := ag hb_ 2; have hx3 := (aj hb_ 3).trans rfl; have hf3 := ag hb_ 3; have hx4 := (aj hb_ 4).trans rfl; have hf4 := ag hb_ 4; clear hb_))) | ((with_reducible refine gC 23 rfl ?_); refine sU 23 rfl Tryz.func23 (stX HS) H (fun q b hI hB => bg.calls g _ _ _ _ q b w0 _ hI hB) ?_; (try clear hx0 hx1 hx2 hx3 hx4 hf0 hf1 hf2 hf3 hf4); clear HS H; intro q b w' HS H; (try dsimp only at H)))
 (try simp only [Act.put, List.setIfInBounds_toArray, List.set_cons_zero, List.set_cons_succ])
 go_loopg [4] k (fun kq v3 w' => ∃ (x3 : List (List S29)) (p : Int) (d : Bool) (A : Option Addr) (c : Nat), v3 = .slice A x3.length c ∧ ae (bf.l0 F kq x3 s0 p d 1 0 nm vn (⟨#[]⟩ : ByteArray) = some (r, e1, e2)) ∧ ae (kq ≤ k) ∧ St 40 w0 w w' g s0 p d [] [(.slice A x3.length c, x3)] ⟨[(gb, .cells #[.int .i64 1, .int .i64 0, .string nm, .int .i64 vn, .string (⟨#[]⟩ : ByteArray)] 29 (0, 0))], []⟩)
 case atStart => exact ⟨[], _, _, none, 0, rfl, H, ⟨Nat.le_refl _⟩, HS.uG⟩
 case round =>
  clear HS H
  obtain ⟨x3, p, d, A, c, rfl, H, HK1, HS⟩ := hrel
  cases gk with
  | zero => exact absurd H.out (by simp [bf.l0])
  | succ k1 =>
   simp only [bf.l0] at H
   go_wp2_with (first | ((with_reducible refine gC 25 rfl ?_); refine sB 25 rfl Tryz.func25 (stT HS) H (fun t q b hI hB => bn.calls g _ _ _ _ t q b w0 _ hI hB) ?_; clear HS H; intro t q b w' HS H; (try dsimp only at H); cases t <;> (try simp only [if_true, if_false, eq_self, Bool.false_eq_true, Bool.not_true, Bool.not_false] at H)) | ((with_reducible refine gC 26 rfl ?_); refine sL 26 rfl Tryz.func26 (stT HS) H (fun t q b hI hB h => JZ _ g _ _ _ t q b w0 _ hI hB h) ?_; clear HS H; intro t q b w' A c HS H; (try dsimp only at H)) | ((with_reducible refine bH (N := 22) rfl ?_); refine kZ (N := 22) (stT HS) (by first | (go_simp; done) | (go_simp; rfl)) ?_; clear HS; intro A c w' HS) | ((with_reducible refine eu (b := .append) (xs := #[.tmp 19, .tmp 22]) rfl ?_); at_builtin; refine zD (N := 23) (.tmp 19) (.tmp 22) rfl Tryz.underlying55 info23 (stT HS) rfl rfl H ?_; clear HS H; intro A c w' HS H; (try replace H := hB H); (try dsimp only at H)))
   all_goals first
    | (go_roundg k1; (case measure => have := HK1.out; omega); (case rel => exact ⟨_, _, _, _, _, by first | rfl | simp, H, ⟨by have := HK1.out; omega⟩, stT HS⟩))
    | skip
   (try simp only [Act.put, List.setIfInBounds_toArray, List.set_cons_zero, List.set_cons_succ])
   go_loopg [4] k1 (fun kq v3 w' => ∃ (x3 : List (List S29)) (p : Int) (d : Bool) (A : Option Addr) (c : Nat), v3 = .slice A x3.length c ∧ ae (bf.l1 F kq x3 s0 p d 1 0 nm vn (⟨#[]⟩ : ByteArray) = some (r, e1, e2)) ∧ ae (kq ≤ k1) ∧ St 40 w0 w w' g s0 p d [] [(.slice A x3.length c, x3)] ⟨[(gb, .cells #[.int .i64 1, .int .i64 0, .string nm, .int .i64 vn, .string (⟨#[]⟩ : ByteArray)] 29 (0, 0))], []⟩)
   case atStart => exact ⟨_, _, _, _, _, rfl, H, ⟨Nat.le_refl _⟩, stT HS⟩
   case round =>
    clear HS H
    obtain ⟨x3, p, d, A, c, rfl, H, HK2, HS⟩ := hrel
    cases gk with
    | zero => exact absurd H.out (by simp [bf.l1])
    | succ k2 =>
     simp only [bf.l1] at H
     go_wp2_with (first | ((with_reducible refine gC 25 rfl ?_); refine sB 25 rfl Tryz.func25 (stT HS) H (fun t q b hI hB => bn.calls g _ _ _ _ t q b w0 _ hI hB) ?_; clear HS H; intro t q b w' HS H; (try dsimp only at H); cases t <;> (try simp only [if_true, if_false, eq_self, Bool.false_eq_true, Bool.not_true, Bool.not_false] at H); (try (have hb_ := HS.box rfl; have hx0 := (aj hb_ 0).trans rfl; have hf0 := ag hb_ 0; have hx1 := (aj hb_ 1).trans rfl; have hf1 := ag hb_ 1; have hx2 := (aj hb_ 2).trans rfl; have hf2 := ag hb_ 2; have hx3 := (aj hb_ 3).trans rfl; have hf3 := ag hb_ 3; have hx4 := (aj hb_ 4).trans rfl; have hf4 := ag hb_ 4; clear hb_))) | ((with_reducible refine gC 24 rfl ?_); refine sN 24 rfl Tryz.func24 (stT HS) H (fun t1 t2 t3 t4 q b hI hB => dO.calls g _ _ _ _ t1 t2 t3 t4 q b w0 _ hI hB) ?_; clear HS H; intro t1 t2 t3 t4 q b w' HS H; (try dsimp only at H)) | ((with_reducible refine gC 27 rfl ?_); refine sL 27 rfl Tryz.func27 (stT HS) H (fun t q b hI hB h => uX F HF _ g _ _ _ _ _ _ _ _ t q b w0 _ hI hB h) ?_; clear HS H; intro t q b w' A c HS H; (try dsimp only at H)) | ((with_reducible refine bH (N := 33) rfl ?_); refine kZ (N := 33) (stT HS) (by first | (go_simp; done) | (go_simp; rfl)) ?_; clear HS; intro A c w' HS) | ((with_reducible refine eu (b := .append) (xs := #[.tmp 26, .tmp 33]) rfl ?_); at_builtin; refine zD (N := 34) (.tmp 26) (.tmp 33) rfl Tryz.underlying55 info23 (stT HS) rfl rfl H ?_; clear HS H; intro A c w' HS H; (try replace H := hB H); (try dsimp only at H)) | ((with_reducible refine gC 28 rfl ?_); refine sJ 28 rfl Tryz.func28 (stT HS) H (fun t hr hc => aZ.calls _ _ _ _ _ _ _ _ _ t _ hr hc) ?_; clear HS H; intro t w' A c HS H; (try dsimp only at H)))
     all_goals first
      | (go_roundg k2; (case measure => have := HK2.out; omega); (case rel => exact ⟨_, _, _, _, _, by first | rfl | simp, H, ⟨by have := HK2.out; omega⟩, stT HS⟩))
      | (have h_ := H.out; simp only [Option.some.injEq, Prod.mk.injEq] at h_; obtain ⟨rfl, rfl, rfl⟩ := h_; go_ret; exact (stT HS).jD (.head _))
theorem bf.calls (F : Fam) (HF : lL F) (k : Nat) (g : Nat) (s0 : List S37) (s1 : Int) (s2 : Bool) (r1 : List S29) (r2 : Int) (r3 : Bool) (w0 w : World) (hI : dB w0 w g s0 s1 s2) (hB : Below w0.heap.size w0 w) (h : bf.f F k s0 s1 s2 = some (r1, r2, r3)) : Calls Tryz.prog 14 #[.pointer (some ⟨g, 0, none⟩)] w fun e w' => ∃ v0_ : Value, e = .returned (v0_) ∧ Kd.R k29 29 w' w.heap.size (fun _ => True) v0_ r1 ∧ dB w0 w' g s0 r2 r3 ∧ Below w0.heap.size w0 w' ∧ cO w w' g none :=
 ofL (Ei F HF k g s0 s1 s2 r1 r2 r3 w0 w hI hB h)
end Go.Proofs.YtkbhkonenkgfoaaGreat.Q
end
section
set_option linter.unusedVariables false
set_option linter.unusedSimpArgs false
namespace Go.Proofs.YtkbhkonenkgfoaaGreat.Q
open Go.RowKit Go.Proofs.YtkbhkonenkgfoaaGreatW.PrintWords Go.Proofs.YtkbhkonenkgfoaaGreatW.PrintLast Go.Proofs.YtkbhkonenkgfoaaGreatW.PrintMore
def fam : Nat → Fam
 | 0 => ⟨fun _ _ _ => none, fun _ _ _ => none, fun _ _ _ _ => none, fun _ _ _ => none⟩
 | k + 1 => ⟨fun a b c => fP.f (fam k) k a b c, fun a b c => bW.f (fam k) k a b c, fun a b c d => bM.f (fam k) k a b c d, fun a b c => aW.f (fam k) k a b c⟩
theorem xy : ∀ k, lL (fam k)
 | 0 => ⟨fun _ _ _ _ _ _ _ _ _ _ _ h => (by simp [fam] at h), fun _ _ _ _ _ _ _ _ _ _ _ h => (by simp [fam] at h), fun _ _ _ _ _ _ _ _ _ _ _ _ h => (by simp [fam] at h), fun _ _ _ _ _ _ _ _ _ _ _ h => (by simp [fam] at h)⟩
 | k + 1 => ⟨fun g s0 s1 s2 r1 r2 r3 w0 w hI hB h => fP.calls (fam k) (xy k) k g s0 s1 s2 r1 r2 r3 w0 w hI hB h,
  fun g s0 s1 s2 r1 r2 r3 w0 w hI hB h => bW.calls (fam k) (xy k) k g s0 s1 s2 r1 r2 r3 w0 w hI hB h,
  fun g s0 s1 s2 a1 r1 r2 r3 w0 w hI hB h => bM.calls (fam k) (xy k) k g s0 s1 s2 a1 r1 r2 r3 w0 w hI hB h,
  fun g s0 s1 s2 r1 r2 r3 w0 w hI hB h => aW.calls (fam k) (xy k) k g s0 s1 s2 r1 r2 r3 w0 w hI hB h⟩
theorem xA : ∀ k, lg (fam k) (fam (k + 1))
 | 0 => ⟨fun _ _ _ => LeO.none _, fun _ _ _ => LeO.none _, fun _ _ _ _ => LeO.none _, fun _ _ _ => LeO.none _⟩
 | k + 1 => ⟨fun a b c => fP.mono (xA k) a b c k, fun a b c => bW.mono (xA k) a b c k, fun a b c d => bM.mono (xA k) a b c d k, fun a b c => aW.mono (xA k) a b c k⟩
end Go.Proofs.YtkbhkonenkgfoaaGreat.Q
end
section
namespace Go.Proofs.YtkbhkonenkgfoaaGreat.Q
open Go.RowKit Go.Proofs.YtkbhkonenkgfoaaGreatW.PrintWords Go.Proofs.YtkbhkonenkgfoaaGreatW.PrintLast Go.Proofs.YtkbhkonenkgfoaaGreatW.PrintMore
attribute [local go_sem] iW iV iU iR dJ dH dW dV dh df dI dG
set_option linter.unusedVariables false
set_option linter.unusedSimpArgs false
/-! ### gZ: function 15 -/
def gZ.f (s0_0 : List (S37)) (s0_1 : Int) (s0_2 : Bool) : Option (Int × Int × Bool) := if s0_1 < (s0_0.length : Int) then (if 0 ≤ s0_1 then (some ((fF s0_0 s0_1).f3, s0_1, s0_2)) else (none)) else (if (s0_0.length : Int) > 0 then (if 0 ≤ (wrap64 ((s0_0.length : Int) - 1)) then (if (wrap64 ((s0_0.length : Int) - 1)) < (s0_0.length : Int) then (some (wrap64 (((fF s0_0 (wrap64 ((s0_0.length : Int) - 1))).f3) + 1), s0_1, s0_2)) else (none)) else (none)) else (some (0, s0_1, s0_2)))
set_option maxHeartbeats 8000000 in
set_option maxRecDepth 100000 in
theorem gZ.calls (g : Nat) (s0_0 : List (S37)) (s0_1 : Int) (s0_2 : Bool) (r1 : Int) (r2 : Int) (r3 : Bool) (w0 w : World) (hI : dB w0 w g s0_0 s0_1 s0_2) (hB : Below w0.heap.size w0 w) (h : gZ.f s0_0 s0_1 s0_2 = some (r1, r2, r3)) :
 Calls Tryz.prog 15 #[.pointer (some ⟨g, 0, none⟩)] w fun e w' => e = .returned (.int .i64 r1) ∧ dB w0 w' g s0_0 r2 r3 ∧ Below w0.heap.size w0 w' ∧ cO w w' g none := by
 have HI0 := ae.mk hI
 have HK := ae.mk (cO.refl w g none)
 have HL := ae.mk hB.size
 clear hI
 have HW0 := ae.mk hB.size
 have HB := ae.mk hB
 clear hB
 have H := h
 clear h
 unfold gZ.f at H
 revert H
 refine iQ (fun c2b0 H => ?_) fun c2b0 H => ?_
 ·revert H
  refine gJ (fun c3b0 H => ?_) fun c3 H => ?_
  ·simp only [Option.some.injEq, Prod.mk.injEq] at H
   obtain ⟨rfl, rfl, rfl⟩ := H
   obtain ⟨ASz4_0, cSz4_0, HGz4, hgz4, HSz4_0⟩ := HI0.out
   have hcz4_0 := kM HGz4
   have hcz4_1 := kL HGz4
   have hcz4_2 := kK HGz4
   have hfz4_1 := ag HGz4 1
   have hfz4_2 := ag HGz4 2
   clear HGz4 hgz4
   have p513 : 0 ≤ (s0_1 : Int) := of_decide_eq_true aT
   have q513 : s0_1 < (s0_0.length : Int) := of_decide_eq_true aT
   obtain ⟨ad513, e513, hx513_0, hx513_1, hx513_2, hx513_3⟩ := lM HSz4_0 s0_1 p513 q513
   cases e513
   replace hx513_0 := bI HB.out hx513_0
   replace hx513_1 := bI HB.out hx513_1
   replace hx513_2 := bI HB.out hx513_2
   replace hx513_3 := bI HB.out hx513_3
   replace p513 := eq_true p513
   replace q513 := eq_true q513
   go_enter Tryz.func15, Tryz.ntmps15
   go_wp2
   repeat (go_quiet (fail); try go_wp2)
   go_ret
   exact ⟨eT, iT HI0, bT HB, kT HK⟩
  exact absurd H (by simp)
 revert H
 refine iC (fun c5 H => ?_) fun c5 H => ?_
 ·have c5b0 : decide (0 < (s0_0.length : Int)) = true := decide_eq_true c5
  have c5b1 : decide (0 < s0_0.length) = true := decide_eq_true (by omega)
  clear c5
  obtain ⟨ji6, hji6⟩ : ∃ j_ : Int, (wrap64 ((s0_0.length : Int) - 1)) = j_ := ⟨_, rfl⟩
  replace H : (if 0 ≤ (ji6) then (if (ji6) < (s0_0.length : Int) then (some (wrap64 (((fF s0_0 (ji6)).f3) + 1), s0_1, s0_2)) else (none)) else (none)) = some (r1, r2, r3) := by first | (rw [hji6] at H; exact H) | (simp only [hji6] at H ⊢; exact H)
  have hji6w : (IntKind.i64.wrap ((s0_0.length : Int) - 1)) = ji6 := (gX _).trans hji6
  revert H
  refine gJ (fun c7b0 H => ?_) fun c7 H => ?_
  ·revert H
   refine gJ (fun c8b0 H => ?_) fun c8 H => ?_
   ·simp only [Option.some.injEq, Prod.mk.injEq] at H
    obtain ⟨rfl, rfl, rfl⟩ := H
    obtain ⟨ASz9_0, cSz9_0, HGz9, hgz9, HSz9_0⟩ := HI0.out
    have hcz9_0 := kM HGz9
    have hcz9_1 := kL HGz9
    have hcz9_2 := kK HGz9
    have hfz9_1 := ag HGz9 1
    have hfz9_2 := ag HGz9 2
    clear HGz9 hgz9
    have p514 : 0 ≤ ((ji6) : Int) := of_decide_eq_true aT
    have q514 : (ji6) < (s0_0.length : Int) := of_decide_eq_true aT
    obtain ⟨ad514, e514, hx514_0, hx514_1, hx514_2, hx514_3⟩ := lM HSz9_0 (ji6) p514 q514
    cases e514
    replace hx514_0 := bI HB.out hx514_0
    replace hx514_1 := bI HB.out hx514_1
    replace hx514_2 := bI HB.out hx514_2
    replace hx514_3 := bI HB.out hx514_3
    replace p514 := eq_true p514
    replace q514 := eq_true q514
    go_enter Tryz.func15, Tryz.ntmps15
    go_wp2
    repeat (go_quiet (fail); try go_wp2)
    go_ret
    exact ⟨by first | rfl | (simp [jm, jl] <;> rfl) | (simp only [← hji6]; first | rfl | (simp [jm, jl] <;> rfl)) | (simp [*, jm, jl] <;> rfl), iT HI0, bT HB, kT HK⟩
   exact absurd H (by simp)
  exact absurd H (by simp)
 have c5b0 : decide (0 < (s0_0.length : Int)) = false := decide_eq_false c5
 have c5b1 : decide (0 < s0_0.length) = false := decide_eq_false (by omega)
 clear c5
 simp only [Option.some.injEq, Prod.mk.injEq] at H
 obtain ⟨rfl, rfl, rfl⟩ := H
 obtain ⟨ASz10_0, cSz10_0, HGz10, hgz10, HSz10_0⟩ := HI0.out
 have hcz10_0 := kM HGz10
 have hcz10_1 := kL HGz10
 have hcz10_2 := kK HGz10
 have hfz10_1 := ag HGz10 1
 have hfz10_2 := ag HGz10 2
 clear HGz10 hgz10
 go_enter Tryz.func15, Tryz.ntmps15
 go_wp2
 repeat (go_quiet (fail); try go_wp2)
 go_ret
 exact ⟨eT, iT HI0, bT HB, kT HK⟩
end Go.Proofs.YtkbhkonenkgfoaaGreat.Q
end
