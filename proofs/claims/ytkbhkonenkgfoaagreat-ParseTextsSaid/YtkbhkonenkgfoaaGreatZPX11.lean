/- Walks over functions of the program, words for them, and what the functions come to; of each text only what this claim uses; no condition. -/
import Derived.Test.YtkbhkonenkgfoaaGreatZPX0
import Derived.Test.YtkbhkonenkgfoaaGreatZPX1
import Derived.Test.YtkbhkonenkgfoaaGreatZPX3
import Derived.Test.YtkbhkonenkgfoaaGreatZPX4
import Derived.Test.YtkbhkonenkgfoaaGreatZPX9
import Derived.Test.YtkbhkonenkgfoaaGreatZPX10
section
set_option linter.unusedVariables false
set_option linter.unusedSimpArgs false
namespace Go.Proofs.YtkbhkonenkgfoaaGreat.Q
open Go Go.RowKit Go.Proofs.YtkbhkonenkgfoaaGreatW.PrintWords Go.Proofs.YtkbhkonenkgfoaaGreatW.PrintLast Go.Proofs.YtkbhkonenkgfoaaGreatW.PrintMore
attribute [local go_sem] lK lJ lI lH
set_option maxHeartbeats 8000000 in
set_option maxRecDepth 100000 in
theorem Lt (F : iI) (HF : oI F) (k : Nat) (g : Nat) (s0 : List S37) (s1 : Int) (s2 : Bool) (r : List S29) (e1 : Int) (e2 : Bool) (w0 w : World) (hI : Rd 47 w0 w g s0 s1 s2) (hB : Below w0.heap.size w0 w) (h : bJ.f F k s0 s1 s2 = some (r, e1, e2)) :
 Calls Tryz.prog 94 #[.pointer (some ⟨g, 0, none⟩)] w (Back 47 w0 w g s0 e1 e2 (IsL w r)) := by
 unfold bJ.f at h
 have HS := St.new (T := 47) (by decide) hI hB
 have H := ae.mk h
 clear h hI hB
 go_enter Tryz.func94, Tryz.ntmps94
 go_wp2_with (first | ((with_reducible refine gC 36 rfl ?_); refine sB 36 rfl Tryz.func36 (stT HS) H (fun t q b hI hB => takeC g _ _ _ _ t q b w0 _ hI hB) ?_; clear HS H; intro t q b w' HS H; cases t <;> (try simp only [if_true, if_false, eq_self, Bool.false_eq_true, Bool.not_true, Bool.not_false] at H)) | ((with_reducible refine gC 35 rfl ?_); refine sN 35 rfl Tryz.func35 (stT HS) H (fun t1 t2 t3 t4 q b hI hB => vk g _ _ _ _ t1 t2 t3 t4 q b w0 _ hI hB) ?_; clear HS H; intro t1 t2 t3 t4 q b w' HS H; (try dsimp only at H)) | ((with_reducible refine gC 34 rfl ?_); refine sU 34 rfl Tryz.func34 (stT HS) H (fun q b hI hB => oN g _ _ _ _ q b w0 _ hI hB) ?_; clear HS H; intro q b w' HS H; (try dsimp only at H)) | ((with_reducible refine gC 99 rfl ?_); refine sL 99 rfl Tryz.func99 (stT HS) H (fun t q b hI hB => G7 F HF _ g _ _ _ _ _ _ _ _ t q b w0 _ hI hB) ?_; clear HS H; intro t q b w' A c HS H; (try dsimp only at H)) | ((with_reducible refine bH (N := 92) rfl ?_); (with_reducible refine gC 100 rfl ?_); refine sL 100 rfl Tryz.func100 (stT HS) H (fun t q b hI hB => HF.expr g _ _ _ t q b w0 _ hI hB) ?_; clear HS H; intro te q b w' Ae ce HS H; (try dsimp only at H); have hc2 := HS.rd.cell2; cases b <;> (try simp only [if_true, if_false, eq_self, Bool.false_eq_true, Bool.not_true, Bool.not_false] at H); rotate_left; (cases k; exact absurd H.out (by simp [bJ.j0]); simp only [bJ.j0, if_true, if_false, eq_self, Bool.false_eq_true, Bool.not_true, Bool.not_false] at H); rotate_left) | ((with_reducible refine gC 100 rfl ?_); refine sL 100 rfl Tryz.func100 (stT HS) H (fun t q b hI hB => HF.expr g _ _ _ t q b w0 _ hI hB) ?_; clear HS H; intro t q b w' A c HS H; (try dsimp only at H)) | ((with_reducible refine gC 80 rfl ?_); refine sL 80 rfl Tryz.func80 (stT HS) H (fun t q b hI hB => HF.block g _ _ _ t q b w0 _ hI hB) ?_; clear HS H; intro t q b w' A c HS H; (try dsimp only at H)) | (go_at_call 78; refine cB (stT HS) H (fun t q b hI hB => isC g _ _ _ _ t q b w0 _ hI hB) ?_; clear HS H; intro t1 q b w' HS H; (cases k; exact absurd H.out (by cases t1 <;> simp [bJ.j0]); simp only [bJ.j0] at H); cases t1 <;> (try simp only [if_true, if_false, eq_self, Bool.false_eq_true, Bool.not_true, Bool.not_false] at H); rotate_left; refine DN.h ?_; rotate_left) | ((with_reducible refine bH (N := 30) rfl ?_); refine wZ (N := 30) (stT HS) (by first | (go_simp; done) | (go_simp; rfl)) ?_; clear HS; intro A c w' HS; replace H := hB H; (try dsimp only at H)) | ((with_reducible refine bH (N := 36) rfl ?_); refine kZ (N := 36) (stT HS) (by first | (go_simp; done) | (go_simp; rfl)) ?_; clear HS; intro A c w' HS) | ((with_reducible refine eu (b := .append) (xs := #[.tmp 33, .tmp 36]) rfl ?_); at_builtin; refine app (N := 37) (.tmp 33) (.tmp 36) rfl Tryz.underlying55 info23 (stT HS) rfl rfl H ?_; clear HS H; intro A c w' HS H) | ((with_reducible refine bH (N := 50) rfl ?_); refine wZ (N := 50) (stT HS) (by first | (go_simp; done) | (go_simp; rfl)) ?_; clear HS; intro A c w' HS) | ((with_reducible refine bH (N := 58) rfl ?_); refine xe (N := 58) (stT HS) (by first | (go_simp; done) | (go_simp; rfl)) ?_; clear HS; intro A c w' HS) | ((with_reducible refine bH (N := 65) rfl ?_); refine xe (N := 65) (stT HS) (by first | (go_simp; done) | (go_simp; rfl)) ?_; clear HS; intro A c w' HS) | ((with_reducible refine bH (N := 72) rfl ?_); refine xe (N := 72) (stT HS) (by first | (go_simp; done) | (go_simp; rfl)) ?_; clear HS; intro A c w' HS) | ((with_reducible refine bH (N := 106) rfl ?_); refine kZ (N := 106) (stT HS) (by first | (go_simp; done) | (go_simp; rfl)) ?_; clear HS; intro A c w' HS) | ((with_reducible refine gC 37 rfl ?_); refine sJ 37 rfl Tryz.func37 (stT HS) H (fun t hr hc => qH _ _ _ _ _ _ _ _ _ t _ hr hc) ?_; clear HS H; intro t w' A c HS H; (try dsimp only at H)))
 all_goals first
  | (have h_ := H.out; simp only [Option.some.injEq, Prod.mk.injEq] at h_; obtain ⟨rfl, rfl, rfl⟩ := h_; go_ret; exact (stT HS).jD (.head _))
  | skip
 refine ⟨?_⟩
 by_cases c1 : 0 < (te.length : Int)
 rotate_left
 ·exact absurd (hE c1 H).out (by simp)
 replace H := hI c1 H
 obtain ⟨ad, rfl, hx0, hx2⟩ := HS.node (.head _) c1
 have q3 := eq_true c1
 have qi := eq_true (show 0 < te.length by omega)
 by_cases c2 : (ax te 0).f0 = 21
 ·replace H := hI c2 H
  have c2b : ((ax te 0).f0 == 21) = true := beq_iff_eq.mpr c2
  clear c1 c2
  go_wp2_with (first | ((with_reducible refine gC 34 rfl ?_); refine sU 34 rfl Tryz.func34 (stT HS) H (fun q b hI hB => oN g _ _ _ _ q b w0 _ hI hB) ?_; clear HS H; intro q b w' HS H; (try dsimp only at H); obtain ⟨hx0, hx2⟩ := HS.J4 (.head _) q3) | ((with_reducible refine gC 99 rfl ?_); refine sL 99 rfl Tryz.func99 (stT HS) H (fun t q b hI hB => G7 F HF _ g _ _ _ _ _ _ _ _ t q b w0 _ hI hB) ?_; clear HS H; intro t q b w' A c HS H; (try dsimp only at H)))
  have h_ := H.out; simp only [Option.some.injEq, Prod.mk.injEq] at h_; obtain ⟨rfl, rfl, rfl⟩ := h_
  go_ret
  exact (stT HS).jD (.head _)
 replace H := hE c2 H
 have c2b : ((ax te 0).f0 == 21) = false := beq_eq_false_iff_ne.mpr c2
 by_cases c3 : (ax te 0).f0 = 26
 rotate_left
 ·replace H := hE c3 H
  have c3b : ((ax te 0).f0 == 26) = false := beq_eq_false_iff_ne.mpr c3
  have c3n : ((ax te 0).f0 != 26) = true := bne_iff_ne.mpr c3
  clear c1 c2 c3
  have hc2 := HS.rd.cell2
  have hf2 := HS.rd.fro 2
  go_wp2
  have h_ := H.out; simp only [Option.some.injEq, Prod.mk.injEq] at h_; obtain ⟨rfl, rfl, rfl⟩ := h_
  go_ret
  exact (stT HS).Bq
 replace H := hI c3 H
 have c3b : ((ax te 0).f0 == 26) = true := beq_iff_eq.mpr c3
 have c3n : ((ax te 0).f0 != 26) = false := bne_eq_false_iff_eq.mpr c3
 clear c1 c2 c3
 go_wp2_with (first | ((with_reducible refine gC 34 rfl ?_); refine sU 34 rfl Tryz.func34 (stT HS) H (fun q b hI hB => oN g _ _ _ _ q b w0 _ hI hB) ?_; clear HS H; intro q b w' HS H; (try dsimp only at H)) | ((with_reducible refine gC 100 rfl ?_); refine sL 100 rfl Tryz.func100 (stT HS) H (fun t q b hI hB => HF.expr g _ _ _ t q b w0 _ hI hB) ?_; clear HS H; intro t q b w' A c HS H; (try dsimp only at H)) | ((with_reducible refine gC 41 rfl ?_); refine sI 41 rfl Tryz.func41 (stT HS) H (l := te) (.tail _ (.head _)) (fun t hn hr hc => bF.calls _ _ _ _ _ t _ hr hc) ?_; clear HS H; intro ti w' Ai ci HS HC H; (try dsimp only at H)))
 (try simp only [Act.put, List.setIfInBounds_toArray, List.set_cons_zero, List.set_cons_succ])
 by_cases c5 : 1 < (ti.length : Int)
 rotate_left
 ·exact absurd H.out (by simp [c5])
 replace H := hI (show 0 < (ti.length : Int) by omega) H
 have q5 := eq_true c5
 have q6 := eq_true (show 0 < (ti.length : Int) by omega)
 have q7 := eq_true (show 1 < ti.length by omega)
 have q8 := eq_true (show 0 < ti.length by omega)
 obtain ⟨ai, rfl, hy0⟩ := Kd.jv HC 0 (by omega) (by omega)
 obtain ⟨ai', e2, hy1⟩ := Kd.jv HC 1 (by omega) (by omega)
 obtain rfl : ai = ai' := by injection e2
 (try rw [show (0 : Int).toNat = 0 from rfl, Addr.add_zero'] at hy0)
 (try simp only [show (1 : Int).toNat = 1 from rfl, Nat.reduceMul, Nat.reduceEqDiff, Go.Addr.add, ↓reduceIte] at hy1)
 clear c5 HC e2
 go_region_held3 (fun w' => w'.cell? ai = some (.int .i64 (rd ti 0)) ∧ w'.cell? ⟨ai.block, ai.off + 1, none⟩ = some (.int .i64 (rd ti 1))) (first | exact ⟨hy0, hy1⟩ | go_keep) (first | (go_at_call 101; refine cS (stT HS) H (l := te) Z38 (fun t hn hr hc => fB.calls _ _ _ _ _ t _ hr hc) ?_; clear HS H; intro t w' A c HS hb H; (try dsimp only at H); (try replace H := hI (of_eq_true q5) H); have y0 := (hb.cell (World.block_lt_of_cell? _ _ hy0)).trans hy0; have y1 := (hb.cell (World.block_lt_of_cell? _ _ hy1)).trans hy1; clear hy0 hy1 hb; have hy0 := y0; have hy1 := y1; clear y0 y1) | (go_at_call 37; refine cJ (stT HS).J5 H (fun t hr hc => qH _ _ _ _ _ _ _ _ _ t _ hr hc) ?_; clear HS H; intro t w' A c HS hb H; (try dsimp only at H); have y0 := (hb.cell (World.block_lt_of_cell? _ _ (vH hy0))).trans (vH hy0); have y1 := (hb.cell (World.block_lt_of_cell? _ _ (vH hy1))).trans (vH hy1); clear hy0 hy1 hb; have hy0 := y0; have hy1 := y1; clear y0 y1))
 go_wp2
 have h_ := H.out; simp only [Option.some.injEq, Prod.mk.injEq] at h_; obtain ⟨rfl, rfl, rfl⟩ := h_
 go_ret
 exact (stT HS).jD (.head _)
end Go.Proofs.YtkbhkonenkgfoaaGreat.Q
end
section
namespace Go.Proofs.YtkbhkonenkgfoaaGreat.Q
open Go.RowKit Go.Proofs.YtkbhkonenkgfoaaGreatW.PrintWords Go.Proofs.YtkbhkonenkgfoaaGreatW.PrintLast Go.Proofs.YtkbhkonenkgfoaaGreatW.PrintMore
attribute [local go_sem] iW iV iU iR dJ dH dW dV dh df dI dG
set_option linter.unusedVariables false
set_option linter.unusedSimpArgs false
/-! ### bD: function 80 -/
def bD.l0 (F : iI) : Nat → List (List (S29)) → List (S37) → Int → Bool → Option ((List (S29)) × Int × Bool)
 | 0, _, _, _, _ => none
 | k + 1, x3, x1000, x1001, x1002 => if x1002 = true then ((bi.f x1000 x1001 x1002 (⟨#[125]⟩ : ByteArray)).bind fun bt1071 => ((aC.f k 5 0 (⟨#[]⟩ : ByteArray) 0 (⟨#[]⟩ : ByteArray) x3).bind fun t1073 => (some (t1073, bt1071.1, bt1071.2)))) else ((fC.f x1000 x1001 x1002 (⟨#[125]⟩ : ByteArray)).bind fun bt1076 => (if bt1076.1 = true then ((bi.f x1000 bt1076.2.1 bt1076.2.2 (⟨#[125]⟩ : ByteArray)).bind fun bt1079 => ((aC.f k 5 0 (⟨#[]⟩ : ByteArray) 0 (⟨#[]⟩ : ByteArray) x3).bind fun t1081 => (some (t1081, bt1079.1, bt1079.2)))) else ((bJ.f F k x1000 bt1076.2.1 bt1076.2.2).bind fun bt1084 => (if x3.length < 5864062014805 then (bD.l0 F k (x3 ++ [bt1084.1]) x1000 bt1084.2.1 bt1084.2.2) else (none)))))
def bD.f (F : iI) (k : Nat) (s0_0 : List (S37)) (s0_1 : Int) (s0_2 : Bool) : Option ((List (S29)) × Int × Bool) := (bi.f s0_0 s0_1 s0_2 (⟨#[123]⟩ : ByteArray)).bind fun bt1069 => (bD.l0 F k ([] : List (List (S29))) s0_0 bt1069.1 bt1069.2)
theorem bD.bP {F F' : iI} (HLE : kw F F') : ∀ k, (∀ y0 y1 y2 y3, LeO (bD.l0 F k y0 y1 y2 y3) (bD.l0 F' (k + 1) y0 y1 y2 y3))
 | 0 => fun _ _ _ _ r h => by simp [bD.l0] at h
 | k + 1 => by
  have ih0 := bD.bP HLE k
  intro y0 y1 y2 y3
  unfold bD.l0
  have m0 := aC.mono
  have m1 := (bJ.mono HLE)
  exact yL
theorem bD.mono {F F' : iI} (HLE : kw F F') : ∀ a0 a1 a2 k, LeO (bD.f F k a0 a1 a2) (bD.f F' (k + 1) a0 a1 a2) := by
 intro a0 a1 a2 k
 have ih0 := bD.bP HLE k
 unfold bD.f
 have m0 := aC.mono
 have m1 := (bJ.mono HLE)
 exact yL
/-! ### dK: function 38 -/
def dK.f (F : iI) (k : Nat) (s0_0 : List (S37)) (s0_1 : Int) (s0_2 : Bool) : Option ((List (List (S29))) × Int × Bool) := (aH.f k s0_0 s0_1 s0_2).bind fun bt1092 => ((bD.f F k s0_0 bt1092.2.1 bt1092.2.2).bind fun bt1097 => (if bt1092.1.length < 5864062014805 then (some ((bt1092.1 ++ [bt1097.1]), bt1097.2.1, bt1097.2.2)) else (none)))
theorem dK.mono {F F' : iI} (HLE : kw F F') : ∀ a0 a1 a2 k, LeO (dK.f F k a0 a1 a2) (dK.f F' (k + 1) a0 a1 a2) := by
 intro a0 a1 a2 k
 unfold dK.f
 have m0 := (bD.mono HLE)
 have m1 := aH.mono
 exact yL
end Go.Proofs.YtkbhkonenkgfoaaGreat.Q
end
section
set_option linter.unusedVariables false
set_option linter.unusedSimpArgs false
namespace Go.Proofs.YtkbhkonenkgfoaaGreat.Q
open Go Go.RowKit Go.Proofs.YtkbhkonenkgfoaaGreatW.PrintWords Go.Proofs.YtkbhkonenkgfoaaGreatW.PrintLast Go.Proofs.YtkbhkonenkgfoaaGreatW.PrintMore
attribute [local go_sem] lK lJ lI lH
set_option maxHeartbeats 8000000 in
set_option maxRecDepth 100000 in
theorem GL (F : iI) (HF : oI F) (k : Nat) (g : Nat) (s0 : List S37) (s1 : Int) (s2 : Bool) (r : List S29) (e1 : Int) (e2 : Bool) (w0 w : World) (hI : Rd 47 w0 w g s0 s1 s2) (hB : Below w0.heap.size w0 w) (h : bD.f F k s0 s1 s2 = some (r, e1, e2)) :
 Calls Tryz.prog 80 #[.pointer (some ⟨g, 0, none⟩)] w (Back 47 w0 w g s0 e1 e2 (IsL w r)) := by
 unfold bD.f at h
 have HS := St.new (T := 47) (by decide) hI hB
 have H := ae.mk h
 clear h hI hB
 go_enter Tryz.func80, Tryz.ntmps80
 go_wp2_with (first | ((with_reducible refine gC 34 rfl ?_); refine sU 34 rfl Tryz.func34 (stT HS) H (fun q b hI hB => oN g _ _ _ _ q b w0 _ hI hB) ?_; clear HS H; intro q b w' HS H; (try dsimp only at H)))
 (try simp only [Act.put, List.setIfInBounds_toArray, List.set_cons_zero, List.set_cons_succ])
 go_loopg [3] k (fun kq v3 w' => ∃ (x3 : List (List S29)) (p : Int) (d : Bool) (A : Option Addr) (c : Nat), v3 = .slice A x3.length c ∧ ae (bD.l0 F kq x3 s0 p d = some (r, e1, e2)) ∧ ae (kq ≤ k) ∧ St 47 w0 w w' g s0 p d [] [(.slice A x3.length c, x3)] ⟨[], []⟩)
 case atStart => exact ⟨[], _, _, none, 0, rfl, H, ⟨Nat.le_refl _⟩, (stT HS).clear.uG⟩
 case round =>
  clear HS H
  obtain ⟨x3, p, d, A, c, rfl, H, HK1, HS⟩ := hrel
  cases gk with
  | zero => exact absurd H.out (by simp [bD.l0])
  | succ k1 =>
   simp only [bD.l0] at H
   have hc2 := HS.rd.cell2
   all_goals
    cases d <;> (try simp only [if_true, if_false, eq_self, Bool.false_eq_true, Bool.not_true, Bool.not_false] at H)
   all_goals go_wp2_with (first | (go_at_call 78; refine cB HS H (fun t q b hI hB => isC g _ _ _ _ t q b w0 _ hI hB) ?_; clear HS H; intro t q b w' HS H; cases t <;> (try simp only [if_true, if_false, eq_self, Bool.false_eq_true, Bool.not_true, Bool.not_false] at H)) | ((with_reducible refine gC 34 rfl ?_); refine sU 34 rfl Tryz.func34 (stT HS) H (fun q b hI hB => oN g _ _ _ _ q b w0 _ hI hB) ?_; clear HS H; intro q b w' HS H; (try dsimp only at H)) | ((with_reducible refine gC 94 rfl ?_); refine sL 94 rfl Tryz.func94 (stT HS) H (fun t q b hI hB => Lt F HF _ g _ _ _ t q b w0 _ hI hB) ?_; clear HS H; intro t q b w' A c HS H; (try dsimp only at H)) | ((with_reducible refine bH (N := 19) rfl ?_); refine kZ (N := 19) (stT HS) (by first | (go_simp; done) | (go_simp; rfl)) ?_; clear HS; intro A c w' HS) | ((with_reducible refine eu (b := .append) (xs := #[.tmp 16, .tmp 19]) rfl ?_); at_builtin; refine app (N := 20) (.tmp 16) (.tmp 19) rfl Tryz.underlying55 info23 (stT HS) rfl rfl H ?_; clear HS H; intro A c w' HS H) | ((with_reducible refine gC 37 rfl ?_); refine sJ 37 rfl Tryz.func37 (stT HS) H (fun t hr hc => qH _ _ _ _ _ _ _ _ _ t _ hr hc) ?_; clear HS H; intro t w' A c HS H; (try dsimp only at H)))
   all_goals first
    | (go_roundg k1; (case measure => have := HK1.out; omega); (case rel => exact ⟨_, _, _, _, _, by first | rfl | simp, H, ⟨by have := HK1.out; omega⟩, stT HS⟩))
    | (have h_ := H.out; simp only [Option.some.injEq, Prod.mk.injEq] at h_; obtain ⟨rfl, rfl, rfl⟩ := h_; go_ret; exact (stT HS).jD (.head _))
set_option maxHeartbeats 8000000 in
set_option maxRecDepth 100000 in
theorem yC (F : iI) (HF : oI F) (k : Nat) (g : Nat) (s0 : List S37) (s1 : Int) (s2 : Bool) (r : List (List S29)) (e1 : Int) (e2 : Bool) (w0 w : World) (hI : Rd 47 w0 w g s0 s1 s2) (hB : Below w0.heap.size w0 w) (h : dK.f F k s0 s1 s2 = some (r, e1, e2)) :
 Calls Tryz.prog 38 #[.pointer (some ⟨g, 0, none⟩)] w (Back 47 w0 w g s0 e1 e2 (IsK w g r)) := by
 unfold dK.f at h
 have HS := St.new (T := 47) (by decide) hI hB
 have H := ae.mk h
 clear h hI hB
 go_enter Tryz.func38, Tryz.ntmps38
 go_wp2_with (first | ((with_reducible refine gC 79 rfl ?_); refine sK 79 rfl Tryz.func79 (stT HS) H (fun t q b hI hB => IJ _ g _ _ _ t q b w0 _ hI hB) ?_; clear HS H; intro t q b w' A c HS H; (try dsimp only at H)) | ((with_reducible refine gC 80 rfl ?_); refine sL 80 rfl Tryz.func80 (stT HS) H (fun t q b hI hB => GL F HF _ g _ _ _ t q b w0 _ hI hB) ?_; clear HS H; intro t q b w' A c HS H; (try dsimp only at H)) | ((with_reducible refine bH (N := 9) rfl ?_); refine kZ (N := 9) (stT HS) (by first | (go_simp; done) | (go_simp; rfl)) ?_; clear HS; intro A c w' HS) | ((with_reducible refine eu (b := .append) (xs := #[.tmp 6, .tmp 9]) rfl ?_); at_builtin; refine app (N := 10) (.tmp 6) (.tmp 9) rfl Tryz.underlying55 info23 (stT HS) rfl rfl H ?_; clear HS H; intro A c w' HS H))
 all_goals
  have h_ := H.out; simp only [Option.some.injEq, Prod.mk.injEq] at h_; obtain ⟨rfl, rfl, rfl⟩ := h_
  go_ret
  exact (by simpa using (stT HS).Bv)
end Go.Proofs.YtkbhkonenkgfoaaGreat.Q
end
section
set_option linter.unusedVariables false
set_option linter.unusedSimpArgs false
namespace Go.Proofs.YtkbhkonenkgfoaaGreat.Q
open Go Go.RowKit Go.Proofs.YtkbhkonenkgfoaaGreatW.PrintWords Go.Proofs.YtkbhkonenkgfoaaGreatW.PrintLast Go.Proofs.YtkbhkonenkgfoaaGreatW.PrintMore
attribute [local go_sem] lK lJ lI lH
def wI.f (F : iI) (k : Nat) (s0 : List S37) (s1 : Int) : Option (List S29 × Int × Bool) :=
 if (fF s0 s1).f0 = 2 then (if s1 < 9223372036854775807 then some ([(⟨19, 0, (⟨#[]⟩ : ByteArray), (fF s0 s1).f2, (⟨#[]⟩ : ByteArray)⟩ : S29)], s1 + 1, false) else none)
 else if (fF s0 s1).f0 = 3 then (if s1 < 9223372036854775807 then some ([(⟨20, 0, (⟨#[]⟩ : ByteArray), 0, (fF s0 s1).f1⟩ : S29)], s1 + 1, false) else none)
 else (jT.f s0 s1 false 1).bind fun n => (bG.f s0 n.2.2.2.2.1 n.2.2.2.2.2 (⟨#[46]⟩ : ByteArray)).bind fun t => if t.1 = true then ((jT.f s0 t.2.1 t.2.2 1).bind fun u => (aJ.f F k s0 u.2.2.2.2.1 u.2.2.2.2.2).bind fun a => (aC.f k 23 0 n.2.1 0 u.2.1 a.1).bind fun x => some (x, a.2.1, a.2.2)) else some ([(⟨21, 0, n.2.1, 0, (⟨#[]⟩ : ByteArray)⟩ : S29)], t.2.1, t.2.2)
def mP.f (F : iI) (k : Nat) (s0 : List S37) (s1 : Int) (s2 : Bool) : Option (List S29 × Int × Bool) :=
 (bG.f s0 s1 s2 (⟨#[110, 105, 108]⟩ : ByteArray)).bind fun a => if a.1 = true then some ([(⟨18, 0, (⟨#[]⟩ : ByteArray), 0, (⟨#[]⟩ : ByteArray)⟩ : S29)], a.2.1, a.2.2) else
 (bG.f s0 a.2.1 a.2.2 (⟨#[115, 116, 97, 116, 101]⟩ : ByteArray)).bind fun b => if b.1 = true then some ([(⟨29, 0, (⟨#[]⟩ : ByteArray), 0, (⟨#[]⟩ : ByteArray)⟩ : S29)], b.2.1, b.2.2) else
 (bG.f s0 b.2.1 b.2.2 (⟨#[123]⟩ : ByteArray)).bind fun c => if c.1 = true then ((bi.f s0 c.2.1 c.2.2 (⟨#[125]⟩ : ByteArray)).bind fun d => some ([(⟨25, 0, (⟨#[]⟩ : ByteArray), 0, (⟨#[]⟩ : ByteArray)⟩ : S29)], d.1, d.2)) else
 (bG.f s0 c.2.1 c.2.2 (⟨#[102, 110]⟩ : ByteArray)).bind fun d => if d.1 = true then ((dK.f F k s0 d.2.1 d.2.2).bind fun e => (aC.f k 24 0 (⟨#[]⟩ : ByteArray) 0 (⟨#[]⟩ : ByteArray) e.1).bind fun x => some (x, e.2.1, e.2.2)) else
 (bG.f s0 d.2.1 d.2.2 (⟨#[40]⟩ : ByteArray)).bind fun e => if e.1 = true then ((lG.f F k s0 e.2.1 e.2.2).bind fun x => (bi.f s0 x.2.1 x.2.2 (⟨#[41]⟩ : ByteArray)).bind fun m => some (x.1, m.1, m.2)) else
 if e.2.2 = true then some ([], e.2.1, true) else if e.2.1 ≥ (s0.length : Int) then some ([], e.2.1, true) else if 0 ≤ e.2.1 then wI.f F k s0 e.2.1 else none
theorem mP.mono {F F' : iI} (HLE : kw F F') (a b c) (k : Nat) : LeO (mP.f F k a b c) (mP.f F' (k + 1) a b c) := by
 unfold mP.f wI.f
 have m0 := aC.mono
 have m1 := (dK.mono HLE)
 have m2 := (aJ.mono HLE)
 have m3 := (lG.mono HLE)
 exact yL
end Go.Proofs.YtkbhkonenkgfoaaGreat.Q
end
section
set_option linter.unusedVariables false
set_option linter.unusedSimpArgs false
namespace Go.Proofs.YtkbhkonenkgfoaaGreat.Q
open Go Go.RowKit Go.Proofs.YtkbhkonenkgfoaaGreatW.PrintWords Go.Proofs.YtkbhkonenkgfoaaGreatW.PrintLast Go.Proofs.YtkbhkonenkgfoaaGreatW.PrintMore
attribute [local go_sem] lK lJ lI lH
set_option maxHeartbeats 8000000 in
set_option maxRecDepth 100000 in
theorem Lu (F : iI) (HF : oI F) (k : Nat) (g : Nat) (s0 : List S37) (s1 : Int) (s2 : Bool) (r : List S29) (e1 : Int) (e2 : Bool) (w0 w : World) (hI : Rd 47 w0 w g s0 s1 s2) (hB : Below w0.heap.size w0 w) (h : mP.f F k s0 s1 s2 = some (r, e1, e2)) :
 Calls Tryz.prog 110 #[.pointer (some ⟨g, 0, none⟩)] w (Back 47 w0 w g s0 e1 e2 (IsL w r)) := by
 unfold mP.f at h
 have HS := St.new (T := 47) (by decide) hI hB
 have H := ae.mk h
 clear h hI hB
 go_enter Tryz.func110, Tryz.ntmps110
 go_wp2_with (first | ((with_reducible refine gC 36 rfl ?_); refine sB 36 rfl Tryz.func36 (stT HS) H (fun t q b hI hB => takeC g _ _ _ _ t q b w0 _ hI hB) ?_; clear HS H; intro t q b w' HS H; cases t <;> (try simp only [if_true, if_false, eq_self, Bool.false_eq_true, Bool.not_true, Bool.not_false] at H)) | ((with_reducible refine gC 34 rfl ?_); refine sU 34 rfl Tryz.func34 (stT HS) H (fun q b hI hB => oN g _ _ _ _ q b w0 _ hI hB) ?_; clear HS H; intro q b w' HS H; (try dsimp only at H)) | ((with_reducible refine gC 38 rfl ?_); refine sK 38 rfl Tryz.func38 (stT HS) H (fun t q b hI hB => yC F HF _ g _ _ _ t q b w0 _ hI hB) ?_; clear HS H; intro t q b w' A c HS H; (try dsimp only at H)) | ((with_reducible refine gC 100 rfl ?_); refine sL 100 rfl Tryz.func100 (stT HS) H (fun t q b hI hB => HF.expr g _ _ _ t q b w0 _ hI hB) ?_; clear HS H; intro t q b w' A c HS H; (try dsimp only at H)) | ((with_reducible refine gC 37 rfl ?_); refine sJ 37 rfl Tryz.func37 (stT HS) H (fun t hr hc => qH _ _ _ _ _ _ _ _ _ t _ hr hc) ?_; clear HS H; intro t w' A c HS H; (try dsimp only at H)) | ((with_reducible refine bH (N := 11) rfl ?_); refine xe (N := 11) (stT HS) (by first | (go_simp; done) | (go_simp; rfl)) ?_; clear HS; intro A c w' HS) | ((with_reducible refine bH (N := 16) rfl ?_); refine xe (N := 16) (stT HS) (by first | (go_simp; done) | (go_simp; rfl)) ?_; clear HS; intro A c w' HS) | ((with_reducible refine bH (N := 23) rfl ?_); refine xe (N := 23) (stT HS) (by first | (go_simp; done) | (go_simp; rfl)) ?_; clear HS; intro A c w' HS))
 all_goals first
  | (have h_ := H.out; simp only [Option.some.injEq, Prod.mk.injEq] at h_; obtain ⟨rfl, rfl, rfl⟩ := h_; go_ret; exact (stT HS).jD (.head _))
  | skip
 (try simp only [Act.put, List.setIfInBounds_toArray, List.set_cons_zero, List.set_cons_succ])
 obtain ⟨A0, c0, hb0, hg0, hr0⟩ := HS.rd
 have hc0 : w'.cell? ⟨g, 0, none⟩ = some (.slice A0 s0.length c0) := (aj hb0 0).trans rfl
 have hc1 := HS.rd.cell1
 have hc2 := HS.rd.cell2
 have hf2 := HS.rd.fro 2
 clear hb0 hg0
 cases b
 rotate_left
 ·replace H := hI rfl H
  go_quiet (fail)
  go_wp2
  have h_ := H.out; simp only [Option.some.injEq, Prod.mk.injEq] at h_; obtain ⟨rfl, rfl, rfl⟩ := h_
  go_ret
  exact (stT HS).Bq
 replace H := hE (by decide) H
 by_cases c1 : q ≥ (s0.length : Int)
 ·replace H := hI c1 H
  have c1b : decide ((s0.length : Int) ≤ q) = true := decide_eq_true c1
  clear c1
  go_quiet (fail)
  go_wp2
  have h_ := H.out; simp only [Option.some.injEq, Prod.mk.injEq] at h_; obtain ⟨rfl, rfl, rfl⟩ := h_
  go_ret
  exact (stT HS).Bq
 replace H := hE c1 H
 by_cases c2 : 0 ≤ q
 rotate_left
 ·exact absurd (hE c2 H).out (by simp)
 replace H := hI c2 H
 have c1b : decide ((s0.length : Int) ≤ q) = false := decide_eq_false c1
 go_quiet (fail)
 go_wp2
 have p3 := eq_true c2
 have q3 := eq_true (show q < (s0.length : Int) by omega)
 clear c1 c2 c1b hc0 hc1 hc2 hf2
 replace HS := HS.drewN nq
 generalize w'.drewN nq = w5 at HS ⊢
 obtain ⟨A0, c0, hb0, hg0, hr0⟩ := HS.rd
 have hc0 : w5.cell? ⟨g, 0, none⟩ = some (.slice A0 s0.length c0) := (aj hb0 0).trans rfl
 have hc1 := HS.rd.cell1
 clear hb0 hg0
 obtain ⟨ad, ead, hx0, hx1, hx2, hx3⟩ := lM hr0 q (of_eq_true p3) (of_eq_true q3)
 cases ead
 replace hx0 := bI HS.below hx0
 replace hx1 := bI HS.below hx1
 replace hx2 := bI HS.below hx2
 replace hx3 := bI HS.below hx3
 go_region_held3 (fun w' => w'.cell? ⟨g, 0, none⟩ = some (.slice (some ad) s0.length c0) ∧ w'.cell? ⟨g, 1, none⟩ = some (.int .i64 q) ∧ w'.cell? (ad.add (q.toNat * 4)) = some (.int .i64 (fF s0 q).f0) ∧ w'.cell? ⟨(ad.add (q.toNat * 4)).block, (ad.add (q.toNat * 4)).off + 1, none⟩ = some (.string (fF s0 q).f1) ∧ w'.cell? ⟨(ad.add (q.toNat * 4)).block, (ad.add (q.toNat * 4)).off + 2, none⟩ = some (.int .i64 (fF s0 q).f2) ∧ w'.cell? ⟨(ad.add (q.toNat * 4)).block, (ad.add (q.toNat * 4)).off + 3, none⟩ = some (.int .i64 (fF s0 q).f3)) (first | exact ⟨hc0, hc1, hx0, hx1, hx2, hx3⟩ | go_keep) (first | fail)
 clear hc0 hc1 hx0 hx1 hx2 hx3 hr0
 obtain ⟨gb, w6, eg, ew, HS, hne⟩ := HS.boxed #[.int .i64 (fF s0 q).f0, .string (fF s0 q).f1, .int .i64 (fF s0 q).f2, .int .i64 (fF s0 q).f3] 37
 simp only [eg, ew]
 clear eg ew
 have hb_ := HS.box rfl
 have hx0 := (aj hb_ 0).trans rfl
 have hx1 := (aj hb_ 1).trans rfl
 have hx2 := (aj hb_ 2).trans rfl
 have hx3 := (aj hb_ 3).trans rfl
 have hc1 := HS.rd.cell1
 have hf1 := HS.rd.fro 1
 have hnc := Ne.symm hne
 clear hb_
 unfold wI.f at H
 by_cases c3 : (fF s0 q).f0 = 2
 ·replace H := hI c3 H
  have c3b : ((fF s0 q).f0 == 2) = true := beq_iff_eq.mpr c3
  clear c3
  by_cases c5 : q < 9223372036854775807
  rotate_left
  ·exact absurd (hE c5 H).out (by simp)
  replace H := hI c5 H
  have e0 : wrap64 (q + 1) = q + 1 := by have := of_eq_true p3; unfold wrap64; omega
  clear c5
  go_wp2_with ((with_reducible refine bH (N := 84) rfl ?_); refine xe (N := 84) (stT HS) (by first | (go_simp; done) | (go_simp; rfl)) ?_; clear HS; intro A c w' HS)
  have h_ := H.out; simp only [Option.some.injEq, Prod.mk.injEq] at h_; obtain ⟨rfl, rfl, rfl⟩ := h_
  go_ret
  exact (stT HS).jD (.head _)
 replace H := hE c3 H
 have c3b : ((fF s0 q).f0 == 2) = false := beq_eq_false_iff_ne.mpr c3
 by_cases c4 : (fF s0 q).f0 = 3
 ·replace H := hI c4 H
  have c4b : ((fF s0 q).f0 == 3) = true := beq_iff_eq.mpr c4
  clear c3 c4
  by_cases c5 : q < 9223372036854775807
  rotate_left
  ·exact absurd (hE c5 H).out (by simp)
  replace H := hI c5 H
  have e0 : wrap64 (q + 1) = q + 1 := by have := of_eq_true p3; unfold wrap64; omega
  clear c5
  go_wp2_with ((with_reducible refine bH (N := 98) rfl ?_); refine xe (N := 98) (stT HS) (by first | (go_simp; done) | (go_simp; rfl)) ?_; clear HS; intro A c w' HS)
  have h_ := H.out; simp only [Option.some.injEq, Prod.mk.injEq] at h_; obtain ⟨rfl, rfl, rfl⟩ := h_
  go_ret
  exact (stT HS).jD (.head _)
 replace H := hE c4 H
 have c4b : ((fF s0 q).f0 == 3) = false := beq_eq_false_iff_ne.mpr c4
 clear c3 c4
 go_wp2_with (first | ((with_reducible refine gC 35 rfl ?_); refine sN 35 rfl Tryz.func35 (stT HS) H (fun t1 t2 t3 t4 q b hI hB => vk g _ _ _ _ t1 t2 t3 t4 q b w0 _ hI hB) ?_; clear HS H; intro t1 t2 t3 t4 q b w' HS H; (try dsimp only at H)) | ((with_reducible refine gC 36 rfl ?_); refine sB 36 rfl Tryz.func36 (stT HS) H (fun t q b hI hB => takeC g _ _ _ _ t q b w0 _ hI hB) ?_; clear HS H; intro t q b w' HS H; cases t <;> (try simp only [if_true, if_false, eq_self, Bool.false_eq_true, Bool.not_true, Bool.not_false] at H)) | ((with_reducible refine gC 111 rfl ?_); refine sK 111 rfl Tryz.func111 (stT HS) H (fun t q b hI hB => JA F HF _ g _ _ _ t q b w0 _ hI hB) ?_; clear HS H; intro t q b w' A c HS H; (try dsimp only at H)) | ((with_reducible refine gC 37 rfl ?_); refine sJ 37 rfl Tryz.func37 (stT HS) H (fun t hr hc => qH _ _ _ _ _ _ _ _ _ t _ hr hc) ?_; clear HS H; intro t w' A c HS H; (try dsimp only at H)) | ((with_reducible refine bH (N := 107) rfl ?_); refine xe (N := 107) (stT HS) (by first | (go_simp; done) | (go_simp; rfl)) ?_; clear HS; intro A c w' HS))
 all_goals
  have h_ := H.out; simp only [Option.some.injEq, Prod.mk.injEq] at h_; obtain ⟨rfl, rfl, rfl⟩ := h_
  go_ret
  exact (stT HS).jD (.head _)
end Go.Proofs.YtkbhkonenkgfoaaGreat.Q
end
section
namespace Go.Proofs.YtkbhkonenkgfoaaGreat.Q
open Go.RowKit Go.Proofs.YtkbhkonenkgfoaaGreatW.PrintWords Go.Proofs.YtkbhkonenkgfoaaGreatW.PrintLast Go.Proofs.YtkbhkonenkgfoaaGreatW.PrintMore
attribute [local go_sem] iW iV iU iR dJ dH dW dV dh df dI dG
set_option linter.unusedVariables false
set_option linter.unusedSimpArgs false
/-! ### iD: function 112 -/
def iD.f (a0 : Int) : Option (List ByteArray) := if a0 = 0 then (some (([(⟨#[111, 114]⟩ : ByteArray)] : List ByteArray))) else (if a0 = 1 then (some (([(⟨#[97, 110, 100]⟩ : ByteArray)] : List ByteArray))) else (if a0 = 2 then (some (([(⟨#[61, 61]⟩ : ByteArray), (⟨#[33, 61]⟩ : ByteArray), (⟨#[60]⟩ : ByteArray), (⟨#[60, 61]⟩ : ByteArray)] : List ByteArray))) else (if a0 = 3 then (some (([(⟨#[43]⟩ : ByteArray), (⟨#[45]⟩ : ByteArray), (⟨#[46, 46]⟩ : ByteArray)] : List ByteArray))) else (some (([(⟨#[42]⟩ : ByteArray), (⟨#[47]⟩ : ByteArray), (⟨#[37]⟩ : ByteArray)] : List ByteArray))))))
set_option maxHeartbeats 8000000 in
set_option maxRecDepth 100000 in
theorem iD.calls (a0 : Int) (r : List ByteArray) (w : World) (h : iD.f a0 = some r) :
 Calls Tryz.prog 112 #[.int .i64 a0] w fun e w' => ∃ v0_ : Value, e = .returned (v0_) ∧ Kd.R Kd.string 9 w' w.heap.size (fun _ => True) v0_ r ∧ Below w.heap.size w w' := by
 have HB := ae.mk (Below.refl w.heap.size w)
 have H := h
 clear h
 unfold iD.f at H
 revert H
 refine cZ (fun c2b0 c2b1 H => ?_) fun c2 c2b0 c2b1 H => ?_
 ·obtain ⟨y1357, hy1357⟩ : ∃ y_ : List ByteArray, y_ = (([(⟨#[111, 114]⟩ : ByteArray)] : List ByteArray)) := ⟨_, rfl⟩
  replace H : (some y1357) = some r := by first | (rw [hy1357]; with_reducible exact H) | (have H2_ := (Option.bind_some _ _).symm.trans H; rw [hy1357]; with_reducible exact H2_) | (have H2_ := (Option.bind_some _ _).symm.trans H; with_reducible exact H2_) | with_reducible exact H | (rw [hy1357]; exact H) | exact H
  have Ny1357 := ae.mk hy1357
  clear hy1357
  obtain rfl := Option.some.inj H
  go_enter Tryz.func112, Tryz.ntmps112
  go_wp2_with (first | ((with_reducible refine bH (N := 6) rfl ?_); refine Kd.oH Kd.string _ 9 ?hg (N := 6) ?hd (xs := ([(⟨#[111, 114]⟩ : ByteArray)] : List ByteArray)) (inner := [.string (⟨#[111, 114]⟩ : ByteArray)]) (ok := fun _ => True) (okp := fun _ => True) ?hr ?hp (fun _ hk => hk) trivial (Below.refl _ _) (Nat.le_refl _) (by simp) ?_; (case hd => rfl); (case hg => rfl); (case hr => first | (go_simp; done) | (go_simp; rfl)); (case hp => exact (dQ.one (show Kd.M Kd.string _ _ _ (⟨#[111, 114]⟩ : ByteArray) [.string (⟨#[111, 114]⟩ : ByteArray)] from rfl) (dQ.none _ _))); intro v1358 w3 ho4 hb hg_ hnew_; clear hg_ hnew_; (first | rw [← Ny1357.out] at ho4 | (simp only [Int.reduceToNat] at ho4; rw [← Ny1357.out] at ho4)); refine yA2 (Kd.ig ho4 (bY Z1)) (aY Z1 hb) ?_; clear HB; intro HO1359 HB; clear hb ho4))
  go_ret
  exact ⟨_, Z7, by (with_reducible repeat (first | apply Kd.iw | apply Kd.ik | apply Kd.jb)); exact HO1359.out, Z1⟩
 revert H
 refine cZ (fun c5b0 c5b1 H => ?_) fun c5 c5b0 c5b1 H => ?_
 ·obtain ⟨y1360, hy1360⟩ : ∃ y_ : List ByteArray, y_ = (([(⟨#[97, 110, 100]⟩ : ByteArray)] : List ByteArray)) := ⟨_, rfl⟩
  replace H : (some y1360) = some r := by first | (rw [hy1360]; with_reducible exact H) | (have H2_ := (Option.bind_some _ _).symm.trans H; rw [hy1360]; with_reducible exact H2_) | (have H2_ := (Option.bind_some _ _).symm.trans H; with_reducible exact H2_) | with_reducible exact H | (rw [hy1360]; exact H) | exact H
  have Ny1360 := ae.mk hy1360
  clear hy1360
  obtain rfl := Option.some.inj H
  go_enter Tryz.func112, Tryz.ntmps112
  go_wp2_with (first | ((with_reducible refine bH (N := 9) rfl ?_); refine Kd.oH Kd.string _ 9 ?hg (N := 9) ?hd (xs := ([(⟨#[97, 110, 100]⟩ : ByteArray)] : List ByteArray)) (inner := [.string (⟨#[97, 110, 100]⟩ : ByteArray)]) (ok := fun _ => True) (okp := fun _ => True) ?hr ?hp (fun _ hk => hk) trivial (Below.refl _ _) (Nat.le_refl _) (by simp) ?_; (case hd => rfl); (case hg => rfl); (case hr => first | (go_simp; done) | (go_simp; rfl)); (case hp => exact (dQ.one (show Kd.M Kd.string _ _ _ (⟨#[97, 110, 100]⟩ : ByteArray) [.string (⟨#[97, 110, 100]⟩ : ByteArray)] from rfl) (dQ.none _ _))); intro v1361 w6 ho7 hb hg_ hnew_; clear hg_ hnew_; (first | rw [← Ny1360.out] at ho7 | (simp only [Int.reduceToNat] at ho7; rw [← Ny1360.out] at ho7)); refine yA2 (Kd.ig ho7 (bY Z1)) (aY Z1 hb) ?_; clear HB; intro HO1362 HB; clear hb ho7))
  go_ret
  exact ⟨_, Z7, by (with_reducible repeat (first | apply Kd.iw | apply Kd.ik | apply Kd.jb)); exact HO1362.out, Z1⟩
 revert H
 refine cZ (fun c8b0 c8b1 H => ?_) fun c8 c8b0 c8b1 H => ?_
 ·obtain ⟨y1363, hy1363⟩ : ∃ y_ : List ByteArray, y_ = (([(⟨#[61, 61]⟩ : ByteArray), (⟨#[33, 61]⟩ : ByteArray), (⟨#[60]⟩ : ByteArray), (⟨#[60, 61]⟩ : ByteArray)] : List ByteArray)) := ⟨_, rfl⟩
  replace H : (some y1363) = some r := by first | (rw [hy1363]; with_reducible exact H) | (have H2_ := (Option.bind_some _ _).symm.trans H; rw [hy1363]; with_reducible exact H2_) | (have H2_ := (Option.bind_some _ _).symm.trans H; with_reducible exact H2_) | with_reducible exact H | (rw [hy1363]; exact H) | exact H
  have Ny1363 := ae.mk hy1363
  clear hy1363
  obtain rfl := Option.some.inj H
  go_enter Tryz.func112, Tryz.ntmps112
  go_wp2_with (first | ((with_reducible refine bH (N := 12) rfl ?_); refine Kd.oH Kd.string _ 9 ?hg (N := 12) ?hd (xs := ([(⟨#[61, 61]⟩ : ByteArray), (⟨#[33, 61]⟩ : ByteArray), (⟨#[60]⟩ : ByteArray), (⟨#[60, 61]⟩ : ByteArray)] : List ByteArray)) (inner := [.string (⟨#[61, 61]⟩ : ByteArray), .string (⟨#[33, 61]⟩ : ByteArray), .string (⟨#[60]⟩ : ByteArray), .string (⟨#[60, 61]⟩ : ByteArray)]) (ok := fun _ => True) (okp := fun _ => True) ?hr ?hp (fun _ hk => hk) trivial (Below.refl _ _) (Nat.le_refl _) (by simp) ?_; (case hd => rfl); (case hg => rfl); (case hr => first | (go_simp; done) | (go_simp; rfl)); (case hp => exact (dQ.one (show Kd.M Kd.string _ _ _ (⟨#[61, 61]⟩ : ByteArray) [.string (⟨#[61, 61]⟩ : ByteArray)] from rfl) (dQ.one (show Kd.M Kd.string _ _ _ (⟨#[33, 61]⟩ : ByteArray) [.string (⟨#[33, 61]⟩ : ByteArray)] from rfl) (dQ.one (show Kd.M Kd.string _ _ _ (⟨#[60]⟩ : ByteArray) [.string (⟨#[60]⟩ : ByteArray)] from rfl) (dQ.one (show Kd.M Kd.string _ _ _ (⟨#[60, 61]⟩ : ByteArray) [.string (⟨#[60, 61]⟩ : ByteArray)] from rfl) (dQ.none _ _)))))); intro v1364 w9 ho10 hb hg_ hnew_; clear hg_ hnew_; (first | rw [← Ny1363.out] at ho10 | (simp only [Int.reduceToNat] at ho10; rw [← Ny1363.out] at ho10)); refine yA2 (Kd.ig ho10 (bY Z1)) (aY Z1 hb) ?_; clear HB; intro HO1365 HB; clear hb ho10))
  go_ret
  exact ⟨_, Z7, by (with_reducible repeat (first | apply Kd.iw | apply Kd.ik | apply Kd.jb)); exact HO1365.out, Z1⟩
 revert H
 refine cZ (fun c11b0 c11b1 H => ?_) fun c11 c11b0 c11b1 H => ?_
 ·obtain ⟨y1366, hy1366⟩ : ∃ y_ : List ByteArray, y_ = (([(⟨#[43]⟩ : ByteArray), (⟨#[45]⟩ : ByteArray), (⟨#[46, 46]⟩ : ByteArray)] : List ByteArray)) := ⟨_, rfl⟩
  replace H : (some y1366) = some r := by first | (rw [hy1366]; with_reducible exact H) | (have H2_ := (Option.bind_some _ _).symm.trans H; rw [hy1366]; with_reducible exact H2_) | (have H2_ := (Option.bind_some _ _).symm.trans H; with_reducible exact H2_) | with_reducible exact H | (rw [hy1366]; exact H) | exact H
  have Ny1366 := ae.mk hy1366
  clear hy1366
  obtain rfl := Option.some.inj H
  go_enter Tryz.func112, Tryz.ntmps112
  go_wp2_with (first | ((with_reducible refine bH (N := 15) rfl ?_); refine Kd.oH Kd.string _ 9 ?hg (N := 15) ?hd (xs := ([(⟨#[43]⟩ : ByteArray), (⟨#[45]⟩ : ByteArray), (⟨#[46, 46]⟩ : ByteArray)] : List ByteArray)) (inner := [.string (⟨#[43]⟩ : ByteArray), .string (⟨#[45]⟩ : ByteArray), .string (⟨#[46, 46]⟩ : ByteArray)]) (ok := fun _ => True) (okp := fun _ => True) ?hr ?hp (fun _ hk => hk) trivial (Below.refl _ _) (Nat.le_refl _) (by simp) ?_; (case hd => rfl); (case hg => rfl); (case hr => first | (go_simp; done) | (go_simp; rfl)); (case hp => exact (dQ.one (show Kd.M Kd.string _ _ _ (⟨#[43]⟩ : ByteArray) [.string (⟨#[43]⟩ : ByteArray)] from rfl) (dQ.one (show Kd.M Kd.string _ _ _ (⟨#[45]⟩ : ByteArray) [.string (⟨#[45]⟩ : ByteArray)] from rfl) (dQ.one (show Kd.M Kd.string _ _ _ (⟨#[46, 46]⟩ : ByteArray) [.string (⟨#[46, 46]⟩ : ByteArray)] from rfl) (dQ.none _ _))))); intro v1367 w12 ho13 hb hg_ hnew_; clear hg_ hnew_; (first | rw [← Ny1366.out] at ho13 | (simp only [Int.reduceToNat] at ho13; rw [← Ny1366.out] at ho13)); refine yA2 (Kd.ig ho13 (bY Z1)) (aY Z1 hb) ?_; clear HB; intro HO1368 HB; clear hb ho13))
  go_ret
  exact ⟨_, Z7, by (with_reducible repeat (first | apply Kd.iw | apply Kd.ik | apply Kd.jb)); exact HO1368.out, Z1⟩
 obtain ⟨y1369, hy1369⟩ : ∃ y_ : List ByteArray, y_ = (([(⟨#[42]⟩ : ByteArray), (⟨#[47]⟩ : ByteArray), (⟨#[37]⟩ : ByteArray)] : List ByteArray)) := ⟨_, rfl⟩
 replace H : (some y1369) = some r := by first | (rw [hy1369]; with_reducible exact H) | (have H2_ := (Option.bind_some _ _).symm.trans H; rw [hy1369]; with_reducible exact H2_) | (have H2_ := (Option.bind_some _ _).symm.trans H; with_reducible exact H2_) | with_reducible exact H | (rw [hy1369]; exact H) | exact H
 have Ny1369 := ae.mk hy1369
 clear hy1369
 obtain rfl := Option.some.inj H
 go_enter Tryz.func112, Tryz.ntmps112
 go_wp2_with (first | ((with_reducible refine bH (N := 16) rfl ?_); refine Kd.oH Kd.string _ 9 ?hg (N := 16) ?hd (xs := ([(⟨#[42]⟩ : ByteArray), (⟨#[47]⟩ : ByteArray), (⟨#[37]⟩ : ByteArray)] : List ByteArray)) (inner := [.string (⟨#[42]⟩ : ByteArray), .string (⟨#[47]⟩ : ByteArray), .string (⟨#[37]⟩ : ByteArray)]) (ok := fun _ => True) (okp := fun _ => True) ?hr ?hp (fun _ hk => hk) trivial (Below.refl _ _) (Nat.le_refl _) (by simp) ?_; (case hd => rfl); (case hg => rfl); (case hr => first | (go_simp; done) | (go_simp; rfl)); (case hp => exact (dQ.one (show Kd.M Kd.string _ _ _ (⟨#[42]⟩ : ByteArray) [.string (⟨#[42]⟩ : ByteArray)] from rfl) (dQ.one (show Kd.M Kd.string _ _ _ (⟨#[47]⟩ : ByteArray) [.string (⟨#[47]⟩ : ByteArray)] from rfl) (dQ.one (show Kd.M Kd.string _ _ _ (⟨#[37]⟩ : ByteArray) [.string (⟨#[37]⟩ : ByteArray)] from rfl) (dQ.none _ _))))); intro v1370 w14 ho15 hb hg_ hnew_; clear hg_ hnew_; (first | rw [← Ny1369.out] at ho15 | (simp only [Int.reduceToNat] at ho15; rw [← Ny1369.out] at ho15)); refine yA2 (Kd.ig ho15 (bY Z1)) (aY Z1 hb) ?_; clear HB; intro HO1371 HB; clear hb ho15))
 go_ret
 exact ⟨_, Z7, by (with_reducible repeat (first | apply Kd.iw | apply Kd.ik | apply Kd.jb)); exact HO1371.out, Z1⟩
/-! ### bU: function 108 -/
def bU.l0 : Nat → List ByteArray → Int → List (S37) → Int → Bool → Option (ByteArray × Int × Bool)
 | 0, _, _, _, _, _ => none
 | k + 1, x5, x6, x1000, x1001, x1002 => if x6 < (x5.length : Int) then (if 0 ≤ x6 then ((bG.f x1000 x1001 x1002 (lZ ByteArray.empty x5 x6)).bind fun bt1376 => (if bt1376.1 = true then (some (lZ ByteArray.empty x5 x6, bt1376.2.1, bt1376.2.2)) else (bU.l0 k x5 (wrap64 (x6 + 1)) x1000 bt1376.2.1 bt1376.2.2))) else (none)) else (some ((⟨#[]⟩ : ByteArray), x1001, x1002))
def bU.f (k : Nat) (s0_0 : List (S37)) (s0_1 : Int) (s0_2 : Bool) (a1 : Int) : Option (ByteArray × Int × Bool) := (iD.f a1).bind fun t1372 => (bU.l0 k t1372 0 s0_0 s0_1 s0_2)
theorem bU.bP : ∀ k, (∀ y0 y1 y2 y3 y4, LeO (bU.l0 k y0 y1 y2 y3 y4) (bU.l0 (k + 1) y0 y1 y2 y3 y4))
 | 0 => fun _ _ _ _ _ r h => by simp [bU.l0] at h
 | k + 1 => by
  have ih0 := bU.bP k
  intro y0 y1 y2 y3 y4
  unfold bU.l0
  exact yL
theorem bU.mono : ∀ a0 a1 a2 a3 k, LeO (bU.f k a0 a1 a2 a3) (bU.f (k + 1) a0 a1 a2 a3) := by
 intro a0 a1 a2 a3 k
 have ih0 := bU.bP k
 unfold bU.f
 exact yL
-- BY HAND: function 125 (runtime_PanicNilError_RuntimeError)
end Go.Proofs.YtkbhkonenkgfoaaGreat.Q
end
section
set_option linter.unusedVariables false
set_option linter.unusedSimpArgs false
namespace Go.Proofs.YtkbhkonenkgfoaaGreat.Q
open Go Go.RowKit Go.Proofs.YtkbhkonenkgfoaaGreatW.PrintWords Go.Proofs.YtkbhkonenkgfoaaGreatW.PrintLast Go.Proofs.YtkbhkonenkgfoaaGreatW.PrintMore
attribute [local go_sem] lK lJ lI lH
set_option maxHeartbeats 8000000 in
set_option maxRecDepth 100000 in
theorem opC (k : Nat) (g : Nat) (s0 : List S37) (s1 : Int) (s2 : Bool) (n : Int) (r : ByteArray) (e1 : Int) (e2 : Bool) (w0 w : World) (hI : Rd 47 w0 w g s0 s1 s2) (hB : Below w0.heap.size w0 w) (h : bU.f k s0 s1 s2 n = some (r, e1, e2)) :
 Calls Tryz.prog 108 #[.pointer (some ⟨g, 0, none⟩), .int .i64 n] w (Back 47 w0 w g s0 e1 e2 fun e _ => e = .returned (.string r)) := by
 unfold bU.f at h
 have HS := St.new (T := 47) (by decide) hI hB
 have H := ae.mk h
 clear h hI hB
 go_enter Tryz.func108, Tryz.ntmps108
 go_wp2_with (first | ((with_reducible refine gC 112 rfl ?_); refine sG 112 rfl Tryz.func112 (stT HS) H (fun t => iD.calls _ t _) ?_; clear HS H; intro t w' A c HS H; (try dsimp only at H)))
 (try simp only [Act.put, List.setIfInBounds_toArray, List.set_cons_zero, List.set_cons_succ])
 go_loopg [6] k (fun kq v6 w' => ∃ (x6 p : Int) (d : Bool), v6 = .int .i64 x6 ∧ ae (bU.l0 kq t x6 s0 p d = some (r, e1, e2)) ∧ ae (kq ≤ k) ∧ St 47 w0 w w' g s0 p d [] [] ⟨[], [(.slice A t.length c, t)]⟩)
 case atStart => exact ⟨0, _, _, rfl, H, ⟨Nat.le_refl _⟩, stT HS⟩
 case round =>
  clear HS H
  obtain ⟨x6, p, d, rfl, H, HK1, HS⟩ := hrel
  cases gk with
  | zero => exact absurd H.out (by simp [bU.l0])
  | succ k1 =>
   simp only [bU.l0] at H
   by_cases c1 : x6 < (t.length : Int)
   rotate_left
   ·replace H := hE c1 H
    have c1b : decide (x6 < (t.length : Int)) = false := decide_eq_false c1
    clear c1
    go_wp2
    have h_ := H.out; simp only [Option.some.injEq, Prod.mk.injEq] at h_; obtain ⟨rfl, rfl, rfl⟩ := h_
    go_ret
    exact (stT HS).back rfl
   replace H := hI c1 H
   by_cases c2 : 0 ≤ x6
   rotate_left
   ·exact absurd (hE c2 H).out (by simp)
   replace H := hI c2 H
   obtain ⟨ad, rfl, hx⟩ := HS.str x6 c2 c1
   have c1b : decide (x6 < (t.length : Int)) = true := decide_eq_true c1
   have p3 := eq_true c2
   have q3 := eq_true c1
   clear c1 c2
   go_wp2_with ((with_reducible refine gC 36 rfl ?_); refine sB 36 rfl Tryz.func36 (stT HS) H (fun t q b hI hB => takeC g _ _ _ _ t q b w0 _ hI hB) ?_; clear HS H; intro t1 q b w' HS H; have hx := HS.EZ (of_eq_true p3) (of_eq_true q3); cases t1 <;> (try simp only [if_true, if_false, eq_self, Bool.false_eq_true, Bool.not_true, Bool.not_false] at H))
   all_goals first
    | (go_roundg k1; (case measure => have := HK1.out; omega); (case rel => exact ⟨_, _, _, rfl, H, ⟨by have := HK1.out; omega⟩, stT HS⟩))
    | (have h_ := H.out; simp only [Option.some.injEq, Prod.mk.injEq] at h_; obtain ⟨rfl, rfl, rfl⟩ := h_; go_ret; exact (stT HS).back rfl)
end Go.Proofs.YtkbhkonenkgfoaaGreat.Q
end
section
namespace Go.Proofs.YtkbhkonenkgfoaaGreat.Q
open Go.RowKit Go.Proofs.YtkbhkonenkgfoaaGreatW.PrintWords Go.Proofs.YtkbhkonenkgfoaaGreatW.PrintLast Go.Proofs.YtkbhkonenkgfoaaGreatW.PrintMore
attribute [local go_sem] iW iV iU iR dJ dH dW dV dh df dI dG
set_option linter.unusedVariables false
set_option linter.unusedSimpArgs false
/-! ### az: function 107 -/
mutual
def az.l0 (F : iI) : Nat → List ByteArray → Int → List (S37) → Int → Bool → Option ((List (S29)) × Int × Bool)
 | 0, _, _, _, _, _ => none
 | k + 1, x3, x4, x1000, x1001, x1002 => if x4 < (x3.length : Int) then (if 0 ≤ x4 then ((bG.f x1000 x1001 x1002 (lZ ByteArray.empty x3 x4)).bind fun bt1290 => (if bt1290.1 = true then ((qx.f F k x1000 bt1290.2.1 bt1290.2.2).bind fun bt1294 => ((aC.f k 28 0 (⟨#[]⟩ : ByteArray) 0 (lZ ByteArray.empty x3 x4) (([bt1294.1] : List (List (S29))))).bind fun t1302 => (some (t1302, bt1294.2.1, bt1294.2.2)))) else (az.l0 F k x3 (wrap64 (x4 + 1)) x1000 bt1290.2.1 bt1290.2.2))) else (none)) else ((bG.f x1000 x1001 x1002 (⟨#[115, 112, 97, 119, 110]⟩ : ByteArray)).bind fun bt1305 => (if bt1305.1 = true then ((qx.f F k x1000 bt1305.2.1 bt1305.2.2).bind fun bt1308 => ((aC.f k 30 0 (⟨#[]⟩ : ByteArray) 0 (⟨#[]⟩ : ByteArray) (([bt1308.1] : List (List (S29))))).bind fun t1316 => (some (t1316, bt1308.2.1, bt1308.2.2)))) else ((mP.f F k x1000 bt1305.2.1 bt1305.2.2).bind fun bt1319 => (az.l1 F k bt1319.1 x1000 bt1319.2.1 bt1319.2.2))))
def az.l1 (F : iI) : Nat → List (S29) → List (S37) → Int → Bool → Option ((List (S29)) × Int × Bool)
 | 0, _, _, _, _ => none
 | k + 1, x5, x1000, x1001, x1002 => if x1002 = true then (some (x5, x1001, x1002)) else ((fC.f x1000 x1001 x1002 (⟨#[40]⟩ : ByteArray)).bind fun bt1324 => (if bt1324.1 = true then ((some (([x5] : List (List (S29))) : List (List (S29)))).bind fun y1327 => ((aJ.f F k x1000 bt1324.2.1 bt1324.2.2).bind fun bt1330 => (if y1327.length + bt1330.1.length < 5864062014805 then ((aC.f k 22 0 (⟨#[]⟩ : ByteArray) 0 (⟨#[]⟩ : ByteArray) (y1327 ++ bt1330.1)).bind fun t1338 => (az.l1 F k t1338 x1000 bt1330.2.1 bt1330.2.2)) else (none)))) else ((bG.f x1000 bt1324.2.1 bt1324.2.2 (⟨#[91]⟩ : ByteArray)).bind fun bt1341 => (if bt1341.1 = true then ((lG.f F k x1000 bt1341.2.1 bt1341.2.2).bind fun bt1344 => ((aC.f k 26 0 (⟨#[]⟩ : ByteArray) 0 (⟨#[]⟩ : ByteArray) (([x5, bt1344.1] : List (List (S29))))).bind fun t1352 => ((bi.f x1000 bt1344.2.1 bt1344.2.2 (⟨#[93]⟩ : ByteArray)).bind fun bt1355 => (az.l1 F k t1352 x1000 bt1355.1 bt1355.2)))) else (some (x5, bt1341.2.1, bt1341.2.2))))))
end
def az.f (F : iI) (k : Nat) (s0_0 : List (S37)) (s0_1 : Int) (s0_2 : Bool) : Option ((List (S29)) × Int × Bool) := az.l0 F k (([(⟨#[45]⟩ : ByteArray), (⟨#[110, 111, 116]⟩ : ByteArray), (⟨#[108, 101, 110]⟩ : ByteArray)] : List ByteArray)) 0 s0_0 s0_1 s0_2
theorem az.bP {F F' : iI} (HLE : kw F F') : ∀ k, (∀ y0 y1 y2 y3 y4, LeO (az.l0 F k y0 y1 y2 y3 y4) (az.l0 F' (k + 1) y0 y1 y2 y3 y4)) ∧ (∀ y0 y1 y2 y3, LeO (az.l1 F k y0 y1 y2 y3) (az.l1 F' (k + 1) y0 y1 y2 y3))
 | 0 => ⟨fun _ _ _ _ _ r h => by simp [az.l0] at h, fun _ _ _ _ r h => by simp [az.l1] at h⟩
 | k + 1 => by
  obtain ⟨ih0, ih1⟩ := az.bP HLE k
  refine ⟨?_, ?_⟩
  ·intro y0 y1 y2 y3 y4
   unfold az.l0
   have m0 := aC.mono
   have m1 := (aJ.mono HLE)
   have m2 := (lG.mono HLE)
   have m3 := (qx.mono HLE)
   have m4 := (mP.mono HLE)
   exact yL
  intro y0 y1 y2 y3
  unfold az.l1
  have m0 := aC.mono
  have m1 := (aJ.mono HLE)
  have m2 := (lG.mono HLE)
  have m3 := (qx.mono HLE)
  have m4 := (mP.mono HLE)
  exact yL
theorem az.mono {F F' : iI} (HLE : kw F F') : ∀ a0 a1 a2 k, LeO (az.f F k a0 a1 a2) (az.f F' (k + 1) a0 a1 a2) := by
 intro a0 a1 a2 k
 obtain ⟨ih0, ih1⟩ := az.bP HLE k
 unfold az.f
 have m0 := aC.mono
 have m1 := (aJ.mono HLE)
 have m2 := (lG.mono HLE)
 have m3 := (qx.mono HLE)
 have m4 := (mP.mono HLE)
 exact yL
end Go.Proofs.YtkbhkonenkgfoaaGreat.Q
end
section
set_option linter.unusedVariables false
set_option linter.unusedSimpArgs false
namespace Go.Proofs.YtkbhkonenkgfoaaGreat.Q
open Go Go.RowKit Go.Proofs.YtkbhkonenkgfoaaGreatW.PrintWords Go.Proofs.YtkbhkonenkgfoaaGreatW.PrintLast Go.Proofs.YtkbhkonenkgfoaaGreatW.PrintMore
attribute [local go_sem] lK lJ lI lH
set_option maxHeartbeats 8000000 in
set_option maxRecDepth 100000 in
theorem EQ (F : iI) (HF : oI F) (k : Nat) (g : Nat) (s0 : List S37) (s1 : Int) (s2 : Bool) (r : List S29) (e1 : Int) (e2 : Bool) (w0 w : World) (hI : Rd 47 w0 w g s0 s1 s2) (hB : Below w0.heap.size w0 w) (h : az.f F k s0 s1 s2 = some (r, e1, e2)) :
 Calls Tryz.prog 107 #[.pointer (some ⟨g, 0, none⟩)] w (Back 47 w0 w g s0 e1 e2 (IsL w r)) := by
 unfold az.f at h
 have HS := St.new (T := 47) (by decide) hI hB
 have H := ae.mk h
 clear h hI hB
 go_enter Tryz.func107, Tryz.ntmps107
 go_wp2_with ((with_reducible refine bH (N := 7) rfl ?_); refine MP (N := 7) (stT HS) (by first | (go_simp; done) | (go_simp; rfl)) ?_; clear HS; intro A c w' HS)
 (try simp only [Act.put, List.setIfInBounds_toArray, List.set_cons_zero, List.set_cons_succ])
 replace HS : St 47 w0 w w' g s0 s1 s2 [] [] ⟨[], [(.slice A 3 c, ([(⟨#[45]⟩ : ByteArray), (⟨#[110, 111, 116]⟩ : ByteArray), (⟨#[108, 101, 110]⟩ : ByteArray)] : List ByteArray))]⟩ := HS
 generalize ([(⟨#[45]⟩ : ByteArray), (⟨#[110, 111, 116]⟩ : ByteArray), (⟨#[108, 101, 110]⟩ : ByteArray)] : List ByteArray) = t at HS H
 go_loopg [4] k (fun kq v4 w' => ∃ (x6 p : Int) (d : Bool), v4 = .int .i64 x6 ∧ ae (az.l0 F kq t x6 s0 p d = some (r, e1, e2)) ∧ ae (kq ≤ k) ∧ St 47 w0 w w' g s0 p d [] [] ⟨[], [(.slice A 3 c, t)]⟩)
 case atStart => exact ⟨0, _, _, rfl, H, ⟨Nat.le_refl _⟩, stT HS⟩
 case round =>
  clear HS H
  obtain ⟨x6, p, d, rfl, H, HK1, HS⟩ := hrel
  have hn : 3 = t.length := (Kd.dL (HS.ss _ (.head _))).1
  cases gk with
  | zero => exact absurd H.out (by simp [az.l0])
  | succ k1 =>
   simp only [az.l0] at H
   by_cases c1 : x6 < (t.length : Int)
   ·replace H := hI c1 H
    by_cases c2 : 0 ≤ x6
    rotate_left
    ·exact absurd (hE c2 H).out (by simp)
    replace H := hI c2 H
    obtain ⟨ad, rfl, hx⟩ := HS.str x6 c2 c1
    have c1b : decide (x6 < ((3 : Nat) : Int)) = true := decide_eq_true (by omega)
    have c1c : decide (x6 < 3) = true := decide_eq_true (by omega)
    have p3 := eq_true c2
    have q3 := eq_true c1
    have q4 := eq_true (show x6 < 3 by omega)
    clear c1 c2 hn
    go_wp2_with (first | ((with_reducible refine gC 36 rfl ?_); refine sB 36 rfl Tryz.func36 (stT HS) H (fun t q b hI hB => takeC g _ _ _ _ t q b w0 _ hI hB) ?_; clear HS H; intro t1 q b w' HS H; have hx := HS.EZ (of_eq_true p3) (of_eq_true q3); cases t1 <;> (try simp only [if_true, if_false, eq_self, Bool.false_eq_true, Bool.not_true, Bool.not_false] at H)))
    all_goals first
     | (go_roundg k1; (case measure => have := HK1.out; omega); (case rel => exact ⟨_, _, _, rfl, H, ⟨by have := HK1.out; omega⟩, stT HS⟩))
     | skip
    (try simp only [Act.put, List.setIfInBounds_toArray, List.set_cons_zero, List.set_cons_succ])
    go_region_held3 (fun w' => w'.cell? (ad.add x6.toNat) = some (.string (lZ ByteArray.empty t x6))) (first | exact hx | exact HS.EZ (of_eq_true p3) (of_eq_true q3) | go_keep) (first | (go_at_call 107; refine cL (stT HS) H (fun t q b hI hB => HF.unary g _ _ _ t q b w0 _ hI hB) ?_; clear HS H; intro t q b w' A c HS H; (try dsimp only at H); have hx := HS.EZ (of_eq_true p3) (of_eq_true q3)) | (go_at_call 37; refine cJ (stT HS).J6 H (fun t hr hc => qH _ _ _ _ _ _ _ _ _ t _ hr hc) ?_; clear HS H; intro t w' A c HS hb H; clear hb; (try dsimp only at H); have hx := HS.EZ (of_eq_true p3) (of_eq_true q3)))
    go_wp2
    have h_ := H.out; simp only [Option.some.injEq, Prod.mk.injEq] at h_; obtain ⟨rfl, rfl, rfl⟩ := h_
    go_ret
    exact (stT HS).jD (.head _)
   replace H := hE c1 H
   have c1b : decide (x6 < ((3 : Nat) : Int)) = false := decide_eq_false (by omega)
   have c1c : decide (x6 < 3) = false := decide_eq_false (by omega)
   clear c1 hn
   go_wp2_with (first | ((with_reducible refine gC 36 rfl ?_); refine sB 36 rfl Tryz.func36 (stT HS) H (fun t q b hI hB => takeC g _ _ _ _ t q b w0 _ hI hB) ?_; clear HS H; intro t q b w' HS H; cases t <;> (try simp only [if_true, if_false, eq_self, Bool.false_eq_true, Bool.not_true, Bool.not_false] at H)) | ((with_reducible refine gC 107 rfl ?_); refine sL 107 rfl Tryz.func107 (stT HS) H (fun t q b hI hB => HF.unary g _ _ _ t q b w0 _ hI hB) ?_; clear HS H; intro t q b w' A c HS H; (try dsimp only at H)) | ((with_reducible refine bH (N := 34) rfl ?_); refine kZ (N := 34) (stT HS) (by first | (go_simp; done) | (go_simp; rfl)) ?_; clear HS; intro A c w' HS) | ((with_reducible refine gC 37 rfl ?_); refine sJ 37 rfl Tryz.func37 (stT HS) H (fun t hr hc => qH _ _ _ _ _ _ _ _ _ t _ hr hc) ?_; clear HS H; intro t w' A c HS H; (try dsimp only at H)) | ((with_reducible refine gC 110 rfl ?_); refine sL 110 rfl Tryz.func110 (stT HS) H (fun t q b hI hB => Lu F HF _ g _ _ _ t q b w0 _ hI hB) ?_; clear HS H; intro t q b w' A c HS H; (try dsimp only at H)))
   all_goals first
    | (have h_ := H.out; simp only [Option.some.injEq, Prod.mk.injEq] at h_; obtain ⟨rfl, rfl, rfl⟩ := h_; go_ret; exact (stT HS).jD (.head _))
    | skip
   (try simp only [Act.put, List.setIfInBounds_toArray, List.set_cons_zero, List.set_cons_succ])
   go_loopg [5] k1 (fun kq v5 w' => ∃ (x5 : List S29) (p : Int) (d : Bool) (A : Option Addr) (c : Nat), v5 = .slice A x5.length c ∧ ae (az.l1 F kq x5 s0 p d = some (r, e1, e2)) ∧ ae (kq ≤ k1) ∧ St 47 w0 w w' g s0 p d [(.slice A x5.length c, x5)] [] ⟨[], []⟩)
   case atStart => exact ⟨_, _, _, _, _, rfl, H, ⟨Nat.le_refl _⟩, (stT HS).Bd⟩
   case round =>
    clear HS H
    obtain ⟨x5, p, d, A, c, rfl, H, HK2, HS⟩ := hrel
    cases gk with
    | zero => exact absurd H.out (by simp [az.l1])
    | succ k2 =>
     simp only [az.l1] at H
     have hc2 := HS.rd.cell2
     cases d <;> (try simp only [if_true, if_false, eq_self, Bool.false_eq_true, Bool.not_true, Bool.not_false] at H)
     all_goals go_wp2_with (first | ((with_reducible refine gC 78 rfl ?_); refine sB 78 rfl Tryz.func78 (stT HS) H (fun t q b hI hB => isC g _ _ _ _ t q b w0 _ hI hB) ?_; clear HS H; intro t q b w' HS H; cases t <;> (try simp only [if_true, if_false, eq_self, Bool.false_eq_true, Bool.not_true, Bool.not_false] at H)) | ((with_reducible refine bH (N := 46) rfl ?_); refine kZ (N := 46) (stT HS) (by first | (go_simp; done) | (go_simp; rfl)) ?_; clear HS; intro A c w' HS; replace H := hB H; (try dsimp only at H)) | ((with_reducible refine gC 111 rfl ?_); refine sK 111 rfl Tryz.func111 (stT HS) H (fun t q b hI hB => JA F HF _ g _ _ _ t q b w0 _ hI hB) ?_; clear HS H; intro t q b w' A c HS H; (try dsimp only at H)) | ((with_reducible refine eu (b := .append) (xs := #[.tmp 48, .tmp 50]) rfl ?_); at_builtin; refine app (N := 51) (.tmp 48) (.tmp 50) rfl Tryz.underlying55 info23 (stT HS) rfl rfl H ?_; clear HS H; intro A c w' HS H) | ((with_reducible refine gC 37 rfl ?_); refine sJ 37 rfl Tryz.func37 (stT HS) H (fun t hr hc => qH _ _ _ _ _ _ _ _ _ t _ hr hc) ?_; clear HS H; intro t w' A c HS H; (try dsimp only at H)) | ((with_reducible refine gC 36 rfl ?_); refine sB 36 rfl Tryz.func36 (stT HS) H (fun t q b hI hB => takeC g _ _ _ _ t q b w0 _ hI hB) ?_; clear HS H; intro t q b w' HS H; cases t <;> (try simp only [if_true, if_false, eq_self, Bool.false_eq_true, Bool.not_true, Bool.not_false] at H)) | ((with_reducible refine gC 100 rfl ?_); refine sL 100 rfl Tryz.func100 (stT HS) H (fun t q b hI hB => HF.expr g _ _ _ t q b w0 _ hI hB) ?_; clear HS H; intro t q b w' A c HS H; (try dsimp only at H)) | ((with_reducible refine bH (N := 59) rfl ?_); refine wZ (N := 59) (stT HS) (by first | (go_simp; done) | (go_simp; rfl)) ?_; clear HS; intro A c w' HS) | ((with_reducible refine gC 34 rfl ?_); refine sU 34 rfl Tryz.func34 (stT HS) H (fun q b hI hB => oN g _ _ _ _ q b w0 _ hI hB) ?_; clear HS H; intro q b w' HS H; (try dsimp only at H)))
     all_goals first
      | (go_roundg k2; (case measure => have := HK2.out; omega); (case rel => exact ⟨_, _, _, _, _, by first | rfl | simp, H, ⟨by have := HK2.out; omega⟩, (stT HS).Bd⟩))
      | (have h_ := H.out; simp only [Option.some.injEq, Prod.mk.injEq] at h_; obtain ⟨rfl, rfl, rfl⟩ := h_; go_ret; exact (stT HS).jD (.head _))
end Go.Proofs.YtkbhkonenkgfoaaGreat.Q
end
section
namespace Go.Proofs.YtkbhkonenkgfoaaGreat.Q
open Go.RowKit Go.Proofs.YtkbhkonenkgfoaaGreatW.PrintWords Go.Proofs.YtkbhkonenkgfoaaGreatW.PrintLast Go.Proofs.YtkbhkonenkgfoaaGreatW.PrintMore
attribute [local go_sem] iW iV iU iR dJ dH dW dV dh df dI dG
set_option linter.unusedVariables false
set_option linter.unusedSimpArgs false
/-! ### aK: function 104 -/
mutual
def aK.l0 (F : iI) : Nat → Int → List (S29) → Int → List (S37) → Int → Bool → Option ((List (S29)) × Int × Bool)
 | 0, _, _, _, _, _, _ => none
 | k + 1, x1, x5, x6, x1000, x1001, x1002 => if x1002 = true then (aK.j1 F k x1 x5 x6 false x1000 x1001 x1002) else (if x1 = 2 then (aK.j1 F k x1 x5 x6 (x6 == 0) x1000 x1001 x1002) else (aK.j1 F k x1 x5 x6 true x1000 x1001 x1002))
def aK.j1 (F : iI) : Nat → Int → List (S29) → Int → Bool → List (S37) → Int → Bool → Option ((List (S29)) × Int × Bool)
 | 0, _, _, _, _, _, _, _ => none
 | k + 1, x1, x5, x6, x28, x1000, x1001, x1002 => if x28 = true then ((bU.f k x1000 x1001 x1002 x1).bind fun bt1390 => (if bt1390.1.toList = ([] : List UInt8) then (some (x5, bt1390.2.1, bt1390.2.2)) else ((Aw.f F k x1000 bt1390.2.1 bt1390.2.2 (wrap64 (x1 + 1))).bind fun bt1393 => ((aC.f k 27 0 (⟨#[]⟩ : ByteArray) 0 bt1390.1 (([x5, bt1393.1] : List (List (S29))))).bind fun t1401 => (aK.l0 F k x1 t1401 (wrap64 (x6 + 1)) x1000 bt1393.2.1 bt1393.2.2))))) else (some (x5, x1001, x1002))
end
def aK.f (F : iI) (k : Nat) (s0_0 : List (S37)) (s0_1 : Int) (s0_2 : Bool) (a1 : Int) : Option ((List (S29)) × Int × Bool) := if a1 = 5 then ((az.f F k s0_0 s0_1 s0_2).bind fun bt1380 => (some (bt1380.1, bt1380.2.1, bt1380.2.2))) else ((Aw.f F k s0_0 s0_1 s0_2 (wrap64 (a1 + 1))).bind fun bt1385 => (aK.l0 F k a1 bt1385.1 0 s0_0 bt1385.2.1 bt1385.2.2))
theorem aK.bP {F F' : iI} (HLE : kw F F') : ∀ k, (∀ y0 y1 y2 y3 y4 y5, LeO (aK.l0 F k y0 y1 y2 y3 y4 y5) (aK.l0 F' (k + 1) y0 y1 y2 y3 y4 y5)) ∧ (∀ y0 y1 y2 y3 y4 y5 y6, LeO (aK.j1 F k y0 y1 y2 y3 y4 y5 y6) (aK.j1 F' (k + 1) y0 y1 y2 y3 y4 y5 y6))
 | 0 => ⟨fun _ _ _ _ _ _ r h => by simp [aK.l0] at h, fun _ _ _ _ _ _ _ r h => by simp [aK.j1] at h⟩
 | k + 1 => by
  obtain ⟨ih0, ih1⟩ := aK.bP HLE k
  refine ⟨?_, ?_⟩
  ·intro y0 y1 y2 y3 y4 y5
   unfold aK.l0
   have m0 := aC.mono
   have m1 := bU.mono
   have m2 := (az.mono HLE)
   have m3 := (Aw.mono HLE)
   exact yL
  intro y0 y1 y2 y3 y4 y5 y6
  unfold aK.j1
  have m0 := aC.mono
  have m1 := bU.mono
  have m2 := (az.mono HLE)
  have m3 := (Aw.mono HLE)
  exact yL
theorem aK.mono {F F' : iI} (HLE : kw F F') : ∀ a0 a1 a2 a3 k, LeO (aK.f F k a0 a1 a2 a3) (aK.f F' (k + 1) a0 a1 a2 a3) := by
 intro a0 a1 a2 a3 k
 obtain ⟨ih0, ih1⟩ := aK.bP HLE k
 unfold aK.f
 have m0 := aC.mono
 have m1 := bU.mono
 have m2 := (az.mono HLE)
 have m3 := (Aw.mono HLE)
 exact yL
end Go.Proofs.YtkbhkonenkgfoaaGreat.Q
end
section
namespace Go.Proofs.YtkbhkonenkgfoaaGreat.Q
open Go.RowKit Go.Proofs.YtkbhkonenkgfoaaGreatW.PrintWords Go.Proofs.YtkbhkonenkgfoaaGreatW.PrintLast Go.Proofs.YtkbhkonenkgfoaaGreatW.PrintMore
attribute [local go_sem] iW iV iU iR dJ dH dW dV dh df dI dG
set_option linter.unusedVariables false
set_option linter.unusedSimpArgs false
/-! ### eX: function 100 -/
def eX.f (F : iI) (k : Nat) (s0_0 : List (S37)) (s0_1 : Int) (s0_2 : Bool) : Option ((List (S29)) × Int × Bool) := (aK.f F k s0_0 s0_1 s0_2 0).bind fun bt1404 => (some (bt1404.1, bt1404.2.1, bt1404.2.2))
theorem eX.mono {F F' : iI} (HLE : kw F F') : ∀ a0 a1 a2 k, LeO (eX.f F k a0 a1 a2) (eX.f F' (k + 1) a0 a1 a2) := by
 intro a0 a1 a2 k
 unfold eX.f
 have m0 := (aK.mono HLE)
 exact yL
end Go.Proofs.YtkbhkonenkgfoaaGreat.Q
end
section
set_option linter.unusedVariables false
set_option linter.unusedSimpArgs false
namespace Go.Proofs.YtkbhkonenkgfoaaGreat.Q
open Go Go.RowKit Go.Proofs.YtkbhkonenkgfoaaGreatW.PrintWords Go.Proofs.YtkbhkonenkgfoaaGreatW.PrintLast Go.Proofs.YtkbhkonenkgfoaaGreatW.PrintMore
attribute [local go_sem] lK lJ lI lH
set_option maxHeartbeats 8000000 in
set_option maxRecDepth 100000 in
theorem LW (F : iI) (HF : oI F) (k : Nat) (g : Nat) (s0 : List S37) (s1 : Int) (s2 : Bool) (a1 : Int) (r : List S29) (e1 : Int) (e2 : Bool) (w0 w : World) (hI : Rd 47 w0 w g s0 s1 s2) (hB : Below w0.heap.size w0 w) (h : aK.f F k s0 s1 s2 a1 = some (r, e1, e2)) :
 Calls Tryz.prog 104 #[.pointer (some ⟨g, 0, none⟩), .int .i64 a1] w (Back 47 w0 w g s0 e1 e2 (IsL w r)) := by
 unfold aK.f at h
 have HS := St.new (T := 47) (by decide) hI hB
 have H := ae.mk h
 clear h hI hB
 by_cases c1 : a1 = 5
 ·have H := hI c1 H
  have c1b : (a1 == 5) = true := beq_iff_eq.mpr c1
  subst c1
  go_enter Tryz.func104, Tryz.ntmps104
  go_wp2_with (first | ((with_reducible refine gC 107 rfl ?_); refine sL 107 rfl Tryz.func107 (stT HS) H (fun t q b hI hB => EQ F HF _ g _ _ _ t q b w0 _ hI hB) ?_; clear HS H; intro t q b w' A c HS H; (try dsimp only at H)))
  all_goals
   have h_ := H.out; simp only [Option.some.injEq, Prod.mk.injEq] at h_; obtain ⟨rfl, rfl, rfl⟩ := h_
   go_ret
   exact (stT HS).jD (.head _)
 have H := hE c1 H
 have c1b : (a1 == 5) = false := beq_eq_false_iff_ne.mpr c1
 clear c1
 go_enter Tryz.func104, Tryz.ntmps104
 go_wp2_with (first | ((with_reducible refine gC 104 rfl ?_); refine sL 104 rfl Tryz.func104 (stT HS) H (fun t q b hI hB => HF.at0 g _ _ _ _ t q b w0 _ hI hB) ?_; clear HS H; intro t q b w' A c HS H; (try dsimp only at H)))
 (try simp only [Act.put, List.setIfInBounds_toArray, List.set_cons_zero, List.set_cons_succ])
 go_loopg [5, 6] k (fun kq v5 v6 w' => ∃ (x5 : List S29) (x6 p : Int) (d : Bool) (A : Option Addr) (c : Nat), v5 = .slice A x5.length c ∧ v6 = .int .i64 x6 ∧ ae (aK.l0 F kq a1 x5 x6 s0 p d = some (r, e1, e2)) ∧ ae (kq ≤ k) ∧ St 47 w0 w w' g s0 p d [(.slice A x5.length c, x5)] [] ⟨[], []⟩)
 case atStart => exact ⟨_, 0, _, _, _, _, rfl, rfl, H, ⟨Nat.le_refl _⟩, stT HS⟩
 case round =>
  clear HS H
  obtain ⟨x5, x6, p, d, A, c, rfl, rfl, H, HK1, HS⟩ := hrel
  cases gk with
  | zero => exact absurd H.out (by simp [aK.l0])
  | succ k1 =>
   cases k1 with
   | zero => exact absurd H.out (by simp [aK.l0, aK.j1])
   | succ k2 =>
   simp only [aK.l0, aK.j1] at H
   have hc2 := HS.rd.cell2
   by_cases c2 : a1 = 2
   all_goals
    first | simp only [if_pos c2] at H | simp only [if_neg c2] at H
    first | (have c2b : (a1 == 2) = true := beq_iff_eq.mpr c2; have c2n : (a1 != 2) = false := bne_eq_false_iff_eq.mpr c2) | (have c2b : (a1 == 2) = false := beq_eq_false_iff_ne.mpr c2; have c2n : (a1 != 2) = true := bne_iff_ne.mpr c2)
   all_goals
    by_cases c3 : x6 = 0
    all_goals
     first | (have c3b : (x6 == 0) = true := beq_iff_eq.mpr c3) | (have c3b : (x6 == 0) = false := beq_eq_false_iff_ne.mpr c3)
     cases d <;> (try simp only [c3b, if_true, if_false, eq_self, Bool.false_eq_true] at H)
   all_goals try clear c2
   all_goals try clear c3
   all_goals go_wp2_with (first | ((with_reducible refine gC 108 rfl ?_); refine sS 108 rfl Tryz.func108 (stT HS) H (fun t q b hI hB => opC _ g _ _ _ _ t q b w0 _ hI hB) ?_; clear HS H; intro t q b w' HS H; (try dsimp only at H); by_cases ct : t.toList = []; all_goals (simp only [ct, if_true, if_false] at H; first | (have ctb : (t.toList == ([] : List UInt8)) = true := beq_iff_eq.mpr ct; clear ct) | (have ctb : (t.toList == ([] : List UInt8)) = false := beq_eq_false_iff_ne.mpr ct; clear ct))) | ((with_reducible refine gC 104 rfl ?_); refine sL 104 rfl Tryz.func104 (stT HS) H (fun t q b hI hB => HF.at0 g _ _ _ _ t q b w0 _ hI hB) ?_; clear HS H; intro t q b w' A c HS H; (try dsimp only at H)) | ((with_reducible refine bH (N := 43) rfl ?_); refine wZ (N := 43) (stT HS) (by first | (go_simp; done) | (go_simp; rfl)) ?_; clear HS; intro A c w' HS) | ((with_reducible refine gC 37 rfl ?_); refine sJ 37 rfl Tryz.func37 (stT HS) H (fun t hr hc => qH _ _ _ _ _ _ _ _ _ t _ hr hc) ?_; clear HS H; intro t w' A c HS H; (try dsimp only at H)))
   all_goals first
    | (go_roundg k2; (case measure => have := HK1.out; omega); (case rel => exact ⟨_, _, _, _, _, _, by first | rfl | simp, rfl, H, ⟨by have := HK1.out; omega⟩, (stT HS).Bd⟩))
    | (have h_ := H.out; simp only [Option.some.injEq, Prod.mk.injEq] at h_; obtain ⟨rfl, rfl, rfl⟩ := h_; go_ret; exact (stT HS).jD (.head _))
set_option maxHeartbeats 8000000 in
set_option maxRecDepth 100000 in
theorem LK (F : iI) (HF : oI F) (k : Nat) (g : Nat) (s0 : List S37) (s1 : Int) (s2 : Bool) (r : List S29) (e1 : Int) (e2 : Bool) (w0 w : World) (hI : Rd 47 w0 w g s0 s1 s2) (hB : Below w0.heap.size w0 w) (h : eX.f F k s0 s1 s2 = some (r, e1, e2)) :
 Calls Tryz.prog 100 #[.pointer (some ⟨g, 0, none⟩)] w (Back 47 w0 w g s0 e1 e2 (IsL w r)) := by
 unfold eX.f at h
 have HS := St.new (T := 47) (by decide) hI hB
 have H := ae.mk h
 clear h hI hB
 go_enter Tryz.func100, Tryz.ntmps100
 go_wp2_with (first | ((with_reducible refine gC 104 rfl ?_); refine sL 104 rfl Tryz.func104 (stT HS) H (fun t q b hI hB => LW F HF _ g _ _ _ _ t q b w0 _ hI hB) ?_; clear HS H; intro t q b w' A c HS H; (try dsimp only at H)))
 all_goals
  have h_ := H.out; simp only [Option.some.injEq, Prod.mk.injEq] at h_; obtain ⟨rfl, rfl, rfl⟩ := h_
  go_ret
  exact (stT HS).jD (.head _)
end Go.Proofs.YtkbhkonenkgfoaaGreat.Q
end
section
namespace Go.Proofs.YtkbhkonenkgfoaaGreat.Q
open Go.RowKit Go.Proofs.YtkbhkonenkgfoaaGreatW.PrintWords Go.Proofs.YtkbhkonenkgfoaaGreatW.PrintLast Go.Proofs.YtkbhkonenkgfoaaGreatW.PrintMore
attribute [local go_sem] iW iV iU iR dJ dH dW dV dh df dI dG
set_option linter.unusedVariables false
set_option linter.unusedSimpArgs false
/-! ### aN: function 17 -/
mutual
def aN.l0 (F : iI) : Nat → List (List (S29)) → ByteArray → Int → List (S37) → Int → Bool → Option ((List (S29)) × Int × Bool)
 | 0, _, _, _, _, _, _ => none
 | k + 1, x3, x4, x5, x1000, x1001, x1002 => (bG.f x1000 x1001 x1002 (⟨#[117, 115, 101]⟩ : ByteArray)).bind fun bt1121 => (if bt1121.1 = true then ((jT.f x1000 bt1121.2.1 bt1121.2.2 1).bind fun bt1124 => ((bi.f x1000 bt1124.2.2.2.2.1 bt1124.2.2.2.2.2 (⟨#[46]⟩ : ByteArray)).bind fun bt1131 => ((jT.f x1000 bt1131.1 bt1131.2 1).bind fun bt1133 => ((bi.f x1000 bt1133.2.2.2.2.1 bt1133.2.2.2.2.2 (⟨#[47]⟩ : ByteArray)).bind fun bt1139 => ((jT.f x1000 bt1139.1 bt1139.2 2).bind fun bt1141 => ((bi.f x1000 bt1141.2.2.2.2.1 bt1141.2.2.2.2.2 (⟨#[59]⟩ : ByteArray)).bind fun bt1147 => (if x3.length < 5864062014805 then (aN.l0 F k (x3 ++ [(([(⟨2, 0, bt1124.2.1, bt1141.2.2.1, bt1133.2.1⟩ : S29)] : List (S29)))]) x4 x5 x1000 bt1147.1 bt1147.2) else (none)))))))) else (aN.l1 F k x3 x4 x5 x1000 bt1121.2.1 bt1121.2.2))
def aN.l1 (F : iI) : Nat → List (List (S29)) → ByteArray → Int → List (S37) → Int → Bool → Option ((List (S29)) × Int × Bool)
 | 0, _, _, _, _, _, _ => none
 | k + 1, x3, x4, x5, x1000, x1001, x1002 => (bG.f x1000 x1001 x1002 (⟨#[102, 110]⟩ : ByteArray)).bind fun bt1155 => (if bt1155.1 = true then ((jT.f x1000 bt1155.2.1 bt1155.2.2 1).bind fun bt1158 => ((dK.f F k x1000 bt1158.2.2.2.2.1 bt1158.2.2.2.2.2).bind fun bt1164 => ((aC.f k 3 0 bt1158.2.1 0 (⟨#[]⟩ : ByteArray) bt1164.1).bind fun t1169 => (if x3.length < 5864062014805 then (aN.l1 F k (x3 ++ [t1169]) x4 x5 x1000 bt1164.2.1 bt1164.2.2) else (none))))) else ((aC.f k 1 0 x4 x5 (⟨#[]⟩ : ByteArray) x3).bind fun t1175 => (some (t1175, bt1155.2.1, bt1155.2.2))))
end
def aN.f (F : iI) (k : Nat) (s0_0 : List (S37)) (s0_1 : Int) (s0_2 : Bool) : Option ((List (S29)) × Int × Bool) := (bi.f s0_0 s0_1 s0_2 (⟨#[109, 111, 100, 117, 108, 101]⟩ : ByteArray)).bind fun bt1105 => ((jT.f s0_0 bt1105.1 bt1105.2 1).bind fun bt1107 => ((jT.f s0_0 bt1107.2.2.2.2.1 bt1107.2.2.2.2.2 2).bind fun bt1113 => ((bi.f s0_0 bt1113.2.2.2.2.1 bt1113.2.2.2.2.2 (⟨#[59]⟩ : ByteArray)).bind fun bt1119 => (aN.l0 F k ([] : List (List (S29))) bt1107.2.1 bt1113.2.2.1 s0_0 bt1119.1 bt1119.2))))
theorem aN.bP {F F' : iI} (HLE : kw F F') : ∀ k, (∀ y0 y1 y2 y3 y4 y5, LeO (aN.l0 F k y0 y1 y2 y3 y4 y5) (aN.l0 F' (k + 1) y0 y1 y2 y3 y4 y5)) ∧ (∀ y0 y1 y2 y3 y4 y5, LeO (aN.l1 F k y0 y1 y2 y3 y4 y5) (aN.l1 F' (k + 1) y0 y1 y2 y3 y4 y5))
 | 0 => ⟨fun _ _ _ _ _ _ r h => by simp [aN.l0] at h, fun _ _ _ _ _ _ r h => by simp [aN.l1] at h⟩
 | k + 1 => by
  obtain ⟨ih0, ih1⟩ := aN.bP HLE k
  refine ⟨?_, ?_⟩
  ·intro y0 y1 y2 y3 y4 y5
   unfold aN.l0
   have m0 := aC.mono
   have m1 := (dK.mono HLE)
   exact yL
  intro y0 y1 y2 y3 y4 y5
  unfold aN.l1
  have m0 := aC.mono
  have m1 := (dK.mono HLE)
  exact yL
theorem aN.mono {F F' : iI} (HLE : kw F F') : ∀ a0 a1 a2 k, LeO (aN.f F k a0 a1 a2) (aN.f F' (k + 1) a0 a1 a2) := by
 intro a0 a1 a2 k
 obtain ⟨ih0, ih1⟩ := aN.bP HLE k
 unfold aN.f
 have m0 := aC.mono
 have m1 := (dK.mono HLE)
 exact yL
end Go.Proofs.YtkbhkonenkgfoaaGreat.Q
end
section
set_option linter.unusedVariables false
set_option linter.unusedSimpArgs false
namespace Go.Proofs.YtkbhkonenkgfoaaGreat.Q
open Go Go.RowKit Go.Proofs.YtkbhkonenkgfoaaGreatW.PrintWords Go.Proofs.YtkbhkonenkgfoaaGreatW.PrintLast Go.Proofs.YtkbhkonenkgfoaaGreatW.PrintMore
attribute [local go_sem] lK lJ lI lH
set_option maxHeartbeats 8000000 in
set_option maxRecDepth 100000 in
theorem IQ (F : iI) (HF : oI F) (k : Nat) (g : Nat) (s0 : List S37) (s1 : Int) (s2 : Bool) (r : List S29) (e1 : Int) (e2 : Bool) (w0 w : World) (hI : Rd 47 w0 w g s0 s1 s2) (hB : Below w0.heap.size w0 w) (h : aN.f F k s0 s1 s2 = some (r, e1, e2)) :
 Calls Tryz.prog 17 #[.pointer (some ⟨g, 0, none⟩)] w (Back 47 w0 w g s0 e1 e2 (IsL w r)) := by
 unfold aN.f at h
 have HS := St.new (T := 47) (by decide) hI hB
 have H := ae.mk h
 clear h hI hB
 go_enter Tryz.func17, Tryz.ntmps17
 go_wp2_with (first | ((with_reducible refine gC 34 rfl ?_); refine sU 34 rfl Tryz.func34 (stT HS) H (fun q b hI hB => oN g _ _ _ _ q b w0 _ hI hB) ?_; clear HS H; intro q b w' HS H; (try dsimp only at H)) | ((with_reducible refine bH (N := 11) rfl ?_); (with_reducible refine gC 35 rfl ?_); refine sN 35 rfl Tryz.func35 (stT HS) H (fun t1 t2 t3 t4 q b hI hB => vk g _ _ _ _ t1 t2 t3 t4 q b w0 _ hI hB) ?_; clear HS H; intro n1 nm n3 n4 q b w' HS H; (try dsimp only at H)) | ((with_reducible refine bH (N := 14) rfl ?_); (with_reducible refine gC 35 rfl ?_); refine sN 35 rfl Tryz.func35 (stT HS) H (fun t1 t2 t3 t4 q b hI hB => vk g _ _ _ _ t1 t2 t3 t4 q b w0 _ hI hB) ?_; clear HS H; intro m1 m2 vn m4 q b w' HS H; (try dsimp only at H)))
 (try simp only [Act.put, List.setIfInBounds_toArray, List.set_cons_zero, List.set_cons_succ])
 go_loopg [3] k (fun kq v3 w' => ∃ (x3 : List (List S29)) (p : Int) (d : Bool) (A : Option Addr) (c : Nat), v3 = .slice A x3.length c ∧ ae (aN.l0 F kq x3 nm vn s0 p d = some (r, e1, e2)) ∧ ae (kq ≤ k) ∧ St 47 w0 w w' g s0 p d [] [(.slice A x3.length c, x3)] ⟨[], []⟩)
 case atStart => exact ⟨[], _, _, none, 0, rfl, H, ⟨Nat.le_refl _⟩, (stT HS).clear.uG⟩
 case round =>
  clear HS H
  obtain ⟨x3, p, d, A, c, rfl, H, HK1, HS⟩ := hrel
  cases gk with
  | zero => exact absurd H.out (by simp [aN.l0])
  | succ k1 =>
   simp only [aN.l0] at H
   go_wp2_with (first | ((with_reducible refine gC 36 rfl ?_); refine sB 36 rfl Tryz.func36 (stT HS) H (fun t q b hI hB => takeC g _ _ _ _ t q b w0 _ hI hB) ?_; clear HS H; intro t q b w' HS H; cases t <;> (try simp only [if_true, if_false, eq_self, Bool.false_eq_true, Bool.not_true, Bool.not_false] at H)) | ((with_reducible refine bH (N := 21) rfl ?_); (with_reducible refine gC 35 rfl ?_); refine sN 35 rfl Tryz.func35 (stT HS) H (fun t1 t2 t3 t4 q b hI hB => vk g _ _ _ _ t1 t2 t3 t4 q b w0 _ hI hB) ?_; clear HS H; intro t1 t2 t3 t4 q b w' HS H; (try dsimp only at H)) | ((with_reducible refine bH (N := 6) rfl ?_); have HS0 := HS; refine boxS (N := 6) (cs := #[.int .i64 0, .int .i64 0, .string (⟨#[]⟩ : ByteArray), .int .i64 0, .string (⟨#[]⟩ : ByteArray)]) (t := 29) (St.new (T := 47) (by decide) HS0.rd HS0.below) (by first | (go_simp; done) | (go_simp; rfl)) ?_; clear HS; intro gb w' HS hne hge; have hnc := Ne.symm hne; have hb_ := HS.box rfl; have hx0 := (aj hb_ 0).trans rfl; have hf0 := ag hb_ 0; have hx1 := (aj hb_ 1).trans rfl; have hf1 := ag hb_ 1; have hx2 := (aj hb_ 2).trans rfl; have hf2 := ag hb_ 2; have hx3 := (aj hb_ 3).trans rfl; have hf3 := ag hb_ 3; have hx4 := (aj hb_ 4).trans rfl; have hf4 := ag hb_ 4; clear hb_) | ((with_reducible refine gC 34 rfl ?_); refine sU 34 rfl Tryz.func34 (stB hge HS) H (fun q b hI hB => oN g _ _ _ _ q b w0 _ hI hB) ?_; clear HS H; intro q b w' HS H; (try dsimp only at H); clear hx0 hx1 hx2 hx3 hx4 hf0 hf1 hf2 hf3 hf4; have hb_ := HS.box rfl; have hx0 := (aj hb_ 0).trans rfl; have hf0 := ag hb_ 0; have hx1 := (aj hb_ 1).trans rfl; have hf1 := ag hb_ 1; have hx2 := (aj hb_ 2).trans rfl; have hf2 := ag hb_ 2; have hx3 := (aj hb_ 3).trans rfl; have hf3 := ag hb_ 3; have hx4 := (aj hb_ 4).trans rfl; have hf4 := ag hb_ 4; clear hb_) | ((with_reducible refine gC 35 rfl ?_); refine sN 35 rfl Tryz.func35 (stB hge HS) H (fun t1 t2 t3 t4 q b hI hB => vk g _ _ _ _ t1 t2 t3 t4 q b w0 _ hI hB) ?_; clear HS H; intro t1 t2 t3 t4 q b w' HS H; (try dsimp only at H); clear hx0 hx1 hx2 hx3 hx4 hf0 hf1 hf2 hf3 hf4; have hb_ := HS.box rfl; have hx0 := (aj hb_ 0).trans rfl; have hf0 := ag hb_ 0; have hx1 := (aj hb_ 1).trans rfl; have hf1 := ag hb_ 1; have hx2 := (aj hb_ 2).trans rfl; have hf2 := ag hb_ 2; have hx3 := (aj hb_ 3).trans rfl; have hf3 := ag hb_ 3; have hx4 := (aj hb_ 4).trans rfl; have hf4 := ag hb_ 4; clear hb_) | ((with_reducible refine bH (N := 40) rfl ?_); have HS := HS0.step HS.keep HS.rd HS.below; clear hx0 hx1 hx2 hx3 hx4 hf0 hf1 hf2 hf3 hf4; refine xe (N := 40) (stT HS) (by first | (go_simp; done) | (go_simp; rfl)) ?_; clear HS; intro A c w' HS) | ((with_reducible refine bH (N := 41) rfl ?_); refine kZ (N := 41) (stT HS) (by first | (go_simp; done) | (go_simp; rfl)) ?_; clear HS; intro A c w' HS) | ((with_reducible refine eu (b := .append) (xs := #[.tmp 38, .tmp 41]) rfl ?_); at_builtin; refine app (N := 42) (.tmp 38) (.tmp 41) rfl Tryz.underlying55 info23 (stT HS) rfl rfl H ?_; clear HS H; intro A c w' HS H))
   all_goals first
    | (go_roundg k1; (case measure => have := HK1.out; omega); (case rel => exact ⟨_, _, _, _, _, by first | rfl | simp, H, ⟨by have := HK1.out; omega⟩, stT HS⟩))
    | skip
   (try simp only [Act.put, List.setIfInBounds_toArray, List.set_cons_zero, List.set_cons_succ])
   go_loopg [3] k1 (fun kq v3 w' => ∃ (x3 : List (List S29)) (p : Int) (d : Bool) (A : Option Addr) (c : Nat), v3 = .slice A x3.length c ∧ ae (aN.l1 F kq x3 nm vn s0 p d = some (r, e1, e2)) ∧ ae (kq ≤ k1) ∧ St 47 w0 w w' g s0 p d [] [(.slice A x3.length c, x3)] ⟨[], []⟩)
   case atStart => exact ⟨_, _, _, _, _, rfl, H, ⟨Nat.le_refl _⟩, stT HS⟩
   case round =>
    clear HS H
    obtain ⟨x3, p, d, A, c, rfl, H, HK2, HS⟩ := hrel
    cases gk with
    | zero => exact absurd H.out (by simp [aN.l1])
    | succ k2 =>
     simp only [aN.l1] at H
     go_wp2_with (first | ((with_reducible refine gC 36 rfl ?_); refine sB 36 rfl Tryz.func36 (stT HS) H (fun t q b hI hB => takeC g _ _ _ _ t q b w0 _ hI hB) ?_; clear HS H; intro t q b w' HS H; cases t <;> (try simp only [if_true, if_false, eq_self, Bool.false_eq_true, Bool.not_true, Bool.not_false] at H)) | ((with_reducible refine gC 35 rfl ?_); refine sN 35 rfl Tryz.func35 (stT HS) H (fun t1 t2 t3 t4 q b hI hB => vk g _ _ _ _ t1 t2 t3 t4 q b w0 _ hI hB) ?_; clear HS H; intro t1 t2 t3 t4 q b w' HS H; (try dsimp only at H)) | ((with_reducible refine gC 38 rfl ?_); refine sK 38 rfl Tryz.func38 (stT HS) H (fun t q b hI hB => yC F HF _ g _ _ _ t q b w0 _ hI hB) ?_; clear HS H; intro t q b w' A c HS H; (try dsimp only at H)) | ((with_reducible refine gC 37 rfl ?_); refine sJ 37 rfl Tryz.func37 (stT HS) H (fun t hr hc => qH _ _ _ _ _ _ _ _ _ t _ hr hc) ?_; clear HS H; intro t w' A c HS H; (try dsimp only at H)) | ((with_reducible refine bH (N := 54) rfl ?_); refine kZ (N := 54) (stT HS) (by first | (go_simp; done) | (go_simp; rfl)) ?_; clear HS; intro A c w' HS) | ((with_reducible refine eu (b := .append) (xs := #[.tmp 48, .tmp 54]) rfl ?_); at_builtin; refine app (N := 55) (.tmp 48) (.tmp 54) rfl Tryz.underlying55 info23 (stT HS) rfl rfl H ?_; clear HS H; intro A c w' HS H))
     all_goals first
      | (go_roundg k2; (case measure => have := HK2.out; omega); (case rel => exact ⟨_, _, _, _, _, by first | rfl | simp, H, ⟨by have := HK2.out; omega⟩, stT HS⟩))
      | (have h_ := H.out; simp only [Option.some.injEq, Prod.mk.injEq] at h_; obtain ⟨rfl, rfl, rfl⟩ := h_; go_ret; exact (stT HS).jD (.head _))
end Go.Proofs.YtkbhkonenkgfoaaGreat.Q
end
section
namespace Go.Proofs.YtkbhkonenkgfoaaGreat.Q
open Go.RowKit Go.Proofs.YtkbhkonenkgfoaaGreatW.PrintWords Go.Proofs.YtkbhkonenkgfoaaGreatW.PrintLast Go.Proofs.YtkbhkonenkgfoaaGreatW.PrintMore
attribute [local go_sem] dJ dH dW dV dh df dI dG
set_option linter.unusedVariables false
set_option linter.unusedSimpArgs false
/-! ### aQ: function 84 -/
mutual
def aQ.j0 : Nat → List Int → Int → Bool → Option (Bool)
 | 0, _, _, _ => none
 | k + 1, x0, x3, x20 => if x20 = true then (some false) else (aQ.l0 k x0 x3 0)
def aQ.l0 : Nat → List Int → Int → Int → Option (Bool)
 | 0, _, _, _ => none
 | k + 1, x0, x3, x4 => if x4 < (wrap64 (x3 - 1)) then (if 0 ≤ x4 then (if x4 < (x0.length : Int) then (if (rd x0 x4) = 4 then (aQ.l0 k x0 x3 (wrap64 (x4 + 1))) else (some false)) else (none)) else (none)) else (some true)
end
def aQ.f (k : Nat) (l0 : List Int) : Option (Bool) := if (l0.length : Int) < 1 then (aQ.j0 k l0 (l0.length : Int) true) else (if (l0.length : Int) > 9 then (aQ.j0 k l0 (l0.length : Int) true) else (if 0 ≤ (wrap64 ((l0.length : Int) - 1)) then (if (wrap64 ((l0.length : Int) - 1)) < (l0.length : Int) then (aQ.j0 k l0 (l0.length : Int) ((rd l0 (wrap64 ((l0.length : Int) - 1))) != 5)) else (none)) else (none)))
theorem aQ.bP : ∀ k, (∀ y0 y1 y2, LeO (aQ.j0 k y0 y1 y2) (aQ.j0 (k + 1) y0 y1 y2)) ∧ (∀ y0 y1 y2, LeO (aQ.l0 k y0 y1 y2) (aQ.l0 (k + 1) y0 y1 y2))
 | 0 => ⟨fun _ _ _ r h => by simp [aQ.j0] at h, fun _ _ _ r h => by simp [aQ.l0] at h⟩
 | k + 1 => by
  obtain ⟨ih0, ih1⟩ := aQ.bP k
  refine ⟨?_, ?_⟩
  ·intro y0 y1 y2
   unfold aQ.j0
   exact yL
  intro y0 y1 y2
  unfold aQ.l0
  exact yL
theorem aQ.mono : ∀ a0 k, LeO (aQ.f k a0) (aQ.f (k + 1) a0) := by
 intro a0 k
 obtain ⟨ih0, ih1⟩ := aQ.bP k
 unfold aQ.f
 exact yL
set_option maxHeartbeats 8000000 in
set_option maxRecDepth 100000 in
theorem aQ.calls (k : Nat) (A0 : Option Addr) (c0 : Nat) (l0 : List Int) (r : Bool) (w : World) (hr0 : Kd.C (Kd.int .i64) w A0 l0.length l0) (hc0 : l0.length ≤ c0) (h : aQ.f k l0 = some r) :
 Calls Tryz.prog 84 #[.slice A0 l0.length c0] w fun e w' => e = .returned (.bool r) ∧ eF w w' := by
 have HR0 := ae.mk hr0
 have HC0 := ae.mk hc0
 clear hr0 hc0
 have H := h
 clear h
 unfold aQ.f at H
 have HC2 := ae.mk H
 clear H
 go_enter Tryz.func84, Tryz.ntmps84
 go_upto_region 2 with (fail)
 go_cut [20] (fun v20 wc => ∃ (kq : Nat) (x20_1 : Bool), v20 = .bool x20_1 ∧ ae (aQ.j0 kq l0 (l0.length : Int) x20_1 = some r) ∧ ae (kq ≤ k) ∧ eF w wc)
 case first =>
  have H := HC2.out
  clear HC2
  revert H
  refine zq (fun c3 c3b0 H => ?_) fun c3 c3b0 H => ?_
  ·have c3b1 : decide (l0.length < 1) = true := decide_eq_true (by omega)
   clear c3
   (first | rw [c3b0] | (simp only [gX, iP]; rw [c3b0]) | skip)
   have H' := ae.mk H
   clear H
   go_wp2
   go_meet
   case rel => exact ⟨_, (true), fT, H', ⟨Z11⟩, Z0⟩
  have c3b1 : decide (l0.length < 1) = false := decide_eq_false (by omega)
  clear c3
  (first | rw [c3b0] | (simp only [gX, iP]; rw [c3b0]) | skip)
  revert H
  refine iC (fun c4 H => ?_) fun c4 H => ?_
  ·have c4b0 : decide (9 < (l0.length : Int)) = true := decide_eq_true c4
   have c4b1 : decide (9 < l0.length) = true := decide_eq_true (by omega)
   clear c4
   have H' := ae.mk H
   clear H
   go_wp2
   go_meet
   case rel => exact ⟨_, (true), fT, H', ⟨Z11⟩, Z0⟩
  have c4b0 : decide (9 < (l0.length : Int)) = false := decide_eq_false c4
  have c4b1 : decide (9 < l0.length) = false := decide_eq_false (by omega)
  clear c4
  obtain ⟨ji5, hji5⟩ : ∃ j_ : Int, (wrap64 ((l0.length : Int) - 1)) = j_ := ⟨_, rfl⟩
  replace H : (if 0 ≤ (ji5) then (if (ji5) < (l0.length : Int) then (aQ.j0 k l0 (l0.length : Int) ((rd l0 (ji5)) != 5)) else (none)) else (none)) = some r := by first | (rw [hji5] at H; exact H) | (simp only [hji5] at H ⊢; exact H)
  have hji5w : (IntKind.i64.wrap ((l0.length : Int) - 1)) = ji5 := (gX _).trans hji5
  revert H
  refine gJ (fun c6b0 H => ?_) fun c6 H => ?_
  ·revert H
   refine gJ (fun c7b0 H => ?_) fun c7 H => ?_
   ·have H' := ae.mk H
    clear H
    have p1218 : 0 ≤ ((ji5) : Int) := of_decide_eq_true aT
    have q1218 : (ji5) < (l0.length : Int) := of_decide_eq_true aT
    obtain ⟨ad1218, e1218, hx1218_0⟩ := Kd.jv HR0.out (ji5) p1218 q1218
    cases e1218
    replace p1218 := eq_true p1218
    replace q1218 := eq_true q1218
    go_wp2
    go_meet
    case rel => exact ⟨_, (((rd l0 (ji5)) != 5)), (by first | rfl | (simp; done) | (simp only [← hji5] <;> (first | rfl | simp)) | (simp [*]; done)), H', ⟨Z11⟩, Z0⟩
   exact absurd H (by simp)
  exact absurd H (by simp)
 case rest =>
  clear HC2
  try clear p1
  try clear q1
  try clear hx1
  try clear p2
  try clear c3
  try clear c3b0
  try clear c3b1
  try clear c4
  try clear c4b0
  try clear c4b1
  try clear c6
  try clear c6b0
  try clear p6
  try clear c7
  try clear c7b0
  try clear hx1218_0
  try clear p1218
  try clear q1218
  obtain ⟨kq, x20_1, rfl, HA, HJ1, ⟨mc1, rfl⟩⟩ := hcut
  cases kq with
  | zero => exact absurd HA.out (by simp [aQ.j0])
  | succ kj1 =>
   have H := HA.out
   clear HA
   simp only [aQ.j0] at H
   cases x20_1
   rotate_left
   ·replace H := yT H
    obtain rfl := Option.some.inj H
    go_wp2
    go_ret
    exact ⟨fT, Z0⟩
   replace H := yF H
   have H' := ae.mk H
   clear H
   go_wp2
   go_loopg [4] kj1 (fun kq v4 w' => ∃ (x4_2 : Int), v4 = .int .i64 x4_2 ∧ ae (aQ.l0 kq l0 (l0.length : Int) x4_2 = some r) ∧ ae (kq ≤ kj1) ∧ eF w w')
   case atStart => exact ⟨(0), fT, H', ⟨Nat.le_refl _⟩, Z0⟩
   case round =>
    clear H'
    try clear c1
    try clear p1
    try clear q1
    try clear hx1
    try clear p2
    try clear c3
    try clear c3b0
    try clear c3b1
    try clear c4
    try clear c4b0
    try clear c4b1
    try clear c6
    try clear c6b0
    try clear p6
    try clear c7
    try clear c7b0
    try clear c8
    try clear hx1218_0
    try clear p1
    try clear p1218
    try clear p2
    try clear p6
    try clear q1
    try clear q1218
    obtain ⟨x4_2, rfl, HA, HK2, ⟨m2, rfl⟩⟩ := hrel
    cases gk with
    | zero => exact absurd HA.out (by simp [aQ.l0])
    | succ k2 =>
     have H := HA.out
     clear HA
     simp only [aQ.l0] at H
     revert H
     refine iQ (fun c9b0 H => ?_) fun c9b0 H => ?_
     ·revert H
      refine gJ (fun c10b0 H => ?_) fun c10 H => ?_
      ·revert H
       refine gJ (fun c11b0 H => ?_) fun c11 H => ?_
       ·revert H
        refine cZ (fun c12b0 c12b1 H => ?_) fun c12 c12b0 c12b1 H => ?_
        ·have H' := ae.mk H
         clear H
         have p1219 : 0 ≤ (x4_2 : Int) := of_decide_eq_true aT
         have q1219 : x4_2 < (l0.length : Int) := of_decide_eq_true aT
         obtain ⟨ad1219, e1219, hx1219_0⟩ := Kd.jv HR0.out x4_2 p1219 q1219
         cases e1219
         replace p1219 := eq_true p1219
         replace q1219 := eq_true q1219
         go_wp2
         go_roundg k2
         case measure => have := HJ1.out; have := HK2.out; omega
         case rel => exact ⟨(wrap64 (x4_2 + 1)), fT, H', ⟨by have := HJ1.out; have := HK2.out; omega⟩, Z0⟩
        obtain rfl := Option.some.inj H
        have p1219 : 0 ≤ (x4_2 : Int) := of_decide_eq_true aT
        have q1219 : x4_2 < (l0.length : Int) := of_decide_eq_true aT
        obtain ⟨ad1219, e1219, hx1219_0⟩ := Kd.jv HR0.out x4_2 p1219 q1219
        cases e1219
        replace p1219 := eq_true p1219
        replace q1219 := eq_true q1219
        go_wp2
        go_ret
        exact ⟨fT, Z0⟩
       exact absurd H (by simp)
      exact absurd H (by simp)
     obtain rfl := Option.some.inj H
     go_wp2
     go_ret
     exact ⟨fT, Z0⟩
/-! ### iK: function 85 -/
def iK.f (a0 : Int) : Option (Bool) := if a0 ≥ 6 then (some (decide (a0 ≤ 17))) else (some false)
set_option maxHeartbeats 8000000 in
set_option maxRecDepth 100000 in
theorem iK.calls (a0 : Int) (r : Bool) (w : World) (h : iK.f a0 = some r) :
 Calls Tryz.prog 85 #[.int .i64 a0] w fun e w' => e = .returned (.bool r) ∧ eF w w' := by
 have H := h
 clear h
 unfold iK.f at H
 revert H
 refine iC (fun c2 H => ?_) fun c2 H => ?_
 ·have c2b0 : decide (6 ≤ a0) = true := decide_eq_true c2
  clear c2
  obtain rfl := Option.some.inj H
  go_enter Tryz.func85, Tryz.ntmps85
  go_wp2
  go_ret
  exact ⟨fT, Z0⟩
 have c2b0 : decide (6 ≤ a0) = false := decide_eq_false c2
 clear c2
 obtain rfl := Option.some.inj H
 go_enter Tryz.func85, Tryz.ntmps85
 go_wp2
 go_ret
 exact ⟨fT, Z0⟩
end Go.Proofs.YtkbhkonenkgfoaaGreat.Q
end
