/- Walks over functions of the program, words for them, and what the functions come to; of each text only what this claim uses; no condition. -/
import Derived.Test.YtkbhkonenkgfoaaGreatZPT0
import Derived.Test.YtkbhkonenkgfoaaGreatZPT1
import Derived.Test.YtkbhkonenkgfoaaGreatZPT3
import Derived.Test.YtkbhkonenkgfoaaGreatZPT4
import Derived.Test.YtkbhkonenkgfoaaGreatZPT7
import Derived.Test.YtkbhkonenkgfoaaGreatZPT8
section
namespace Go.Proofs.YtkbhkonenkgfoaaGreat.Q
open Go.RowKit Go.Proofs.YtkbhkonenkgfoaaGreatW.PrintWords Go.Proofs.YtkbhkonenkgfoaaGreatW.PrintLast Go.Proofs.YtkbhkonenkgfoaaGreatW.PrintMore
attribute [local go_sem] iM iL iK iJ dJ dH dS dR cZ cO dI dG
set_option linter.unusedVariables false
set_option linter.unusedSimpArgs false
/-! ### ay: function 107 -/
mutual
def ay.l0 (F : iC) : Nat → List ByteArray → Int → List (S37) → Int → Bool → Option ((List (S29)) × Int × Bool)
 | 0, _, _, _, _, _ => none
 | k + 1, x3, x4, x1000, x1001, x1002 => if x4 < (x3.length : Int) then (if 0 ≤ x4 then ((bC.f x1000 x1001 x1002 (nX ByteArray.empty x3 x4)).bind fun bt1290 => (if bt1290.1 = true then ((pW.f F k x1000 bt1290.2.1 bt1290.2.2).bind fun bt1294 => ((az.f k 28 0 (⟨#[]⟩ : ByteArray) 0 (nX ByteArray.empty x3 x4) (([bt1294.1] : List (List (S29))))).bind fun t1302 => (some (t1302, bt1294.2.1, bt1294.2.2)))) else (ay.l0 F k x3 (wrap64 (x4 + 1)) x1000 bt1290.2.1 bt1290.2.2))) else (none)) else ((bC.f x1000 x1001 x1002 (⟨#[115, 112, 97, 119, 110]⟩ : ByteArray)).bind fun bt1305 => (if bt1305.1 = true then ((pW.f F k x1000 bt1305.2.1 bt1305.2.2).bind fun bt1308 => ((az.f k 30 0 (⟨#[]⟩ : ByteArray) 0 (⟨#[]⟩ : ByteArray) (([bt1308.1] : List (List (S29))))).bind fun t1316 => (some (t1316, bt1308.2.1, bt1308.2.2)))) else ((mf.f F k x1000 bt1305.2.1 bt1305.2.2).bind fun bt1319 => (ay.l1 F k bt1319.1 x1000 bt1319.2.1 bt1319.2.2))))
def ay.l1 (F : iC) : Nat → List (S29) → List (S37) → Int → Bool → Option ((List (S29)) × Int × Bool)
 | 0, _, _, _, _ => none
 | k + 1, x5, x1000, x1001, x1002 => if x1002 = true then (some (x5, x1001, x1002)) else ((eU.f x1000 x1001 x1002 (⟨#[40]⟩ : ByteArray)).bind fun bt1324 => (if bt1324.1 = true then ((some (([x5] : List (List (S29))) : List (List (S29)))).bind fun y1327 => ((aH.f F k x1000 bt1324.2.1 bt1324.2.2).bind fun bt1330 => (if y1327.length + bt1330.1.length < 5864062014805 then ((az.f k 22 0 (⟨#[]⟩ : ByteArray) 0 (⟨#[]⟩ : ByteArray) (y1327 ++ bt1330.1)).bind fun t1338 => (ay.l1 F k t1338 x1000 bt1330.2.1 bt1330.2.2)) else (none)))) else ((bC.f x1000 bt1324.2.1 bt1324.2.2 (⟨#[91]⟩ : ByteArray)).bind fun bt1341 => (if bt1341.1 = true then ((lg.f F k x1000 bt1341.2.1 bt1341.2.2).bind fun bt1344 => ((az.f k 26 0 (⟨#[]⟩ : ByteArray) 0 (⟨#[]⟩ : ByteArray) (([x5, bt1344.1] : List (List (S29))))).bind fun t1352 => ((bg.f x1000 bt1344.2.1 bt1344.2.2 (⟨#[93]⟩ : ByteArray)).bind fun bt1355 => (ay.l1 F k t1352 x1000 bt1355.1 bt1355.2)))) else (some (x5, bt1341.2.1, bt1341.2.2))))))
end
def ay.f (F : iC) (k : Nat) (s0_0 : List (S37)) (s0_1 : Int) (s0_2 : Bool) : Option ((List (S29)) × Int × Bool) := ay.l0 F k (([(⟨#[45]⟩ : ByteArray), (⟨#[110, 111, 116]⟩ : ByteArray), (⟨#[108, 101, 110]⟩ : ByteArray)] : List ByteArray)) 0 s0_0 s0_1 s0_2
theorem ay.bZ {F F' : iC} (HLE : jT F F') : ∀ k, (∀ y0 y1 y2 y3 y4, LeO (ay.l0 F k y0 y1 y2 y3 y4) (ay.l0 F' (k + 1) y0 y1 y2 y3 y4)) ∧ (∀ y0 y1 y2 y3, LeO (ay.l1 F k y0 y1 y2 y3) (ay.l1 F' (k + 1) y0 y1 y2 y3))
 | 0 => ⟨fun _ _ _ _ _ r h => by simp [ay.l0] at h, fun _ _ _ _ r h => by simp [ay.l1] at h⟩
 | k + 1 => by
  obtain ⟨ih0, ih1⟩ := ay.bZ HLE k
  refine ⟨?_, ?_⟩
  ·intro y0 y1 y2 y3 y4
   unfold ay.l0
   have m0 := az.mono
   have m1 := (aH.mono HLE)
   have m2 := (lg.mono HLE)
   have m3 := (pW.mono HLE)
   have m4 := (mf.mono HLE)
   exact yL
  intro y0 y1 y2 y3
  unfold ay.l1
  have m0 := az.mono
  have m1 := (aH.mono HLE)
  have m2 := (lg.mono HLE)
  have m3 := (pW.mono HLE)
  have m4 := (mf.mono HLE)
  exact yL
theorem ay.mono {F F' : iC} (HLE : jT F F') : ∀ a0 a1 a2 k, LeO (ay.f F k a0 a1 a2) (ay.f F' (k + 1) a0 a1 a2) := by
 intro a0 a1 a2 k
 obtain ⟨ih0, ih1⟩ := ay.bZ HLE k
 unfold ay.f
 have m0 := az.mono
 have m1 := (aH.mono HLE)
 have m2 := (lg.mono HLE)
 have m3 := (pW.mono HLE)
 have m4 := (mf.mono HLE)
 exact yL
end Go.Proofs.YtkbhkonenkgfoaaGreat.Q
end
section
set_option linter.unusedVariables false
set_option linter.unusedSimpArgs false
namespace Go.Proofs.YtkbhkonenkgfoaaGreat.Q
open Go Go.RowKit Go.Proofs.YtkbhkonenkgfoaaGreatW.PrintWords Go.Proofs.YtkbhkonenkgfoaaGreatW.PrintLast Go.Proofs.YtkbhkonenkgfoaaGreatW.PrintMore
attribute [local go_sem] l7 lu lq lm
set_option maxHeartbeats 8000000 in
set_option maxRecDepth 100000 in
theorem Dv (F : iC) (HF : nT F) (k : Nat) (g : Nat) (s0 : List S37) (s1 : Int) (s2 : Bool) (r : List S29) (e1 : Int) (e2 : Bool) (w0 w : World) (hI : Rd 47 w0 w g s0 s1 s2) (hB : Below w0.heap.size w0 w) (h : ay.f F k s0 s1 s2 = some (r, e1, e2)) :
 Calls Tryz.prog 107 #[.pointer (some ⟨g, 0, none⟩)] w (Back 47 w0 w g s0 e1 e2 (IsL w r)) := by
 unfold ay.f at h
 have HS := St.new (T := 47) (by decide) hI hB
 have H := af.mk h
 clear h hI hB
 go_enter Tryz.func107, Tryz.ntmps107
 go_wp2_with ((with_reducible refine bH (N := 7) rfl ?_); refine JK (N := 7) (stT HS) (by first | (go_simp; done) | (go_simp; rfl)) ?_; clear HS; intro A c w' HS)
 (try simp only [Act.put, List.setIfInBounds_toArray, List.set_cons_zero, List.set_cons_succ])
 replace HS : St 47 w0 w w' g s0 s1 s2 [] [] ⟨[], [(.slice A 3 c, ([(⟨#[45]⟩ : ByteArray), (⟨#[110, 111, 116]⟩ : ByteArray), (⟨#[108, 101, 110]⟩ : ByteArray)] : List ByteArray))]⟩ := HS
 generalize ([(⟨#[45]⟩ : ByteArray), (⟨#[110, 111, 116]⟩ : ByteArray), (⟨#[108, 101, 110]⟩ : ByteArray)] : List ByteArray) = t at HS H
 go_loopg [4] k (fun kq v4 w' => ∃ (x6 p : Int) (d : Bool), v4 = .int .i64 x6 ∧ af (ay.l0 F kq t x6 s0 p d = some (r, e1, e2)) ∧ af (kq ≤ k) ∧ St 47 w0 w w' g s0 p d [] [] ⟨[], [(.slice A 3 c, t)]⟩)
 case atStart => exact ⟨0, _, _, rfl, H, ⟨Nat.le_refl _⟩, stT HS⟩
 case round =>
  clear HS H
  obtain ⟨x6, p, d, rfl, H, HK1, HS⟩ := hrel
  have hn : 3 = t.length := (Kd.dU (HS.ss _ (.head _))).1
  cases gk with
  | zero => exact absurd H.out (by simp [ay.l0])
  | succ k1 =>
   simp only [ay.l0] at H
   by_cases c1 : x6 < (t.length : Int)
   ·replace H := hI c1 H
    by_cases c2 : 0 ≤ x6
    rotate_left
    ·exact absurd (hE c2 H).out (by simp)
    replace H := hI c2 H
    obtain ⟨ad, rfl, hx⟩ := HS.str x6 c2 c1
    have c1b : decide (x6 < ((3 : Nat) : Int)) = true := decide_eq_true (by omega)
    have c1c : decide (x6 < 3) = true := decide_eq_true (by omega)
    have p3 := eq_true c2
    have q3 := eq_true c1
    have q4 := eq_true (show x6 < 3 by omega)
    clear c1 c2 hn
    go_wp2_with (first | ((with_reducible refine gC 36 rfl ?_); refine sB 36 rfl Tryz.func36 (stT HS) H (fun t q b hI hB => takeC g _ _ _ _ t q b w0 _ hI hB) ?_; clear HS H; intro t1 q b w' HS H; have hx := HS.D7 (of_eq_true p3) (of_eq_true q3); cases t1 <;> (try simp only [if_true, if_false, eq_self, Bool.false_eq_true, Bool.not_true, Bool.not_false] at H)))
    all_goals first
     | (go_roundg k1; (case measure => have := HK1.out; omega); (case rel => exact ⟨_, _, _, rfl, H, ⟨by have := HK1.out; omega⟩, stT HS⟩))
     | skip
    (try simp only [Act.put, List.setIfInBounds_toArray, List.set_cons_zero, List.set_cons_succ])
    go_region_held3 (fun w' => w'.cell? (ad.add x6.toNat) = some (.string (nX ByteArray.empty t x6))) (first | exact hx | exact HS.D7 (of_eq_true p3) (of_eq_true q3) | go_keep) (first | (go_at_call 107; refine cL (stT HS) H (fun t q b hI hB => HF.unary g _ _ _ t q b w0 _ hI hB) ?_; clear HS H; intro t q b w' A c HS H; (try dsimp only at H); have hx := HS.D7 (of_eq_true p3) (of_eq_true q3)) | (go_at_call 37; refine cJ (stT HS).Ht H (fun t hr hc => qh _ _ _ _ _ _ _ _ _ t _ hr hc) ?_; clear HS H; intro t w' A c HS hb H; clear hb; (try dsimp only at H); have hx := HS.D7 (of_eq_true p3) (of_eq_true q3)))
    go_wp2
    have h_ := H.out; simp only [Option.some.injEq, Prod.mk.injEq] at h_; obtain ⟨rfl, rfl, rfl⟩ := h_
    go_ret
    exact (stT HS).jk (.head _)
   replace H := hE c1 H
   have c1b : decide (x6 < ((3 : Nat) : Int)) = false := decide_eq_false (by omega)
   have c1c : decide (x6 < 3) = false := decide_eq_false (by omega)
   clear c1 hn
   go_wp2_with (first | ((with_reducible refine gC 36 rfl ?_); refine sB 36 rfl Tryz.func36 (stT HS) H (fun t q b hI hB => takeC g _ _ _ _ t q b w0 _ hI hB) ?_; clear HS H; intro t q b w' HS H; cases t <;> (try simp only [if_true, if_false, eq_self, Bool.false_eq_true, Bool.not_true, Bool.not_false] at H)) | ((with_reducible refine gC 107 rfl ?_); refine sL 107 rfl Tryz.func107 (stT HS) H (fun t q b hI hB => HF.unary g _ _ _ t q b w0 _ hI hB) ?_; clear HS H; intro t q b w' A c HS H; (try dsimp only at H)) | ((with_reducible refine bH (N := 34) rfl ?_); refine kR (N := 34) (stT HS) (by first | (go_simp; done) | (go_simp; rfl)) ?_; clear HS; intro A c w' HS) | ((with_reducible refine gC 37 rfl ?_); refine sJ 37 rfl Tryz.func37 (stT HS) H (fun t hr hc => qh _ _ _ _ _ _ _ _ _ t _ hr hc) ?_; clear HS H; intro t w' A c HS H; (try dsimp only at H)) | ((with_reducible refine gC 110 rfl ?_); refine sL 110 rfl Tryz.func110 (stT HS) H (fun t q b hI hB => Jj F HF _ g _ _ _ t q b w0 _ hI hB) ?_; clear HS H; intro t q b w' A c HS H; (try dsimp only at H)))
   all_goals first
    | (have h_ := H.out; simp only [Option.some.injEq, Prod.mk.injEq] at h_; obtain ⟨rfl, rfl, rfl⟩ := h_; go_ret; exact (stT HS).jk (.head _))
    | skip
   (try simp only [Act.put, List.setIfInBounds_toArray, List.set_cons_zero, List.set_cons_succ])
   go_loopg [5] k1 (fun kq v5 w' => ∃ (x5 : List S29) (p : Int) (d : Bool) (A : Option Addr) (c : Nat), v5 = .slice A x5.length c ∧ af (ay.l1 F kq x5 s0 p d = some (r, e1, e2)) ∧ af (kq ≤ k1) ∧ St 47 w0 w w' g s0 p d [(.slice A x5.length c, x5)] [] ⟨[], []⟩)
   case atStart => exact ⟨_, _, _, _, _, rfl, H, ⟨Nat.le_refl _⟩, (stT HS).zk⟩
   case round =>
    clear HS H
    obtain ⟨x5, p, d, A, c, rfl, H, HK2, HS⟩ := hrel
    cases gk with
    | zero => exact absurd H.out (by simp [ay.l1])
    | succ k2 =>
     simp only [ay.l1] at H
     have hc2 := HS.rd.cell2
     cases d <;> (try simp only [if_true, if_false, eq_self, Bool.false_eq_true, Bool.not_true, Bool.not_false] at H)
     all_goals go_wp2_with (first | ((with_reducible refine gC 78 rfl ?_); refine sB 78 rfl Tryz.func78 (stT HS) H (fun t q b hI hB => isC g _ _ _ _ t q b w0 _ hI hB) ?_; clear HS H; intro t q b w' HS H; cases t <;> (try simp only [if_true, if_false, eq_self, Bool.false_eq_true, Bool.not_true, Bool.not_false] at H)) | ((with_reducible refine bH (N := 46) rfl ?_); refine kR (N := 46) (stT HS) (by first | (go_simp; done) | (go_simp; rfl)) ?_; clear HS; intro A c w' HS; replace H := hB H; (try dsimp only at H)) | ((with_reducible refine gC 111 rfl ?_); refine sK 111 rfl Tryz.func111 (stT HS) H (fun t q b hI hB => Hz F HF _ g _ _ _ t q b w0 _ hI hB) ?_; clear HS H; intro t q b w' A c HS H; (try dsimp only at H)) | ((with_reducible refine ed (b := .append) (xs := #[.tmp 48, .tmp 50]) rfl ?_); at_builtin; refine app (N := 51) (.tmp 48) (.tmp 50) rfl Tryz.underlying55 info23 (stT HS) rfl rfl H ?_; clear HS H; intro A c w' HS H) | ((with_reducible refine gC 37 rfl ?_); refine sJ 37 rfl Tryz.func37 (stT HS) H (fun t hr hc => qh _ _ _ _ _ _ _ _ _ t _ hr hc) ?_; clear HS H; intro t w' A c HS H; (try dsimp only at H)) | ((with_reducible refine gC 36 rfl ?_); refine sB 36 rfl Tryz.func36 (stT HS) H (fun t q b hI hB => takeC g _ _ _ _ t q b w0 _ hI hB) ?_; clear HS H; intro t q b w' HS H; cases t <;> (try simp only [if_true, if_false, eq_self, Bool.false_eq_true, Bool.not_true, Bool.not_false] at H)) | ((with_reducible refine gC 100 rfl ?_); refine sL 100 rfl Tryz.func100 (stT HS) H (fun t q b hI hB => HF.expr g _ _ _ t q b w0 _ hI hB) ?_; clear HS H; intro t q b w' A c HS H; (try dsimp only at H)) | ((with_reducible refine bH (N := 59) rfl ?_); refine vF (N := 59) (stT HS) (by first | (go_simp; done) | (go_simp; rfl)) ?_; clear HS; intro A c w' HS) | ((with_reducible refine gC 34 rfl ?_); refine sU 34 rfl Tryz.func34 (stT HS) H (fun q b hI hB => oq g _ _ _ _ q b w0 _ hI hB) ?_; clear HS H; intro q b w' HS H; (try dsimp only at H)))
     all_goals first
      | (go_roundg k2; (case measure => have := HK2.out; omega); (case rel => exact ⟨_, _, _, _, _, by first | rfl | simp, H, ⟨by have := HK2.out; omega⟩, (stT HS).zk⟩))
      | (have h_ := H.out; simp only [Option.some.injEq, Prod.mk.injEq] at h_; obtain ⟨rfl, rfl, rfl⟩ := h_; go_ret; exact (stT HS).jk (.head _))
end Go.Proofs.YtkbhkonenkgfoaaGreat.Q
end
section
namespace Go.Proofs.YtkbhkonenkgfoaaGreat.Q
open Go.RowKit Go.Proofs.YtkbhkonenkgfoaaGreatW.PrintWords Go.Proofs.YtkbhkonenkgfoaaGreatW.PrintLast Go.Proofs.YtkbhkonenkgfoaaGreatW.PrintMore
attribute [local go_sem] iM iL iK iJ dJ dH dS dR cZ cO dI dG
set_option linter.unusedVariables false
set_option linter.unusedSimpArgs false
/-! ### aI: function 104 -/
mutual
def aI.l0 (F : iC) : Nat → Int → List (S29) → Int → List (S37) → Int → Bool → Option ((List (S29)) × Int × Bool)
 | 0, _, _, _, _, _, _ => none
 | k + 1, x1, x5, x6, x1000, x1001, x1002 => if x1002 = true then (aI.j1 F k x1 x5 x6 false x1000 x1001 x1002) else (if x1 = 2 then (aI.j1 F k x1 x5 x6 (x6 == 0) x1000 x1001 x1002) else (aI.j1 F k x1 x5 x6 true x1000 x1001 x1002))
def aI.j1 (F : iC) : Nat → Int → List (S29) → Int → Bool → List (S37) → Int → Bool → Option ((List (S29)) × Int × Bool)
 | 0, _, _, _, _, _, _, _ => none
 | k + 1, x1, x5, x6, x28, x1000, x1001, x1002 => if x28 = true then ((bM.f k x1000 x1001 x1002 x1).bind fun bt1390 => (if bt1390.1.toList = ([] : List UInt8) then (some (x5, bt1390.2.1, bt1390.2.2)) else ((yP.f F k x1000 bt1390.2.1 bt1390.2.2 (wrap64 (x1 + 1))).bind fun bt1393 => ((az.f k 27 0 (⟨#[]⟩ : ByteArray) 0 bt1390.1 (([x5, bt1393.1] : List (List (S29))))).bind fun t1401 => (aI.l0 F k x1 t1401 (wrap64 (x6 + 1)) x1000 bt1393.2.1 bt1393.2.2))))) else (some (x5, x1001, x1002))
end
def aI.f (F : iC) (k : Nat) (s0_0 : List (S37)) (s0_1 : Int) (s0_2 : Bool) (a1 : Int) : Option ((List (S29)) × Int × Bool) := if a1 = 5 then ((ay.f F k s0_0 s0_1 s0_2).bind fun bt1380 => (some (bt1380.1, bt1380.2.1, bt1380.2.2))) else ((yP.f F k s0_0 s0_1 s0_2 (wrap64 (a1 + 1))).bind fun bt1385 => (aI.l0 F k a1 bt1385.1 0 s0_0 bt1385.2.1 bt1385.2.2))
theorem aI.bZ {F F' : iC} (HLE : jT F F') : ∀ k, (∀ y0 y1 y2 y3 y4 y5, LeO (aI.l0 F k y0 y1 y2 y3 y4 y5) (aI.l0 F' (k + 1) y0 y1 y2 y3 y4 y5)) ∧ (∀ y0 y1 y2 y3 y4 y5 y6, LeO (aI.j1 F k y0 y1 y2 y3 y4 y5 y6) (aI.j1 F' (k + 1) y0 y1 y2 y3 y4 y5 y6))
 | 0 => ⟨fun _ _ _ _ _ _ r h => by simp [aI.l0] at h, fun _ _ _ _ _ _ _ r h => by simp [aI.j1] at h⟩
 | k + 1 => by
  obtain ⟨ih0, ih1⟩ := aI.bZ HLE k
  refine ⟨?_, ?_⟩
  ·intro y0 y1 y2 y3 y4 y5
   unfold aI.l0
   have m0 := az.mono
   have m1 := bM.mono
   have m2 := (ay.mono HLE)
   have m3 := (yP.mono HLE)
   exact yL
  intro y0 y1 y2 y3 y4 y5 y6
  unfold aI.j1
  have m0 := az.mono
  have m1 := bM.mono
  have m2 := (ay.mono HLE)
  have m3 := (yP.mono HLE)
  exact yL
theorem aI.mono {F F' : iC} (HLE : jT F F') : ∀ a0 a1 a2 a3 k, LeO (aI.f F k a0 a1 a2 a3) (aI.f F' (k + 1) a0 a1 a2 a3) := by
 intro a0 a1 a2 a3 k
 obtain ⟨ih0, ih1⟩ := aI.bZ HLE k
 unfold aI.f
 have m0 := az.mono
 have m1 := bM.mono
 have m2 := (ay.mono HLE)
 have m3 := (yP.mono HLE)
 exact yL
end Go.Proofs.YtkbhkonenkgfoaaGreat.Q
end
section
namespace Go.Proofs.YtkbhkonenkgfoaaGreat.Q
open Go.RowKit Go.Proofs.YtkbhkonenkgfoaaGreatW.PrintWords Go.Proofs.YtkbhkonenkgfoaaGreatW.PrintLast Go.Proofs.YtkbhkonenkgfoaaGreatW.PrintMore
attribute [local go_sem] iM iL iK iJ dJ dH dS dR cZ cO dI dG
set_option linter.unusedVariables false
set_option linter.unusedSimpArgs false
/-! ### eF: function 100 -/
def eF.f (F : iC) (k : Nat) (s0_0 : List (S37)) (s0_1 : Int) (s0_2 : Bool) : Option ((List (S29)) × Int × Bool) := (aI.f F k s0_0 s0_1 s0_2 0).bind fun bt1404 => (some (bt1404.1, bt1404.2.1, bt1404.2.2))
theorem eF.mono {F F' : iC} (HLE : jT F F') : ∀ a0 a1 a2 k, LeO (eF.f F k a0 a1 a2) (eF.f F' (k + 1) a0 a1 a2) := by
 intro a0 a1 a2 k
 unfold eF.f
 have m0 := (aI.mono HLE)
 exact yL
end Go.Proofs.YtkbhkonenkgfoaaGreat.Q
end
section
set_option linter.unusedVariables false
set_option linter.unusedSimpArgs false
namespace Go.Proofs.YtkbhkonenkgfoaaGreat.Q
open Go Go.RowKit Go.Proofs.YtkbhkonenkgfoaaGreatW.PrintWords Go.Proofs.YtkbhkonenkgfoaaGreatW.PrintLast Go.Proofs.YtkbhkonenkgfoaaGreatW.PrintMore
attribute [local go_sem] l7 lu lq lm
set_option maxHeartbeats 8000000 in
set_option maxRecDepth 100000 in
theorem Jy (F : iC) (HF : nT F) (k : Nat) (g : Nat) (s0 : List S37) (s1 : Int) (s2 : Bool) (a1 : Int) (r : List S29) (e1 : Int) (e2 : Bool) (w0 w : World) (hI : Rd 47 w0 w g s0 s1 s2) (hB : Below w0.heap.size w0 w) (h : aI.f F k s0 s1 s2 a1 = some (r, e1, e2)) :
 Calls Tryz.prog 104 #[.pointer (some ⟨g, 0, none⟩), .int .i64 a1] w (Back 47 w0 w g s0 e1 e2 (IsL w r)) := by
 unfold aI.f at h
 have HS := St.new (T := 47) (by decide) hI hB
 have H := af.mk h
 clear h hI hB
 by_cases c1 : a1 = 5
 ·have H := hI c1 H
  have c1b : (a1 == 5) = true := beq_iff_eq.mpr c1
  subst c1
  go_enter Tryz.func104, Tryz.ntmps104
  go_wp2_with (first | ((with_reducible refine gC 107 rfl ?_); refine sL 107 rfl Tryz.func107 (stT HS) H (fun t q b hI hB => Dv F HF _ g _ _ _ t q b w0 _ hI hB) ?_; clear HS H; intro t q b w' A c HS H; (try dsimp only at H)))
  all_goals
   have h_ := H.out; simp only [Option.some.injEq, Prod.mk.injEq] at h_; obtain ⟨rfl, rfl, rfl⟩ := h_
   go_ret
   exact (stT HS).jk (.head _)
 have H := hE c1 H
 have c1b : (a1 == 5) = false := beq_eq_false_iff_ne.mpr c1
 clear c1
 go_enter Tryz.func104, Tryz.ntmps104
 go_wp2_with (first | ((with_reducible refine gC 104 rfl ?_); refine sL 104 rfl Tryz.func104 (stT HS) H (fun t q b hI hB => HF.at0 g _ _ _ _ t q b w0 _ hI hB) ?_; clear HS H; intro t q b w' A c HS H; (try dsimp only at H)))
 (try simp only [Act.put, List.setIfInBounds_toArray, List.set_cons_zero, List.set_cons_succ])
 go_loopg [5, 6] k (fun kq v5 v6 w' => ∃ (x5 : List S29) (x6 p : Int) (d : Bool) (A : Option Addr) (c : Nat), v5 = .slice A x5.length c ∧ v6 = .int .i64 x6 ∧ af (aI.l0 F kq a1 x5 x6 s0 p d = some (r, e1, e2)) ∧ af (kq ≤ k) ∧ St 47 w0 w w' g s0 p d [(.slice A x5.length c, x5)] [] ⟨[], []⟩)
 case atStart => exact ⟨_, 0, _, _, _, _, rfl, rfl, H, ⟨Nat.le_refl _⟩, stT HS⟩
 case round =>
  clear HS H
  obtain ⟨x5, x6, p, d, A, c, rfl, rfl, H, HK1, HS⟩ := hrel
  cases gk with
  | zero => exact absurd H.out (by simp [aI.l0])
  | succ k1 =>
   cases k1 with
   | zero => exact absurd H.out (by simp [aI.l0, aI.j1])
   | succ k2 =>
   simp only [aI.l0, aI.j1] at H
   have hc2 := HS.rd.cell2
   by_cases c2 : a1 = 2
   all_goals
    first | simp only [if_pos c2] at H | simp only [if_neg c2] at H
    first | (have c2b : (a1 == 2) = true := beq_iff_eq.mpr c2; have c2n : (a1 != 2) = false := bne_eq_false_iff_eq.mpr c2) | (have c2b : (a1 == 2) = false := beq_eq_false_iff_ne.mpr c2; have c2n : (a1 != 2) = true := bne_iff_ne.mpr c2)
   all_goals
    by_cases c3 : x6 = 0
    all_goals
     first | (have c3b : (x6 == 0) = true := beq_iff_eq.mpr c3) | (have c3b : (x6 == 0) = false := beq_eq_false_iff_ne.mpr c3)
     cases d <;> (try simp only [c3b, if_true, if_false, eq_self, Bool.false_eq_true] at H)
   all_goals try clear c2
   all_goals try clear c3
   all_goals go_wp2_with (first | ((with_reducible refine gC 108 rfl ?_); refine sS 108 rfl Tryz.func108 (stT HS) H (fun t q b hI hB => opC _ g _ _ _ _ t q b w0 _ hI hB) ?_; clear HS H; intro t q b w' HS H; (try dsimp only at H); by_cases ct : t.toList = []; all_goals (simp only [ct, if_true, if_false] at H; first | (have ctb : (t.toList == ([] : List UInt8)) = true := beq_iff_eq.mpr ct; clear ct) | (have ctb : (t.toList == ([] : List UInt8)) = false := beq_eq_false_iff_ne.mpr ct; clear ct))) | ((with_reducible refine gC 104 rfl ?_); refine sL 104 rfl Tryz.func104 (stT HS) H (fun t q b hI hB => HF.at0 g _ _ _ _ t q b w0 _ hI hB) ?_; clear HS H; intro t q b w' A c HS H; (try dsimp only at H)) | ((with_reducible refine bH (N := 43) rfl ?_); refine vF (N := 43) (stT HS) (by first | (go_simp; done) | (go_simp; rfl)) ?_; clear HS; intro A c w' HS) | ((with_reducible refine gC 37 rfl ?_); refine sJ 37 rfl Tryz.func37 (stT HS) H (fun t hr hc => qh _ _ _ _ _ _ _ _ _ t _ hr hc) ?_; clear HS H; intro t w' A c HS H; (try dsimp only at H)))
   all_goals first
    | (go_roundg k2; (case measure => have := HK1.out; omega); (case rel => exact ⟨_, _, _, _, _, _, by first | rfl | simp, rfl, H, ⟨by have := HK1.out; omega⟩, (stT HS).zk⟩))
    | (have h_ := H.out; simp only [Option.some.injEq, Prod.mk.injEq] at h_; obtain ⟨rfl, rfl, rfl⟩ := h_; go_ret; exact (stT HS).jk (.head _))
set_option maxHeartbeats 8000000 in
set_option maxRecDepth 100000 in
theorem Jr (F : iC) (HF : nT F) (k : Nat) (g : Nat) (s0 : List S37) (s1 : Int) (s2 : Bool) (r : List S29) (e1 : Int) (e2 : Bool) (w0 w : World) (hI : Rd 47 w0 w g s0 s1 s2) (hB : Below w0.heap.size w0 w) (h : eF.f F k s0 s1 s2 = some (r, e1, e2)) :
 Calls Tryz.prog 100 #[.pointer (some ⟨g, 0, none⟩)] w (Back 47 w0 w g s0 e1 e2 (IsL w r)) := by
 unfold eF.f at h
 have HS := St.new (T := 47) (by decide) hI hB
 have H := af.mk h
 clear h hI hB
 go_enter Tryz.func100, Tryz.ntmps100
 go_wp2_with (first | ((with_reducible refine gC 104 rfl ?_); refine sL 104 rfl Tryz.func104 (stT HS) H (fun t q b hI hB => Jy F HF _ g _ _ _ _ t q b w0 _ hI hB) ?_; clear HS H; intro t q b w' A c HS H; (try dsimp only at H)))
 all_goals
  have h_ := H.out; simp only [Option.some.injEq, Prod.mk.injEq] at h_; obtain ⟨rfl, rfl, rfl⟩ := h_
  go_ret
  exact (stT HS).jk (.head _)
end Go.Proofs.YtkbhkonenkgfoaaGreat.Q
end
section
namespace Go.Proofs.YtkbhkonenkgfoaaGreat.Q
open Go.RowKit Go.Proofs.YtkbhkonenkgfoaaGreatW.PrintWords Go.Proofs.YtkbhkonenkgfoaaGreatW.PrintLast Go.Proofs.YtkbhkonenkgfoaaGreatW.PrintMore
attribute [local go_sem] iM iL iK iJ dJ dH dS dR cZ cO dI dG
set_option linter.unusedVariables false
set_option linter.unusedSimpArgs false
/-! ### aJ: function 17 -/
mutual
def aJ.l0 (F : iC) : Nat → List (List (S29)) → ByteArray → Int → List (S37) → Int → Bool → Option ((List (S29)) × Int × Bool)
 | 0, _, _, _, _, _, _ => none
 | k + 1, x3, x4, x5, x1000, x1001, x1002 => (bC.f x1000 x1001 x1002 (⟨#[117, 115, 101]⟩ : ByteArray)).bind fun bt1121 => (if bt1121.1 = true then ((jJ.f x1000 bt1121.2.1 bt1121.2.2 1).bind fun bt1124 => ((bg.f x1000 bt1124.2.2.2.2.1 bt1124.2.2.2.2.2 (⟨#[46]⟩ : ByteArray)).bind fun bt1131 => ((jJ.f x1000 bt1131.1 bt1131.2 1).bind fun bt1133 => ((bg.f x1000 bt1133.2.2.2.2.1 bt1133.2.2.2.2.2 (⟨#[47]⟩ : ByteArray)).bind fun bt1139 => ((jJ.f x1000 bt1139.1 bt1139.2 2).bind fun bt1141 => ((bg.f x1000 bt1141.2.2.2.2.1 bt1141.2.2.2.2.2 (⟨#[59]⟩ : ByteArray)).bind fun bt1147 => (if x3.length < 5864062014805 then (aJ.l0 F k (x3 ++ [(([(⟨2, 0, bt1124.2.1, bt1141.2.2.1, bt1133.2.1⟩ : S29)] : List (S29)))]) x4 x5 x1000 bt1147.1 bt1147.2) else (none)))))))) else (aJ.l1 F k x3 x4 x5 x1000 bt1121.2.1 bt1121.2.2))
def aJ.l1 (F : iC) : Nat → List (List (S29)) → ByteArray → Int → List (S37) → Int → Bool → Option ((List (S29)) × Int × Bool)
 | 0, _, _, _, _, _, _ => none
 | k + 1, x3, x4, x5, x1000, x1001, x1002 => (bC.f x1000 x1001 x1002 (⟨#[102, 110]⟩ : ByteArray)).bind fun bt1155 => (if bt1155.1 = true then ((jJ.f x1000 bt1155.2.1 bt1155.2.2 1).bind fun bt1158 => ((dC.f F k x1000 bt1158.2.2.2.2.1 bt1158.2.2.2.2.2).bind fun bt1164 => ((az.f k 3 0 bt1158.2.1 0 (⟨#[]⟩ : ByteArray) bt1164.1).bind fun t1169 => (if x3.length < 5864062014805 then (aJ.l1 F k (x3 ++ [t1169]) x4 x5 x1000 bt1164.2.1 bt1164.2.2) else (none))))) else ((az.f k 1 0 x4 x5 (⟨#[]⟩ : ByteArray) x3).bind fun t1175 => (some (t1175, bt1155.2.1, bt1155.2.2))))
end
def aJ.f (F : iC) (k : Nat) (s0_0 : List (S37)) (s0_1 : Int) (s0_2 : Bool) : Option ((List (S29)) × Int × Bool) := (bg.f s0_0 s0_1 s0_2 (⟨#[109, 111, 100, 117, 108, 101]⟩ : ByteArray)).bind fun bt1105 => ((jJ.f s0_0 bt1105.1 bt1105.2 1).bind fun bt1107 => ((jJ.f s0_0 bt1107.2.2.2.2.1 bt1107.2.2.2.2.2 2).bind fun bt1113 => ((bg.f s0_0 bt1113.2.2.2.2.1 bt1113.2.2.2.2.2 (⟨#[59]⟩ : ByteArray)).bind fun bt1119 => (aJ.l0 F k ([] : List (List (S29))) bt1107.2.1 bt1113.2.2.1 s0_0 bt1119.1 bt1119.2))))
theorem aJ.bZ {F F' : iC} (HLE : jT F F') : ∀ k, (∀ y0 y1 y2 y3 y4 y5, LeO (aJ.l0 F k y0 y1 y2 y3 y4 y5) (aJ.l0 F' (k + 1) y0 y1 y2 y3 y4 y5)) ∧ (∀ y0 y1 y2 y3 y4 y5, LeO (aJ.l1 F k y0 y1 y2 y3 y4 y5) (aJ.l1 F' (k + 1) y0 y1 y2 y3 y4 y5))
 | 0 => ⟨fun _ _ _ _ _ _ r h => by simp [aJ.l0] at h, fun _ _ _ _ _ _ r h => by simp [aJ.l1] at h⟩
 | k + 1 => by
  obtain ⟨ih0, ih1⟩ := aJ.bZ HLE k
  refine ⟨?_, ?_⟩
  ·intro y0 y1 y2 y3 y4 y5
   unfold aJ.l0
   have m0 := az.mono
   have m1 := (dC.mono HLE)
   exact yL
  intro y0 y1 y2 y3 y4 y5
  unfold aJ.l1
  have m0 := az.mono
  have m1 := (dC.mono HLE)
  exact yL
theorem aJ.mono {F F' : iC} (HLE : jT F F') : ∀ a0 a1 a2 k, LeO (aJ.f F k a0 a1 a2) (aJ.f F' (k + 1) a0 a1 a2) := by
 intro a0 a1 a2 k
 obtain ⟨ih0, ih1⟩ := aJ.bZ HLE k
 unfold aJ.f
 have m0 := az.mono
 have m1 := (dC.mono HLE)
 exact yL
end Go.Proofs.YtkbhkonenkgfoaaGreat.Q
end
section
set_option linter.unusedVariables false
set_option linter.unusedSimpArgs false
namespace Go.Proofs.YtkbhkonenkgfoaaGreat.Q
open Go Go.RowKit Go.Proofs.YtkbhkonenkgfoaaGreatW.PrintWords Go.Proofs.YtkbhkonenkgfoaaGreatW.PrintLast Go.Proofs.YtkbhkonenkgfoaaGreatW.PrintMore
attribute [local go_sem] l7 lu lq lm
set_option maxHeartbeats 8000000 in
set_option maxRecDepth 100000 in
theorem Gm (F : iC) (HF : nT F) (k : Nat) (g : Nat) (s0 : List S37) (s1 : Int) (s2 : Bool) (r : List S29) (e1 : Int) (e2 : Bool) (w0 w : World) (hI : Rd 47 w0 w g s0 s1 s2) (hB : Below w0.heap.size w0 w) (h : aJ.f F k s0 s1 s2 = some (r, e1, e2)) :
 Calls Tryz.prog 17 #[.pointer (some ⟨g, 0, none⟩)] w (Back 47 w0 w g s0 e1 e2 (IsL w r)) := by
 unfold aJ.f at h
 have HS := St.new (T := 47) (by decide) hI hB
 have H := af.mk h
 clear h hI hB
 go_enter Tryz.func17, Tryz.ntmps17
 go_wp2_with (first | ((with_reducible refine gC 34 rfl ?_); refine sU 34 rfl Tryz.func34 (stT HS) H (fun q b hI hB => oq g _ _ _ _ q b w0 _ hI hB) ?_; clear HS H; intro q b w' HS H; (try dsimp only at H)) | ((with_reducible refine bH (N := 11) rfl ?_); (with_reducible refine gC 35 rfl ?_); refine sN 35 rfl Tryz.func35 (stT HS) H (fun t1 t2 t3 t4 q b hI hB => uj g _ _ _ _ t1 t2 t3 t4 q b w0 _ hI hB) ?_; clear HS H; intro n1 nm n3 n4 q b w' HS H; (try dsimp only at H)) | ((with_reducible refine bH (N := 14) rfl ?_); (with_reducible refine gC 35 rfl ?_); refine sN 35 rfl Tryz.func35 (stT HS) H (fun t1 t2 t3 t4 q b hI hB => uj g _ _ _ _ t1 t2 t3 t4 q b w0 _ hI hB) ?_; clear HS H; intro m1 m2 vn m4 q b w' HS H; (try dsimp only at H)))
 (try simp only [Act.put, List.setIfInBounds_toArray, List.set_cons_zero, List.set_cons_succ])
 go_loopg [3] k (fun kq v3 w' => ∃ (x3 : List (List S29)) (p : Int) (d : Bool) (A : Option Addr) (c : Nat), v3 = .slice A x3.length c ∧ af (aJ.l0 F kq x3 nm vn s0 p d = some (r, e1, e2)) ∧ af (kq ≤ k) ∧ St 47 w0 w w' g s0 p d [] [(.slice A x3.length c, x3)] ⟨[], []⟩)
 case atStart => exact ⟨[], _, _, none, 0, rfl, H, ⟨Nat.le_refl _⟩, (stT HS).clear.sZ⟩
 case round =>
  clear HS H
  obtain ⟨x3, p, d, A, c, rfl, H, HK1, HS⟩ := hrel
  cases gk with
  | zero => exact absurd H.out (by simp [aJ.l0])
  | succ k1 =>
   simp only [aJ.l0] at H
   go_wp2_with (first | ((with_reducible refine gC 36 rfl ?_); refine sB 36 rfl Tryz.func36 (stT HS) H (fun t q b hI hB => takeC g _ _ _ _ t q b w0 _ hI hB) ?_; clear HS H; intro t q b w' HS H; cases t <;> (try simp only [if_true, if_false, eq_self, Bool.false_eq_true, Bool.not_true, Bool.not_false] at H)) | ((with_reducible refine bH (N := 21) rfl ?_); (with_reducible refine gC 35 rfl ?_); refine sN 35 rfl Tryz.func35 (stT HS) H (fun t1 t2 t3 t4 q b hI hB => uj g _ _ _ _ t1 t2 t3 t4 q b w0 _ hI hB) ?_; clear HS H; intro t1 t2 t3 t4 q b w' HS H; (try dsimp only at H)) | ((with_reducible refine bH (N := 6) rfl ?_); have HS0 := HS; refine boxS (N := 6) (cs := #[.int .i64 0, .int .i64 0, .string (⟨#[]⟩ : ByteArray), .int .i64 0, .string (⟨#[]⟩ : ByteArray)]) (t := 29) (St.new (T := 47) (by decide) HS0.rd HS0.below) (by first | (go_simp; done) | (go_simp; rfl)) ?_; clear HS; intro gb w' HS hne hge; have hnc := Ne.symm hne; have hb_ := HS.box rfl; have hx0 := (ag hb_ 0).trans rfl; have hf0 := ae hb_ 0; have hx1 := (ag hb_ 1).trans rfl; have hf1 := ae hb_ 1; have hx2 := (ag hb_ 2).trans rfl; have hf2 := ae hb_ 2; have hx3 := (ag hb_ 3).trans rfl; have hf3 := ae hb_ 3; have hx4 := (ag hb_ 4).trans rfl; have hf4 := ae hb_ 4; clear hb_) | ((with_reducible refine gC 34 rfl ?_); refine sU 34 rfl Tryz.func34 (stB hge HS) H (fun q b hI hB => oq g _ _ _ _ q b w0 _ hI hB) ?_; clear HS H; intro q b w' HS H; (try dsimp only at H); clear hx0 hx1 hx2 hx3 hx4 hf0 hf1 hf2 hf3 hf4; have hb_ := HS.box rfl; have hx0 := (ag hb_ 0).trans rfl; have hf0 := ae hb_ 0; have hx1 := (ag hb_ 1).trans rfl; have hf1 := ae hb_ 1; have hx2 := (ag hb_ 2).trans rfl; have hf2 := ae hb_ 2; have hx3 := (ag hb_ 3).trans rfl; have hf3 := ae hb_ 3; have hx4 := (ag hb_ 4).trans rfl; have hf4 := ae hb_ 4; clear hb_) | ((with_reducible refine gC 35 rfl ?_); refine sN 35 rfl Tryz.func35 (stB hge HS) H (fun t1 t2 t3 t4 q b hI hB => uj g _ _ _ _ t1 t2 t3 t4 q b w0 _ hI hB) ?_; clear HS H; intro t1 t2 t3 t4 q b w' HS H; (try dsimp only at H); clear hx0 hx1 hx2 hx3 hx4 hf0 hf1 hf2 hf3 hf4; have hb_ := HS.box rfl; have hx0 := (ag hb_ 0).trans rfl; have hf0 := ae hb_ 0; have hx1 := (ag hb_ 1).trans rfl; have hf1 := ae hb_ 1; have hx2 := (ag hb_ 2).trans rfl; have hf2 := ae hb_ 2; have hx3 := (ag hb_ 3).trans rfl; have hf3 := ae hb_ 3; have hx4 := (ag hb_ 4).trans rfl; have hf4 := ae hb_ 4; clear hb_) | ((with_reducible refine bH (N := 40) rfl ?_); have HS := HS0.step HS.keep HS.rd HS.below; clear hx0 hx1 hx2 hx3 hx4 hf0 hf1 hf2 hf3 hf4; refine vG (N := 40) (stT HS) (by first | (go_simp; done) | (go_simp; rfl)) ?_; clear HS; intro A c w' HS) | ((with_reducible refine bH (N := 41) rfl ?_); refine kR (N := 41) (stT HS) (by first | (go_simp; done) | (go_simp; rfl)) ?_; clear HS; intro A c w' HS) | ((with_reducible refine ed (b := .append) (xs := #[.tmp 38, .tmp 41]) rfl ?_); at_builtin; refine app (N := 42) (.tmp 38) (.tmp 41) rfl Tryz.underlying55 info23 (stT HS) rfl rfl H ?_; clear HS H; intro A c w' HS H))
   all_goals first
    | (go_roundg k1; (case measure => have := HK1.out; omega); (case rel => exact ⟨_, _, _, _, _, by first | rfl | simp, H, ⟨by have := HK1.out; omega⟩, stT HS⟩))
    | skip
   (try simp only [Act.put, List.setIfInBounds_toArray, List.set_cons_zero, List.set_cons_succ])
   go_loopg [3] k1 (fun kq v3 w' => ∃ (x3 : List (List S29)) (p : Int) (d : Bool) (A : Option Addr) (c : Nat), v3 = .slice A x3.length c ∧ af (aJ.l1 F kq x3 nm vn s0 p d = some (r, e1, e2)) ∧ af (kq ≤ k1) ∧ St 47 w0 w w' g s0 p d [] [(.slice A x3.length c, x3)] ⟨[], []⟩)
   case atStart => exact ⟨_, _, _, _, _, rfl, H, ⟨Nat.le_refl _⟩, stT HS⟩
   case round =>
    clear HS H
    obtain ⟨x3, p, d, A, c, rfl, H, HK2, HS⟩ := hrel
    cases gk with
    | zero => exact absurd H.out (by simp [aJ.l1])
    | succ k2 =>
     simp only [aJ.l1] at H
     go_wp2_with (first | ((with_reducible refine gC 36 rfl ?_); refine sB 36 rfl Tryz.func36 (stT HS) H (fun t q b hI hB => takeC g _ _ _ _ t q b w0 _ hI hB) ?_; clear HS H; intro t q b w' HS H; cases t <;> (try simp only [if_true, if_false, eq_self, Bool.false_eq_true, Bool.not_true, Bool.not_false] at H)) | ((with_reducible refine gC 35 rfl ?_); refine sN 35 rfl Tryz.func35 (stT HS) H (fun t1 t2 t3 t4 q b hI hB => uj g _ _ _ _ t1 t2 t3 t4 q b w0 _ hI hB) ?_; clear HS H; intro t1 t2 t3 t4 q b w' HS H; (try dsimp only at H)) | ((with_reducible refine gC 38 rfl ?_); refine sK 38 rfl Tryz.func38 (stT HS) H (fun t q b hI hB => wW F HF _ g _ _ _ t q b w0 _ hI hB) ?_; clear HS H; intro t q b w' A c HS H; (try dsimp only at H)) | ((with_reducible refine gC 37 rfl ?_); refine sJ 37 rfl Tryz.func37 (stT HS) H (fun t hr hc => qh _ _ _ _ _ _ _ _ _ t _ hr hc) ?_; clear HS H; intro t w' A c HS H; (try dsimp only at H)) | ((with_reducible refine bH (N := 54) rfl ?_); refine kR (N := 54) (stT HS) (by first | (go_simp; done) | (go_simp; rfl)) ?_; clear HS; intro A c w' HS) | ((with_reducible refine ed (b := .append) (xs := #[.tmp 48, .tmp 54]) rfl ?_); at_builtin; refine app (N := 55) (.tmp 48) (.tmp 54) rfl Tryz.underlying55 info23 (stT HS) rfl rfl H ?_; clear HS H; intro A c w' HS H))
     all_goals first
      | (go_roundg k2; (case measure => have := HK2.out; omega); (case rel => exact ⟨_, _, _, _, _, by first | rfl | simp, H, ⟨by have := HK2.out; omega⟩, stT HS⟩))
      | (have h_ := H.out; simp only [Option.some.injEq, Prod.mk.injEq] at h_; obtain ⟨rfl, rfl, rfl⟩ := h_; go_ret; exact (stT HS).jk (.head _))
end Go.Proofs.YtkbhkonenkgfoaaGreat.Q
end
section
namespace Go.Proofs.YtkbhkonenkgfoaaGreat.Q
open Go.RowKit Go.Proofs.YtkbhkonenkgfoaaGreatW.PrintWords Go.Proofs.YtkbhkonenkgfoaaGreatW.PrintLast Go.Proofs.YtkbhkonenkgfoaaGreatW.PrintMore
attribute [local go_sem] dJ dH dS dR cZ cO dI dG
set_option linter.unusedVariables false
set_option linter.unusedSimpArgs false
/-! ### ak: function 40 -/
mutual
def ak.l0 : Nat → List (S29) → List Int → Int → Int → Option (Int)
 | 0, _, _, _, _ => none
 | k + 1, x0, x3, x4, x5 => if x5 < (x0.length : Int) then ((aG.f k x0 x5).bind fun t1178 => (if t1178 < 0 then (some (-1)) else (if (x3.length : Int) > 0 then (if 0 ≤ (wrap64 ((x3.length : Int) - 1)) then (if (wrap64 ((x3.length : Int) - 1)) < (x3.length : Int) then (ak.j1 k x0 (x3.set ((wrap64 ((x3.length : Int) - 1)) : Int).toNat (wrap64 ((rd x3 (wrap64 ((x3.length : Int) - 1))) - 1))) x4 x5) else (none)) else (none)) else (ak.j1 k x0 x3 x4 x5)))) else (some x4)
def ak.j1 : Nat → List (S29) → List Int → Int → Int → Option (Int)
 | 0, _, _, _, _ => none
 | k + 1, x0, x3, x4, x5 => if 0 ≤ x5 then (if x5 < (x0.length : Int) then (if x3.length < 17592186044416 then ((some (x3 ++ [(ax x0 x5).f1] : List Int)).bind fun y1182 => (if (y1182.length : Int) > x4 then (ak.j2 k x0 y1182 (y1182.length : Int) x5) else (ak.j2 k x0 y1182 x4 x5))) else (none)) else (none)) else (none)
def ak.j2 : Nat → List (S29) → List Int → Int → Int → Option (Int)
 | 0, _, _, _, _ => none
 | k + 1, x0, x3, x4, x5 => ak.l1 k x0 x3 x4 x5
def ak.l1 : Nat → List (S29) → List Int → Int → Int → Option (Int)
 | 0, _, _, _, _ => none
 | k + 1, x0, x3, x4, x5 => if (x3.length : Int) > 0 then (if 0 ≤ (wrap64 ((x3.length : Int) - 1)) then (if (wrap64 ((x3.length : Int) - 1)) < (x3.length : Int) then (if (rd x3 (wrap64 ((x3.length : Int) - 1))) = 0 then (if (wrap64 ((x3.length : Int) - 1)) ≤ (x3.length : Int) then (ak.l1 k x0 (x3.take ((wrap64 ((x3.length : Int) - 1)) : Int).toNat) x4 x5) else (none)) else (ak.l0 k x0 x3 x4 (wrap64 (x5 + 1)))) else (none)) else (none)) else (ak.l0 k x0 x3 x4 (wrap64 (x5 + 1)))
end
def ak.f (k : Nat) (l0 : List (S29)) : Option (Int) := ak.l0 k l0 ([] : List Int) 0 0
theorem ak.bZ : ∀ k, (∀ y0 y1 y2 y3, LeO (ak.l0 k y0 y1 y2 y3) (ak.l0 (k + 1) y0 y1 y2 y3)) ∧ (∀ y0 y1 y2 y3, LeO (ak.j1 k y0 y1 y2 y3) (ak.j1 (k + 1) y0 y1 y2 y3)) ∧ (∀ y0 y1 y2 y3, LeO (ak.j2 k y0 y1 y2 y3) (ak.j2 (k + 1) y0 y1 y2 y3)) ∧ (∀ y0 y1 y2 y3, LeO (ak.l1 k y0 y1 y2 y3) (ak.l1 (k + 1) y0 y1 y2 y3))
 | 0 => ⟨fun _ _ _ _ r h => by simp [ak.l0] at h, fun _ _ _ _ r h => by simp [ak.j1] at h, fun _ _ _ _ r h => by simp [ak.j2] at h, fun _ _ _ _ r h => by simp [ak.l1] at h⟩
 | k + 1 => by
  obtain ⟨ih0, ih1, ih2, ih3⟩ := ak.bZ k
  refine ⟨?_, ?_, ?_, ?_⟩
  ·intro y0 y1 y2 y3
   unfold ak.l0
   have m0 := aG.mono
   exact yL
  ·intro y0 y1 y2 y3
   unfold ak.j1
   have m0 := aG.mono
   exact yL
  ·intro y0 y1 y2 y3
   unfold ak.j2
   have m0 := aG.mono
   exact yL
  intro y0 y1 y2 y3
  unfold ak.l1
  have m0 := aG.mono
  exact yL
theorem ak.mono : ∀ a0 k, LeO (ak.f k a0) (ak.f (k + 1) a0) := by
 intro a0 k
 obtain ⟨ih0, ih1, ih2, ih3⟩ := ak.bZ k
 unfold ak.f
 have m0 := aG.mono
 exact yL
set_option maxHeartbeats 8000000 in
set_option maxRecDepth 100000 in
theorem ak.calls (k : Nat) (A0 : Option Addr) (c0 : Nat) (l0 : List (S29)) (r : Int) (w : World) (hr0 : Kd.C k29 w A0 l0.length l0) (hc0 : l0.length ≤ c0) (h : ak.f k l0 = some r) :
 Calls Tryz.prog 40 #[.slice A0 l0.length c0] w fun e w' => e = .returned (.int .i64 r) ∧ Below w.heap.size w w' := by
 have HR0 := af.mk hr0
 have HC0 := af.mk hc0
 clear hr0 hc0
 have HB := af.mk (Below.refl w.heap.size w)
 have H := h
 clear h
 unfold ak.f at H
 have H' := af.mk H
 clear H
 go_enter Tryz.func40, Tryz.ntmps40
 go_wp2
 go_loopg [3, 4, 5] k (fun kq v3 v4 v5 w' => ∃ (x3_1 : List Int) (x4_1 : Int) (x5_1 : Int), v4 = .int .i64 x4_1 ∧ v5 = .int .i64 x5_1 ∧ af (ak.l0 kq l0 x3_1 x4_1 x5_1 = some r) ∧ af (kq ≤ k) ∧ af (Kd.R (Kd.int .i64) 3 w' w.heap.size (fun _ => True) v3 x3_1) ∧ af (Below w.heap.size w w'))
 case atStart => exact ⟨(([] : List Int)), (0), (0), fT, fT, H', ⟨Nat.le_refl _⟩, ⟨Z7⟩, ⟨bT HB⟩⟩
 case round =>
  clear H'
  obtain ⟨x3_1, x4_1, x5_1, rfl, rfl, HA, HK1, HO_3, HB⟩ := hrel
  cases gk with
  | zero => exact absurd HA.out (by simp [ak.l0])
  | succ k1 =>
   have H := HA.out
   clear HA
   simp only [ak.l0] at H
   revert H
   refine iR (fun c2b0 H => ?_) fun c2b0 H => ?_
   ·revert H
    refine yB1 fun t1178 A3 H => ?_
    revert H
    refine iR (fun c4b0 H => ?_) fun c4b0 H => ?_
    ·obtain rfl := Option.some.inj H
     go_wp2_with (first | ((with_reducible refine gC 39 rfl ?_); refine gM 39 14 rfl Tryz.func39 (aG.calls k1 _ _ l0 x5_1 t1178 _ Z3 HC0.out A3.out) ?_; rintro _ w' ⟨rfl, ⟨nd, rfl⟩⟩; refine ⟨_, rfl, ?_⟩))
     go_ret
     exact ⟨eT, bT HB⟩
    have HC5 := af.mk H
    clear H
    go_upto_if 18 with (first | ((with_reducible refine gC 39 rfl ?_); refine gM 39 14 rfl Tryz.func39 (aG.calls k1 _ _ l0 x5_1 t1178 _ Z3 HC0.out A3.out) ?_; rintro _ w' ⟨rfl, ⟨nd, rfl⟩⟩; refine ⟨_, rfl, ?_⟩; obtain ⟨Ao6, co6, rfl⟩ := Kd.fG HO_3.out))
    (try simp only [Act.put, List.setIfInBounds_toArray, List.set_cons_zero, List.set_cons_succ])
    go_cut [] (fun wc => ∃ (kq : Nat) (x3_4 : List Int), af (ak.j1 kq l0 x3_4 x4_1 x5_1 = some r) ∧ af (kq ≤ k1) ∧ af (Kd.R (Kd.int .i64) 3 wc w.heap.size (fun _ => True) (.slice Ao6 x3_1.length co6) x3_4) ∧ af (Below w.heap.size w wc))
    case first =>
     have H := HC5.out
     clear HC5
     revert H
     refine gU (fun c7 H => ?_) fun c7 H => ?_
     ·have c7b0 : decide (0 < (x3_1.length : Int)) = true := decide_eq_true c7
      have c7b1 : decide (0 < x3_1.length) = true := decide_eq_true (by omega)
      clear c7
      (first | rw [c7b1] | rw [c7b0] | (simp only [fP, gG]; rw [c7b0]) | skip)
      obtain ⟨ji8, hji8⟩ : ∃ j_ : Int, (wrap64 ((x3_1.length : Int) - 1)) = j_ := ⟨_, rfl⟩
      replace H : (if 0 ≤ (ji8) then (if (ji8) < (x3_1.length : Int) then (ak.j1 k1 l0 (x3_1.set ((ji8) : Int).toNat (wrap64 ((rd x3_1 (ji8)) - 1))) x4_1 x5_1) else (none)) else (none)) = some r := by first | (rw [hji8] at H; exact H) | (simp only [hji8] at H ⊢; exact H)
      have hji8w : (IntKind.i64.wrap ((x3_1.length : Int) - 1)) = ji8 := (fP _).trans hji8
      revert H
      refine gB (fun c9b0 H => ?_) fun c9 H => ?_
      ·revert H
       refine gB (fun c10b0 H => ?_) fun c10 H => ?_
       ·obtain ⟨y1180, hy1180⟩ : ∃ y_ : List Int, y_ = (x3_1.set ((ji8) : Int).toNat (wrap64 ((rd x3_1 (ji8)) - 1))) := ⟨_, rfl⟩
        replace H : (ak.j1 k1 l0 y1180 x4_1 x5_1) = some r := by first | (rw [hy1180]; with_reducible exact H) | (have H2_ := (Option.bind_some _ _).symm.trans H; rw [hy1180]; with_reducible exact H2_) | (have H2_ := (Option.bind_some _ _).symm.trans H; with_reducible exact H2_) | with_reducible exact H | (rw [hy1180]; exact H) | exact H
        have Ny1180 := af.mk hy1180
        clear hy1180
        have H' := af.mk H
        clear H
        have p1179 : 0 ≤ ((ji8) : Int) := of_decide_eq_true aT
        have q1179 : (ji8) < (x3_1.length : Int) := of_decide_eq_true aT
        obtain ⟨ad1179, e1179, hx1179_0⟩ := Kd.fO (Kd.dU HO_3.out).2.2 (ji8) p1179 q1179
        cases e1179
        replace p1179 := eq_true p1179
        replace q1179 := eq_true q1179
        have p11 : 0 ≤ ((ji8) : Int) := of_decide_eq_true aT
        have q11 : ((ji8) : Int) < ((x3_1.length : Int) : Int) := of_decide_eq_true aT
        obtain ⟨go11, co11, eo11, gb11, gl11, cl11, HG11⟩ := Kd.EZ HO_3.out (by omega)
        (first | cases eo11 | (injection eo11 with ea_ en_ ec_; (first | subst ea_ | (injection ea_ with ea_; subst ea_)); subst ec_; clear en_))
        have GB11 := af.mk gb11
        have GG11 := af.mk HG11
        clear gb11 gl11 HG11
        (first | simp only [add_plain] at hx1179_0 | skip)
        obtain ⟨hx11_0, hf11_0⟩ := Kd.BM 0 HO_3.out ((ji8) : Int) p11 q11
        replace p11 := eq_true p11
        replace q11 := eq_true q11
        have HP12 := Kd.EW HO_3.out ((ji8) : Int) (wrap64 ((rd x3_1 (ji8)) - 1))
        go_wp2
        go_meet
        case rel => exact ⟨_, (y1180), H', ⟨by have := HK1.out; first | omega | exact Nat.le_refl _⟩, ⟨by first | (rw [dwS, Ny1180.out]; exact Kd.iI HP12.1 _) | exact HO_3.out⟩, ⟨by first | (rw [dwS]; exact gI (jc HB.out GB11.out) _) | repeat (first | (with_reducible first | exact HB.out | apply iE | apply gI | apply fV) | exact HB.out)⟩⟩
       exact absurd H (by simp)
      exact absurd H (by simp)
     have c7b0 : decide (0 < (x3_1.length : Int)) = false := decide_eq_false c7
     have c7b1 : decide (0 < x3_1.length) = false := decide_eq_false (by omega)
     clear c7
     (first | rw [c7b1] | rw [c7b0] | (simp only [fP, gG]; rw [c7b0]) | skip)
     have H' := af.mk H
     clear H
     go_wp2
     go_meet
     case rel => exact ⟨_, (x3_1), H', ⟨by have := HK1.out; first | omega | exact Nat.le_refl _⟩, ⟨qR HO_3⟩, ⟨bT HB⟩⟩
    case rest =>
     clear HC5
     try clear c1
     try clear p1
     try clear q1
     try clear hx1
     try clear hf1
     try clear c2
     try clear c2b0
     try clear p2
     try clear c3
     try clear c4
     try clear c4b0
     try clear p6
     try clear c7
     try clear c7b0
     try clear c7b1
     try clear c9
     try clear c9b0
     try clear c10
     try clear c10b0
     try clear p11
     try clear q11
     try clear hx11
     try clear hf11
     try clear hx1179_0
     try clear hx11_0
     try clear p11
     try clear p1179
     try clear q11
     try clear q1179
     obtain ⟨kq, x3_4, HA, HJ4, HO_3, HB⟩ := hcut
     have hl3_4 := (Kd.dU HO_3.out).1
     rw [hl3_4] at HO_3
     (try simp only [hl3_4])
     cases kq with
     | zero => exact absurd HA.out (by simp [ak.j1])
     | succ kj4 =>
      have H := HA.out
      clear HA
      simp only [ak.j1] at H
      revert H
      refine gB (fun c14b0 H => ?_) fun c14 H => ?_
      ·revert H
       refine gB (fun c15b0 H => ?_) fun c15 H => ?_
       ·revert H
        refine gU (fun c16 H => ?_) fun c16 H => ?_
        ·have LMc16 := af.mk c16
         clear c16
         obtain ⟨y1182, hy1182⟩ : ∃ y_ : List Int, y_ = (x3_4 ++ [(ax l0 x5_1).f1]) := ⟨_, rfl⟩
         replace H : (if (y1182.length : Int) > x4_1 then (ak.j2 kj4 l0 y1182 (y1182.length : Int) x5_1) else (ak.j2 kj4 l0 y1182 x4_1 x5_1)) = some r := by first | (rw [hy1182]; with_reducible exact H) | (have H2_ := (Option.bind_some _ _).symm.trans H; rw [hy1182]; with_reducible exact H2_) | (have H2_ := (Option.bind_some _ _).symm.trans H; with_reducible exact H2_) | with_reducible exact H | (rw [hy1182]; exact H) | exact H
         have Ny1182 := af.mk hy1182
         clear hy1182
         have HC17 := af.mk H
         clear H
         have p1181 : 0 ≤ (x5_1 : Int) := of_decide_eq_true aT
         have q1181 : x5_1 < (l0.length : Int) := of_decide_eq_true aT
         obtain ⟨ad1181, e1181, hx1181_0, hx1181_1, hx1181_2, hx1181_3, hx1181_4⟩ := iO HR0.out x5_1 p1181 q1181
         cases e1181
         replace hx1181_0 := (HB.out.cell (World.block_lt_of_cell? w _ hx1181_0)).trans hx1181_0
         replace hx1181_1 := (HB.out.cell (World.block_lt_of_cell? w _ hx1181_1)).trans hx1181_1
         replace hx1181_2 := (HB.out.cell (World.block_lt_of_cell? w _ hx1181_2)).trans hx1181_2
         replace hx1181_3 := (HB.out.cell (World.block_lt_of_cell? w _ hx1181_3)).trans hx1181_3
         replace hx1181_4 := (HB.out.cell (World.block_lt_of_cell? w _ hx1181_4)).trans hx1181_4
         replace p1181 := eq_true p1181
         replace q1181 := eq_true q1181
         go_upto_if 42 with (first | ((with_reducible refine ed (b := .append) (xs := #[.tmp 31, .tmp 37]) rfl ?_); (try (refine pF (by rfl) ?_; dsimp only)); at_builtin; refine Kd.lZ (Kd.int .i64) (w0 := w) w.heap.size rfl (.tmp 31) (.tmp 37) 60 3 (.int .i64 0) 8 rfl Tryz.underlying60 info3 rfl (by decide) (by omega) (.slice Ao6 x3_4.length co6) x3_4 ((ax l0 x5_1).f1) [.int .i64 ((ax l0 x5_1).f1)] (fun _ => True) (fun _ => False) rfl rfl ?aP (fun _ hk => hk.elim) ?aF ?aO ?aB ?aS ?aL ?_; (case aP => exact rfl); (case aB => exact (bT HB)); (case aF => exact (fun _ _ => trivial)); (case aO => exact (qR HO_3)); (case aS => exact (bD (bT HB))); (case aL => have := LMc16.out; omega); intro v1183 w18 ho hb hg hat; rw [← Ny1182.out] at ho; refine yA2 (hb) (ho) ?_; clear HB HO_3; intro HB HO1184; clear ho hb hg hat; obtain ⟨Ao19, co19, rfl⟩ := Kd.fG HO1184.out))
         (try simp only [Act.put, List.setIfInBounds_toArray, List.set_cons_zero, List.set_cons_succ])
         go_cut [4] (fun v4 wc => ∃ (kq : Nat) (x4_16 : Int), v4 = .int .i64 x4_16 ∧ af (ak.j2 kq l0 y1182 x4_16 x5_1 = some r) ∧ af (kq ≤ kj4) ∧ af (Kd.R (Kd.int .i64) 3 wc w.heap.size (fun _ => True) (.slice Ao19 y1182.length co19) y1182) ∧ af (Below w.heap.size w wc))
         case first =>
          have H := HC17.out
          clear HC17
          revert H
          refine gU (fun c20 H => ?_) fun c20 H => ?_
          ·have c20b0 : decide (x4_1 < (y1182.length : Int)) = true := decide_eq_true c20
           clear c20
           (first | rw [c20b0] | (simp only [fP, gG]; rw [c20b0]) | skip)
           have H' := af.mk H
           clear H
           go_wp2
           go_meet
           case rel => exact ⟨_, ((y1182.length : Int)), fT, H', ⟨by have := HK1.out; have := HJ4.out; first | omega | exact Nat.le_refl _⟩, ⟨by (try simp only [hl3_4]); (with_reducible repeat (first | apply Kd.iP | apply Kd.iI | apply Kd.jf)); exact HO1184.out⟩, ⟨bT HB⟩⟩
          have c20b0 : decide (x4_1 < (y1182.length : Int)) = false := decide_eq_false c20
          clear c20
          (first | rw [c20b0] | (simp only [fP, gG]; rw [c20b0]) | skip)
          have H' := af.mk H
          clear H
          go_wp2
          go_meet
          case rel => exact ⟨_, (x4_1), fT, H', ⟨by have := HK1.out; have := HJ4.out; first | omega | exact Nat.le_refl _⟩, ⟨by (try simp only [hl3_4]); (with_reducible repeat (first | apply Kd.iP | apply Kd.iI | apply Kd.jf)); exact HO1184.out⟩, ⟨bT HB⟩⟩
         case rest =>
          clear HC17
          try clear c1
          try clear p1
          try clear q1
          try clear hx1
          try clear hf1
          try clear c2
          try clear c2b0
          try clear p2
          try clear c3
          try clear c4
          try clear c4b0
          try clear p6
          try clear c7
          try clear c7b0
          try clear c7b1
          try clear c9
          try clear c9b0
          try clear c10
          try clear c10b0
          try clear p11
          try clear q11
          try clear hx11
          try clear hf11
          try clear c14
          try clear c14b0
          try clear c15
          try clear c15b0
          try clear c16
          try clear c20
          try clear c20b0
          try clear hx1179_0
          try clear hx1181_0
          try clear hx1181_1
          try clear hx1181_2
          try clear hx1181_3
          try clear hx1181_4
          try clear hx11_0
          try clear p1
          try clear p11
          try clear p1179
          try clear p1181
          try clear p2
          try clear p6
          try clear q1
          try clear q11
          try clear q1179
          try clear q1181
          obtain ⟨kq, x4_16, rfl, HA, HJ16, HO_3, HB⟩ := hcut
          cases kq with
          | zero => exact absurd HA.out (by simp [ak.j2])
          | succ kj16 =>
           have H := HA.out
           clear HA
           simp only [ak.j2] at H
           have H' := af.mk H
           clear H
           go_wp2
           go_loopg [3] kj16 (fun kq v3 w' => ∃ (x3_4 : List Int), af (ak.l1 kq l0 x3_4 x4_16 x5_1 = some r) ∧ af (kq ≤ kj16) ∧ af (Kd.R (Kd.int .i64) 3 w' w.heap.size (fun _ => True) v3 x3_4) ∧ af (Below w.heap.size w w'))
           case atStart => exact ⟨(y1182), H', ⟨Nat.le_refl _⟩, ⟨Z29⟩, ⟨bT HB⟩⟩
           case round =>
            clear H'
            try clear c1
            try clear p1
            try clear q1
            try clear hx1
            try clear hf1
            try clear c2
            try clear c2b0
            try clear p2
            try clear c3
            try clear c4
            try clear c4b0
            try clear p6
            try clear c7
            try clear c7b0
            try clear c7b1
            try clear c9
            try clear c9b0
            try clear c10
            try clear c10b0
            try clear p11
            try clear q11
            try clear hx11
            try clear hf11
            try clear c14
            try clear c14b0
            try clear c15
            try clear c15b0
            try clear c16
            try clear c20
            try clear c20b0
            try clear hx1179_0
            try clear hx1181_0
            try clear hx1181_1
            try clear hx1181_2
            try clear hx1181_3
            try clear hx1181_4
            try clear hx11_0
            try clear p1
            try clear p11
            try clear p1179
            try clear p1181
            try clear p2
            try clear p6
            try clear q1
            try clear q11
            try clear q1179
            try clear q1181
            obtain ⟨x3_4, HA, HK4, HO_3, HB⟩ := hrel
            cases gk with
            | zero => exact absurd HA.out (by simp [ak.l1])
            | succ k4 =>
             have H := HA.out
             clear HA
             simp only [ak.l1] at H
             revert H
             refine gU (fun c21 H => ?_) fun c21 H => ?_
             ·have c21b0 : decide (0 < (x3_4.length : Int)) = true := decide_eq_true c21
              have c21b1 : decide (0 < x3_4.length) = true := decide_eq_true (by omega)
              clear c21
              obtain ⟨ji22, hji22⟩ : ∃ j_ : Int, (wrap64 ((x3_4.length : Int) - 1)) = j_ := ⟨_, rfl⟩
              replace H : (if 0 ≤ (ji22) then (if (ji22) < (x3_4.length : Int) then (if (rd x3_4 (ji22)) = 0 then (if (ji22) ≤ (x3_4.length : Int) then (ak.l1 k4 l0 (x3_4.take ((ji22) : Int).toNat) x4_16 x5_1) else (none)) else (ak.l0 k4 l0 x3_4 x4_16 (wrap64 (x5_1 + 1)))) else (none)) else (none)) = some r := by first | (rw [hji22] at H; exact H) | (simp only [hji22] at H ⊢; exact H)
              have hji22w : (IntKind.i64.wrap ((x3_4.length : Int) - 1)) = ji22 := (fP _).trans hji22
              revert H
              refine gB (fun c23b0 H => ?_) fun c23 H => ?_
              ·revert H
               refine gB (fun c24b0 H => ?_) fun c24 H => ?_
               ·revert H
                refine aU (fun c25b0 c25b1 H => ?_) fun c25 c25b0 c25b1 H => ?_
                ·revert H
                 refine jm (fun c26b0 c26b1 H => ?_) fun c26 H => ?_
                 ·obtain ⟨y1186, hy1186⟩ : ∃ y_ : List Int, y_ = (x3_4.take ((ji22) : Int).toNat) := ⟨_, rfl⟩
                  replace H : (ak.l1 k4 l0 y1186 x4_16 x5_1) = some r := by first | (rw [hy1186]; with_reducible exact H) | (have H2_ := (Option.bind_some _ _).symm.trans H; rw [hy1186]; with_reducible exact H2_) | (have H2_ := (Option.bind_some _ _).symm.trans H; with_reducible exact H2_) | with_reducible exact H | (rw [hy1186]; exact H) | exact H
                  have Ny1186 := af.mk hy1186
                  clear hy1186
                  have H' := af.mk H
                  clear H
                  obtain ⟨Ao27, co27, eo27⟩ := Kd.fG HO_3.out
                  subst eo27
                  have p1185 : 0 ≤ ((ji22) : Int) := of_decide_eq_true aT
                  have q1185 : (ji22) < (x3_4.length : Int) := of_decide_eq_true aT
                  obtain ⟨ad1185, e1185, hx1185_0⟩ := Kd.fO (Kd.dU HO_3.out).2.2 (ji22) p1185 q1185
                  cases e1185
                  replace p1185 := eq_true p1185
                  replace q1185 := eq_true q1185
                  have q28 : ((ji22) : Int) ≤ ((x3_4.length : Int) : Int) := of_decide_eq_true aT
                  obtain ⟨i028, hi028, _, hsz28, _⟩ := info_parts info3
                  have hcut28 := Au (P := Tryz.prog) 60 3 .i64 Tryz.underlying60 hi028 (some ad1185) x3_4.length co27 (ji22) (of_decide_eq_true aT) q28 (Kd.dU HO_3.out).2.1
                  have hr28 := Kd.AB (m := ((ji22) : Int).toNat) HO_3.out (by omega)
                  have hy28 : y1186.length = ((ji22) : Int).toNat := (by rw [Ny1186.out, List.length_take]; omega)
                  rw [← Ny1186.out] at hr28
                  rw [← hy28] at hr28 hcut28
                  clear hy28 hi028 hsz28 HO_3
                  have HO1188 := af.mk hr28
                  clear hr28
                  replace q28 := eq_true q28
                  go_wp2
                  go_roundg k4
                  case measure => have := HK1.out; have := HJ4.out; have := HJ16.out; have := HK4.out; omega
                  case rel => exact ⟨(y1186), H', ⟨by have := HK1.out; have := HJ4.out; have := HJ16.out; have := HK4.out; omega⟩, ⟨by (try simp only [hl3_4]); (with_reducible repeat (first | apply Kd.iP | apply Kd.iI | apply Kd.jf)); exact HO1188.out⟩, ⟨bT HB⟩⟩
                 exact absurd H (by simp)
                have H' := af.mk H
                clear H
                obtain ⟨Ao29, co29, eo29⟩ := Kd.fG HO_3.out
                subst eo29
                have p1185 : 0 ≤ ((ji22) : Int) := of_decide_eq_true aT
                have q1185 : (ji22) < (x3_4.length : Int) := of_decide_eq_true aT
                obtain ⟨ad1185, e1185, hx1185_0⟩ := Kd.fO (Kd.dU HO_3.out).2.2 (ji22) p1185 q1185
                cases e1185
                replace p1185 := eq_true p1185
                replace q1185 := eq_true q1185
                go_wp2
                (try simp only [← hl3_4])
                go_roundg k4
                case measure => have := HK1.out; have := HJ4.out; have := HJ16.out; have := HK4.out; omega
                case rel => exact ⟨(x3_4), (x4_16), (wrap64 (x5_1 + 1)), fT, fT, H', ⟨by have := HK1.out; have := HJ4.out; have := HJ16.out; have := HK4.out; omega⟩, ⟨Z29⟩, ⟨bT HB⟩⟩
               exact absurd H (by simp)
              exact absurd H (by simp)
             have c21b0 : decide (0 < (x3_4.length : Int)) = false := decide_eq_false c21
             have c21b1 : decide (0 < x3_4.length) = false := decide_eq_false (by omega)
             clear c21
             have H' := af.mk H
             clear H
             obtain ⟨Ao30, co30, eo30⟩ := Kd.fG HO_3.out
             subst eo30
             go_wp2
             (try simp only [← hl3_4])
             go_roundg k4
             case measure => have := HK1.out; have := HJ4.out; have := HJ16.out; have := HK4.out; omega
             case rel => exact ⟨(x3_4), (x4_16), (wrap64 (x5_1 + 1)), fT, fT, H', ⟨by have := HK1.out; have := HJ4.out; have := HJ16.out; have := HK4.out; omega⟩, ⟨Z29⟩, ⟨bT HB⟩⟩
        exact absurd H (by simp)
       exact absurd H (by simp)
      exact absurd H (by simp)
   obtain rfl := Option.some.inj H
   go_wp2
   go_ret
   exact ⟨eT, bT HB⟩
end Go.Proofs.YtkbhkonenkgfoaaGreat.Q
end
section
namespace Go.Proofs.YtkbhkonenkgfoaaGreat.Q
open Go.RowKit Go.Proofs.YtkbhkonenkgfoaaGreatW.PrintWords Go.Proofs.YtkbhkonenkgfoaaGreatW.PrintLast Go.Proofs.YtkbhkonenkgfoaaGreatW.PrintMore
attribute [local go_sem] dJ dH dS dR cZ cO dI dG
set_option linter.unusedVariables false
set_option linter.unusedSimpArgs false
/-! ### fF: function 56 -/
def fF.f (a0 : Int) : Option (Bool) := if a0 ≥ 97 then (some (decide (a0 ≤ 122))) else (some false)
set_option maxHeartbeats 8000000 in
set_option maxRecDepth 100000 in
theorem fF.calls (a0 : Int) (r : Bool) (w : World) (h : fF.f a0 = some r) :
 Calls Tryz.prog 56 #[.int .u8 a0] w fun e w' => e = .returned (.bool r) ∧ dZ w w' := by
 have H := h
 clear h
 unfold fF.f at H
 revert H
 refine gU (fun c2 H => ?_) fun c2 H => ?_
 ·have c2b0 : decide (97 ≤ a0) = true := decide_eq_true c2
  clear c2
  obtain rfl := Option.some.inj H
  go_enter Tryz.func56, Tryz.ntmps56
  go_wp2
  go_ret
  exact ⟨fT, Z0⟩
 have c2b0 : decide (97 ≤ a0) = false := decide_eq_false c2
 clear c2
 obtain rfl := Option.some.inj H
 go_enter Tryz.func56, Tryz.ntmps56
 go_wp2
 go_ret
 exact ⟨fT, Z0⟩
/-! ### gq: function 59 -/
def gq.f (a0 : Int) : Option (Bool) := if a0 ≥ 48 then (some (decide (a0 ≤ 57))) else (some false)
set_option maxHeartbeats 8000000 in
set_option maxRecDepth 100000 in
theorem gq.calls (a0 : Int) (r : Bool) (w : World) (h : gq.f a0 = some r) :
 Calls Tryz.prog 59 #[.int .u8 a0] w fun e w' => e = .returned (.bool r) ∧ dZ w w' := by
 have H := h
 clear h
 unfold gq.f at H
 revert H
 refine gU (fun c2 H => ?_) fun c2 H => ?_
 ·have c2b0 : decide (48 ≤ a0) = true := decide_eq_true c2
  clear c2
  obtain rfl := Option.some.inj H
  go_enter Tryz.func59, Tryz.ntmps59
  go_wp2
  go_ret
  exact ⟨fT, Z0⟩
 have c2b0 : decide (48 ≤ a0) = false := decide_eq_false c2
 clear c2
 obtain rfl := Option.some.inj H
 go_enter Tryz.func59, Tryz.ntmps59
 go_wp2
 go_ret
 exact ⟨fT, Z0⟩
/-! ### bF: function 57 -/
def bF.l0 : Nat → ByteArray → Int → Int → Option (Int)
 | 0, _, _, _ => none
 | k + 1, x0, x1, x5 => if (wrap64 (x1 + x5)) < (x0.size : Int) then (if 0 ≤ (wrap64 (x1 + x5)) then ((fF.f (bt x0 (wrap64 (x1 + x5)))).bind fun t1189 => (if t1189 = true then (bF.l0 k x0 x1 (wrap64 (x5 + 1))) else (if x5 > 0 then ((gq.f (bt x0 (wrap64 (x1 + x5)))).bind fun t1190 => (if t1190 = true then (bF.l0 k x0 x1 (wrap64 (x5 + 1))) else (if (bt x0 (wrap64 (x1 + x5))) = 95 then (bF.l0 k x0 x1 (wrap64 (x5 + 1))) else (some x5)))) else (some x5)))) else (none)) else (some x5)
def bF.f (k : Nat) (a0 : ByteArray) (a1 : Int) : Option (Int) := bF.l0 k a0 a1 0
theorem bF.bZ : ∀ k, (∀ y0 y1 y2, LeO (bF.l0 k y0 y1 y2) (bF.l0 (k + 1) y0 y1 y2))
 | 0 => fun _ _ _ r h => by simp [bF.l0] at h
 | k + 1 => by
  have ih0 := bF.bZ k
  intro y0 y1 y2
  unfold bF.l0
  exact yL
theorem bF.mono : ∀ a0 a1 k, LeO (bF.f k a0 a1) (bF.f (k + 1) a0 a1) := by
 intro a0 a1 k
 have ih0 := bF.bZ k
 unfold bF.f
 exact yL
set_option maxHeartbeats 8000000 in
set_option maxRecDepth 100000 in
theorem bF.calls (k : Nat) (a0 : ByteArray) (a1 : Int) (r : Int) (w : World) (h : bF.f k a0 a1 = some r) :
 Calls Tryz.prog 57 #[.string a0, .int .i64 a1] w fun e w' => e = .returned (.int .i64 r) ∧ dZ w w' := by
 have H := h
 clear h
 unfold bF.f at H
 have H' := af.mk H
 clear H
 go_enter Tryz.func57, Tryz.ntmps57
 go_wp2
 go_loopg [5] k (fun kq v5 w' => ∃ (x5_1 : Int), v5 = .int .i64 x5_1 ∧ af (bF.l0 kq a0 a1 x5_1 = some r) ∧ af (kq ≤ k) ∧ dZ w w')
 case atStart => exact ⟨(0), fT, H', ⟨Nat.le_refl _⟩, Z0⟩
 case round =>
  clear H'
  try clear p2
  obtain ⟨x5_1, rfl, HA, HK1, ⟨m1, rfl⟩⟩ := hrel
  cases gk with
  | zero => exact absurd HA.out (by simp [bF.l0])
  | succ k1 =>
   have H := HA.out
   clear HA
   simp only [bF.l0] at H
   revert H
   refine iR (fun c3b0 H => ?_) fun c3b0 H => ?_
   ·obtain ⟨ji4, hji4⟩ : ∃ j_ : Int, (wrap64 (a1 + x5_1)) = j_ := ⟨_, rfl⟩
    replace H : (if 0 ≤ (ji4) then ((fF.f (bt a0 (ji4))).bind fun t1189 => (if t1189 = true then (bF.l0 k1 a0 a1 (wrap64 (x5_1 + 1))) else (if x5_1 > 0 then ((gq.f (bt a0 (ji4))).bind fun t1190 => (if t1190 = true then (bF.l0 k1 a0 a1 (wrap64 (x5_1 + 1))) else (if (bt a0 (ji4)) = 95 then (bF.l0 k1 a0 a1 (wrap64 (x5_1 + 1))) else (some x5_1)))) else (some x5_1)))) else (none)) = some r := by first | (rw [hji4] at H; exact H) | (simp only [hji4] at H ⊢; exact H)
    (try rw [hji4] at c3b0)
    have hji4w : (IntKind.i64.wrap (a1 + x5_1)) = ji4 := (fP _).trans hji4
    revert H
    refine gB (fun c5b0 H => ?_) fun c5 H => ?_
    ·revert H
     refine yB1 fun t1189 A7 H => ?_
     cases t1189
     rotate_left
     ·replace H := yT H
      have H' := af.mk H
      clear H
      have p6 : 0 ≤ ((ji4) : Int) := of_decide_eq_true aT
      have q6 : (ji4) < (a0.size : Int) := of_decide_eq_true aT
      have hx6 := jr a0 (ji4)
      replace p6 := eq_true p6
      replace q6 := eq_true q6
      go_wp2_with (first | (go_at_call 56; (with_reducible refine (fF.calls (bt a0 (ji4)) true _ A7.out).mono ?_); rintro e w' ⟨rfl, ⟨nd, rfl⟩⟩))
      go_roundg k1
      case measure => have := HK1.out; omega
      case rel => exact ⟨(wrap64 (x5_1 + 1)), fT, H', ⟨by have := HK1.out; omega⟩, Z0⟩
     replace H := yF H
     revert H
     refine gU (fun c9 H => ?_) fun c9 H => ?_
     ·have c9b0 : decide (0 < x5_1) = true := decide_eq_true c9
      clear c9
      revert H
      refine yB1 fun t1190 A11 H => ?_
      cases t1190
      rotate_left
      ·replace H := yT H
       have H' := af.mk H
       clear H
       have p6 : 0 ≤ ((ji4) : Int) := of_decide_eq_true aT
       have q6 : (ji4) < (a0.size : Int) := of_decide_eq_true aT
       have hx6 := jr a0 (ji4)
       replace p6 := eq_true p6
       replace q6 := eq_true q6
       go_wp2_with (first | (go_at_call 56; (with_reducible refine (fF.calls (bt a0 (ji4)) false _ A7.out).mono ?_); rintro e w' ⟨rfl, ⟨nd, rfl⟩⟩; have p10 : 0 ≤ ((ji4) : Int) := of_decide_eq_true aT; have q10 : (ji4) < (a0.size : Int) := of_decide_eq_true aT; have hx10 := jr a0 (ji4); replace p10 := eq_true p10; replace q10 := eq_true q10) | (go_at_call 59; (with_reducible refine (gq.calls (bt a0 (ji4)) true _ A11.out).mono ?_); rintro e w' ⟨rfl, ⟨nd, rfl⟩⟩))
       go_roundg k1
       case measure => have := HK1.out; omega
       case rel => exact ⟨(wrap64 (x5_1 + 1)), fT, H', ⟨by have := HK1.out; omega⟩, Z0⟩
      replace H := yF H
      revert H
      refine aU (fun c14b0 c14b1 H => ?_) fun c14 c14b0 c14b1 H => ?_
      ·have H' := af.mk H
       clear H
       have p6 : 0 ≤ ((ji4) : Int) := of_decide_eq_true aT
       have q6 : (ji4) < (a0.size : Int) := of_decide_eq_true aT
       have hx6 := jr a0 (ji4)
       replace p6 := eq_true p6
       replace q6 := eq_true q6
       go_wp2_with (first | (go_at_call 56; (with_reducible refine (fF.calls (bt a0 (ji4)) false _ A7.out).mono ?_); rintro e w' ⟨rfl, ⟨nd, rfl⟩⟩; have p10 : 0 ≤ ((ji4) : Int) := of_decide_eq_true aT; have q10 : (ji4) < (a0.size : Int) := of_decide_eq_true aT; have hx10 := jr a0 (ji4); replace p10 := eq_true p10; replace q10 := eq_true q10) | (go_at_call 59; (with_reducible refine (gq.calls (bt a0 (ji4)) false _ A11.out).mono ?_); rintro e w' ⟨rfl, ⟨nd, rfl⟩⟩; have p13 : 0 ≤ ((ji4) : Int) := of_decide_eq_true aT; have q13 : (ji4) < (a0.size : Int) := of_decide_eq_true aT; have hx13 := jr a0 (ji4); replace p13 := eq_true p13; replace q13 := eq_true q13))
       go_roundg k1
       case measure => have := HK1.out; omega
       case rel => exact ⟨(wrap64 (x5_1 + 1)), fT, H', ⟨by have := HK1.out; omega⟩, Z0⟩
      obtain rfl := Option.some.inj H
      have p6 : 0 ≤ ((ji4) : Int) := of_decide_eq_true aT
      have q6 : (ji4) < (a0.size : Int) := of_decide_eq_true aT
      have hx6 := jr a0 (ji4)
      replace p6 := eq_true p6
      replace q6 := eq_true q6
      go_wp2_with (first | (go_at_call 56; (with_reducible refine (fF.calls (bt a0 (ji4)) false _ A7.out).mono ?_); rintro e w' ⟨rfl, ⟨nd, rfl⟩⟩; have p10 : 0 ≤ ((ji4) : Int) := of_decide_eq_true aT; have q10 : (ji4) < (a0.size : Int) := of_decide_eq_true aT; have hx10 := jr a0 (ji4); replace p10 := eq_true p10; replace q10 := eq_true q10) | (go_at_call 59; (with_reducible refine (gq.calls (bt a0 (ji4)) false _ A11.out).mono ?_); rintro e w' ⟨rfl, ⟨nd, rfl⟩⟩; have p13 : 0 ≤ ((ji4) : Int) := of_decide_eq_true aT; have q13 : (ji4) < (a0.size : Int) := of_decide_eq_true aT; have hx13 := jr a0 (ji4); replace p13 := eq_true p13; replace q13 := eq_true q13))
      go_ret
      exact ⟨by first | rfl | (simp; done) | (simp only [← hji4] <;> (first | rfl | simp)) | (simp [*]; done), Z0⟩
     have c9b0 : decide (0 < x5_1) = false := decide_eq_false c9
     clear c9
     obtain rfl := Option.some.inj H
     have p6 : 0 ≤ ((ji4) : Int) := of_decide_eq_true aT
     have q6 : (ji4) < (a0.size : Int) := of_decide_eq_true aT
     have hx6 := jr a0 (ji4)
     replace p6 := eq_true p6
     replace q6 := eq_true q6
     go_wp2_with (first | (go_at_call 56; (with_reducible refine (fF.calls (bt a0 (ji4)) false _ A7.out).mono ?_); rintro e w' ⟨rfl, ⟨nd, rfl⟩⟩))
     go_ret
     exact ⟨by first | rfl | (simp; done) | (simp only [← hji4] <;> (first | rfl | simp)) | (simp [*]; done), Z0⟩
    exact absurd H (by simp)
   obtain rfl := Option.some.inj H
   go_wp2
   go_ret
   exact ⟨fT, Z0⟩
end Go.Proofs.YtkbhkonenkgfoaaGreat.Q
end
section
namespace Go.Proofs.YtkbhkonenkgfoaaGreat.Q
open Go.RowKit Go.Proofs.YtkbhkonenkgfoaaGreatW.PrintWords Go.Proofs.YtkbhkonenkgfoaaGreatW.PrintLast Go.Proofs.YtkbhkonenkgfoaaGreatW.PrintMore
attribute [local go_sem] dJ dH dS dR cZ cO dI dG
set_option linter.unusedVariables false
set_option linter.unusedSimpArgs false
/-! ### dh: function 58 -/
def dh.l0 : Nat → ByteArray → List ByteArray → Int → Option (Bool)
 | 0, _, _, _ => none
 | k + 1, x0, x3, x4 => if x4 < (x3.length : Int) then (if 0 ≤ x4 then (if (nX ByteArray.empty x3 x4).toList = x0.toList then (some true) else (dh.l0 k x0 x3 (wrap64 (x4 + 1)))) else (none)) else (some false)
def dh.f (k : Nat) (a0 : ByteArray) : Option (Bool) := dh.l0 k a0 (([(⟨#[109, 111, 100, 117, 108, 101]⟩ : ByteArray), (⟨#[117, 115, 101]⟩ : ByteArray), (⟨#[102, 110]⟩ : ByteArray), (⟨#[108, 101, 116]⟩ : ByteArray), (⟨#[105, 102]⟩ : ByteArray), (⟨#[101, 108, 115, 101]⟩ : ByteArray), (⟨#[119, 104, 105, 108, 101]⟩ : ByteArray), (⟨#[98, 114, 101, 97, 107]⟩ : ByteArray), (⟨#[99, 111, 110, 116, 105, 110, 117, 101]⟩ : ByteArray), (⟨#[114, 101, 116, 117, 114, 110]⟩ : ByteArray), (⟨#[112, 117, 116]⟩ : ByteArray), (⟨#[101, 109, 105, 116]⟩ : ByteArray), (⟨#[121, 105, 101, 108, 100]⟩ : ByteArray), (⟨#[110, 105, 108]⟩ : ByteArray), (⟨#[115, 116, 97, 116, 101]⟩ : ByteArray), (⟨#[115, 112, 97, 119, 110]⟩ : ByteArray), (⟨#[108, 101, 110]⟩ : ByteArray), (⟨#[110, 111, 116]⟩ : ByteArray), (⟨#[97, 110, 100]⟩ : ByteArray), (⟨#[111, 114]⟩ : ByteArray)] : List ByteArray)) 0
theorem dh.bZ : ∀ k, (∀ y0 y1 y2, LeO (dh.l0 k y0 y1 y2) (dh.l0 (k + 1) y0 y1 y2))
 | 0 => fun _ _ _ r h => by simp [dh.l0] at h
 | k + 1 => by
  have ih0 := dh.bZ k
  intro y0 y1 y2
  unfold dh.l0
  exact yL
theorem dh.mono : ∀ a0 k, LeO (dh.f k a0) (dh.f (k + 1) a0) := by
 intro a0 k
 have ih0 := dh.bZ k
 unfold dh.f
 exact yL
set_option maxHeartbeats 8000000 in
set_option maxRecDepth 100000 in
theorem dh.calls (k : Nat) (a0 : ByteArray) (r : Bool) (w : World) (h : dh.f k a0 = some r) :
 Calls Tryz.prog 58 #[.string a0] w fun e w' => e = .returned (.bool r) ∧ Below w.heap.size w w' := by
 have HB := af.mk (Below.refl w.heap.size w)
 have H := h
 clear h
 unfold dh.f at H
 obtain ⟨y1191, hy1191⟩ : ∃ y_ : List ByteArray, y_ = (([(⟨#[109, 111, 100, 117, 108, 101]⟩ : ByteArray), (⟨#[117, 115, 101]⟩ : ByteArray), (⟨#[102, 110]⟩ : ByteArray), (⟨#[108, 101, 116]⟩ : ByteArray), (⟨#[105, 102]⟩ : ByteArray), (⟨#[101, 108, 115, 101]⟩ : ByteArray), (⟨#[119, 104, 105, 108, 101]⟩ : ByteArray), (⟨#[98, 114, 101, 97, 107]⟩ : ByteArray), (⟨#[99, 111, 110, 116, 105, 110, 117, 101]⟩ : ByteArray), (⟨#[114, 101, 116, 117, 114, 110]⟩ : ByteArray), (⟨#[112, 117, 116]⟩ : ByteArray), (⟨#[101, 109, 105, 116]⟩ : ByteArray), (⟨#[121, 105, 101, 108, 100]⟩ : ByteArray), (⟨#[110, 105, 108]⟩ : ByteArray), (⟨#[115, 116, 97, 116, 101]⟩ : ByteArray), (⟨#[115, 112, 97, 119, 110]⟩ : ByteArray), (⟨#[108, 101, 110]⟩ : ByteArray), (⟨#[110, 111, 116]⟩ : ByteArray), (⟨#[97, 110, 100]⟩ : ByteArray), (⟨#[111, 114]⟩ : ByteArray)] : List ByteArray)) := ⟨_, rfl⟩
 replace H : (dh.l0 k a0 y1191 0) = some r := by first | (rw [hy1191]; with_reducible exact H) | (have H2_ := (Option.bind_some _ _).symm.trans H; rw [hy1191]; with_reducible exact H2_) | (have H2_ := (Option.bind_some _ _).symm.trans H; with_reducible exact H2_) | with_reducible exact H | (rw [hy1191]; exact H) | exact H
 have Ny1191 := af.mk hy1191
 clear hy1191
 have H' := af.mk H
 clear H
 go_enter Tryz.func58, Tryz.ntmps58
 go_wp2_with (first | ((with_reducible refine bH (N := 5) rfl ?_); refine Kd.pO Kd.string _ 9 ?hg (N := 5) ?hd (xs := ([(⟨#[109, 111, 100, 117, 108, 101]⟩ : ByteArray), (⟨#[117, 115, 101]⟩ : ByteArray), (⟨#[102, 110]⟩ : ByteArray), (⟨#[108, 101, 116]⟩ : ByteArray), (⟨#[105, 102]⟩ : ByteArray), (⟨#[101, 108, 115, 101]⟩ : ByteArray), (⟨#[119, 104, 105, 108, 101]⟩ : ByteArray), (⟨#[98, 114, 101, 97, 107]⟩ : ByteArray), (⟨#[99, 111, 110, 116, 105, 110, 117, 101]⟩ : ByteArray), (⟨#[114, 101, 116, 117, 114, 110]⟩ : ByteArray), (⟨#[112, 117, 116]⟩ : ByteArray), (⟨#[101, 109, 105, 116]⟩ : ByteArray), (⟨#[121, 105, 101, 108, 100]⟩ : ByteArray), (⟨#[110, 105, 108]⟩ : ByteArray), (⟨#[115, 116, 97, 116, 101]⟩ : ByteArray), (⟨#[115, 112, 97, 119, 110]⟩ : ByteArray), (⟨#[108, 101, 110]⟩ : ByteArray), (⟨#[110, 111, 116]⟩ : ByteArray), (⟨#[97, 110, 100]⟩ : ByteArray), (⟨#[111, 114]⟩ : ByteArray)] : List ByteArray)) (inner := [.string (⟨#[109, 111, 100, 117, 108, 101]⟩ : ByteArray), .string (⟨#[117, 115, 101]⟩ : ByteArray), .string (⟨#[102, 110]⟩ : ByteArray), .string (⟨#[108, 101, 116]⟩ : ByteArray), .string (⟨#[105, 102]⟩ : ByteArray), .string (⟨#[101, 108, 115, 101]⟩ : ByteArray), .string (⟨#[119, 104, 105, 108, 101]⟩ : ByteArray), .string (⟨#[98, 114, 101, 97, 107]⟩ : ByteArray), .string (⟨#[99, 111, 110, 116, 105, 110, 117, 101]⟩ : ByteArray), .string (⟨#[114, 101, 116, 117, 114, 110]⟩ : ByteArray), .string (⟨#[112, 117, 116]⟩ : ByteArray), .string (⟨#[101, 109, 105, 116]⟩ : ByteArray), .string (⟨#[121, 105, 101, 108, 100]⟩ : ByteArray), .string (⟨#[110, 105, 108]⟩ : ByteArray), .string (⟨#[115, 116, 97, 116, 101]⟩ : ByteArray), .string (⟨#[115, 112, 97, 119, 110]⟩ : ByteArray), .string (⟨#[108, 101, 110]⟩ : ByteArray), .string (⟨#[110, 111, 116]⟩ : ByteArray), .string (⟨#[97, 110, 100]⟩ : ByteArray), .string (⟨#[111, 114]⟩ : ByteArray)]) (ok := fun _ => True) (okp := fun _ => True) ?hr ?hp (fun _ hk => hk) trivial (Below.refl _ _) (Nat.le_refl _) (by simp) ?_; (case hd => rfl); (case hg => rfl); (case hr => first | (go_simp; done) | (go_simp; rfl)); (case hp => exact (eG.one (show Kd.M Kd.string _ _ _ (⟨#[109, 111, 100, 117, 108, 101]⟩ : ByteArray) [.string (⟨#[109, 111, 100, 117, 108, 101]⟩ : ByteArray)] from rfl) (eG.one (show Kd.M Kd.string _ _ _ (⟨#[117, 115, 101]⟩ : ByteArray) [.string (⟨#[117, 115, 101]⟩ : ByteArray)] from rfl) (eG.one (show Kd.M Kd.string _ _ _ (⟨#[102, 110]⟩ : ByteArray) [.string (⟨#[102, 110]⟩ : ByteArray)] from rfl) (eG.one (show Kd.M Kd.string _ _ _ (⟨#[108, 101, 116]⟩ : ByteArray) [.string (⟨#[108, 101, 116]⟩ : ByteArray)] from rfl) (eG.one (show Kd.M Kd.string _ _ _ (⟨#[105, 102]⟩ : ByteArray) [.string (⟨#[105, 102]⟩ : ByteArray)] from rfl) (eG.one (show Kd.M Kd.string _ _ _ (⟨#[101, 108, 115, 101]⟩ : ByteArray) [.string (⟨#[101, 108, 115, 101]⟩ : ByteArray)] from rfl) (eG.one (show Kd.M Kd.string _ _ _ (⟨#[119, 104, 105, 108, 101]⟩ : ByteArray) [.string (⟨#[119, 104, 105, 108, 101]⟩ : ByteArray)] from rfl) (eG.one (show Kd.M Kd.string _ _ _ (⟨#[98, 114, 101, 97, 107]⟩ : ByteArray) [.string (⟨#[98, 114, 101, 97, 107]⟩ : ByteArray)] from rfl) (eG.one (show Kd.M Kd.string _ _ _ (⟨#[99, 111, 110, 116, 105, 110, 117, 101]⟩ : ByteArray) [.string (⟨#[99, 111, 110, 116, 105, 110, 117, 101]⟩ : ByteArray)] from rfl) (eG.one (show Kd.M Kd.string _ _ _ (⟨#[114, 101, 116, 117, 114, 110]⟩ : ByteArray) [.string (⟨#[114, 101, 116, 117, 114, 110]⟩ : ByteArray)] from rfl) (eG.one (show Kd.M Kd.string _ _ _ (⟨#[112, 117, 116]⟩ : ByteArray) [.string (⟨#[112, 117, 116]⟩ : ByteArray)] from rfl) (eG.one (show Kd.M Kd.string _ _ _ (⟨#[101, 109, 105, 116]⟩ : ByteArray) [.string (⟨#[101, 109, 105, 116]⟩ : ByteArray)] from rfl) (eG.one (show Kd.M Kd.string _ _ _ (⟨#[121, 105, 101, 108, 100]⟩ : ByteArray) [.string (⟨#[121, 105, 101, 108, 100]⟩ : ByteArray)] from rfl) (eG.one (show Kd.M Kd.string _ _ _ (⟨#[110, 105, 108]⟩ : ByteArray) [.string (⟨#[110, 105, 108]⟩ : ByteArray)] from rfl) (eG.one (show Kd.M Kd.string _ _ _ (⟨#[115, 116, 97, 116, 101]⟩ : ByteArray) [.string (⟨#[115, 116, 97, 116, 101]⟩ : ByteArray)] from rfl) (eG.one (show Kd.M Kd.string _ _ _ (⟨#[115, 112, 97, 119, 110]⟩ : ByteArray) [.string (⟨#[115, 112, 97, 119, 110]⟩ : ByteArray)] from rfl) (eG.one (show Kd.M Kd.string _ _ _ (⟨#[108, 101, 110]⟩ : ByteArray) [.string (⟨#[108, 101, 110]⟩ : ByteArray)] from rfl) (eG.one (show Kd.M Kd.string _ _ _ (⟨#[110, 111, 116]⟩ : ByteArray) [.string (⟨#[110, 111, 116]⟩ : ByteArray)] from rfl) (eG.one (show Kd.M Kd.string _ _ _ (⟨#[97, 110, 100]⟩ : ByteArray) [.string (⟨#[97, 110, 100]⟩ : ByteArray)] from rfl) (eG.one (show Kd.M Kd.string _ _ _ (⟨#[111, 114]⟩ : ByteArray) [.string (⟨#[111, 114]⟩ : ByteArray)] from rfl) (eG.none _ _)))))))))))))))))))))); intro v1192 w2 ho3 hb hg_ hnew_; clear hg_ hnew_; (first | rw [← Ny1191.out] at ho3 | (simp only [Int.reduceToNat] at ho3; rw [← Ny1191.out] at ho3)); refine yA2 (Kd.iw ho3 (bD (bT HB))) (aA (bT HB) hb) ?_; clear HB; intro HO1193 HB; clear hb ho3))
 go_loopg [4] k (fun kq v4 w' => ∃ (x4_1 : Int), v4 = .int .i64 x4_1 ∧ af (dh.l0 kq a0 y1191 x4_1 = some r) ∧ af (kq ≤ k) ∧ af (Kd.R Kd.string 9 w' w.heap.size (fun _ => True) v1192 y1191) ∧ af (Below w.heap.size w w'))
 case atStart => exact ⟨(0), fT, H', ⟨Nat.le_refl _⟩, ⟨qR HO1193⟩, ⟨bT HB⟩⟩
 case round =>
  clear H'
  try clear p2
  obtain ⟨x4_1, rfl, HA, HK1, HO_3, HB⟩ := hrel
  cases gk with
  | zero => exact absurd HA.out (by simp [dh.l0])
  | succ k1 =>
   have H := HA.out
   clear HA
   simp only [dh.l0] at H
   revert H
   refine iR (fun c4b0 H => ?_) fun c4b0 H => ?_
   ·revert H
    refine gB (fun c5b0 H => ?_) fun c5 H => ?_
    ·revert H
     refine aU (fun c6b0 c6b1 H => ?_) fun c6 c6b0 c6b1 H => ?_
     ·obtain rfl := Option.some.inj H
      obtain ⟨Ao7, co7, eo7⟩ := Kd.fG HO_3.out
      subst eo7
      have p1194 : 0 ≤ (x4_1 : Int) := of_decide_eq_true aT
      have q1194 : x4_1 < (y1191.length : Int) := of_decide_eq_true aT
      obtain ⟨ad1194, e1194, hx1194_0⟩ := Kd.oP (Kd.dU HO_3.out).2.2 x4_1 p1194 q1194
      cases e1194
      replace p1194 := eq_true p1194
      replace q1194 := eq_true q1194
      go_wp2
      go_ret
      exact ⟨eT, bT HB⟩
     have H' := af.mk H
     clear H
     obtain ⟨Ao8, co8, eo8⟩ := Kd.fG HO_3.out
     subst eo8
     have p1194 : 0 ≤ (x4_1 : Int) := of_decide_eq_true aT
     have q1194 : x4_1 < (y1191.length : Int) := of_decide_eq_true aT
     obtain ⟨ad1194, e1194, hx1194_0⟩ := Kd.oP (Kd.dU HO_3.out).2.2 x4_1 p1194 q1194
     cases e1194
     replace p1194 := eq_true p1194
     replace q1194 := eq_true q1194
     go_wp2
     go_roundg k1
     case measure => have := HK1.out; omega
     case rel => exact ⟨(wrap64 (x4_1 + 1)), fT, H', ⟨by have := HK1.out; omega⟩, ⟨qR HO_3⟩, ⟨bT HB⟩⟩
    exact absurd H (by simp)
   obtain rfl := Option.some.inj H
   obtain ⟨Ao9, co9, eo9⟩ := Kd.fG HO_3.out
   subst eo9
   go_wp2
   go_ret
   exact ⟨eT, bT HB⟩
/-! ### eH: function 81 -/
def eH.f (k : Nat) (a0 : ByteArray) : Option (Bool) := if (a0.size : Int) > 0 then (if (a0.size : Int) ≤ 16 then ((bF.f k a0 0).bind fun t1195 => (if t1195 = (a0.size : Int) then ((dh.f k a0).bind fun t1196 => (some (!t1196))) else (some false))) else (some false)) else (some false)
theorem eH.mono : ∀ a0 k, LeO (eH.f k a0) (eH.f (k + 1) a0) := by
 intro a0 k
 unfold eH.f
 have m0 := dh.mono
 have m1 := bF.mono
 exact yL
set_option maxHeartbeats 8000000 in
set_option maxRecDepth 100000 in
theorem eH.calls (k : Nat) (a0 : ByteArray) (r : Bool) (w : World) (h : eH.f k a0 = some r) :
 Calls Tryz.prog 81 #[.string a0] w fun e w' => e = .returned (.bool r) ∧ Below w.heap.size w w' := by
 have HB := af.mk (Below.refl w.heap.size w)
 have H := h
 clear h
 unfold eH.f at H
 revert H
 refine gU (fun c2 H => ?_) fun c2 H => ?_
 ·have c2b0 : decide (0 < (a0.size : Int)) = true := decide_eq_true c2
  have c2b1 : decide (0 < a0.size) = true := decide_eq_true (by omega)
  clear c2
  revert H
  refine qF (fun c3 c3b0 H => ?_) fun c3 c3b0 H => ?_
  ·have c3b1 : decide (a0.size ≤ 16) = true := decide_eq_true (by omega)
   clear c3
   revert H
   refine yB1 fun t1195 A4 H => ?_
   revert H
   refine aU (fun c5b0 c5b1 H => ?_) fun c5 c5b0 c5b1 H => ?_
   ·revert H
    refine yB1 fun t1196 A6 H => ?_
    obtain rfl := Option.some.inj H
    go_enter Tryz.func81, Tryz.ntmps81
    go_wp2_with (first | (go_at_call 57; (with_reducible refine (bF.calls k a0 0 t1195 _ A4.out).mono ?_); rintro e w' ⟨rfl, ⟨nd, rfl⟩⟩) | (go_at_call 58; (with_reducible refine (dh.calls k a0 t1196 _ A6.out).mono ?_); rintro e w7 ⟨rfl, hb⟩; refine yA1 (aA (bT HB) hb) ?_; clear HB; intro HB; (try clear hb)))
    go_ret
    exact ⟨eT, bT HB⟩
   obtain rfl := Option.some.inj H
   go_enter Tryz.func81, Tryz.ntmps81
   go_wp2_with (first | (go_at_call 57; (with_reducible refine (bF.calls k a0 0 t1195 _ A4.out).mono ?_); rintro e w' ⟨rfl, ⟨nd, rfl⟩⟩))
   go_ret
   exact ⟨eT, bT HB⟩
  have c3b1 : decide (a0.size ≤ 16) = false := decide_eq_false (by omega)
  clear c3
  obtain rfl := Option.some.inj H
  go_enter Tryz.func81, Tryz.ntmps81
  go_wp2
  go_ret
  exact ⟨eT, bT HB⟩
 have c2b0 : decide (0 < (a0.size : Int)) = false := decide_eq_false c2
 have c2b1 : decide (0 < a0.size) = false := decide_eq_false (by omega)
 clear c2
 obtain rfl := Option.some.inj H
 go_enter Tryz.func81, Tryz.ntmps81
 go_wp2
 go_ret
 exact ⟨eT, bT HB⟩
/-! ### cu: function 82 -/
def cu.f (a0_0 : Int) (a0_1 : Int) (a0_2 : ByteArray) (a0_3 : Int) (a0_4 : ByteArray) : Option (Bool) := if a0_2.toList = ([] : List UInt8) then (if a0_4.toList = ([] : List UInt8) then (some (a0_3 == 0)) else (some false)) else (some false)
set_option maxHeartbeats 8000000 in
set_option maxRecDepth 100000 in
theorem cu.calls (a0_0 : Int) (a0_1 : Int) (a0_2 : ByteArray) (a0_3 : Int) (a0_4 : ByteArray) (r : Bool) (w : World) (h : cu.f a0_0 a0_1 a0_2 a0_3 a0_4 = some r) :
 Calls Tryz.prog 82 #[.agg #[.int .i64 a0_0, .int .i64 a0_1, .string a0_2, .int .i64 a0_3, .string a0_4]] w fun e w' => e = .returned (.bool r) ∧ Below w.heap.size w w' := by
 have hu29 := Tryz.underlying29
 have HB := af.mk (Below.refl w.heap.size w)
 have H := h
 clear h
 unfold cu.f at H
 revert H
 refine aU (fun c2b0 c2b1 H => ?_) fun c2 c2b0 c2b1 H => ?_
 ·revert H
  refine aU (fun c3b0 c3b1 H => ?_) fun c3 c3b0 c3b1 H => ?_
  ·obtain rfl := Option.some.inj H
   go_enter Tryz.func82, Tryz.ntmps82
   go_wp2_with (first | ((with_reducible refine bH (N := 1) rfl ?_); refine fA ?hg (N := 1) ?hd (cs := #[.int .i64 a0_0, .int .i64 a0_1, .string a0_2, .int .i64 a0_3, .string a0_4]) (t := 29) ?hr ?_; (case hd => rfl); (case hg => rfl); (case hr => first | (go_simp; done) | (go_simp; rfl)); intro gb1197 hg w4 hbox hb; refine yA4 (aA (bT HB) hb) (hbox) ((by rw [hg]; exact (bD (bT HB)) : w.heap.size ≤ gb1197)) ((by rw [hg]; exact (bD (bT HB)) : w.heap.size ≤ gb1197)) ?_; clear HB; intro HB BK1197 GW1197 GE1197; clear hb hbox hg; have hcz5_0 : w4.cell? ⟨gb1197, 0, none⟩ = some (.int .i64 a0_0) := (ag BK1197.out 0).trans rfl; have hcz5_1 : w4.cell? ⟨gb1197, 1, none⟩ = some (.int .i64 a0_1) := (ag BK1197.out 1).trans rfl; have hcz5_2 : w4.cell? ⟨gb1197, 2, none⟩ = some (.string a0_2) := (ag BK1197.out 2).trans rfl; have hcz5_3 : w4.cell? ⟨gb1197, 3, none⟩ = some (.int .i64 a0_3) := (ag BK1197.out 3).trans rfl; have hcz5_4 : w4.cell? ⟨gb1197, 4, none⟩ = some (.string a0_4) := (ag BK1197.out 4).trans rfl; have hfz5_0 := ae BK1197.out 0; have hfz5_1 := ae BK1197.out 1; have hfz5_2 := ae BK1197.out 2; have hfz5_3 := ae BK1197.out 3; have hfz5_4 := ae BK1197.out 4))
   go_ret
   exact ⟨eT, bT HB⟩
  obtain rfl := Option.some.inj H
  go_enter Tryz.func82, Tryz.ntmps82
  go_wp2_with (first | ((with_reducible refine bH (N := 1) rfl ?_); refine fA ?hg (N := 1) ?hd (cs := #[.int .i64 a0_0, .int .i64 a0_1, .string a0_2, .int .i64 a0_3, .string a0_4]) (t := 29) ?hr ?_; (case hd => rfl); (case hg => rfl); (case hr => first | (go_simp; done) | (go_simp; rfl)); intro gb1197 hg w6 hbox hb; refine yA4 (aA (bT HB) hb) (hbox) ((by rw [hg]; exact (bD (bT HB)) : w.heap.size ≤ gb1197)) ((by rw [hg]; exact (bD (bT HB)) : w.heap.size ≤ gb1197)) ?_; clear HB; intro HB BK1197 GW1197 GE1197; clear hb hbox hg; have hcz7_0 : w6.cell? ⟨gb1197, 0, none⟩ = some (.int .i64 a0_0) := (ag BK1197.out 0).trans rfl; have hcz7_1 : w6.cell? ⟨gb1197, 1, none⟩ = some (.int .i64 a0_1) := (ag BK1197.out 1).trans rfl; have hcz7_2 : w6.cell? ⟨gb1197, 2, none⟩ = some (.string a0_2) := (ag BK1197.out 2).trans rfl; have hcz7_3 : w6.cell? ⟨gb1197, 3, none⟩ = some (.int .i64 a0_3) := (ag BK1197.out 3).trans rfl; have hcz7_4 : w6.cell? ⟨gb1197, 4, none⟩ = some (.string a0_4) := (ag BK1197.out 4).trans rfl; have hfz7_0 := ae BK1197.out 0; have hfz7_1 := ae BK1197.out 1; have hfz7_2 := ae BK1197.out 2; have hfz7_3 := ae BK1197.out 3; have hfz7_4 := ae BK1197.out 4))
  go_ret
  exact ⟨eT, bT HB⟩
 obtain rfl := Option.some.inj H
 go_enter Tryz.func82, Tryz.ntmps82
 go_wp2_with (first | ((with_reducible refine bH (N := 1) rfl ?_); refine fA ?hg (N := 1) ?hd (cs := #[.int .i64 a0_0, .int .i64 a0_1, .string a0_2, .int .i64 a0_3, .string a0_4]) (t := 29) ?hr ?_; (case hd => rfl); (case hg => rfl); (case hr => first | (go_simp; done) | (go_simp; rfl)); intro gb1197 hg w8 hbox hb; refine yA4 (aA (bT HB) hb) (hbox) ((by rw [hg]; exact (bD (bT HB)) : w.heap.size ≤ gb1197)) ((by rw [hg]; exact (bD (bT HB)) : w.heap.size ≤ gb1197)) ?_; clear HB; intro HB BK1197 GW1197 GE1197; clear hb hbox hg; have hcz9_0 : w8.cell? ⟨gb1197, 0, none⟩ = some (.int .i64 a0_0) := (ag BK1197.out 0).trans rfl; have hcz9_1 : w8.cell? ⟨gb1197, 1, none⟩ = some (.int .i64 a0_1) := (ag BK1197.out 1).trans rfl; have hcz9_2 : w8.cell? ⟨gb1197, 2, none⟩ = some (.string a0_2) := (ag BK1197.out 2).trans rfl; have hcz9_3 : w8.cell? ⟨gb1197, 3, none⟩ = some (.int .i64 a0_3) := (ag BK1197.out 3).trans rfl; have hcz9_4 : w8.cell? ⟨gb1197, 4, none⟩ = some (.string a0_4) := (ag BK1197.out 4).trans rfl; have hfz9_0 := ae BK1197.out 0; have hfz9_1 := ae BK1197.out 1; have hfz9_2 := ae BK1197.out 2; have hfz9_3 := ae BK1197.out 3; have hfz9_4 := ae BK1197.out 4))
 go_ret
 exact ⟨eT, bT HB⟩
end Go.Proofs.YtkbhkonenkgfoaaGreat.Q
end
