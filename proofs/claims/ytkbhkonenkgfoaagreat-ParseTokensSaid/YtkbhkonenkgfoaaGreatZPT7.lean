/- Walks over functions of the program, words for them, and what the functions come to; of each text only what this claim uses; no condition. -/
import Derived.Test.YtkbhkonenkgfoaaGreatZPT0
import Derived.Test.YtkbhkonenkgfoaaGreatZPT1
import Derived.Test.YtkbhkonenkgfoaaGreatZPT3
import Derived.Test.YtkbhkonenkgfoaaGreatZPT4
import Derived.Test.YtkbhkonenkgfoaaGreatZPT5
import Derived.Test.YtkbhkonenkgfoaaGreatZPT6
import Derived.StillTailTactics
section
set_option linter.unusedVariables false
set_option linter.unusedSimpArgs false
namespace Go.Proofs.YtkbhkonenkgfoaaGreat.Q
open Go Go.RowKit Go.Proofs.YtkbhkonenkgfoaaGreatW.PrintWords Go.Proofs.YtkbhkonenkgfoaaGreatW.PrintLast Go.Proofs.YtkbhkonenkgfoaaGreatW.PrintMore
attribute [local go_sem] l7 lu lq lm
set_option maxHeartbeats 8000000 in
set_option maxRecDepth 100000 in
theorem uh (F : Fam) (HF : l9 F) (k : Nat) (g : Nat) (s0 : List S37) (s1 : Int) (s2 : Bool) (a0 : Int) (a1 : Int) (a2 : ByteArray) (a3 : Int) (a4 : ByteArray) (r : List S29) (e1 : Int) (e2 : Bool) (w0 w : World) (hI : Rd 40 w0 w g s0 s1 s2) (hB : Below w0.heap.size w0 w) (h : dw.f F k s0 s1 s2 a0 a1 a2 a3 a4 = some (r, e1, e2)) :
 Calls Tryz.prog 27 #[.pointer (some ⟨g, 0, none⟩), .agg #[.int .i64 a0, .int .i64 a1, .string a2, .int .i64 a3, .string a4]] w (Back 40 w0 w g s0 e1 e2 (IsL w r)) := by
 unfold dw.f at h
 have HS := St.new (T := 40) (by decide) hI hB
 have H := af.mk h
 clear h hI hB
 go_enter Tryz.func27, Tryz.ntmps27
 go_wp2_with (first | ((with_reducible refine bH (N := 3) rfl ?_); refine boxS (N := 3) (stT HS) (by first | (go_simp; done) | (go_simp; rfl)) ?_; clear HS; intro gb w' HS hne hge; (try (have hb_ := HS.box rfl; have hx0 := (ag hb_ 0).trans rfl; have hf0 := ae hb_ 0; have hx1 := (ag hb_ 1).trans rfl; have hf1 := ae hb_ 1; have hx2 := (ag hb_ 2).trans rfl; have hf2 := ae hb_ 2; have hx3 := (ag hb_ 3).trans rfl; have hf3 := ae hb_ 3; have hx4 := (ag hb_ 4).trans rfl; have hf4 := ae hb_ 4; clear hb_))) | ((with_reducible refine gC 65 rfl ?_); refine sK 65 rfl Tryz.func65 (stX HS) H (fun t q b hI hB h => DK _ g _ _ _ t q b w0 _ hI hB h) ?_; (try clear hx0 hx1 hx2 hx3 hx4 hf0 hf1 hf2 hf3 hf4); clear HS H; intro t q b w' A c HS H; (try dsimp only at H); (try (have hb_ := HS.box rfl; have hx0 := (ag hb_ 0).trans rfl; have hf0 := ae hb_ 0; have hx1 := (ag hb_ 1).trans rfl; have hf1 := ae hb_ 1; have hx2 := (ag hb_ 2).trans rfl; have hf2 := ae hb_ 2; have hx3 := (ag hb_ 3).trans rfl; have hf3 := ae hb_ 3; have hx4 := (ag hb_ 4).trans rfl; have hf4 := ae hb_ 4; clear hb_))))
 (try simp only [Act.put, List.setIfInBounds_toArray, List.set_cons_zero, List.set_cons_succ])
 go_region_held3 (fun w' => w'.cell? ⟨gb, 0, none⟩ = some (.int .i64 a0) ∧ w'.cell? ⟨gb, 1, none⟩ = some (.int .i64 a1) ∧ w'.cell? ⟨gb, 2, none⟩ = some (.string a2) ∧ w'.cell? ⟨gb, 3, none⟩ = some (.int .i64 a3) ∧ w'.cell? ⟨gb, 4, none⟩ = some (.string a4)) (first | exact ⟨hx0, hx1, hx2, hx3, hx4⟩ | go_keep) (first | (go_at_call 67; refine cL (stT HS) H (fun t q b hI hB h => yM F HF _ g _ _ _ t q b w0 _ hI hB h) ?_; (try clear hx0 hx1 hx2 hx3 hx4 hf0 hf1 hf2 hf3 hf4); clear HS H; intro t q b w' A c HS H; (try dsimp only at H); (try (have hb_ := HS.box rfl; have hx0 := (ag hb_ 0).trans rfl; have hf0 := ae hb_ 0; have hx1 := (ag hb_ 1).trans rfl; have hf1 := ae hb_ 1; have hx2 := (ag hb_ 2).trans rfl; have hf2 := ae hb_ 2; have hx3 := (ag hb_ 3).trans rfl; have hf3 := ae hb_ 3; have hx4 := (ag hb_ 4).trans rfl; have hf4 := ae hb_ 4; clear hb_))) | (go_at_call 28; obtain rfl := hn.out; refine cJ (stT HS) H (fun t hr hc => aW.calls _ _ _ _ _ _ _ _ _ t _ hr hc) ?_; (try clear hx0 hx1 hx2 hx3 hx4 hf0 hf1 hf2 hf3 hf4); clear HS H; intro t w' A c HS hb H; (try dsimp only at H); clear hb; (try (have hb_ := HS.box rfl; have hx0 := (ag hb_ 0).trans rfl; have hf0 := ae hb_ 0; have hx1 := (ag hb_ 1).trans rfl; have hf1 := ae hb_ 1; have hx2 := (ag hb_ 2).trans rfl; have hf2 := ae hb_ 2; have hx3 := (ag hb_ 3).trans rfl; have hf3 := ae hb_ 3; have hx4 := (ag hb_ 4).trans rfl; have hf4 := ae hb_ 4; clear hb_))) | (refine JS (N := 15) (.tmp 11) (.tmp 14) rfl Tryz.underlying55 info23 HS.Ht (by rfl) rfl rfl H ?_; (try clear hx0 hx1 hx2 hx3 hx4 hf0 hf1 hf2 hf3 hf4); clear HS H; intro A c w' n hn HS H; (try (have hb_ := HS.box rfl; have hx0 := (ag hb_ 0).trans rfl; have hf0 := ae hb_ 0; have hx1 := (ag hb_ 1).trans rfl; have hf1 := ae hb_ 1; have hx2 := (ag hb_ 2).trans rfl; have hf2 := ae hb_ 2; have hx3 := (ag hb_ 3).trans rfl; have hf3 := ae hb_ 3; have hx4 := (ag hb_ 4).trans rfl; have hf4 := ae hb_ 4; clear hb_))))
 go_wp2
 all_goals
  have h_ := H.out; simp only [Option.some.injEq, Prod.mk.injEq] at h_; obtain ⟨rfl, rfl, rfl⟩ := h_
  go_ret
  exact (stT HS).jk (.head _)
end Go.Proofs.YtkbhkonenkgfoaaGreat.Q
end
section
namespace Go.Proofs.YtkbhkonenkgfoaaGreat.Q
open Go.RowKit Go.Proofs.YtkbhkonenkgfoaaGreatW.PrintWords Go.Proofs.YtkbhkonenkgfoaaGreatW.PrintLast Go.Proofs.YtkbhkonenkgfoaaGreatW.PrintMore
attribute [local go_sem] iM iL iK iJ dJ dH dS dR cZ cO dI dG
set_option linter.unusedVariables false
set_option linter.unusedSimpArgs false
/-! ### fH: function 109 -/
def fH.f (F : Fam) (k : Nat) (s0_0 : List (S37)) (s0_1 : Int) (s0_2 : Bool) : Option ((List (S29)) × Int × Bool) := (dE.f s0_0 s0_1 s0_2).bind fun bt643 => (if bt643.1.toList = ([110, 105, 108] : List UInt8) then ((bn.f s0_0 bt643.2.1 bt643.2.2 bt643.1).bind fun bt646 => ((aW.f k 18 0 (⟨#[]⟩ : ByteArray) 0 (⟨#[]⟩ : ByteArray) ([] : List (List (S29)))).bind fun t649 => (some (t649, bt646.2.1, bt646.2.2)))) else (if bt643.1.toList = ([115, 116, 97, 116, 101] : List UInt8) then ((bn.f s0_0 bt643.2.1 bt643.2.2 bt643.1).bind fun bt652 => ((aW.f k 29 0 (⟨#[]⟩ : ByteArray) 0 (⟨#[]⟩ : ByteArray) ([] : List (List (S29)))).bind fun t655 => (some (t655, bt652.2.1, bt652.2.2)))) else (if bt643.1.toList = ([123] : List UInt8) then ((bn.f s0_0 bt643.2.1 bt643.2.2 bt643.1).bind fun bt658 => ((aY.f s0_0 bt658.2.1 bt658.2.2 (⟨#[125]⟩ : ByteArray)).bind fun bt661 => ((aW.f k 25 0 (⟨#[]⟩ : ByteArray) 0 (⟨#[]⟩ : ByteArray) ([] : List (List (S29)))).bind fun t663 => (some (t663, bt661.1, bt661.2))))) else (if bt643.1.toList = ([102, 110] : List UInt8) then ((bn.f s0_0 bt643.2.1 bt643.2.2 bt643.1).bind fun bt666 => ((dw.f F k s0_0 bt666.2.1 bt666.2.2 24 0 (⟨#[]⟩ : ByteArray) 0 (⟨#[]⟩ : ByteArray)).bind fun bt669 => (some (bt669.1, bt669.2.1, bt669.2.2)))) else (if bt643.1.toList = ([40] : List UInt8) then ((bn.f s0_0 bt643.2.1 bt643.2.2 bt643.1).bind fun bt674 => ((jM.f F k s0_0 bt674.2.1 bt674.2.2).bind fun bt677 => ((aY.f s0_0 bt677.2.1 bt677.2.2 (⟨#[41]⟩ : ByteArray)).bind fun bt682 => (some (bt677.1, bt682.1, bt682.2))))) else ((fU.f F k s0_0 bt643.2.1 bt643.2.2).bind fun bt684 => (some (bt684.1, bt684.2.1, bt684.2.2))))))))
theorem fH.mono {F F' : Fam} (HLE : kS F F') : ∀ a0 a1 a2 k, LeO (fH.f F k a0 a1 a2) (fH.f F' (k + 1) a0 a1 a2) := by
 intro a0 a1 a2 k
 unfold fH.f
 have m0 := aW.mono
 have m1 := (dw.mono HLE)
 have m2 := (fU.mono HLE)
 have m3 := (jM.mono HLE)
 exact yL
-- BY HAND: function 117 (runtime_errorString_RuntimeError)
end Go.Proofs.YtkbhkonenkgfoaaGreat.Q
end
section
set_option linter.unusedVariables false
set_option linter.unusedSimpArgs false
namespace Go.Proofs.YtkbhkonenkgfoaaGreat.Q
open Go Go.RowKit Go.Proofs.YtkbhkonenkgfoaaGreatW.PrintWords Go.Proofs.YtkbhkonenkgfoaaGreatW.PrintLast Go.Proofs.YtkbhkonenkgfoaaGreatW.PrintMore
attribute [local go_sem] l7 lu lq lm
set_option maxHeartbeats 8000000 in
set_option maxRecDepth 100000 in
theorem FT (F : Fam) (HF : l9 F) (k : Nat) (g : Nat) (s0 : List S37) (s1 : Int) (s2 : Bool) (r : List S29) (e1 : Int) (e2 : Bool) (w0 w : World) (hI : Rd 40 w0 w g s0 s1 s2) (hB : Below w0.heap.size w0 w) (h : fH.f F k s0 s1 s2 = some (r, e1, e2)) :
 Calls Tryz.prog 109 #[.pointer (some ⟨g, 0, none⟩)] w (Back 40 w0 w g s0 e1 e2 (IsL w r)) := by
 unfold fH.f at h
 have HS := St.new (T := 40) (by decide) hI hB
 have H := af.mk h
 clear h hI hB
 go_enter Tryz.func109, Tryz.ntmps109
 go_wp2_with (first | ((with_reducible refine gC 64 rfl ?_); refine sS 64 rfl Tryz.func64 (stT HS) H (fun t q b hI hB => dE.calls g _ _ _ t q b w0 _ hI hB) ?_; clear HS H; intro t q b w' HS H; (try dsimp only at H); rcases tS t ([110, 105, 108] : List UInt8) with ⟨c, cb1, cn1⟩ | ⟨c, cb1, cn1⟩; replace H := hI c H; clear c; rotate_left; replace H := hE c H; clear c; rcases tS t ([115, 116, 97, 116, 101] : List UInt8) with ⟨c, cb2, cn2⟩ | ⟨c, cb2, cn2⟩; replace H := hI c H; clear c; rotate_left; replace H := hE c H; clear c; rcases tS t ([123] : List UInt8) with ⟨c, cb3, cn3⟩ | ⟨c, cb3, cn3⟩; replace H := hI c H; clear c; rotate_left; replace H := hE c H; clear c; rcases tS t ([102, 110] : List UInt8) with ⟨c, cb4, cn4⟩ | ⟨c, cb4, cn4⟩; replace H := hI c H; clear c; rotate_left; replace H := hE c H; clear c; rcases tS t ([40] : List UInt8) with ⟨c, cb5, cn5⟩ | ⟨c, cb5, cn5⟩; replace H := hI c H; clear c; rotate_left; replace H := hE c H; clear c) | ((with_reducible refine gC 25 rfl ?_); refine sB 25 rfl Tryz.func25 (stT HS) H (fun t q b hI hB => bn.calls g _ _ _ _ t q b w0 _ hI hB) ?_; clear HS H; intro t q b w' HS H; (try dsimp only at H)) | ((with_reducible refine gC 28 rfl ?_); refine sJ 28 rfl Tryz.func28 (stT HS).sZ H (fun t hr hc => aW.calls _ _ _ _ _ _ _ _ _ t _ hr hc) ?_; clear HS H; intro t w' A c HS H; (try dsimp only at H)) | ((with_reducible refine gC 23 rfl ?_); refine sU 23 rfl Tryz.func23 (stT HS) H (fun q b hI hB => aY.calls g _ _ _ _ q b w0 _ hI hB) ?_; clear HS H; intro q b w' HS H; (try dsimp only at H)) | ((with_reducible refine gC 27 rfl ?_); refine sL 27 rfl Tryz.func27 (stT HS) H (fun t q b hI hB h => uh F HF _ g _ _ _ _ _ _ _ _ t q b w0 _ hI hB h) ?_; clear HS H; intro t q b w' A c HS H; (try dsimp only at H)) | ((with_reducible refine gC 96 rfl ?_); refine sL 96 rfl Tryz.func96 (stT HS) H (fun t q b hI hB h => toL (HF.expr g _ _ _ t q b w0 _ hI hB h)) ?_; clear HS H; intro t q b w' A c HS H; (try dsimp only at H)) | ((with_reducible refine gC 113 rfl ?_); refine sL 113 rfl Tryz.func113 (stT HS) H (fun t q b hI hB h => FU F HF _ g _ _ _ t q b w0 _ hI hB h) ?_; clear HS H; intro t q b w' A c HS H; (try dsimp only at H)))
 all_goals
  have h_ := H.out; simp only [Option.some.injEq, Prod.mk.injEq] at h_; obtain ⟨rfl, rfl, rfl⟩ := h_
  go_ret
  exact (stT HS).jk (.head _)
end Go.Proofs.YtkbhkonenkgfoaaGreat.Q
end
section
namespace Go.Proofs.YtkbhkonenkgfoaaGreat.Q
open Go.RowKit Go.Proofs.YtkbhkonenkgfoaaGreatW.PrintWords Go.Proofs.YtkbhkonenkgfoaaGreatW.PrintLast Go.Proofs.YtkbhkonenkgfoaaGreatW.PrintMore
attribute [local go_sem] iM iL iK iJ dJ dH dS dR cZ cO dI dG
set_option linter.unusedVariables false
set_option linter.unusedSimpArgs false
/-! ### aQ: function 105 -/
mutual
def aQ.j0 (F : Fam) : Nat → ByteArray → ByteArray → Bool → List (S37) → Int → Bool → Option ((List (S29)) × Int × Bool)
 | 0, _, _, _, _, _, _ => none
 | k + 1, x3, x8, x9, x1000, x1001, x1002 => if x9 = true then ((bn.f x1000 x1001 x1002 x3).bind fun bt692 => ((o9.f F k x1000 bt692.2.1 bt692.2.2).bind fun bt695 => ((aW.f k 28 0 (⟨#[]⟩ : ByteArray) 0 x3 (([bt695.1] : List (List (S29))))).bind fun t703 => (some (t703, bt695.2.1, bt695.2.2))))) else (if x8.toList = ([115, 112, 97, 119, 110] : List UInt8) then ((bn.f x1000 x1001 x1002 x3).bind fun bt706 => ((o9.f F k x1000 bt706.2.1 bt706.2.2).bind fun bt709 => ((aW.f k 30 0 (⟨#[]⟩ : ByteArray) 0 (⟨#[]⟩ : ByteArray) (([bt709.1] : List (List (S29))))).bind fun t717 => (some (t717, bt709.2.1, bt709.2.2))))) else ((fH.f F k x1000 x1001 x1002).bind fun bt720 => (aQ.l0 F k bt720.1 x1000 bt720.2.1 bt720.2.2)))
def aQ.l0 (F : Fam) : Nat → List (S29) → List (S37) → Int → Bool → Option ((List (S29)) × Int × Bool)
 | 0, _, _, _, _ => none
 | k + 1, x4, x1000, x1001, x1002 => if x1002 = true then (some (x4, x1001, x1002)) else ((dE.f x1000 x1001 x1002).bind fun bt725 => (if bt725.1.toList = ([40] : List UInt8) then ((some (([x4] : List (List (S29))) : List (List (S29)))).bind fun y728 => ((iD.f F k x1000 bt725.2.1 bt725.2.2).bind fun bt731 => (if y728.length + bt731.1.length < 5864062014805 then ((aW.f k 22 0 (⟨#[]⟩ : ByteArray) 0 (⟨#[]⟩ : ByteArray) (y728 ++ bt731.1)).bind fun t739 => (aQ.l0 F k t739 x1000 bt731.2.1 bt731.2.2)) else (none)))) else (if bt725.1.toList = ([91] : List UInt8) then ((bn.f x1000 bt725.2.1 bt725.2.2 (⟨#[91]⟩ : ByteArray)).bind fun bt742 => ((jM.f F k x1000 bt742.2.1 bt742.2.2).bind fun bt745 => ((aW.f k 26 0 (⟨#[]⟩ : ByteArray) 0 (⟨#[]⟩ : ByteArray) (([x4, bt745.1] : List (List (S29))))).bind fun t753 => ((aY.f x1000 bt745.2.1 bt745.2.2 (⟨#[93]⟩ : ByteArray)).bind fun bt756 => (aQ.l0 F k t753 x1000 bt756.1 bt756.2))))) else (some (x4, bt725.2.1, bt725.2.2)))))
end
def aQ.f (F : Fam) (k : Nat) (s0_0 : List (S37)) (s0_1 : Int) (s0_2 : Bool) : Option ((List (S29)) × Int × Bool) := (dE.f s0_0 s0_1 s0_2).bind fun bt689 => (if bt689.1.toList = ([45] : List UInt8) then (aQ.j0 F k bt689.1 bt689.1 (bt689.1.toList == ([45] : List UInt8)) s0_0 bt689.2.1 bt689.2.2) else (if bt689.1.toList = ([110, 111, 116] : List UInt8) then (aQ.j0 F k bt689.1 bt689.1 (bt689.1.toList == ([110, 111, 116] : List UInt8)) s0_0 bt689.2.1 bt689.2.2) else (aQ.j0 F k bt689.1 bt689.1 (bt689.1.toList == ([108, 101, 110] : List UInt8)) s0_0 bt689.2.1 bt689.2.2)))
theorem aQ.bZ {F F' : Fam} (HLE : kS F F') : ∀ k, (∀ y0 y1 y2 y3 y4 y5, LeO (aQ.j0 F k y0 y1 y2 y3 y4 y5) (aQ.j0 F' (k + 1) y0 y1 y2 y3 y4 y5)) ∧ (∀ y0 y1 y2 y3, LeO (aQ.l0 F k y0 y1 y2 y3) (aQ.l0 F' (k + 1) y0 y1 y2 y3))
 | 0 => ⟨fun _ _ _ _ _ _ r h => by simp [aQ.j0] at h, fun _ _ _ _ r h => by simp [aQ.l0] at h⟩
 | k + 1 => by
  obtain ⟨ih0, ih1⟩ := aQ.bZ HLE k
  refine ⟨?_, ?_⟩
  ·intro y0 y1 y2 y3 y4 y5
   unfold aQ.j0
   have m0 := aW.mono
   have m1 := (fH.mono HLE)
   have m2 := (iD.mono HLE)
   have m3 := (jM.mono HLE)
   have m4 := (o9.mono HLE)
   exact yL
  intro y0 y1 y2 y3
  unfold aQ.l0
  have m0 := aW.mono
  have m1 := (fH.mono HLE)
  have m2 := (iD.mono HLE)
  have m3 := (jM.mono HLE)
  have m4 := (o9.mono HLE)
  exact yL
theorem aQ.mono {F F' : Fam} (HLE : kS F F') : ∀ a0 a1 a2 k, LeO (aQ.f F k a0 a1 a2) (aQ.f F' (k + 1) a0 a1 a2) := by
 intro a0 a1 a2 k
 obtain ⟨ih0, ih1⟩ := aQ.bZ HLE k
 unfold aQ.f
 have m0 := aW.mono
 have m1 := (fH.mono HLE)
 have m2 := (iD.mono HLE)
 have m3 := (jM.mono HLE)
 have m4 := (o9.mono HLE)
 exact yL
end Go.Proofs.YtkbhkonenkgfoaaGreat.Q
end
section
set_option linter.unusedVariables false
set_option linter.unusedSimpArgs false
namespace Go.Proofs.YtkbhkonenkgfoaaGreat.Q
open Go Go.RowKit Go.Proofs.YtkbhkonenkgfoaaGreatW.PrintWords Go.Proofs.YtkbhkonenkgfoaaGreatW.PrintLast Go.Proofs.YtkbhkonenkgfoaaGreatW.PrintMore
attribute [local go_sem] l7 lu lq lm
set_option maxHeartbeats 8000000 in
set_option maxRecDepth 100000 in
theorem yI (F : Fam) (HF : l9 F) (k : Nat) (g : Nat) (s0 : List S37) (s1 : Int) (s2 : Bool) (r : List S29) (e1 : Int) (e2 : Bool) (w0 w : World) (hI : Rd 40 w0 w g s0 s1 s2) (hB : Below w0.heap.size w0 w) (h : aQ.f F k s0 s1 s2 = some (r, e1, e2)) :
 Calls Tryz.prog 105 #[.pointer (some ⟨g, 0, none⟩)] w (Back 40 w0 w g s0 e1 e2 (IsL w r)) := by
 unfold aQ.f at h
 have HS := St.new (T := 40) (by decide) hI hB
 have H := af.mk h
 clear h hI hB
 go_enter Tryz.func105, Tryz.ntmps105
 go_wp2_with (first | ((with_reducible refine gC 64 rfl ?_); refine sS 64 rfl Tryz.func64 (stT HS) H (fun t q b hI hB => dE.calls g _ _ _ t q b w0 _ hI hB) ?_; clear HS H; intro t q b w' HS H; (try dsimp only at H); rcases tS t ([45] : List UInt8) with ⟨c, cb1, cn1⟩ | ⟨c, cb1, cn1⟩; replace H := hI c H; clear c; rcases k with _ | k; exact absurd H.out (by simp [aQ.j0]); simp only [aQ.j0] at H; simp only [cb1, if_true] at H; rotate_left; replace H := hE c H; clear c; rcases tS t ([110, 111, 116] : List UInt8) with ⟨c, cb2, cn2⟩ | ⟨c, cb2, cn2⟩; replace H := hI c H; clear c; rcases k with _ | k; exact absurd H.out (by simp [aQ.j0]); simp only [aQ.j0] at H; simp only [cb2, if_true] at H; rotate_left; replace H := hE c H; clear c; (rcases k with _ | k; exact absurd H.out (by simp [aQ.j0]); simp only [aQ.j0] at H); rcases tS t ([108, 101, 110] : List UInt8) with ⟨c, cb3, cn3⟩ | ⟨c, cb3, cn3⟩; clear c; simp only [cb3, if_true] at H; rotate_left; clear c; simp only [cb3, Bool.false_eq_true, if_false] at H; rcases tS t ([115, 112, 97, 119, 110] : List UInt8) with ⟨c, cb4, cn4⟩ | ⟨c, cb4, cn4⟩; replace H := hI c H; clear c; rotate_left; replace H := hE c H; clear c) | ((with_reducible refine gC 25 rfl ?_); refine sB 25 rfl Tryz.func25 (stT HS) H (fun t q b hI hB => bn.calls g _ _ _ _ t q b w0 _ hI hB) ?_; clear HS H; intro t q b w' HS H; (try dsimp only at H)) | ((with_reducible refine gC 105 rfl ?_); refine sL 105 rfl Tryz.func105 (stT HS) H (fun t q b hI hB h => toL (HF.unary g _ _ _ t q b w0 _ hI hB h)) ?_; clear HS H; intro t q b w' A c HS H; (try dsimp only at H)) | ((with_reducible refine bH (N := 20) rfl ?_); refine kR (N := 20) (stT HS) (by first | (go_simp; done) | (go_simp; rfl)) ?_; clear HS; intro A c w' HS) | ((with_reducible refine bH (N := 30) rfl ?_); refine kR (N := 30) (stT HS) (by first | (go_simp; done) | (go_simp; rfl)) ?_; clear HS; intro A c w' HS) | ((with_reducible refine gC 28 rfl ?_); refine sJ 28 rfl Tryz.func28 (stT HS) H (fun t hr hc => aW.calls _ _ _ _ _ _ _ _ _ t _ hr hc) ?_; clear HS H; intro t w' A c HS H; (try dsimp only at H)) | ((with_reducible refine gC 109 rfl ?_); refine sL 109 rfl Tryz.func109 (stT HS) H (fun t q b hI hB h => FT F HF _ g _ _ _ t q b w0 _ hI hB h) ?_; clear HS H; intro t q b w' A c HS H; (try dsimp only at H)))
 all_goals first
  | (have h_ := H.out; simp only [Option.some.injEq, Prod.mk.injEq] at h_; obtain ⟨rfl, rfl, rfl⟩ := h_; go_ret; exact (stT HS).jk (.head _))
  | skip
 (try simp only [Act.put, List.setIfInBounds_toArray, List.set_cons_zero, List.set_cons_succ])
 go_loopg [4] k (fun kq v4 w' => ∃ (x4 : List S29) (p : Int) (d : Bool) (A : Option Addr) (c : Nat), v4 = .slice A x4.length c ∧ af (aQ.l0 F kq x4 s0 p d = some (r, e1, e2)) ∧ af (kq ≤ k) ∧ St 40 w0 w w' g s0 p d [(.slice A x4.length c, x4)] [] ⟨[], []⟩)
 case atStart => exact ⟨_, _, _, _, _, rfl, H, ⟨Nat.le_refl _⟩, stT HS⟩
 case round =>
  clear HS H
  obtain ⟨x4, p, d, A, c, rfl, H, HK1, HS⟩ := hrel
  cases gk with
  | zero => exact absurd H.out (by simp [aQ.l0])
  | succ k1 =>
   simp only [aQ.l0] at H
   have hc2 := HS.rd.cell2
   cases d <;> (try simp only [if_true, if_false, eq_self, Bool.false_eq_true, Bool.not_true, Bool.not_false] at H)
   all_goals go_wp2_with (first | ((with_reducible refine gC 64 rfl ?_); refine sS 64 rfl Tryz.func64 (stT HS) H (fun t q b hI hB => dE.calls g _ _ _ t q b w0 _ hI hB) ?_; clear HS H; intro t1 q b w' HS H; (try dsimp only at H); rcases tS t1 ([40] : List UInt8) with ⟨c, cb5, cn5⟩ | ⟨c, cb5, cn5⟩; replace H := hI c H; clear c; rotate_left; replace H := hE c H; clear c; rcases tS t1 ([91] : List UInt8) with ⟨c, cb6, cn6⟩ | ⟨c, cb6, cn6⟩; replace H := hI c H; clear c; rotate_left; replace H := hE c H; clear c) | ((with_reducible refine bH (N := 44) rfl ?_); refine kR (N := 44) (stT HS) (by first | (go_simp; done) | (go_simp; rfl)) ?_; clear HS; intro A c w' HS; replace H := hB H; (try dsimp only at H)) | ((with_reducible refine gC 65 rfl ?_); refine sK 65 rfl Tryz.func65 (stT HS) H (fun t q b hI hB h => yJ F HF _ g _ _ _ t q b w0 _ hI hB h) ?_; clear HS H; intro t q b w' A c HS H; (try dsimp only at H)) | ((with_reducible refine ed (b := .append) (xs := #[.tmp 46, .tmp 50]) rfl ?_); at_builtin; refine xW (N := 51) (.tmp 46) (.tmp 50) rfl Tryz.underlying55 info23 (stT HS) rfl rfl H ?_; clear HS H; intro A c w' HS H; (try replace H := hB H); (try dsimp only at H)) | ((with_reducible refine gC 28 rfl ?_); refine sJ 28 rfl Tryz.func28 (stT HS) H (fun t hr hc => aW.calls _ _ _ _ _ _ _ _ _ t _ hr hc) ?_; clear HS H; intro t w' A c HS H; (try dsimp only at H)) | ((with_reducible refine gC 25 rfl ?_); refine sB 25 rfl Tryz.func25 (stT HS) H (fun t q b hI hB => bn.calls g _ _ _ _ t q b w0 _ hI hB) ?_; clear HS H; intro t q b w' HS H; (try dsimp only at H)) | ((with_reducible refine gC 96 rfl ?_); refine sL 96 rfl Tryz.func96 (stT HS) H (fun t q b hI hB h => toL (HF.expr g _ _ _ t q b w0 _ hI hB h)) ?_; clear HS H; intro t q b w' A c HS H; (try dsimp only at H)) | ((with_reducible refine bH (N := 61) rfl ?_); refine vF (N := 61) (stT HS) (by first | (go_simp; done) | (go_simp; rfl)) ?_; clear HS; intro A c w' HS) | ((with_reducible refine gC 23 rfl ?_); refine sU 23 rfl Tryz.func23 (stT HS) H (fun q b hI hB => aY.calls g _ _ _ _ q b w0 _ hI hB) ?_; clear HS H; intro q b w' HS H; (try dsimp only at H)))
   all_goals first
    | (go_roundg k1; (case measure => have := HK1.out; omega); (case rel => exact ⟨_, _, _, _, _, by first | rfl | simp, H, ⟨by have := HK1.out; omega⟩, (stT HS).zk⟩))
    | (have h_ := H.out; simp only [Option.some.injEq, Prod.mk.injEq] at h_; obtain ⟨rfl, rfl, rfl⟩ := h_; go_ret; exact (stT HS).jk (.head _))
theorem aQ.calls (F : Fam) (HF : l9 F) (k : Nat) (g : Nat) (s0 : List S37) (s1 : Int) (s2 : Bool) (r1 : List S29) (r2 : Int) (r3 : Bool) (w0 w : World) (hI : dn w0 w g s0 s1 s2) (hB : Below w0.heap.size w0 w) (h : aQ.f F k s0 s1 s2 = some (r1, r2, r3)) : Reads 105 #[] g s0 r1 r2 r3 w0 w :=
 ofL (yI F HF k g s0 s1 s2 r1 r2 r3 w0 w hI hB h)
end Go.Proofs.YtkbhkonenkgfoaaGreat.Q
end
section
namespace Go.Proofs.YtkbhkonenkgfoaaGreat.Q
open Go.RowKit Go.Proofs.YtkbhkonenkgfoaaGreatW.PrintWords Go.Proofs.YtkbhkonenkgfoaaGreatW.PrintLast Go.Proofs.YtkbhkonenkgfoaaGreatW.PrintMore
attribute [local go_sem] dJ dH dS dR cZ cO dI dG
set_option linter.unusedVariables false
set_option linter.unusedSimpArgs false
/-! ### dN: function 106 -/
mutual
def dN.j0 : Nat → ByteArray → Bool → Option (Int)
 | 0, _, _ => none
 | k + 1, x3, x8 => if x8 = true then (some 3) else (if x3.toList = ([43] : List UInt8) then (dN.j1 k x3 (x3.toList == ([43] : List UInt8))) else (if x3.toList = ([45] : List UInt8) then (dN.j1 k x3 (x3.toList == ([45] : List UInt8))) else (dN.j1 k x3 (x3.toList == ([46, 46] : List UInt8)))))
def dN.j1 : Nat → ByteArray → Bool → Option (Int)
 | 0, _, _ => none
 | k + 1, x3, x13 => if x13 = true then (some 4) else (if x3.toList = ([42] : List UInt8) then (some 5) else (if x3.toList = ([47] : List UInt8) then (some 5) else (if x3.toList = ([37] : List UInt8) then (some 5) else (some 0))))
end
def dN.f (k : Nat) (a0 : ByteArray) : Option (Int) := if a0.toList = ([111, 114] : List UInt8) then (some 1) else (if a0.toList = ([97, 110, 100] : List UInt8) then (some 2) else (if a0.toList = ([61, 61] : List UInt8) then (dN.j0 k a0 (a0.toList == ([61, 61] : List UInt8))) else (if a0.toList = ([33, 61] : List UInt8) then (dN.j0 k a0 (a0.toList == ([33, 61] : List UInt8))) else (if a0.toList = ([60] : List UInt8) then (dN.j0 k a0 (a0.toList == ([60] : List UInt8))) else (dN.j0 k a0 (a0.toList == ([60, 61] : List UInt8)))))))
theorem dN.bZ : ∀ k, (∀ y0 y1, LeO (dN.j0 k y0 y1) (dN.j0 (k + 1) y0 y1)) ∧ (∀ y0 y1, LeO (dN.j1 k y0 y1) (dN.j1 (k + 1) y0 y1))
 | 0 => ⟨fun _ _ r h => by simp [dN.j0] at h, fun _ _ r h => by simp [dN.j1] at h⟩
 | k + 1 => by
  obtain ⟨ih0, ih1⟩ := dN.bZ k
  refine ⟨?_, ?_⟩
  ·intro y0 y1
   unfold dN.j0
   exact yL
  intro y0 y1
  unfold dN.j1
  exact yL
theorem dN.mono : ∀ a0 k, LeO (dN.f k a0) (dN.f (k + 1) a0) := by
 intro a0 k
 obtain ⟨ih0, ih1⟩ := dN.bZ k
 unfold dN.f
 exact yL
set_option maxHeartbeats 8000000 in
set_option maxRecDepth 100000 in
theorem dN.calls (k : Nat) (a0 : ByteArray) (r : Int) (w : World) (h : dN.f k a0 = some r) :
 Calls Tryz.prog 106 #[.string a0] w fun e w' => e = .returned (.int .i64 r) ∧ dZ w w' := by
 have H := h
 clear h
 unfold dN.f at H
 revert H
 refine aU (fun c2b0 c2b1 H => ?_) fun c2 c2b0 c2b1 H => ?_
 ·obtain rfl := Option.some.inj H
  go_enter Tryz.func106, Tryz.ntmps106
  go_wp2
  go_ret
  exact ⟨fT, Z0⟩
 revert H
 refine aU (fun c3b0 c3b1 H => ?_) fun c3 c3b0 c3b1 H => ?_
 ·obtain rfl := Option.some.inj H
  go_enter Tryz.func106, Tryz.ntmps106
  go_wp2
  go_ret
  exact ⟨fT, Z0⟩
 have HC4 := af.mk H
 clear H
 go_enter Tryz.func106, Tryz.ntmps106
 go_upto_if 8 with (fail)
 go_cut [8] (fun v8 wc => ∃ (kq : Nat) (x8_3 : Bool), v8 = .bool x8_3 ∧ af (dN.j0 kq a0 x8_3 = some r) ∧ af (kq ≤ k) ∧ dZ w wc)
 case first =>
  have H := HC4.out
  clear HC4
  revert H
  refine aU (fun c5b0 c5b1 H => ?_) fun c5 c5b0 c5b1 H => ?_
  ·(first | rw [c5b0] | (simp only [fP, gG]; rw [c5b0]) | skip)
   have H' := af.mk H
   clear H
   go_wp2
   go_meet
   case rel => exact ⟨_, ((a0.toList == ([61, 61] : List UInt8))), fT, H', ⟨Z11⟩, Z0⟩
  (first | rw [c5b0] | (simp only [fP, gG]; rw [c5b0]) | skip)
  revert H
  refine aU (fun c6b0 c6b1 H => ?_) fun c6 c6b0 c6b1 H => ?_
  ·have H' := af.mk H
   clear H
   go_wp2
   go_meet
   case rel => exact ⟨_, ((a0.toList == ([33, 61] : List UInt8))), fT, H', ⟨Z11⟩, Z0⟩
  revert H
  refine aU (fun c7b0 c7b1 H => ?_) fun c7 c7b0 c7b1 H => ?_
  ·have H' := af.mk H
   clear H
   go_wp2
   go_meet
   case rel => exact ⟨_, ((a0.toList == ([60] : List UInt8))), fT, H', ⟨Z11⟩, Z0⟩
  have H' := af.mk H
  clear H
  go_wp2
  go_meet
  case rel => exact ⟨_, ((a0.toList == ([60, 61] : List UInt8))), fT, H', ⟨Z11⟩, Z0⟩
 case rest =>
  clear HC4
  try clear c1
  try clear c2
  try clear c2b0
  try clear c2b1
  try clear p2
  try clear c3
  try clear c3b0
  try clear c3b1
  try clear c5
  try clear c5b0
  try clear c5b1
  try clear c6
  try clear c6b0
  try clear c6b1
  try clear c7
  try clear c7b0
  try clear c7b1
  obtain ⟨kq, x8_3, rfl, HA, HJ3, ⟨mc3, rfl⟩⟩ := hcut
  cases kq with
  | zero => exact absurd HA.out (by simp [dN.j0])
  | succ kj3 =>
   have H := HA.out
   clear HA
   simp only [dN.j0] at H
   cases x8_3
   rotate_left
   ·replace H := yT H
    obtain rfl := Option.some.inj H
    go_wp2
    go_ret
    exact ⟨fT, Z0⟩
   replace H := yF H
   have HC9 := af.mk H
   clear H
   go_upto_if 13 with (fail)
   go_cut [13] (fun v13 wc => ∃ (kq : Nat) (x13_8 : Bool), v13 = .bool x13_8 ∧ af (dN.j1 kq a0 x13_8 = some r) ∧ af (kq ≤ kj3) ∧ dZ w wc)
   case first =>
    have H := HC9.out
    clear HC9
    revert H
    refine aU (fun c10b0 c10b1 H => ?_) fun c10 c10b0 c10b1 H => ?_
    ·(first | rw [c10b0] | (simp only [fP, gG]; rw [c10b0]) | skip)
     have H' := af.mk H
     clear H
     go_wp2
     go_meet
     case rel => exact ⟨_, ((a0.toList == ([43] : List UInt8))), fT, H', ⟨by have := HJ3.out; first | omega | exact Nat.le_refl _⟩, Z0⟩
    (first | rw [c10b0] | (simp only [fP, gG]; rw [c10b0]) | skip)
    revert H
    refine aU (fun c11b0 c11b1 H => ?_) fun c11 c11b0 c11b1 H => ?_
    ·have H' := af.mk H
     clear H
     go_wp2
     go_meet
     case rel => exact ⟨_, ((a0.toList == ([45] : List UInt8))), fT, H', ⟨by have := HJ3.out; first | omega | exact Nat.le_refl _⟩, Z0⟩
    have H' := af.mk H
    clear H
    go_wp2
    go_meet
    case rel => exact ⟨_, ((a0.toList == ([46, 46] : List UInt8))), fT, H', ⟨by have := HJ3.out; first | omega | exact Nat.le_refl _⟩, Z0⟩
   case rest =>
    clear HC9
    try clear c1
    try clear c2
    try clear c2b0
    try clear c2b1
    try clear p2
    try clear c3
    try clear c3b0
    try clear c3b1
    try clear c5
    try clear c5b0
    try clear c5b1
    try clear c6
    try clear c6b0
    try clear c6b1
    try clear c7
    try clear c7b0
    try clear c7b1
    try clear c8
    try clear c10
    try clear c10b0
    try clear c10b1
    try clear c11
    try clear c11b0
    try clear c11b1
    try clear p2
    obtain ⟨kq, x13_8, rfl, HA, HJ8, ⟨mc8, rfl⟩⟩ := hcut
    cases kq with
    | zero => exact absurd HA.out (by simp [dN.j1])
    | succ kj8 =>
     have H := HA.out
     clear HA
     simp only [dN.j1] at H
     cases x13_8
     rotate_left
     ·replace H := yT H
      obtain rfl := Option.some.inj H
      go_wp2
      go_ret
      exact ⟨fT, Z0⟩
     replace H := yF H
     revert H
     refine aU (fun c13b0 c13b1 H => ?_) fun c13 c13b0 c13b1 H => ?_
     ·obtain rfl := Option.some.inj H
      go_wp2
      go_ret
      exact ⟨fT, Z0⟩
     revert H
     refine aU (fun c14b0 c14b1 H => ?_) fun c14 c14b0 c14b1 H => ?_
     ·obtain rfl := Option.some.inj H
      go_wp2
      go_ret
      exact ⟨fT, Z0⟩
     revert H
     refine aU (fun c15b0 c15b1 H => ?_) fun c15 c15b0 c15b1 H => ?_
     ·obtain rfl := Option.some.inj H
      go_wp2
      go_ret
      exact ⟨fT, Z0⟩
     obtain rfl := Option.some.inj H
     go_wp2
     go_ret
     exact ⟨fT, Z0⟩
end Go.Proofs.YtkbhkonenkgfoaaGreat.Q
end
section
namespace Go.Proofs.YtkbhkonenkgfoaaGreat.Q
open Go.RowKit Go.Proofs.YtkbhkonenkgfoaaGreatW.PrintWords Go.Proofs.YtkbhkonenkgfoaaGreatW.PrintLast Go.Proofs.YtkbhkonenkgfoaaGreatW.PrintMore
attribute [local go_sem] iM iL iK iJ dJ dH dS dR cZ cO dI dG
set_option linter.unusedVariables false
set_option linter.unusedSimpArgs false
-- BY HAND: function 116 (runtime_errorString_Error)
/-! ### bJ: function 102 -/
def bJ.l0 (F : Fam) : Nat → Int → List (S29) → List (S37) → Int → Bool → Option ((List (S29)) × Int × Bool)
 | 0, _, _, _, _, _ => none
 | k + 1, x1, x5, x1000, x1001, x1002 => if x1002 = true then (some (x5, x1001, x1002)) else ((dE.f x1000 x1001 x1002).bind fun bt768 => ((dN.f k bt768.1).bind fun t771 => (if t771 = x1 then ((bn.f x1000 bt768.2.1 bt768.2.2 bt768.1).bind fun bt772 => ((oW.f F k x1000 bt772.2.1 bt772.2.2 (wrap64 (x1 + 1))).bind fun bt775 => ((aW.f k 27 0 (⟨#[]⟩ : ByteArray) 0 bt768.1 (([x5, bt775.1] : List (List (S29))))).bind fun t783 => (if x1 = 3 then (some (t783, bt775.2.1, bt775.2.2)) else (bJ.l0 F k x1 t783 x1000 bt775.2.1 bt775.2.2))))) else (some (x5, bt768.2.1, bt768.2.2)))))
def bJ.f (F : Fam) (k : Nat) (s0_0 : List (S37)) (s0_1 : Int) (s0_2 : Bool) (a1 : Int) : Option ((List (S29)) × Int × Bool) := if a1 = 6 then ((aQ.f F k s0_0 s0_1 s0_2).bind fun bt758 => (some (bt758.1, bt758.2.1, bt758.2.2))) else ((oW.f F k s0_0 s0_1 s0_2 (wrap64 (a1 + 1))).bind fun bt763 => (bJ.l0 F k a1 bt763.1 s0_0 bt763.2.1 bt763.2.2))
theorem bJ.bZ {F F' : Fam} (HLE : kS F F') : ∀ k, (∀ y0 y1 y2 y3 y4, LeO (bJ.l0 F k y0 y1 y2 y3 y4) (bJ.l0 F' (k + 1) y0 y1 y2 y3 y4))
 | 0 => fun _ _ _ _ _ r h => by simp [bJ.l0] at h
 | k + 1 => by
  have ih0 := bJ.bZ HLE k
  intro y0 y1 y2 y3 y4
  unfold bJ.l0
  have m0 := aW.mono
  have m1 := (aQ.mono HLE)
  have m2 := dN.mono
  have m3 := (oW.mono HLE)
  exact yL
theorem bJ.mono {F F' : Fam} (HLE : kS F F') : ∀ a0 a1 a2 a3 k, LeO (bJ.f F k a0 a1 a2 a3) (bJ.f F' (k + 1) a0 a1 a2 a3) := by
 intro a0 a1 a2 a3 k
 have ih0 := bJ.bZ HLE k
 unfold bJ.f
 have m0 := aW.mono
 have m1 := (aQ.mono HLE)
 have m2 := dN.mono
 have m3 := (oW.mono HLE)
 exact yL
/-! ### fE: function 96 -/
def fE.f (F : Fam) (k : Nat) (s0_0 : List (S37)) (s0_1 : Int) (s0_2 : Bool) : Option ((List (S29)) × Int × Bool) := (bJ.f F k s0_0 s0_1 s0_2 1).bind fun bt786 => (some (bt786.1, bt786.2.1, bt786.2.2))
theorem fE.mono {F F' : Fam} (HLE : kS F F') : ∀ a0 a1 a2 k, LeO (fE.f F k a0 a1 a2) (fE.f F' (k + 1) a0 a1 a2) := by
 intro a0 a1 a2 k
 unfold fE.f
 have m0 := (bJ.mono HLE)
 exact yL
end Go.Proofs.YtkbhkonenkgfoaaGreat.Q
end
section
set_option linter.unusedVariables false
set_option linter.unusedSimpArgs false
namespace Go.Proofs.YtkbhkonenkgfoaaGreat.Q
open Go Go.RowKit Go.Proofs.YtkbhkonenkgfoaaGreatW.PrintWords Go.Proofs.YtkbhkonenkgfoaaGreatW.PrintLast Go.Proofs.YtkbhkonenkgfoaaGreatW.PrintMore
attribute [local go_sem] l7 lu lq lm
set_option maxHeartbeats 8000000 in
set_option maxRecDepth 100000 in
theorem yK (F : Fam) (HF : l9 F) (k : Nat) (g : Nat) (s0 : List S37) (s1 : Int) (s2 : Bool) (a : Int) (r : List S29) (e1 : Int) (e2 : Bool) (w0 w : World) (hI : Rd 40 w0 w g s0 s1 s2) (hB : Below w0.heap.size w0 w) (h : bJ.f F k s0 s1 s2 a = some (r, e1, e2)) :
 Calls Tryz.prog 102 #[.pointer (some ⟨g, 0, none⟩), .int .i64 a] w (Back 40 w0 w g s0 e1 e2 (IsL w r)) := by
 unfold bJ.f at h
 have HS := St.new (T := 40) (by decide) hI hB
 have H := af.mk h
 clear h hI hB
 rcases nS a 6 with ⟨c, cb0, cn0⟩ | ⟨c, cb0, cn0⟩
 ·replace H := hI c H
  subst c
  go_enter Tryz.func102, Tryz.ntmps102
  go_wp2_with (first | ((with_reducible refine gC 105 rfl ?_); refine sL 105 rfl Tryz.func105 (stT HS) H (fun t q b hI hB h => yI F HF _ g _ _ _ t q b w0 _ hI hB h) ?_; clear HS H; intro t q b w' A c HS H; (try dsimp only at H)))
  all_goals
   have h_ := H.out; simp only [Option.some.injEq, Prod.mk.injEq] at h_; obtain ⟨rfl, rfl, rfl⟩ := h_
   go_ret
   exact (stT HS).jk (.head _)
 replace H := hE c H
 clear c
 go_enter Tryz.func102, Tryz.ntmps102
 go_wp2_with (first | ((with_reducible refine gC 102 rfl ?_); refine sL 102 rfl Tryz.func102 (stT HS) H (fun t q b hI hB h => toL (HF.bound g _ _ _ _ t q b w0 _ hI hB h)) ?_; clear HS H; intro t q b w' A c HS H; (try dsimp only at H)))
 (try simp only [Act.put, List.setIfInBounds_toArray, List.set_cons_zero, List.set_cons_succ])
 go_loopg [5] k (fun kq v5 w' => ∃ (x5 : List S29) (p : Int) (d : Bool) (A : Option Addr) (c : Nat), v5 = .slice A x5.length c ∧ af (bJ.l0 F kq a x5 s0 p d = some (r, e1, e2)) ∧ af (kq ≤ k) ∧ St 40 w0 w w' g s0 p d [(.slice A x5.length c, x5)] [] ⟨[], []⟩)
 case atStart => exact ⟨_, _, _, _, _, rfl, H, ⟨Nat.le_refl _⟩, stT HS⟩
 case round =>
  clear HS H
  obtain ⟨x5, p, d, A, c, rfl, H, HK1, HS⟩ := hrel
  cases gk with
  | zero => exact absurd H.out (by simp [bJ.l0])
  | succ k1 =>
   simp only [bJ.l0] at H
   have hc2 := HS.rd.cell2
   rcases nS a 3 with ⟨c3, cb3, cn3⟩ | ⟨c3, cb3, cn3⟩ <;> (first | simp only [eq_true c3, if_true] at H | simp only [eq_false c3, if_false] at H)
   all_goals (try clear c3)
   all_goals
    cases d <;> (try simp only [if_true, if_false, eq_self, Bool.false_eq_true, Bool.not_true, Bool.not_false] at H)
   all_goals go_wp2_with (first | ((with_reducible refine gC 64 rfl ?_); refine sS 64 rfl Tryz.func64 (stT HS) H (fun t q b hI hB => dE.calls g _ _ _ t q b w0 _ hI hB) ?_; clear HS H; intro t q b w' HS H; (try dsimp only at H)) | ((with_reducible refine gC 106 rfl ?_); refine sV 106 rfl Tryz.func106 (stT HS) H (fun t => dN.calls _ _ t _) ?_; clear HS H; intro n1 w' HS H; (try dsimp only at H); rcases nS n1 a with ⟨c, cb1, cn1⟩ | ⟨c, cb1, cn1⟩; replace H := hI c H; clear c; rotate_left; replace H := hE c H; clear c; rotate_left) | ((with_reducible refine gC 25 rfl ?_); refine sB 25 rfl Tryz.func25 (stT HS) H (fun t q b hI hB => bn.calls g _ _ _ _ t q b w0 _ hI hB) ?_; clear HS H; intro t q b w' HS H; (try dsimp only at H)) | ((with_reducible refine gC 102 rfl ?_); refine sL 102 rfl Tryz.func102 (stT HS) H (fun t q b hI hB h => toL (HF.bound g _ _ _ _ t q b w0 _ hI hB h)) ?_; clear HS H; intro t q b w' A c HS H; (try dsimp only at H)) | ((with_reducible refine bH (N := 36) rfl ?_); refine vF (N := 36) (stT HS) (by first | (go_simp; done) | (go_simp; rfl)) ?_; clear HS; intro A c w' HS) | ((with_reducible refine gC 28 rfl ?_); refine sJ 28 rfl Tryz.func28 (stT HS) H (fun t hr hc => aW.calls _ _ _ _ _ _ _ _ _ t _ hr hc) ?_; clear HS H; intro t w' A c HS H; (try dsimp only at H)))
   all_goals first
    | (go_roundg k1; (case measure => have := HK1.out; omega); (case rel => exact ⟨_, _, _, _, _, by first | rfl | simp, H, ⟨by have := HK1.out; omega⟩, (stT HS).zk⟩))
    | (have h_ := H.out; simp only [Option.some.injEq, Prod.mk.injEq] at h_; obtain ⟨rfl, rfl, rfl⟩ := h_; go_ret; exact (stT HS).jk (.head _))
theorem bJ.calls (F : Fam) (HF : l9 F) (k : Nat) (g : Nat) (s0 : List S37) (s1 : Int) (s2 : Bool) (a0 : Int) (r1 : List S29) (r2 : Int) (r3 : Bool) (w0 w : World) (hI : dn w0 w g s0 s1 s2) (hB : Below w0.heap.size w0 w) (h : bJ.f F k s0 s1 s2 a0 = some (r1, r2, r3)) : Reads 102 #[.int .i64 a0] g s0 r1 r2 r3 w0 w :=
 ofL (yK F HF k g s0 s1 s2 a0 r1 r2 r3 w0 w hI hB h)
set_option maxHeartbeats 8000000 in
set_option maxRecDepth 100000 in
theorem FV (F : Fam) (HF : l9 F) (k : Nat) (g : Nat) (s0 : List S37) (s1 : Int) (s2 : Bool) (r : List S29) (e1 : Int) (e2 : Bool) (w0 w : World) (hI : Rd 40 w0 w g s0 s1 s2) (hB : Below w0.heap.size w0 w) (h : fE.f F k s0 s1 s2 = some (r, e1, e2)) :
 Calls Tryz.prog 96 #[.pointer (some ⟨g, 0, none⟩)] w (Back 40 w0 w g s0 e1 e2 (IsL w r)) := by
 unfold fE.f at h
 have HS := St.new (T := 40) (by decide) hI hB
 have H := af.mk h
 clear h hI hB
 go_enter Tryz.func96, Tryz.ntmps96
 go_wp2_with (first | ((with_reducible refine gC 102 rfl ?_); refine sL 102 rfl Tryz.func102 (stT HS) H (fun t q b hI hB h => yK F HF _ g _ _ _ _ t q b w0 _ hI hB h) ?_; clear HS H; intro t q b w' A c HS H; (try dsimp only at H)))
 all_goals
  have h_ := H.out; simp only [Option.some.injEq, Prod.mk.injEq] at h_; obtain ⟨rfl, rfl, rfl⟩ := h_
  go_ret
  exact (stT HS).jk (.head _)
theorem fE.calls (F : Fam) (HF : l9 F) (k : Nat) (g : Nat) (s0 : List S37) (s1 : Int) (s2 : Bool) (r1 : List S29) (r2 : Int) (r3 : Bool) (w0 w : World) (hI : dn w0 w g s0 s1 s2) (hB : Below w0.heap.size w0 w) (h : fE.f F k s0 s1 s2 = some (r1, r2, r3)) : Reads 96 #[] g s0 r1 r2 r3 w0 w :=
 ofL (FV F HF k g s0 s1 s2 r1 r2 r3 w0 w hI hB h)
end Go.Proofs.YtkbhkonenkgfoaaGreat.Q
end
section
set_option linter.unusedVariables false
set_option linter.unusedSimpArgs false
namespace Go.Proofs.YtkbhkonenkgfoaaGreat.Q
open Go Go.RowKit Go.Proofs.YtkbhkonenkgfoaaGreatW.PrintWords Go.Proofs.YtkbhkonenkgfoaaGreatW.PrintLast Go.Proofs.YtkbhkonenkgfoaaGreatW.PrintMore
attribute [local go_sem] l7 lu lq lm
set_option maxHeartbeats 8000000 in
set_option maxRecDepth 100000 in
theorem Ci (F : Fam) (HF : l9 F) (k : Nat) (g : Nat) (s0 : List S37) (s1 : Int) (s2 : Bool) (r : List S29) (e1 : Int) (e2 : Bool) (w0 w : World) (hI : Rd 40 w0 w g s0 s1 s2) (hB : Below w0.heap.size w0 w) (h : aX.f F k s0 s1 s2 = some (r, e1, e2)) :
 Calls Tryz.prog 14 #[.pointer (some ⟨g, 0, none⟩)] w (Back 40 w0 w g s0 e1 e2 (IsL w r)) := by
 unfold aX.f at h
 have HS := St.new (T := 40) (by decide) hI hB
 have H := af.mk h
 clear h hI hB
 go_enter Tryz.func14, Tryz.ntmps14
 go_wp2_with (first | ((with_reducible refine bH (N := 8) rfl ?_); (with_reducible refine gC 24 rfl ?_); refine sN 24 rfl Tryz.func24 (stT HS) H (fun t1 t2 t3 t4 q b hI hB => dF.calls g _ _ _ _ t1 t2 t3 t4 q b w0 _ hI hB) ?_; clear HS H; intro n1 nm n3 n4 q b w' HS H; (try dsimp only at H)) | ((with_reducible refine bH (N := 12) rfl ?_); (with_reducible refine gC 24 rfl ?_); refine sN 24 rfl Tryz.func24 (stX HS) H (fun t1 t2 t3 t4 q b hI hB => dF.calls g _ _ _ _ t1 t2 t3 t4 q b w0 _ hI hB) ?_; (try clear hx0 hx1 hx2 hx3 hx4 hf0 hf1 hf2 hf3 hf4); clear HS H; intro m1 m2 vn m4 q b w' HS H; (try dsimp only at H); (try (have hb_ := HS.box rfl; have hx0 := (ag hb_ 0).trans rfl; have hf0 := ae hb_ 0; have hx1 := (ag hb_ 1).trans rfl; have hf1 := ae hb_ 1; have hx2 := (ag hb_ 2).trans rfl; have hf2 := ae hb_ 2; have hx3 := (ag hb_ 3).trans rfl; have hf3 := ae hb_ 3; have hx4 := (ag hb_ 4).trans rfl; have hf4 := ae hb_ 4; clear hb_))) | ((with_reducible refine bH (N := 3) rfl ?_); refine boxS (N := 3) (cs := #[.int .i64 0, .int .i64 0, .string (⟨#[]⟩ : ByteArray), .int .i64 0, .string (⟨#[]⟩ : ByteArray)]) (t := 29) (stT HS) (by first | (go_simp; done) | (go_simp; rfl)) ?_; clear HS; intro gb w' HS hne hge; have hnc := Ne.symm hne; (try (have hb_ := HS.box rfl; have hx0 := (ag hb_ 0).trans rfl; have hf0 := ae hb_ 0; have hx1 := (ag hb_ 1).trans rfl; have hf1 := ae hb_ 1; have hx2 := (ag hb_ 2).trans rfl; have hf2 := ae hb_ 2; have hx3 := (ag hb_ 3).trans rfl; have hf3 := ae hb_ 3; have hx4 := (ag hb_ 4).trans rfl; have hf4 := ae hb_ 4; clear hb_))) | ((with_reducible refine gC 23 rfl ?_); refine sU 23 rfl Tryz.func23 (stX HS) H (fun q b hI hB => aY.calls g _ _ _ _ q b w0 _ hI hB) ?_; (try clear hx0 hx1 hx2 hx3 hx4 hf0 hf1 hf2 hf3 hf4); clear HS H; intro q b w' HS H; (try dsimp only at H)))
 (try simp only [Act.put, List.setIfInBounds_toArray, List.set_cons_zero, List.set_cons_succ])
 go_loopg [4] k (fun kq v3 w' => ∃ (x3 : List (List S29)) (p : Int) (d : Bool) (A : Option Addr) (c : Nat), v3 = .slice A x3.length c ∧ af (aX.l0 F kq x3 s0 p d 1 0 nm vn (⟨#[]⟩ : ByteArray) = some (r, e1, e2)) ∧ af (kq ≤ k) ∧ St 40 w0 w w' g s0 p d [] [(.slice A x3.length c, x3)] ⟨[(gb, .cells #[.int .i64 1, .int .i64 0, .string nm, .int .i64 vn, .string (⟨#[]⟩ : ByteArray)] 29 (0, 0))], []⟩)
 case atStart => exact ⟨[], _, _, none, 0, rfl, H, ⟨Nat.le_refl _⟩, HS.sZ⟩
 case round =>
  clear HS H
  obtain ⟨x3, p, d, A, c, rfl, H, HK1, HS⟩ := hrel
  cases gk with
  | zero => exact absurd H.out (by simp [aX.l0])
  | succ k1 =>
   simp only [aX.l0] at H
   go_wp2_with (first | ((with_reducible refine gC 25 rfl ?_); refine sB 25 rfl Tryz.func25 (stT HS) H (fun t q b hI hB => bn.calls g _ _ _ _ t q b w0 _ hI hB) ?_; clear HS H; intro t q b w' HS H; (try dsimp only at H); cases t <;> (try simp only [if_true, if_false, eq_self, Bool.false_eq_true, Bool.not_true, Bool.not_false] at H)) | ((with_reducible refine gC 26 rfl ?_); refine sL 26 rfl Tryz.func26 (stT HS) H (fun t q b hI hB h => Ip _ g _ _ _ t q b w0 _ hI hB h) ?_; clear HS H; intro t q b w' A c HS H; (try dsimp only at H)) | ((with_reducible refine bH (N := 22) rfl ?_); refine kR (N := 22) (stT HS) (by first | (go_simp; done) | (go_simp; rfl)) ?_; clear HS; intro A c w' HS) | ((with_reducible refine ed (b := .append) (xs := #[.tmp 19, .tmp 22]) rfl ?_); at_builtin; refine xW (N := 23) (.tmp 19) (.tmp 22) rfl Tryz.underlying55 info23 (stT HS) rfl rfl H ?_; clear HS H; intro A c w' HS H; (try replace H := hB H); (try dsimp only at H)))
   all_goals first
    | (go_roundg k1; (case measure => have := HK1.out; omega); (case rel => exact ⟨_, _, _, _, _, by first | rfl | simp, H, ⟨by have := HK1.out; omega⟩, stT HS⟩))
    | skip
   (try simp only [Act.put, List.setIfInBounds_toArray, List.set_cons_zero, List.set_cons_succ])
   go_loopg [4] k1 (fun kq v3 w' => ∃ (x3 : List (List S29)) (p : Int) (d : Bool) (A : Option Addr) (c : Nat), v3 = .slice A x3.length c ∧ af (aX.l1 F kq x3 s0 p d 1 0 nm vn (⟨#[]⟩ : ByteArray) = some (r, e1, e2)) ∧ af (kq ≤ k1) ∧ St 40 w0 w w' g s0 p d [] [(.slice A x3.length c, x3)] ⟨[(gb, .cells #[.int .i64 1, .int .i64 0, .string nm, .int .i64 vn, .string (⟨#[]⟩ : ByteArray)] 29 (0, 0))], []⟩)
   case atStart => exact ⟨_, _, _, _, _, rfl, H, ⟨Nat.le_refl _⟩, stT HS⟩
   case round =>
    clear HS H
    obtain ⟨x3, p, d, A, c, rfl, H, HK2, HS⟩ := hrel
    cases gk with
    | zero => exact absurd H.out (by simp [aX.l1])
    | succ k2 =>
     simp only [aX.l1] at H
     go_wp2_with (first | ((with_reducible refine gC 25 rfl ?_); refine sB 25 rfl Tryz.func25 (stT HS) H (fun t q b hI hB => bn.calls g _ _ _ _ t q b w0 _ hI hB) ?_; clear HS H; intro t q b w' HS H; (try dsimp only at H); cases t <;> (try simp only [if_true, if_false, eq_self, Bool.false_eq_true, Bool.not_true, Bool.not_false] at H); (try (have hb_ := HS.box rfl; have hx0 := (ag hb_ 0).trans rfl; have hf0 := ae hb_ 0; have hx1 := (ag hb_ 1).trans rfl; have hf1 := ae hb_ 1; have hx2 := (ag hb_ 2).trans rfl; have hf2 := ae hb_ 2; have hx3 := (ag hb_ 3).trans rfl; have hf3 := ae hb_ 3; have hx4 := (ag hb_ 4).trans rfl; have hf4 := ae hb_ 4; clear hb_))) | ((with_reducible refine gC 24 rfl ?_); refine sN 24 rfl Tryz.func24 (stT HS) H (fun t1 t2 t3 t4 q b hI hB => dF.calls g _ _ _ _ t1 t2 t3 t4 q b w0 _ hI hB) ?_; clear HS H; intro t1 t2 t3 t4 q b w' HS H; (try dsimp only at H)) | ((with_reducible refine gC 27 rfl ?_); refine sL 27 rfl Tryz.func27 (stT HS) H (fun t q b hI hB h => uh F HF _ g _ _ _ _ _ _ _ _ t q b w0 _ hI hB h) ?_; clear HS H; intro t q b w' A c HS H; (try dsimp only at H)) | ((with_reducible refine bH (N := 33) rfl ?_); refine kR (N := 33) (stT HS) (by first | (go_simp; done) | (go_simp; rfl)) ?_; clear HS; intro A c w' HS) | ((with_reducible refine ed (b := .append) (xs := #[.tmp 26, .tmp 33]) rfl ?_); at_builtin; refine xW (N := 34) (.tmp 26) (.tmp 33) rfl Tryz.underlying55 info23 (stT HS) rfl rfl H ?_; clear HS H; intro A c w' HS H; (try replace H := hB H); (try dsimp only at H)) | ((with_reducible refine gC 28 rfl ?_); refine sJ 28 rfl Tryz.func28 (stT HS) H (fun t hr hc => aW.calls _ _ _ _ _ _ _ _ _ t _ hr hc) ?_; clear HS H; intro t w' A c HS H; (try dsimp only at H)))
     all_goals first
      | (go_roundg k2; (case measure => have := HK2.out; omega); (case rel => exact ⟨_, _, _, _, _, by first | rfl | simp, H, ⟨by have := HK2.out; omega⟩, stT HS⟩))
      | (have h_ := H.out; simp only [Option.some.injEq, Prod.mk.injEq] at h_; obtain ⟨rfl, rfl, rfl⟩ := h_; go_ret; exact (stT HS).jk (.head _))
theorem aX.calls (F : Fam) (HF : l9 F) (k : Nat) (g : Nat) (s0 : List S37) (s1 : Int) (s2 : Bool) (r1 : List S29) (r2 : Int) (r3 : Bool) (w0 w : World) (hI : dn w0 w g s0 s1 s2) (hB : Below w0.heap.size w0 w) (h : aX.f F k s0 s1 s2 = some (r1, r2, r3)) : Calls Tryz.prog 14 #[.pointer (some ⟨g, 0, none⟩)] w fun e w' => ∃ v0_ : Value, e = .returned (v0_) ∧ Kd.R k29 29 w' w.heap.size (fun _ => True) v0_ r1 ∧ dn w0 w' g s0 r2 r3 ∧ Below w0.heap.size w0 w' ∧ bY w w' g none :=
 ofL (Ci F HF k g s0 s1 s2 r1 r2 r3 w0 w hI hB h)
end Go.Proofs.YtkbhkonenkgfoaaGreat.Q
end
section
set_option linter.unusedVariables false
set_option linter.unusedSimpArgs false
namespace Go.Proofs.YtkbhkonenkgfoaaGreat.Q
open Go.RowKit Go.Proofs.YtkbhkonenkgfoaaGreatW.PrintWords Go.Proofs.YtkbhkonenkgfoaaGreatW.PrintLast Go.Proofs.YtkbhkonenkgfoaaGreatW.PrintMore
def fam : Nat → Fam
 | 0 => ⟨fun _ _ _ => none, fun _ _ _ => none, fun _ _ _ _ => none, fun _ _ _ => none⟩
 | k + 1 => ⟨fun a b c => fE.f (fam k) k a b c, fun a b c => bU.f (fam k) k a b c, fun a b c d => bJ.f (fam k) k a b c d, fun a b c => aQ.f (fam k) k a b c⟩
theorem vN : ∀ k, l9 (fam k)
 | 0 => ⟨fun _ _ _ _ _ _ _ _ _ _ _ h => (by simp [fam] at h), fun _ _ _ _ _ _ _ _ _ _ _ h => (by simp [fam] at h), fun _ _ _ _ _ _ _ _ _ _ _ _ h => (by simp [fam] at h), fun _ _ _ _ _ _ _ _ _ _ _ h => (by simp [fam] at h)⟩
 | k + 1 => ⟨fun g s0 s1 s2 r1 r2 r3 w0 w hI hB h => fE.calls (fam k) (vN k) k g s0 s1 s2 r1 r2 r3 w0 w hI hB h,
  fun g s0 s1 s2 r1 r2 r3 w0 w hI hB h => bU.calls (fam k) (vN k) k g s0 s1 s2 r1 r2 r3 w0 w hI hB h,
  fun g s0 s1 s2 a1 r1 r2 r3 w0 w hI hB h => bJ.calls (fam k) (vN k) k g s0 s1 s2 a1 r1 r2 r3 w0 w hI hB h,
  fun g s0 s1 s2 r1 r2 r3 w0 w hI hB h => aQ.calls (fam k) (vN k) k g s0 s1 s2 r1 r2 r3 w0 w hI hB h⟩
theorem vO : ∀ k, kS (fam k) (fam (k + 1))
 | 0 => ⟨fun _ _ _ => LeO.none _, fun _ _ _ => LeO.none _, fun _ _ _ _ => LeO.none _, fun _ _ _ => LeO.none _⟩
 | k + 1 => ⟨fun a b c => fE.mono (vO k) a b c k, fun a b c => bU.mono (vO k) a b c k, fun a b c d => bJ.mono (vO k) a b c d k, fun a b c => aQ.mono (vO k) a b c k⟩
end Go.Proofs.YtkbhkonenkgfoaaGreat.Q
end
section
set_option linter.unusedVariables false
set_option linter.unusedSimpArgs false
namespace Go.Proofs.YtkbhkonenkgfoaaGreat.Q
open Go.RowKit Go.Proofs.YtkbhkonenkgfoaaGreatW.PrintWords Go.Proofs.YtkbhkonenkgfoaaGreatW.PrintLast Go.Proofs.YtkbhkonenkgfoaaGreatW.PrintMore
structure iC where
 expr : List S37 → Int → Bool → Option (List S29 × Int × Bool)
 block : List S37 → Int → Bool → Option (List S29 × Int × Bool)
 at0 : List S37 → Int → Bool → Int → Option (List S29 × Int × Bool)
 unary : List S37 → Int → Bool → Option (List S29 × Int × Bool)
/-- What the family's calls do. -/
structure nT (F : iC) : Prop where
 expr : ∀ (g : Nat) s0 s1 s2 r q b w0 w, Rd 47 w0 w g s0 s1 s2 → Below w0.heap.size w0 w → F.expr s0 s1 s2 = some (r, q, b) → Calls Tryz.prog 100 #[.pointer (some ⟨g, 0, none⟩)] w (Back 47 w0 w g s0 q b (IsL w r))
 block : ∀ (g : Nat) s0 s1 s2 r q b w0 w, Rd 47 w0 w g s0 s1 s2 → Below w0.heap.size w0 w → F.block s0 s1 s2 = some (r, q, b) → Calls Tryz.prog 80 #[.pointer (some ⟨g, 0, none⟩)] w (Back 47 w0 w g s0 q b (IsL w r))
 at0 : ∀ (g : Nat) s0 s1 s2 (a : Int) r q b w0 w, Rd 47 w0 w g s0 s1 s2 → Below w0.heap.size w0 w → F.at0 s0 s1 s2 a = some (r, q, b) → Calls Tryz.prog 104 #[.pointer (some ⟨g, 0, none⟩), .int .i64 a] w (Back 47 w0 w g s0 q b (IsL w r))
 unary : ∀ (g : Nat) s0 s1 s2 r q b w0 w, Rd 47 w0 w g s0 s1 s2 → Below w0.heap.size w0 w → F.unary s0 s1 s2 = some (r, q, b) → Calls Tryz.prog 107 #[.pointer (some ⟨g, 0, none⟩)] w (Back 47 w0 w g s0 q b (IsL w r))
structure jT (F F' : iC) : Prop where
 expr : ∀ a b c, LeO (F.expr a b c) (F'.expr a b c)
 block : ∀ a b c, LeO (F.block a b c) (F'.block a b c)
 at0 : ∀ a b c d, LeO (F.at0 a b c d) (F'.at0 a b c d)
 unary : ∀ a b c, LeO (F.unary a b c) (F'.unary a b c)
def lg.f (F : iC) (_k : Nat) (s0 : List S37) (s1 : Int) (s2 : Bool) : Option (List S29 × Int × Bool) := F.expr s0 s1 s2
theorem lg.mono {F F' : iC} (HLE : jT F F') (a b c) (k : Nat) : LeO (lg.f F k a b c) (lg.f F' (k + 1) a b c) := HLE.expr a b c
def pX.f (F : iC) (_k : Nat) (s0 : List S37) (s1 : Int) (s2 : Bool) : Option (List S29 × Int × Bool) := F.block s0 s1 s2
theorem pX.mono {F F' : iC} (HLE : jT F F') (a b c) (k : Nat) : LeO (pX.f F k a b c) (pX.f F' (k + 1) a b c) := HLE.block a b c
def yP.f (F : iC) (_k : Nat) (s0 : List S37) (s1 : Int) (s2 : Bool) (a : Int) : Option (List S29 × Int × Bool) := F.at0 s0 s1 s2 a
theorem yP.mono {F F' : iC} (HLE : jT F F') (a b c d) (k : Nat) : LeO (yP.f F k a b c d) (yP.f F' (k + 1) a b c d) := HLE.at0 a b c d
def pW.f (F : iC) (_k : Nat) (s0 : List S37) (s1 : Int) (s2 : Bool) : Option (List S29 × Int × Bool) := F.unary s0 s1 s2
theorem pW.mono {F F' : iC} (HLE : jT F F') (a b c) (k : Nat) : LeO (pW.f F k a b c) (pW.f F' (k + 1) a b c) := HLE.unary a b c
end Go.Proofs.YtkbhkonenkgfoaaGreat.Q
end
section
set_option linter.unusedVariables false
set_option linter.unusedSimpArgs false
namespace Go.Proofs.YtkbhkonenkgfoaaGreat.Q
open Go.RowKit Go.Proofs.YtkbhkonenkgfoaaGreatW.PrintWords Go.Proofs.YtkbhkonenkgfoaaGreatW.PrintLast Go.Proofs.YtkbhkonenkgfoaaGreatW.PrintMore
theorem zN {P : Program} {id : Nat} {Q : Exit → Act → World → Prop} {a : Act} {w : World} {l : List Oper} (n : Nat) (hm : P.follows .mixedOrders = true) (hB : Region.lexTailB .any l.toArray n = true)
 (h : ∀ w1, w1 = w.drew → wpStill P l.toArray w1 (fun a' => wpList P l.toArray Q (l.drop n) a' w1) (l.take n) a) : (Code.region id l.toArray true).wp P Q a w := wp_region_still_tail n hm hB (h _ rfl)
def jJ.f (s0 : List S37) (s1 : Int) (s2 : Bool) (a1 : Int) : Option (Int × ByteArray × Int × Int × Int × Bool) :=
 if s2 = true then some (0, (⟨#[]⟩ : ByteArray), 0, 0, s1, true) else if s1 ≥ (s0.length : Int) then some (0, (⟨#[]⟩ : ByteArray), 0, 0, s1, true)
 else if 0 ≤ s1 then (if (dY s0 s1).f0 = a1 then (if s1 < 9223372036854775807 then some ((dY s0 s1).f0, (dY s0 s1).f1, (dY s0 s1).f2, (dY s0 s1).f3, s1 + 1, s2) else none) else some (0, (⟨#[]⟩ : ByteArray), 0, 0, s1, true)) else none
set_option maxHeartbeats 8000000 in
set_option maxRecDepth 100000 in
theorem jJ.calls (g : Nat) (s0_0 : List S37) (s0_1 : Int) (s0_2 : Bool) (a1 : Int) (r1 : Int) (r2 : ByteArray) (r3 : Int) (r4 : Int) (r5 : Int) (r6 : Bool) (w0 w : World) (hI : gp w0 w g s0_0 s0_1 s0_2) (hB : Below w0.heap.size w0 w) (h : jJ.f s0_0 s0_1 s0_2 a1 = some (r1, r2, r3, r4, r5, r6)) :
 Calls Tryz.prog 35 #[.pointer (some ⟨g, 0, none⟩), .int .i64 a1] w fun e w' => e = .returned (.agg #[.int .i64 r1, .string r2, .int .i64 r3, .int .i64 r4]) ∧ gp w0 w' g s0_0 r5 r6 ∧ Below w0.heap.size w0 w' ∧ bY w w' g none := by
 have HI0 := af.mk hI
 have HB := af.mk hB
 clear hI hB
 unfold jJ.f at h
 have HQ := af.mk h
 clear h
 go_enter Tryz.func35, Tryz.ntmps35
 go_upto_region 1 with (first | ((with_reducible refine bH (N := 4) rfl ?_); refine fA ?hg (N := 4) ?hd (cs := #[.int .i64 0, .string (⟨#[]⟩ : ByteArray), .int .i64 0, .int .i64 0]) (t := 37) ?hr ?_; (case hd => rfl); (case hg => rfl); (case hr => first | (go_simp; done) | (go_simp; rfl)); intro gb hg w1 hbox hb; have HI1 := af.mk (HI0.out.below hb); have HB1 := af.mk (aA HB.out hb); have HK1 := af.mk (bY.of_below hb g none); have BX := af.mk hbox; have GB := af.mk (show w.heap.size ≤ gb by rw [hg]; exact Nat.le_refl _); have GW := af.mk (show w0.heap.size ≤ gb by rw [hg]; exact HB.out.size); have GN := af.mk (show gb ≠ g by rw [hg]; exact HI0.out.fresh _ (Nat.le_refl _)); clear hbox hb hg))
 (try simp only [Act.put, List.setIfInBounds_toArray, List.set_cons_zero, List.set_cons_succ])
 obtain ⟨ASz, cSz, HGz, hgz, HSz⟩ := HI1.out
 have hfz1 := ae HGz 1
 have hfz2 := ae HGz 2
 have hcz0 := mF HGz
 have hcz1 := mD HGz
 have hcz2 := nC HGz
 clear HGz hgz
 have hcb0 : w1.cell? ⟨gb, 0, none⟩ = some (.int .i64 0) := (ag BX.out 0).trans rfl
 have hcb1 : w1.cell? ⟨gb, 1, none⟩ = some (.string (⟨#[]⟩ : ByteArray)) := (ag BX.out 1).trans rfl
 have hcb2 : w1.cell? ⟨gb, 2, none⟩ = some (.int .i64 0) := (ag BX.out 2).trans rfl
 have hcb3 : w1.cell? ⟨gb, 3, none⟩ = some (.int .i64 0) := (ag BX.out 3).trans rfl
 have hfb0 := ae BX.out 0
 have hfb1 := ae BX.out 1
 have hfb2 := ae BX.out 2
 have hfb3 := ae BX.out 3
 have hnb := GN.out
 have hnc := Ne.symm GN.out
 have h := HQ.out
 clear HQ
 by_cases c1 : s0_2 = true
 ·rw [if_pos c1] at h
  subst c1
  cases h
  go_quiet (fail)
  go_wp2
  refine bodyPost_ret (results_cell_row rfl _ _ gb 37 #[.int .i64 0, .string (⟨#[]⟩ : ByteArray), .int .i64 0, .int .i64 0] (0, 0) _ rfl Z2 Tryz.underlying37 rfl (by kernel_rfl)) rfl ?_
  exact ⟨rfl, Z25, Z26, Z28⟩
 have c1' : s0_2 = false := Bool.eq_false_iff.2 c1
 rw [if_neg c1] at h
 subst c1'
 clear c1
 by_cases c2 : s0_1 ≥ (s0_0.length : Int)
 ·rw [if_pos c2] at h
  cases h
  have c2b : decide ((s0_0.length : Int) ≤ s0_1) = true := decide_eq_true c2
  go_quiet (fail)
  go_wp2
  refine bodyPost_ret (results_cell_row rfl _ _ gb 37 #[.int .i64 0, .string (⟨#[]⟩ : ByteArray), .int .i64 0, .int .i64 0] (0, 0) _ rfl Z2 Tryz.underlying37 rfl (by kernel_rfl)) rfl ?_
  exact ⟨rfl, Z25, Z26, Z28⟩
 rw [if_neg c2] at h
 have c2b : decide ((s0_0.length : Int) ≤ s0_1) = false := decide_eq_false c2
 by_cases c3 : 0 ≤ s0_1
 ·rw [if_pos c3] at h
  obtain ⟨ad, ead, hx0, hx1, hx2, hx3⟩ := jS HSz s0_1 c3 (by omega)
  cases ead
  replace hx0 := bG HB1.out hx0
  replace hx1 := bG HB1.out hx1
  replace hx2 := bG HB1.out hx2
  replace hx3 := bG HB1.out hx3
  have p3 := eq_true c3
  have q3 := eq_true (show s0_1 < (s0_0.length : Int) by omega)
  clear c2 c3
  by_cases c4 : (dY s0_0 s0_1).f0 = a1
  ·rw [if_pos c4] at h
   have c4b : ((dY s0_0 s0_1).f0 == a1) = true := beq_iff_eq.mpr c4
   have c4n : ((dY s0_0 s0_1).f0 != a1) = false := bne_eq_false_iff_eq.mpr c4
   by_cases c5 : s0_1 < 9223372036854775807
   ·rw [if_pos c5] at h
    cases h
    have e0 : wrap64 (s0_1 + 1) = s0_1 + 1 := by have := of_eq_true p3; unfold wrap64; omega
    have e1 : IntKind.i64.wrap s0_1 = s0_1 := by have := of_eq_true p3; rw [fP]; unfold wrap64; omega
    clear c5 c4
    go_quiet (fail)
    go_wp2
    simp only [e0]
    have BY := af.mk (fZ (g := gb) (p := ⟨g, 1, none⟩) (iQ BX.out nq) hnb (.int .i64 (s0_1 + 1)))
    have HI2 := af.mk ((HI1.out.drewN nq).tY (s0_1 + 1))
    have HB2 := af.mk (jc (g := g) (j := 1) (v := .int .i64 (s0_1 + 1)) (gI HB1.out nq) HI1.out.ge)
    have HK2 := af.mk ((nK HK1.out nq).zQ 1 (.int .i64 (s0_1 + 1)))
    generalize (w1.drewN nq).setCell ⟨g, 1, none⟩ (.int .i64 (s0_1 + 1)) = w5 at BY HI2 HB2 HK2 ⊢
    refine zN 11 (by kernel_rfl) (by kernel_rfl) ?_
    intro w2 e2
    replace BY := af.mk (show w2.heap[gb]? = some (.cells #[.int .i64 0, .string (⟨#[]⟩ : ByteArray), .int .i64 0, .int .i64 0] 37 (0, 0)) from by subst e2; exact ja BY.out)
    replace HI2 := af.mk (show gp w0 w2 g s0_0 (s0_1 + 1) false from by subst e2; exact HI2.out.drew)
    replace HB2 := af.mk (show Below w0.heap.size w0 w2 from by subst e2; exact HB2.out.drew)
    replace HK2 := af.mk (show bY w w2 g none from by subst e2; exact qE HK2.out)
    clear e2
    clear hcz0 hcz1 hcz2 hfz1 hfz2 hcb0 hcb1 hcb2 hcb3 hfb0 hfb1 hfb2 hfb3 hx0 hx1 hx2 hx3
    obtain ⟨AS2, cS2, HG2, hg2, HS2⟩ := HI2.out
    have hcz0 := mF HG2
    have hcz1 := mD HG2
    obtain ⟨ad2, ead2, hx0, hx1, hx2, hx3⟩ := jS HS2 s0_1 (of_eq_true p3) (of_eq_true q3)
    cases ead2
    replace hx0 := bG HB2.out hx0
    replace hx1 := bG HB2.out hx1
    replace hx2 := bG HB2.out hx2
    replace hx3 := bG HB2.out hx3
    have hcb0 : w2.cell? ⟨gb, 0, none⟩ = some (.int .i64 0) := (ag BY.out 0).trans rfl
    have hcb1 : w2.cell? ⟨gb, 1, none⟩ = some (.string (⟨#[]⟩ : ByteArray)) := (ag BY.out 1).trans rfl
    have hcb2 : w2.cell? ⟨gb, 2, none⟩ = some (.int .i64 0) := (ag BY.out 2).trans rfl
    have hcb3 : w2.cell? ⟨gb, 3, none⟩ = some (.int .i64 0) := (ag BY.out 3).trans rfl
    have hfb0 := ae BY.out 0
    have hfb1 := ae BY.out 1
    have hfb2 := ae BY.out 2
    have hfb3 := ae BY.out 3
    clear HG2 hg2 e0
    simp only [List.take_succ_cons, List.take_zero, List.drop_succ_cons, List.drop_zero]
    repeat still_step
    refine wpStill_nil ?_
    go_wp2
    refine bodyPost_ret (results_cell_row rfl _ _ gb 37 #[.int .i64 (dY s0_0 s0_1).f0, .string (dY s0_0 s0_1).f1, .int .i64 (dY s0_0 s0_1).f2, .int .i64 (dY s0_0 s0_1).f3] (0, 0) _ rfl (by (with_reducible repeat (first | refine iQ ?_ _ | refine ja ?_ | refine kD ?_ _)); refine bW (cs := #[.int .i64 (dY s0_0 s0_1).f0, .string (dY s0_0 s0_1).f1, .int .i64 (dY s0_0 s0_1).f2, .int .i64 0]) ?_ 3 _ rfl; (with_reducible repeat (first | refine iQ ?_ _ | refine ja ?_ | refine kD ?_ _)); refine bW (cs := #[.int .i64 (dY s0_0 s0_1).f0, .string (dY s0_0 s0_1).f1, .int .i64 0, .int .i64 0]) ?_ 2 _ rfl; (with_reducible repeat (first | refine iQ ?_ _ | refine ja ?_ | refine kD ?_ _)); refine bW (cs := #[.int .i64 (dY s0_0 s0_1).f0, .string (⟨#[]⟩ : ByteArray), .int .i64 0, .int .i64 0]) ?_ 1 _ rfl; (with_reducible repeat (first | refine iQ ?_ _ | refine ja ?_ | refine kD ?_ _)); refine bW (cs := #[.int .i64 0, .string (⟨#[]⟩ : ByteArray), .int .i64 0, .int .i64 0]) ?_ 0 _ rfl; (with_reducible repeat (first | refine iQ ?_ _ | refine ja ?_ | refine kD ?_ _)); exact BY.out) Tryz.underlying37 rfl (by kernel_rfl)) rfl ?_
    exact ⟨rfl, by repeat (first | (with_reducible first | exact HI2.out | apply gp.drewN | apply gp.drew | refine gp.far ?_ (Ne.symm GN.out) _)), by repeat (first | (with_reducible first | exact HB2.out | refine jc ?_ GW.out)), by repeat (first | (with_reducible first | exact HK2.out | refine qg ?_ GB.out _))⟩
   rw [if_neg c5] at h
   cases h
  rw [if_neg c4] at h
  cases h
  have c4b : ((dY s0_0 s0_1).f0 == a1) = false := beq_eq_false_iff_ne.mpr c4
  have c4n : ((dY s0_0 s0_1).f0 != a1) = true := bne_iff_ne.mpr c4
  go_quiet (fail)
  go_wp2
  refine bodyPost_ret (results_cell_row rfl _ _ gb 37 #[.int .i64 0, .string (⟨#[]⟩ : ByteArray), .int .i64 0, .int .i64 0] (0, 0) _ rfl Z2 Tryz.underlying37 rfl (by kernel_rfl)) rfl ?_
  exact ⟨rfl, Z25, Z26, Z28⟩
 rw [if_neg c3] at h
 cases h
end Go.Proofs.YtkbhkonenkgfoaaGreat.Q
end
section
namespace Go.Proofs.YtkbhkonenkgfoaaGreat.Q
open Go.RowKit Go.Proofs.YtkbhkonenkgfoaaGreatW.PrintWords Go.Proofs.YtkbhkonenkgfoaaGreatW.PrintLast Go.Proofs.YtkbhkonenkgfoaaGreatW.PrintMore
attribute [local go_sem] iM iL iK iJ dJ dH dS dR cZ cO dI dG
set_option linter.unusedVariables false
set_option linter.unusedSimpArgs false
/-! ### eU: function 78 -/
def eU.f (s0_0 : List (S37)) (s0_1 : Int) (s0_2 : Bool) (a1 : ByteArray) : Option (Bool × Int × Bool) := if s0_2 = true then (some (false, s0_1, s0_2)) else (if s0_1 < (s0_0.length : Int) then (if 0 ≤ s0_1 then (if ((dY s0_0 s0_1).f0) = 5 then (some ((((dY s0_0 s0_1).f1).toList == a1.toList), s0_1, s0_2)) else (if ((dY s0_0 s0_1).f0) = 4 then (some ((((dY s0_0 s0_1).f1).toList == a1.toList), s0_1, s0_2)) else (some (false, s0_1, s0_2)))) else (none)) else (some (false, s0_1, s0_2)))
set_option maxHeartbeats 8000000 in
set_option maxRecDepth 100000 in
theorem eU.calls (g : Nat) (s0_0 : List (S37)) (s0_1 : Int) (s0_2 : Bool) (a1 : ByteArray) (r1 : Bool) (r2 : Int) (r3 : Bool) (w0 w : World) (hI : gp w0 w g s0_0 s0_1 s0_2) (hB : Below w0.heap.size w0 w) (h : eU.f s0_0 s0_1 s0_2 a1 = some (r1, r2, r3)) :
 Calls Tryz.prog 78 #[.pointer (some ⟨g, 0, none⟩), .string a1] w fun e w' => e = .returned (.bool r1) ∧ gp w0 w' g s0_0 r2 r3 ∧ Below w0.heap.size w0 w' ∧ bY w w' g none := by
 have HI0 := af.mk hI
 have HK := af.mk (bY.refl w g none)
 have HL := af.mk hB.size
 clear hI
 have HW0 := af.mk hB.size
 have HB := af.mk hB
 clear hB
 have H := h
 clear h
 unfold eU.f at H
 cases s0_2
 rotate_left
 ·replace H := yT H
  simp only [Option.some.injEq, Prod.mk.injEq] at H
  obtain ⟨rfl, rfl, rfl⟩ := H
  obtain ⟨ASz4_0, cSz4_0, HGz4, hgz4, HSz4_0⟩ := HI0.out
  have hcz4_0 := mF HGz4
  have hcz4_1 := mD HGz4
  have hcz4_2 := nC HGz4
  have hfz4_1 := ae HGz4 1
  have hfz4_2 := ae HGz4 2
  clear HGz4 hgz4
  go_enter Tryz.func78, Tryz.ntmps78
  go_wp2
  repeat (go_quiet (fail); try go_wp2)
  go_ret
  exact ⟨Z8, Z16, Z15, Z19⟩
 replace H := yF H
 revert H
 refine iR (fun c5b0 H => ?_) fun c5b0 H => ?_
 ·revert H
  refine gB (fun c6b0 H => ?_) fun c6 H => ?_
  ·revert H
   refine aU (fun c7b0 c7b1 H => ?_) fun c7 c7b0 c7b1 H => ?_
   ·simp only [Option.some.injEq, Prod.mk.injEq] at H
    obtain ⟨rfl, rfl, rfl⟩ := H
    obtain ⟨ASz8_0, cSz8_0, HGz8, hgz8, HSz8_0⟩ := HI0.out
    have hcz8_0 := mF HGz8
    have hcz8_1 := mD HGz8
    have hcz8_2 := nC HGz8
    have hfz8_1 := ae HGz8 1
    have hfz8_2 := ae HGz8 2
    clear HGz8 hgz8
    have p819 : 0 ≤ (s0_1 : Int) := of_decide_eq_true Z13
    have q819 : s0_1 < (s0_0.length : Int) := of_decide_eq_true Z13
    obtain ⟨ad819, e819, hx819_0, hx819_1, hx819_2, hx819_3⟩ := jS HSz8_0 s0_1 p819 q819
    cases e819
    replace hx819_0 := bG HB.out hx819_0
    replace hx819_1 := bG HB.out hx819_1
    replace hx819_2 := bG HB.out hx819_2
    replace hx819_3 := bG HB.out hx819_3
    replace p819 := eq_true p819
    replace q819 := eq_true q819
    have p820 : 0 ≤ (s0_1 : Int) := of_decide_eq_true Z13
    have q820 : s0_1 < (s0_0.length : Int) := of_decide_eq_true Z13
    obtain ⟨ad820, e820, hx820_0, hx820_1, hx820_2, hx820_3⟩ := jS HSz8_0 s0_1 p820 q820
    obtain rfl : ad819 = ad820 := (by injection e820)
    replace hx820_0 := bG HB.out hx820_0
    replace hx820_1 := bG HB.out hx820_1
    replace hx820_2 := bG HB.out hx820_2
    replace hx820_3 := bG HB.out hx820_3
    replace p820 := eq_true p820
    replace q820 := eq_true q820
    go_enter Tryz.func78, Tryz.ntmps78
    go_wp2
    repeat (go_quiet (fail); try go_wp2)
    go_ret
    exact ⟨Z8, Z16, Z15, Z19⟩
   revert H
   refine aU (fun c9b0 c9b1 H => ?_) fun c9 c9b0 c9b1 H => ?_
   ·simp only [Option.some.injEq, Prod.mk.injEq] at H
    obtain ⟨rfl, rfl, rfl⟩ := H
    obtain ⟨ASz10_0, cSz10_0, HGz10, hgz10, HSz10_0⟩ := HI0.out
    have hcz10_0 := mF HGz10
    have hcz10_1 := mD HGz10
    have hcz10_2 := nC HGz10
    have hfz10_1 := ae HGz10 1
    have hfz10_2 := ae HGz10 2
    clear HGz10 hgz10
    have p819 : 0 ≤ (s0_1 : Int) := of_decide_eq_true Z13
    have q819 : s0_1 < (s0_0.length : Int) := of_decide_eq_true Z13
    obtain ⟨ad819, e819, hx819_0, hx819_1, hx819_2, hx819_3⟩ := jS HSz10_0 s0_1 p819 q819
    cases e819
    replace hx819_0 := bG HB.out hx819_0
    replace hx819_1 := bG HB.out hx819_1
    replace hx819_2 := bG HB.out hx819_2
    replace hx819_3 := bG HB.out hx819_3
    replace p819 := eq_true p819
    replace q819 := eq_true q819
    have p821 : 0 ≤ (s0_1 : Int) := of_decide_eq_true Z13
    have q821 : s0_1 < (s0_0.length : Int) := of_decide_eq_true Z13
    obtain ⟨ad821, e821, hx821_0, hx821_1, hx821_2, hx821_3⟩ := jS HSz10_0 s0_1 p821 q821
    obtain rfl : ad819 = ad821 := (by injection e821)
    replace hx821_0 := bG HB.out hx821_0
    replace hx821_1 := bG HB.out hx821_1
    replace hx821_2 := bG HB.out hx821_2
    replace hx821_3 := bG HB.out hx821_3
    replace p821 := eq_true p821
    replace q821 := eq_true q821
    have p822 : 0 ≤ (s0_1 : Int) := of_decide_eq_true Z13
    have q822 : s0_1 < (s0_0.length : Int) := of_decide_eq_true Z13
    obtain ⟨ad822, e822, hx822_0, hx822_1, hx822_2, hx822_3⟩ := jS HSz10_0 s0_1 p822 q822
    obtain rfl : ad819 = ad822 := (by injection e822)
    replace hx822_0 := bG HB.out hx822_0
    replace hx822_1 := bG HB.out hx822_1
    replace hx822_2 := bG HB.out hx822_2
    replace hx822_3 := bG HB.out hx822_3
    replace p822 := eq_true p822
    replace q822 := eq_true q822
    go_enter Tryz.func78, Tryz.ntmps78
    go_wp2
    repeat (go_quiet (fail); try go_wp2)
    go_ret
    exact ⟨Z8, Z16, Z15, Z19⟩
   simp only [Option.some.injEq, Prod.mk.injEq] at H
   obtain ⟨rfl, rfl, rfl⟩ := H
   obtain ⟨ASz11_0, cSz11_0, HGz11, hgz11, HSz11_0⟩ := HI0.out
   have hcz11_0 := mF HGz11
   have hcz11_1 := mD HGz11
   have hcz11_2 := nC HGz11
   have hfz11_1 := ae HGz11 1
   have hfz11_2 := ae HGz11 2
   clear HGz11 hgz11
   have p819 : 0 ≤ (s0_1 : Int) := of_decide_eq_true Z13
   have q819 : s0_1 < (s0_0.length : Int) := of_decide_eq_true Z13
   obtain ⟨ad819, e819, hx819_0, hx819_1, hx819_2, hx819_3⟩ := jS HSz11_0 s0_1 p819 q819
   cases e819
   replace hx819_0 := bG HB.out hx819_0
   replace hx819_1 := bG HB.out hx819_1
   replace hx819_2 := bG HB.out hx819_2
   replace hx819_3 := bG HB.out hx819_3
   replace p819 := eq_true p819
   replace q819 := eq_true q819
   have p821 : 0 ≤ (s0_1 : Int) := of_decide_eq_true Z13
   have q821 : s0_1 < (s0_0.length : Int) := of_decide_eq_true Z13
   obtain ⟨ad821, e821, hx821_0, hx821_1, hx821_2, hx821_3⟩ := jS HSz11_0 s0_1 p821 q821
   obtain rfl : ad819 = ad821 := (by injection e821)
   replace hx821_0 := bG HB.out hx821_0
   replace hx821_1 := bG HB.out hx821_1
   replace hx821_2 := bG HB.out hx821_2
   replace hx821_3 := bG HB.out hx821_3
   replace p821 := eq_true p821
   replace q821 := eq_true q821
   go_enter Tryz.func78, Tryz.ntmps78
   go_wp2
   repeat (go_quiet (fail); try go_wp2)
   go_ret
   exact ⟨Z8, Z16, Z15, Z19⟩
  exact absurd H (by simp)
 simp only [Option.some.injEq, Prod.mk.injEq] at H
 obtain ⟨rfl, rfl, rfl⟩ := H
 obtain ⟨ASz12_0, cSz12_0, HGz12, hgz12, HSz12_0⟩ := HI0.out
 have hcz12_0 := mF HGz12
 have hcz12_1 := mD HGz12
 have hcz12_2 := nC HGz12
 have hfz12_1 := ae HGz12 1
 have hfz12_2 := ae HGz12 2
 clear HGz12 hgz12
 go_enter Tryz.func78, Tryz.ntmps78
 go_wp2
 repeat (go_quiet (fail); try go_wp2)
 go_ret
 exact ⟨Z8, Z16, Z15, Z19⟩
end Go.Proofs.YtkbhkonenkgfoaaGreat.Q
end
section
namespace Go.Proofs.YtkbhkonenkgfoaaGreat.Q
open Go.RowKit Go.Proofs.YtkbhkonenkgfoaaGreatW.PrintWords Go.Proofs.YtkbhkonenkgfoaaGreatW.PrintLast Go.Proofs.YtkbhkonenkgfoaaGreatW.PrintMore
attribute [local go_sem] iM iL iK iJ dJ dH dS dR cZ cO dI dG
set_option linter.unusedVariables false
set_option linter.unusedSimpArgs false
/-! ### bC: function 36 -/
def bC.f (s0_0 : List (S37)) (s0_1 : Int) (s0_2 : Bool) (a1 : ByteArray) : Option (Bool × Int × Bool) := (eU.f s0_0 s0_1 s0_2 a1).bind fun bt823 => (if bt823.1 = true then (some (true, wrap64 (bt823.2.1 + 1), bt823.2.2)) else (some (false, bt823.2.1, bt823.2.2)))
/-! ### bg: function 34 -/
def bg.f (s0_0 : List (S37)) (s0_1 : Int) (s0_2 : Bool) (a1 : ByteArray) : Option (Int × Bool) := (bC.f s0_0 s0_1 s0_2 a1).bind fun bt826 => (if bt826.1 = true then (some (bt826.2.1, bt826.2.2)) else (some (bt826.2.1, true)))
-- BY HAND: function 35 (chrysalisref10_row_need)
/-! ### az: function 37 -/
def az.l0 : Nat → List (List (S29)) → List (S29) → Int → Option ((List (S29)))
 | 0, _, _, _ => none
 | k + 1, x1, x5, x6 => if x6 < (x1.length : Int) then (if 0 ≤ x6 then (if x5.length + (mZ x1 x6).length < 2513169434916 then (az.l0 k x1 (x5 ++ (mZ x1 x6)) (wrap64 (x6 + 1))) else (none)) else (none)) else (some x5)
def az.f (k : Nat) (a0_0 : Int) (a0_1 : Int) (a0_2 : ByteArray) (a0_3 : Int) (a0_4 : ByteArray) (l1 : List (List (S29))) : Option ((List (S29))) := az.l0 k l1 (([(⟨a0_0, (l1.length : Int), a0_2, a0_3, a0_4⟩ : S29)] : List (S29))) 0
theorem az.bZ : ∀ k, (∀ y0 y1 y2, LeO (az.l0 k y0 y1 y2) (az.l0 (k + 1) y0 y1 y2))
 | 0 => fun _ _ _ r h => by simp [az.l0] at h
 | k + 1 => by
  have ih0 := az.bZ k
  intro y0 y1 y2
  unfold az.l0
  exact yL
theorem az.mono : ∀ a0 a1 a2 a3 a4 a5 k, LeO (az.f k a0 a1 a2 a3 a4 a5) (az.f (k + 1) a0 a1 a2 a3 a4 a5) := by
 intro a0 a1 a2 a3 a4 a5 k
 have ih0 := az.bZ k
 unfold az.f
 exact yL
set_option maxHeartbeats 8000000 in
set_option maxRecDepth 100000 in
theorem az.calls (k : Nat) (a0_0 : Int) (a0_1 : Int) (a0_2 : ByteArray) (a0_3 : Int) (a0_4 : ByteArray) (A1 : Option Addr) (c1 : Nat) (l1 : List (List (S29))) (r : List (S29)) (w : World) (hr1 : Kd.C (Kd.slice 29 k29) w A1 l1.length l1) (hc1 : l1.length ≤ c1) (h : az.f k a0_0 a0_1 a0_2 a0_3 a0_4 l1 = some r) :
 Calls Tryz.prog 37 #[.agg #[.int .i64 a0_0, .int .i64 a0_1, .string a0_2, .int .i64 a0_3, .string a0_4], .slice A1 l1.length c1] w fun e w' => ∃ v0_ : Value, e = .returned (v0_) ∧ Kd.R k29 29 w' w.heap.size (fun _ => True) v0_ r ∧ Below w.heap.size w w' := by
 have hu29 := Tryz.underlying29
 have HR1 := af.mk hr1
 have HC1 := af.mk hc1
 clear hr1 hc1
 have HB := af.mk (Below.refl w.heap.size w)
 have H := h
 clear h
 unfold az.f at H
 obtain ⟨y830, hy830⟩ : ∃ y_ : List (S29), y_ = (([(⟨a0_0, (l1.length : Int), a0_2, a0_3, a0_4⟩ : S29)] : List (S29))) := ⟨_, rfl⟩
 replace H : (az.l0 k l1 y830 0) = some r := by first | (rw [hy830]; with_reducible exact H) | (have H2_ := (Option.bind_some _ _).symm.trans H; rw [hy830]; with_reducible exact H2_) | (have H2_ := (Option.bind_some _ _).symm.trans H; with_reducible exact H2_) | with_reducible exact H | (rw [hy830]; exact H) | exact H
 have Ny830 := af.mk hy830
 clear hy830
 have H' := af.mk H
 clear H
 go_enter Tryz.func37, Tryz.ntmps37
 go_wp2_with (first | ((with_reducible refine bH (N := 2) rfl ?_); refine fA ?hg (N := 2) ?hd (cs := #[.int .i64 a0_0, .int .i64 a0_1, .string a0_2, .int .i64 a0_3, .string a0_4]) (t := 29) ?hr ?_; (case hd => rfl); (case hg => rfl); (case hr => first | (go_simp; done) | (go_simp; rfl)); intro gb829 hg w3 hbox hb; refine yA4 (aA Z1 hb) (hbox) ((by rw [hg]; exact (bD Z1) : w.heap.size ≤ gb829)) ((by rw [hg]; exact (bD Z1) : w.heap.size ≤ gb829)) ?_; clear HB; intro HB BK829 GW829 GE829; clear hb hbox hg; have hcz4_0 : w3.cell? ⟨gb829, 0, none⟩ = some (.int .i64 a0_0) := (ag BK829.out 0).trans rfl; have hcz4_1 : w3.cell? ⟨gb829, 1, none⟩ = some (.int .i64 a0_1) := (ag BK829.out 1).trans rfl; have hcz4_2 : w3.cell? ⟨gb829, 2, none⟩ = some (.string a0_2) := (ag BK829.out 2).trans rfl; have hcz4_3 : w3.cell? ⟨gb829, 3, none⟩ = some (.int .i64 a0_3) := (ag BK829.out 3).trans rfl; have hcz4_4 : w3.cell? ⟨gb829, 4, none⟩ = some (.string a0_4) := (ag BK829.out 4).trans rfl; have hfz4_0 := ae BK829.out 0; have hfz4_1 := ae BK829.out 1; have hfz4_2 := ae BK829.out 2; have hfz4_3 := ae BK829.out 3; have hfz4_4 := ae BK829.out 4) | ((with_reducible refine bH (N := 11) rfl ?_); refine Kd.pO k29 _ 29 ?hg (N := 11) ?hd (xs := ([(⟨a0_0, (l1.length : Int), a0_2, a0_3, a0_4⟩ : S29)] : List (S29))) (inner := [.int .i64 a0_0, .int .i64 (l1.length : Int), .string a0_2, .int .i64 a0_3, .string a0_4]) (ok := fun _ => True) (okp := fun _ => True) ?hr ?hp (fun _ hk => hk) trivial (Below.refl _ _) (Nat.le_refl _) (by simp) ?_; (case hd => rfl); (case hg => rfl); (case hr => first | (go_simp; done) | (go_simp; rfl)); (case hp => exact (eG.c5 (show Kd.M k29 _ _ _ (⟨a0_0, (l1.length : Int), a0_2, a0_3, a0_4⟩ : S29) [.int .i64 a0_0, .int .i64 (l1.length : Int), .string a0_2, .int .i64 a0_3, .string a0_4] from (xJ _ _ _ (⟨a0_0, (l1.length : Int), a0_2, a0_3, a0_4⟩ : S29) )) (eG.none _ _))); intro v831 w5 ho6 hb hg_ hnew_; clear hg_ hnew_; (first | rw [← Ny830.out] at ho6 | (simp only [Int.reduceToNat] at ho6; rw [← Ny830.out] at ho6)); refine yA3 (Kd.iw (Kd.EY ho6 (g := gb829) (o := .cells #[.int .i64 a0_0, .int .i64 (l1.length : Int), .string a0_2, .int .i64 a0_3, .string a0_4] 29 (0, 0)) (by refine bW (cs := #[.int .i64 a0_0, .int .i64 a0_1, .string a0_2, .int .i64 a0_3, .string a0_4]) ?_ 1 _ rfl; exact BK829.out)) (bD Z12)) (dL (g := gb829) (o := .cells #[.int .i64 a0_0, .int .i64 (l1.length : Int), .string a0_2, .int .i64 a0_3, .string a0_4] 29 (0, 0)) (by refine bW (cs := #[.int .i64 a0_0, .int .i64 a0_1, .string a0_2, .int .i64 a0_3, .string a0_4]) ?_ 1 _ rfl; exact BK829.out) hb) (aA Z12 hb) ?_; clear BK829 HB; intro HO832 BK829 HB; clear hb ho6))
 (try simp only [Act.put, List.setIfInBounds_toArray, List.set_cons_zero, List.set_cons_succ])
 go_loopg [5, 6] k (fun kq v5 v6 w' => ∃ (x5_1 : List (S29)) (x6_1 : Int), v6 = .int .i64 x6_1 ∧ af (az.l0 kq l1 x5_1 x6_1 = some r) ∧ af (kq ≤ k) ∧ af (Kd.R k29 29 w' w.heap.size (fun k_ => k_ ≠ gb829) v5 x5_1) ∧ af (w'.heap[gb829]? = some (.cells #[.int .i64 a0_0, .int .i64 (l1.length : Int), .string a0_2, .int .i64 a0_3, .string a0_4] 29 (0, 0))) ∧ af (Below w.heap.size w w'))
 case atStart => exact ⟨(y830), (0), Z36, H', ⟨Nat.le_refl _⟩, ⟨by (with_reducible repeat (first | apply Kd.iP | apply Kd.iI | apply Kd.jf)); exact Kd.jb HO832.out (fun _ hk => hk.2)⟩, ⟨by exact BK829.out⟩, ⟨Z12⟩⟩
 case round =>
  clear H'
  try clear c1
  try clear p2
  try clear c3
  try clear c5
  try clear hcz4_0
  try clear hcz4_1
  try clear hcz4_2
  try clear hcz4_3
  try clear hcz4_4
  try clear hfz4_0
  try clear hfz4_1
  try clear hfz4_2
  try clear hfz4_3
  try clear hfz4_4
  obtain ⟨x5_1, x6_1, rfl, HA, HK1, HO_5, BK829, HB⟩ := hrel
  cases gk with
  | zero => exact absurd HA.out (by simp [az.l0])
  | succ k1 =>
   have H := HA.out
   clear HA
   simp only [az.l0] at H
   revert H
   refine iR (fun c7b0 H => ?_) fun c7b0 H => ?_
   ·revert H
    refine gB (fun c8b0 H => ?_) fun c8 H => ?_
    ·revert H
     refine gU (fun c9 H => ?_) fun c9 H => ?_
     ·have LMc9 := af.mk c9
      clear c9
      obtain ⟨y834, hy834⟩ : ∃ y_ : List (S29), y_ = (x5_1 ++ (mZ l1 x6_1)) := ⟨_, rfl⟩
      replace H : (az.l0 k1 l1 y834 (wrap64 (x6_1 + 1))) = some r := by first | (rw [hy834]; with_reducible exact H) | (have H2_ := (Option.bind_some _ _).symm.trans H; rw [hy834]; with_reducible exact H2_) | (have H2_ := (Option.bind_some _ _).symm.trans H; with_reducible exact H2_) | with_reducible exact H | (rw [hy834]; exact H) | exact H
      have Ny834 := af.mk hy834
      clear hy834
      have H' := af.mk H
      clear H
      have p833 : 0 ≤ (x6_1 : Int) := of_decide_eq_true Z13
      have q833 : x6_1 < (l1.length : Int) := of_decide_eq_true Z13
      obtain ⟨ad833, A833_0, c833_0, e833, hx833_0, hl833_0, hi833_0⟩ := Hy HR1.out x6_1 p833 q833
      cases e833
      replace hx833_0 := (HB.out.cell (World.block_lt_of_cell? w _ hx833_0)).trans hx833_0
      have HR833_0 := af.mk hi833_0
      have HC833_0 := af.mk hl833_0
      clear hi833_0 hl833_0
      replace p833 := eq_true p833
      replace q833 := eq_true q833
      go_wp2_with (first | ((with_reducible refine ed (b := .append) (xs := #[.tmp 18, .tmp 22]) rfl ?_); at_builtin; refine Kd.lD k29 (w0 := w) w.heap.size rfl (.tmp 18) (.tmp 22) 23 29 (.agg #[(.int .i64 0), (.int .i64 0), (.string ⟨#[]⟩), (.int .i64 0), (.string ⟨#[]⟩)]) 56 rfl Tryz.underlying23 tC rfl (by decide) (by omega) u5 x5_1 (mZ l1 x6_1) _ _ _ (fun k_ => k_ ≠ gb829) (fun _ => False) rfl rfl ?aO ?aR (fun _ _ h => h) (fun _ h => h.elim) ?aF ?aB ?aS ?aL ?_; (case aR => repeat (first | exact (Kd.jW HR833_0.out HB.out) | (with_reducible refine Kd.jR ?_ _) | (with_reducible refine Kd.jQ ?_ _) | (with_reducible refine Kd.kV ?_))); (case aB => exact Z12); (case aF => exact (fun k_ hk => Kd.vM (g := gb829) (o := .cells #[.int .i64 a0_0, .int .i64 (l1.length : Int), .string a0_2, .int .i64 a0_3, .string a0_4] 29 (0, 0)) (by exact BK829.out) k_ hk)); (case aO => exact Z35); (case aS => exact (bD Z12)); (case aL => have := LMc9.out; omega); intro v835 w10 ho hb hg hat; rw [← Ny834.out] at ho; refine yA3 (kN (g := gb829) (o := .cells #[.int .i64 a0_0, .int .i64 (l1.length : Int), .string a0_2, .int .i64 a0_3, .string a0_4] 29 (0, 0)) (by exact BK829.out) hg (Kd.AL HO_5.out (fun _ hk => hk))) (hb) (ho) ?_; clear BK829 HB HO_5; intro BK829 HB HO836; clear ho hb hg hat))
      go_roundg k1
      case measure => have := HK1.out; omega
      case rel => exact ⟨(y834), (wrap64 (x6_1 + 1)), Z36, H', ⟨by have := HK1.out; omega⟩, ⟨by (with_reducible repeat (first | apply Kd.iP | apply Kd.iI | apply Kd.jf)); exact HO836.out⟩, ⟨by exact BK829.out⟩, ⟨Z12⟩⟩
     exact absurd H (by simp)
    exact absurd H (by simp)
   obtain rfl := Option.some.inj H
   go_wp2
   go_ret
   exact ⟨_, Z8, by (with_reducible repeat (first | apply Kd.iP | apply Kd.iI | apply Kd.jf)); exact Kd.jb HO_5.out (fun _ hk => trivial), Z12⟩
end Go.Proofs.YtkbhkonenkgfoaaGreat.Q
end
section
namespace Go.Proofs.YtkbhkonenkgfoaaGreat.Q
open Go.RowKit Go.Proofs.YtkbhkonenkgfoaaGreatW.PrintWords Go.Proofs.YtkbhkonenkgfoaaGreatW.PrintLast Go.Proofs.YtkbhkonenkgfoaaGreatW.PrintMore
attribute [local go_sem] iM iL iK iJ dJ dH dS dR cZ cO dI dG
set_option linter.unusedVariables false
set_option linter.unusedSimpArgs false
/-! ### aC: function 79 -/
mutual
def aC.l0 : Nat → List (List (S29)) → Int → List (S37) → Int → Bool → Option ((List (List (S29))) × Int × Bool)
 | 0, _, _, _, _, _ => none
 | k + 1, x3, x4, x1000, x1001, x1002 => if x1002 = true then (aC.j1 k x3 x4 false x1000 x1001 x1002) else ((eU.f x1000 x1001 x1002 (⟨#[41]⟩ : ByteArray)).bind fun bt839 => (aC.j1 k x3 x4 (!bt839.1) x1000 bt839.2.1 bt839.2.2))
def aC.j1 : Nat → List (List (S29)) → Int → Bool → List (S37) → Int → Bool → Option ((List (List (S29))) × Int × Bool)
 | 0, _, _, _, _, _, _ => none
 | k + 1, x3, x4, x16, x1000, x1001, x1002 => if x16 = true then (if x4 > 0 then ((bg.f x1000 x1001 x1002 (⟨#[44]⟩ : ByteArray)).bind fun bt844 => ((jJ.f x1000 bt844.1 bt844.2 1).bind fun bt846 => (if x3.length < 5864062014805 then (aC.l0 k (x3 ++ [(([(⟨4, 0, bt846.2.1, 0, (⟨#[]⟩ : ByteArray)⟩ : S29)] : List (S29)))]) (wrap64 (x4 + 1)) x1000 bt846.2.2.2.2.1 bt846.2.2.2.2.2) else (none)))) else ((jJ.f x1000 x1001 x1002 1).bind fun bt858 => (if x3.length < 5864062014805 then (aC.l0 k (x3 ++ [(([(⟨4, 0, bt858.2.1, 0, (⟨#[]⟩ : ByteArray)⟩ : S29)] : List (S29)))]) (wrap64 (x4 + 1)) x1000 bt858.2.2.2.2.1 bt858.2.2.2.2.2) else (none)))) else ((bg.f x1000 x1001 x1002 (⟨#[41]⟩ : ByteArray)).bind fun bt842 => (some (x3, bt842.1, bt842.2)))
end
def aC.f (k : Nat) (s0_0 : List (S37)) (s0_1 : Int) (s0_2 : Bool) : Option ((List (List (S29))) × Int × Bool) := (bg.f s0_0 s0_1 s0_2 (⟨#[40]⟩ : ByteArray)).bind fun bt837 => (aC.l0 k ([] : List (List (S29))) 0 s0_0 bt837.1 bt837.2)
theorem aC.bZ : ∀ k, (∀ y0 y1 y2 y3 y4, LeO (aC.l0 k y0 y1 y2 y3 y4) (aC.l0 (k + 1) y0 y1 y2 y3 y4)) ∧ (∀ y0 y1 y2 y3 y4 y5, LeO (aC.j1 k y0 y1 y2 y3 y4 y5) (aC.j1 (k + 1) y0 y1 y2 y3 y4 y5))
 | 0 => ⟨fun _ _ _ _ _ r h => by simp [aC.l0] at h, fun _ _ _ _ _ _ r h => by simp [aC.j1] at h⟩
 | k + 1 => by
  obtain ⟨ih0, ih1⟩ := aC.bZ k
  refine ⟨?_, ?_⟩
  ·intro y0 y1 y2 y3 y4
   unfold aC.l0
   exact yL
  intro y0 y1 y2 y3 y4 y5
  unfold aC.j1
  exact yL
theorem aC.mono : ∀ a0 a1 a2 k, LeO (aC.f k a0 a1 a2) (aC.f (k + 1) a0 a1 a2) := by
 intro a0 a1 a2 k
 obtain ⟨ih0, ih1⟩ := aC.bZ k
 unfold aC.f
 exact yL
end Go.Proofs.YtkbhkonenkgfoaaGreat.Q
end
