/- Walks over functions of the program, words for them, and what the functions come to; of each text only what this claim uses; no condition. -/
import Derived.Test.YtlenihbmafkegaaZSA0
import Derived.Test.YtlenihbmafkegaaZSA1
import Derived.Test.YtlenihbmafkegaaZSA3
import Derived.Test.YtlenihbmafkegaaZSA7
import Derived.Test.YtlenihbmafkegaaZSA8
import Derived.Test.YtlenihbmafkegaaZSA9
import Derived.Test.YtlenihbmafkegaaZSA10
section
set_option linter.unusedVariables false
set_option linter.unusedSimpArgs false
namespace Go.Proofs.Ytlenihbmafkegaa.Q
open Go Go.RowKit Go.Proofs.YtlenihbmafkegaaW.PrintWords Go.Proofs.YtlenihbmafkegaaW.PrintLast Go.Proofs.YtlenihbmafkegaaW.PrintMore
attribute [local go_sem] pM pK pJ pI
set_option maxHeartbeats 8000000 in
set_option maxRecDepth 100000 in
theorem zU (F : Fam) (HF : kD F) (k : Nat) (g : Nat) (s0 : List S56) (s1 : Int) (s2 : Bool) (r : List S40) (e1 : Int) (e2 : Bool) (w0 w : World) (hI : Rd 72 w0 w g s0 s1 s2) (hB : Below w0.heap.size w0 w) (h : ax.f F k s0 s1 s2 = some (r, e1, e2)) :
 Calls Try.prog 87 #[.pointer (some ⟨g, 0, none⟩)] w (Back 72 w0 w g s0 e1 e2 (IsL w r)) := by
 unfold ax.f at h
 have HS := St.new (T := 72) (by decide) hI hB
 have H := ae.mk h
 clear h hI hB
 go_enter Try.func87, Try.ntmps87
 go_wp2_with (first | ((with_reducible refine gC 75 rfl ?_); refine sS 75 rfl Try.func75 (stT HS) H (fun t q b hI hB => bC.calls g _ _ _ t q b w0 _ hI hB) ?_; clear HS H; intro t q b w' HS H; (try dsimp only at H); rcases tS t ([45] : List UInt8) with ⟨c, cb1, cn1⟩ | ⟨c, cb1, cn1⟩; replace H := hI c H; clear c; rcases k with _ | k; exact absurd H.out (by simp [ax.j0]); simp only [ax.j0] at H; simp only [cb1, if_true] at H; rotate_left; replace H := hE c H; clear c; rcases tS t ([110, 111, 116] : List UInt8) with ⟨c, cb2, cn2⟩ | ⟨c, cb2, cn2⟩; replace H := hI c H; clear c; rcases k with _ | k; exact absurd H.out (by simp [ax.j0]); simp only [ax.j0] at H; simp only [cb2, if_true] at H; rotate_left; replace H := hE c H; clear c; (rcases k with _ | k; exact absurd H.out (by simp [ax.j0]); simp only [ax.j0] at H); rcases tS t ([108, 101, 110] : List UInt8) with ⟨c, cb3, cn3⟩ | ⟨c, cb3, cn3⟩; clear c; simp only [cb3, if_true] at H; rotate_left; clear c; simp only [cb3, Bool.false_eq_true, if_false] at H; rcases tS t ([115, 112, 97, 119, 110] : List UInt8) with ⟨c, cb4, cn4⟩ | ⟨c, cb4, cn4⟩; replace H := hI c H; clear c; rotate_left; replace H := hE c H; clear c) | ((with_reducible refine gC 58 rfl ?_); refine sB 58 rfl Try.func58 (stT HS) H (fun t q b hI hB => aH.calls g _ _ _ _ t q b w0 _ hI hB) ?_; clear HS H; intro t q b w' HS H; (try dsimp only at H)) | ((with_reducible refine gC 87 rfl ?_); refine sL 87 rfl Try.func87 (stT HS) H (fun t q b hI hB h => toL (HF.unary g _ _ _ t q b w0 _ hI hB h)) ?_; clear HS H; intro t q b w' A c HS H; (try dsimp only at H)) | ((with_reducible refine bI (N := 20) rfl ?_); refine oC (N := 20) (stT HS) (by first | (go_simp; done) | (go_simp; rfl)) ?_; clear HS; intro A c w' HS) | ((with_reducible refine bI (N := 30) rfl ?_); refine oC (N := 30) (stT HS) (by first | (go_simp; done) | (go_simp; rfl)) ?_; clear HS; intro A c w' HS) | ((with_reducible refine gC 61 rfl ?_); refine sJ 61 rfl Try.func61 (stT HS) H (fun t hr hc => az.calls _ _ _ _ _ _ _ _ _ t _ hr hc) ?_; clear HS H; intro t w' A c HS H; (try dsimp only at H)) | ((with_reducible refine gC 89 rfl ?_); refine sL 89 rfl Try.func89 (stT HS) H (fun t q b hI hB h => Jc F HF _ g _ _ _ t q b w0 _ hI hB h) ?_; clear HS H; intro t q b w' A c HS H; (try dsimp only at H)))
 all_goals first
  | (have h_ := H.out; simp only [Option.some.injEq, Prod.mk.injEq] at h_; obtain ⟨rfl, rfl, rfl⟩ := h_; go_ret; exact (stT HS).lC (.head _))
  | skip
 (try simp only [Act.put, List.setIfInBounds_toArray, List.set_cons_zero, List.set_cons_succ])
 go_loopg [4] k (fun kq v4 w' => ∃ (x4 : List S40) (p : Int) (d : Bool) (A : Option Addr) (c : Nat), v4 = .slice A x4.length c ∧ ae (ax.l0 F kq x4 s0 p d = some (r, e1, e2)) ∧ ae (kq ≤ k) ∧ St 72 w0 w w' g s0 p d [(.slice A x4.length c, x4)] [] ⟨[], []⟩)
 case atStart => exact ⟨_, _, _, _, _, rfl, H, ⟨Nat.le_refl _⟩, stT HS⟩
 case round =>
  clear HS H
  obtain ⟨x4, p, d, A, c, rfl, H, HK1, HS⟩ := hrel
  cases gk with
  | zero => exact absurd H.out (by simp [ax.l0])
  | succ k1 =>
   simp only [ax.l0] at H
   have hc2 := HS.rd.cell2
   cases d <;> (try simp only [if_true, if_false, eq_self, Bool.false_eq_true, Bool.not_true, Bool.not_false] at H)
   all_goals go_wp2_with (first | ((with_reducible refine gC 75 rfl ?_); refine sS 75 rfl Try.func75 (stT HS) H (fun t q b hI hB => bC.calls g _ _ _ t q b w0 _ hI hB) ?_; clear HS H; intro t1 q b w' HS H; (try dsimp only at H); rcases tS t1 ([40] : List UInt8) with ⟨c, cb5, cn5⟩ | ⟨c, cb5, cn5⟩; replace H := hI c H; clear c; rotate_left; replace H := hE c H; clear c; rcases tS t1 ([91] : List UInt8) with ⟨c, cb6, cn6⟩ | ⟨c, cb6, cn6⟩; replace H := hI c H; clear c; rotate_left; replace H := hE c H; clear c) | ((with_reducible refine bI (N := 44) rfl ?_); refine oC (N := 44) (stT HS) (by first | (go_simp; done) | (go_simp; rfl)) ?_; clear HS; intro A c w' HS; replace H := hB H; (try dsimp only at H)) | ((with_reducible refine gC 76 rfl ?_); refine sK 76 rfl Try.func76 (stT HS) H (fun t q b hI hB h => zV F HF _ g _ _ _ t q b w0 _ hI hB h) ?_; clear HS H; intro t q b w' A c HS H; (try dsimp only at H)) | ((with_reducible refine dR (b := .append) (xs := #[.tmp 46, .tmp 50]) rfl ?_); at_builtin; refine zo (N := 51) (.tmp 46) (.tmp 50) rfl Try.underlying86 info22 (stT HS) rfl rfl H ?_; clear HS H; intro A c w' HS H; (try replace H := hB H); (try dsimp only at H)) | ((with_reducible refine gC 61 rfl ?_); refine sJ 61 rfl Try.func61 (stT HS) H (fun t hr hc => az.calls _ _ _ _ _ _ _ _ _ t _ hr hc) ?_; clear HS H; intro t w' A c HS H; (try dsimp only at H)) | ((with_reducible refine gC 58 rfl ?_); refine sB 58 rfl Try.func58 (stT HS) H (fun t q b hI hB => aH.calls g _ _ _ _ t q b w0 _ hI hB) ?_; clear HS H; intro t q b w' HS H; (try dsimp only at H)) | ((with_reducible refine gC 83 rfl ?_); refine sL 83 rfl Try.func83 (stT HS) H (fun t q b hI hB h => toL (HF.expr g _ _ _ t q b w0 _ hI hB h)) ?_; clear HS H; intro t q b w' A c HS H; (try dsimp only at H)) | ((with_reducible refine bI (N := 61) rfl ?_); refine GL (N := 61) (stT HS) (by first | (go_simp; done) | (go_simp; rfl)) ?_; clear HS; intro A c w' HS) | ((with_reducible refine gC 56 rfl ?_); refine sU 56 rfl Try.func56 (stT HS) H (fun q b hI hB => aC.calls g _ _ _ _ q b w0 _ hI hB) ?_; clear HS H; intro q b w' HS H; (try dsimp only at H)))
   all_goals first
    | (go_roundg k1; (case measure => have := HK1.out; omega); (case rel => exact ⟨_, _, _, _, _, by first | rfl | simp, H, ⟨by have := HK1.out; omega⟩, (stT HS).KH⟩))
    | (have h_ := H.out; simp only [Option.some.injEq, Prod.mk.injEq] at h_; obtain ⟨rfl, rfl, rfl⟩ := h_; go_ret; exact (stT HS).lC (.head _))
theorem ax.calls (F : Fam) (HF : kD F) (k : Nat) (g : Nat) (s0 : List S56) (s1 : Int) (s2 : Bool) (r1 : List S40) (r2 : Int) (r3 : Bool) (w0 w : World) (hI : bf w0 w g s0 s1 s2) (hB : Below w0.heap.size w0 w) (h : ax.f F k s0 s1 s2 = some (r1, r2, r3)) : Reads 87 #[] g s0 r1 r2 r3 w0 w :=
 ofL (zU F HF k g s0 s1 s2 r1 r2 r3 w0 w hI hB h)
end Go.Proofs.Ytlenihbmafkegaa.Q
end
section
namespace Go.Proofs.Ytlenihbmafkegaa.Q
open Go.RowKit Go.Proofs.YtlenihbmafkegaaW.PrintWords Go.Proofs.YtlenihbmafkegaaW.PrintLast Go.Proofs.YtlenihbmafkegaaW.PrintMore
attribute [local go_sem] dC dA dP dO cZ cO dB dw
set_option linter.unusedVariables false
set_option linter.unusedSimpArgs false
/-! ### bG: function 88 -/
mutual
def bG.j0 : Nat → ByteArray → Bool → Option (Int)
 | 0, _, _ => none
 | k + 1, x3, x8 => if x8 = true then (some 3) else (if x3.toList = ([43] : List UInt8) then (bG.j1 k x3 (x3.toList == ([43] : List UInt8))) else (if x3.toList = ([45] : List UInt8) then (bG.j1 k x3 (x3.toList == ([45] : List UInt8))) else (bG.j1 k x3 (x3.toList == ([46, 46] : List UInt8)))))
def bG.j1 : Nat → ByteArray → Bool → Option (Int)
 | 0, _, _ => none
 | k + 1, x3, x13 => if x13 = true then (some 4) else (if x3.toList = ([42] : List UInt8) then (some 5) else (if x3.toList = ([47] : List UInt8) then (some 5) else (if x3.toList = ([37] : List UInt8) then (some 5) else (some 0))))
end
def bG.f (k : Nat) (a0 : ByteArray) : Option (Int) := if a0.toList = ([111, 114] : List UInt8) then (some 1) else (if a0.toList = ([97, 110, 100] : List UInt8) then (some 2) else (if a0.toList = ([61, 61] : List UInt8) then (bG.j0 k a0 (a0.toList == ([61, 61] : List UInt8))) else (if a0.toList = ([33, 61] : List UInt8) then (bG.j0 k a0 (a0.toList == ([33, 61] : List UInt8))) else (if a0.toList = ([60] : List UInt8) then (bG.j0 k a0 (a0.toList == ([60] : List UInt8))) else (bG.j0 k a0 (a0.toList == ([60, 61] : List UInt8)))))))
theorem bG.cu : ∀ k, (∀ y0 y1, LeO (bG.j0 k y0 y1) (bG.j0 (k + 1) y0 y1)) ∧ (∀ y0 y1, LeO (bG.j1 k y0 y1) (bG.j1 (k + 1) y0 y1))
 | 0 => ⟨fun _ _ r h => by simp [bG.j0] at h, fun _ _ r h => by simp [bG.j1] at h⟩
 | k + 1 => by
  obtain ⟨ih0, ih1⟩ := bG.cu k
  refine ⟨?_, ?_⟩
  ·intro y0 y1
   unfold bG.j0
   exact yL
  intro y0 y1
  unfold bG.j1
  exact yL
theorem bG.mono : ∀ a0 k, LeO (bG.f k a0) (bG.f (k + 1) a0) := by
 intro a0 k
 obtain ⟨ih0, ih1⟩ := bG.cu k
 unfold bG.f
 exact yL
set_option maxHeartbeats 8000000 in
set_option maxRecDepth 100000 in
theorem bG.calls (k : Nat) (a0 : ByteArray) (r : Int) (w : World) (h : bG.f k a0 = some r) :
 Calls Try.prog 88 #[.string a0] w fun e w' => e = .returned (.int .i64 r) ∧ dQ w w' := by
 have H := h
 clear h
 unfold bG.f at H
 revert H
 refine bn (fun c2b0 c2b1 H => ?_) fun c2 c2b0 c2b1 H => ?_
 ·obtain rfl := Option.some.inj H
  go_enter Try.func88, Try.ntmps88
  go_wp2
  go_ret
  exact ⟨fT, Z0⟩
 revert H
 refine bn (fun c3b0 c3b1 H => ?_) fun c3 c3b0 c3b1 H => ?_
 ·obtain rfl := Option.some.inj H
  go_enter Try.func88, Try.ntmps88
  go_wp2
  go_ret
  exact ⟨fT, Z0⟩
 have HC4 := ae.mk H
 clear H
 go_enter Try.func88, Try.ntmps88
 go_upto_if 8 with (fail)
 go_cut [8] (fun v8 wc => ∃ (kq : Nat) (x8_3 : Bool), v8 = .bool x8_3 ∧ ae (bG.j0 kq a0 x8_3 = some r) ∧ ae (kq ≤ k) ∧ dQ w wc)
 case first =>
  have H := HC4.out
  clear HC4
  revert H
  refine bn (fun c5b0 c5b1 H => ?_) fun c5 c5b0 c5b1 H => ?_
  ·(first | rw [c5b0] | (simp only [gB, iP]; rw [c5b0]) | skip)
   have H' := ae.mk H
   clear H
   go_wp2
   go_meet
   case rel => exact ⟨_, ((a0.toList == ([61, 61] : List UInt8))), fT, H', ⟨Z13⟩, Z0⟩
  (first | rw [c5b0] | (simp only [gB, iP]; rw [c5b0]) | skip)
  revert H
  refine bn (fun c6b0 c6b1 H => ?_) fun c6 c6b0 c6b1 H => ?_
  ·have H' := ae.mk H
   clear H
   go_wp2
   go_meet
   case rel => exact ⟨_, ((a0.toList == ([33, 61] : List UInt8))), fT, H', ⟨Z13⟩, Z0⟩
  revert H
  refine bn (fun c7b0 c7b1 H => ?_) fun c7 c7b0 c7b1 H => ?_
  ·have H' := ae.mk H
   clear H
   go_wp2
   go_meet
   case rel => exact ⟨_, ((a0.toList == ([60] : List UInt8))), fT, H', ⟨Z13⟩, Z0⟩
  have H' := ae.mk H
  clear H
  go_wp2
  go_meet
  case rel => exact ⟨_, ((a0.toList == ([60, 61] : List UInt8))), fT, H', ⟨Z13⟩, Z0⟩
 case rest =>
  clear HC4
  try clear c2
  try clear c2b0
  try clear c2b1
  try clear p2
  try clear c3
  try clear c3b0
  try clear c3b1
  try clear c5
  try clear c5b0
  try clear c5b1
  try clear c6
  try clear c6b0
  try clear c6b1
  try clear c7
  try clear c7b0
  try clear c7b1
  obtain ⟨kq, x8_3, rfl, HA, HJ3, ⟨mc3, rfl⟩⟩ := hcut
  cases kq with
  | zero => exact absurd HA.out (by simp [bG.j0])
  | succ kj3 =>
   have H := HA.out
   clear HA
   simp only [bG.j0] at H
   cases x8_3
   rotate_left
   ·replace H := yT H
    obtain rfl := Option.some.inj H
    go_wp2
    go_ret
    exact ⟨fT, Z0⟩
   replace H := yF H
   have HC9 := ae.mk H
   clear H
   go_upto_if 13 with (fail)
   go_cut [13] (fun v13 wc => ∃ (kq : Nat) (x13_8 : Bool), v13 = .bool x13_8 ∧ ae (bG.j1 kq a0 x13_8 = some r) ∧ ae (kq ≤ kj3) ∧ dQ w wc)
   case first =>
    have H := HC9.out
    clear HC9
    revert H
    refine bn (fun c10b0 c10b1 H => ?_) fun c10 c10b0 c10b1 H => ?_
    ·(first | rw [c10b0] | (simp only [gB, iP]; rw [c10b0]) | skip)
     have H' := ae.mk H
     clear H
     go_wp2
     go_meet
     case rel => exact ⟨_, ((a0.toList == ([43] : List UInt8))), fT, H', ⟨by have := HJ3.out; first | omega | exact Nat.le_refl _⟩, Z0⟩
    (first | rw [c10b0] | (simp only [gB, iP]; rw [c10b0]) | skip)
    revert H
    refine bn (fun c11b0 c11b1 H => ?_) fun c11 c11b0 c11b1 H => ?_
    ·have H' := ae.mk H
     clear H
     go_wp2
     go_meet
     case rel => exact ⟨_, ((a0.toList == ([45] : List UInt8))), fT, H', ⟨by have := HJ3.out; first | omega | exact Nat.le_refl _⟩, Z0⟩
    have H' := ae.mk H
    clear H
    go_wp2
    go_meet
    case rel => exact ⟨_, ((a0.toList == ([46, 46] : List UInt8))), fT, H', ⟨by have := HJ3.out; first | omega | exact Nat.le_refl _⟩, Z0⟩
   case rest =>
    clear HC9
    try clear c1
    try clear c2
    try clear c2b0
    try clear c2b1
    try clear p2
    try clear c3
    try clear c3b0
    try clear c3b1
    try clear c5
    try clear c5b0
    try clear c5b1
    try clear c6
    try clear c6b0
    try clear c6b1
    try clear c7
    try clear c7b0
    try clear c7b1
    try clear c8
    try clear c10
    try clear c10b0
    try clear c10b1
    try clear c11
    try clear c11b0
    try clear c11b1
    try clear p2
    obtain ⟨kq, x13_8, rfl, HA, HJ8, ⟨mc8, rfl⟩⟩ := hcut
    cases kq with
    | zero => exact absurd HA.out (by simp [bG.j1])
    | succ kj8 =>
     have H := HA.out
     clear HA
     simp only [bG.j1] at H
     cases x13_8
     rotate_left
     ·replace H := yT H
      obtain rfl := Option.some.inj H
      go_wp2
      go_ret
      exact ⟨fT, Z0⟩
     replace H := yF H
     revert H
     refine bn (fun c13b0 c13b1 H => ?_) fun c13 c13b0 c13b1 H => ?_
     ·obtain rfl := Option.some.inj H
      go_wp2
      go_ret
      exact ⟨fT, Z0⟩
     revert H
     refine bn (fun c14b0 c14b1 H => ?_) fun c14 c14b0 c14b1 H => ?_
     ·obtain rfl := Option.some.inj H
      go_wp2
      go_ret
      exact ⟨fT, Z0⟩
     revert H
     refine bn (fun c15b0 c15b1 H => ?_) fun c15 c15b0 c15b1 H => ?_
     ·obtain rfl := Option.some.inj H
      go_wp2
      go_ret
      exact ⟨fT, Z0⟩
     obtain rfl := Option.some.inj H
     go_wp2
     go_ret
     exact ⟨fT, Z0⟩
end Go.Proofs.Ytlenihbmafkegaa.Q
end
section
namespace Go.Proofs.Ytlenihbmafkegaa.Q
open Go.RowKit Go.Proofs.YtlenihbmafkegaaW.PrintWords Go.Proofs.YtlenihbmafkegaaW.PrintLast Go.Proofs.YtlenihbmafkegaaW.PrintMore
attribute [local go_sem] jH jG jF jE dC dA dP dO cZ cO dB dw
set_option linter.unusedVariables false
set_option linter.unusedSimpArgs false
-- BY HAND: function 93 (runtime_errorString_Error)
/-! ### aJ: function 86 -/
def aJ.l0 (F : Fam) : Nat → Int → List (S40) → List (S56) → Int → Bool → Option ((List (S40)) × Int × Bool)
 | 0, _, _, _, _, _ => none
 | k + 1, x1, x5, x1000, x1001, x1002 => if x1002 = true then (some (x5, x1001, x1002)) else ((bC.f x1000 x1001 x1002).bind fun bt807 => ((bG.f k bt807.1).bind fun t810 => (if t810 = x1 then ((aH.f x1000 bt807.2.1 bt807.2.2 bt807.1).bind fun bt811 => ((oN.f F k x1000 bt811.2.1 bt811.2.2 (wrap64 (x1 + 1))).bind fun bt814 => ((az.f k 27 0 (⟨#[]⟩ : ByteArray) 0 bt807.1 (([x5, bt814.1] : List (List (S40))))).bind fun t822 => (if x1 = 3 then (some (t822, bt814.2.1, bt814.2.2)) else (aJ.l0 F k x1 t822 x1000 bt814.2.1 bt814.2.2))))) else (some (x5, bt807.2.1, bt807.2.2)))))
def aJ.f (F : Fam) (k : Nat) (s0_0 : List (S56)) (s0_1 : Int) (s0_2 : Bool) (a1 : Int) : Option ((List (S40)) × Int × Bool) := if a1 = 6 then ((ax.f F k s0_0 s0_1 s0_2).bind fun bt797 => (some (bt797.1, bt797.2.1, bt797.2.2))) else ((oN.f F k s0_0 s0_1 s0_2 (wrap64 (a1 + 1))).bind fun bt802 => (aJ.l0 F k a1 bt802.1 s0_0 bt802.2.1 bt802.2.2))
theorem aJ.cu {F F' : Fam} (HLE : jR F F') : ∀ k, (∀ y0 y1 y2 y3 y4, LeO (aJ.l0 F k y0 y1 y2 y3 y4) (aJ.l0 F' (k + 1) y0 y1 y2 y3 y4))
 | 0 => fun _ _ _ _ _ r h => by simp [aJ.l0] at h
 | k + 1 => by
  have ih0 := aJ.cu HLE k
  intro y0 y1 y2 y3 y4
  unfold aJ.l0
  have m0 := az.mono
  have m1 := (ax.mono HLE)
  have m2 := bG.mono
  have m3 := (oN.mono HLE)
  exact yL
theorem aJ.mono {F F' : Fam} (HLE : jR F F') : ∀ a0 a1 a2 a3 k, LeO (aJ.f F k a0 a1 a2 a3) (aJ.f F' (k + 1) a0 a1 a2 a3) := by
 intro a0 a1 a2 a3 k
 have ih0 := aJ.cu HLE k
 unfold aJ.f
 have m0 := az.mono
 have m1 := (ax.mono HLE)
 have m2 := bG.mono
 have m3 := (oN.mono HLE)
 exact yL
/-! ### dJ: function 83 -/
def dJ.f (F : Fam) (k : Nat) (s0_0 : List (S56)) (s0_1 : Int) (s0_2 : Bool) : Option ((List (S40)) × Int × Bool) := (aJ.f F k s0_0 s0_1 s0_2 1).bind fun bt825 => (some (bt825.1, bt825.2.1, bt825.2.2))
theorem dJ.mono {F F' : Fam} (HLE : jR F F') : ∀ a0 a1 a2 k, LeO (dJ.f F k a0 a1 a2) (dJ.f F' (k + 1) a0 a1 a2) := by
 intro a0 a1 a2 k
 unfold dJ.f
 have m0 := (aJ.mono HLE)
 exact yL
end Go.Proofs.Ytlenihbmafkegaa.Q
end
section
set_option linter.unusedVariables false
set_option linter.unusedSimpArgs false
namespace Go.Proofs.Ytlenihbmafkegaa.Q
open Go Go.RowKit Go.Proofs.YtlenihbmafkegaaW.PrintWords Go.Proofs.YtlenihbmafkegaaW.PrintLast Go.Proofs.YtlenihbmafkegaaW.PrintMore
attribute [local go_sem] pM pK pJ pI
set_option maxHeartbeats 8000000 in
set_option maxRecDepth 100000 in
theorem zW (F : Fam) (HF : kD F) (k : Nat) (g : Nat) (s0 : List S56) (s1 : Int) (s2 : Bool) (a : Int) (r : List S40) (e1 : Int) (e2 : Bool) (w0 w : World) (hI : Rd 72 w0 w g s0 s1 s2) (hB : Below w0.heap.size w0 w) (h : aJ.f F k s0 s1 s2 a = some (r, e1, e2)) :
 Calls Try.prog 86 #[.pointer (some ⟨g, 0, none⟩), .int .i64 a] w (Back 72 w0 w g s0 e1 e2 (IsL w r)) := by
 unfold aJ.f at h
 have HS := St.new (T := 72) (by decide) hI hB
 have H := ae.mk h
 clear h hI hB
 rcases nS a 6 with ⟨c, cb0, cn0⟩ | ⟨c, cb0, cn0⟩
 ·replace H := hI c H
  subst c
  go_enter Try.func86, Try.ntmps86
  go_wp2_with (first | ((with_reducible refine gC 87 rfl ?_); refine sL 87 rfl Try.func87 (stT HS) H (fun t q b hI hB h => zU F HF _ g _ _ _ t q b w0 _ hI hB h) ?_; clear HS H; intro t q b w' A c HS H; (try dsimp only at H)))
  all_goals
   have h_ := H.out; simp only [Option.some.injEq, Prod.mk.injEq] at h_; obtain ⟨rfl, rfl, rfl⟩ := h_
   go_ret
   exact (stT HS).lC (.head _)
 replace H := hE c H
 clear c
 go_enter Try.func86, Try.ntmps86
 go_wp2_with (first | ((with_reducible refine gC 86 rfl ?_); refine sL 86 rfl Try.func86 (stT HS) H (fun t q b hI hB h => toL (HF.bound g _ _ _ _ t q b w0 _ hI hB h)) ?_; clear HS H; intro t q b w' A c HS H; (try dsimp only at H)))
 (try simp only [Act.put, List.setIfInBounds_toArray, List.set_cons_zero, List.set_cons_succ])
 go_loopg [5] k (fun kq v5 w' => ∃ (x5 : List S40) (p : Int) (d : Bool) (A : Option Addr) (c : Nat), v5 = .slice A x5.length c ∧ ae (aJ.l0 F kq a x5 s0 p d = some (r, e1, e2)) ∧ ae (kq ≤ k) ∧ St 72 w0 w w' g s0 p d [(.slice A x5.length c, x5)] [] ⟨[], []⟩)
 case atStart => exact ⟨_, _, _, _, _, rfl, H, ⟨Nat.le_refl _⟩, stT HS⟩
 case round =>
  clear HS H
  obtain ⟨x5, p, d, A, c, rfl, H, HK1, HS⟩ := hrel
  cases gk with
  | zero => exact absurd H.out (by simp [aJ.l0])
  | succ k1 =>
   simp only [aJ.l0] at H
   have hc2 := HS.rd.cell2
   rcases nS a 3 with ⟨c3, cb3, cn3⟩ | ⟨c3, cb3, cn3⟩ <;> (first | simp only [eq_true c3, if_true] at H | simp only [eq_false c3, if_false] at H)
   all_goals (try clear c3)
   all_goals
    cases d <;> (try simp only [if_true, if_false, eq_self, Bool.false_eq_true, Bool.not_true, Bool.not_false] at H)
   all_goals go_wp2_with (first | ((with_reducible refine gC 75 rfl ?_); refine sS 75 rfl Try.func75 (stT HS) H (fun t q b hI hB => bC.calls g _ _ _ t q b w0 _ hI hB) ?_; clear HS H; intro t q b w' HS H; (try dsimp only at H)) | ((with_reducible refine gC 88 rfl ?_); refine sV 88 rfl Try.func88 (stT HS) H (fun t => bG.calls _ _ t _) ?_; clear HS H; intro n1 w' HS H; (try dsimp only at H); rcases nS n1 a with ⟨c, cb1, cn1⟩ | ⟨c, cb1, cn1⟩; replace H := hI c H; clear c; rotate_left; replace H := hE c H; clear c; rotate_left) | ((with_reducible refine gC 58 rfl ?_); refine sB 58 rfl Try.func58 (stT HS) H (fun t q b hI hB => aH.calls g _ _ _ _ t q b w0 _ hI hB) ?_; clear HS H; intro t q b w' HS H; (try dsimp only at H)) | ((with_reducible refine gC 86 rfl ?_); refine sL 86 rfl Try.func86 (stT HS) H (fun t q b hI hB h => toL (HF.bound g _ _ _ _ t q b w0 _ hI hB h)) ?_; clear HS H; intro t q b w' A c HS H; (try dsimp only at H)) | ((with_reducible refine bI (N := 36) rfl ?_); refine GL (N := 36) (stT HS) (by first | (go_simp; done) | (go_simp; rfl)) ?_; clear HS; intro A c w' HS) | ((with_reducible refine gC 61 rfl ?_); refine sJ 61 rfl Try.func61 (stT HS) H (fun t hr hc => az.calls _ _ _ _ _ _ _ _ _ t _ hr hc) ?_; clear HS H; intro t w' A c HS H; (try dsimp only at H)))
   all_goals first
    | (go_roundg k1; (case measure => have := HK1.out; omega); (case rel => exact ⟨_, _, _, _, _, by first | rfl | simp, H, ⟨by have := HK1.out; omega⟩, (stT HS).KH⟩))
    | (have h_ := H.out; simp only [Option.some.injEq, Prod.mk.injEq] at h_; obtain ⟨rfl, rfl, rfl⟩ := h_; go_ret; exact (stT HS).lC (.head _))
theorem aJ.calls (F : Fam) (HF : kD F) (k : Nat) (g : Nat) (s0 : List S56) (s1 : Int) (s2 : Bool) (a0 : Int) (r1 : List S40) (r2 : Int) (r3 : Bool) (w0 w : World) (hI : bf w0 w g s0 s1 s2) (hB : Below w0.heap.size w0 w) (h : aJ.f F k s0 s1 s2 a0 = some (r1, r2, r3)) : Reads 86 #[.int .i64 a0] g s0 r1 r2 r3 w0 w :=
 ofL (zW F HF k g s0 s1 s2 a0 r1 r2 r3 w0 w hI hB h)
set_option maxHeartbeats 8000000 in
set_option maxRecDepth 100000 in
theorem Je (F : Fam) (HF : kD F) (k : Nat) (g : Nat) (s0 : List S56) (s1 : Int) (s2 : Bool) (r : List S40) (e1 : Int) (e2 : Bool) (w0 w : World) (hI : Rd 72 w0 w g s0 s1 s2) (hB : Below w0.heap.size w0 w) (h : dJ.f F k s0 s1 s2 = some (r, e1, e2)) :
 Calls Try.prog 83 #[.pointer (some ⟨g, 0, none⟩)] w (Back 72 w0 w g s0 e1 e2 (IsL w r)) := by
 unfold dJ.f at h
 have HS := St.new (T := 72) (by decide) hI hB
 have H := ae.mk h
 clear h hI hB
 go_enter Try.func83, Try.ntmps83
 go_wp2_with (first | ((with_reducible refine gC 86 rfl ?_); refine sL 86 rfl Try.func86 (stT HS) H (fun t q b hI hB h => zW F HF _ g _ _ _ _ t q b w0 _ hI hB h) ?_; clear HS H; intro t q b w' A c HS H; (try dsimp only at H)))
 all_goals
  have h_ := H.out; simp only [Option.some.injEq, Prod.mk.injEq] at h_; obtain ⟨rfl, rfl, rfl⟩ := h_
  go_ret
  exact (stT HS).lC (.head _)
theorem dJ.calls (F : Fam) (HF : kD F) (k : Nat) (g : Nat) (s0 : List S56) (s1 : Int) (s2 : Bool) (r1 : List S40) (r2 : Int) (r3 : Bool) (w0 w : World) (hI : bf w0 w g s0 s1 s2) (hB : Below w0.heap.size w0 w) (h : dJ.f F k s0 s1 s2 = some (r1, r2, r3)) : Reads 83 #[] g s0 r1 r2 r3 w0 w :=
 ofL (Je F HF k g s0 s1 s2 r1 r2 r3 w0 w hI hB h)
end Go.Proofs.Ytlenihbmafkegaa.Q
end
section
namespace Go.Proofs.Ytlenihbmafkegaa.Q
open Go.RowKit Go.Proofs.YtlenihbmafkegaaW.PrintWords Go.Proofs.YtlenihbmafkegaaW.PrintLast Go.Proofs.YtlenihbmafkegaaW.PrintMore
attribute [local go_sem] jH jG jF jE dC dA dP dO cZ cO dB dw
set_option linter.unusedVariables false
set_option linter.unusedSimpArgs false
/-! ### aA: function 38 -/
mutual
def aA.l0 (F : Fam) : Nat → List (List (S40)) → List (S56) → Int → Bool → Int → Int → ByteArray → Int → ByteArray → Option ((List (S40)) × Int × Bool)
 | 0, _, _, _, _, _, _, _, _, _ => none
 | k + 1, x4, x1000, x1001, x1002, x576000, x576001, x576002, x576003, x576004 => (aH.f x1000 x1001 x1002 (⟨#[117, 115, 101]⟩ : ByteArray)).bind fun bt584 => (if bt584.1 = true then ((eu.f k x1000 bt584.2.1 bt584.2.2).bind fun bt587 => (if x4.length < 5864062014805 then (aA.l0 F k (x4 ++ [bt587.1]) x1000 bt587.2.1 bt587.2.2 x576000 x576001 x576002 x576003 x576004) else (none))) else (aA.l1 F k x4 x1000 bt584.2.1 bt584.2.2 x576000 x576001 x576002 x576003 x576004))
def aA.l1 (F : Fam) : Nat → List (List (S40)) → List (S56) → Int → Bool → Int → Int → ByteArray → Int → ByteArray → Option ((List (S40)) × Int × Bool)
 | 0, _, _, _, _, _, _, _, _, _ => none
 | k + 1, x4, x1000, x1001, x1002, x576000, x576001, x576002, x576003, x576004 => (aH.f x1000 x1001 x1002 (⟨#[102, 110]⟩ : ByteArray)).bind fun bt595 => (if bt595.1 = true then ((bD.f x1000 bt595.2.1 bt595.2.2 1).bind fun bt598 => ((bg.f F k x1000 bt598.2.2.2.2.1 bt598.2.2.2.2.2 3 0 bt598.2.1 0 (⟨#[]⟩ : ByteArray)).bind fun bt604 => (if x4.length < 5864062014805 then (aA.l1 F k (x4 ++ [bt604.1]) x1000 bt604.2.1 bt604.2.2 x576000 x576001 x576002 x576003 x576004) else (none)))) else ((az.f k x576000 x576001 x576002 x576003 x576004 x4).bind fun t612 => (some (t612, bt595.2.1, bt595.2.2))))
end
def aA.f (F : Fam) (k : Nat) (s0_0 : List (S56)) (s0_1 : Int) (s0_2 : Bool) : Option ((List (S40)) × Int × Bool) := (aC.f s0_0 s0_1 s0_2 (⟨#[109, 111, 100, 117, 108, 101]⟩ : ByteArray)).bind fun bt567 => ((bD.f s0_0 bt567.1 bt567.2 1).bind fun bt569 => ((bD.f s0_0 bt569.2.2.2.2.1 bt569.2.2.2.2.2 2).bind fun bt576 => ((aC.f s0_0 bt576.2.2.2.2.1 bt576.2.2.2.2.2 (⟨#[59]⟩ : ByteArray)).bind fun bt582 => (aA.l0 F k ([] : List (List (S40))) s0_0 bt582.1 bt582.2 1 0 bt569.2.1 bt576.2.2.1 (⟨#[]⟩ : ByteArray)))))
theorem aA.cu {F F' : Fam} (HLE : jR F F') : ∀ k, (∀ y0 y1 y2 y3 y4 y5 y6 y7 y8, LeO (aA.l0 F k y0 y1 y2 y3 y4 y5 y6 y7 y8) (aA.l0 F' (k + 1) y0 y1 y2 y3 y4 y5 y6 y7 y8)) ∧ (∀ y0 y1 y2 y3 y4 y5 y6 y7 y8, LeO (aA.l1 F k y0 y1 y2 y3 y4 y5 y6 y7 y8) (aA.l1 F' (k + 1) y0 y1 y2 y3 y4 y5 y6 y7 y8))
 | 0 => ⟨fun _ _ _ _ _ _ _ _ _ r h => by simp [aA.l0] at h, fun _ _ _ _ _ _ _ _ _ r h => by simp [aA.l1] at h⟩
 | k + 1 => by
  obtain ⟨ih0, ih1⟩ := aA.cu HLE k
  refine ⟨?_, ?_⟩
  ·intro y0 y1 y2 y3 y4 y5 y6 y7 y8
   unfold aA.l0
   have m0 := az.mono
   have m1 := (bg.mono HLE)
   have m2 := eu.mono
   exact yL
  intro y0 y1 y2 y3 y4 y5 y6 y7 y8
  unfold aA.l1
  have m0 := az.mono
  have m1 := (bg.mono HLE)
  have m2 := eu.mono
  exact yL
theorem aA.mono {F F' : Fam} (HLE : jR F F') : ∀ a0 a1 a2 k, LeO (aA.f F k a0 a1 a2) (aA.f F' (k + 1) a0 a1 a2) := by
 intro a0 a1 a2 k
 obtain ⟨ih0, ih1⟩ := aA.cu HLE k
 unfold aA.f
 have m0 := az.mono
 have m1 := (bg.mono HLE)
 have m2 := eu.mono
 exact yL
end Go.Proofs.Ytlenihbmafkegaa.Q
end
section
set_option linter.unusedVariables false
set_option linter.unusedSimpArgs false
namespace Go.Proofs.Ytlenihbmafkegaa.Q
open Go Go.RowKit Go.Proofs.YtlenihbmafkegaaW.PrintWords Go.Proofs.YtlenihbmafkegaaW.PrintLast Go.Proofs.YtlenihbmafkegaaW.PrintMore
attribute [local go_sem] pM pK pJ pI
set_option maxHeartbeats 8000000 in
set_option maxRecDepth 100000 in
theorem ED (F : Fam) (HF : kD F) (k : Nat) (g : Nat) (s0 : List S56) (s1 : Int) (s2 : Bool) (r : List S40) (e1 : Int) (e2 : Bool) (w0 w : World) (hI : Rd 72 w0 w g s0 s1 s2) (hB : Below w0.heap.size w0 w) (h : aA.f F k s0 s1 s2 = some (r, e1, e2)) :
 Calls Try.prog 38 #[.pointer (some ⟨g, 0, none⟩)] w (Back 72 w0 w g s0 e1 e2 (IsL w r)) := by
 unfold aA.f at h
 have HS := St.new (T := 72) (by decide) hI hB
 have H := ae.mk h
 clear h hI hB
 go_enter Try.func38, Try.ntmps38
 go_wp2_with (first | ((with_reducible refine bI (N := 8) rfl ?_); (with_reducible refine gC 57 rfl ?_); refine sN 57 rfl Try.func57 (stT HS) H (fun t1 t2 t3 t4 q b hI hB => bD.calls g _ _ _ _ t1 t2 t3 t4 q b w0 _ hI hB) ?_; clear HS H; intro n1 nm n3 n4 q b w' HS H; (try dsimp only at H)) | ((with_reducible refine bI (N := 12) rfl ?_); (with_reducible refine gC 57 rfl ?_); refine sN 57 rfl Try.func57 (stX HS) H (fun t1 t2 t3 t4 q b hI hB => bD.calls g _ _ _ _ t1 t2 t3 t4 q b w0 _ hI hB) ?_; (try clear hx0 hx1 hx2 hx3 hx4 hf0 hf1 hf2 hf3 hf4); clear HS H; intro m1 m2 vn m4 q b w' HS H; (try dsimp only at H); (try (have hb_ := HS.box rfl; have hx0 := (ah hb_ 0).trans rfl; have hf0 := af hb_ 0; have hx1 := (ah hb_ 1).trans rfl; have hf1 := af hb_ 1; have hx2 := (ah hb_ 2).trans rfl; have hf2 := af hb_ 2; have hx3 := (ah hb_ 3).trans rfl; have hf3 := af hb_ 3; have hx4 := (ah hb_ 4).trans rfl; have hf4 := af hb_ 4; clear hb_))) | ((with_reducible refine bI (N := 3) rfl ?_); refine boxS (N := 3) (cs := #[.int .i64 0, .int .i64 0, .string (⟨#[]⟩ : ByteArray), .int .i64 0, .string (⟨#[]⟩ : ByteArray)]) (t := 40) (stT HS) (by first | (go_simp; done) | (go_simp; rfl)) ?_; clear HS; intro gb w' HS hne hge; have hnc := Ne.symm hne; (try (have hb_ := HS.box rfl; have hx0 := (ah hb_ 0).trans rfl; have hf0 := af hb_ 0; have hx1 := (ah hb_ 1).trans rfl; have hf1 := af hb_ 1; have hx2 := (ah hb_ 2).trans rfl; have hf2 := af hb_ 2; have hx3 := (ah hb_ 3).trans rfl; have hf3 := af hb_ 3; have hx4 := (ah hb_ 4).trans rfl; have hf4 := af hb_ 4; clear hb_))) | ((with_reducible refine gC 56 rfl ?_); refine sU 56 rfl Try.func56 (stX HS) H (fun q b hI hB => aC.calls g _ _ _ _ q b w0 _ hI hB) ?_; (try clear hx0 hx1 hx2 hx3 hx4 hf0 hf1 hf2 hf3 hf4); clear HS H; intro q b w' HS H; (try dsimp only at H)))
 (try simp only [Act.put, List.setIfInBounds_toArray, List.set_cons_zero, List.set_cons_succ])
 go_loopg [4] k (fun kq v3 w' => ∃ (x3 : List (List S40)) (p : Int) (d : Bool) (A : Option Addr) (c : Nat), v3 = .slice A x3.length c ∧ ae (aA.l0 F kq x3 s0 p d 1 0 nm vn (⟨#[]⟩ : ByteArray) = some (r, e1, e2)) ∧ ae (kq ≤ k) ∧ St 72 w0 w w' g s0 p d [] [(.slice A x3.length c, x3)] ⟨[(gb, .cells #[.int .i64 1, .int .i64 0, .string nm, .int .i64 vn, .string (⟨#[]⟩ : ByteArray)] 40 (0, 0))], []⟩)
 case atStart => exact ⟨[], _, _, none, 0, rfl, H, ⟨Nat.le_refl _⟩, HS.yE⟩
 case round =>
  clear HS H
  obtain ⟨x3, p, d, A, c, rfl, H, HK1, HS⟩ := hrel
  cases gk with
  | zero => exact absurd H.out (by simp [aA.l0])
  | succ k1 =>
   simp only [aA.l0] at H
   go_wp2_with (first | ((with_reducible refine gC 58 rfl ?_); refine sB 58 rfl Try.func58 (stT HS) H (fun t q b hI hB => aH.calls g _ _ _ _ t q b w0 _ hI hB) ?_; clear HS H; intro t q b w' HS H; (try dsimp only at H); cases t <;> (try simp only [if_true, if_false, eq_self, Bool.false_eq_true, Bool.not_true, Bool.not_false] at H)) | ((with_reducible refine gC 59 rfl ?_); refine sL 59 rfl Try.func59 (stT HS) H (fun t q b hI hB h => LJ _ g _ _ _ t q b w0 _ hI hB h) ?_; clear HS H; intro t q b w' A c HS H; (try dsimp only at H)) | ((with_reducible refine bI (N := 22) rfl ?_); refine oC (N := 22) (stT HS) (by first | (go_simp; done) | (go_simp; rfl)) ?_; clear HS; intro A c w' HS) | ((with_reducible refine dR (b := .append) (xs := #[.tmp 19, .tmp 22]) rfl ?_); at_builtin; refine zo (N := 23) (.tmp 19) (.tmp 22) rfl Try.underlying86 info22 (stT HS) rfl rfl H ?_; clear HS H; intro A c w' HS H; (try replace H := hB H); (try dsimp only at H)))
   all_goals first
    | (go_roundg k1; (case measure => have := HK1.out; omega); (case rel => exact ⟨_, _, _, _, _, by first | rfl | simp, H, ⟨by have := HK1.out; omega⟩, stT HS⟩))
    | skip
   (try simp only [Act.put, List.setIfInBounds_toArray, List.set_cons_zero, List.set_cons_succ])
   go_loopg [4] k1 (fun kq v3 w' => ∃ (x3 : List (List S40)) (p : Int) (d : Bool) (A : Option Addr) (c : Nat), v3 = .slice A x3.length c ∧ ae (aA.l1 F kq x3 s0 p d 1 0 nm vn (⟨#[]⟩ : ByteArray) = some (r, e1, e2)) ∧ ae (kq ≤ k1) ∧ St 72 w0 w w' g s0 p d [] [(.slice A x3.length c, x3)] ⟨[(gb, .cells #[.int .i64 1, .int .i64 0, .string nm, .int .i64 vn, .string (⟨#[]⟩ : ByteArray)] 40 (0, 0))], []⟩)
   case atStart => exact ⟨_, _, _, _, _, rfl, H, ⟨Nat.le_refl _⟩, stT HS⟩
   case round =>
    clear HS H
    obtain ⟨x3, p, d, A, c, rfl, H, HK2, HS⟩ := hrel
    cases gk with
    | zero => exact absurd H.out (by simp [aA.l1])
    | succ k2 =>
     simp only [aA.l1] at H
     go_wp2_with (first | ((with_reducible refine gC 58 rfl ?_); refine sB 58 rfl Try.func58 (stT HS) H (fun t q b hI hB => aH.calls g _ _ _ _ t q b w0 _ hI hB) ?_; clear HS H; intro t q b w' HS H; (try dsimp only at H); cases t <;> (try simp only [if_true, if_false, eq_self, Bool.false_eq_true, Bool.not_true, Bool.not_false] at H); (try (have hb_ := HS.box rfl; have hx0 := (ah hb_ 0).trans rfl; have hf0 := af hb_ 0; have hx1 := (ah hb_ 1).trans rfl; have hf1 := af hb_ 1; have hx2 := (ah hb_ 2).trans rfl; have hf2 := af hb_ 2; have hx3 := (ah hb_ 3).trans rfl; have hf3 := af hb_ 3; have hx4 := (ah hb_ 4).trans rfl; have hf4 := af hb_ 4; clear hb_))) | ((with_reducible refine gC 57 rfl ?_); refine sN 57 rfl Try.func57 (stT HS) H (fun t1 t2 t3 t4 q b hI hB => bD.calls g _ _ _ _ t1 t2 t3 t4 q b w0 _ hI hB) ?_; clear HS H; intro t1 t2 t3 t4 q b w' HS H; (try dsimp only at H)) | ((with_reducible refine gC 60 rfl ?_); refine sL 60 rfl Try.func60 (stT HS) H (fun t q b hI hB h => uG F HF _ g _ _ _ _ _ _ _ _ t q b w0 _ hI hB h) ?_; clear HS H; intro t q b w' A c HS H; (try dsimp only at H)) | ((with_reducible refine bI (N := 33) rfl ?_); refine oC (N := 33) (stT HS) (by first | (go_simp; done) | (go_simp; rfl)) ?_; clear HS; intro A c w' HS) | ((with_reducible refine dR (b := .append) (xs := #[.tmp 26, .tmp 33]) rfl ?_); at_builtin; refine zo (N := 34) (.tmp 26) (.tmp 33) rfl Try.underlying86 info22 (stT HS) rfl rfl H ?_; clear HS H; intro A c w' HS H; (try replace H := hB H); (try dsimp only at H)) | ((with_reducible refine gC 61 rfl ?_); refine sJ 61 rfl Try.func61 (stT HS) H (fun t hr hc => az.calls _ _ _ _ _ _ _ _ _ t _ hr hc) ?_; clear HS H; intro t w' A c HS H; (try dsimp only at H)))
     all_goals first
      | (go_roundg k2; (case measure => have := HK2.out; omega); (case rel => exact ⟨_, _, _, _, _, by first | rfl | simp, H, ⟨by have := HK2.out; omega⟩, stT HS⟩))
      | (have h_ := H.out; simp only [Option.some.injEq, Prod.mk.injEq] at h_; obtain ⟨rfl, rfl, rfl⟩ := h_; go_ret; exact (stT HS).lC (.head _))
theorem aA.calls (F : Fam) (HF : kD F) (k : Nat) (g : Nat) (s0 : List S56) (s1 : Int) (s2 : Bool) (r1 : List S40) (r2 : Int) (r3 : Bool) (w0 w : World) (hI : bf w0 w g s0 s1 s2) (hB : Below w0.heap.size w0 w) (h : aA.f F k s0 s1 s2 = some (r1, r2, r3)) : Calls Try.prog 38 #[.pointer (some ⟨g, 0, none⟩)] w fun e w' => ∃ v0_ : Value, e = .returned (v0_) ∧ Kd.R k40 40 w' w.heap.size (fun _ => True) v0_ r1 ∧ bf w0 w' g s0 r2 r3 ∧ Below w0.heap.size w0 w' ∧ aX w w' g none :=
 ofL (ED F HF k g s0 s1 s2 r1 r2 r3 w0 w hI hB h)
end Go.Proofs.Ytlenihbmafkegaa.Q
end
section
set_option linter.unusedVariables false
set_option linter.unusedSimpArgs false
namespace Go.Proofs.Ytlenihbmafkegaa.Q
open Go.RowKit Go.Proofs.YtlenihbmafkegaaW.PrintWords Go.Proofs.YtlenihbmafkegaaW.PrintLast Go.Proofs.YtlenihbmafkegaaW.PrintMore
def fam : Nat → Fam
 | 0 => ⟨fun _ _ _ => none, fun _ _ _ => none, fun _ _ _ _ => none, fun _ _ _ => none⟩
 | k + 1 => ⟨fun a b c => dJ.f (fam k) k a b c, fun a b c => aN.f (fam k) k a b c, fun a b c d => aJ.f (fam k) k a b c d, fun a b c => ax.f (fam k) k a b c⟩
theorem wR : ∀ k, kD (fam k)
 | 0 => ⟨fun _ _ _ _ _ _ _ _ _ _ _ h => (by simp [fam] at h), fun _ _ _ _ _ _ _ _ _ _ _ h => (by simp [fam] at h), fun _ _ _ _ _ _ _ _ _ _ _ _ h => (by simp [fam] at h), fun _ _ _ _ _ _ _ _ _ _ _ h => (by simp [fam] at h)⟩
 | k + 1 => ⟨fun g s0 s1 s2 r1 r2 r3 w0 w hI hB h => dJ.calls (fam k) (wR k) k g s0 s1 s2 r1 r2 r3 w0 w hI hB h,
  fun g s0 s1 s2 r1 r2 r3 w0 w hI hB h => aN.calls (fam k) (wR k) k g s0 s1 s2 r1 r2 r3 w0 w hI hB h,
  fun g s0 s1 s2 a1 r1 r2 r3 w0 w hI hB h => aJ.calls (fam k) (wR k) k g s0 s1 s2 a1 r1 r2 r3 w0 w hI hB h,
  fun g s0 s1 s2 r1 r2 r3 w0 w hI hB h => ax.calls (fam k) (wR k) k g s0 s1 s2 r1 r2 r3 w0 w hI hB h⟩
theorem wS : ∀ k, jR (fam k) (fam (k + 1))
 | 0 => ⟨fun _ _ _ => LeO.none _, fun _ _ _ => LeO.none _, fun _ _ _ _ => LeO.none _, fun _ _ _ => LeO.none _⟩
 | k + 1 => ⟨fun a b c => dJ.mono (wS k) a b c k, fun a b c => aN.mono (wS k) a b c k, fun a b c d => aJ.mono (wS k) a b c d k, fun a b c => ax.mono (wS k) a b c k⟩
end Go.Proofs.Ytlenihbmafkegaa.Q
end
section
namespace Go.Proofs.Ytlenihbmafkegaa.Q
open Go.RowKit Go.Proofs.YtlenihbmafkegaaW.PrintWords Go.Proofs.YtlenihbmafkegaaW.PrintLast Go.Proofs.YtlenihbmafkegaaW.PrintMore
attribute [local go_sem] jH jG jF jE dC dA dP dO cZ cO dB dw
set_option linter.unusedVariables false
set_option linter.unusedSimpArgs false
/-! ### eG: function 39 -/
def eG.f (s0_0 : List (S56)) (s0_1 : Int) (s0_2 : Bool) : Option (Int × Int × Bool) := if s0_1 < (s0_0.length : Int) then (if 0 ≤ s0_1 then (some ((dD s0_0 s0_1).f3, s0_1, s0_2)) else (none)) else (if (s0_0.length : Int) > 0 then (if 0 ≤ (wrap64 ((s0_0.length : Int) - 1)) then (if (wrap64 ((s0_0.length : Int) - 1)) < (s0_0.length : Int) then (some (wrap64 (((dD s0_0 (wrap64 ((s0_0.length : Int) - 1))).f3) + 1), s0_1, s0_2)) else (none)) else (none)) else (some (0, s0_1, s0_2)))
set_option maxHeartbeats 8000000 in
set_option maxRecDepth 100000 in
theorem eG.calls (g : Nat) (s0_0 : List (S56)) (s0_1 : Int) (s0_2 : Bool) (r1 : Int) (r2 : Int) (r3 : Bool) (w0 w : World) (hI : bf w0 w g s0_0 s0_1 s0_2) (hB : Below w0.heap.size w0 w) (h : eG.f s0_0 s0_1 s0_2 = some (r1, r2, r3)) :
 Calls Try.prog 39 #[.pointer (some ⟨g, 0, none⟩)] w fun e w' => e = .returned (.int .i64 r1) ∧ bf w0 w' g s0_0 r2 r3 ∧ Below w0.heap.size w0 w' ∧ aX w w' g none := by
 have HI0 := ae.mk hI
 have HK := ae.mk (aX.refl w g none)
 have HL := ae.mk hB.size
 clear hI
 have HW0 := ae.mk hB.size
 have HB := ae.mk hB
 clear hB
 have H := h
 clear h
 unfold eG.f at H
 revert H
 refine jU (fun c2b0 H => ?_) fun c2b0 H => ?_
 ·revert H
  refine gY (fun c3b0 H => ?_) fun c3 H => ?_
  ·simp only [Option.some.injEq, Prod.mk.injEq] at H
   obtain ⟨rfl, rfl, rfl⟩ := H
   obtain ⟨ASz4_0, cSz4_0, HGz4, hgz4, HSz4_0⟩ := HI0.out
   have hcz4_0 := jq HGz4
   have hcz4_1 := jo HGz4
   have hcz4_2 := jm HGz4
   have hfz4_1 := af HGz4 1
   have hfz4_2 := af HGz4 2
   clear HGz4 hgz4
   have p615 : 0 ≤ (s0_1 : Int) := of_decide_eq_true aT
   have q615 : s0_1 < (s0_0.length : Int) := of_decide_eq_true aT
   obtain ⟨ad615, e615, hx615_0, hx615_1, hx615_2, hx615_3⟩ := eU HSz4_0 s0_1 p615 q615
   cases e615
   replace hx615_0 := aV HB.out hx615_0
   replace hx615_1 := aV HB.out hx615_1
   replace hx615_2 := aV HB.out hx615_2
   replace hx615_3 := aV HB.out hx615_3
   replace p615 := eq_true p615
   replace q615 := eq_true q615
   go_enter Try.func39, Try.ntmps39
   go_wp2
   repeat (go_quiet (fail); try go_wp2)
   go_ret
   exact ⟨eT, iT HI0, bT HB, kT HK⟩
  exact absurd H (by simp)
 revert H
 refine gZ (fun c5 H => ?_) fun c5 H => ?_
 ·have c5b0 : decide (0 < (s0_0.length : Int)) = true := decide_eq_true c5
  have c5b1 : decide (0 < s0_0.length) = true := decide_eq_true (by omega)
  clear c5
  obtain ⟨ji6, hji6⟩ : ∃ j_ : Int, (wrap64 ((s0_0.length : Int) - 1)) = j_ := ⟨_, rfl⟩
  replace H : (if 0 ≤ (ji6) then (if (ji6) < (s0_0.length : Int) then (some (wrap64 (((dD s0_0 (ji6)).f3) + 1), s0_1, s0_2)) else (none)) else (none)) = some (r1, r2, r3) := by first | (rw [hji6] at H; exact H) | (simp only [hji6] at H ⊢; exact H)
  have hji6w : (IntKind.i64.wrap ((s0_0.length : Int) - 1)) = ji6 := (gB _).trans hji6
  revert H
  refine gY (fun c7b0 H => ?_) fun c7 H => ?_
  ·revert H
   refine gY (fun c8b0 H => ?_) fun c8 H => ?_
   ·simp only [Option.some.injEq, Prod.mk.injEq] at H
    obtain ⟨rfl, rfl, rfl⟩ := H
    obtain ⟨ASz9_0, cSz9_0, HGz9, hgz9, HSz9_0⟩ := HI0.out
    have hcz9_0 := jq HGz9
    have hcz9_1 := jo HGz9
    have hcz9_2 := jm HGz9
    have hfz9_1 := af HGz9 1
    have hfz9_2 := af HGz9 2
    clear HGz9 hgz9
    have p616 : 0 ≤ ((ji6) : Int) := of_decide_eq_true aT
    have q616 : (ji6) < (s0_0.length : Int) := of_decide_eq_true aT
    obtain ⟨ad616, e616, hx616_0, hx616_1, hx616_2, hx616_3⟩ := eU HSz9_0 (ji6) p616 q616
    cases e616
    replace hx616_0 := aV HB.out hx616_0
    replace hx616_1 := aV HB.out hx616_1
    replace hx616_2 := aV HB.out hx616_2
    replace hx616_3 := aV HB.out hx616_3
    replace p616 := eq_true p616
    replace q616 := eq_true q616
    go_enter Try.func39, Try.ntmps39
    go_wp2
    repeat (go_quiet (fail); try go_wp2)
    go_ret
    exact ⟨by first | rfl | (simp [jl, jk] <;> rfl) | (simp only [← hji6]; first | rfl | (simp [jl, jk] <;> rfl)) | (simp [*, jl, jk] <;> rfl), iT HI0, bT HB, kT HK⟩
   exact absurd H (by simp)
  exact absurd H (by simp)
 have c5b0 : decide (0 < (s0_0.length : Int)) = false := decide_eq_false c5
 have c5b1 : decide (0 < s0_0.length) = false := decide_eq_false (by omega)
 clear c5
 simp only [Option.some.injEq, Prod.mk.injEq] at H
 obtain ⟨rfl, rfl, rfl⟩ := H
 obtain ⟨ASz10_0, cSz10_0, HGz10, hgz10, HSz10_0⟩ := HI0.out
 have hcz10_0 := jq HGz10
 have hcz10_1 := jo HGz10
 have hcz10_2 := jm HGz10
 have hfz10_1 := af HGz10 1
 have hfz10_2 := af HGz10 2
 clear HGz10 hgz10
 go_enter Try.func39, Try.ntmps39
 go_wp2
 repeat (go_quiet (fail); try go_wp2)
 go_ret
 exact ⟨eT, iT HI0, bT HB, kT HK⟩
end Go.Proofs.Ytlenihbmafkegaa.Q
end
section
set_option linter.unusedVariables false
set_option linter.unusedSimpArgs false
namespace Go.Proofs.Ytlenihbmafkegaa.Q
open Go.RowKit Go.Proofs.YtlenihbmafkegaaW.PrintWords Go.Proofs.YtlenihbmafkegaaW.PrintLast Go.Proofs.YtlenihbmafkegaaW.PrintMore
def iD.f (k : Nat) (l0 : List S56) : Option (List S40 × Int × Int) :=
 (aA.f (fam k) k l0 0 false).bind fun t => if t.2.2 = true then ((eG.f l0 t.2.1 t.2.2).bind fun p => some (([] : List S40), 10, p.1))
  else if t.2.1 < (l0.length : Int) then ((eG.f l0 t.2.1 t.2.2).bind fun p => some (([] : List S40), 10, p.1))
  else (aW.f k t.1).bind fun c => if c.1 = 0 then some (t.1, 0, 0) else some (([] : List S40), c.1, 0)
theorem iD.mono (a0 : List S56) (k : Nat) : LeO (iD.f k a0) (iD.f (k + 1) a0) := by
 unfold iD.f
 repeat' first
 | exact aA.mono (wS k) _ _ _ k
 | exact aW.mono _ k
 | exact LeO.refl _
 | exact LeO.none _
 | refine LeO.ite ?_ ?_
 | refine LeO.bind ?_ (fun _ => ?_)
set_option maxHeartbeats 8000000 in
set_option maxRecDepth 100000 in
theorem iD.calls (k : Nat) (A0 : Option Addr) (c0 : Nat) (l0 : List S56) (r1 : List S40) (r2 : Int) (r3 : Int) (w : World) (hr0 : Kd.C k56 w A0 l0.length l0) (hc0 : l0.length ≤ c0) (h : iD.f k l0 = some (r1, r2, r3)) :
 Calls Try.prog 21 #[.slice A0 l0.length c0] w fun e w' => ∃ v0_ : Value, e = .returned (.tuple #[v0_, .int .i64 r2, .int .i64 r3]) ∧ Kd.R k40 40 w' w.heap.size (fun _ => True) v0_ r1 ∧ Below w.heap.size w w' := by
 have HR0 := ae.mk hr0
 have HB := ae.mk (Below.refl w.heap.size w)
 clear hr0 hc0
 unfold iD.f at h
 obtain ⟨⟨t, u, b⟩, hm, h⟩ := Option.bind_eq_some_iff.mp h
 have AM := ae.mk hm
 have HQ := ae.mk h
 clear hm h
 have hu72 := Try.underlying72
 go_enter Try.func21, Try.ntmps21
 go_upto_region 3 with (first
  | ((with_reducible refine bI (N := 11) rfl ?_); refine dW ?hg (N := 11) ?hd (cs := #[.slice A0 l0.length c0, .int .i64 0, .bool false]) (t := 72) ?hr ?_; (case hd => rfl); (case hg => rfl); (case hr => first | (go_simp; done) | (go_simp; rfl)); intro g hg w1 hbox hb; have HI1 := ae.mk (show bf w w1 g l0 0 false from ⟨A0, c0, hbox, by rw [hg]; exact Nat.le_refl _, HR0.out⟩); have HB1 := ae.mk hb; clear hbox hb hg)
  | ((with_reducible refine lY (f := 38) rfl ?_); refine jM (some 13) rfl rfl Try.func38 (by kernel_rfl) rfl #[.pointer (some ⟨g, 0, none⟩)] rfl Z6 ?_; (with_reducible refine (aA.calls (fam k) (wR k) k g l0 0 false t u b w _ ?side1 ?side2 AM.out).mono ?_); (case side1 => exact HI1.out); (case side2 => exact HB1.out); rintro e w2 ⟨v, rfl, ho, hi, hb, hk⟩; refine ⟨_, rfl, ?_⟩; have HO := ae.mk (Kd.dm ho HB1.out.size); have HI2 := ae.mk hi; have HB2 := ae.mk hb; clear ho hi hb hk))
 obtain ⟨ASz, cSz, HGz, hgz, HSz⟩ := HI2.out
 have hcz0 := jq HGz
 have hcz1 := jo HGz
 have hcz2 := jm HGz
 clear HGz hgz HSz
 have h := HQ.out
 clear HQ
 dsimp only at h
 by_cases c1 : b = true
 ·rw [if_pos c1] at h
  subst c1
  obtain ⟨⟨p1, p2, p3⟩, hp, h⟩ := Option.bind_eq_some_iff.mp h
  have AP := ae.mk hp
  clear hp
  cases h
  go_wp2_with (first | ((with_reducible refine lY (f := 39) rfl ?_); refine jM (some 28) rfl rfl Try.func39 (by kernel_rfl) rfl #[.pointer (some ⟨g, 0, none⟩)] rfl Z6 ?_; (with_reducible refine (eG.calls g l0 u true p1 p2 p3 w _ ?side1 ?side2 AP.out).mono ?_); (case side1 => exact HI2.out); (case side2 => exact HB2.out); rintro e w3 ⟨rfl, hi, hb, hk⟩; refine ⟨_, rfl, ?_⟩; have HB3 := ae.mk hb; clear hi hb hk))
  go_ret3
  exact ⟨_, rfl, Kd.pR _ _ _ _ _, HB3.out⟩
 rw [if_neg c1] at h
 replace c1 := Bool.eq_false_iff.mpr c1
 subst c1
 by_cases c2 : u < (l0.length : Int)
 ·rw [if_pos c2] at h
  have c2b : decide (u < (l0.length : Int)) = true := decide_eq_true c2
  clear c2
  obtain ⟨⟨p1, p2, p3⟩, hp, h⟩ := Option.bind_eq_some_iff.mp h
  have AP := ae.mk hp
  clear hp
  cases h
  go_wp2_with (first | ((with_reducible refine lY (f := 39) rfl ?_); refine jM (some 28) rfl rfl Try.func39 (by kernel_rfl) rfl #[.pointer (some ⟨g, 0, none⟩)] rfl Z6 ?_; (with_reducible refine (eG.calls g l0 u false p1 p2 p3 w _ ?side1 ?side2 AP.out).mono ?_); (case side1 => exact HI2.out); (case side2 => exact HB2.out); rintro e w3 ⟨rfl, hi, hb, hk⟩; refine ⟨_, rfl, ?_⟩; have HB3 := ae.mk hb; clear hi hb hk))
  go_ret3
  exact ⟨_, rfl, Kd.pR _ _ _ _ _, HB3.out⟩
 rw [if_neg c2] at h
 have c2b : decide (u < (l0.length : Int)) = false := decide_eq_false c2
 clear c2
 obtain ⟨⟨p1, p2⟩, hp, h⟩ := Option.bind_eq_some_iff.mp h
 have AP := ae.mk hp
 clear hp
 obtain ⟨Ao, co, eo⟩ := Kd.bY HO.out
 subst eo
 dsimp only at h
 have HC := ae.mk (Kd.aI HO.out).2.2
 have HL := ae.mk (Kd.aI HO.out).2.1
 by_cases c3 : p1 = 0
 ·rw [if_pos c3] at h
  have c3b0 : (p1 == 0) = true := beq_iff_eq.mpr c3
  have c3b1 : (p1 != 0) = false := bne_eq_false_iff_eq.mpr c3
  clear c3
  simp only [Option.some.injEq, Prod.mk.injEq] at h
  obtain ⟨h1, h2, h3⟩ := h
  subst h1
  subst h2
  subst h3
  go_wp2_with (first | ((with_reducible refine lY (f := 8) rfl ?_); refine jM (some 31) rfl rfl Try.func8 (by kernel_rfl) rfl #[.slice Ao t.length co] rfl Z6 ?_; (with_reducible refine (aW.calls k _ _ t p1 p2 _ ?side1 ?side2 AP.out).mono ?_); (case side1 => exact HC.out); (case side2 => exact HL.out); rintro e w3 ⟨rfl, hb⟩; refine ⟨_, rfl, ?_⟩; have HB3 := ae.mk (aj HB2.out hb); have HO3 := ae.mk (Kd.aQ HO.out hb); clear hb))
  go_ret3
  exact ⟨_, rfl, HO3.out, HB3.out⟩
 rw [if_neg c3] at h
 have c3b0 : (p1 == 0) = false := beq_eq_false_iff_ne.mpr c3
 have c3b1 : (p1 != 0) = true := bne_iff_ne.mpr c3
 clear c3
 simp only [Option.some.injEq, Prod.mk.injEq] at h
 obtain ⟨h1, h2, h3⟩ := h
 subst h1
 subst h2
 subst h3
 go_wp2_with (first | ((with_reducible refine lY (f := 8) rfl ?_); refine jM (some 31) rfl rfl Try.func8 (by kernel_rfl) rfl #[.slice Ao t.length co] rfl Z6 ?_; (with_reducible refine (aW.calls k _ _ t p1 p2 _ ?side1 ?side2 AP.out).mono ?_); (case side1 => exact HC.out); (case side2 => exact HL.out); rintro e w3 ⟨rfl, hb⟩; refine ⟨_, rfl, ?_⟩; have HB3 := ae.mk (aj HB2.out hb); have HO3 := ae.mk (Kd.aQ HO.out hb); clear hb))
 go_ret3
 exact ⟨_, rfl, Kd.pR _ _ _ _ _, HB3.out⟩
end Go.Proofs.Ytlenihbmafkegaa.Q
end
section
namespace Go.Proofs.Ytlenihbmafkegaa.Q
open Go.RowKit Go.Proofs.YtlenihbmafkegaaW.PrintWords Go.Proofs.YtlenihbmafkegaaW.PrintLast Go.Proofs.YtlenihbmafkegaaW.PrintMore
attribute [local go_sem] dC dA dP dO cZ cO dB dw
set_option linter.unusedVariables false
set_option linter.unusedSimpArgs false
/-! ### bV: function 9 -/
def bV.f (k : Nat) (a0 : ByteArray) : Option ((List (S40)) × Int × Int) := (dI.f k a0).bind fun bt830 => (if bt830.2.1 = 0 then ((iD.f k bt830.1).bind fun bt835 => (some (bt835.1, bt835.2.1, bt835.2.2))) else (some (([] : List (S40)), bt830.2.1, bt830.2.2)))
theorem bV.mono : ∀ a0 k, LeO (bV.f k a0) (bV.f (k + 1) a0) := by
 intro a0 k
 unfold bV.f
 have m0 := dI.mono
 have m1 := iD.mono
 exact yL
set_option maxHeartbeats 8000000 in
set_option maxRecDepth 100000 in
theorem bV.calls (k : Nat) (a0 : ByteArray) (r1 : List (S40)) (r2 : Int) (r3 : Int) (w : World) (h : bV.f k a0 = some (r1, r2, r3)) :
 Calls Try.prog 9 #[.string a0] w fun e w' => ∃ v0_ : Value, e = .returned (.tuple #[v0_, .int .i64 r2, .int .i64 r3]) ∧ Kd.R k40 40 w' w.heap.size (fun _ => True) v0_ r1 ∧ Below w.heap.size w w' := by
 have HB := ae.mk (Below.refl w.heap.size w)
 have H := h
 clear h
 unfold bV.f at H
 revert H
 refine yB3 fun t830 t831 t832 A2 H => ?_
 try dsimp only at H
 revert H
 refine bn (fun c3b0 c3b1 H => ?_) fun c3 c3b0 c3b1 H => ?_
 ·revert H
  refine yB3 fun t835 t836 t837 A4 H => ?_
  try dsimp only at H
  simp only [Option.some.injEq, Prod.mk.injEq] at H
  obtain ⟨rfl, rfl, rfl⟩ := H
  go_enter Try.func9, Try.ntmps9
  go_wp2_with (first | ((with_reducible refine gC 12 rfl ?_); refine gM 12 10 rfl Try.func12 (dI.calls k a0 t830 t831 t832 _ A2.out) ?_; rintro _ w5 ⟨v833, rfl, ho0, hb⟩; refine ⟨_, rfl, yA2 (Kd.dm ho0 (aG (bT HB))) (aj (bT HB) hb) ?_⟩; clear HB hb ho0; intro HO834 HB; obtain ⟨Ao6, co6, rfl⟩ := Kd.bY HO834.out) | ((with_reducible refine gC 21 rfl ?_); refine gM 21 19 rfl Try.func21 (iD.calls k _ _ t830 t835 t836 t837 _ (by repeat (first | exact (Kd.aI HO834.out).2.2 | (with_reducible refine Kd.fZ ?_ _) | (with_reducible refine Kd.fV ?_ _) | (with_reducible refine Kd.iq ?_))) ((Kd.aI HO834.out).2.1) A4.out) ?_; rintro _ w7 ⟨v838, rfl, ho0, hb⟩; refine ⟨_, rfl, yA3 (Kd.aQ (qR HO834) hb) (Kd.dm ho0 (aG (bT HB))) (aj (bT HB) hb) ?_⟩; clear HO834 HB hb ho0; intro HO834 HO839 HB))
  go_ret3
  exact ⟨_, eT, qR HO839, bT HB⟩
 simp only [Option.some.injEq, Prod.mk.injEq] at H
 obtain ⟨rfl, rfl, rfl⟩ := H
 go_enter Try.func9, Try.ntmps9
 go_wp2_with (first | ((with_reducible refine gC 12 rfl ?_); refine gM 12 10 rfl Try.func12 (dI.calls k a0 t830 t831 t832 _ A2.out) ?_; rintro _ w8 ⟨v833, rfl, ho0, hb⟩; refine ⟨_, rfl, yA2 (Kd.dm ho0 (aG (bT HB))) (aj (bT HB) hb) ?_⟩; clear HB hb ho0; intro HO834 HB))
 go_ret3
 exact ⟨_, eT, Z5, bT HB⟩
-- BY HAND: function 14 (show_Expr)
/-! ### bJ: function 6 -/
def bJ.f (k : Nat)  : Option (Bool) := (bV.f k (⟨#[109, 111, 100, 117, 108, 101, 32, 109, 32, 49, 59, 32, 102, 110, 32, 102, 40, 97, 41, 32, 123, 32, 114, 101, 116, 117, 114, 110, 32, 97, 32, 43, 32, 49, 32, 42, 32, 50, 59, 32, 125]⟩ : ByteArray)).bind fun bt840 => ((bZ.f k bt840.1).bind fun bt845 => ((bZ.f k ([] : List (S40))).bind fun bt848 => (if bt840.2.1 = 0 then (if bt845.1.toList = ([109, 111, 100, 117, 108, 101, 32, 109, 32, 49, 32, 59, 32, 102, 110, 32, 102, 32, 40, 32, 97, 32, 41, 32, 123, 32, 114, 101, 116, 117, 114, 110, 32, 40, 32, 97, 32, 43, 32, 40, 32, 49, 32, 42, 32, 50, 32, 41, 32, 41, 32, 59, 32, 125] : List UInt8) then (if bt845.2.1 = 0 then (if bt848.2.1 = 2 then ((kM.f k (([(⟨19, 0, (⟨#[]⟩ : ByteArray), 5, (⟨#[]⟩ : ByteArray)⟩ : S40)] : List (S40)))).bind fun t854 => (if t854.toList = ([53] : List UInt8) then ((kM.f k ([] : List (S40))).bind fun t855 => (some (t855.toList == ([] : List UInt8)))) else (some false))) else (some false)) else (some false)) else (some false)) else (some false))))
theorem bJ.mono : ∀ k, LeO (bJ.f k ) (bJ.f (k + 1) ) := by
 intro  k
 unfold bJ.f
 have m0 := bV.mono
 have m1 := kM.mono
 have m2 := bZ.mono
 exact yL
set_option maxHeartbeats 8000000 in
set_option maxRecDepth 100000 in
theorem bJ.calls (k : Nat)  (r : Bool) (w : World) (h : bJ.f k  = some r) :
 Calls Try.prog 6 #[] w fun e w' => e = .returned (.bool r) ∧ Below w.heap.size w w' := by
 have hu40 := Try.underlying40
 have HB := ae.mk (Below.refl w.heap.size w)
 have H := h
 clear h
 unfold bJ.f at H
 revert H
 refine yB3 fun t840 t841 t842 A1 H => ?_
 try dsimp only at H
 revert H
 refine yB3 fun t845 t846 t847 A2 H => ?_
 try dsimp only at H
 revert H
 refine yB3 fun t848 t849 t850 A3 H => ?_
 try dsimp only at H
 revert H
 refine bn (fun c4b0 c4b1 H => ?_) fun c4 c4b0 c4b1 H => ?_
 ·revert H
  refine bn (fun c5b0 c5b1 H => ?_) fun c5 c5b0 c5b1 H => ?_
  ·revert H
   refine bn (fun c6b0 c6b1 H => ?_) fun c6 c6b0 c6b1 H => ?_
   ·revert H
    refine bn (fun c7b0 c7b1 H => ?_) fun c7 c7b0 c7b1 H => ?_
    ·obtain ⟨y851, hy851⟩ : ∃ y_ : List (S40), y_ = (([(⟨19, 0, (⟨#[]⟩ : ByteArray), 5, (⟨#[]⟩ : ByteArray)⟩ : S40)] : List (S40))) := ⟨_, rfl⟩
     replace H : ((kM.f k y851).bind fun t854 => (if t854.toList = ([53] : List UInt8) then ((kM.f k ([] : List (S40))).bind fun t855 => (some (t855.toList == ([] : List UInt8)))) else (some false))) = some r := by first | (rw [hy851]; with_reducible exact H) | (have H2_ := (Option.bind_some _ _).symm.trans H; rw [hy851]; with_reducible exact H2_) | (have H2_ := (Option.bind_some _ _).symm.trans H; with_reducible exact H2_) | with_reducible exact H | (rw [hy851]; exact H) | exact H
     have Ny851 := ae.mk hy851
     clear hy851
     revert H
     refine yB1 fun t854 A8 H => ?_
     revert H
     refine bn (fun c9b0 c9b1 H => ?_) fun c9 c9b0 c9b1 H => ?_
     ·revert H
      refine yB1 fun t855 A10 H => ?_
      obtain rfl := Option.some.inj H
      go_enter Try.func6, Try.ntmps6
      go_wp2_with (first | ((with_reducible refine gC 9 rfl ?_); refine gM 9 11 rfl Try.func9 (bV.calls k (⟨#[109, 111, 100, 117, 108, 101, 32, 109, 32, 49, 59, 32, 102, 110, 32, 102, 40, 97, 41, 32, 123, 32, 114, 101, 116, 117, 114, 110, 32, 97, 32, 43, 32, 49, 32, 42, 32, 50, 59, 32, 125]⟩ : ByteArray) t840 t841 t842 _ A1.out) ?_; rintro _ w11 ⟨v843, rfl, ho0, hb⟩; refine ⟨_, rfl, yA2 (Kd.dm ho0 (aG (bT HB))) (aj (bT HB) hb) ?_⟩; clear HB hb ho0; intro HO844 HB; obtain ⟨Ao12, co12, rfl⟩ := Kd.bY HO844.out) | ((with_reducible refine gC 7 rfl ?_); refine gM 7 17 rfl Try.func7 (bZ.calls k _ _ t840 t845 t846 t847 _ Z9 ((Kd.aI HO844.out).2.1) A2.out) ?_; rintro _ w13 ⟨rfl, hb⟩; refine ⟨_, rfl, yA2 (Kd.aQ (qR HO844) hb) (aj (bT HB) hb) ?_⟩; clear HO844 HB hb; intro HO844 HB) | ((with_reducible refine gC 7 rfl ?_); refine gM 7 22 rfl Try.func7 (bZ.calls k _ _ ([] : List (S40)) t848 t849 t850 _ (Kd.uh _ _) (Nat.le_refl _) A3.out) ?_; rintro _ w14 ⟨rfl, hb⟩; refine ⟨_, rfl, yA2 (Kd.aQ (qR HO844) hb) (aj (bT HB) hb) ?_⟩; clear HO844 HB hb; intro HO844 HB) | ((with_reducible refine bI (N := 42) rfl ?_); (try (refine oZ (by rfl) ?_; dsimp only)); refine Kd.uN k40 _ 40 ?hg (N := 42) ?hd (xs := ([(⟨19, 0, (⟨#[]⟩ : ByteArray), 5, (⟨#[]⟩ : ByteArray)⟩ : S40)] : List (S40))) (inner := [.int .i64 19, .int .i64 0, .string (⟨#[]⟩ : ByteArray), .int .i64 5, .string (⟨#[]⟩ : ByteArray)]) (ok := fun _ => True) (okp := fun _ => True) ?hr ?hp (fun _ hk => hk) trivial (Below.refl _ _) (Nat.le_refl _) (by simp) ?_; (case hd => rfl); (case hg => rfl); (case hr => first | (go_simp; done) | (go_simp; rfl)); (case hp => exact (dV.c5 (show Kd.M k40 _ _ _ (⟨19, 0, (⟨#[]⟩ : ByteArray), 5, (⟨#[]⟩ : ByteArray)⟩ : S40) [.int .i64 19, .int .i64 0, .string (⟨#[]⟩ : ByteArray), .int .i64 5, .string (⟨#[]⟩ : ByteArray)] from (tu _ _ _ (⟨19, 0, (⟨#[]⟩ : ByteArray), 5, (⟨#[]⟩ : ByteArray)⟩ : S40) )) (dV.none _ _))); intro v852 w15 ho16 hb hg_ hnew_; clear hg_ hnew_; (first | rw [← Ny851.out] at ho16 | (simp only [Int.reduceToNat] at ho16; rw [← Ny851.out] at ho16)); refine yA3 (Kd.fJ (qR HO844) (Kd.iK ho16) hb) (Kd.dm (Kd.iJ ho16 (Kd.lu (qR HO844))) (aG (bT HB))) (aj (bT HB) hb) ?_; clear HO844 HB; intro HO844 HO853 HB; clear hb ho16; obtain ⟨Ao17, co17, rfl⟩ := Kd.bY HO853.out) | (go_at_call 14; (with_reducible refine (kM.calls k _ _ y851 t854 _ ?side1 ?side2 A8.out).mono ?_); (case side1 => repeat (first | exact (Kd.aI HO853.out).2.2 | (with_reducible refine Kd.fZ ?_ _) | (with_reducible refine Kd.fV ?_ _) | (with_reducible refine Kd.iq ?_))); (case side2 => exact (Kd.aI HO853.out).2.1); rintro e w18 ⟨rfl, hb⟩; refine yA3 (Kd.aQ (qR HO844) hb) (Kd.aQ (qR HO853) hb) (aj (bT HB) hb) ?_; clear HO844 HO853 HB; intro HO844 HO853 HB; (try clear hb)) | (go_at_call 14; (refine (kM.calls k _ _ ([] : List (S40)) t855 _ ?side1 ?side2 A10.out).mono ?_); (case side1 => exact Kd.uh _ _); (case side2 => exact Nat.le_refl _); rintro e w19 ⟨rfl, hb⟩; refine yA3 (Kd.aQ (qR HO844) hb) (Kd.aQ (qR HO853) hb) (aj (bT HB) hb) ?_; clear HO844 HO853 HB; intro HO844 HO853 HB; (try clear hb)))
      go_ret
      exact ⟨eT, bT HB⟩
     obtain rfl := Option.some.inj H
     go_enter Try.func6, Try.ntmps6
     go_wp2_with (first | ((with_reducible refine gC 9 rfl ?_); refine gM 9 11 rfl Try.func9 (bV.calls k (⟨#[109, 111, 100, 117, 108, 101, 32, 109, 32, 49, 59, 32, 102, 110, 32, 102, 40, 97, 41, 32, 123, 32, 114, 101, 116, 117, 114, 110, 32, 97, 32, 43, 32, 49, 32, 42, 32, 50, 59, 32, 125]⟩ : ByteArray) t840 t841 t842 _ A1.out) ?_; rintro _ w20 ⟨v843, rfl, ho0, hb⟩; refine ⟨_, rfl, yA2 (Kd.dm ho0 (aG (bT HB))) (aj (bT HB) hb) ?_⟩; clear HB hb ho0; intro HO844 HB; obtain ⟨Ao21, co21, rfl⟩ := Kd.bY HO844.out) | ((with_reducible refine gC 7 rfl ?_); refine gM 7 17 rfl Try.func7 (bZ.calls k _ _ t840 t845 t846 t847 _ Z9 ((Kd.aI HO844.out).2.1) A2.out) ?_; rintro _ w22 ⟨rfl, hb⟩; refine ⟨_, rfl, yA2 (Kd.aQ (qR HO844) hb) (aj (bT HB) hb) ?_⟩; clear HO844 HB hb; intro HO844 HB) | ((with_reducible refine gC 7 rfl ?_); refine gM 7 22 rfl Try.func7 (bZ.calls k _ _ ([] : List (S40)) t848 t849 t850 _ (Kd.uh _ _) (Nat.le_refl _) A3.out) ?_; rintro _ w23 ⟨rfl, hb⟩; refine ⟨_, rfl, yA2 (Kd.aQ (qR HO844) hb) (aj (bT HB) hb) ?_⟩; clear HO844 HB hb; intro HO844 HB) | ((with_reducible refine bI (N := 42) rfl ?_); (try (refine oZ (by rfl) ?_; dsimp only)); refine Kd.uN k40 _ 40 ?hg (N := 42) ?hd (xs := ([(⟨19, 0, (⟨#[]⟩ : ByteArray), 5, (⟨#[]⟩ : ByteArray)⟩ : S40)] : List (S40))) (inner := [.int .i64 19, .int .i64 0, .string (⟨#[]⟩ : ByteArray), .int .i64 5, .string (⟨#[]⟩ : ByteArray)]) (ok := fun _ => True) (okp := fun _ => True) ?hr ?hp (fun _ hk => hk) trivial (Below.refl _ _) (Nat.le_refl _) (by simp) ?_; (case hd => rfl); (case hg => rfl); (case hr => first | (go_simp; done) | (go_simp; rfl)); (case hp => exact (dV.c5 (show Kd.M k40 _ _ _ (⟨19, 0, (⟨#[]⟩ : ByteArray), 5, (⟨#[]⟩ : ByteArray)⟩ : S40) [.int .i64 19, .int .i64 0, .string (⟨#[]⟩ : ByteArray), .int .i64 5, .string (⟨#[]⟩ : ByteArray)] from (tu _ _ _ (⟨19, 0, (⟨#[]⟩ : ByteArray), 5, (⟨#[]⟩ : ByteArray)⟩ : S40) )) (dV.none _ _))); intro v852 w24 ho25 hb hg_ hnew_; clear hg_ hnew_; (first | rw [← Ny851.out] at ho25 | (simp only [Int.reduceToNat] at ho25; rw [← Ny851.out] at ho25)); refine yA3 (Kd.fJ (qR HO844) (Kd.iK ho25) hb) (Kd.dm (Kd.iJ ho25 (Kd.lu (qR HO844))) (aG (bT HB))) (aj (bT HB) hb) ?_; clear HO844 HB; intro HO844 HO853 HB; clear hb ho25; obtain ⟨Ao26, co26, rfl⟩ := Kd.bY HO853.out) | (go_at_call 14; (with_reducible refine (kM.calls k _ _ y851 t854 _ ?side1 ?side2 A8.out).mono ?_); (case side1 => repeat (first | exact (Kd.aI HO853.out).2.2 | (with_reducible refine Kd.fZ ?_ _) | (with_reducible refine Kd.fV ?_ _) | (with_reducible refine Kd.iq ?_))); (case side2 => exact (Kd.aI HO853.out).2.1); rintro e w27 ⟨rfl, hb⟩; refine yA3 (Kd.aQ (qR HO844) hb) (Kd.aQ (qR HO853) hb) (aj (bT HB) hb) ?_; clear HO844 HO853 HB; intro HO844 HO853 HB; (try clear hb)))
     go_ret
     exact ⟨eT, bT HB⟩
    obtain rfl := Option.some.inj H
    go_enter Try.func6, Try.ntmps6
    go_wp2_with (first | ((with_reducible refine gC 9 rfl ?_); refine gM 9 11 rfl Try.func9 (bV.calls k (⟨#[109, 111, 100, 117, 108, 101, 32, 109, 32, 49, 59, 32, 102, 110, 32, 102, 40, 97, 41, 32, 123, 32, 114, 101, 116, 117, 114, 110, 32, 97, 32, 43, 32, 49, 32, 42, 32, 50, 59, 32, 125]⟩ : ByteArray) t840 t841 t842 _ A1.out) ?_; rintro _ w28 ⟨v843, rfl, ho0, hb⟩; refine ⟨_, rfl, yA2 (Kd.dm ho0 (aG (bT HB))) (aj (bT HB) hb) ?_⟩; clear HB hb ho0; intro HO844 HB; obtain ⟨Ao29, co29, rfl⟩ := Kd.bY HO844.out) | ((with_reducible refine gC 7 rfl ?_); refine gM 7 17 rfl Try.func7 (bZ.calls k _ _ t840 t845 t846 t847 _ Z9 ((Kd.aI HO844.out).2.1) A2.out) ?_; rintro _ w30 ⟨rfl, hb⟩; refine ⟨_, rfl, yA2 (Kd.aQ (qR HO844) hb) (aj (bT HB) hb) ?_⟩; clear HO844 HB hb; intro HO844 HB) | ((with_reducible refine gC 7 rfl ?_); refine gM 7 22 rfl Try.func7 (bZ.calls k _ _ ([] : List (S40)) t848 t849 t850 _ (Kd.uh _ _) (Nat.le_refl _) A3.out) ?_; rintro _ w31 ⟨rfl, hb⟩; refine ⟨_, rfl, yA2 (Kd.aQ (qR HO844) hb) (aj (bT HB) hb) ?_⟩; clear HO844 HB hb; intro HO844 HB))
    go_ret
    exact ⟨eT, bT HB⟩
   obtain rfl := Option.some.inj H
   go_enter Try.func6, Try.ntmps6
   go_wp2_with (first | ((with_reducible refine gC 9 rfl ?_); refine gM 9 11 rfl Try.func9 (bV.calls k (⟨#[109, 111, 100, 117, 108, 101, 32, 109, 32, 49, 59, 32, 102, 110, 32, 102, 40, 97, 41, 32, 123, 32, 114, 101, 116, 117, 114, 110, 32, 97, 32, 43, 32, 49, 32, 42, 32, 50, 59, 32, 125]⟩ : ByteArray) t840 t841 t842 _ A1.out) ?_; rintro _ w32 ⟨v843, rfl, ho0, hb⟩; refine ⟨_, rfl, yA2 (Kd.dm ho0 (aG (bT HB))) (aj (bT HB) hb) ?_⟩; clear HB hb ho0; intro HO844 HB; obtain ⟨Ao33, co33, rfl⟩ := Kd.bY HO844.out) | ((with_reducible refine gC 7 rfl ?_); refine gM 7 17 rfl Try.func7 (bZ.calls k _ _ t840 t845 t846 t847 _ Z9 ((Kd.aI HO844.out).2.1) A2.out) ?_; rintro _ w34 ⟨rfl, hb⟩; refine ⟨_, rfl, yA2 (Kd.aQ (qR HO844) hb) (aj (bT HB) hb) ?_⟩; clear HO844 HB hb; intro HO844 HB) | ((with_reducible refine gC 7 rfl ?_); refine gM 7 22 rfl Try.func7 (bZ.calls k _ _ ([] : List (S40)) t848 t849 t850 _ (Kd.uh _ _) (Nat.le_refl _) A3.out) ?_; rintro _ w35 ⟨rfl, hb⟩; refine ⟨_, rfl, yA2 (Kd.aQ (qR HO844) hb) (aj (bT HB) hb) ?_⟩; clear HO844 HB hb; intro HO844 HB))
   go_ret
   exact ⟨eT, bT HB⟩
  obtain rfl := Option.some.inj H
  go_enter Try.func6, Try.ntmps6
  go_wp2_with (first | ((with_reducible refine gC 9 rfl ?_); refine gM 9 11 rfl Try.func9 (bV.calls k (⟨#[109, 111, 100, 117, 108, 101, 32, 109, 32, 49, 59, 32, 102, 110, 32, 102, 40, 97, 41, 32, 123, 32, 114, 101, 116, 117, 114, 110, 32, 97, 32, 43, 32, 49, 32, 42, 32, 50, 59, 32, 125]⟩ : ByteArray) t840 t841 t842 _ A1.out) ?_; rintro _ w36 ⟨v843, rfl, ho0, hb⟩; refine ⟨_, rfl, yA2 (Kd.dm ho0 (aG (bT HB))) (aj (bT HB) hb) ?_⟩; clear HB hb ho0; intro HO844 HB; obtain ⟨Ao37, co37, rfl⟩ := Kd.bY HO844.out) | ((with_reducible refine gC 7 rfl ?_); refine gM 7 17 rfl Try.func7 (bZ.calls k _ _ t840 t845 t846 t847 _ Z9 ((Kd.aI HO844.out).2.1) A2.out) ?_; rintro _ w38 ⟨rfl, hb⟩; refine ⟨_, rfl, yA2 (Kd.aQ (qR HO844) hb) (aj (bT HB) hb) ?_⟩; clear HO844 HB hb; intro HO844 HB) | ((with_reducible refine gC 7 rfl ?_); refine gM 7 22 rfl Try.func7 (bZ.calls k _ _ ([] : List (S40)) t848 t849 t850 _ (Kd.uh _ _) (Nat.le_refl _) A3.out) ?_; rintro _ w39 ⟨rfl, hb⟩; refine ⟨_, rfl, yA2 (Kd.aQ (qR HO844) hb) (aj (bT HB) hb) ?_⟩; clear HO844 HB hb; intro HO844 HB))
  go_ret
  exact ⟨eT, bT HB⟩
 obtain rfl := Option.some.inj H
 go_enter Try.func6, Try.ntmps6
 go_wp2_with (first | ((with_reducible refine gC 9 rfl ?_); refine gM 9 11 rfl Try.func9 (bV.calls k (⟨#[109, 111, 100, 117, 108, 101, 32, 109, 32, 49, 59, 32, 102, 110, 32, 102, 40, 97, 41, 32, 123, 32, 114, 101, 116, 117, 114, 110, 32, 97, 32, 43, 32, 49, 32, 42, 32, 50, 59, 32, 125]⟩ : ByteArray) t840 t841 t842 _ A1.out) ?_; rintro _ w40 ⟨v843, rfl, ho0, hb⟩; refine ⟨_, rfl, yA2 (Kd.dm ho0 (aG (bT HB))) (aj (bT HB) hb) ?_⟩; clear HB hb ho0; intro HO844 HB; obtain ⟨Ao41, co41, rfl⟩ := Kd.bY HO844.out) | ((with_reducible refine gC 7 rfl ?_); refine gM 7 17 rfl Try.func7 (bZ.calls k _ _ t840 t845 t846 t847 _ Z9 ((Kd.aI HO844.out).2.1) A2.out) ?_; rintro _ w42 ⟨rfl, hb⟩; refine ⟨_, rfl, yA2 (Kd.aQ (qR HO844) hb) (aj (bT HB) hb) ?_⟩; clear HO844 HB hb; intro HO844 HB) | ((with_reducible refine gC 7 rfl ?_); refine gM 7 22 rfl Try.func7 (bZ.calls k _ _ ([] : List (S40)) t848 t849 t850 _ (Kd.uh _ _) (Nat.le_refl _) A3.out) ?_; rintro _ w43 ⟨rfl, hb⟩; refine ⟨_, rfl, yA2 (Kd.aQ (qR HO844) hb) (aj (bT HB) hb) ?_⟩; clear HO844 HB hb; intro HO844 HB))
 go_ret
 exact ⟨eT, bT HB⟩
end Go.Proofs.Ytlenihbmafkegaa.Q
end
section
namespace Go.Proofs.Ytlenihbmafkegaa.Q
open Go.RowKit Go.Proofs.YtlenihbmafkegaaW.PrintWords Go.Proofs.YtlenihbmafkegaaW.PrintLast Go.Proofs.YtlenihbmafkegaaW.PrintMore
attribute [local go_sem] dC dA dP dO cZ cO dB dw
set_option linter.unusedVariables false
set_option linter.unusedSimpArgs false
theorem Oe (d : Nat) (w : World) (x0 y0 : Int) (x1 y1 : Int) (x2 y2 : ByteArray) (x3 y3 : Int) (x4 y4 : ByteArray) :
 (Op.equalIn (d + 2) 40 (.agg #[.int .i64 x0, .int .i64 x1, .string x2, .int .i64 x3, .string x4]) (.agg #[.int .i64 y0, .int .i64 y1, .string y2, .int .i64 y3, .string y4])).run Try.prog w = .ok (x0 == y0 && (x1 == y1 && (x2.toList == y2.toList && (x3 == y3 && (x4.toList == y4.toList))))) w := by
 refine MX Try.underlying40 (by kernel_rfl) ?_
 refine tX (by rfl) (by go_simp; rfl) (by go_simp; rfl) (by go_simp) ?_
 refine tX (by rfl) (by go_simp; rfl) (by go_simp; rfl) (by go_simp) ?_
 refine tX (by rfl) (by go_simp; rfl) (by go_simp; rfl) (by go_simp) ?_
 refine tX (by rfl) (by go_simp; rfl) (by go_simp; rfl) (by go_simp) ?_
 exact Ht (by rfl) (by go_simp; rfl) (by go_simp; rfl) (by go_simp)
end Go.Proofs.Ytlenihbmafkegaa.Q
end
section
namespace Go.Proofs.Ytlenihbmafkegaa.Q
open Go.RowKit Go.Proofs.YtlenihbmafkegaaW.PrintWords Go.Proofs.YtlenihbmafkegaaW.PrintLast Go.Proofs.YtlenihbmafkegaaW.PrintMore
attribute [local go_sem] dC dA dP dO cZ cO dB dw
set_option linter.unusedVariables false
set_option linter.unusedSimpArgs false
attribute [local go_sem high] Oe
/-! ### aK: function 10 -/
def aK.l0 : Nat → List (S40) → List (S40) → Int → Option (Bool)
 | 0, _, _, _ => none
 | k + 1, x0, x1, x5 => if x5 < (x0.length : Int) then (if 0 ≤ x5 then (if x5 < (x1.length : Int) then (if (!(((au x0 x5).f0) == ((au x1 x5).f0)) || (!(((au x0 x5).f1) == ((au x1 x5).f1)) || (!((((au x0 x5).f2).toList) == (((au x1 x5).f2).toList)) || (!(((au x0 x5).f3) == ((au x1 x5).f3)) || (!((((au x0 x5).f4).toList) == (((au x1 x5).f4).toList))))))) = true then (some false) else (aK.l0 k x0 x1 (wrap64 (x5 + 1)))) else (none)) else (none)) else (some true)
def aK.f (k : Nat) (l0 : List (S40)) (l1 : List (S40)) : Option (Bool) := if (l0.length : Int) = (l1.length : Int) then (aK.l0 k l0 l1 0) else (some false)
theorem aK.cu : ∀ k, (∀ y0 y1 y2, LeO (aK.l0 k y0 y1 y2) (aK.l0 (k + 1) y0 y1 y2))
 | 0 => fun _ _ _ r h => by simp [aK.l0] at h
 | k + 1 => by
  have ih0 := aK.cu k
  intro y0 y1 y2
  unfold aK.l0
  exact yL
theorem aK.mono : ∀ a0 a1 k, LeO (aK.f k a0 a1) (aK.f (k + 1) a0 a1) := by
 intro a0 a1 k
 have ih0 := aK.cu k
 unfold aK.f
 exact yL
set_option maxHeartbeats 8000000 in
set_option maxRecDepth 100000 in
theorem aK.calls (k : Nat) (A0 : Option Addr) (c0 : Nat) (l0 : List (S40)) (A1 : Option Addr) (c1 : Nat) (l1 : List (S40)) (r : Bool) (w : World) (hr0 : Kd.C k40 w A0 l0.length l0) (hc0 : l0.length ≤ c0) (hr1 : Kd.C k40 w A1 l1.length l1) (hc1 : l1.length ≤ c1) (h : aK.f k l0 l1 = some r) :
 Calls Try.prog 10 #[.slice A0 l0.length c0, .slice A1 l1.length c1] w fun e w' => e = .returned (.bool r) ∧ dQ w w' := by
 have hu40 := Try.underlying40
 have HR0 := ae.mk hr0
 have HC0 := ae.mk hc0
 clear hr0 hc0
 have HR1 := ae.mk hr1
 have HC1 := ae.mk hc1
 clear hr1 hc1
 have H := h
 clear h
 unfold aK.f at H
 revert H
 refine ut (fun c3 c3b0 c3b1 H => ?_) fun c3 c3b0 c3b1 H => ?_
 ·have c3b2 : (l0.length == l1.length) = true := by first | simpa using c3 | (simp at c3 ⊢; omega)
  clear c3
  have H' := ae.mk H
  clear H
  go_enter Try.func10, Try.ntmps10
  go_wp2
  repeat (go_quiet (fail); try go_wp2)
  go_loopg [5] k (fun kq v5 w' => ∃ (x5_1 : Int), v5 = .int .i64 x5_1 ∧ ae (aK.l0 kq l0 l1 x5_1 = some r) ∧ ae (kq ≤ k) ∧ dQ w w')
  case atStart => exact ⟨(0), fT, H', ⟨Nat.le_refl _⟩, Z0⟩
  case round =>
   clear H'
   try clear c1
   try clear p2
   try clear c3
   try clear c3b0
   try clear c3b1
   try clear c3b2
   obtain ⟨x5_1, rfl, HA, HK1, ⟨m1, rfl⟩⟩ := hrel
   cases gk with
   | zero => exact absurd HA.out (by simp [aK.l0])
   | succ k1 =>
    have H := HA.out
    clear HA
    simp only [aK.l0] at H
    revert H
    refine jU (fun c4b0 H => ?_) fun c4b0 H => ?_
    ·revert H
     refine gY (fun c5b0 H => ?_) fun c5 H => ?_
     ·revert H
      refine gY (fun c6b0 H => ?_) fun c6 H => ?_
      ·revert H
       refine gZ (fun c7 H => ?_) fun c7 H => ?_
       ·have c7b0 : (!(((au l0 x5_1).f0) == ((au l1 x5_1).f0)) || (!(((au l0 x5_1).f1) == ((au l1 x5_1).f1)) || (!((((au l0 x5_1).f2).toList) == (((au l1 x5_1).f2).toList)) || (!(((au l0 x5_1).f3) == ((au l1 x5_1).f3)) || (!((((au l0 x5_1).f4).toList) == (((au l1 x5_1).f4).toList))))))) = true := c7
        clear c7
        obtain rfl := Option.some.inj H
        have p856 : 0 ≤ (x5_1 : Int) := of_decide_eq_true aT
        have q856 : x5_1 < (l0.length : Int) := of_decide_eq_true aT
        obtain ⟨ad856, e856, hx856_0, hx856_1, hx856_2, hx856_3, hx856_4⟩ := kF HR0.out x5_1 p856 q856
        cases e856
        replace p856 := eq_true p856
        replace q856 := eq_true q856
        have p857 : 0 ≤ (x5_1 : Int) := of_decide_eq_true aT
        have q857 : x5_1 < (l1.length : Int) := of_decide_eq_true aT
        obtain ⟨ad857, e857, hx857_0, hx857_1, hx857_2, hx857_3, hx857_4⟩ := kF HR1.out x5_1 p857 q857
        cases e857
        replace p857 := eq_true p857
        replace q857 := eq_true q857
        go_wp2
        repeat (go_quiet (fail); try go_wp2)
        go_ret
        exact ⟨fT, Z0⟩
       have c7b0 : (!(((au l0 x5_1).f0) == ((au l1 x5_1).f0)) || (!(((au l0 x5_1).f1) == ((au l1 x5_1).f1)) || (!((((au l0 x5_1).f2).toList) == (((au l1 x5_1).f2).toList)) || (!(((au l0 x5_1).f3) == ((au l1 x5_1).f3)) || (!((((au l0 x5_1).f4).toList) == (((au l1 x5_1).f4).toList))))))) = false := by simpa using c7
       clear c7
       have H' := ae.mk H
       clear H
       have p856 : 0 ≤ (x5_1 : Int) := of_decide_eq_true aT
       have q856 : x5_1 < (l0.length : Int) := of_decide_eq_true aT
       obtain ⟨ad856, e856, hx856_0, hx856_1, hx856_2, hx856_3, hx856_4⟩ := kF HR0.out x5_1 p856 q856
       cases e856
       replace p856 := eq_true p856
       replace q856 := eq_true q856
       have p857 : 0 ≤ (x5_1 : Int) := of_decide_eq_true aT
       have q857 : x5_1 < (l1.length : Int) := of_decide_eq_true aT
       obtain ⟨ad857, e857, hx857_0, hx857_1, hx857_2, hx857_3, hx857_4⟩ := kF HR1.out x5_1 p857 q857
       cases e857
       replace p857 := eq_true p857
       replace q857 := eq_true q857
       go_wp2
       repeat (go_quiet (fail); try go_wp2)
       go_roundg k1
       case measure => have := HK1.out; omega
       case rel => exact ⟨(wrap64 (x5_1 + 1)), fT, H', ⟨by have := HK1.out; omega⟩, Z0⟩
      exact absurd H (by simp)
     exact absurd H (by simp)
    obtain rfl := Option.some.inj H
    go_wp2
    repeat (go_quiet (fail); try go_wp2)
    go_ret
    exact ⟨fT, Z0⟩
 have c3b2 : (l0.length == l1.length) = false := by first | simpa using c3 | (simp at c3 ⊢; omega)
 obtain rfl := Option.some.inj H
 go_enter Try.func10, Try.ntmps10
 go_wp2
 repeat (go_quiet (fail); try go_wp2)
 go_ret
 exact ⟨fT, Z0⟩
end Go.Proofs.Ytlenihbmafkegaa.Q
end
section
namespace Go.Proofs.Ytlenihbmafkegaa.Q
open Go.RowKit Go.Proofs.YtlenihbmafkegaaW.PrintWords Go.Proofs.YtlenihbmafkegaaW.PrintLast Go.Proofs.YtlenihbmafkegaaW.PrintMore
attribute [local go_sem] dC dA dP dO cZ cO dB dw
set_option linter.unusedVariables false
set_option linter.unusedSimpArgs false
/-! ### aU: function 13 -/
def aU.l0 : Nat → List (S56) → List (S56) → Bool → Int → Option (Bool)
 | 0, _, _, _, _ => none
 | k + 1, x0, x1, x2, x7 => if x7 < (x0.length : Int) then (if 0 ≤ x7 then (if x7 < (x1.length : Int) then (if ((dD x0 x7).f0) = ((dD x1 x7).f0) then (if ((dD x0 x7).f1).toList = ((dD x1 x7).f1).toList then (if ((dD x0 x7).f2) = ((dD x1 x7).f2) then (if x2 = true then (if ((dD x0 x7).f3) = ((dD x1 x7).f3) then (aU.l0 k x0 x1 x2 (wrap64 (x7 + 1))) else (some false)) else (aU.l0 k x0 x1 x2 (wrap64 (x7 + 1)))) else (some false)) else (some false)) else (some false)) else (none)) else (none)) else (some true)
def aU.f (k : Nat) (l0 : List (S56)) (l1 : List (S56)) (a2 : Bool) : Option (Bool) := if (l0.length : Int) = (l1.length : Int) then (aU.l0 k l0 l1 a2 0) else (some false)
theorem aU.cu : ∀ k, (∀ y0 y1 y2 y3, LeO (aU.l0 k y0 y1 y2 y3) (aU.l0 (k + 1) y0 y1 y2 y3))
 | 0 => fun _ _ _ _ r h => by simp [aU.l0] at h
 | k + 1 => by
  have ih0 := aU.cu k
  intro y0 y1 y2 y3
  unfold aU.l0
  exact yL
theorem aU.mono : ∀ a0 a1 a2 k, LeO (aU.f k a0 a1 a2) (aU.f (k + 1) a0 a1 a2) := by
 intro a0 a1 a2 k
 have ih0 := aU.cu k
 unfold aU.f
 exact yL
set_option maxHeartbeats 8000000 in
set_option maxRecDepth 100000 in
theorem aU.calls (k : Nat) (A0 : Option Addr) (c0 : Nat) (l0 : List (S56)) (A1 : Option Addr) (c1 : Nat) (l1 : List (S56)) (a2 : Bool) (r : Bool) (w : World) (hr0 : Kd.C k56 w A0 l0.length l0) (hc0 : l0.length ≤ c0) (hr1 : Kd.C k56 w A1 l1.length l1) (hc1 : l1.length ≤ c1) (h : aU.f k l0 l1 a2 = some r) :
 Calls Try.prog 13 #[.slice A0 l0.length c0, .slice A1 l1.length c1, .bool a2] w fun e w' => e = .returned (.bool r) ∧ dQ w w' := by
 have HR0 := ae.mk hr0
 have HC0 := ae.mk hc0
 clear hr0 hc0
 have HR1 := ae.mk hr1
 have HC1 := ae.mk hc1
 clear hr1 hc1
 have H := h
 clear h
 unfold aU.f at H
 revert H
 refine ut (fun c4 c4b0 c4b1 H => ?_) fun c4 c4b0 c4b1 H => ?_
 ·have c4b2 : (l0.length == l1.length) = true := by first | simpa using c4 | (simp at c4 ⊢; omega)
  clear c4
  have H' := ae.mk H
  clear H
  go_enter Try.func13, Try.ntmps13
  go_wp2
  repeat (go_quiet (fail); try go_wp2)
  go_loopg [7] k (fun kq v7 w' => ∃ (x7_1 : Int), v7 = .int .i64 x7_1 ∧ ae (aU.l0 kq l0 l1 a2 x7_1 = some r) ∧ ae (kq ≤ k) ∧ dQ w w')
  case atStart => exact ⟨(0), fT, H', ⟨Nat.le_refl _⟩, Z0⟩
  case round =>
   clear H'
   try clear c1
   try clear p2
   try clear c4
   try clear c4b0
   try clear c4b1
   try clear c4b2
   obtain ⟨x7_1, rfl, HA, HK1, ⟨m1, rfl⟩⟩ := hrel
   cases gk with
   | zero => exact absurd HA.out (by simp [aU.l0])
   | succ k1 =>
    have H := HA.out
    clear HA
    simp only [aU.l0] at H
    revert H
    refine jU (fun c5b0 H => ?_) fun c5b0 H => ?_
    ·revert H
     refine gY (fun c6b0 H => ?_) fun c6 H => ?_
     ·revert H
      refine gY (fun c7b0 H => ?_) fun c7 H => ?_
      ·revert H
       refine bn (fun c8b0 c8b1 H => ?_) fun c8 c8b0 c8b1 H => ?_
       ·revert H
        refine bn (fun c9b0 c9b1 H => ?_) fun c9 c9b0 c9b1 H => ?_
        ·revert H
         refine bn (fun c10b0 c10b1 H => ?_) fun c10 c10b0 c10b1 H => ?_
         ·cases a2
          rotate_left
          ·replace H := yT H
           revert H
           refine bn (fun c12b0 c12b1 H => ?_) fun c12 c12b0 c12b1 H => ?_
           ·have H' := ae.mk H
            clear H
            have p874 : 0 ≤ (x7_1 : Int) := of_decide_eq_true aT
            have q874 : x7_1 < (l0.length : Int) := of_decide_eq_true aT
            obtain ⟨ad874, e874, hx874_0, hx874_1, hx874_2, hx874_3⟩ := eU HR0.out x7_1 p874 q874
            cases e874
            replace p874 := eq_true p874
            replace q874 := eq_true q874
            have p875 : 0 ≤ (x7_1 : Int) := of_decide_eq_true aT
            have q875 : x7_1 < (l1.length : Int) := of_decide_eq_true aT
            obtain ⟨ad875, e875, hx875_0, hx875_1, hx875_2, hx875_3⟩ := eU HR1.out x7_1 p875 q875
            cases e875
            replace p875 := eq_true p875
            replace q875 := eq_true q875
            have p876 : 0 ≤ (x7_1 : Int) := of_decide_eq_true aT
            have q876 : x7_1 < (l0.length : Int) := of_decide_eq_true aT
            obtain ⟨ad876, e876, hx876_0, hx876_1, hx876_2, hx876_3⟩ := eU HR0.out x7_1 p876 q876
            obtain rfl : ad874 = ad876 := (by injection e876)
            replace p876 := eq_true p876
            replace q876 := eq_true q876
            have p877 : 0 ≤ (x7_1 : Int) := of_decide_eq_true aT
            have q877 : x7_1 < (l1.length : Int) := of_decide_eq_true aT
            obtain ⟨ad877, e877, hx877_0, hx877_1, hx877_2, hx877_3⟩ := eU HR1.out x7_1 p877 q877
            obtain rfl : ad875 = ad877 := (by injection e877)
            replace p877 := eq_true p877
            replace q877 := eq_true q877
            have p878 : 0 ≤ (x7_1 : Int) := of_decide_eq_true aT
            have q878 : x7_1 < (l0.length : Int) := of_decide_eq_true aT
            obtain ⟨ad878, e878, hx878_0, hx878_1, hx878_2, hx878_3⟩ := eU HR0.out x7_1 p878 q878
            obtain rfl : ad874 = ad878 := (by injection e878)
            replace p878 := eq_true p878
            replace q878 := eq_true q878
            have p879 : 0 ≤ (x7_1 : Int) := of_decide_eq_true aT
            have q879 : x7_1 < (l1.length : Int) := of_decide_eq_true aT
            obtain ⟨ad879, e879, hx879_0, hx879_1, hx879_2, hx879_3⟩ := eU HR1.out x7_1 p879 q879
            obtain rfl : ad875 = ad879 := (by injection e879)
            replace p879 := eq_true p879
            replace q879 := eq_true q879
            have p880 : 0 ≤ (x7_1 : Int) := of_decide_eq_true aT
            have q880 : x7_1 < (l0.length : Int) := of_decide_eq_true aT
            obtain ⟨ad880, e880, hx880_0, hx880_1, hx880_2, hx880_3⟩ := eU HR0.out x7_1 p880 q880
            obtain rfl : ad874 = ad880 := (by injection e880)
            replace p880 := eq_true p880
            replace q880 := eq_true q880
            have p881 : 0 ≤ (x7_1 : Int) := of_decide_eq_true aT
            have q881 : x7_1 < (l1.length : Int) := of_decide_eq_true aT
            obtain ⟨ad881, e881, hx881_0, hx881_1, hx881_2, hx881_3⟩ := eU HR1.out x7_1 p881 q881
            obtain rfl : ad875 = ad881 := (by injection e881)
            replace p881 := eq_true p881
            replace q881 := eq_true q881
            go_wp2
            repeat (go_quiet (fail); try go_wp2)
            go_roundg k1
            case measure => have := HK1.out; omega
            case rel => exact ⟨(wrap64 (x7_1 + 1)), fT, H', ⟨by have := HK1.out; omega⟩, Z0⟩
           obtain rfl := Option.some.inj H
           have p874 : 0 ≤ (x7_1 : Int) := of_decide_eq_true aT
           have q874 : x7_1 < (l0.length : Int) := of_decide_eq_true aT
           obtain ⟨ad874, e874, hx874_0, hx874_1, hx874_2, hx874_3⟩ := eU HR0.out x7_1 p874 q874
           cases e874
           replace p874 := eq_true p874
           replace q874 := eq_true q874
           have p875 : 0 ≤ (x7_1 : Int) := of_decide_eq_true aT
           have q875 : x7_1 < (l1.length : Int) := of_decide_eq_true aT
           obtain ⟨ad875, e875, hx875_0, hx875_1, hx875_2, hx875_3⟩ := eU HR1.out x7_1 p875 q875
           cases e875
           replace p875 := eq_true p875
           replace q875 := eq_true q875
           have p876 : 0 ≤ (x7_1 : Int) := of_decide_eq_true aT
           have q876 : x7_1 < (l0.length : Int) := of_decide_eq_true aT
           obtain ⟨ad876, e876, hx876_0, hx876_1, hx876_2, hx876_3⟩ := eU HR0.out x7_1 p876 q876
           obtain rfl : ad874 = ad876 := (by injection e876)
           replace p876 := eq_true p876
           replace q876 := eq_true q876
           have p877 : 0 ≤ (x7_1 : Int) := of_decide_eq_true aT
           have q877 : x7_1 < (l1.length : Int) := of_decide_eq_true aT
           obtain ⟨ad877, e877, hx877_0, hx877_1, hx877_2, hx877_3⟩ := eU HR1.out x7_1 p877 q877
           obtain rfl : ad875 = ad877 := (by injection e877)
           replace p877 := eq_true p877
           replace q877 := eq_true q877
           have p878 : 0 ≤ (x7_1 : Int) := of_decide_eq_true aT
           have q878 : x7_1 < (l0.length : Int) := of_decide_eq_true aT
           obtain ⟨ad878, e878, hx878_0, hx878_1, hx878_2, hx878_3⟩ := eU HR0.out x7_1 p878 q878
           obtain rfl : ad874 = ad878 := (by injection e878)
           replace p878 := eq_true p878
           replace q878 := eq_true q878
           have p879 : 0 ≤ (x7_1 : Int) := of_decide_eq_true aT
           have q879 : x7_1 < (l1.length : Int) := of_decide_eq_true aT
           obtain ⟨ad879, e879, hx879_0, hx879_1, hx879_2, hx879_3⟩ := eU HR1.out x7_1 p879 q879
           obtain rfl : ad875 = ad879 := (by injection e879)
           replace p879 := eq_true p879
           replace q879 := eq_true q879
           have p880 : 0 ≤ (x7_1 : Int) := of_decide_eq_true aT
           have q880 : x7_1 < (l0.length : Int) := of_decide_eq_true aT
           obtain ⟨ad880, e880, hx880_0, hx880_1, hx880_2, hx880_3⟩ := eU HR0.out x7_1 p880 q880
           obtain rfl : ad874 = ad880 := (by injection e880)
           replace p880 := eq_true p880
           replace q880 := eq_true q880
           have p881 : 0 ≤ (x7_1 : Int) := of_decide_eq_true aT
           have q881 : x7_1 < (l1.length : Int) := of_decide_eq_true aT
           obtain ⟨ad881, e881, hx881_0, hx881_1, hx881_2, hx881_3⟩ := eU HR1.out x7_1 p881 q881
           obtain rfl : ad875 = ad881 := (by injection e881)
           replace p881 := eq_true p881
           replace q881 := eq_true q881
           go_wp2
           repeat (go_quiet (fail); try go_wp2)
           go_ret
           exact ⟨fT, Z0⟩
          replace H := yF H
          have H' := ae.mk H
          clear H
          have p874 : 0 ≤ (x7_1 : Int) := of_decide_eq_true aT
          have q874 : x7_1 < (l0.length : Int) := of_decide_eq_true aT
          obtain ⟨ad874, e874, hx874_0, hx874_1, hx874_2, hx874_3⟩ := eU HR0.out x7_1 p874 q874
          cases e874
          replace p874 := eq_true p874
          replace q874 := eq_true q874
          have p875 : 0 ≤ (x7_1 : Int) := of_decide_eq_true aT
          have q875 : x7_1 < (l1.length : Int) := of_decide_eq_true aT
          obtain ⟨ad875, e875, hx875_0, hx875_1, hx875_2, hx875_3⟩ := eU HR1.out x7_1 p875 q875
          cases e875
          replace p875 := eq_true p875
          replace q875 := eq_true q875
          have p876 : 0 ≤ (x7_1 : Int) := of_decide_eq_true aT
          have q876 : x7_1 < (l0.length : Int) := of_decide_eq_true aT
          obtain ⟨ad876, e876, hx876_0, hx876_1, hx876_2, hx876_3⟩ := eU HR0.out x7_1 p876 q876
          obtain rfl : ad874 = ad876 := (by injection e876)
          replace p876 := eq_true p876
          replace q876 := eq_true q876
          have p877 : 0 ≤ (x7_1 : Int) := of_decide_eq_true aT
          have q877 : x7_1 < (l1.length : Int) := of_decide_eq_true aT
          obtain ⟨ad877, e877, hx877_0, hx877_1, hx877_2, hx877_3⟩ := eU HR1.out x7_1 p877 q877
          obtain rfl : ad875 = ad877 := (by injection e877)
          replace p877 := eq_true p877
          replace q877 := eq_true q877
          have p878 : 0 ≤ (x7_1 : Int) := of_decide_eq_true aT
          have q878 : x7_1 < (l0.length : Int) := of_decide_eq_true aT
          obtain ⟨ad878, e878, hx878_0, hx878_1, hx878_2, hx878_3⟩ := eU HR0.out x7_1 p878 q878
          obtain rfl : ad874 = ad878 := (by injection e878)
          replace p878 := eq_true p878
          replace q878 := eq_true q878
          have p879 : 0 ≤ (x7_1 : Int) := of_decide_eq_true aT
          have q879 : x7_1 < (l1.length : Int) := of_decide_eq_true aT
          obtain ⟨ad879, e879, hx879_0, hx879_1, hx879_2, hx879_3⟩ := eU HR1.out x7_1 p879 q879
          obtain rfl : ad875 = ad879 := (by injection e879)
          replace p879 := eq_true p879
          replace q879 := eq_true q879
          go_wp2
          repeat (go_quiet (fail); try go_wp2)
          go_roundg k1
          case measure => have := HK1.out; omega
          case rel => exact ⟨(wrap64 (x7_1 + 1)), fT, H', ⟨by have := HK1.out; omega⟩, Z0⟩
         obtain rfl := Option.some.inj H
         have p874 : 0 ≤ (x7_1 : Int) := of_decide_eq_true aT
         have q874 : x7_1 < (l0.length : Int) := of_decide_eq_true aT
         obtain ⟨ad874, e874, hx874_0, hx874_1, hx874_2, hx874_3⟩ := eU HR0.out x7_1 p874 q874
         cases e874
         replace p874 := eq_true p874
         replace q874 := eq_true q874
         have p875 : 0 ≤ (x7_1 : Int) := of_decide_eq_true aT
         have q875 : x7_1 < (l1.length : Int) := of_decide_eq_true aT
         obtain ⟨ad875, e875, hx875_0, hx875_1, hx875_2, hx875_3⟩ := eU HR1.out x7_1 p875 q875
         cases e875
         replace p875 := eq_true p875
         replace q875 := eq_true q875
         have p876 : 0 ≤ (x7_1 : Int) := of_decide_eq_true aT
         have q876 : x7_1 < (l0.length : Int) := of_decide_eq_true aT
         obtain ⟨ad876, e876, hx876_0, hx876_1, hx876_2, hx876_3⟩ := eU HR0.out x7_1 p876 q876
         obtain rfl : ad874 = ad876 := (by injection e876)
         replace p876 := eq_true p876
         replace q876 := eq_true q876
         have p877 : 0 ≤ (x7_1 : Int) := of_decide_eq_true aT
         have q877 : x7_1 < (l1.length : Int) := of_decide_eq_true aT
         obtain ⟨ad877, e877, hx877_0, hx877_1, hx877_2, hx877_3⟩ := eU HR1.out x7_1 p877 q877
         obtain rfl : ad875 = ad877 := (by injection e877)
         replace p877 := eq_true p877
         replace q877 := eq_true q877
         have p878 : 0 ≤ (x7_1 : Int) := of_decide_eq_true aT
         have q878 : x7_1 < (l0.length : Int) := of_decide_eq_true aT
         obtain ⟨ad878, e878, hx878_0, hx878_1, hx878_2, hx878_3⟩ := eU HR0.out x7_1 p878 q878
         obtain rfl : ad874 = ad878 := (by injection e878)
         replace p878 := eq_true p878
         replace q878 := eq_true q878
         have p879 : 0 ≤ (x7_1 : Int) := of_decide_eq_true aT
         have q879 : x7_1 < (l1.length : Int) := of_decide_eq_true aT
         obtain ⟨ad879, e879, hx879_0, hx879_1, hx879_2, hx879_3⟩ := eU HR1.out x7_1 p879 q879
         obtain rfl : ad875 = ad879 := (by injection e879)
         replace p879 := eq_true p879
         replace q879 := eq_true q879
         go_wp2
         repeat (go_quiet (fail); try go_wp2)
         go_ret
         exact ⟨fT, Z0⟩
        obtain rfl := Option.some.inj H
        have p874 : 0 ≤ (x7_1 : Int) := of_decide_eq_true aT
        have q874 : x7_1 < (l0.length : Int) := of_decide_eq_true aT
        obtain ⟨ad874, e874, hx874_0, hx874_1, hx874_2, hx874_3⟩ := eU HR0.out x7_1 p874 q874
        cases e874
        replace p874 := eq_true p874
        replace q874 := eq_true q874
        have p875 : 0 ≤ (x7_1 : Int) := of_decide_eq_true aT
        have q875 : x7_1 < (l1.length : Int) := of_decide_eq_true aT
        obtain ⟨ad875, e875, hx875_0, hx875_1, hx875_2, hx875_3⟩ := eU HR1.out x7_1 p875 q875
        cases e875
        replace p875 := eq_true p875
        replace q875 := eq_true q875
        have p876 : 0 ≤ (x7_1 : Int) := of_decide_eq_true aT
        have q876 : x7_1 < (l0.length : Int) := of_decide_eq_true aT
        obtain ⟨ad876, e876, hx876_0, hx876_1, hx876_2, hx876_3⟩ := eU HR0.out x7_1 p876 q876
        obtain rfl : ad874 = ad876 := (by injection e876)
        replace p876 := eq_true p876
        replace q876 := eq_true q876
        have p877 : 0 ≤ (x7_1 : Int) := of_decide_eq_true aT
        have q877 : x7_1 < (l1.length : Int) := of_decide_eq_true aT
        obtain ⟨ad877, e877, hx877_0, hx877_1, hx877_2, hx877_3⟩ := eU HR1.out x7_1 p877 q877
        obtain rfl : ad875 = ad877 := (by injection e877)
        replace p877 := eq_true p877
        replace q877 := eq_true q877
        go_wp2
        repeat (go_quiet (fail); try go_wp2)
        go_ret
        exact ⟨fT, Z0⟩
       obtain rfl := Option.some.inj H
       have p874 : 0 ≤ (x7_1 : Int) := of_decide_eq_true aT
       have q874 : x7_1 < (l0.length : Int) := of_decide_eq_true aT
       obtain ⟨ad874, e874, hx874_0, hx874_1, hx874_2, hx874_3⟩ := eU HR0.out x7_1 p874 q874
       cases e874
       replace p874 := eq_true p874
       replace q874 := eq_true q874
       have p875 : 0 ≤ (x7_1 : Int) := of_decide_eq_true aT
       have q875 : x7_1 < (l1.length : Int) := of_decide_eq_true aT
       obtain ⟨ad875, e875, hx875_0, hx875_1, hx875_2, hx875_3⟩ := eU HR1.out x7_1 p875 q875
       cases e875
       replace p875 := eq_true p875
       replace q875 := eq_true q875
       go_wp2
       repeat (go_quiet (fail); try go_wp2)
       go_ret
       exact ⟨fT, Z0⟩
      exact absurd H (by simp)
     exact absurd H (by simp)
    obtain rfl := Option.some.inj H
    go_wp2
    repeat (go_quiet (fail); try go_wp2)
    go_ret
    exact ⟨fT, Z0⟩
 have c4b2 : (l0.length == l1.length) = false := by first | simpa using c4 | (simp at c4 ⊢; omega)
 obtain rfl := Option.some.inj H
 go_enter Try.func13, Try.ntmps13
 go_wp2
 repeat (go_quiet (fail); try go_wp2)
 go_ret
 exact ⟨fT, Z0⟩
end Go.Proofs.Ytlenihbmafkegaa.Q
end
