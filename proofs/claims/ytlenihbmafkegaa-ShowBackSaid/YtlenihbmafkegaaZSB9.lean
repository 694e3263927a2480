/- Walks over functions of the program, words for them, and what the functions come to; of each text only what this claim uses; no condition. -/
import Derived.Test.YtlenihbmafkegaaZSB0
import Derived.Test.YtlenihbmafkegaaZSB1
import Derived.Test.YtlenihbmafkegaaZSB3
import Derived.Test.YtlenihbmafkegaaZSB7
import Derived.Test.YtlenihbmafkegaaZSB8
section
namespace Go.Proofs.Ytlenihbmafkegaa.Q
open Go.RowKit Go.Proofs.YtlenihbmafkegaaW.PrintWords Go.Proofs.YtlenihbmafkegaaW.PrintLast Go.Proofs.YtlenihbmafkegaaW.PrintMore
attribute [local go_sem] df cO dI dH bV bU cZ cu
set_option linter.unusedVariables false
set_option linter.unusedSimpArgs false
-- NOT PRINTED: function 79 (show_writer_put_1)
-- BY HAND: function 11 (show_Tokens)
/-! ### bP: function 27 -/
def bP.l0 : Nat → ByteArray → List Int → Int → Int → Option (ByteArray)
 | 0, _, _, _, _ => none
 | k + 1, x0, x3, x8, x9 => if x9 < x8 then (if 0 ≤ x9 then (if x9 < (x0.size : Int) then (if (bt x0 x9) = 10 then ((some (([92, 110] : List Int) : List Int)).bind fun y187 => (if x3.length + y187.length < 140737488355328 then (bP.l0 k x0 (x3 ++ y187) x8 (wrap64 (x9 + 1))) else (none))) else (if (bt x0 x9) = 34 then ((some (([92, bt x0 x9] : List Int) : List Int)).bind fun y193 => (if x3.length + y193.length < 140737488355328 then (bP.l0 k x0 (x3 ++ y193) x8 (wrap64 (x9 + 1))) else (none))) else (if (bt x0 x9) = 92 then ((some (([92, bt x0 x9] : List Int) : List Int)).bind fun y199 => (if x3.length + y199.length < 140737488355328 then (bP.l0 k x0 (x3 ++ y199) x8 (wrap64 (x9 + 1))) else (none))) else (if x3.length < 140737488355328 then (bP.l0 k x0 (x3 ++ [bt x0 x9]) x8 (wrap64 (x9 + 1))) else (none))))) else (none)) else (none)) else (if x3.length < 140737488355328 then (some (strOfNums (x3 ++ [34]))) else (none))
def bP.f (k : Nat) (a0 : ByteArray) : Option (ByteArray) := bP.l0 k a0 (([34] : List Int)) (a0.size : Int) 0
theorem bP.bW : ∀ k, (∀ y0 y1 y2 y3, LeO (bP.l0 k y0 y1 y2 y3) (bP.l0 (k + 1) y0 y1 y2 y3))
 | 0 => fun _ _ _ _ r h => by simp [bP.l0] at h
 | k + 1 => by
  have ih0 := bP.bW k
  intro y0 y1 y2 y3
  unfold bP.l0
  exact yL
theorem bP.mono : ∀ a0 k, LeO (bP.f k a0) (bP.f (k + 1) a0) := by
 intro a0 k
 have ih0 := bP.bW k
 unfold bP.f
 exact yL
set_option maxHeartbeats 8000000 in
set_option maxRecDepth 100000 in
theorem bP.calls (k : Nat) (a0 : ByteArray) (r : ByteArray) (w : World) (h : bP.f k a0 = some r) :
 Calls Try.prog 27 #[.string a0] w fun e w' => e = .returned (.string r) ∧ Below w.heap.size w w' := by
 have HB := ae.mk (Below.refl w.heap.size w)
 have H := h
 clear h
 unfold bP.f at H
 obtain ⟨y181, hy181⟩ : ∃ y_ : List Int, y_ = (([34] : List Int)) := ⟨_, rfl⟩
 replace H : (bP.l0 k a0 y181 (a0.size : Int) 0) = some r := by first | (rw [hy181]; with_reducible exact H) | (have H2_ := (Option.bind_some _ _).symm.trans H; rw [hy181]; with_reducible exact H2_) | (have H2_ := (Option.bind_some _ _).symm.trans H; with_reducible exact H2_) | with_reducible exact H | (rw [hy181]; exact H) | exact H
 have Ny181 := ae.mk hy181
 clear hy181
 have H' := ae.mk H
 clear H
 go_enter Try.func27, Try.ntmps27
 go_wp2_with (first | ((with_reducible refine bF (N := 6) rfl ?_); refine Kd.uK (Kd.int .u8) _ 5 ?hg (N := 6) ?hd (xs := ([34] : List Int)) (inner := [.int .u8 34]) (ok := fun _ => True) (okp := fun _ => True) ?hr ?hp (fun _ hk => hk) trivial (Below.refl _ _) (Nat.le_refl _) (by simp) ?_; (case hd => rfl); (case hg => rfl); (case hr => first | (go_simp; done) | (go_simp; rfl)); (case hp => exact (dR.one (show Kd.M (Kd.int .u8) _ _ _ 34 [.int .u8 34] from rfl) (dR.none _ _))); intro v182 w2 ho3 hb hg_ hnew_; clear hg_ hnew_; (first | rw [← Ny181.out] at ho3 | (simp only [Int.reduceToNat] at ho3; rw [← Ny181.out] at ho3)); refine yA2 (Kd.eU ho3 (aX (bT HB))) (aj (bT HB) hb) ?_; clear HB; intro HO183 HB; clear hb ho3))
 go_loopg [3, 9] k (fun kq v3 v9 w' => ∃ (x3_1 : List Int) (x9_1 : Int), v9 = .int .i64 x9_1 ∧ ae (bP.l0 kq a0 x3_1 (a0.size : Int) x9_1 = some r) ∧ ae (kq ≤ k) ∧ ae (Kd.R (Kd.int .u8) 5 w' w.heap.size (fun _ => True) v3 x3_1) ∧ ae (Below w.heap.size w w'))
 case atStart => exact ⟨(y181), (0), fT, H', ⟨Nat.le_refl _⟩, ⟨qR HO183⟩, ⟨bT HB⟩⟩
 case round =>
  clear H'
  try clear c2
  try clear p2
  obtain ⟨x3_1, x9_1, rfl, HA, HK1, HO_3, HB⟩ := hrel
  cases gk with
  | zero => exact absurd HA.out (by simp [bP.l0])
  | succ k1 =>
   have H := HA.out
   clear HA
   simp only [bP.l0] at H
   revert H
   refine jT (fun c4b0 H => ?_) fun c4b0 H => ?_
   ·revert H
    refine gY (fun c5b0 H => ?_) fun c5 H => ?_
    ·revert H
     refine gY (fun c6b0 H => ?_) fun c6 H => ?_
     ·revert H
      refine bu (fun c8b0 c8b1 H => ?_) fun c8 c8b0 c8b1 H => ?_
      ·obtain ⟨y187, hy187⟩ : ∃ y_ : List Int, y_ = (([92, 110] : List Int)) := ⟨_, rfl⟩
       replace H : (if x3_1.length + y187.length < 140737488355328 then (bP.l0 k1 a0 (x3_1 ++ y187) (a0.size : Int) (wrap64 (x9_1 + 1))) else (none)) = some r := by first | (rw [hy187]; with_reducible exact H) | (have H2_ := (Option.bind_some _ _).symm.trans H; rw [hy187]; with_reducible exact H2_) | (have H2_ := (Option.bind_some _ _).symm.trans H; with_reducible exact H2_) | with_reducible exact H | (rw [hy187]; exact H) | exact H
       have Ny187 := ae.mk hy187
       clear hy187
       revert H
       refine gG (fun c9 H => ?_) fun c9 H => ?_
       ·have LMc9 := ae.mk c9
        clear c9
        obtain ⟨y190, hy190⟩ : ∃ y_ : List Int, y_ = (x3_1 ++ y187) := ⟨_, rfl⟩
        replace H : (bP.l0 k1 a0 y190 (a0.size : Int) (wrap64 (x9_1 + 1))) = some r := by first | (rw [hy190]; with_reducible exact H) | (have H2_ := (Option.bind_some _ _).symm.trans H; rw [hy190]; with_reducible exact H2_) | (have H2_ := (Option.bind_some _ _).symm.trans H; with_reducible exact H2_) | with_reducible exact H | (rw [hy190]; exact H) | exact H
        have Ny190 := ae.mk hy190
        clear hy190
        have H' := ae.mk H
        clear H
        have p7 : 0 ≤ (x9_1 : Int) := of_decide_eq_true aT
        have q7 : x9_1 < (a0.size : Int) := of_decide_eq_true aT
        have hx7 := lq a0 x9_1
        replace p7 := eq_true p7
        replace q7 := eq_true q7
        go_wp2_with (first | ((with_reducible refine bF (N := 23) rfl ?_); refine Kd.uK (Kd.int .u8) _ 5 ?hg (N := 23) ?hd (xs := ([92, 110] : List Int)) (inner := [.int .u8 92, .int .u8 110]) (ok := fun _ => True) (okp := fun _ => True) ?hr ?hp (fun _ hk => hk) trivial (Below.refl _ _) (Nat.le_refl _) (by simp) ?_; (case hd => rfl); (case hg => rfl); (case hr => first | (go_simp; done) | (go_simp; rfl)); (case hp => exact (dR.one (show Kd.M (Kd.int .u8) _ _ _ 92 [.int .u8 92] from rfl) (dR.one (show Kd.M (Kd.int .u8) _ _ _ 110 [.int .u8 110] from rfl) (dR.none _ _)))); intro v188 w10 ho11 hb hg_ hnew_; clear hg_ hnew_; (first | rw [← Ny187.out] at ho11 | (simp only [Int.reduceToNat] at ho11; rw [← Ny187.out] at ho11)); refine yA3 (Kd.qA (qR HO_3) (Kd.xh ho11) hb) (Kd.eU (Kd.xg ho11 (Kd.xy (qR HO_3))) (aX (bT HB))) (aj (bT HB) hb) ?_; clear HO_3 HB; intro HO_3 HO189 HB; clear hb ho11; obtain ⟨Ao13, co13, rfl⟩ := Kd.dL HO189.out) | ((with_reducible refine dO (b := .append) (xs := #[.tmp 22, .tmp 23]) rfl ?_); at_builtin; refine Kd.iW (Kd.int .u8) (w0 := w) w.heap.size rfl (.tmp 22) (.tmp 23) 82 5 (.int .u8 0) 1 rfl Try.underlying82 info5 rfl (by decide) (by omega) u3 x3_1 y187 _ _ _ (fun k_ => some k_ ≠ (.slice Ao13 y187.length co13 : Value).ownBlock) (fun _ => False) rfl rfl ?aO ?aR (fun _ _ h => h) (fun _ h => h.elim) ?aF ?aB ?aS ?aL ?_; (case aR => repeat (first | exact (Kd.bG HO189.out).2.2 | (with_reducible refine Kd.gQ ?_ _) | (with_reducible refine Kd.gK ?_ _) | (with_reducible refine Kd.iY ?_))); (case aB => exact (bT HB)); (case aF => exact (fun k_ hk => Kd.fresh' (Kd.xy (qR HO189)) k_ hk)); (case aO => exact Z13); (case aS => exact (aX (bT HB))); (case aL => have := LMc9.out; omega); intro v191 w12 ho hb hg hat; rw [← Ny190.out] at ho; refine yA3 (Kd.vk (ok := (fun _ => True)) (qR HO189) hg hat) (hb) (ho) ?_; clear HO189 HB HO_3; intro HO189 HB HO192; clear ho hb hg hat))
        go_roundg k1
        case measure => have := HK1.out; omega
        case rel => exact ⟨(y190), (wrap64 (x9_1 + 1)), fT, H', ⟨by have := HK1.out; omega⟩, ⟨by (with_reducible repeat (first | apply Kd.jP | apply Kd.jZ | apply Kd.lI)); exact Kd.fG HO192.out (fun _ hk => trivial)⟩, ⟨bT HB⟩⟩
       exact absurd H (by simp)
      revert H
      refine bu (fun c14b0 c14b1 H => ?_) fun c14 c14b0 c14b1 H => ?_
      ·obtain ⟨y193, hy193⟩ : ∃ y_ : List Int, y_ = (([92, bt a0 x9_1] : List Int)) := ⟨_, rfl⟩
       replace H : (if x3_1.length + y193.length < 140737488355328 then (bP.l0 k1 a0 (x3_1 ++ y193) (a0.size : Int) (wrap64 (x9_1 + 1))) else (none)) = some r := by first | (rw [hy193]; with_reducible exact H) | (have H2_ := (Option.bind_some _ _).symm.trans H; rw [hy193]; with_reducible exact H2_) | (have H2_ := (Option.bind_some _ _).symm.trans H; with_reducible exact H2_) | with_reducible exact H | (rw [hy193]; exact H) | exact H
       have Ny193 := ae.mk hy193
       clear hy193
       revert H
       refine gG (fun c15 H => ?_) fun c15 H => ?_
       ·have LMc15 := ae.mk c15
        clear c15
        obtain ⟨y196, hy196⟩ : ∃ y_ : List Int, y_ = (x3_1 ++ y193) := ⟨_, rfl⟩
        replace H : (bP.l0 k1 a0 y196 (a0.size : Int) (wrap64 (x9_1 + 1))) = some r := by first | (rw [hy196]; with_reducible exact H) | (have H2_ := (Option.bind_some _ _).symm.trans H; rw [hy196]; with_reducible exact H2_) | (have H2_ := (Option.bind_some _ _).symm.trans H; with_reducible exact H2_) | with_reducible exact H | (rw [hy196]; exact H) | exact H
        have Ny196 := ae.mk hy196
        clear hy196
        have H' := ae.mk H
        clear H
        have p7 : 0 ≤ (x9_1 : Int) := of_decide_eq_true aT
        have q7 : x9_1 < (a0.size : Int) := of_decide_eq_true aT
        have hx7 := lq a0 x9_1
        replace p7 := eq_true p7
        replace q7 := eq_true q7
        go_wp2_with (first | ((with_reducible refine bF (N := 30) rfl ?_); refine Kd.uK (Kd.int .u8) _ 5 ?hg (N := 30) ?hd (xs := ([92, bt a0 x9_1] : List Int)) (inner := [.int .u8 92, .int .u8 (bt a0 x9_1)]) (ok := fun _ => True) (okp := fun _ => True) ?hr ?hp (fun _ hk => hk) trivial (Below.refl _ _) (Nat.le_refl _) (by simp) ?_; (case hd => rfl); (case hg => rfl); (case hr => first | (go_simp; done) | (go_simp; rfl)); (case hp => exact (dR.one (show Kd.M (Kd.int .u8) _ _ _ 92 [.int .u8 92] from rfl) (dR.one (show Kd.M (Kd.int .u8) _ _ _ (bt a0 x9_1) [.int .u8 (bt a0 x9_1)] from rfl) (dR.none _ _)))); intro v194 w16 ho17 hb hg_ hnew_; clear hg_ hnew_; (first | rw [← Ny193.out] at ho17 | (simp only [Int.reduceToNat] at ho17; rw [← Ny193.out] at ho17)); refine yA3 (Kd.qA (qR HO_3) (Kd.xh ho17) hb) (Kd.eU (Kd.xg ho17 (Kd.xy (qR HO_3))) (aX (bT HB))) (aj (bT HB) hb) ?_; clear HO_3 HB; intro HO_3 HO195 HB; clear hb ho17; obtain ⟨Ao19, co19, rfl⟩ := Kd.dL HO195.out) | ((with_reducible refine dO (b := .append) (xs := #[.tmp 28, .tmp 30]) rfl ?_); at_builtin; refine Kd.iW (Kd.int .u8) (w0 := w) w.heap.size rfl (.tmp 28) (.tmp 30) 82 5 (.int .u8 0) 1 rfl Try.underlying82 info5 rfl (by decide) (by omega) u3 x3_1 y193 _ _ _ (fun k_ => some k_ ≠ (.slice Ao19 y193.length co19 : Value).ownBlock) (fun _ => False) rfl rfl ?aO ?aR (fun _ _ h => h) (fun _ h => h.elim) ?aF ?aB ?aS ?aL ?_; (case aR => repeat (first | exact (Kd.bG HO195.out).2.2 | (with_reducible refine Kd.gQ ?_ _) | (with_reducible refine Kd.gK ?_ _) | (with_reducible refine Kd.iY ?_))); (case aB => exact (bT HB)); (case aF => exact (fun k_ hk => Kd.fresh' (Kd.xy (qR HO195)) k_ hk)); (case aO => exact Z13); (case aS => exact (aX (bT HB))); (case aL => have := LMc15.out; omega); intro v197 w18 ho hb hg hat; rw [← Ny196.out] at ho; refine yA3 (Kd.vk (ok := (fun _ => True)) (qR HO195) hg hat) (hb) (ho) ?_; clear HO195 HB HO_3; intro HO195 HB HO198; clear ho hb hg hat))
        go_roundg k1
        case measure => have := HK1.out; omega
        case rel => exact ⟨(y196), (wrap64 (x9_1 + 1)), fT, H', ⟨by have := HK1.out; omega⟩, ⟨by (with_reducible repeat (first | apply Kd.jP | apply Kd.jZ | apply Kd.lI)); exact Kd.fG HO198.out (fun _ hk => trivial)⟩, ⟨bT HB⟩⟩
       exact absurd H (by simp)
      revert H
      refine bu (fun c20b0 c20b1 H => ?_) fun c20 c20b0 c20b1 H => ?_
      ·obtain ⟨y199, hy199⟩ : ∃ y_ : List Int, y_ = (([92, bt a0 x9_1] : List Int)) := ⟨_, rfl⟩
       replace H : (if x3_1.length + y199.length < 140737488355328 then (bP.l0 k1 a0 (x3_1 ++ y199) (a0.size : Int) (wrap64 (x9_1 + 1))) else (none)) = some r := by first | (rw [hy199]; with_reducible exact H) | (have H2_ := (Option.bind_some _ _).symm.trans H; rw [hy199]; with_reducible exact H2_) | (have H2_ := (Option.bind_some _ _).symm.trans H; with_reducible exact H2_) | with_reducible exact H | (rw [hy199]; exact H) | exact H
       have Ny199 := ae.mk hy199
       clear hy199
       revert H
       refine gG (fun c21 H => ?_) fun c21 H => ?_
       ·have LMc21 := ae.mk c21
        clear c21
        obtain ⟨y202, hy202⟩ : ∃ y_ : List Int, y_ = (x3_1 ++ y199) := ⟨_, rfl⟩
        replace H : (bP.l0 k1 a0 y202 (a0.size : Int) (wrap64 (x9_1 + 1))) = some r := by first | (rw [hy202]; with_reducible exact H) | (have H2_ := (Option.bind_some _ _).symm.trans H; rw [hy202]; with_reducible exact H2_) | (have H2_ := (Option.bind_some _ _).symm.trans H; with_reducible exact H2_) | with_reducible exact H | (rw [hy202]; exact H) | exact H
        have Ny202 := ae.mk hy202
        clear hy202
        have H' := ae.mk H
        clear H
        have p7 : 0 ≤ (x9_1 : Int) := of_decide_eq_true aT
        have q7 : x9_1 < (a0.size : Int) := of_decide_eq_true aT
        have hx7 := lq a0 x9_1
        replace p7 := eq_true p7
        replace q7 := eq_true q7
        go_wp2_with (first | ((with_reducible refine bF (N := 30) rfl ?_); refine Kd.uK (Kd.int .u8) _ 5 ?hg (N := 30) ?hd (xs := ([92, bt a0 x9_1] : List Int)) (inner := [.int .u8 92, .int .u8 (bt a0 x9_1)]) (ok := fun _ => True) (okp := fun _ => True) ?hr ?hp (fun _ hk => hk) trivial (Below.refl _ _) (Nat.le_refl _) (by simp) ?_; (case hd => rfl); (case hg => rfl); (case hr => first | (go_simp; done) | (go_simp; rfl)); (case hp => exact (dR.one (show Kd.M (Kd.int .u8) _ _ _ 92 [.int .u8 92] from rfl) (dR.one (show Kd.M (Kd.int .u8) _ _ _ (bt a0 x9_1) [.int .u8 (bt a0 x9_1)] from rfl) (dR.none _ _)))); intro v200 w22 ho23 hb hg_ hnew_; clear hg_ hnew_; (first | rw [← Ny199.out] at ho23 | (simp only [Int.reduceToNat] at ho23; rw [← Ny199.out] at ho23)); refine yA3 (Kd.qA (qR HO_3) (Kd.xh ho23) hb) (Kd.eU (Kd.xg ho23 (Kd.xy (qR HO_3))) (aX (bT HB))) (aj (bT HB) hb) ?_; clear HO_3 HB; intro HO_3 HO201 HB; clear hb ho23; obtain ⟨Ao25, co25, rfl⟩ := Kd.dL HO201.out) | ((with_reducible refine dO (b := .append) (xs := #[.tmp 28, .tmp 30]) rfl ?_); at_builtin; refine Kd.iW (Kd.int .u8) (w0 := w) w.heap.size rfl (.tmp 28) (.tmp 30) 82 5 (.int .u8 0) 1 rfl Try.underlying82 info5 rfl (by decide) (by omega) u3 x3_1 y199 _ _ _ (fun k_ => some k_ ≠ (.slice Ao25 y199.length co25 : Value).ownBlock) (fun _ => False) rfl rfl ?aO ?aR (fun _ _ h => h) (fun _ h => h.elim) ?aF ?aB ?aS ?aL ?_; (case aR => repeat (first | exact (Kd.bG HO201.out).2.2 | (with_reducible refine Kd.gQ ?_ _) | (with_reducible refine Kd.gK ?_ _) | (with_reducible refine Kd.iY ?_))); (case aB => exact (bT HB)); (case aF => exact (fun k_ hk => Kd.fresh' (Kd.xy (qR HO201)) k_ hk)); (case aO => exact Z13); (case aS => exact (aX (bT HB))); (case aL => have := LMc21.out; omega); intro v203 w24 ho hb hg hat; rw [← Ny202.out] at ho; refine yA3 (Kd.vk (ok := (fun _ => True)) (qR HO201) hg hat) (hb) (ho) ?_; clear HO201 HB HO_3; intro HO201 HB HO204; clear ho hb hg hat))
        go_roundg k1
        case measure => have := HK1.out; omega
        case rel => exact ⟨(y202), (wrap64 (x9_1 + 1)), fT, H', ⟨by have := HK1.out; omega⟩, ⟨by (with_reducible repeat (first | apply Kd.jP | apply Kd.jZ | apply Kd.lI)); exact Kd.fG HO204.out (fun _ hk => trivial)⟩, ⟨bT HB⟩⟩
       exact absurd H (by simp)
      revert H
      refine gG (fun c26 H => ?_) fun c26 H => ?_
      ·have LMc26 := ae.mk c26
       clear c26
       obtain ⟨y205, hy205⟩ : ∃ y_ : List Int, y_ = (x3_1 ++ [bt a0 x9_1]) := ⟨_, rfl⟩
       replace H : (bP.l0 k1 a0 y205 (a0.size : Int) (wrap64 (x9_1 + 1))) = some r := by first | (rw [hy205]; with_reducible exact H) | (have H2_ := (Option.bind_some _ _).symm.trans H; rw [hy205]; with_reducible exact H2_) | (have H2_ := (Option.bind_some _ _).symm.trans H; with_reducible exact H2_) | with_reducible exact H | (rw [hy205]; exact H) | exact H
       have Ny205 := ae.mk hy205
       clear hy205
       have H' := ae.mk H
       clear H
       have p7 : 0 ≤ (x9_1 : Int) := of_decide_eq_true aT
       have q7 : x9_1 < (a0.size : Int) := of_decide_eq_true aT
       have hx7 := lq a0 x9_1
       replace p7 := eq_true p7
       replace q7 := eq_true q7
       go_wp2_with (first | ((with_reducible refine dO (b := .append) (xs := #[.tmp 16, .tmp 18]) rfl ?_); at_builtin; refine Kd.lV (Kd.int .u8) (w0 := w) w.heap.size rfl (.tmp 16) (.tmp 18) 82 5 (.int .u8 0) 1 rfl Try.underlying82 info5 rfl (by decide) (by omega) u3 x3_1 (bt a0 x9_1) [.int .u8 (bt a0 x9_1)] (fun _ => True) (fun _ => False) rfl rfl ?aP (fun _ hk => hk.elim) ?aF ?aO ?aB ?aS ?aL ?_; (case aP => exact rfl); (case aB => exact (bT HB)); (case aF => exact (fun _ _ => trivial)); (case aO => exact (qR HO_3)); (case aS => exact (aX (bT HB))); (case aL => have := LMc26.out; omega); intro v206 w27 ho hb hg hat; rw [← Ny205.out] at ho; refine yA2 (hb) (ho) ?_; clear HB HO_3; intro HB HO207; clear ho hb hg hat))
       go_roundg k1
       case measure => have := HK1.out; omega
       case rel => exact ⟨(y205), (wrap64 (x9_1 + 1)), fT, H', ⟨by have := HK1.out; omega⟩, ⟨qR HO207⟩, ⟨bT HB⟩⟩
      exact absurd H (by simp)
     exact absurd H (by simp)
    exact absurd H (by simp)
   revert H
   refine gG (fun c28 H => ?_) fun c28 H => ?_
   ·have LMc28 := ae.mk c28
    clear c28
    obtain ⟨y184, hy184⟩ : ∃ y_ : List Int, y_ = (x3_1 ++ [34]) := ⟨_, rfl⟩
    replace H : (some (strOfNums y184)) = some r := by first | (rw [hy184]; with_reducible exact H) | (have H2_ := (Option.bind_some _ _).symm.trans H; rw [hy184]; with_reducible exact H2_) | (have H2_ := (Option.bind_some _ _).symm.trans H; with_reducible exact H2_) | with_reducible exact H | (rw [hy184]; exact H) | exact H
    have Ny184 := ae.mk hy184
    clear hy184
    obtain rfl := Option.some.inj H
    go_wp2_with (first | ((with_reducible refine dO (b := .append) (xs := #[.tmp 33, .tmp 34]) rfl ?_); at_builtin; refine Kd.lV (Kd.int .u8) (w0 := w) w.heap.size rfl (.tmp 33) (.tmp 34) 82 5 (.int .u8 0) 1 rfl Try.underlying82 info5 rfl (by decide) (by omega) u3 x3_1 34 [.int .u8 34] (fun _ => True) (fun _ => False) rfl rfl ?aP (fun _ hk => hk.elim) ?aF ?aO ?aB ?aS ?aL ?_; (case aP => exact rfl); (case aB => exact (bT HB)); (case aF => exact (fun _ _ => trivial)); (case aO => exact (qR HO_3)); (case aS => exact (aX (bT HB))); (case aL => have := LMc28.out; omega); intro v185 w29 ho hb hg hat; rw [← Ny184.out] at ho; refine yA2 (hb) (ho) ?_; clear HB HO_3; intro HB HO186; clear ho hb hg hat; have hcv30 := vY (P := Try.prog) Try.underlying82 Try.underlying5 Try.underlying9 (Kd.sW HO186.out)))
    go_ret
    exact ⟨eT, bT HB⟩
   exact absurd H (by simp)
end Go.Proofs.Ytlenihbmafkegaa.Q
end
section
namespace Go.Proofs.Ytlenihbmafkegaa.Q
open Go.RowKit Go.Proofs.YtlenihbmafkegaaW.PrintWords Go.Proofs.YtlenihbmafkegaaW.PrintLast Go.Proofs.YtlenihbmafkegaaW.PrintMore
attribute [local go_sem] df cO dI dH bV bU cZ cu
set_option linter.unusedVariables false
set_option linter.unusedSimpArgs false
/-! ### dG: function 15 -/
def dG.l0 : Nat → ByteArray → List (S56) → Int → Int → Option (ByteArray)
 | 0, _, _, _, _ => none
 | k + 1, x3, x6, x7, x8 => if x8 < x7 then (if 0 ≤ x8 then (if x8 < (x6.length : Int) then (if x8 > 0 then (if x3.size + 1 ≤ 9223372036854775807 then (if ((dF x6 x8).f0) = 3 then ((bP.f k ((dF x6 x8).f1)).bind fun t210 => (if (x3 ++ (⟨#[32]⟩ : ByteArray)).size + t210.size ≤ 9223372036854775807 then (dG.l0 k ((x3 ++ (⟨#[32]⟩ : ByteArray)) ++ t210) x6 x7 (wrap64 (x8 + 1))) else (none))) else (if (x3 ++ (⟨#[32]⟩ : ByteArray)).size + ((dF x6 x8).f1).size ≤ 9223372036854775807 then (dG.l0 k ((x3 ++ (⟨#[32]⟩ : ByteArray)) ++ ((dF x6 x8).f1)) x6 x7 (wrap64 (x8 + 1))) else (none))) else (none)) else (if ((dF x6 x8).f0) = 3 then ((bP.f k ((dF x6 x8).f1)).bind fun t211 => (if x3.size + t211.size ≤ 9223372036854775807 then (dG.l0 k (x3 ++ t211) x6 x7 (wrap64 (x8 + 1))) else (none))) else (if x3.size + ((dF x6 x8).f1).size ≤ 9223372036854775807 then (dG.l0 k (x3 ++ ((dF x6 x8).f1)) x6 x7 (wrap64 (x8 + 1))) else (none)))) else (none)) else (none)) else (some x3)
def dG.f (k : Nat) (l0 : List (S56)) : Option (ByteArray) := dG.l0 k (⟨#[]⟩ : ByteArray) l0 (l0.length : Int) 0
theorem dG.bW : ∀ k, (∀ y0 y1 y2 y3, LeO (dG.l0 k y0 y1 y2 y3) (dG.l0 (k + 1) y0 y1 y2 y3))
 | 0 => fun _ _ _ _ r h => by simp [dG.l0] at h
 | k + 1 => by
  have ih0 := dG.bW k
  intro y0 y1 y2 y3
  unfold dG.l0
  have m0 := bP.mono
  exact yL
theorem dG.mono : ∀ a0 k, LeO (dG.f k a0) (dG.f (k + 1) a0) := by
 intro a0 k
 have ih0 := dG.bW k
 unfold dG.f
 have m0 := bP.mono
 exact yL
set_option maxHeartbeats 8000000 in
set_option maxRecDepth 100000 in
theorem dG.calls (k : Nat) (A0 : Option Addr) (c0 : Nat) (l0 : List (S56)) (r : ByteArray) (w : World) (hr0 : Kd.C k56 w A0 l0.length l0) (hc0 : l0.length ≤ c0) (h : dG.f k l0 = some r) :
 Calls Try.prog 15 #[.slice A0 l0.length c0] w fun e w' => e = .returned (.string r) ∧ Below w.heap.size w w' := by
 have hu56 := Try.underlying56
 have HR0 := ae.mk hr0
 have HC0 := ae.mk hc0
 clear hr0 hc0
 have HB := ae.mk (Below.refl w.heap.size w)
 have H := h
 clear h
 unfold dG.f at H
 have H' := ae.mk H
 clear H
 go_enter Try.func15, Try.ntmps15
 go_wp2
 go_loopg [3, 8] k (fun kq v3 v8 w' => ∃ (x3_1 : ByteArray) (x8_1 : Int), v3 = .string x3_1 ∧ v8 = .int .i64 x8_1 ∧ ae (dG.l0 kq x3_1 l0 (l0.length : Int) x8_1 = some r) ∧ ae (kq ≤ k) ∧ ae (Below w.heap.size w w'))
 case atStart => exact ⟨((⟨#[]⟩ : ByteArray)), (0), fT, fT, H', ⟨Nat.le_refl _⟩, ⟨bT HB⟩⟩
 case round =>
  clear H'
  try clear c1
  obtain ⟨x3_1, x8_1, rfl, rfl, HA, HK1, HB⟩ := hrel
  cases gk with
  | zero => exact absurd HA.out (by simp [dG.l0])
  | succ k1 =>
   have H := HA.out
   clear HA
   simp only [dG.l0] at H
   revert H
   refine jT (fun c2b0 H => ?_) fun c2b0 H => ?_
   ·revert H
    refine gY (fun c3b0 H => ?_) fun c3 H => ?_
    ·revert H
     refine gY (fun c4b0 H => ?_) fun c4 H => ?_
     ·revert H
      refine gG (fun c5 H => ?_) fun c5 H => ?_
      ·have c5b0 : decide (0 < x8_1) = true := decide_eq_true c5
       clear c5
       revert H
       refine jW (fun c6 c6b0 c6b1 H => ?_) fun c6 H => ?_
       ·try have c6b2 : (9223372036854775807 < x3_1.size + 1) = False := eq_false (Nat.not_lt.2 c6)
        revert H
        refine bu (fun c7b0 c7b1 H => ?_) fun c7 c7b0 c7b1 H => ?_
        ·revert H
         refine yB1 fun t210 A8 H => ?_
         revert H
         refine jW (fun c9 c9b0 c9b1 H => ?_) fun c9 H => ?_
         ·have c9s := c9
          simp only [ByteArray.size_append, show ((⟨#[32]⟩ : ByteArray)).size = 1 from rfl] at c9s
          have c9t := eq_true c9s
          have c9u := eq_false (Nat.not_lt.2 c9s)
          clear c9s
          try have c9b2 : (9223372036854775807 < (x3_1 ++ (⟨#[32]⟩ : ByteArray)).size + t210.size) = False := eq_false (Nat.not_lt.2 c9)
          have H' := ae.mk H
          clear H
          have p208 : 0 ≤ (x8_1 : Int) := of_decide_eq_true aT
          have q208 : x8_1 < (l0.length : Int) := of_decide_eq_true aT
          obtain ⟨ad208, e208, hx208_0, hx208_1, hx208_2, hx208_3⟩ := rV HR0.out x8_1 p208 q208
          cases e208
          replace hx208_0 := (HB.out.cell (World.block_lt_of_cell? w _ hx208_0)).trans hx208_0
          replace hx208_1 := (HB.out.cell (World.block_lt_of_cell? w _ hx208_1)).trans hx208_1
          replace hx208_2 := (HB.out.cell (World.block_lt_of_cell? w _ hx208_2)).trans hx208_2
          replace hx208_3 := (HB.out.cell (World.block_lt_of_cell? w _ hx208_3)).trans hx208_3
          replace p208 := eq_true p208
          replace q208 := eq_true q208
          go_wp2_with (first | ((with_reducible refine bF (N := 5) rfl ?_); refine dS ?hg (N := 5) ?hd (cs := #[.int .i64 0, .string (⟨#[]⟩ : ByteArray), .int .i64 0, .int .i64 0]) (t := 56) ?hr ?_; (case hd => rfl); (case hg => rfl); (case hr => first | (go_simp; done) | (go_simp; rfl)); intro gb209 hg w10 hbox hb; refine yA4 (aj (bT HB) hb) (hbox) ((by rw [hg]; exact (aX (bT HB)) : w.heap.size ≤ gb209)) ((by rw [hg]; exact (aX (bT HB)) : w.heap.size ≤ gb209)) ?_; clear HB; intro HB BK209 GW209 GE209; clear hb hbox hg; have hcz11_0 : w10.cell? ⟨gb209, 0, none⟩ = some (.int .i64 0) := (ah BK209.out 0).trans rfl; have hcz11_1 : w10.cell? ⟨gb209, 1, none⟩ = some (.string (⟨#[]⟩ : ByteArray)) := (ah BK209.out 1).trans rfl; have hcz11_2 : w10.cell? ⟨gb209, 2, none⟩ = some (.int .i64 0) := (ah BK209.out 2).trans rfl; have hcz11_3 : w10.cell? ⟨gb209, 3, none⟩ = some (.int .i64 0) := (ah BK209.out 3).trans rfl; have hfz11_0 := af BK209.out 0; have hfz11_1 := af BK209.out 1; have hfz11_2 := af BK209.out 2; have hfz11_3 := af BK209.out 3) | ((with_reducible refine gC 27 rfl ?_); refine gM 27 23 rfl Try.func27 (bP.calls k1 ((dF l0 x8_1).f1) t210 _ A8.out) ?_; rintro _ w12 ⟨rfl, hb⟩; refine ⟨_, rfl, yA2 (eG (g := gb209) (o := .cells #[.int .i64 ((dF l0 x8_1).f0), .string ((dF l0 x8_1).f1), .int .i64 ((dF l0 x8_1).f2), .int .i64 ((dF l0 x8_1).f3)] 56 (0, 0)) (by refine dm (cs := #[.int .i64 ((dF l0 x8_1).f0), .string ((dF l0 x8_1).f1), .int .i64 ((dF l0 x8_1).f2), .int .i64 0]) ?_ 3 _ rfl; refine dm (cs := #[.int .i64 ((dF l0 x8_1).f0), .string ((dF l0 x8_1).f1), .int .i64 0, .int .i64 0]) ?_ 2 _ rfl; refine dm (cs := #[.int .i64 ((dF l0 x8_1).f0), .string (⟨#[]⟩ : ByteArray), .int .i64 0, .int .i64 0]) ?_ 1 _ rfl; refine dm (cs := #[.int .i64 0, .string (⟨#[]⟩ : ByteArray), .int .i64 0, .int .i64 0]) ?_ 0 _ rfl; exact BK209.out) hb) (aj (bT HB) hb) ?_⟩; clear BK209 HB hb; intro BK209 HB))
          go_roundg k1
          case measure => have := HK1.out; omega
          case rel => exact ⟨((x3_1 ++ (⟨#[32]⟩ : ByteArray)) ++ t210), (wrap64 (x8_1 + 1)), fT, fT, H', ⟨by have := HK1.out; omega⟩, ⟨bT HB⟩⟩
         exact absurd H (by simp)
        revert H
        refine jW (fun c13 c13b0 c13b1 H => ?_) fun c13 H => ?_
        ·have c13s := c13
         simp only [ByteArray.size_append, show ((⟨#[32]⟩ : ByteArray)).size = 1 from rfl] at c13s
         have c13t := eq_true c13s
         have c13u := eq_false (Nat.not_lt.2 c13s)
         clear c13s
         try have c13b2 : (9223372036854775807 < (x3_1 ++ (⟨#[32]⟩ : ByteArray)).size + ((dF l0 x8_1).f1).size) = False := eq_false (Nat.not_lt.2 c13)
         have H' := ae.mk H
         clear H
         have p208 : 0 ≤ (x8_1 : Int) := of_decide_eq_true aT
         have q208 : x8_1 < (l0.length : Int) := of_decide_eq_true aT
         obtain ⟨ad208, e208, hx208_0, hx208_1, hx208_2, hx208_3⟩ := rV HR0.out x8_1 p208 q208
         cases e208
         replace hx208_0 := (HB.out.cell (World.block_lt_of_cell? w _ hx208_0)).trans hx208_0
         replace hx208_1 := (HB.out.cell (World.block_lt_of_cell? w _ hx208_1)).trans hx208_1
         replace hx208_2 := (HB.out.cell (World.block_lt_of_cell? w _ hx208_2)).trans hx208_2
         replace hx208_3 := (HB.out.cell (World.block_lt_of_cell? w _ hx208_3)).trans hx208_3
         replace p208 := eq_true p208
         replace q208 := eq_true q208
         go_wp2_with (first | ((with_reducible refine bF (N := 5) rfl ?_); refine dS ?hg (N := 5) ?hd (cs := #[.int .i64 0, .string (⟨#[]⟩ : ByteArray), .int .i64 0, .int .i64 0]) (t := 56) ?hr ?_; (case hd => rfl); (case hg => rfl); (case hr => first | (go_simp; done) | (go_simp; rfl)); intro gb209 hg w14 hbox hb; refine yA4 (aj (bT HB) hb) (hbox) ((by rw [hg]; exact (aX (bT HB)) : w.heap.size ≤ gb209)) ((by rw [hg]; exact (aX (bT HB)) : w.heap.size ≤ gb209)) ?_; clear HB; intro HB BK209 GW209 GE209; clear hb hbox hg; have hcz15_0 : w14.cell? ⟨gb209, 0, none⟩ = some (.int .i64 0) := (ah BK209.out 0).trans rfl; have hcz15_1 : w14.cell? ⟨gb209, 1, none⟩ = some (.string (⟨#[]⟩ : ByteArray)) := (ah BK209.out 1).trans rfl; have hcz15_2 : w14.cell? ⟨gb209, 2, none⟩ = some (.int .i64 0) := (ah BK209.out 2).trans rfl; have hcz15_3 : w14.cell? ⟨gb209, 3, none⟩ = some (.int .i64 0) := (ah BK209.out 3).trans rfl; have hfz15_0 := af BK209.out 0; have hfz15_1 := af BK209.out 1; have hfz15_2 := af BK209.out 2; have hfz15_3 := af BK209.out 3))
         go_roundg k1
         case measure => have := HK1.out; omega
         case rel => exact ⟨((x3_1 ++ (⟨#[32]⟩ : ByteArray)) ++ ((dF l0 x8_1).f1)), (wrap64 (x8_1 + 1)), fT, fT, H', ⟨by have := HK1.out; omega⟩, ⟨bT HB⟩⟩
        exact absurd H (by simp)
       exact absurd H (by simp)
      have c5b0 : decide (0 < x8_1) = false := decide_eq_false c5
      clear c5
      revert H
      refine bu (fun c16b0 c16b1 H => ?_) fun c16 c16b0 c16b1 H => ?_
      ·revert H
       refine yB1 fun t211 A17 H => ?_
       revert H
       refine jW (fun c18 c18b0 c18b1 H => ?_) fun c18 H => ?_
       ·try have c18b2 : (9223372036854775807 < x3_1.size + t211.size) = False := eq_false (Nat.not_lt.2 c18)
        have H' := ae.mk H
        clear H
        have p208 : 0 ≤ (x8_1 : Int) := of_decide_eq_true aT
        have q208 : x8_1 < (l0.length : Int) := of_decide_eq_true aT
        obtain ⟨ad208, e208, hx208_0, hx208_1, hx208_2, hx208_3⟩ := rV HR0.out x8_1 p208 q208
        cases e208
        replace hx208_0 := (HB.out.cell (World.block_lt_of_cell? w _ hx208_0)).trans hx208_0
        replace hx208_1 := (HB.out.cell (World.block_lt_of_cell? w _ hx208_1)).trans hx208_1
        replace hx208_2 := (HB.out.cell (World.block_lt_of_cell? w _ hx208_2)).trans hx208_2
        replace hx208_3 := (HB.out.cell (World.block_lt_of_cell? w _ hx208_3)).trans hx208_3
        replace p208 := eq_true p208
        replace q208 := eq_true q208
        go_wp2_with (first | ((with_reducible refine bF (N := 5) rfl ?_); refine dS ?hg (N := 5) ?hd (cs := #[.int .i64 0, .string (⟨#[]⟩ : ByteArray), .int .i64 0, .int .i64 0]) (t := 56) ?hr ?_; (case hd => rfl); (case hg => rfl); (case hr => first | (go_simp; done) | (go_simp; rfl)); intro gb209 hg w19 hbox hb; refine yA4 (aj (bT HB) hb) (hbox) ((by rw [hg]; exact (aX (bT HB)) : w.heap.size ≤ gb209)) ((by rw [hg]; exact (aX (bT HB)) : w.heap.size ≤ gb209)) ?_; clear HB; intro HB BK209 GW209 GE209; clear hb hbox hg; have hcz20_0 : w19.cell? ⟨gb209, 0, none⟩ = some (.int .i64 0) := (ah BK209.out 0).trans rfl; have hcz20_1 : w19.cell? ⟨gb209, 1, none⟩ = some (.string (⟨#[]⟩ : ByteArray)) := (ah BK209.out 1).trans rfl; have hcz20_2 : w19.cell? ⟨gb209, 2, none⟩ = some (.int .i64 0) := (ah BK209.out 2).trans rfl; have hcz20_3 : w19.cell? ⟨gb209, 3, none⟩ = some (.int .i64 0) := (ah BK209.out 3).trans rfl; have hfz20_0 := af BK209.out 0; have hfz20_1 := af BK209.out 1; have hfz20_2 := af BK209.out 2; have hfz20_3 := af BK209.out 3) | ((with_reducible refine gC 27 rfl ?_); refine gM 27 23 rfl Try.func27 (bP.calls k1 ((dF l0 x8_1).f1) t211 _ A17.out) ?_; rintro _ w21 ⟨rfl, hb⟩; refine ⟨_, rfl, yA2 (eG (g := gb209) (o := .cells #[.int .i64 ((dF l0 x8_1).f0), .string ((dF l0 x8_1).f1), .int .i64 ((dF l0 x8_1).f2), .int .i64 ((dF l0 x8_1).f3)] 56 (0, 0)) (by refine dm (cs := #[.int .i64 ((dF l0 x8_1).f0), .string ((dF l0 x8_1).f1), .int .i64 ((dF l0 x8_1).f2), .int .i64 0]) ?_ 3 _ rfl; refine dm (cs := #[.int .i64 ((dF l0 x8_1).f0), .string ((dF l0 x8_1).f1), .int .i64 0, .int .i64 0]) ?_ 2 _ rfl; refine dm (cs := #[.int .i64 ((dF l0 x8_1).f0), .string (⟨#[]⟩ : ByteArray), .int .i64 0, .int .i64 0]) ?_ 1 _ rfl; refine dm (cs := #[.int .i64 0, .string (⟨#[]⟩ : ByteArray), .int .i64 0, .int .i64 0]) ?_ 0 _ rfl; exact BK209.out) hb) (aj (bT HB) hb) ?_⟩; clear BK209 HB hb; intro BK209 HB))
        go_roundg k1
        case measure => have := HK1.out; omega
        case rel => exact ⟨(x3_1 ++ t211), (wrap64 (x8_1 + 1)), fT, fT, H', ⟨by have := HK1.out; omega⟩, ⟨bT HB⟩⟩
       exact absurd H (by simp)
      revert H
      refine jW (fun c22 c22b0 c22b1 H => ?_) fun c22 H => ?_
      ·try have c22b2 : (9223372036854775807 < x3_1.size + ((dF l0 x8_1).f1).size) = False := eq_false (Nat.not_lt.2 c22)
       have H' := ae.mk H
       clear H
       have p208 : 0 ≤ (x8_1 : Int) := of_decide_eq_true aT
       have q208 : x8_1 < (l0.length : Int) := of_decide_eq_true aT
       obtain ⟨ad208, e208, hx208_0, hx208_1, hx208_2, hx208_3⟩ := rV HR0.out x8_1 p208 q208
       cases e208
       replace hx208_0 := (HB.out.cell (World.block_lt_of_cell? w _ hx208_0)).trans hx208_0
       replace hx208_1 := (HB.out.cell (World.block_lt_of_cell? w _ hx208_1)).trans hx208_1
       replace hx208_2 := (HB.out.cell (World.block_lt_of_cell? w _ hx208_2)).trans hx208_2
       replace hx208_3 := (HB.out.cell (World.block_lt_of_cell? w _ hx208_3)).trans hx208_3
       replace p208 := eq_true p208
       replace q208 := eq_true q208
       go_wp2_with (first | ((with_reducible refine bF (N := 5) rfl ?_); refine dS ?hg (N := 5) ?hd (cs := #[.int .i64 0, .string (⟨#[]⟩ : ByteArray), .int .i64 0, .int .i64 0]) (t := 56) ?hr ?_; (case hd => rfl); (case hg => rfl); (case hr => first | (go_simp; done) | (go_simp; rfl)); intro gb209 hg w23 hbox hb; refine yA4 (aj (bT HB) hb) (hbox) ((by rw [hg]; exact (aX (bT HB)) : w.heap.size ≤ gb209)) ((by rw [hg]; exact (aX (bT HB)) : w.heap.size ≤ gb209)) ?_; clear HB; intro HB BK209 GW209 GE209; clear hb hbox hg; have hcz24_0 : w23.cell? ⟨gb209, 0, none⟩ = some (.int .i64 0) := (ah BK209.out 0).trans rfl; have hcz24_1 : w23.cell? ⟨gb209, 1, none⟩ = some (.string (⟨#[]⟩ : ByteArray)) := (ah BK209.out 1).trans rfl; have hcz24_2 : w23.cell? ⟨gb209, 2, none⟩ = some (.int .i64 0) := (ah BK209.out 2).trans rfl; have hcz24_3 : w23.cell? ⟨gb209, 3, none⟩ = some (.int .i64 0) := (ah BK209.out 3).trans rfl; have hfz24_0 := af BK209.out 0; have hfz24_1 := af BK209.out 1; have hfz24_2 := af BK209.out 2; have hfz24_3 := af BK209.out 3))
       go_roundg k1
       case measure => have := HK1.out; omega
       case rel => exact ⟨(x3_1 ++ ((dF l0 x8_1).f1)), (wrap64 (x8_1 + 1)), fT, fT, H', ⟨by have := HK1.out; omega⟩, ⟨bT HB⟩⟩
      exact absurd H (by simp)
     exact absurd H (by simp)
    exact absurd H (by simp)
   obtain rfl := Option.some.inj H
   go_wp2
   go_ret
   exact ⟨eT, bT HB⟩
end Go.Proofs.Ytlenihbmafkegaa.Q
end
section
namespace Go.Proofs.Ytlenihbmafkegaa.Q
open Go.RowKit Go.Proofs.YtlenihbmafkegaaW.PrintWords Go.Proofs.YtlenihbmafkegaaW.PrintLast Go.Proofs.YtlenihbmafkegaaW.PrintMore
attribute [local go_sem] df cO dI dH bV bU cZ cu
set_option linter.unusedVariables false
set_option linter.unusedSimpArgs false
/-! ### chrysalisref08_Same: function 13 -/
end Go.Proofs.Ytlenihbmafkegaa.Q
end
section
set_option linter.unusedVariables false
set_option linter.unusedSimpArgs false
namespace Go.Proofs.Ytlenihbmafkegaa.Q
open Go Go.RowKit Go.Proofs.YtlenihbmafkegaaW.PrintWords Go.Proofs.YtlenihbmafkegaaW.PrintLast Go.Proofs.YtlenihbmafkegaaW.PrintMore
/-- The state (type T) at block g: a list that came in by w0, a place in it, and whether the token there can't stand. -/
def Rd (T : Nat) (w0 W : World) (g : Nat) (f0 : List S56) (f1 : Int) (f2 : Bool) : Prop := ∃ A0 c0, W.heap[g]? = some (.cells #[.slice A0 f0.length c0, .int .i64 f1, .bool f2] T (0, 0)) ∧ w0.heap.size ≤ g ∧ Kd.C k56 w0 A0 f0.length f0
/-- Rows of trees that were made since w; what a row leads to is none of the rows ahead of it. -/
def KL (W w : World) (g : Nat) : List (Value × List (List S40)) → Prop
 | [] => True
 | (v, xs) :: r => (∃ ok : Nat → Prop, Kd.N (Kd.slice 40 k40) 22 W w.heap.size ok v xs ∧ (∀ k, ok k → k ≠ g ∧ w.heap.size ≤ k) ∧ ∀ p ∈ r, ∀ k, ok k → some k ≠ p.1.ownBlock) ∧ KL W w g r
theorem KL.own {W w : World} {g : Nat} : ∀ {ks}, KL W w g ks → ∀ p ∈ ks, ∀ k, p.1.ownBlock = some k → k < W.heap.size ∧ ∃ cells, W.heap[k]? = some (.cells cells 22 (0, 0))
 | (v, xs) :: r, ⟨⟨ok, h, _⟩, _⟩, _, .head _, k, hk => ⟨Kd.OT h k hk, Kd.JX h k hk⟩
 | _ :: r, ⟨_, h⟩, p, .tail _ hp, k, hk => KL.own h p hp k hk
theorem KL.keep {W W' w : World} {g : Nat} (hk : aQ W W' g none) : ∀ {ks}, KL W w g ks → KL W' w g ks
 | [], _ => trivial
 | (v, xs) :: r, ⟨⟨ok, h, h1, h2⟩, h3⟩ => ⟨⟨ok, Kd.Nu h hk (fun k h => (h1 k h).1), h1, h2⟩, KL.keep hk h3⟩
/-- What stays as it is besides: blocks that are known whole, rows of texts. -/
structure Ext where
 bs : List (Nat × Obj)
 ss : List (Value × List ByteArray)
/-- With what was made since w: trees, and rows of trees. -/
structure St (T : Nat) (w0 w W : World) (g : Nat) (f0 : List S56) (f1 : Int) (f2 : Bool) (os : List (Value × List S40)) (ks : List (Value × List (List S40))) (Z : Ext) : Prop where
 t : T ≠ 40 ∧ T ≠ 22 ∧ T ≠ 9
 z : w0.heap.size ≤ w.heap.size
 rd : Rd T w0 W g f0 f1 f2
 below : Below w0.heap.size w0 W
 keep : aQ w W g none
 o : ∀ p ∈ os, Kd.R k40 40 W w.heap.size (fun _ => True) p.1 p.2
 s : KL W w g ks
 b : ∀ p ∈ Z.bs, W.heap[p.1]? = some p.2 ∧ p.1 ≠ g
 ss : ∀ p ∈ Z.ss, Kd.R Kd.string 9 W w.heap.size (fun _ => True) p.1 p.2
section
variable {T : Nat} {w0 w W W' : World} {g : Nat} {f0 : List S56} {f1 q : Int} {f2 b : Bool} {os : List (Value × List S40)} {ks : List (Value × List (List S40))} {Z : Ext}
theorem Rd.types (h : Rd T w0 W g f0 f1 f2) (ht : T ≠ 40 ∧ T ≠ 22 ∧ T ≠ 9) {base : Nat} {v : Value} {xs : List S40} (ho : Kd.R k40 40 W base (fun _ => True) v xs) : Kd.R k40 40 W base (fun k => k ≠ g) v xs := by
 obtain ⟨A0, c0, hb, hg, hr⟩ := h
 refine Kd.fG (Kd.qN ho hb (fun q hq => ?_)) (fun _ hk => hk.2)
 have : q = 40 := by simpa [show k40.E = [] from rfl] using hq
 subst this
 exact fun e => ht.1 e.symm
theorem Rd.Lc (h : Rd T w0 W g f0 f1 f2) (ht : T ≠ 40 ∧ T ≠ 22 ∧ T ≠ 9) {base : Nat} {v : Value} {xs : List ByteArray} (ho : Kd.R Kd.string 9 W base (fun _ => True) v xs) : Kd.R Kd.string 9 W base (fun k => k ≠ g) v xs := by
 obtain ⟨A0, c0, hb, hg, hr⟩ := h
 refine Kd.fG (Kd.qN ho hb (fun q hq => ?_)) (fun _ hk => hk.2)
 have : q = 9 := by simpa [show Kd.string.E = [] from rfl] using hq
 subst this
 exact fun e => ht.2.2 e.symm
theorem Rd.lt (h : Rd T w0 W g f0 f1 f2) : g < W.heap.size := by
 obtain ⟨A0, c0, hb, hg, hr⟩ := h
 exact jL hb
theorem Rd.ge (h : Rd T w0 W g f0 f1 f2) : w0.heap.size ≤ g := by
 obtain ⟨A0, c0, hb, hg, hr⟩ := h
 exact hg
theorem Rd.below (h : Rd T w0 W g f0 f1 f2) (hw : Below W.heap.size W W') : Rd T w0 W' g f0 f1 f2 := by
 obtain ⟨A0, c0, hb, hg, hr⟩ := h
 exact ⟨A0, c0, eG hb hw, hg, hr⟩
theorem Rd.cell1 (h : Rd T w0 W g f0 f1 f2) : W.cell? ⟨g, 1, none⟩ = some (.int .i64 f1) := by
 obtain ⟨A0, c0, hb, hg, hr⟩ := h
 exact (ah hb 1).trans rfl
theorem Rd.cell2 (h : Rd T w0 W g f0 f1 f2) : W.cell? ⟨g, 2, none⟩ = some (.bool f2) := by
 obtain ⟨A0, c0, hb, hg, hr⟩ := h
 exact (ah hb 2).trans rfl
theorem Rd.fro (h : Rd T w0 W g f0 f1 f2) (i : Nat) : W.frozen? ⟨g, i, none⟩ = false := by
 obtain ⟨A0, c0, hb, hg, hr⟩ := h
 exact af hb i
theorem St.new (ht : T ≠ 40 ∧ T ≠ 22 ∧ T ≠ 9) (hI : Rd T w0 w g f0 f1 f2) (hB : Below w0.heap.size w0 w) : St T w0 w w g f0 f1 f2 [] [] ⟨[], []⟩ := ⟨ht, hB.size, hI, hB, aQ.refl w g none, fun _ h => (nomatch h), trivial, fun _ h => (nomatch h), fun _ h => (nomatch h)⟩
/-- The world went on: nothing but the state was written. -/
theorem St.step (h : St T w0 w W g f0 f1 f2 os ks Z) (hk : aQ W W' g none) (hI : Rd T w0 W' g f0 q b) (hB : Below w0.heap.size w0 W') : St T w0 w W' g f0 q b os ks Z :=
 ⟨h.t, h.z, hI, hB, h.keep.trans hk (.inl rfl), fun p hp => Kd.fG (Kd.CY (h.rd.types h.t (h.o p hp)) hk (fun _ h => h)) (fun _ _ => trivial), KL.keep hk h.s, fun p hp => ⟨(hk.2 p.1 (jL (h.b p hp).1) (h.b p hp).2 (by simp)).trans (h.b p hp).1, (h.b p hp).2⟩, fun p hp => Kd.fG (Kd.CY (h.rd.Lc h.t (h.ss p hp)) hk (fun _ h => h)) (fun _ _ => trivial)⟩
theorem St.jS (h : St T w0 w W g f0 f1 f2 os ks Z) (hb : Below W.heap.size W W') : St T w0 w W' g f0 f1 f2 os ks Z :=
 h.step (aQ.of_below hb g none) (h.rd.below hb) (aj h.below hb)
theorem St.drewN (h : St T w0 w W g f0 f1 f2 os ks Z) (n : Nat) : St T w0 w (W.drewN n) g f0 f1 f2 os ks Z := h.jS (fF (Below.refl _ _) n)
theorem St.drew (h : St T w0 w W g f0 f1 f2 os ks Z) : St T w0 w W.drew g f0 f1 f2 os ks Z := h.jS (Below.refl _ _).drew
theorem St.alloc (h : St T w0 w W g f0 f1 f2 os ks Z) (o : Obj) : St T w0 w (W.alloc o) g f0 f1 f2 os ks Z := h.jS (eY (Below.refl _ _) o)
theorem St.set1 (h : St T w0 w W g f0 f1 f2 os ks Z) (x : Int) : St T w0 w (W.setCell ⟨g, 1, none⟩ (.int .i64 x)) g f0 x f2 os ks Z := by
 refine h.step ((aQ.refl W g none).Ey 1 _) ?_ (gz h.below h.rd.ge)
 obtain ⟨A0, c0, hb, hg, hr0⟩ := h.rd
 exact ⟨A0, c0, by simpa using mG hb 1 (.int .i64 x), hg, hr0⟩
theorem St.set2 (h : St T w0 w W g f0 f1 f2 os ks Z) (x : Bool) : St T w0 w (W.setCell ⟨g, 2, none⟩ (.bool x)) g f0 f1 x os ks Z := by
 refine h.step ((aQ.refl W g none).Ey 2 _) ?_ (gz h.below h.rd.ge)
 obtain ⟨A0, c0, hb, hg, hr0⟩ := h.rd
 exact ⟨A0, c0, by simpa using mG hb 2 (.bool x), hg, hr0⟩
theorem St.push (h : St T w0 w W g f0 f1 f2 os ks Z) {v : Value} {xs : List S40} {base : Nat} (hb : w.heap.size ≤ base) (ho : Kd.R k40 40 W base (fun _ => True) v xs) : St T w0 w W g f0 f1 f2 ((v, xs) :: os) ks Z :=
 ⟨h.t, h.z, h.rd, h.below, h.keep, fun p hp => (by
  rcases List.mem_cons.1 hp with rfl | hp
  ·exact Kd.eU ho hb
  exact h.o p hp), h.s, h.b, h.ss⟩
theorem St.Dv (h : St T w0 w W g f0 f1 f2 os ks Z) {v : Value} {xs : List (List S40)} {ok : Nat → Prop} (ho : Kd.N (Kd.slice 40 k40) 22 W w.heap.size ok v xs) (h1 : ∀ k, ok k → k ≠ g ∧ w.heap.size ≤ k) (h2 : ∀ p ∈ ks, ∀ k, ok k → some k ≠ p.1.ownBlock) : St T w0 w W g f0 f1 f2 os ((v, xs) :: ks) Z :=
 ⟨h.t, h.z, h.rd, h.below, h.keep, h.o, ⟨⟨ok, ho, h1, h2⟩, h.s⟩, h.b, h.ss⟩
theorem St.pop {p : Value × List (List S40)} (h : St T w0 w W g f0 f1 f2 os (p :: ks) Z) : St T w0 w W g f0 f1 f2 os ks Z := ⟨h.t, h.z, h.rd, h.below, h.keep, h.o, h.s.2, h.b, h.ss⟩
theorem St.clear (h : St T w0 w W g f0 f1 f2 os ks Z) : St T w0 w W g f0 f1 f2 [] [] Z := ⟨h.t, h.z, h.rd, h.below, h.keep, fun _ h => (nomatch h), trivial, h.b, h.ss⟩
theorem St.KG {o : Value × List S40} (h : St T w0 w W g f0 f1 f2 (o :: os) ks Z) : St T w0 w W g f0 f1 f2 [o] [] ⟨[], []⟩ :=
 ⟨h.t, h.z, h.rd, h.below, h.keep, fun p hp => (by
  rcases List.mem_cons.1 hp with rfl | hp
  ·exact h.o _ (.head _)
  cases hp), trivial, fun _ h => (nomatch h), fun _ h => (nomatch h)⟩
theorem St.yE (h : St T w0 w W g f0 f1 f2 os ks Z) : St T w0 w W g f0 f1 f2 os ((.slice none 0 0, []) :: ks) Z := h.Dv (ok := fun _ => False) (Kd.KR _ _ _ _ _) (fun _ h => h.elim) (fun _ _ _ h => h.elim)
/-- A store into a struct of the call's own, while nothing else is held. -/
theorem St.setB {gb : Nat} {cs : Array Value} {t : TypeId} (h : St T w0 w W g f0 f1 f2 [] [] ⟨[(gb, .cells cs t (0, 0))], []⟩) (hge : w.heap.size ≤ gb) (i : Nat) (u : Value) : St T w0 w (W.setCell ⟨gb, i, none⟩ u) g f0 f1 f2 [] [] ⟨[(gb, .cells (cs.setIfInBounds i u) t (0, 0))], []⟩ := by
 obtain ⟨hc, hne⟩ := h.b _ (.head _)
 obtain ⟨A0, c0, hb, hg, hr⟩ := h.rd
 refine ⟨h.t, h.z, ⟨A0, c0, iP hb (p := ⟨gb, i, none⟩) (Ne.symm hne) u, hg, hr⟩, gz h.below (Nat.le_trans h.z hge), wF h.keep hge u, fun _ h => (nomatch h), trivial, fun p hp => ?_, fun _ h => (nomatch h)⟩
 rcases List.mem_cons.1 hp with rfl | hp
 ·exact ⟨mG hc i u, hne⟩
 cases hp
theorem stT {W0 : World} {p : Int} {c : Bool} (H : St T w0 w W0 g f0 p c os ks Z) (f : St T w0 w W0 g f0 p c os ks Z → St T w0 w W g f0 f1 f2 os ks Z := by (intro h_; repeat (first | (with_reducible exact h_) | apply St.drewN | apply St.drew | apply St.set1 | apply St.set2 | apply St.alloc))) : St T w0 w W g f0 f1 f2 os ks Z := f H
end
section
variable {P : Program} {ops : Array Oper} {Q : Exit → Act → World → Prop} {T : Nat} {w0 w W : World} {g : Nat} {f0 : List S56} {f1 : Int} {f2 : Bool} {os : List (Value × List S40)} {ks : List (Value × List (List S40))} {Z : Ext}
 {rest : List Oper} {oi : Oper} {a : Act} {fn : Func} {ar : Array Operand} {ts : Array TypeId} {args : Array Value} {ρ β : Type} {R : β}
/-- What a call with the state gives back: E of the result and the world. -/
def Back (T : Nat) (w0 W : World) (g : Nat) (f0 : List S56) (q : Int) (b : Bool) (E : Ending → World → Prop) (e : Ending) (w' : World) : Prop := E e w' ∧ Rd T w0 w' g f0 q b ∧ Below w0.heap.size w0 w' ∧ aQ W w' g none
theorem sB (f : FuncId) {N : Tmp} (hop : oi.op = .call { callee := .value (.func f), args := ar, argTypes := ts }) (hf : P.funcs[f]? = some fn) {F : Option (Bool × Int × Bool)} {K : Bool × Int × Bool → Option β}
 (HS : St T w0 w W g f0 f1 f2 os ks Z) (H : ae (F.bind K = some R))
 (hC : ∀ t q b, Rd T w0 W g f0 f1 f2 → Below w0.heap.size w0 W → F = some (t, q, b) → Calls P f args W (Back T w0 W g f0 q b fun e _ => e = .returned (.bool t)))
 (h : ∀ t q b w', St T w0 w w' g f0 q b os ks Z → ae (K (t, q, b) = some R) → wpList P ops Q rest (a.put (some N) (.bool t)) w')
 (hd : oi.dst = some N := by rfl) (hg : oi.guard = none := by rfl) (hname : (fn.name == "runtime.NumGoroutine") = false := by kernel_rfl) (hb : fn.body.isSome = true := by rfl)
 (hargs : ar.map a.eval = args := by ((try simp only [List.map_toArray, List.map_cons, List.map_nil]); first | done | rfl)) : wpList P ops Q (oi :: rest) a W := by
 obtain ⟨⟨t, q, b⟩, h1, h2⟩ := Option.bind_eq_some_iff.mp H.out
 refine jJ (some N) hd hg hf hname hb args hop hargs ((hC t q b HS.rd HS.below h1).mono ?_)
 rintro _ w' ⟨rfl, hi, hb, hk⟩
 exact ⟨_, rfl, h t q b w' (HS.step hk hi hb) ⟨h2⟩⟩
theorem sU (f : FuncId) {N : Tmp} (hop : oi.op = .call { callee := .value (.func f), args := ar, argTypes := ts }) (hf : P.funcs[f]? = some fn) {F : Option (Int × Bool)} {K : Int × Bool → Option β}
 (HS : St T w0 w W g f0 f1 f2 os ks Z) (H : ae (F.bind K = some R))
 (hC : ∀ q b, Rd T w0 W g f0 f1 f2 → Below w0.heap.size w0 W → F = some (q, b) → Calls P f args W (Back T w0 W g f0 q b fun e _ => e = .returned (.tuple #[])))
 (h : ∀ q b w', St T w0 w w' g f0 q b os ks Z → ae (K (q, b) = some R) → wpList P ops Q rest (a.put (some N) (.tuple #[])) w')
 (hd : oi.dst = some N := by rfl) (hg : oi.guard = none := by rfl) (hname : (fn.name == "runtime.NumGoroutine") = false := by kernel_rfl) (hb : fn.body.isSome = true := by rfl)
 (hargs : ar.map a.eval = args := by ((try simp only [List.map_toArray, List.map_cons, List.map_nil]); first | done | rfl)) : wpList P ops Q (oi :: rest) a W := by
 obtain ⟨⟨q, b⟩, h1, h2⟩ := Option.bind_eq_some_iff.mp H.out
 refine jJ (some N) hd hg hf hname hb args hop hargs ((hC q b HS.rd HS.below h1).mono ?_)
 rintro _ w' ⟨rfl, hi, hb, hk⟩
 exact ⟨_, rfl, h q b w' (HS.step hk hi hb) ⟨h2⟩⟩
/-- A token is given back. -/
theorem sN (f : FuncId) {N : Tmp} (hop : oi.op = .call { callee := .value (.func f), args := ar, argTypes := ts }) (hf : P.funcs[f]? = some fn) {F : Option (Int × ByteArray × Int × Int × Int × Bool)} {K : Int × ByteArray × Int × Int × Int × Bool → Option β}
 (HS : St T w0 w W g f0 f1 f2 os ks Z) (H : ae (F.bind K = some R))
 (hC : ∀ t1 t2 t3 t4 q b, Rd T w0 W g f0 f1 f2 → Below w0.heap.size w0 W → F = some (t1, t2, t3, t4, q, b) → Calls P f args W (Back T w0 W g f0 q b fun e _ => e = .returned (.agg #[.int .i64 t1, .string t2, .int .i64 t3, .int .i64 t4])))
 (h : ∀ t1 t2 t3 t4 q b w', St T w0 w w' g f0 q b os ks Z → ae (K (t1, t2, t3, t4, q, b) = some R) → wpList P ops Q rest (a.put (some N) (.agg #[.int .i64 t1, .string t2, .int .i64 t3, .int .i64 t4])) w')
 (hd : oi.dst = some N := by rfl) (hg : oi.guard = none := by rfl) (hname : (fn.name == "runtime.NumGoroutine") = false := by kernel_rfl) (hb : fn.body.isSome = true := by rfl)
 (hargs : ar.map a.eval = args := by ((try simp only [List.map_toArray, List.map_cons, List.map_nil]); first | done | rfl)) : wpList P ops Q (oi :: rest) a W := by
 obtain ⟨⟨t1, t2, t3, t4, q, b⟩, h1, h2⟩ := Option.bind_eq_some_iff.mp H.out
 refine jJ (some N) hd hg hf hname hb args hop hargs ((hC t1 t2 t3 t4 q b HS.rd HS.below h1).mono ?_)
 rintro _ w' ⟨rfl, hi, hb, hk⟩
 exact ⟨_, rfl, h t1 t2 t3 t4 q b w' (HS.step hk hi hb) ⟨h2⟩⟩
/-- A text is given back. -/
theorem sS (f : FuncId) {N : Tmp} (hop : oi.op = .call { callee := .value (.func f), args := ar, argTypes := ts }) (hf : P.funcs[f]? = some fn) {F : Option (ByteArray × Int × Bool)} {K : ByteArray × Int × Bool → Option β}
 (HS : St T w0 w W g f0 f1 f2 os ks Z) (H : ae (F.bind K = some R))
 (hC : ∀ t q b, Rd T w0 W g f0 f1 f2 → Below w0.heap.size w0 W → F = some (t, q, b) → Calls P f args W (Back T w0 W g f0 q b fun e _ => e = .returned (.string t)))
 (h : ∀ t q b w', St T w0 w w' g f0 q b os ks Z → ae (K (t, q, b) = some R) → wpList P ops Q rest (a.put (some N) (.string t)) w')
 (hd : oi.dst = some N := by rfl) (hg : oi.guard = none := by rfl) (hname : (fn.name == "runtime.NumGoroutine") = false := by kernel_rfl) (hb : fn.body.isSome = true := by rfl)
 (hargs : ar.map a.eval = args := by ((try simp only [List.map_toArray, List.map_cons, List.map_nil]); first | done | rfl)) : wpList P ops Q (oi :: rest) a W := by
 obtain ⟨⟨t, q, b⟩, h1, h2⟩ := Option.bind_eq_some_iff.mp H.out
 refine jJ (some N) hd hg hf hname hb args hop hargs ((hC t q b HS.rd HS.below h1).mono ?_)
 rintro _ w' ⟨rfl, hi, hb, hk⟩
 exact ⟨_, rfl, h t q b w' (HS.step hk hi hb) ⟨h2⟩⟩
/-- A tree is given back; a row of trees is. -/
def IsL (w : World) (r : List S40) (e : Ending) (w' : World) : Prop := ∃ v, e = .returned v ∧ Kd.R k40 40 w' w.heap.size (fun _ => True) v r
def IsK (w : World) (g : Nat) (r : List (List S40)) (e : Ending) (w' : World) : Prop := ∃ v, e = .returned v ∧ Kd.N (Kd.slice 40 k40) 22 w' w.heap.size (fun k => k ≠ g ∧ w.heap.size ≤ k) v r
theorem sL (f : FuncId) {N : Tmp} (hop : oi.op = .call { callee := .value (.func f), args := ar, argTypes := ts }) (hf : P.funcs[f]? = some fn) {F : Option (List S40 × Int × Bool)} {K : List S40 × Int × Bool → Option β}
 (HS : St T w0 w W g f0 f1 f2 os ks Z) (H : ae (F.bind K = some R))
 (hC : ∀ t q b, Rd T w0 W g f0 f1 f2 → Below w0.heap.size w0 W → F = some (t, q, b) → Calls P f args W (Back T w0 W g f0 q b (IsL W t)))
 (h : ∀ t q b w' A c, St T w0 w w' g f0 q b ((.slice A t.length c, t) :: os) ks Z → ae (K (t, q, b) = some R) → wpList P ops Q rest (a.put (some N) (.slice A t.length c)) w')
 (hd : oi.dst = some N := by rfl) (hg : oi.guard = none := by rfl) (hname : (fn.name == "runtime.NumGoroutine") = false := by kernel_rfl) (hb : fn.body.isSome = true := by rfl)
 (hargs : ar.map a.eval = args := by ((try simp only [List.map_toArray, List.map_cons, List.map_nil]); first | done | rfl)) : wpList P ops Q (oi :: rest) a W := by
 obtain ⟨⟨t, q, b⟩, h1, h2⟩ := Option.bind_eq_some_iff.mp H.out
 refine jJ (some N) hd hg hf hname hb args hop hargs ((hC t q b HS.rd HS.below h1).mono ?_)
 rintro _ w' ⟨⟨v, rfl, ho⟩, hi, hb, hk⟩
 obtain ⟨A, c, rfl⟩ := Kd.dL ho
 exact ⟨_, rfl, h t q b w' A c ((HS.step hk hi hb).push (dD HS.keep) ho) ⟨h2⟩⟩
theorem sK (f : FuncId) {N : Tmp} (hop : oi.op = .call { callee := .value (.func f), args := ar, argTypes := ts }) (hf : P.funcs[f]? = some fn) {F : Option (List (List S40) × Int × Bool)} {K : List (List S40) × Int × Bool → Option β}
 (HS : St T w0 w W g f0 f1 f2 os ks Z) (H : ae (F.bind K = some R))
 (hC : ∀ t q b, Rd T w0 W g f0 f1 f2 → Below w0.heap.size w0 W → F = some (t, q, b) → Calls P f args W (Back T w0 W g f0 q b (IsK W g t)))
 (h : ∀ t q b w' A c, St T w0 w w' g f0 q b os ((.slice A t.length c, t) :: ks) Z → ae (K (t, q, b) = some R) → wpList P ops Q rest (a.put (some N) (.slice A t.length c)) w')
 (hd : oi.dst = some N := by rfl) (hg : oi.guard = none := by rfl) (hname : (fn.name == "runtime.NumGoroutine") = false := by kernel_rfl) (hb : fn.body.isSome = true := by rfl)
 (hargs : ar.map a.eval = args := by ((try simp only [List.map_toArray, List.map_cons, List.map_nil]); first | done | rfl)) : wpList P ops Q (oi :: rest) a W := by
 obtain ⟨⟨t, q, b⟩, h1, h2⟩ := Option.bind_eq_some_iff.mp H.out
 refine jJ (some N) hd hg hf hname hb args hop hargs ((hC t q b HS.rd HS.below h1).mono ?_)
 rintro _ w' ⟨⟨v, rfl, ho⟩, hi, hb, hk⟩
 obtain ⟨A, c, rfl⟩ := Kd.zx ho
 exact ⟨_, rfl, h t q b w' A c ((HS.step hk hi hb).Dv (Kd.zy ho (dD HS.keep)) (fun k h => ⟨h.1, Nat.le_trans (dD HS.keep) h.2⟩) (fun p hp k h e => by have := (KL.own HS.s p hp k e.symm).1; omega)) ⟨h2⟩⟩
/-- A tree is made of the row that was made last. -/
theorem sJ (f : FuncId) {N : Tmp} (hop : oi.op = .call { callee := .value (.func f), args := ar, argTypes := ts }) (hf : P.funcs[f]? = some fn) {F : Option (List S40)} {K : List S40 → Option β} {A : Option Addr} {c : Nat} {l : List (List S40)}
 (HS : St T w0 w W g f0 f1 f2 os ((.slice A l.length c, l) :: ks) Z) (H : ae (F.bind K = some R))
 (hC : ∀ t, Kd.C (Kd.slice 40 k40) W A l.length l → l.length ≤ c → F = some t → Calls P f args W (fun e w' => ∃ v, e = .returned v ∧ Kd.R k40 40 w' W.heap.size (fun _ => True) v t ∧ Below W.heap.size W w'))
 (h : ∀ t w' A c, St T w0 w w' g f0 f1 f2 ((.slice A t.length c, t) :: os) ks Z → ae (K t = some R) → wpList P ops Q rest (a.put (some N) (.slice A t.length c)) w')
 (hd : oi.dst = some N := by rfl) (hg : oi.guard = none := by rfl) (hname : (fn.name == "runtime.NumGoroutine") = false := by kernel_rfl) (hb : fn.body.isSome = true := by rfl)
 (hargs : ar.map a.eval = args := by ((try simp only [List.map_toArray, List.map_cons, List.map_nil]); first | done | rfl)) : wpList P ops Q (oi :: rest) a W := by
 obtain ⟨t, h1, h2⟩ := Option.bind_eq_some_iff.mp H.out
 obtain ⟨⟨ok, hn, _⟩, _⟩ := HS.s
 obtain ⟨_, hc, hr⟩ := Kd.uf hn
 refine jJ (some N) hd hg hf hname hb args hop hargs ((hC t hr hc h1).mono ?_)
 rintro _ w' ⟨v, rfl, ho, hb⟩
 obtain ⟨A, c, rfl⟩ := Kd.dL ho
 exact ⟨_, rfl, h t w' A c ((HS.pop.jS hb).push (dD HS.keep) ho) ⟨h2⟩⟩
/-- The end. -/
theorem St.back {q : Int} {b : Bool} {E : Ending → World → Prop} {e : Ending} (h : St T w0 w W g f0 q b os ks Z) (he : E e W) : Back T w0 w g f0 q b E e W := ⟨he, h.rd, h.below, h.keep⟩
theorem St.lu {q : Int} {b : Bool} {v : Value} {t : List S40} (h : St T w0 w W g f0 q b os ks Z) (ho : (v, t) ∈ os) : Back T w0 w g f0 q b (IsL w t) (.returned v) W := ⟨⟨v, rfl, h.o _ ho⟩, h.rd, h.below, h.keep⟩
theorem St.KO {q : Int} {b : Bool} (h : St T w0 w W g f0 q b os ks Z) : Back T w0 w g f0 q b (IsL w []) (.returned (.slice none 0 0)) W := ⟨⟨_, rfl, Kd.pJ _ _ _ _ _⟩, h.rd, h.below, h.keep⟩
theorem St.KP {q : Int} {b : Bool} {v : Value} {t : List (List S40)} (h : St T w0 w W g f0 q b os ((v, t) :: ks) Z) : Back T w0 w g f0 q b (IsK w g t) (.returned v) W := by
 obtain ⟨⟨ok, hn, h1, _⟩, _⟩ := h.s
 exact ⟨⟨v, rfl, Kd.Il hn h1⟩, h.rd, h.below, h.keep⟩
theorem hB {x : ρ} {K : ρ → Option β} (H : ae ((some x).bind K = some R)) : ae (K x = some R) := H
theorem hI {c : Prop} [Decidable c] {X Y : Option β} (hc : c) (H : ae ((if c then X else Y) = some R)) : ae (X = some R) := ⟨by have := H.out; rwa [if_pos hc] at this⟩
theorem hE {c : Prop} [Decidable c] {X Y : Option β} (hc : ¬c) (H : ae ((if c then X else Y) = some R)) : ae (Y = some R) := ⟨by have := H.out; rwa [if_neg hc] at this⟩
theorem St.fk (HS : St T w0 w W g f0 f1 f2 os ks Z) {A : Option Addr} {n c : Nat} {r : List S40} (hm : (.slice A n c, r) ∈ os) : Kd.FK (Kd.slice 40 k40) W (fun k => w.heap.size ≤ k ∧ ∃ cells, W.heap[k]? = some (.cells cells 40 (0, 0))) r [.slice A n c] := by
 have h := Kd.fG (ok' := fun k => w.heap.size ≤ k ∧ ∃ cells, W.heap[k]? = some (.cells cells 40 (0, 0))) (Kd.lg (HS.o _ hm)) (fun k ⟨_, h1, _, q, hq, cells, h2⟩ => ⟨h1, cells, by
  have : q = 40 := by simpa [show k40.E = [] from rfl] using hq
  rw [← this]; exact h2⟩)
 have hn : n = r.length := (Kd.bG h).1
 subst hn
 exact Kd.Bh (Kd.bG h).2.1 fun W' hW => (Kd.bG (Kd.rW h hW)).2.2
theorem NR {N : Tmp} {n : Nat} (xs : List (List S40)) (inner : List Value) (HS : St T w0 w W g f0 f1 f2 os ks Z)
 (hrun : (execOp a.eval oi).run P W = .ok (.value (.slice (some ⟨W.heap.size, 0, none⟩) n n)) (W.alloc (.cells inner.toArray 22)))
 (hn : xs.length = n) (h3 : n ≤ 3) (hrep : dR (Kd.FK (Kd.slice 40 k40) W fun k => w.heap.size ≤ k ∧ ∃ cells, W.heap[k]? = some (.cells cells 40 (0, 0))) 1 xs inner)
 (h : ∀ A c w', St T w0 w w' g f0 f1 f2 os ((.slice A n c, xs) :: ks) Z → wpList P ops Q rest (a.put (some N) (.slice A n c)) w')
 (hd : oi.dst = some N := by rfl) (hg : oi.guard = none := by rfl) : wpList P ops Q (oi :: rest) a W := by
 subst hn
 refine Kd.O0 (Kd.slice 40 k40) W.heap.size 22 hg hd (xs := xs) (inner := inner) (ok := fun k => w.heap.size ≤ k ∧ ((∃ cells, W.heap[k]? = some (.cells cells 40 (0, 0))) ∨ W.heap.size ≤ k)) hrun hrep (fun _ hk => ⟨hk.1, .inl hk.2⟩) ⟨dD HS.keep, .inr (Nat.le_refl _)⟩ (Below.refl _ _) (Nat.le_refl _) (by omega) ?_
 intro v1 w1 ho hb _ _
 obtain ⟨A, c, rfl⟩ := Kd.zx ho
 rw [hd]
 refine h A c w1 ((HS.jS hb).Dv (Kd.zy ho (dD HS.keep)) (fun k hk => ⟨?_, hk.1⟩) (fun p hp k hk e => ?_))
 ·rintro rfl
  rcases hk.2 with ⟨cells, hc⟩ | hk
  ·obtain ⟨A0, c0, hb, _⟩ := HS.rd
   rw [hb] at hc
   injection hc with hc
   injection hc with _ hc
   exact HS.t.1 hc
  exact absurd HS.rd.lt (by omega)
 obtain ⟨h1, c1, h2⟩ := KL.own HS.s p hp k e.symm
 rcases hk.2 with ⟨cells, hc⟩ | hk
 ·rw [h2] at hc
  injection hc with hc
  injection hc with _ hc
  exact absurd hc (by decide)
 omega
theorem o6 {N : Tmp} {A : Option Addr} {c n1 : Nat} {r : List S40} (HS : St T w0 w W g f0 f1 f2 os ks Z)
 (hrun : (execOp a.eval oi).run P W = .ok (.value (.slice (some ⟨W.heap.size, 0, none⟩) 1 1)) (W.alloc (.cells #[.slice A n1 c] 22)))
 (h : ∀ A' c' w', St T w0 w w' g f0 f1 f2 os ((.slice A' ([r] : List (List S40)).length c', [r]) :: ks) Z → wpList P ops Q rest (a.put (some N) (.slice A' 1 c')) w')
 (hm : (Value.slice A n1 c, r) ∈ os := by repeat (first | exact .head _ | apply List.Mem.tail)) (hd : oi.dst = some N := by rfl) (hg : oi.guard = none := by rfl) : wpList P ops Q (oi :: rest) a W :=
 NR [r] [.slice A n1 c] HS hrun rfl (by omega) (dR.one (HS.fk hm) (dR.none _ _)) h hd hg
theorem G8 {N : Tmp} {A B : Option Addr} {c d n1 n2 : Nat} {r s : List S40} (HS : St T w0 w W g f0 f1 f2 os ks Z)
 (hrun : (execOp a.eval oi).run P W = .ok (.value (.slice (some ⟨W.heap.size, 0, none⟩) 2 2)) (W.alloc (.cells #[.slice A n1 c, .slice B n2 d] 22)))
 (h : ∀ A' c' w', St T w0 w w' g f0 f1 f2 os ((.slice A' ([r, s] : List (List S40)).length c', [r, s]) :: ks) Z → wpList P ops Q rest (a.put (some N) (.slice A' 2 c')) w')
 (hm : (Value.slice A n1 c, r) ∈ os := by repeat (first | exact .head _ | apply List.Mem.tail)) (hm2 : (Value.slice B n2 d, s) ∈ os := by repeat (first | exact .head _ | apply List.Mem.tail)) (hd : oi.dst = some N := by rfl) (hg : oi.guard = none := by rfl) : wpList P ops Q (oi :: rest) a W :=
 NR [r, s] [.slice A n1 c, .slice B n2 d] HS hrun rfl (by omega) (dR.one (HS.fk hm) (dR.one (HS.fk hm2) (dR.none _ _))) h hd hg
/-- A row that was made, and behind it the row that was made last: what an append asks, and what it gives back. -/
theorem St.grew {B : Option Addr} {m d : Nat} {v : Value} {r s : List (List S40)} (HS : St T w0 w W g f0 f1 f2 os ((.slice B m d, s) :: (v, r) :: ks) Z) : ∃ ok okp : Nat → Prop, Kd.N (Kd.slice 40 k40) 22 W w.heap.size ok v r ∧ Kd.F (Kd.slice 40 k40) W okp B m s ∧ (∀ k, okp k → ok k ∧ some k ≠ v.ownBlock) ∧ (∀ k, W.heap.size ≤ k → ok k) ∧ m = s.length ∧ w.heap.size ≤ W.heap.size ∧
 ∀ v1 w1 l, Kd.N (Kd.slice 40 k40) 22 w1 w.heap.size ok v1 l → Below w.heap.size W w1 → W.grownBy w1 v.ownBlock → (∀ p ∈ Z.bs, ∃ cs t, p.2 = .cells cs t (0, 0) ∧ t ≠ 22) → ∃ A c, v1 = .slice A l.length c ∧ St T w0 w w1 g f0 f1 f2 [] [(.slice A l.length c, l)] ⟨Z.bs, []⟩ := by
 obtain ⟨⟨ok, hu, u1, u2⟩, ⟨ok', hv, v1, _⟩, _⟩ := HS.s
 refine ⟨fun k => ok k ∨ ok' k ∨ W.heap.size ≤ k, ok, Kd.Il hv fun k h => .inr (.inl h), Kd.N_F hu, fun k h => ⟨.inl h, u2 _ (.head _) k h⟩, fun k h => .inr (.inr h), (Kd.uf hu).1, dD HS.keep, ?_⟩
 intro v1' w1 l ho hb hgr hz
 obtain ⟨A, c, rfl⟩ := Kd.zx ho
 obtain ⟨A0, c0, hb0, hg0, hr0⟩ := HS.rd
 have hne : some g ≠ v.ownBlock := Kd.Oz hv hb0 (fun e => HS.t.2.1 e.symm)
 refine ⟨A, c, rfl, HS.t, HS.z, ⟨A0, c0, kR hb0 hgr hne, hg0, hr0⟩, zk HS.below HS.z hb, HS.keep.trans (aQ.vZ hgr g) (Kd.JY hv), fun _ h => (nomatch h), ⟨⟨_, ho, fun k hk => ?_, fun _ h => (nomatch h)⟩, trivial⟩, fun p hp => ?_, fun _ h => (nomatch h)⟩
 ·rcases hk with hk | hk | hk
  ·exact u1 k hk
  ·exact v1 k hk
  exact ⟨by have := HS.rd.lt; omega, Nat.le_trans (dD HS.keep) hk⟩
 obtain ⟨h1, h2⟩ := HS.b p hp
 obtain ⟨cs, t, e, ht⟩ := hz p hp
 refine ⟨?_, h2⟩
 rw [e] at h1 ⊢
 exact kR h1 hgr (Kd.Oz hv h1 (fun e => ht e.symm))
theorem zo {N : Tmp} (x y : Operand) {B : Option Addr} {m d : Nat} {v : Value} {r s : List (List S40)} {X : Option β} {cn : Prop} [Decidable cn] (ho : oi.op = .call { callee := .builtin .append, args := #[x, y], argTypes := #[86, 86] })
 (ht : P.underlying 86 = some (.slice 22)) (hinfo : (P.info? 22).map (fun i => (i.zero, i.size, i.bytes)) = some (some (.slice none 0 0), 1, 24))
 (HS : St T w0 w W g f0 f1 f2 os ((.slice B m d, s) :: (v, r) :: ks) Z) (hx : a.eval x = v) (hy : a.eval y = .slice B m d)
 (H : ae ((if cn then X else none) = some R))
 (h : ∀ A' c' w', St T w0 w w' g f0 f1 f2 [] [(.slice A' (r ++ s).length c', r ++ s)] ⟨Z.bs, []⟩ → ae (X = some R) → wpList P ops Q rest (a.put (some N) (.slice A' (r ++ s).length c')) w')
 (hcn : cn → r.length + s.length ≤ 5864062014805 := by (intro h_; simp only [List.length_cons, List.length_nil]; omega)) (hz : ∀ p ∈ Z.bs, ∃ cs t, p.2 = .cells cs t (0, 0) ∧ t ≠ 22 := by (intro p hp; first | (rcases List.mem_cons.1 hp with rfl | hp; exact ⟨_, _, rfl, by decide⟩; cases hp) | cases hp)) (hd : oi.dst = some N := by rfl) (hg : oi.guard = none := by rfl) : wpList P ops Q (oi :: rest) a W := by
 by_cases hl : cn
 ·have hle := hcn hl
  obtain ⟨ok, okp, h1, h2, h3, h4, h5, h6, h7⟩ := HS.grew
  refine Kd.xA (Kd.slice 40 k40) w.heap.size hg x y 86 22 (.slice none 0 0) 24 ho ht hinfo rfl (by decide) (by omega) v r s B m d ok okp hx hy h1 h2 h3 h4 (Below.refl _ _) h6 (by omega) ?_
  intro v1' w1 ho hb hgr _
  obtain ⟨A, c, rfl, hs⟩ := h7 v1' w1 _ ho hb hgr hz
  rw [hd]
  exact h A c w1 hs (hI hl H)
 exact absurd (hE hl H).out (by simp)
/-- The same in a region whose operations go in any order. -/
theorem OO {Kc : Act → World → Prop} {N : Tmp} (x y : Operand) {B : Option Addr} {m d : Nat} {v : Value} {r s : List (List S40)} {X : Option β} {cn : Prop} [Decidable cn] (ho : oi.op = .call { callee := .builtin .append, args := #[x, y], argTypes := #[86, 86] })
 (ht : P.underlying 86 = some (.slice 22)) (hinfo : (P.info? 22).map (fun i => (i.zero, i.size, i.bytes)) = some (some (.slice none 0 0), 1, 24))
 (HS : St T w0 w W g f0 f1 f2 os ((.slice B m d, s) :: (v, r) :: ks) Z) (hw : Region.wanted oi (yielded ops a.tmps) = true) (hx : a.eval x = v) (hy : a.eval y = .slice B m d)
 (H : ae ((if cn then X else none) = some R))
 (h : ∀ A' c' w' n, ae (n = (r ++ s).length) → St T w0 w w' g f0 f1 f2 [] [(.slice A' n c', r ++ s)] ⟨Z.bs, []⟩ → ae (X = some R) → Kc (a.put (some N) (.slice A' n c')) w')
 (hcn : cn → r.length + s.length ≤ 5864062014805 := by (intro h_; simp only [List.length_cons, List.length_nil]; omega)) (hz : ∀ p ∈ Z.bs, ∃ cs t, p.2 = .cells cs t (0, 0) ∧ t ≠ 22 := by (intro p hp; first | (rcases List.mem_cons.1 hp with rfl | hp; exact ⟨_, _, rfl, by decide⟩; cases hp) | cases hp)) (hd : oi.dst = some N := by rfl) : if Region.wanted oi (yielded ops a.tmps) = true then Oper.wp P oi a W Kc Q else Kc (a.put oi.dst undef) W := by
 by_cases hl : cn
 ·have hle := hcn hl
  obtain ⟨ok, okp, h1, h2, h3, h4, h5, h6, h7⟩ := HS.grew
  refine Kd.rY (Kd.slice 40 k40) w.heap.size hw x y 86 22 (.slice none 0 0) 24 ho ht hinfo rfl (by decide) (by omega) v r s B m d ok okp hx hy h1 h2 h3 h4 (Below.refl _ _) h6 (by omega) ?_
  intro v1' w1 ho hb hgr _
  obtain ⟨A, c, rfl, hs⟩ := h7 v1' w1 _ ho hb hgr hz
  rw [hd]
  exact h A c w1 _ ⟨rfl⟩ hs (hI hl H)
 exact absurd (hE hl H).out (by simp)
theorem app {N : Tmp} (x y : Operand) {B : Option Addr} {m d : Nat} {v : Value} {r s : List (List S40)} {X : Option β} {cn : Prop} [Decidable cn] (ho : oi.op = .call { callee := .builtin .append, args := #[x, y], argTypes := #[86, 86] })
 (ht : P.underlying 86 = some (.slice 22)) (hinfo : (P.info? 22).map (fun i => (i.zero, i.size, i.bytes)) = some (some (.slice none 0 0), 1, 24))
 (HS : St T w0 w W g f0 f1 f2 os ((.slice B m d, s) :: (v, r) :: ks) Z) (hx : a.eval x = v) (hy : a.eval y = .slice B m d)
 (H : ae ((if cn then X else none) = some R))
 (h : ∀ A' c' w', St T w0 w w' g f0 f1 f2 [] [(.slice A' (r ++ s).length c', r ++ s)] ⟨[], []⟩ → ae (X = some R) → wpList P ops Q rest (a.put (some N) (.slice A' (r ++ s).length c')) w')
 (hcn : cn → r.length + s.length ≤ 5864062014805 := by (intro h_; simp only [List.length_cons, List.length_nil]; omega)) (hd : oi.dst = some N := by rfl) (hg : oi.guard = none := by rfl) : wpList P ops Q (oi :: rest) a W :=
 zo x y ho ht hinfo (Z := ⟨[], []⟩) ⟨HS.t, HS.z, HS.rd, HS.below, HS.keep, HS.o, HS.s, fun _ h => (nomatch h), fun _ h => (nomatch h)⟩ hx hy H h hcn (fun _ h => (nomatch h)) hd hg
theorem NQ {α : Type} (d : Kd α) {W : World} {base e : Nat} {xs : List α} {inner : List Value} {ok okp : Nat → Prop} (hrep : dR (d.M W base okp) d.sz xs inner) (hok : ∀ k, okp k → ok k) (hfresh : ok W.heap.size) (hbase : base ≤ W.heap.size) (hm : xs.length ≤ 9223372036854775807) :
 Kd.R d e (W.alloc (.cells inner.toArray e)) base ok (.slice (some ⟨W.heap.size, 0, none⟩) xs.length xs.length) xs := by
 refine ⟨fun k hk => ?_, inner, ?_, ?_⟩
 ·have : W.heap.size = k := by simpa [Value.ownBlock] using hk
  subst this
  exact hfresh
 ·have h2 := World.ownsRow_lit (base := base) (e := e) (size := d.sz) W inner.toArray xs.length hbase (by simpa [maxLen] using hm) (by simpa using hrep.1)
  simpa using h2
 refine hrep.oN (fun p c hp => d.M_mono (fun k hk => ⟨hok k hk.1, fun he => ?_⟩) (Kd.Eo (d.M_bound hp) (eY (Below.refl _ _) _)))
 have h3 : k = W.heap.size := by simpa [Value.ownBlock] using he
 have := hk.2.2.1
 omega
theorem OC {α : Type} (d : Kd α) {W : World} {base e : Nat} {xs : List α} {inner : List Value} {ok okp : Nat → Prop} (hrep : dR (Kd.FK d W okp) d.sz xs inner) (hok : ∀ k, okp k → ok k) (hfresh : ok W.heap.size) (hbase : base ≤ W.heap.size) (hm : xs.length ≤ 9223372036854775807) :
 Kd.N d e (W.alloc (.cells inner.toArray e)) base ok (.slice (some ⟨W.heap.size, 0, none⟩) xs.length xs.length) xs := by
 have hr := NQ (Kd.raw d.sz) (W := W) (base := base) (e := e) (xs := Kd.chunks d.sz xs.length inner) (inner := inner) (ok := fun k => k = W.heap.size) (okp := fun _ => False) (Kd.vS hrep (fun y c hk => ⟨d.K_len (Kd.oW hk), d.K_one (Kd.oW hk)⟩)) (fun _ hk => hk.elim) rfl hbase (by rw [Kd.eQ]; exact hm)
 rw [Kd.eQ] at hr
 exact Kd.Io hr (World.grownBy_alloc W _ none) ⟨_, rfl, Nat.le_refl _⟩ (Kd.eQ _ _ _) (fun j y c hy hc => by rw [Kd.lD hc]; exact hrep.2 j y hy) hok hfresh
/-- A row of trees that is made just now. -/
theorem St.lits {n : Nat} {xs : List (List S40)} {inner : List Value} (HS : St T w0 w W g f0 f1 f2 os ks Z) (hn : xs.length = n) (h3 : n ≤ 3) (hrep : dR (Kd.FK (Kd.slice 40 k40) W fun k => w.heap.size ≤ k ∧ ∃ cells, W.heap[k]? = some (.cells cells 40 (0, 0))) 1 xs inner) :
 St T w0 w (W.alloc (.cells inner.toArray 22)) g f0 f1 f2 os ((.slice (some ⟨W.heap.size, 0, none⟩) n n, xs) :: ks) Z := by
 subst hn
 have ho := OC (Kd.slice 40 k40) (W := W) (base := W.heap.size) (e := 22) (xs := xs) (inner := inner) (ok := fun k => w.heap.size ≤ k ∧ ((∃ cells, W.heap[k]? = some (.cells cells 40 (0, 0))) ∨ W.heap.size ≤ k)) hrep (fun _ hk => ⟨hk.1, .inl hk.2⟩) ⟨dD HS.keep, .inr (Nat.le_refl _)⟩ (Nat.le_refl _) (by omega)
 refine (HS.alloc _).Dv (Kd.zy ho (dD HS.keep)) (fun k hk => ⟨?_, hk.1⟩) (fun p hp k hk e => ?_)
 ·rintro rfl
  rcases hk.2 with ⟨cells, hc⟩ | hk
  ·obtain ⟨A0, c0, hb, _⟩ := HS.rd
   rw [hb] at hc
   injection hc with hc
   injection hc with _ hc
   exact HS.t.1 hc
  exact absurd HS.rd.lt (by omega)
 obtain ⟨h1, c1, h2⟩ := KL.own HS.s p hp k e.symm
 rcases hk.2 with ⟨cells, hc⟩ | hk
 ·rw [h2] at hc
  injection hc with hc
  injection hc with _ hc
  exact absurd hc (by decide)
 omega
theorem St.NP {A : Option Addr} {c n1 : Nat} {r : List S40} (HS : St T w0 w W g f0 f1 f2 os ks Z) (hm : (Value.slice A n1 c, r) ∈ os := by repeat (first | exact .head _ | apply List.Mem.tail)) :
 St T w0 w (W.alloc (.cells #[.slice A n1 c] 22)) g f0 f1 f2 os ((.slice (some ⟨W.heap.size, 0, none⟩) ([r] : List (List S40)).length 1, [r]) :: ks) Z := HS.lits (inner := [.slice A n1 c]) rfl (by simp) (dR.one (HS.fk hm) (dR.none _ _))
theorem St.NM {A B C : Option Addr} {c d e n1 n2 n3 : Nat} {r s t : List S40} (HS : St T w0 w W g f0 f1 f2 os ks Z) (hm : (Value.slice A n1 c, r) ∈ os := by repeat (first | exact .head _ | apply List.Mem.tail)) (hm2 : (Value.slice B n2 d, s) ∈ os := by repeat (first | exact .head _ | apply List.Mem.tail)) (hm3 : (Value.slice C n3 e, t) ∈ os := by repeat (first | exact .head _ | apply List.Mem.tail)) :
 St T w0 w (W.alloc (.cells #[.slice A n1 c, .slice B n2 d, .slice C n3 e] 22)) g f0 f1 f2 os ((.slice (some ⟨W.heap.size, 0, none⟩) ([r, s, t] : List (List S40)).length 3, [r, s, t]) :: ks) Z := HS.lits (inner := [.slice A n1 c, .slice B n2 d, .slice C n3 e]) rfl (by simp) (dR.one (HS.fk hm) (dR.one (HS.fk hm2) (dR.one (HS.fk hm3) (dR.none _ _))))
theorem cL {f : FuncId} {post : Ending → World → Prop} {F : Option (List S40 × Int × Bool)} {K : List S40 × Int × Bool → Option β} (HS : St T w0 w W g f0 f1 f2 os ks Z) (H : ae (F.bind K = some R))
 (hC : ∀ t q b, Rd T w0 W g f0 f1 f2 → Below w0.heap.size w0 W → F = some (t, q, b) → Calls P f args W (Back T w0 W g f0 q b (IsL W t)))
 (h : ∀ t q b w' A c, St T w0 w w' g f0 q b ((.slice A t.length c, t) :: os) ks Z → ae (K (t, q, b) = some R) → post (.returned (.slice A t.length c)) w') : Calls P f args W post := by
 obtain ⟨⟨t, q, b⟩, h1, h2⟩ := Option.bind_eq_some_iff.mp H.out
 refine (hC t q b HS.rd HS.below h1).mono ?_
 rintro _ w' ⟨⟨v, rfl, ho⟩, hi, hb, hk⟩
 obtain ⟨A, c, rfl⟩ := Kd.dL ho
 exact h t q b w' A c ((HS.step hk hi hb).push (dD HS.keep) ho) ⟨h2⟩
theorem DX {W : World} {o : Obj} {p : Addr} {v : Value} (h : W.cell? p = some v) : (W.alloc o).cell? p = some v := (World.cell?_alloc_lt W o p (World.block_lt_of_cell? _ _ h)).trans h
theorem cJ {f : FuncId} {post : Ending → World → Prop} {F : Option (List S40)} {K : List S40 → Option β} {A : Option Addr} {c : Nat} {l : List (List S40)}
 (HS : St T w0 w W g f0 f1 f2 os ((.slice A l.length c, l) :: ks) Z) (H : ae (F.bind K = some R))
 (hC : ∀ t, Kd.C (Kd.slice 40 k40) W A l.length l → l.length ≤ c → F = some t → Calls P f args W (fun e w' => ∃ v, e = .returned v ∧ Kd.R k40 40 w' W.heap.size (fun _ => True) v t ∧ Below W.heap.size W w'))
 (h : ∀ t w' A c, St T w0 w w' g f0 f1 f2 ((.slice A t.length c, t) :: os) ks Z → Below W.heap.size W w' → ae (K t = some R) → post (.returned (.slice A t.length c)) w') : Calls P f args W post := by
 obtain ⟨t, h1, h2⟩ := Option.bind_eq_some_iff.mp H.out
 obtain ⟨⟨ok, hn, _⟩, _⟩ := HS.s
 obtain ⟨_, hc, hr⟩ := Kd.uf hn
 refine (hC t hr hc h1).mono ?_
 rintro _ w' ⟨v, rfl, ho, hb⟩
 obtain ⟨A, c, rfl⟩ := Kd.dL ho
 exact h t w' A c ((HS.pop.jS hb).push (dD HS.keep) ho) hb ⟨h2⟩
/-- A tree is made of one that was made. -/
theorem cS {f : FuncId} {post : Ending → World → Prop} {F : Option (List S40)} {K : List S40 → Option β} {A : Option Addr} {n c : Nat} {l : List S40}
 (HS : St T w0 w W g f0 f1 f2 os ks Z) (H : ae (F.bind K = some R)) (hm : (Value.slice A n c, l) ∈ os)
 (hC : ∀ t, n = l.length → Kd.C k40 W A l.length l → l.length ≤ c → F = some t → Calls P f args W (fun e w' => ∃ v, e = .returned v ∧ Kd.R k40 40 w' W.heap.size (fun _ => True) v t ∧ Below W.heap.size W w'))
 (h : ∀ t w' A c, St T w0 w w' g f0 f1 f2 ((.slice A t.length c, t) :: os) ks Z → Below W.heap.size W w' → ae (K t = some R) → post (.returned (.slice A t.length c)) w') : Calls P f args W post := by
 obtain ⟨t, h1, h2⟩ := Option.bind_eq_some_iff.mp H.out
 obtain ⟨hn, hc, hr⟩ := Kd.bG (HS.o _ hm)
 refine (hC t hn hr (by rw [← hn]; exact hc) h1).mono ?_
 rintro _ w' ⟨v, rfl, ho, hb⟩
 obtain ⟨A, c, rfl⟩ := Kd.dL ho
 exact h t w' A c ((HS.jS hb).push (dD HS.keep) ho) hb ⟨h2⟩
/-- The first node of a tree that was made. -/
theorem St.node {A : Option Addr} {n c : Nat} {t : List S40} (HS : St T w0 w W g f0 f1 f2 os ks Z) (hm : (Value.slice A n c, t) ∈ os) (h : 0 < (t.length : Int)) : ∃ ad, A = some ad ∧ W.cell? ad = some (.int .i64 (ak t 0).f0) ∧ W.cell? ⟨ad.block, ad.off + 2, none⟩ = some (.string (ak t 0).f2) := by
 obtain ⟨ad, e, h0, h1, h2, h3, h4⟩ := iV (Kd.bG (HS.o _ hm)).2.2 0 (by omega) h
 refine ⟨ad, e, ?_, ?_⟩
 ·rwa [show (0 : Int).toNat * 5 = 0 from rfl, Addr.add_zero'] at h0
 rwa [show (0 : Int).toNat * 5 = 0 from rfl, Addr.add_zero'] at h2
theorem St.NL {ad : Addr} {n c : Nat} {t : List S40} (HS : St T w0 w W g f0 f1 f2 os ks Z) (hm : (Value.slice (some ad) n c, t) ∈ os) (h : (0 < (t.length : Int)) = True) : W.cell? ad = some (.int .i64 (ak t 0).f0) ∧ W.cell? ⟨ad.block, ad.off + 2, none⟩ = some (.string (ak t 0).f2) := by
 obtain ⟨ad', e, h1⟩ := HS.node hm (of_eq_true h)
 cases e
 exact h1
structure JR (p : Prop) : Prop where
 h : p
/-- A struct that is boxed. -/
theorem boxS {N : Tmp} {cs : Array Value} {t : TypeId} (HS : St T w0 w W g f0 f1 f2 os ks Z) (hrun : (execOp a.eval oi).run P W = .ok (.value (.pointer (some ⟨W.heap.size, 0, none⟩))) (W.alloc (.cells cs t (0, 0))))
 (h : ∀ gb w', St T w0 w w' g f0 f1 f2 os ks ⟨(gb, .cells cs t (0, 0)) :: Z.bs, Z.ss⟩ → gb ≠ g → w.heap.size ≤ gb → wpList P ops Q rest (a.put (some N) (.pointer (some ⟨gb, 0, none⟩))) w')
 (hd : oi.dst = some N := by rfl) (hg : oi.guard = none := by rfl) : wpList P ops Q (oi :: rest) a W := by
 refine dS hg hd hrun ?_
 intro gb hgb w1 hc hb
 have hne : gb ≠ g := by rw [hgb]; exact Nat.ne_of_gt HS.rd.lt
 have h1 := HS.jS hb
 rw [hd]
 exact h gb w1 ⟨h1.t, h1.z, h1.rd, h1.below, h1.keep, h1.o, h1.s, fun p hp => (by
  rcases List.mem_cons.1 hp with rfl | hp
  ·exact ⟨hc, hne⟩
  exact h1.b p hp), h1.ss⟩ hne (by rw [hgb]; exact dD HS.keep)
theorem St.box (HS : St T w0 w W g f0 f1 f2 os ks Z) {gb : Nat} {cs : Array Value} {t : TypeId} {l : List (Nat × Obj)} {ss : List (Value × List ByteArray)} (hZ : Z = ⟨(gb, .cells cs t (0, 0)) :: l, ss⟩) : W.heap[gb]? = some (.cells cs t (0, 0)) := by
 subst hZ
 exact (HS.b _ (.head _)).1
end
theorem pG (a : Int) (b : ByteArray) (c d : Int) (w : World) : (Instr.field 56 (.agg #[.int .i64 a, .string b, .int .i64 c, .int .i64 d]) 0).run Try.prog w = .ok (.int .i64 a) w := by kernel_rfl
theorem pF (a : Int) (b : ByteArray) (c d : Int) (w : World) : (Instr.field 56 (.agg #[.int .i64 a, .string b, .int .i64 c, .int .i64 d]) 1).run Try.prog w = .ok (.string b) w := by kernel_rfl
theorem pz (a : Int) (b : ByteArray) (c d : Int) (w : World) : (Instr.field 56 (.agg #[.int .i64 a, .string b, .int .i64 c, .int .i64 d]) 2).run Try.prog w = .ok (.int .i64 c) w := by kernel_rfl
theorem pg (a : Int) (b : ByteArray) (c d : Int) (w : World) : (Instr.field 56 (.agg #[.int .i64 a, .string b, .int .i64 c, .int .i64 d]) 3).run Try.prog w = .ok (.int .i64 d) w := by kernel_rfl
end Go.Proofs.Ytlenihbmafkegaa.Q
end
section
set_option linter.unusedVariables false
namespace Go.Proofs.Ytlenihbmafkegaa.Q
open Go Go.RowKit Go.Proofs.YtlenihbmafkegaaW.PrintWords Go.Proofs.YtlenihbmafkegaaW.PrintLast Go.Proofs.YtlenihbmafkegaaW.PrintMore
theorem toL {P : Program} {f : FuncId} {args : Array Value} {w0 w : World} {g : Nat} {s0 : List S56} {q : Int} {b : Bool} {r : List S40}
 (h : Calls P f args w fun e w' => ∃ v0_ : Value, e = .returned (v0_) ∧ Kd.R k40 40 w' w.heap.size (fun _ => True) v0_ r ∧ aY w0 w' g s0 q b ∧ Below w0.heap.size w0 w' ∧ aQ w w' g none) : Calls P f args w (Back 72 w0 w g s0 q b (IsL w r)) :=
 h.mono fun e w' ⟨v, h1, h2, h3, h4, h5⟩ => ⟨⟨v, h1, h2⟩, h3, h4, h5⟩
theorem ofL {P : Program} {f : FuncId} {args : Array Value} {w0 w : World} {g : Nat} {s0 : List S56} {q : Int} {b : Bool} {r : List S40}
 (h : Calls P f args w (Back 72 w0 w g s0 q b (IsL w r))) : Calls P f args w fun e w' => ∃ v0_ : Value, e = .returned (v0_) ∧ Kd.R k40 40 w' w.heap.size (fun _ => True) v0_ r ∧ aY w0 w' g s0 q b ∧ Below w0.heap.size w0 w' ∧ aQ w w' g none :=
 h.mono fun e w' ⟨⟨v, h1, h2⟩, h3, h4, h5⟩ => ⟨v, h1, h2, h3, h4, h5⟩
section
variable {P : Program} {ops : Array Oper} {Q : Exit → Act → World → Prop} {T : Nat} {w0 w W : World} {g : Nat} {f0 : List S56} {f1 : Int} {f2 : Bool} {os : List (Value × List S40)} {ks : List (Value × List (List S40))} {Z : Ext}
 {rest : List Oper} {oi : Oper} {a : Act} {fn : Func} {ar : Array Operand} {ts : Array TypeId} {args : Array Value} {ρ β : Type} {R : β}
/-- A text is what it is asked for, or isn't. -/
theorem tS (t : ByteArray) (K : List UInt8) : (t.toList = K ∧ (t.toList == K) = true ∧ (t.toList != K) = false) ∨ (t.toList ≠ K ∧ (t.toList == K) = false ∧ (t.toList != K) = true) := by
 by_cases h : t.toList = K
 ·exact .inl ⟨h, beq_iff_eq.mpr h, bne_eq_false_iff_eq.mpr h⟩
 exact .inr ⟨h, beq_eq_false_iff_ne.mpr h, bne_iff_ne.mpr h⟩
theorem nS (x y : Int) : (x = y ∧ (x == y) = true ∧ (x != y) = false) ∨ (x ≠ y ∧ (x == y) = false ∧ (x != y) = true) := by
 by_cases h : x = y
 ·exact .inl ⟨h, beq_iff_eq.mpr h, bne_eq_false_iff_eq.mpr h⟩
 exact .inr ⟨h, beq_eq_false_iff_ne.mpr h, bne_iff_ne.mpr h⟩
/-- The state goes on over stores into it or into a struct of the call's own, draws, blocks that are made. -/
theorem stX {W0 : World} {p : Int} {c : Bool} {os' : List (Value × List S40)} {ks' : List (Value × List (List S40))} {Z' : Ext} (H : St T w0 w W0 g f0 p c os ks Z) (f : St T w0 w W0 g f0 p c os ks Z → St T w0 w W g f0 f1 f2 os' ks' Z' := by (intro h_; repeat (first | (with_reducible exact h_) | apply St.drewN | apply St.drew | apply St.set1 | apply St.set2 | apply St.alloc | apply St.setB (hge := by assumption)))) : St T w0 w W g f0 f1 f2 os' ks' Z' := f H
theorem cX {f : FuncId} {post : Ending → World → Prop} {F : Option (ByteArray × Int × Bool)} {K : ByteArray × Int × Bool → Option β} (HS : St T w0 w W g f0 f1 f2 os ks Z) (H : ae (F.bind K = some R))
 (hC : ∀ t q b, Rd T w0 W g f0 f1 f2 → Below w0.heap.size w0 W → F = some (t, q, b) → Calls P f args W (Back T w0 W g f0 q b fun e _ => e = .returned (.string t)))
 (h : ∀ t q b w', St T w0 w w' g f0 q b os ks Z → ae (K (t, q, b) = some R) → post (.returned (.string t)) w') : Calls P f args W post := by
 obtain ⟨⟨t, q, b⟩, h1, h2⟩ := Option.bind_eq_some_iff.mp H.out
 refine (hC t q b HS.rd HS.below h1).mono ?_
 rintro _ w' ⟨rfl, hi, hb, hk⟩
 exact h t q b w' (HS.step hk hi hb) ⟨h2⟩
/-- A token, and whether there is one. -/
theorem sX (f : FuncId) {N : Tmp} (hop : oi.op = .call { callee := .value (.func f), args := ar, argTypes := ts }) (hf : P.funcs[f]? = some fn) {F : Option (Int × ByteArray × Int × Int × Bool × Int × Bool)} {K : Int × ByteArray × Int × Int × Bool × Int × Bool → Option β}
 (HS : St T w0 w W g f0 f1 f2 os ks Z) (H : ae (F.bind K = some R))
 (hC : ∀ t1 t2 t3 t4 o q b, Rd T w0 W g f0 f1 f2 → Below w0.heap.size w0 W → F = some (t1, t2, t3, t4, o, q, b) → Calls P f args W (Back T w0 W g f0 q b fun e _ => e = .returned (.tuple #[.agg #[.int .i64 t1, .string t2, .int .i64 t3, .int .i64 t4], .bool o])))
 (h : ∀ t1 t2 t3 t4 o q b w', St T w0 w w' g f0 q b os ks Z → ae (K (t1, t2, t3, t4, o, q, b) = some R) → wpList P ops Q rest (a.put (some N) (.tuple #[.agg #[.int .i64 t1, .string t2, .int .i64 t3, .int .i64 t4], .bool o])) w')
 (hd : oi.dst = some N := by rfl) (hg : oi.guard = none := by rfl) (hname : (fn.name == "runtime.NumGoroutine") = false := by kernel_rfl) (hb : fn.body.isSome = true := by rfl)
 (hargs : ar.map a.eval = args := by ((try simp only [List.map_toArray, List.map_cons, List.map_nil]); first | done | rfl)) : wpList P ops Q (oi :: rest) a W := by
 obtain ⟨⟨t1, t2, t3, t4, o, q, b⟩, h1, h2⟩ := Option.bind_eq_some_iff.mp H.out
 refine jJ (some N) hd hg hf hname hb args hop hargs ((hC t1 t2 t3 t4 o q b HS.rd HS.below h1).mono ?_)
 rintro _ w' ⟨rfl, hi, hb, hk⟩
 exact ⟨_, rfl, h t1 t2 t3 t4 o q b w' (HS.step hk hi hb) ⟨h2⟩⟩
/-- A number that hangs on no world. -/
theorem sV (f : FuncId) {N : Tmp} (hop : oi.op = .call { callee := .value (.func f), args := ar, argTypes := ts }) (hf : P.funcs[f]? = some fn) {F : Option Int} {K : Int → Option β}
 (HS : St T w0 w W g f0 f1 f2 os ks Z) (H : ae (F.bind K = some R))
 (hC : ∀ t, F = some t → Calls P f args W (fun e w' => e = .returned (.int .i64 t) ∧ dM W w'))
 (h : ∀ t w', St T w0 w w' g f0 f1 f2 os ks Z → ae (K t = some R) → wpList P ops Q rest (a.put (some N) (.int .i64 t)) w')
 (hd : oi.dst = some N := by rfl) (hg : oi.guard = none := by rfl) (hname : (fn.name == "runtime.NumGoroutine") = false := by kernel_rfl) (hb : fn.body.isSome = true := by rfl)
 (hargs : ar.map a.eval = args := by ((try simp only [List.map_toArray, List.map_cons, List.map_nil]); first | done | rfl)) : wpList P ops Q (oi :: rest) a W := by
 obtain ⟨t, h1, h2⟩ := Option.bind_eq_some_iff.mp H.out
 refine jJ (some N) hd hg hf hname hb args hop hargs ((hC t h1).mono ?_)
 rintro _ w' ⟨rfl, hk⟩
 exact ⟨_, rfl, h t w' (HS.jS hk.below) ⟨h2⟩⟩
/-- Numbers are made of a tree that was made; what they lead to stays. -/
theorem sI2 (f : FuncId) {N : Tmp} (hop : oi.op = .call { callee := .value (.func f), args := ar, argTypes := ts }) (hf : P.funcs[f]? = some fn) {F : Option (List Int)} {K : List Int → Option β} {A : Option Addr} {n c : Nat} {l : List S40}
 (HS : St T w0 w W g f0 f1 f2 os ks Z) (H : ae (F.bind K = some R)) (hm : (Value.slice A n c, l) ∈ os)
 (hC : ∀ t, n = l.length → Kd.C k40 W A l.length l → l.length ≤ c → F = some t → Calls P f args W (fun e w' => ∃ v, e = .returned v ∧ Kd.R (Kd.int .i64) 3 w' W.heap.size (fun _ => True) v t ∧ Below W.heap.size W w'))
 (h : ∀ t w' A c, St T w0 w w' g f0 f1 f2 os ks Z → Kd.R (Kd.int .i64) 3 w' W.heap.size (fun _ => True) (.slice A t.length c) t → ae (K t = some R) → wpList P ops Q rest (a.put (some N) (.slice A t.length c)) w')
 (hd : oi.dst = some N := by rfl) (hg : oi.guard = none := by rfl) (hname : (fn.name == "runtime.NumGoroutine") = false := by kernel_rfl) (hb : fn.body.isSome = true := by rfl)
 (hargs : ar.map a.eval = args := by ((try simp only [List.map_toArray, List.map_cons, List.map_nil]); first | done | rfl)) : wpList P ops Q (oi :: rest) a W := by
 obtain ⟨t, h1, h2⟩ := Option.bind_eq_some_iff.mp H.out
 obtain ⟨hn, hc, hr⟩ := Kd.bG (HS.o _ hm)
 refine jJ (some N) hd hg hf hname hb args hop hargs ((hC t hn hr (by rw [← hn]; exact hc) h1).mono ?_)
 rintro _ w' ⟨v, rfl, ho, hb⟩
 obtain ⟨A, c, rfl⟩ := Kd.dL ho
 exact ⟨_, rfl, h t w' A c (HS.jS hb) ho ⟨h2⟩⟩
theorem St.ints {W' : World} {base : Nat} {v : Value} {xs : List Int} (h : St T w0 w W g f0 f1 f2 os ks Z) (ht : T ≠ 3) (ho : Kd.R (Kd.int .i64) 3 W base (fun _ => True) v xs) (hk : aQ W W' g none) : Kd.R (Kd.int .i64) 3 W' base (fun k => k ≠ g) v xs := by
 obtain ⟨A0, c0, hb, hg, hr⟩ := h.rd
 refine Kd.CY (Kd.fG (Kd.qN ho hb (fun q hq => ?_)) (fun _ hk => hk.2)) hk (fun _ h => h)
 have : q = 3 := by simpa [show (Kd.int .i64).E = [] from rfl] using hq
 subst this
 exact fun e => ht e.symm
end
end Go.Proofs.Ytlenihbmafkegaa.Q
end
section
set_option linter.unusedVariables false
set_option linter.unusedSimpArgs false
namespace Go.Proofs.Ytlenihbmafkegaa.Q
open Go Go.RowKit Go.Proofs.YtlenihbmafkegaaW.PrintWords Go.Proofs.YtlenihbmafkegaaW.PrintLast Go.Proofs.YtlenihbmafkegaaW.PrintMore
attribute [local go_sem] pG pF pz pg
set_option maxHeartbeats 8000000 in
set_option maxRecDepth 100000 in
theorem xK (F : Fam) (HF : kz F) (k : Nat) (g : Nat) (s0 : List S56) (s1 : Int) (s2 : Bool) (a0 : Int) (a1 : Int) (a2 : ByteArray) (a3 : Int) (a4 : ByteArray) (r : List S40) (e1 : Int) (e2 : Bool) (w0 w : World) (hI : Rd 72 w0 w g s0 s1 s2) (hB : Below w0.heap.size w0 w) (h : bD.f F k s0 s1 s2 a0 a1 a2 a3 a4 = some (r, e1, e2)) :
 Calls Try.prog 82 #[.pointer (some ⟨g, 0, none⟩), .agg #[.int .i64 a0, .int .i64 a1, .string a2, .int .i64 a3, .string a4]] w (Back 72 w0 w g s0 e1 e2 (IsL w r)) := by
 unfold bD.f at h
 have HS := St.new (T := 72) (by decide) hI hB
 have H := ae.mk h
 clear h hI hB
 go_enter Try.func82, Try.ntmps82
 go_wp2_with (first | ((with_reducible refine bF (N := 3) rfl ?_); refine boxS (N := 3) (stT HS) (by first | (go_simp; done) | (go_simp; rfl)) ?_; clear HS; intro gb w' HS hne hge; (try (have hb_ := HS.box rfl; have hx0 := (ah hb_ 0).trans rfl; have hf0 := af hb_ 0; have hx1 := (ah hb_ 1).trans rfl; have hf1 := af hb_ 1; have hx2 := (ah hb_ 2).trans rfl; have hf2 := af hb_ 2; have hx3 := (ah hb_ 3).trans rfl; have hf3 := af hb_ 3; have hx4 := (ah hb_ 4).trans rfl; have hf4 := af hb_ 4; clear hb_))) | ((with_reducible refine gC 83 rfl ?_); refine sL 83 rfl Try.func83 (stX HS) H (fun t q b hI hB h => toL (HF.expr g _ _ _ t q b w0 _ hI hB h)) ?_; (try clear hx0 hx1 hx2 hx3 hx4 hf0 hf1 hf2 hf3 hf4); clear HS H; intro t q b w' A c HS H; (try dsimp only at H)) | ((with_reducible refine gC 56 rfl ?_); refine sU 56 rfl Try.func56 (stX HS) H (fun q b hI hB => aC.calls g _ _ _ _ q b w0 _ hI hB) ?_; (try clear hx0 hx1 hx2 hx3 hx4 hf0 hf1 hf2 hf3 hf4); clear HS H; intro q b w' HS H; (try dsimp only at H); (try (have hb_ := HS.box rfl; have hx0 := (ah hb_ 0).trans rfl; have hf0 := af hb_ 0; have hx1 := (ah hb_ 1).trans rfl; have hf1 := af hb_ 1; have hx2 := (ah hb_ 2).trans rfl; have hf2 := af hb_ 2; have hx3 := (ah hb_ 3).trans rfl; have hf3 := af hb_ 3; have hx4 := (ah hb_ 4).trans rfl; have hf4 := af hb_ 4; clear hb_))) | ((with_reducible refine bF (N := 12) rfl ?_); refine o6 (N := 12) (stX HS) (by first | (go_simp; done) | (go_simp; rfl)) ?_; clear HS; intro A c w' HS) | ((with_reducible refine gC 61 rfl ?_); refine sJ 61 rfl Try.func61 (stX HS) H (fun t hr hc => az.calls _ _ _ _ _ _ _ _ _ t _ hr hc) ?_; (try clear hx0 hx1 hx2 hx3 hx4 hf0 hf1 hf2 hf3 hf4); clear HS H; intro t w' A c HS H; (try dsimp only at H)))
 all_goals
  have h_ := H.out; simp only [Option.some.injEq, Prod.mk.injEq] at h_; obtain ⟨rfl, rfl, rfl⟩ := h_
  go_ret
  exact (stT HS).lu (.head _)
set_option maxHeartbeats 8000000 in
set_option maxRecDepth 100000 in
theorem Jb (k : Nat) (g : Nat) (s0 : List S56) (s1 : Int) (s2 : Bool) (a : Int) (r : List S40) (e1 : Int) (e2 : Bool) (w0 w : World) (hI : Rd 72 w0 w g s0 s1 s2) (hB : Below w0.heap.size w0 w) (h : dQ.f k s0 s1 s2 a = some (r, e1, e2)) :
 Calls Try.prog 84 #[.pointer (some ⟨g, 0, none⟩), .int .i64 a] w (Back 72 w0 w g s0 e1 e2 (IsL w r)) := by
 unfold dQ.f at h
 have HS := St.new (T := 72) (by decide) hI hB
 have H := ae.mk h
 clear h hI hB
 go_enter Try.func84, Try.ntmps84
 go_wp2_with (first | ((with_reducible refine gC 56 rfl ?_); refine sU 56 rfl Try.func56 (stT HS) H (fun q b hI hB => aC.calls g _ _ _ _ q b w0 _ hI hB) ?_; clear HS H; intro q b w' HS H; (try dsimp only at H)) | ((with_reducible refine gC 61 rfl ?_); refine sJ 61 rfl Try.func61 (stT HS).yE H (fun t hr hc => az.calls _ _ _ _ _ _ _ _ _ t _ hr hc) ?_; clear HS H; intro t w' A c HS H; (try dsimp only at H)))
 all_goals
  have h_ := H.out; simp only [Option.some.injEq, Prod.mk.injEq] at h_; obtain ⟨rfl, rfl, rfl⟩ := h_
  go_ret
  exact (stT HS).lu (.head _)
set_option maxHeartbeats 8000000 in
set_option maxRecDepth 100000 in
theorem LM (k : Nat) (g : Nat) (s0 : List S56) (s1 : Int) (s2 : Bool) (r : List S40) (e1 : Int) (e2 : Bool) (w0 w : World) (hI : Rd 72 w0 w g s0 s1 s2) (hB : Below w0.heap.size w0 w) (h : ed.f k s0 s1 s2 = some (r, e1, e2)) :
 Calls Try.prog 59 #[.pointer (some ⟨g, 0, none⟩)] w (Back 72 w0 w g s0 e1 e2 (IsL w r)) := by
 unfold ed.f at h
 have HS := St.new (T := 72) (by decide) hI hB
 have H := ae.mk h
 clear h hI hB
 go_enter Try.func59, Try.ntmps59
 go_wp2_with (first | ((with_reducible refine bF (N := 3) rfl ?_); refine boxS (N := 3) (stT HS) (by first | (go_simp; done) | (go_simp; rfl)) ?_; clear HS; intro gb w' HS hne hge; (try (have hb_ := HS.box rfl; have hx0 := (ah hb_ 0).trans rfl; have hf0 := af hb_ 0; have hx1 := (ah hb_ 1).trans rfl; have hf1 := af hb_ 1; have hx2 := (ah hb_ 2).trans rfl; have hf2 := af hb_ 2; have hx3 := (ah hb_ 3).trans rfl; have hf3 := af hb_ 3; have hx4 := (ah hb_ 4).trans rfl; have hf4 := af hb_ 4; clear hb_))) | ((with_reducible refine gC 57 rfl ?_); refine sN 57 rfl Try.func57 (stX HS) H (fun t1 t2 t3 t4 q b hI hB => bn.calls g _ _ _ _ t1 t2 t3 t4 q b w0 _ hI hB) ?_; (try clear hx0 hx1 hx2 hx3 hx4 hf0 hf1 hf2 hf3 hf4); clear HS H; intro t1 t2 t3 t4 q b w' HS H; (try dsimp only at H); (try (have hb_ := HS.box rfl; have hx0 := (ah hb_ 0).trans rfl; have hf0 := af hb_ 0; have hx1 := (ah hb_ 1).trans rfl; have hf1 := af hb_ 1; have hx2 := (ah hb_ 2).trans rfl; have hf2 := af hb_ 2; have hx3 := (ah hb_ 3).trans rfl; have hf3 := af hb_ 3; have hx4 := (ah hb_ 4).trans rfl; have hf4 := af hb_ 4; clear hb_))) | ((with_reducible refine gC 56 rfl ?_); refine sU 56 rfl Try.func56 (stX HS) H (fun q b hI hB => aC.calls g _ _ _ _ q b w0 _ hI hB) ?_; (try clear hx0 hx1 hx2 hx3 hx4 hf0 hf1 hf2 hf3 hf4); clear HS H; intro q b w' HS H; (try dsimp only at H); (try (have hb_ := HS.box rfl; have hx0 := (ah hb_ 0).trans rfl; have hf0 := af hb_ 0; have hx1 := (ah hb_ 1).trans rfl; have hf1 := af hb_ 1; have hx2 := (ah hb_ 2).trans rfl; have hf2 := af hb_ 2; have hx3 := (ah hb_ 3).trans rfl; have hf3 := af hb_ 3; have hx4 := (ah hb_ 4).trans rfl; have hf4 := af hb_ 4; clear hb_))) | ((with_reducible refine gC 61 rfl ?_); refine sJ 61 rfl Try.func61 (stX HS).yE H (fun t hr hc => az.calls _ _ _ _ _ _ _ _ _ t _ hr hc) ?_; (try clear hx0 hx1 hx2 hx3 hx4 hf0 hf1 hf2 hf3 hf4); clear HS H; intro t w' A c HS H; (try dsimp only at H)))
 all_goals
  have h_ := H.out; simp only [Option.some.injEq, Prod.mk.injEq] at h_; obtain ⟨rfl, rfl, rfl⟩ := h_
  go_ret
  exact (stT HS).lu (.head _)
set_option maxHeartbeats 8000000 in
set_option maxRecDepth 100000 in
theorem FU (k : Nat) (g : Nat) (s0 : List S56) (s1 : Int) (s2 : Bool) (r : List S40) (e1 : Int) (e2 : Bool) (w0 w : World) (hI : Rd 72 w0 w g s0 s1 s2) (hB : Below w0.heap.size w0 w) (h : dn.f k s0 s1 s2 = some (r, e1, e2)) :
 Calls Try.prog 77 #[.pointer (some ⟨g, 0, none⟩)] w (Back 72 w0 w g s0 e1 e2 (IsL w r)) := by
 unfold dn.f at h
 have HS := St.new (T := 72) (by decide) hI hB
 have H := ae.mk h
 clear h hI hB
 go_enter Try.func77, Try.ntmps77
 go_wp2_with (first | ((with_reducible refine gC 57 rfl ?_); refine sN 57 rfl Try.func57 (stT HS) H (fun t1 t2 t3 t4 q b hI hB => bn.calls g _ _ _ _ t1 t2 t3 t4 q b w0 _ hI hB) ?_; clear HS H; intro t1 t2 t3 t4 q b w' HS H; (try dsimp only at H)) | ((with_reducible refine gC 61 rfl ?_); refine sJ 61 rfl Try.func61 (stT HS).yE H (fun t hr hc => az.calls _ _ _ _ _ _ _ _ _ t _ hr hc) ?_; clear HS H; intro t w' A c HS H; (try dsimp only at H)))
 all_goals
  have h_ := H.out; simp only [Option.some.injEq, Prod.mk.injEq] at h_; obtain ⟨rfl, rfl, rfl⟩ := h_
  go_ret
  exact (stT HS).lu (.head _)
end Go.Proofs.Ytlenihbmafkegaa.Q
end
section
namespace Go.Proofs.Ytlenihbmafkegaa.Q
open Go.RowKit Go.Proofs.YtlenihbmafkegaaW.PrintWords Go.Proofs.YtlenihbmafkegaaW.PrintLast Go.Proofs.YtlenihbmafkegaaW.PrintMore
attribute [local go_sem] jE jD jC jB df cO dI dH bV bU cZ cu
set_option linter.unusedVariables false
set_option linter.unusedSimpArgs false
/-! ### eX: function 96 -/
mutual
def eX.l0 (F : Fam) : Nat → List (List (S40)) → List (S56) → Int → Bool → Option ((List (List (S40))) × Int × Bool)
 | 0, _, _, _, _ => none
 | k + 1, x5, x1000, x1001, x1002 => if x1002 = true then (eX.j1 F k x5 false x1000 x1001 x1002) else ((bi.f x1000 x1001 x1002).bind fun bt619 => (eX.j1 F k x5 (bt619.1.toList != ([41] : List UInt8)) x1000 bt619.2.1 bt619.2.2))
def eX.j1 (F : Fam) : Nat → List (List (S40)) → Bool → List (S56) → Int → Bool → Option ((List (List (S40))) × Int × Bool)
 | 0, _, _, _, _, _ => none
 | k + 1, x5, x17, x1000, x1001, x1002 => if x17 = true then (if (x5.length : Int) > 0 then ((aC.f x1000 x1001 x1002 (⟨#[44]⟩ : ByteArray)).bind fun bt624 => ((iO.f F k x1000 bt624.1 bt624.2).bind fun bt626 => (if x5.length < 5864062014805 then (eX.l0 F k (x5 ++ [bt626.1]) x1000 bt626.2.1 bt626.2.2) else (none)))) else ((iO.f F k x1000 x1001 x1002).bind fun bt634 => (if x5.length < 5864062014805 then (eX.l0 F k (x5 ++ [bt634.1]) x1000 bt634.2.1 bt634.2.2) else (none)))) else ((aC.f x1000 x1001 x1002 (⟨#[41]⟩ : ByteArray)).bind fun bt622 => (some (x5, bt622.1, bt622.2)))
end
def eX.f (F : Fam) (k : Nat) (s0_0 : List (S56)) (s0_1 : Int) (s0_2 : Bool) : Option ((List (List (S40))) × Int × Bool) := (aC.f s0_0 s0_1 s0_2 (⟨#[40]⟩ : ByteArray)).bind fun bt617 => (eX.l0 F k ([] : List (List (S40))) s0_0 bt617.1 bt617.2)
theorem eX.bW {F F' : Fam} (HLE : jQ F F') : ∀ k, (∀ y0 y1 y2 y3, LeO (eX.l0 F k y0 y1 y2 y3) (eX.l0 F' (k + 1) y0 y1 y2 y3)) ∧ (∀ y0 y1 y2 y3 y4, LeO (eX.j1 F k y0 y1 y2 y3 y4) (eX.j1 F' (k + 1) y0 y1 y2 y3 y4))
 | 0 => ⟨fun _ _ _ _ r h => by simp [eX.l0] at h, fun _ _ _ _ _ r h => by simp [eX.j1] at h⟩
 | k + 1 => by
  obtain ⟨ih0, ih1⟩ := eX.bW HLE k
  refine ⟨?_, ?_⟩
  ·intro y0 y1 y2 y3
   unfold eX.l0
   have m0 := (iO.mono HLE)
   exact yL
  intro y0 y1 y2 y3 y4
  unfold eX.j1
  have m0 := (iO.mono HLE)
  exact yL
theorem eX.mono {F F' : Fam} (HLE : jQ F F') : ∀ a0 a1 a2 k, LeO (eX.f F k a0 a1 a2) (eX.f F' (k + 1) a0 a1 a2) := by
 intro a0 a1 a2 k
 obtain ⟨ih0, ih1⟩ := eX.bW HLE k
 unfold eX.f
 have m0 := (iO.mono HLE)
 exact yL
end Go.Proofs.Ytlenihbmafkegaa.Q
end
section
set_option linter.unusedVariables false
set_option linter.unusedSimpArgs false
namespace Go.Proofs.Ytlenihbmafkegaa.Q
open Go Go.RowKit Go.Proofs.YtlenihbmafkegaaW.PrintWords Go.Proofs.YtlenihbmafkegaaW.PrintLast Go.Proofs.YtlenihbmafkegaaW.PrintMore
attribute [local go_sem] pG pF pz pg
set_option maxHeartbeats 8000000 in
set_option maxRecDepth 100000 in
theorem zT (F : Fam) (HF : kz F) (k : Nat) (g : Nat) (s0 : List S56) (s1 : Int) (s2 : Bool) (r : List (List S40)) (e1 : Int) (e2 : Bool) (w0 w : World) (hI : Rd 72 w0 w g s0 s1 s2) (hB : Below w0.heap.size w0 w) (h : eX.f F k s0 s1 s2 = some (r, e1, e2)) :
 Calls Try.prog 76 #[.pointer (some ⟨g, 0, none⟩), .func (.func 83) #[.pointer (some ⟨g, 0, none⟩)] #[]] w (Back 72 w0 w g s0 e1 e2 (IsK w g r)) := by
 unfold eX.f at h
 have HS := St.new (T := 72) (by decide) hI hB
 have H := ae.mk h
 clear h hI hB
 go_enter Try.func76, Try.ntmps76
 go_wp2_with (first | ((with_reducible refine gC 56 rfl ?_); refine sU 56 rfl Try.func56 (stT HS) H (fun q b hI hB => aC.calls g _ _ _ _ q b w0 _ hI hB) ?_; clear HS H; intro q b w' HS H; (try dsimp only at H)))
 (try simp only [Act.put, List.setIfInBounds_toArray, List.set_cons_zero, List.set_cons_succ])
 go_loopg [5] k (fun kq v3 w' => ∃ (x3 : List (List S40)) (p : Int) (d : Bool) (A : Option Addr) (c : Nat), v3 = .slice A x3.length c ∧ ae (eX.l0 F kq x3 s0 p d = some (r, e1, e2)) ∧ ae (kq ≤ k) ∧ St 72 w0 w w' g s0 p d [] [(.slice A x3.length c, x3)] ⟨[], []⟩)
 case atStart => exact ⟨[], _, _, none, 0, rfl, H, ⟨Nat.le_refl _⟩, (stT HS).clear.yE⟩
 case round =>
  clear HS H
  obtain ⟨x3, p, d, A, c, rfl, H, HK1, HS⟩ := hrel
  cases gk with
  | zero => exact absurd H.out (by simp [eX.l0])
  | succ k1 =>
   simp only [eX.l0] at H
   cases k1 with
   | zero => exact absurd H.out (by cases d <;> simp [eX.j1])
   | succ k2 =>
   simp only [eX.j1] at H
   have hc2 := HS.rd.cell2
   by_cases hx : (x3.length : Int) > 0
   all_goals
    simp only [hx, if_true, if_false] at H
    first | (have hxb : decide (0 < (x3.length : Int)) = true := decide_eq_true hx; have hxc : decide (0 < x3.length) = true := decide_eq_true (by omega)) | (have hxb : decide (0 < (x3.length : Int)) = false := decide_eq_false hx; have hxc : decide (0 < x3.length) = false := decide_eq_false (by omega))
    clear hx
   all_goals
    cases d <;> (try simp only [if_true, if_false, eq_self, Bool.false_eq_true, Bool.not_true, Bool.not_false] at H)
   all_goals go_wp2_with (first | (go_at_call 75; refine cX (stT HS) H (fun t q b hI hB => bi.calls g _ _ _ t q b w0 _ hI hB) ?_; clear HS H; intro t q b w' HS H; (try dsimp only at H); rcases tS t ([41] : List UInt8) with ⟨c, cb1, cn1⟩ | ⟨c, cb1, cn1⟩ <;> (simp only [cn1, if_true, if_false, eq_self, Bool.false_eq_true] at H; clear c)) | ((with_reducible refine gC 56 rfl ?_); refine sU 56 rfl Try.func56 (stT HS) H (fun q b hI hB => aC.calls g _ _ _ _ q b w0 _ hI hB) ?_; clear HS H; intro q b w' HS H; (try dsimp only at H)) | (go_at_call 83; refine cL (stT HS) H (fun t q b hI hB h => toL (HF.expr g _ _ _ t q b w0 _ hI hB h)) ?_; clear HS H; intro t q b w' A c HS H; (try dsimp only at H)) | ((with_reducible refine bF (N := 26) rfl ?_); refine o6 (N := 26) (stT HS) (by first | (go_simp; done) | (go_simp; rfl)) ?_; clear HS; intro A c w' HS) | ((with_reducible refine dO (b := .append) (xs := #[.tmp 23, .tmp 26]) rfl ?_); at_builtin; refine zo (N := 27) (.tmp 23) (.tmp 26) rfl Try.underlying86 info22 (stT HS) rfl rfl H ?_; clear HS H; intro A c w' HS H; (try replace H := hB H); (try dsimp only at H)))
   all_goals first
    | (go_roundg k2; (case measure => have := HK1.out; omega); (case rel => exact ⟨_, _, _, _, _, by first | rfl | simp, H, ⟨by have := HK1.out; omega⟩, stT HS⟩))
    | (have h_ := H.out; simp only [Option.some.injEq, Prod.mk.injEq] at h_; obtain ⟨rfl, rfl, rfl⟩ := h_; go_ret; exact (stT HS).KP)
end Go.Proofs.Ytlenihbmafkegaa.Q
end
