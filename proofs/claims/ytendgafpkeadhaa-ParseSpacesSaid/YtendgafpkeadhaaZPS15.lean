/- Walks over functions of the program, words for them, and what the functions come to; of each text only what this claim uses; no condition. -/
import Derived.Test.YtendgafpkeadhaaZPS0
import Derived.Test.YtendgafpkeadhaaZPS1
import Derived.Test.YtendgafpkeadhaaZPS3
import Derived.Test.YtendgafpkeadhaaZPS4
import Derived.Test.YtendgafpkeadhaaZPS14
section
namespace Go.Proofs.Ytendgafpkeadhaa.Q
open Go.RowKit Go.Proofs.YtendgafpkeadhaaW.PrintWords Go.Proofs.YtendgafpkeadhaaW.PrintLast Go.Proofs.YtendgafpkeadhaaW.PrintMore
attribute [local go_sem] max2_int min2_int max_two min_two max_three min_three max_four min_four
set_option linter.unusedVariables false
set_option linter.unusedSimpArgs false
/-! ### bu: function 27 -/
def bu.l0 : Nat → ByteArray → List Int → Int → Int → Option (ByteArray)
 | 0, _, _, _, _ => none
 | k + 1, x0, x3, x8, x9 => if x9 < x8 then (if 0 ≤ x9 then (if x9 < (x0.size : Int) then (if (bt x0 x9) = 10 then ((some (([92, 110] : List Int) : List Int)).bind fun y976 => (if x3.length + y976.length < 140737488355328 then (bu.l0 k x0 (x3 ++ y976) x8 (wrap64 (x9 + 1))) else (none))) else (if (bt x0 x9) = 34 then ((some (([92, bt x0 x9] : List Int) : List Int)).bind fun y982 => (if x3.length + y982.length < 140737488355328 then (bu.l0 k x0 (x3 ++ y982) x8 (wrap64 (x9 + 1))) else (none))) else (if (bt x0 x9) = 92 then ((some (([92, bt x0 x9] : List Int) : List Int)).bind fun y988 => (if x3.length + y988.length < 140737488355328 then (bu.l0 k x0 (x3 ++ y988) x8 (wrap64 (x9 + 1))) else (none))) else (if x3.length < 140737488355328 then (bu.l0 k x0 (x3 ++ [bt x0 x9]) x8 (wrap64 (x9 + 1))) else (none))))) else (none)) else (none)) else (if x3.length < 140737488355328 then (some (strOfNums (x3 ++ [34]))) else (none))
def bu.f (k : Nat) (a0 : ByteArray) : Option (ByteArray) := bu.l0 k a0 (([34] : List Int)) (a0.size : Int) 0
theorem bu.mono_l : ∀ k, (∀ y0 y1 y2 y3, LeO (bu.l0 k y0 y1 y2 y3) (bu.l0 (k + 1) y0 y1 y2 y3))
 | 0 => fun _ _ _ _ r h => by simp [bu.l0] at h
 | k + 1 => by
  have ih0 := bu.mono_l k
  intro y0 y1 y2 y3
  unfold bu.l0
  exact yL
theorem bu.mono : ∀ a0 k, LeO (bu.f k a0) (bu.f (k + 1) a0) := by
 intro a0 k
 have ih0 := bu.mono_l k
 unfold bu.f
 exact yL
set_option maxHeartbeats 8000000 in
set_option maxRecDepth 100000 in
theorem bu.calls (k : Nat) (a0 : ByteArray) (r : ByteArray) (w : World) (h : bu.f k a0 = some r) :
 Calls Try.prog 27 #[.string a0] w fun e w' => e = .returned (.string r) ∧ Below w.heap.size w w' := by
 have HB := Aside0.mk (Below.refl w.heap.size w)
 have H := h
 clear h
 unfold bu.f at H
 obtain ⟨y970, hy970⟩ : ∃ y_ : List Int, y_ = (([34] : List Int)) := ⟨_, rfl⟩
 replace H : (bu.l0 k a0 y970 (a0.size : Int) 0) = some r := by first | (rw [hy970]; with_reducible exact H) | (have H2_ := (Option.bind_some _ _).symm.trans H; rw [hy970]; with_reducible exact H2_) | (have H2_ := (Option.bind_some _ _).symm.trans H; with_reducible exact H2_) | with_reducible exact H | (rw [hy970]; exact H) | exact H
 have Ny970 := Aside0.mk hy970
 clear hy970
 have H' := Aside0.mk H
 clear H
 go_enter Try.func27, Try.ntmps27
 go_wp2_with (first | ((with_reducible refine bn (N := 6) rfl ?_); refine Kd.ug (Kd.int .u8) _ 5 ?hg (N := 6) ?hd (xs := ([34] : List Int)) (inner := [.int .u8 34]) (ok := fun _ => True) (okp := fun _ => True) ?hr ?hp (fun _ hk => hk) trivial (Below.refl _ _) (Nat.le_refl _) (by simp) ?_; (case hd => rfl); (case hg => rfl); (case hr => first | (go_simp; done) | (go_simp; rfl)); (case hp => exact (bZ.one (show Kd.M (Kd.int .u8) _ _ _ 34 [.int .u8 34] from rfl) (bZ.none _ _))); intro v971 w2 ho3 hb hg_ hnew_; clear hg_ hnew_; (first | rw [← Ny970.out] at ho3 | (simp only [Int.reduceToNat] at ho3; rw [← Ny970.out] at ho3)); refine yA2 (Kd.R_lower ho3 (below_size Z3)) (below_step Z3 hb) ?_; clear HB; intro HO972 HB; clear hb ho3))
 go_loopg [3, 9] k (fun kq v3 v9 w' => ∃ (x3_1 : List Int) (x9_1 : Int), v9 = .int .i64 x9_1 ∧ Aside0 (bu.l0 kq a0 x3_1 (a0.size : Int) x9_1 = some r) ∧ Aside0 (kq ≤ k) ∧ Aside0 (Kd.R (Kd.int .u8) 5 w' w.heap.size (fun _ => True) v3 x3_1) ∧ Aside0 (Below w.heap.size w w'))
 case atStart => exact ⟨(y970), (0), Z5, H', ⟨Nat.le_refl _⟩, ⟨by (with_reducible repeat (first | apply Kd.R_alloc | apply Kd.R_drewN | apply Kd.R_drew)); exact HO972.out⟩, ⟨Z3⟩⟩
 case round =>
  clear H'
  try clear c2
  try clear p2
  obtain ⟨x3_1, x9_1, rfl, HA, HK1, HO_3, HB⟩ := hrel
  cases gk with
  | zero => exact absurd HA.out (by simp [bu.l0])
  | succ k1 =>
   have H := HA.out
   clear HA
   simp only [bu.l0] at H
   revert H
   refine iJ (fun c4b0 H => ?_) fun c4b0 H => ?_
   ·revert H
    refine eP (fun c5b0 H => ?_) fun c5 H => ?_
    ·revert H
     refine eP (fun c6b0 H => ?_) fun c6 H => ?_
     ·revert H
      refine aC (fun c8b0 c8b1 H => ?_) fun c8 c8b0 c8b1 H => ?_
      ·obtain ⟨y976, hy976⟩ : ∃ y_ : List Int, y_ = (([92, 110] : List Int)) := ⟨_, rfl⟩
       replace H : (if x3_1.length + y976.length < 140737488355328 then (bu.l0 k1 a0 (x3_1 ++ y976) (a0.size : Int) (wrap64 (x9_1 + 1))) else (none)) = some r := by first | (rw [hy976]; with_reducible exact H) | (have H2_ := (Option.bind_some _ _).symm.trans H; rw [hy976]; with_reducible exact H2_) | (have H2_ := (Option.bind_some _ _).symm.trans H; with_reducible exact H2_) | with_reducible exact H | (rw [hy976]; exact H) | exact H
       have Ny976 := Aside0.mk hy976
       clear hy976
       revert H
       refine dN (fun c9 H => ?_) fun c9 H => ?_
       ·have LMc9 := Aside0.mk c9
        clear c9
        obtain ⟨y979, hy979⟩ : ∃ y_ : List Int, y_ = (x3_1 ++ y976) := ⟨_, rfl⟩
        replace H : (bu.l0 k1 a0 y979 (a0.size : Int) (wrap64 (x9_1 + 1))) = some r := by first | (rw [hy979]; with_reducible exact H) | (have H2_ := (Option.bind_some _ _).symm.trans H; rw [hy979]; with_reducible exact H2_) | (have H2_ := (Option.bind_some _ _).symm.trans H; with_reducible exact H2_) | with_reducible exact H | (rw [hy979]; exact H) | exact H
        have Ny979 := Aside0.mk hy979
        clear hy979
        have H' := Aside0.mk H
        clear H
        have p7 : 0 ≤ (x9_1 : Int) := of_decide_eq_true Z6
        have q7 : x9_1 < (a0.size : Int) := of_decide_eq_true Z6
        have hx7 := gW a0 x9_1
        replace p7 := eq_true p7
        replace q7 := eq_true q7
        go_wp2_with (first | ((with_reducible refine bn (N := 23) rfl ?_); refine Kd.ug (Kd.int .u8) _ 5 ?hg (N := 23) ?hd (xs := ([92, 110] : List Int)) (inner := [.int .u8 92, .int .u8 110]) (ok := fun _ => True) (okp := fun _ => True) ?hr ?hp (fun _ hk => hk) trivial (Below.refl _ _) (Nat.le_refl _) (by simp) ?_; (case hd => rfl); (case hg => rfl); (case hr => first | (go_simp; done) | (go_simp; rfl)); (case hp => exact (bZ.one (show Kd.M (Kd.int .u8) _ _ _ 92 [.int .u8 92] from rfl) (bZ.one (show Kd.M (Kd.int .u8) _ _ _ 110 [.int .u8 110] from rfl) (bZ.none _ _)))); intro v977 w10 ho11 hb hg_ hnew_; clear hg_ hnew_; (first | rw [← Ny976.out] at ho11 | (simp only [Int.reduceToNat] at ho11; rw [← Ny976.out] at ho11)); refine yA3 (Kd.R_elder' Z10 (Kd.R_base ho11) hb) (Kd.R_lower (Kd.R_new' ho11 (Kd.R_lt Z10)) (below_size Z3)) (below_step Z3 hb) ?_; clear HO_3 HB; intro HO_3 HO978 HB; clear hb ho11; obtain ⟨Ao13, co13, rfl⟩ := Kd.R_slice HO978.out) | ((with_reducible refine bP (b := .append) (xs := #[.tmp 22, .tmp 23]) rfl ?_); at_builtin; refine Kd.iF (Kd.int .u8) (w0 := w) w.heap.size rfl (.tmp 22) (.tmp 23) 81 5 (.int .u8 0) 1 rfl Try.underlying81 info5 rfl (by decide) (by omega) u3 x3_1 y976 _ _ _ (fun k_ => some k_ ≠ (.slice Ao13 y976.length co13 : Value).ownBlock) (fun _ => False) rfl rfl ?aO ?aR (fun _ _ h => h) (fun _ h => h.elim) ?aF ?aB ?aS ?aL ?_; (case aR => repeat (first | exact (Kd.R_reads' HO978.out).2.2 | (with_reducible refine Kd.C_alloc ?_ _) | (with_reducible refine Kd.C_drewN ?_ _) | (with_reducible refine Kd.C_drew ?_))); (case aB => exact Z3); (case aF => exact (fun k_ hk => Kd.fresh' (Kd.R_lt (by (with_reducible repeat (first | apply Kd.R_alloc | apply Kd.R_drewN | apply Kd.R_drew)); exact HO978.out)) k_ hk)); (case aO => exact Z65); (case aS => exact (below_size Z3)); (case aL => have := LMc9.out; omega); intro v980 w12 ho hb hg hat; rw [← Ny979.out] at ho; refine yA3 (Kd.qw (ok := (fun _ => True)) (by (with_reducible repeat (first | apply Kd.R_alloc | apply Kd.R_drewN | apply Kd.R_drew)); exact HO978.out) hg hat) (hb) (ho) ?_; clear HO978 HB HO_3; intro HO978 HB HO981; clear ho hb hg hat))
        go_roundg k1
        case measure => have := HK1.out; omega
        case rel => exact ⟨(y979), (wrap64 (x9_1 + 1)), Z5, H', ⟨by have := HK1.out; omega⟩, ⟨by (with_reducible repeat (first | apply Kd.R_alloc | apply Kd.R_drewN | apply Kd.R_drew)); exact Kd.aT HO981.out (fun _ hk => trivial)⟩, ⟨Z3⟩⟩
       exact absurd H (by simp)
      revert H
      refine aC (fun c14b0 c14b1 H => ?_) fun c14 c14b0 c14b1 H => ?_
      ·obtain ⟨y982, hy982⟩ : ∃ y_ : List Int, y_ = (([92, bt a0 x9_1] : List Int)) := ⟨_, rfl⟩
       replace H : (if x3_1.length + y982.length < 140737488355328 then (bu.l0 k1 a0 (x3_1 ++ y982) (a0.size : Int) (wrap64 (x9_1 + 1))) else (none)) = some r := by first | (rw [hy982]; with_reducible exact H) | (have H2_ := (Option.bind_some _ _).symm.trans H; rw [hy982]; with_reducible exact H2_) | (have H2_ := (Option.bind_some _ _).symm.trans H; with_reducible exact H2_) | with_reducible exact H | (rw [hy982]; exact H) | exact H
       have Ny982 := Aside0.mk hy982
       clear hy982
       revert H
       refine dN (fun c15 H => ?_) fun c15 H => ?_
       ·have LMc15 := Aside0.mk c15
        clear c15
        obtain ⟨y985, hy985⟩ : ∃ y_ : List Int, y_ = (x3_1 ++ y982) := ⟨_, rfl⟩
        replace H : (bu.l0 k1 a0 y985 (a0.size : Int) (wrap64 (x9_1 + 1))) = some r := by first | (rw [hy985]; with_reducible exact H) | (have H2_ := (Option.bind_some _ _).symm.trans H; rw [hy985]; with_reducible exact H2_) | (have H2_ := (Option.bind_some _ _).symm.trans H; with_reducible exact H2_) | with_reducible exact H | (rw [hy985]; exact H) | exact H
        have Ny985 := Aside0.mk hy985
        clear hy985
        have H' := Aside0.mk H
        clear H
        have p7 : 0 ≤ (x9_1 : Int) := of_decide_eq_true Z6
        have q7 : x9_1 < (a0.size : Int) := of_decide_eq_true Z6
        have hx7 := gW a0 x9_1
        replace p7 := eq_true p7
        replace q7 := eq_true q7
        go_wp2_with (first | ((with_reducible refine bn (N := 30) rfl ?_); refine Kd.ug (Kd.int .u8) _ 5 ?hg (N := 30) ?hd (xs := ([92, bt a0 x9_1] : List Int)) (inner := [.int .u8 92, .int .u8 (bt a0 x9_1)]) (ok := fun _ => True) (okp := fun _ => True) ?hr ?hp (fun _ hk => hk) trivial (Below.refl _ _) (Nat.le_refl _) (by simp) ?_; (case hd => rfl); (case hg => rfl); (case hr => first | (go_simp; done) | (go_simp; rfl)); (case hp => exact (bZ.one (show Kd.M (Kd.int .u8) _ _ _ 92 [.int .u8 92] from rfl) (bZ.one (show Kd.M (Kd.int .u8) _ _ _ (bt a0 x9_1) [.int .u8 (bt a0 x9_1)] from rfl) (bZ.none _ _)))); intro v983 w16 ho17 hb hg_ hnew_; clear hg_ hnew_; (first | rw [← Ny982.out] at ho17 | (simp only [Int.reduceToNat] at ho17; rw [← Ny982.out] at ho17)); refine yA3 (Kd.R_elder' Z10 (Kd.R_base ho17) hb) (Kd.R_lower (Kd.R_new' ho17 (Kd.R_lt Z10)) (below_size Z3)) (below_step Z3 hb) ?_; clear HO_3 HB; intro HO_3 HO984 HB; clear hb ho17; obtain ⟨Ao19, co19, rfl⟩ := Kd.R_slice HO984.out) | ((with_reducible refine bP (b := .append) (xs := #[.tmp 28, .tmp 30]) rfl ?_); at_builtin; refine Kd.iF (Kd.int .u8) (w0 := w) w.heap.size rfl (.tmp 28) (.tmp 30) 81 5 (.int .u8 0) 1 rfl Try.underlying81 info5 rfl (by decide) (by omega) u3 x3_1 y982 _ _ _ (fun k_ => some k_ ≠ (.slice Ao19 y982.length co19 : Value).ownBlock) (fun _ => False) rfl rfl ?aO ?aR (fun _ _ h => h) (fun _ h => h.elim) ?aF ?aB ?aS ?aL ?_; (case aR => repeat (first | exact (Kd.R_reads' HO984.out).2.2 | (with_reducible refine Kd.C_alloc ?_ _) | (with_reducible refine Kd.C_drewN ?_ _) | (with_reducible refine Kd.C_drew ?_))); (case aB => exact Z3); (case aF => exact (fun k_ hk => Kd.fresh' (Kd.R_lt (by (with_reducible repeat (first | apply Kd.R_alloc | apply Kd.R_drewN | apply Kd.R_drew)); exact HO984.out)) k_ hk)); (case aO => exact Z65); (case aS => exact (below_size Z3)); (case aL => have := LMc15.out; omega); intro v986 w18 ho hb hg hat; rw [← Ny985.out] at ho; refine yA3 (Kd.qw (ok := (fun _ => True)) (by (with_reducible repeat (first | apply Kd.R_alloc | apply Kd.R_drewN | apply Kd.R_drew)); exact HO984.out) hg hat) (hb) (ho) ?_; clear HO984 HB HO_3; intro HO984 HB HO987; clear ho hb hg hat))
        go_roundg k1
        case measure => have := HK1.out; omega
        case rel => exact ⟨(y985), (wrap64 (x9_1 + 1)), Z5, H', ⟨by have := HK1.out; omega⟩, ⟨by (with_reducible repeat (first | apply Kd.R_alloc | apply Kd.R_drewN | apply Kd.R_drew)); exact Kd.aT HO987.out (fun _ hk => trivial)⟩, ⟨Z3⟩⟩
       exact absurd H (by simp)
      revert H
      refine aC (fun c20b0 c20b1 H => ?_) fun c20 c20b0 c20b1 H => ?_
      ·obtain ⟨y988, hy988⟩ : ∃ y_ : List Int, y_ = (([92, bt a0 x9_1] : List Int)) := ⟨_, rfl⟩
       replace H : (if x3_1.length + y988.length < 140737488355328 then (bu.l0 k1 a0 (x3_1 ++ y988) (a0.size : Int) (wrap64 (x9_1 + 1))) else (none)) = some r := by first | (rw [hy988]; with_reducible exact H) | (have H2_ := (Option.bind_some _ _).symm.trans H; rw [hy988]; with_reducible exact H2_) | (have H2_ := (Option.bind_some _ _).symm.trans H; with_reducible exact H2_) | with_reducible exact H | (rw [hy988]; exact H) | exact H
       have Ny988 := Aside0.mk hy988
       clear hy988
       revert H
       refine dN (fun c21 H => ?_) fun c21 H => ?_
       ·have LMc21 := Aside0.mk c21
        clear c21
        obtain ⟨y991, hy991⟩ : ∃ y_ : List Int, y_ = (x3_1 ++ y988) := ⟨_, rfl⟩
        replace H : (bu.l0 k1 a0 y991 (a0.size : Int) (wrap64 (x9_1 + 1))) = some r := by first | (rw [hy991]; with_reducible exact H) | (have H2_ := (Option.bind_some _ _).symm.trans H; rw [hy991]; with_reducible exact H2_) | (have H2_ := (Option.bind_some _ _).symm.trans H; with_reducible exact H2_) | with_reducible exact H | (rw [hy991]; exact H) | exact H
        have Ny991 := Aside0.mk hy991
        clear hy991
        have H' := Aside0.mk H
        clear H
        have p7 : 0 ≤ (x9_1 : Int) := of_decide_eq_true Z6
        have q7 : x9_1 < (a0.size : Int) := of_decide_eq_true Z6
        have hx7 := gW a0 x9_1
        replace p7 := eq_true p7
        replace q7 := eq_true q7
        go_wp2_with (first | ((with_reducible refine bn (N := 30) rfl ?_); refine Kd.ug (Kd.int .u8) _ 5 ?hg (N := 30) ?hd (xs := ([92, bt a0 x9_1] : List Int)) (inner := [.int .u8 92, .int .u8 (bt a0 x9_1)]) (ok := fun _ => True) (okp := fun _ => True) ?hr ?hp (fun _ hk => hk) trivial (Below.refl _ _) (Nat.le_refl _) (by simp) ?_; (case hd => rfl); (case hg => rfl); (case hr => first | (go_simp; done) | (go_simp; rfl)); (case hp => exact (bZ.one (show Kd.M (Kd.int .u8) _ _ _ 92 [.int .u8 92] from rfl) (bZ.one (show Kd.M (Kd.int .u8) _ _ _ (bt a0 x9_1) [.int .u8 (bt a0 x9_1)] from rfl) (bZ.none _ _)))); intro v989 w22 ho23 hb hg_ hnew_; clear hg_ hnew_; (first | rw [← Ny988.out] at ho23 | (simp only [Int.reduceToNat] at ho23; rw [← Ny988.out] at ho23)); refine yA3 (Kd.R_elder' Z10 (Kd.R_base ho23) hb) (Kd.R_lower (Kd.R_new' ho23 (Kd.R_lt Z10)) (below_size Z3)) (below_step Z3 hb) ?_; clear HO_3 HB; intro HO_3 HO990 HB; clear hb ho23; obtain ⟨Ao25, co25, rfl⟩ := Kd.R_slice HO990.out) | ((with_reducible refine bP (b := .append) (xs := #[.tmp 28, .tmp 30]) rfl ?_); at_builtin; refine Kd.iF (Kd.int .u8) (w0 := w) w.heap.size rfl (.tmp 28) (.tmp 30) 81 5 (.int .u8 0) 1 rfl Try.underlying81 info5 rfl (by decide) (by omega) u3 x3_1 y988 _ _ _ (fun k_ => some k_ ≠ (.slice Ao25 y988.length co25 : Value).ownBlock) (fun _ => False) rfl rfl ?aO ?aR (fun _ _ h => h) (fun _ h => h.elim) ?aF ?aB ?aS ?aL ?_; (case aR => repeat (first | exact (Kd.R_reads' HO990.out).2.2 | (with_reducible refine Kd.C_alloc ?_ _) | (with_reducible refine Kd.C_drewN ?_ _) | (with_reducible refine Kd.C_drew ?_))); (case aB => exact Z3); (case aF => exact (fun k_ hk => Kd.fresh' (Kd.R_lt (by (with_reducible repeat (first | apply Kd.R_alloc | apply Kd.R_drewN | apply Kd.R_drew)); exact HO990.out)) k_ hk)); (case aO => exact Z65); (case aS => exact (below_size Z3)); (case aL => have := LMc21.out; omega); intro v992 w24 ho hb hg hat; rw [← Ny991.out] at ho; refine yA3 (Kd.qw (ok := (fun _ => True)) (by (with_reducible repeat (first | apply Kd.R_alloc | apply Kd.R_drewN | apply Kd.R_drew)); exact HO990.out) hg hat) (hb) (ho) ?_; clear HO990 HB HO_3; intro HO990 HB HO993; clear ho hb hg hat))
        go_roundg k1
        case measure => have := HK1.out; omega
        case rel => exact ⟨(y991), (wrap64 (x9_1 + 1)), Z5, H', ⟨by have := HK1.out; omega⟩, ⟨by (with_reducible repeat (first | apply Kd.R_alloc | apply Kd.R_drewN | apply Kd.R_drew)); exact Kd.aT HO993.out (fun _ hk => trivial)⟩, ⟨Z3⟩⟩
       exact absurd H (by simp)
      revert H
      refine dN (fun c26 H => ?_) fun c26 H => ?_
      ·have LMc26 := Aside0.mk c26
       clear c26
       obtain ⟨y994, hy994⟩ : ∃ y_ : List Int, y_ = (x3_1 ++ [bt a0 x9_1]) := ⟨_, rfl⟩
       replace H : (bu.l0 k1 a0 y994 (a0.size : Int) (wrap64 (x9_1 + 1))) = some r := by first | (rw [hy994]; with_reducible exact H) | (have H2_ := (Option.bind_some _ _).symm.trans H; rw [hy994]; with_reducible exact H2_) | (have H2_ := (Option.bind_some _ _).symm.trans H; with_reducible exact H2_) | with_reducible exact H | (rw [hy994]; exact H) | exact H
       have Ny994 := Aside0.mk hy994
       clear hy994
       have H' := Aside0.mk H
       clear H
       have p7 : 0 ≤ (x9_1 : Int) := of_decide_eq_true Z6
       have q7 : x9_1 < (a0.size : Int) := of_decide_eq_true Z6
       have hx7 := gW a0 x9_1
       replace p7 := eq_true p7
       replace q7 := eq_true q7
       go_wp2_with (first | ((with_reducible refine bP (b := .append) (xs := #[.tmp 16, .tmp 18]) rfl ?_); at_builtin; refine Kd.jc (Kd.int .u8) (w0 := w) w.heap.size rfl (.tmp 16) (.tmp 18) 81 5 (.int .u8 0) 1 rfl Try.underlying81 info5 rfl (by decide) (by omega) u3 x3_1 (bt a0 x9_1) [.int .u8 (bt a0 x9_1)] (fun _ => True) (fun _ => False) rfl rfl ?aP (fun _ hk => hk.elim) ?aF ?aO ?aB ?aS ?aL ?_; (case aP => exact rfl); (case aB => exact Z3); (case aF => exact (fun _ _ => trivial)); (case aO => exact Z10); (case aS => exact (below_size Z3)); (case aL => have := LMc26.out; omega); intro v995 w27 ho hb hg hat; rw [← Ny994.out] at ho; refine yA2 (hb) (ho) ?_; clear HB HO_3; intro HB HO996; clear ho hb hg hat))
       go_roundg k1
       case measure => have := HK1.out; omega
       case rel => exact ⟨(y994), (wrap64 (x9_1 + 1)), Z5, H', ⟨by have := HK1.out; omega⟩, ⟨by (with_reducible repeat (first | apply Kd.R_alloc | apply Kd.R_drewN | apply Kd.R_drew)); exact HO996.out⟩, ⟨Z3⟩⟩
      exact absurd H (by simp)
     exact absurd H (by simp)
    exact absurd H (by simp)
   revert H
   refine dN (fun c28 H => ?_) fun c28 H => ?_
   ·have LMc28 := Aside0.mk c28
    clear c28
    obtain ⟨y973, hy973⟩ : ∃ y_ : List Int, y_ = (x3_1 ++ [34]) := ⟨_, rfl⟩
    replace H : (some (strOfNums y973)) = some r := by first | (rw [hy973]; with_reducible exact H) | (have H2_ := (Option.bind_some _ _).symm.trans H; rw [hy973]; with_reducible exact H2_) | (have H2_ := (Option.bind_some _ _).symm.trans H; with_reducible exact H2_) | with_reducible exact H | (rw [hy973]; exact H) | exact H
    have Ny973 := Aside0.mk hy973
    clear hy973
    obtain rfl := Option.some.inj H
    go_wp2_with (first | ((with_reducible refine bP (b := .append) (xs := #[.tmp 33, .tmp 34]) rfl ?_); at_builtin; refine Kd.jc (Kd.int .u8) (w0 := w) w.heap.size rfl (.tmp 33) (.tmp 34) 81 5 (.int .u8 0) 1 rfl Try.underlying81 info5 rfl (by decide) (by omega) u3 x3_1 34 [.int .u8 34] (fun _ => True) (fun _ => False) rfl rfl ?aP (fun _ hk => hk.elim) ?aF ?aO ?aB ?aS ?aL ?_; (case aP => exact rfl); (case aB => exact Z3); (case aF => exact (fun _ _ => trivial)); (case aO => exact Z10); (case aS => exact (below_size Z3)); (case aL => have := LMc28.out; omega); intro v974 w29 ho hb hg hat; rw [← Ny973.out] at ho; refine yA2 (hb) (ho) ?_; clear HB HO_3; intro HB HO975; clear ho hb hg hat; have hcv30 := qU (P := Try.prog) Try.underlying81 Try.underlying5 Try.underlying9 (Kd.o7 HO975.out)))
    go_ret
    exact ⟨Z4, Z3⟩
   exact absurd H (by simp)
end Go.Proofs.Ytendgafpkeadhaa.Q
end
section
namespace Go.Proofs.Ytendgafpkeadhaa.Q
open Go.RowKit Go.Proofs.YtendgafpkeadhaaW.PrintWords Go.Proofs.YtendgafpkeadhaaW.PrintLast Go.Proofs.YtendgafpkeadhaaW.PrintMore
attribute [local go_sem] max2_int min2_int max_two min_two max_three min_three max_four min_four
set_option linter.unusedVariables false
set_option linter.unusedSimpArgs false
/-! ### lex_Text: function 16 -/
def lex_Text.l0 : Nat → ByteArray → List (S38) → Int → Int → Option (ByteArray)
 | 0, _, _, _, _ => none
 | k + 1, x3, x6, x7, x8 => if x8 < x7 then (if 0 ≤ x8 then (if x8 < (x6.length : Int) then (if x8 > 0 then (if x3.size + 1 ≤ 9223372036854775807 then (if ((rd_T38 x6 x8).f0) = 3 then ((bu.f k ((rd_T38 x6 x8).f1)).bind fun t999 => (if (x3 ++ (⟨#[32]⟩ : ByteArray)).size + t999.size ≤ 9223372036854775807 then (lex_Text.l0 k ((x3 ++ (⟨#[32]⟩ : ByteArray)) ++ t999) x6 x7 (wrap64 (x8 + 1))) else (none))) else (if (x3 ++ (⟨#[32]⟩ : ByteArray)).size + ((rd_T38 x6 x8).f1).size ≤ 9223372036854775807 then (lex_Text.l0 k ((x3 ++ (⟨#[32]⟩ : ByteArray)) ++ ((rd_T38 x6 x8).f1)) x6 x7 (wrap64 (x8 + 1))) else (none))) else (none)) else (if ((rd_T38 x6 x8).f0) = 3 then ((bu.f k ((rd_T38 x6 x8).f1)).bind fun t1000 => (if x3.size + t1000.size ≤ 9223372036854775807 then (lex_Text.l0 k (x3 ++ t1000) x6 x7 (wrap64 (x8 + 1))) else (none))) else (if x3.size + ((rd_T38 x6 x8).f1).size ≤ 9223372036854775807 then (lex_Text.l0 k (x3 ++ ((rd_T38 x6 x8).f1)) x6 x7 (wrap64 (x8 + 1))) else (none)))) else (none)) else (none)) else (some x3)
def lex_Text.f (k : Nat) (l0 : List (S38)) : Option (ByteArray) := lex_Text.l0 k (⟨#[]⟩ : ByteArray) l0 (l0.length : Int) 0
theorem lex_Text.mono_l : ∀ k, (∀ y0 y1 y2 y3, LeO (lex_Text.l0 k y0 y1 y2 y3) (lex_Text.l0 (k + 1) y0 y1 y2 y3))
 | 0 => fun _ _ _ _ r h => by simp [lex_Text.l0] at h
 | k + 1 => by
  have ih0 := lex_Text.mono_l k
  intro y0 y1 y2 y3
  unfold lex_Text.l0
  have m0 := bu.mono
  exact yL
theorem lex_Text.mono : ∀ a0 k, LeO (lex_Text.f k a0) (lex_Text.f (k + 1) a0) := by
 intro a0 k
 have ih0 := lex_Text.mono_l k
 unfold lex_Text.f
 have m0 := bu.mono
 exact yL
set_option maxHeartbeats 8000000 in
set_option maxRecDepth 100000 in
theorem lex_Text.calls (k : Nat) (A0 : Option Addr) (c0 : Nat) (l0 : List (S38)) (r : ByteArray) (w : World) (hr0 : Kd.C k38 w A0 l0.length l0) (hc0 : l0.length ≤ c0) (h : lex_Text.f k l0 = some r) :
 Calls Try.prog 16 #[.slice A0 l0.length c0] w fun e w' => e = .returned (.string r) ∧ Below w.heap.size w w' := by
 have hu38 := Try.underlying38
 have HR0 := Aside0.mk hr0
 have HC0 := Aside0.mk hc0
 clear hr0 hc0
 have HB := Aside0.mk (Below.refl w.heap.size w)
 have H := h
 clear h
 unfold lex_Text.f at H
 have H' := Aside0.mk H
 clear H
 go_enter Try.func16, Try.ntmps16
 go_wp2
 go_loopg [3, 8] k (fun kq v3 v8 w' => ∃ (x3_1 : ByteArray) (x8_1 : Int), v3 = .string x3_1 ∧ v8 = .int .i64 x8_1 ∧ Aside0 (lex_Text.l0 kq x3_1 l0 (l0.length : Int) x8_1 = some r) ∧ Aside0 (kq ≤ k) ∧ Aside0 (Below w.heap.size w w'))
 case atStart => exact ⟨((⟨#[]⟩ : ByteArray)), (0), Z5, Z5, H', ⟨Nat.le_refl _⟩, ⟨Z3⟩⟩
 case round =>
  clear H'
  try clear c1
  obtain ⟨x3_1, x8_1, rfl, rfl, HA, HK1, HB⟩ := hrel
  cases gk with
  | zero => exact absurd HA.out (by simp [lex_Text.l0])
  | succ k1 =>
   have H := HA.out
   clear HA
   simp only [lex_Text.l0] at H
   revert H
   refine iJ (fun c2b0 H => ?_) fun c2b0 H => ?_
   ·revert H
    refine eP (fun c3b0 H => ?_) fun c3 H => ?_
    ·revert H
     refine eP (fun c4b0 H => ?_) fun c4 H => ?_
     ·revert H
      refine dN (fun c5 H => ?_) fun c5 H => ?_
      ·have c5b0 : decide (0 < x8_1) = true := decide_eq_true c5
       clear c5
       revert H
       refine eG (fun c6 c6b0 c6b1 H => ?_) fun c6 H => ?_
       ·try have c6b2 : (9223372036854775807 < x3_1.size + 1) = False := eq_false (Nat.not_lt.2 c6)
        revert H
        refine aC (fun c7b0 c7b1 H => ?_) fun c7 c7b0 c7b1 H => ?_
        ·revert H
         refine yB1 fun t999 A8 H => ?_
         revert H
         refine eG (fun c9 c9b0 c9b1 H => ?_) fun c9 H => ?_
         ·have c9s := c9
          simp only [ByteArray.size_append, show ((⟨#[32]⟩ : ByteArray)).size = 1 from rfl] at c9s
          have c9t := eq_true c9s
          have c9u := eq_false (Nat.not_lt.2 c9s)
          clear c9s
          try have c9b2 : (9223372036854775807 < (x3_1 ++ (⟨#[32]⟩ : ByteArray)).size + t999.size) = False := eq_false (Nat.not_lt.2 c9)
          have H' := Aside0.mk H
          clear H
          have p997 : 0 ≤ (x8_1 : Int) := of_decide_eq_true Z6
          have q997 : x8_1 < (l0.length : Int) := of_decide_eq_true Z6
          obtain ⟨ad997, e997, hx997_0, hx997_1, hx997_2, hx997_3⟩ := og HR0.out x8_1 p997 q997
          cases e997
          replace hx997_0 := (HB.out.cell (World.block_lt_of_cell? w _ hx997_0)).trans hx997_0
          replace hx997_1 := (HB.out.cell (World.block_lt_of_cell? w _ hx997_1)).trans hx997_1
          replace hx997_2 := (HB.out.cell (World.block_lt_of_cell? w _ hx997_2)).trans hx997_2
          replace hx997_3 := (HB.out.cell (World.block_lt_of_cell? w _ hx997_3)).trans hx997_3
          replace p997 := eq_true p997
          replace q997 := eq_true q997
          go_wp2_with (first | ((with_reducible refine bn (N := 5) rfl ?_); refine bF ?hg (N := 5) ?hd (cs := #[.int .i64 0, .string (⟨#[]⟩ : ByteArray), .int .i64 0, .int .i64 0]) (t := 38) ?hr ?_; (case hd => rfl); (case hg => rfl); (case hr => first | (go_simp; done) | (go_simp; rfl)); intro gb998 hg w10 hbox hb; refine yA4 (below_step Z3 hb) (hbox) ((by rw [hg]; exact (below_size Z3) : w.heap.size ≤ gb998)) ((by rw [hg]; exact (below_size Z3) : w.heap.size ≤ gb998)) ?_; clear HB; intro HB BK998 GW998 GE998; clear hb hbox hg; have hcz11_0 : w10.cell? ⟨gb998, 0, none⟩ = some (.int .i64 0) := (ag BK998.out 0).trans rfl; have hcz11_1 : w10.cell? ⟨gb998, 1, none⟩ = some (.string (⟨#[]⟩ : ByteArray)) := (ag BK998.out 1).trans rfl; have hcz11_2 : w10.cell? ⟨gb998, 2, none⟩ = some (.int .i64 0) := (ag BK998.out 2).trans rfl; have hcz11_3 : w10.cell? ⟨gb998, 3, none⟩ = some (.int .i64 0) := (ag BK998.out 3).trans rfl; have hfz11_0 := ae BK998.out 0; have hfz11_1 := ae BK998.out 1; have hfz11_2 := ae BK998.out 2; have hfz11_3 := ae BK998.out 3) | ((with_reducible refine gC 27 rfl ?_); refine gM 27 23 rfl Try.func27 (bu.calls k1 ((rd_T38 l0 x8_1).f1) t999 _ A8.out) ?_; rintro _ w12 ⟨rfl, hb⟩; refine ⟨_, rfl, yA2 (bI (g := gb998) (o := .cells #[.int .i64 ((rd_T38 l0 x8_1).f0), .string ((rd_T38 l0 x8_1).f1), .int .i64 ((rd_T38 l0 x8_1).f2), .int .i64 ((rd_T38 l0 x8_1).f3)] 38 (0, 0)) (by refine aK (cs := #[.int .i64 ((rd_T38 l0 x8_1).f0), .string ((rd_T38 l0 x8_1).f1), .int .i64 ((rd_T38 l0 x8_1).f2), .int .i64 0]) ?_ 3 _ rfl; refine aK (cs := #[.int .i64 ((rd_T38 l0 x8_1).f0), .string ((rd_T38 l0 x8_1).f1), .int .i64 0, .int .i64 0]) ?_ 2 _ rfl; refine aK (cs := #[.int .i64 ((rd_T38 l0 x8_1).f0), .string (⟨#[]⟩ : ByteArray), .int .i64 0, .int .i64 0]) ?_ 1 _ rfl; refine aK (cs := #[.int .i64 0, .string (⟨#[]⟩ : ByteArray), .int .i64 0, .int .i64 0]) ?_ 0 _ rfl; exact BK998.out) hb) (below_step Z42 hb) ?_⟩; clear BK998 HB hb; intro BK998 HB))
          go_roundg k1
          case measure => have := HK1.out; omega
          case rel => exact ⟨((x3_1 ++ (⟨#[32]⟩ : ByteArray)) ++ t999), (wrap64 (x8_1 + 1)), Z5, Z5, H', ⟨by have := HK1.out; omega⟩, ⟨Z42⟩⟩
         exact absurd H (by simp)
        revert H
        refine eG (fun c13 c13b0 c13b1 H => ?_) fun c13 H => ?_
        ·have c13s := c13
         simp only [ByteArray.size_append, show ((⟨#[32]⟩ : ByteArray)).size = 1 from rfl] at c13s
         have c13t := eq_true c13s
         have c13u := eq_false (Nat.not_lt.2 c13s)
         clear c13s
         try have c13b2 : (9223372036854775807 < (x3_1 ++ (⟨#[32]⟩ : ByteArray)).size + ((rd_T38 l0 x8_1).f1).size) = False := eq_false (Nat.not_lt.2 c13)
         have H' := Aside0.mk H
         clear H
         have p997 : 0 ≤ (x8_1 : Int) := of_decide_eq_true Z6
         have q997 : x8_1 < (l0.length : Int) := of_decide_eq_true Z6
         obtain ⟨ad997, e997, hx997_0, hx997_1, hx997_2, hx997_3⟩ := og HR0.out x8_1 p997 q997
         cases e997
         replace hx997_0 := (HB.out.cell (World.block_lt_of_cell? w _ hx997_0)).trans hx997_0
         replace hx997_1 := (HB.out.cell (World.block_lt_of_cell? w _ hx997_1)).trans hx997_1
         replace hx997_2 := (HB.out.cell (World.block_lt_of_cell? w _ hx997_2)).trans hx997_2
         replace hx997_3 := (HB.out.cell (World.block_lt_of_cell? w _ hx997_3)).trans hx997_3
         replace p997 := eq_true p997
         replace q997 := eq_true q997
         go_wp2_with (first | ((with_reducible refine bn (N := 5) rfl ?_); refine bF ?hg (N := 5) ?hd (cs := #[.int .i64 0, .string (⟨#[]⟩ : ByteArray), .int .i64 0, .int .i64 0]) (t := 38) ?hr ?_; (case hd => rfl); (case hg => rfl); (case hr => first | (go_simp; done) | (go_simp; rfl)); intro gb998 hg w14 hbox hb; refine yA4 (below_step Z3 hb) (hbox) ((by rw [hg]; exact (below_size Z3) : w.heap.size ≤ gb998)) ((by rw [hg]; exact (below_size Z3) : w.heap.size ≤ gb998)) ?_; clear HB; intro HB BK998 GW998 GE998; clear hb hbox hg; have hcz15_0 : w14.cell? ⟨gb998, 0, none⟩ = some (.int .i64 0) := (ag BK998.out 0).trans rfl; have hcz15_1 : w14.cell? ⟨gb998, 1, none⟩ = some (.string (⟨#[]⟩ : ByteArray)) := (ag BK998.out 1).trans rfl; have hcz15_2 : w14.cell? ⟨gb998, 2, none⟩ = some (.int .i64 0) := (ag BK998.out 2).trans rfl; have hcz15_3 : w14.cell? ⟨gb998, 3, none⟩ = some (.int .i64 0) := (ag BK998.out 3).trans rfl; have hfz15_0 := ae BK998.out 0; have hfz15_1 := ae BK998.out 1; have hfz15_2 := ae BK998.out 2; have hfz15_3 := ae BK998.out 3))
         go_roundg k1
         case measure => have := HK1.out; omega
         case rel => exact ⟨((x3_1 ++ (⟨#[32]⟩ : ByteArray)) ++ ((rd_T38 l0 x8_1).f1)), (wrap64 (x8_1 + 1)), Z5, Z5, H', ⟨by have := HK1.out; omega⟩, ⟨Z42⟩⟩
        exact absurd H (by simp)
       exact absurd H (by simp)
      have c5b0 : decide (0 < x8_1) = false := decide_eq_false c5
      clear c5
      revert H
      refine aC (fun c16b0 c16b1 H => ?_) fun c16 c16b0 c16b1 H => ?_
      ·revert H
       refine yB1 fun t1000 A17 H => ?_
       revert H
       refine eG (fun c18 c18b0 c18b1 H => ?_) fun c18 H => ?_
       ·try have c18b2 : (9223372036854775807 < x3_1.size + t1000.size) = False := eq_false (Nat.not_lt.2 c18)
        have H' := Aside0.mk H
        clear H
        have p997 : 0 ≤ (x8_1 : Int) := of_decide_eq_true Z6
        have q997 : x8_1 < (l0.length : Int) := of_decide_eq_true Z6
        obtain ⟨ad997, e997, hx997_0, hx997_1, hx997_2, hx997_3⟩ := og HR0.out x8_1 p997 q997
        cases e997
        replace hx997_0 := (HB.out.cell (World.block_lt_of_cell? w _ hx997_0)).trans hx997_0
        replace hx997_1 := (HB.out.cell (World.block_lt_of_cell? w _ hx997_1)).trans hx997_1
        replace hx997_2 := (HB.out.cell (World.block_lt_of_cell? w _ hx997_2)).trans hx997_2
        replace hx997_3 := (HB.out.cell (World.block_lt_of_cell? w _ hx997_3)).trans hx997_3
        replace p997 := eq_true p997
        replace q997 := eq_true q997
        go_wp2_with (first | ((with_reducible refine bn (N := 5) rfl ?_); refine bF ?hg (N := 5) ?hd (cs := #[.int .i64 0, .string (⟨#[]⟩ : ByteArray), .int .i64 0, .int .i64 0]) (t := 38) ?hr ?_; (case hd => rfl); (case hg => rfl); (case hr => first | (go_simp; done) | (go_simp; rfl)); intro gb998 hg w19 hbox hb; refine yA4 (below_step Z3 hb) (hbox) ((by rw [hg]; exact (below_size Z3) : w.heap.size ≤ gb998)) ((by rw [hg]; exact (below_size Z3) : w.heap.size ≤ gb998)) ?_; clear HB; intro HB BK998 GW998 GE998; clear hb hbox hg; have hcz20_0 : w19.cell? ⟨gb998, 0, none⟩ = some (.int .i64 0) := (ag BK998.out 0).trans rfl; have hcz20_1 : w19.cell? ⟨gb998, 1, none⟩ = some (.string (⟨#[]⟩ : ByteArray)) := (ag BK998.out 1).trans rfl; have hcz20_2 : w19.cell? ⟨gb998, 2, none⟩ = some (.int .i64 0) := (ag BK998.out 2).trans rfl; have hcz20_3 : w19.cell? ⟨gb998, 3, none⟩ = some (.int .i64 0) := (ag BK998.out 3).trans rfl; have hfz20_0 := ae BK998.out 0; have hfz20_1 := ae BK998.out 1; have hfz20_2 := ae BK998.out 2; have hfz20_3 := ae BK998.out 3) | ((with_reducible refine gC 27 rfl ?_); refine gM 27 23 rfl Try.func27 (bu.calls k1 ((rd_T38 l0 x8_1).f1) t1000 _ A17.out) ?_; rintro _ w21 ⟨rfl, hb⟩; refine ⟨_, rfl, yA2 (bI (g := gb998) (o := .cells #[.int .i64 ((rd_T38 l0 x8_1).f0), .string ((rd_T38 l0 x8_1).f1), .int .i64 ((rd_T38 l0 x8_1).f2), .int .i64 ((rd_T38 l0 x8_1).f3)] 38 (0, 0)) (by refine aK (cs := #[.int .i64 ((rd_T38 l0 x8_1).f0), .string ((rd_T38 l0 x8_1).f1), .int .i64 ((rd_T38 l0 x8_1).f2), .int .i64 0]) ?_ 3 _ rfl; refine aK (cs := #[.int .i64 ((rd_T38 l0 x8_1).f0), .string ((rd_T38 l0 x8_1).f1), .int .i64 0, .int .i64 0]) ?_ 2 _ rfl; refine aK (cs := #[.int .i64 ((rd_T38 l0 x8_1).f0), .string (⟨#[]⟩ : ByteArray), .int .i64 0, .int .i64 0]) ?_ 1 _ rfl; refine aK (cs := #[.int .i64 0, .string (⟨#[]⟩ : ByteArray), .int .i64 0, .int .i64 0]) ?_ 0 _ rfl; exact BK998.out) hb) (below_step Z42 hb) ?_⟩; clear BK998 HB hb; intro BK998 HB))
        go_roundg k1
        case measure => have := HK1.out; omega
        case rel => exact ⟨(x3_1 ++ t1000), (wrap64 (x8_1 + 1)), Z5, Z5, H', ⟨by have := HK1.out; omega⟩, ⟨Z42⟩⟩
       exact absurd H (by simp)
      revert H
      refine eG (fun c22 c22b0 c22b1 H => ?_) fun c22 H => ?_
      ·try have c22b2 : (9223372036854775807 < x3_1.size + ((rd_T38 l0 x8_1).f1).size) = False := eq_false (Nat.not_lt.2 c22)
       have H' := Aside0.mk H
       clear H
       have p997 : 0 ≤ (x8_1 : Int) := of_decide_eq_true Z6
       have q997 : x8_1 < (l0.length : Int) := of_decide_eq_true Z6
       obtain ⟨ad997, e997, hx997_0, hx997_1, hx997_2, hx997_3⟩ := og HR0.out x8_1 p997 q997
       cases e997
       replace hx997_0 := (HB.out.cell (World.block_lt_of_cell? w _ hx997_0)).trans hx997_0
       replace hx997_1 := (HB.out.cell (World.block_lt_of_cell? w _ hx997_1)).trans hx997_1
       replace hx997_2 := (HB.out.cell (World.block_lt_of_cell? w _ hx997_2)).trans hx997_2
       replace hx997_3 := (HB.out.cell (World.block_lt_of_cell? w _ hx997_3)).trans hx997_3
       replace p997 := eq_true p997
       replace q997 := eq_true q997
       go_wp2_with (first | ((with_reducible refine bn (N := 5) rfl ?_); refine bF ?hg (N := 5) ?hd (cs := #[.int .i64 0, .string (⟨#[]⟩ : ByteArray), .int .i64 0, .int .i64 0]) (t := 38) ?hr ?_; (case hd => rfl); (case hg => rfl); (case hr => first | (go_simp; done) | (go_simp; rfl)); intro gb998 hg w23 hbox hb; refine yA4 (below_step Z3 hb) (hbox) ((by rw [hg]; exact (below_size Z3) : w.heap.size ≤ gb998)) ((by rw [hg]; exact (below_size Z3) : w.heap.size ≤ gb998)) ?_; clear HB; intro HB BK998 GW998 GE998; clear hb hbox hg; have hcz24_0 : w23.cell? ⟨gb998, 0, none⟩ = some (.int .i64 0) := (ag BK998.out 0).trans rfl; have hcz24_1 : w23.cell? ⟨gb998, 1, none⟩ = some (.string (⟨#[]⟩ : ByteArray)) := (ag BK998.out 1).trans rfl; have hcz24_2 : w23.cell? ⟨gb998, 2, none⟩ = some (.int .i64 0) := (ag BK998.out 2).trans rfl; have hcz24_3 : w23.cell? ⟨gb998, 3, none⟩ = some (.int .i64 0) := (ag BK998.out 3).trans rfl; have hfz24_0 := ae BK998.out 0; have hfz24_1 := ae BK998.out 1; have hfz24_2 := ae BK998.out 2; have hfz24_3 := ae BK998.out 3))
       go_roundg k1
       case measure => have := HK1.out; omega
       case rel => exact ⟨(x3_1 ++ ((rd_T38 l0 x8_1).f1)), (wrap64 (x8_1 + 1)), Z5, Z5, H', ⟨by have := HK1.out; omega⟩, ⟨Z42⟩⟩
      exact absurd H (by simp)
     exact absurd H (by simp)
    exact absurd H (by simp)
   obtain rfl := Option.some.inj H
   go_wp2
   go_ret
   exact ⟨Z4, Z3⟩
end Go.Proofs.Ytendgafpkeadhaa.Q
end
section
namespace Go.Proofs.Ytendgafpkeadhaa.Q
open Go.RowKit Go.Proofs.YtendgafpkeadhaaW.PrintWords Go.Proofs.YtendgafpkeadhaaW.PrintLast Go.Proofs.YtendgafpkeadhaaW.PrintMore
attribute [local go_sem] max2_int min2_int max_two min_two max_three min_three max_four min_four
set_option linter.unusedVariables false
set_option linter.unusedSimpArgs false
theorem BL {x n k : Int} {b : Bool} (h : (Int.tmod x n == k) = b) (h0 : 0 ≤ x) : (x % n == k) = b := by rw [← Int.tmod_eq_emod_of_nonneg h0]; exact h
/-! ### chrysalislaw10_ParseSpaces: function 7 -/
def chrysalislaw10_ParseSpaces.l0 : Nat → ByteArray → List (S38) → ByteArray → Int → Option (Bool)
 | 0, _, _, _, _ => none
 | k + 1, x0, x3, x6, x7 => if x7 < (x3.length : Int) then (if 0 ≤ x7 then (if x7 ≤ (wrap64 (x7 + 1)) then (if (wrap64 (x7 + 1)) ≤ (x3.length : Int) then ((lex_Text.f k ((x3.take ((wrap64 (x7 + 1)) : Int).toNat).drop (x7 : Int).toNat)).bind fun t1012 => (if x6.size + t1012.size ≤ 9223372036854775807 then (if (Int.tmod x7 3) = 0 then (if (x6 ++ t1012).size + 2 ≤ 9223372036854775807 then (chrysalislaw10_ParseSpaces.l0 k x0 x3 ((x6 ++ t1012) ++ (⟨#[32, 9]⟩ : ByteArray)) (wrap64 (x7 + 1))) else (none)) else (if (Int.tmod x7 3) = 1 then (if (x6 ++ t1012).size + 1 ≤ 9223372036854775807 then (chrysalislaw10_ParseSpaces.l0 k x0 x3 ((x6 ++ t1012) ++ (⟨#[10]⟩ : ByteArray)) (wrap64 (x7 + 1))) else (none)) else (if (x6 ++ t1012).size + 5 ≤ 9223372036854775807 then (chrysalislaw10_ParseSpaces.l0 k x0 x3 ((x6 ++ t1012) ++ (⟨#[35, 32, 110, 111, 10]⟩ : ByteArray)) (wrap64 (x7 + 1))) else (none)))) else (none))) else (none)) else (none)) else (none)) else ((parse_Text.f k x0).bind fun bt1013 => ((parse_Text.f k x6).bind fun bt1018 => (if (x6.size : Int) > 8192 then ((chrysalislaw10_known.f k).bind fun t1023 => (some t1023)) else (if bt1013.2.1 = bt1018.2.1 then ((chrysalisref09_Same.f k bt1013.1 bt1018.1).bind fun t1024 => (if t1024 = true then ((chrysalislaw10_known.f k).bind fun t1025 => (some t1025)) else (some false))) else (some false)))))
def chrysalislaw10_ParseSpaces.f (k : Nat) (a0 : ByteArray) : Option (Bool) := if (a0.size : Int) > 2000 then ((chrysalislaw10_known.f k).bind fun t1001 => (some t1001)) else ((lex_Scan.f k a0).bind fun bt1002 => (if bt1002.2.1 = 0 then (chrysalislaw10_ParseSpaces.l0 k a0 bt1002.1 (⟨#[]⟩ : ByteArray) 0) else ((chrysalislaw10_known.f k).bind fun t1007 => (some t1007))))
theorem chrysalislaw10_ParseSpaces.mono_l : ∀ k, (∀ y0 y1 y2 y3, LeO (chrysalislaw10_ParseSpaces.l0 k y0 y1 y2 y3) (chrysalislaw10_ParseSpaces.l0 (k + 1) y0 y1 y2 y3))
 | 0 => fun _ _ _ _ r h => by simp [chrysalislaw10_ParseSpaces.l0] at h
 | k + 1 => by
  have ih0 := chrysalislaw10_ParseSpaces.mono_l k
  intro y0 y1 y2 y3
  unfold chrysalislaw10_ParseSpaces.l0
  have m0 := chrysalislaw10_known.mono
  have m1 := chrysalisref09_Same.mono
  have m2 := lex_Scan.mono
  have m3 := lex_Text.mono
  have m4 := parse_Text.mono
  exact yL
theorem chrysalislaw10_ParseSpaces.mono : ∀ a0 k, LeO (chrysalislaw10_ParseSpaces.f k a0) (chrysalislaw10_ParseSpaces.f (k + 1) a0) := by
 intro a0 k
 have ih0 := chrysalislaw10_ParseSpaces.mono_l k
 unfold chrysalislaw10_ParseSpaces.f
 have m0 := chrysalislaw10_known.mono
 have m1 := chrysalisref09_Same.mono
 have m2 := lex_Scan.mono
 have m3 := lex_Text.mono
 have m4 := parse_Text.mono
 exact yL
set_option maxHeartbeats 8000000 in
set_option maxRecDepth 100000 in
theorem chrysalislaw10_ParseSpaces.calls (k : Nat) (a0 : ByteArray) (r : Bool) (w : World) (h : chrysalislaw10_ParseSpaces.f k a0 = some r) :
 Calls Try.prog 7 #[.string a0] w fun e w' => e = .returned (.bool r) ∧ Below w.heap.size w w' := by
 have HB := Aside0.mk (Below.refl w.heap.size w)
 have H := h
 clear h
 unfold chrysalislaw10_ParseSpaces.f at H
 revert H
 refine dN (fun c2 H => ?_) fun c2 H => ?_
 ·have c2b0 : decide (2000 < (a0.size : Int)) = true := decide_eq_true c2
  have c2b1 : decide (2000 < a0.size) = true := decide_eq_true (by omega)
  clear c2
  revert H
  refine yB1 fun t1001 A3 H => ?_
  obtain rfl := Option.some.inj H
  go_enter Try.func7, Try.ntmps7
  go_wp2_with (first | ((with_reducible refine gC 8 rfl ?_); refine gM 8 17 rfl Try.func8 (chrysalislaw10_known.calls k  t1001 _ A3.out) ?_; rintro _ w4 ⟨rfl, hb⟩; refine ⟨_, rfl, yA1 (below_step Z3 hb) ?_⟩; clear HB hb; intro HB))
  go_ret
  exact ⟨Z4, Z3⟩
 have c2b0 : decide (2000 < (a0.size : Int)) = false := decide_eq_false c2
 have c2b1 : decide (2000 < a0.size) = false := decide_eq_false (by omega)
 clear c2
 revert H
 refine yB3 fun t1002 t1003 t1004 A5 H => ?_
 try dsimp only at H
 revert H
 refine aC (fun c6b0 c6b1 H => ?_) fun c6 c6b0 c6b1 H => ?_
 ·have H' := Aside0.mk H
  clear H
  go_enter Try.func7, Try.ntmps7
  go_wp2_with (first | ((with_reducible refine gC 13 rfl ?_); refine gM 13 20 rfl Try.func13 (lex_Scan.calls k a0 t1002 t1003 t1004 _ A5.out) ?_; rintro _ w7 ⟨v1005, rfl, ho0, hb⟩; refine ⟨_, rfl, yA2 (Kd.R_lower ho0 (below_size Z3)) (below_step Z3 hb) ?_⟩; clear HB hb ho0; intro HO1006 HB))
  go_loopg [6, 7] k (fun kq v6 v7 w' => ∃ (x6_1 : ByteArray) (x7_1 : Int), v6 = .string x6_1 ∧ v7 = .int .i64 x7_1 ∧ Aside0 (chrysalislaw10_ParseSpaces.l0 kq a0 t1002 x6_1 x7_1 = some r) ∧ Aside0 (kq ≤ k) ∧ Aside0 (Kd.R k38 38 w' w.heap.size (fun _ => True) v1005 t1002) ∧ Aside0 (Below w.heap.size w w'))
  case atStart => exact ⟨((⟨#[]⟩ : ByteArray)), (0), Z5, Z5, H', ⟨Nat.le_refl _⟩, ⟨by (with_reducible repeat (first | apply Kd.R_alloc | apply Kd.R_drewN | apply Kd.R_drew)); exact HO1006.out⟩, ⟨Z3⟩⟩
  case round =>
   clear H'
   try clear c1
   try clear c2
   try clear c2b0
   try clear c2b1
   try clear p2
   try clear c6
   try clear c6b0
   try clear c6b1
   try clear c7
   obtain ⟨x6_1, x7_1, rfl, rfl, HA, HK1, HO_3, HB⟩ := hrel
   cases gk with
   | zero => exact absurd HA.out (by simp [chrysalislaw10_ParseSpaces.l0])
   | succ k1 =>
    have H := HA.out
    clear HA
    simp only [chrysalislaw10_ParseSpaces.l0] at H
    revert H
    refine iJ (fun c8b0 H => ?_) fun c8b0 H => ?_
    ·revert H
     refine gq (fun c9b0 c9b1 H => ?_) fun c9 H => ?_
     ·revert H
      refine eG (fun c10 c10b0 c10b1 H => ?_) fun c10 H => ?_
      ·revert H
       refine eG (fun c11 c11b0 c11b1 H => ?_) fun c11 H => ?_
       ·obtain ⟨y1008, hy1008⟩ : ∃ y_ : List (S38), y_ = ((t1002.take ((wrap64 (x7_1 + 1)) : Int).toNat).drop (x7_1 : Int).toNat) := ⟨_, rfl⟩
        replace H : ((lex_Text.f k1 y1008).bind fun t1012 => (if x6_1.size + t1012.size ≤ 9223372036854775807 then (if (Int.tmod x7_1 3) = 0 then (if (x6_1 ++ t1012).size + 2 ≤ 9223372036854775807 then (chrysalislaw10_ParseSpaces.l0 k1 a0 t1002 ((x6_1 ++ t1012) ++ (⟨#[32, 9]⟩ : ByteArray)) (wrap64 (x7_1 + 1))) else (none)) else (if (Int.tmod x7_1 3) = 1 then (if (x6_1 ++ t1012).size + 1 ≤ 9223372036854775807 then (chrysalislaw10_ParseSpaces.l0 k1 a0 t1002 ((x6_1 ++ t1012) ++ (⟨#[10]⟩ : ByteArray)) (wrap64 (x7_1 + 1))) else (none)) else (if (x6_1 ++ t1012).size + 5 ≤ 9223372036854775807 then (chrysalislaw10_ParseSpaces.l0 k1 a0 t1002 ((x6_1 ++ t1012) ++ (⟨#[35, 32, 110, 111, 10]⟩ : ByteArray)) (wrap64 (x7_1 + 1))) else (none)))) else (none))) = some r := by first | (rw [hy1008]; with_reducible exact H) | (have H2_ := (Option.bind_some _ _).symm.trans H; rw [hy1008]; with_reducible exact H2_) | (have H2_ := (Option.bind_some _ _).symm.trans H; with_reducible exact H2_) | with_reducible exact H | (rw [hy1008]; exact H) | exact H
        have Ny1008 := Aside0.mk hy1008
        clear hy1008
        revert H
        refine yB1 fun t1012 A12 H => ?_
        revert H
        refine eG (fun c13 c13b0 c13b1 H => ?_) fun c13 H => ?_
        ·try have c13b2 : (9223372036854775807 < x6_1.size + t1012.size) = False := eq_false (Nat.not_lt.2 c13)
         revert H
         refine aC (fun c14b0 c14b1 H => ?_) fun c14 c14b0 c14b1 H => ?_
         ·have c14bt : (x7_1 % 3 == 0) = true := BL c14b0 (of_decide_eq_true (by assumption))
          revert H
          refine eG (fun c15 c15b0 c15b1 H => ?_) fun c15 H => ?_
          ·have c15s := c15
           simp only [ByteArray.size_append] at c15s
           have c15t := eq_true c15s
           have c15u := eq_false (Nat.not_lt.2 c15s)
           clear c15s
           try have c15b2 : (9223372036854775807 < (x6_1 ++ t1012).size + 2) = False := eq_false (Nat.not_lt.2 c15)
           have H' := Aside0.mk H
           clear H
           obtain ⟨Ao16, co16, eo16⟩ := Kd.R_slice HO_3.out
           subst eo16
           have q17 : ((wrap64 (x7_1 + 1)) : Int) ≤ ((t1002.length : Int) : Int) := of_decide_eq_true Z6
           obtain ⟨i017, hi017, _, hsz17, _⟩ := info_parts info38
           have hroom17 : t1002.length ≤ co16 := (Kd.R_reads' HO_3.out).2.1
           have hC17 : Kd.C k38 _ Ao16 t1002.length t1002 := (Kd.R_reads' HO_3.out).2.2
           have ql17 : (x7_1 : Int) ≤ ((wrap64 (x7_1 + 1)) : Int) := of_decide_eq_true Z6
           have q017 : (0 : Int) ≤ (x7_1 : Int) := of_decide_eq_true Z6
           have hcut17 := cut_mid (P := Try.prog) 32 38 .i64 .i64 Try.underlying32 hi017 4 hsz17 Ao16 t1002.length co16 x7_1 (wrap64 (x7_1 + 1)) q017 ql17 q17 hroom17
           have hr17 := Kd.C_mid (lo := (x7_1 : Int).toNat) (hi := ((wrap64 (x7_1 + 1)) : Int).toNat) (c := co16) hC17 (by omega) (by omega) hroom17
           obtain ⟨A17, hA17⟩ : ∃ A1, A1 = (if co16 = (x7_1 : Int).toNat then Ao16 else (Ao16 : Option Addr).map (·.add ((x7_1 : Int).toNat * 4))) := ⟨_, rfl⟩
           obtain ⟨c17, hc17⟩ : ∃ c1, c1 = co16 - (x7_1 : Int).toNat := ⟨_, rfl⟩
           have hy17 : y1008.length = ((wrap64 (x7_1 + 1)) : Int).toNat - (x7_1 : Int).toNat := Z71
           rw [show ((t1002).take ((wrap64 (x7_1 + 1)) : Int).toNat).drop (x7_1 : Int).toNat = y1008 from Ny1008.out.symm] at hr17
           replace hr17 : Kd.C k38 _ A17 y1008.length y1008 := (by rw [hA17]; exact hr17)
           rw [← hy17, ← hA17, ← hc17] at hcut17
           have HR1011 := Aside0.mk hr17
           have HC1011 := Aside0.mk (show y1008.length ≤ c17 from by rw [hy17, hc17]; exact Nat.sub_le_sub_right (Nat.le_trans (by omega) hroom17) _)
           clear hr17 hC17 hroom17 hi017 hsz17 hc17
           have KY17 := Aside0.mk hy17
           have KA17 := Aside0.mk hA17
           clear hy17 hA17
           have KL17 := Aside0.mk (show ((wrap64 (x7_1 + 1)) : Int).toNat ≤ t1002.length from by omega)
           have KM17 := Aside0.mk (show (x7_1 : Int).toNat ≤ ((wrap64 (x7_1 + 1)) : Int).toNat from by omega)
           replace q17 := eq_true q17
           go_wp2_with (first | ((with_reducible refine gC 16 rfl ?_); refine gM 16 39 rfl Try.func16 (lex_Text.calls k1 _ _ y1008 t1012 _ Z40 HC1011.out A12.out) ?_; rintro _ w18 ⟨rfl, hb⟩; refine ⟨_, rfl, yA3 (Kd.R_below Z10 hb) (Kd.C_below Z36 hb) (below_step Z3 hb) ?_⟩; clear HO_3 HR1011 HB hb; intro HO_3 HR1011 HB))
           go_roundg k1
           case measure => have := HK1.out; omega
           case rel => exact ⟨((x6_1 ++ t1012) ++ (⟨#[32, 9]⟩ : ByteArray)), (wrap64 (x7_1 + 1)), Z5, Z5, H', ⟨by have := HK1.out; omega⟩, ⟨Z10⟩, ⟨Z3⟩⟩
          exact absurd H (by simp)
         have c14bt : (x7_1 % 3 == 0) = false := BL c14b0 (of_decide_eq_true (by assumption))
         revert H
         refine aC (fun c19b0 c19b1 H => ?_) fun c19 c19b0 c19b1 H => ?_
         ·have c19bt : (x7_1 % 3 == 1) = true := BL c19b0 (of_decide_eq_true (by assumption))
          revert H
          refine eG (fun c20 c20b0 c20b1 H => ?_) fun c20 H => ?_
          ·have c20s := c20
           simp only [ByteArray.size_append] at c20s
           have c20t := eq_true c20s
           have c20u := eq_false (Nat.not_lt.2 c20s)
           clear c20s
           try have c20b2 : (9223372036854775807 < (x6_1 ++ t1012).size + 1) = False := eq_false (Nat.not_lt.2 c20)
           have H' := Aside0.mk H
           clear H
           obtain ⟨Ao21, co21, eo21⟩ := Kd.R_slice HO_3.out
           subst eo21
           have q22 : ((wrap64 (x7_1 + 1)) : Int) ≤ ((t1002.length : Int) : Int) := of_decide_eq_true Z6
           obtain ⟨i022, hi022, _, hsz22, _⟩ := info_parts info38
           have hroom22 : t1002.length ≤ co21 := (Kd.R_reads' HO_3.out).2.1
           have hC22 : Kd.C k38 _ Ao21 t1002.length t1002 := (Kd.R_reads' HO_3.out).2.2
           have ql22 : (x7_1 : Int) ≤ ((wrap64 (x7_1 + 1)) : Int) := of_decide_eq_true Z6
           have q022 : (0 : Int) ≤ (x7_1 : Int) := of_decide_eq_true Z6
           have hcut22 := cut_mid (P := Try.prog) 32 38 .i64 .i64 Try.underlying32 hi022 4 hsz22 Ao21 t1002.length co21 x7_1 (wrap64 (x7_1 + 1)) q022 ql22 q22 hroom22
           have hr22 := Kd.C_mid (lo := (x7_1 : Int).toNat) (hi := ((wrap64 (x7_1 + 1)) : Int).toNat) (c := co21) hC22 (by omega) (by omega) hroom22
           obtain ⟨A22, hA22⟩ : ∃ A1, A1 = (if co21 = (x7_1 : Int).toNat then Ao21 else (Ao21 : Option Addr).map (·.add ((x7_1 : Int).toNat * 4))) := ⟨_, rfl⟩
           obtain ⟨c22, hc22⟩ : ∃ c1, c1 = co21 - (x7_1 : Int).toNat := ⟨_, rfl⟩
           have hy22 : y1008.length = ((wrap64 (x7_1 + 1)) : Int).toNat - (x7_1 : Int).toNat := Z71
           rw [show ((t1002).take ((wrap64 (x7_1 + 1)) : Int).toNat).drop (x7_1 : Int).toNat = y1008 from Ny1008.out.symm] at hr22
           replace hr22 : Kd.C k38 _ A22 y1008.length y1008 := (by rw [hA22]; exact hr22)
           rw [← hy22, ← hA22, ← hc22] at hcut22
           have HR1011 := Aside0.mk hr22
           have HC1011 := Aside0.mk (show y1008.length ≤ c22 from by rw [hy22, hc22]; exact Nat.sub_le_sub_right (Nat.le_trans (by omega) hroom22) _)
           clear hr22 hC22 hroom22 hi022 hsz22 hc22
           have KY22 := Aside0.mk hy22
           have KA22 := Aside0.mk hA22
           clear hy22 hA22
           have KL22 := Aside0.mk (show ((wrap64 (x7_1 + 1)) : Int).toNat ≤ t1002.length from by omega)
           have KM22 := Aside0.mk (show (x7_1 : Int).toNat ≤ ((wrap64 (x7_1 + 1)) : Int).toNat from by omega)
           replace q22 := eq_true q22
           go_wp2_with (first | ((with_reducible refine gC 16 rfl ?_); refine gM 16 39 rfl Try.func16 (lex_Text.calls k1 _ _ y1008 t1012 _ Z40 HC1011.out A12.out) ?_; rintro _ w23 ⟨rfl, hb⟩; refine ⟨_, rfl, yA3 (Kd.R_below Z10 hb) (Kd.C_below Z36 hb) (below_step Z3 hb) ?_⟩; clear HO_3 HR1011 HB hb; intro HO_3 HR1011 HB))
           go_roundg k1
           case measure => have := HK1.out; omega
           case rel => exact ⟨((x6_1 ++ t1012) ++ (⟨#[10]⟩ : ByteArray)), (wrap64 (x7_1 + 1)), Z5, Z5, H', ⟨by have := HK1.out; omega⟩, ⟨Z10⟩, ⟨Z3⟩⟩
          exact absurd H (by simp)
         have c19bt : (x7_1 % 3 == 1) = false := BL c19b0 (of_decide_eq_true (by assumption))
         revert H
         refine eG (fun c24 c24b0 c24b1 H => ?_) fun c24 H => ?_
         ·have c24s := c24
          simp only [ByteArray.size_append] at c24s
          have c24t := eq_true c24s
          have c24u := eq_false (Nat.not_lt.2 c24s)
          clear c24s
          try have c24b2 : (9223372036854775807 < (x6_1 ++ t1012).size + 5) = False := eq_false (Nat.not_lt.2 c24)
          have H' := Aside0.mk H
          clear H
          obtain ⟨Ao25, co25, eo25⟩ := Kd.R_slice HO_3.out
          subst eo25
          have q26 : ((wrap64 (x7_1 + 1)) : Int) ≤ ((t1002.length : Int) : Int) := of_decide_eq_true Z6
          obtain ⟨i026, hi026, _, hsz26, _⟩ := info_parts info38
          have hroom26 : t1002.length ≤ co25 := (Kd.R_reads' HO_3.out).2.1
          have hC26 : Kd.C k38 _ Ao25 t1002.length t1002 := (Kd.R_reads' HO_3.out).2.2
          have ql26 : (x7_1 : Int) ≤ ((wrap64 (x7_1 + 1)) : Int) := of_decide_eq_true Z6
          have q026 : (0 : Int) ≤ (x7_1 : Int) := of_decide_eq_true Z6
          have hcut26 := cut_mid (P := Try.prog) 32 38 .i64 .i64 Try.underlying32 hi026 4 hsz26 Ao25 t1002.length co25 x7_1 (wrap64 (x7_1 + 1)) q026 ql26 q26 hroom26
          have hr26 := Kd.C_mid (lo := (x7_1 : Int).toNat) (hi := ((wrap64 (x7_1 + 1)) : Int).toNat) (c := co25) hC26 (by omega) (by omega) hroom26
          obtain ⟨A26, hA26⟩ : ∃ A1, A1 = (if co25 = (x7_1 : Int).toNat then Ao25 else (Ao25 : Option Addr).map (·.add ((x7_1 : Int).toNat * 4))) := ⟨_, rfl⟩
          obtain ⟨c26, hc26⟩ : ∃ c1, c1 = co25 - (x7_1 : Int).toNat := ⟨_, rfl⟩
          have hy26 : y1008.length = ((wrap64 (x7_1 + 1)) : Int).toNat - (x7_1 : Int).toNat := Z71
          rw [show ((t1002).take ((wrap64 (x7_1 + 1)) : Int).toNat).drop (x7_1 : Int).toNat = y1008 from Ny1008.out.symm] at hr26
          replace hr26 : Kd.C k38 _ A26 y1008.length y1008 := (by rw [hA26]; exact hr26)
          rw [← hy26, ← hA26, ← hc26] at hcut26
          have HR1011 := Aside0.mk hr26
          have HC1011 := Aside0.mk (show y1008.length ≤ c26 from by rw [hy26, hc26]; exact Nat.sub_le_sub_right (Nat.le_trans (by omega) hroom26) _)
          clear hr26 hC26 hroom26 hi026 hsz26 hc26
          have KY26 := Aside0.mk hy26
          have KA26 := Aside0.mk hA26
          clear hy26 hA26
          have KL26 := Aside0.mk (show ((wrap64 (x7_1 + 1)) : Int).toNat ≤ t1002.length from by omega)
          have KM26 := Aside0.mk (show (x7_1 : Int).toNat ≤ ((wrap64 (x7_1 + 1)) : Int).toNat from by omega)
          replace q26 := eq_true q26
          go_wp2_with (first | ((with_reducible refine gC 16 rfl ?_); refine gM 16 39 rfl Try.func16 (lex_Text.calls k1 _ _ y1008 t1012 _ Z40 HC1011.out A12.out) ?_; rintro _ w27 ⟨rfl, hb⟩; refine ⟨_, rfl, yA3 (Kd.R_below Z10 hb) (Kd.C_below Z36 hb) (below_step Z3 hb) ?_⟩; clear HO_3 HR1011 HB hb; intro HO_3 HR1011 HB))
          go_roundg k1
          case measure => have := HK1.out; omega
          case rel => exact ⟨((x6_1 ++ t1012) ++ (⟨#[35, 32, 110, 111, 10]⟩ : ByteArray)), (wrap64 (x7_1 + 1)), Z5, Z5, H', ⟨by have := HK1.out; omega⟩, ⟨Z10⟩, ⟨Z3⟩⟩
         exact absurd H (by simp)
        exact absurd H (by simp)
       exact absurd H (by simp)
      exact absurd H (by simp)
     exact absurd H (by simp)
    revert H
    refine yB3 fun t1013 t1014 t1015 A28 H => ?_
    try dsimp only at H
    revert H
    refine yB3 fun t1018 t1019 t1020 A29 H => ?_
    try dsimp only at H
    revert H
    refine dN (fun c30 H => ?_) fun c30 H => ?_
    ·have c30b0 : decide (8192 < (x6_1.size : Int)) = true := decide_eq_true c30
     have c30b1 : decide (8192 < x6_1.size) = true := decide_eq_true (by omega)
     clear c30
     revert H
     refine yB1 fun t1023 A31 H => ?_
     obtain rfl := Option.some.inj H
     obtain ⟨Ao32, co32, eo32⟩ := Kd.R_slice HO_3.out
     subst eo32
     go_wp2_with (first | ((with_reducible refine gC 9 rfl ?_); refine gM 9 55 rfl Try.func9 (parse_Text.calls k1 a0 t1013 t1014 t1015 _ A28.out) ?_; rintro _ w33 ⟨v1016, rfl, ho0, hb⟩; refine ⟨_, rfl, yA3 (Kd.R_below Z10 hb) (Kd.R_lower ho0 (below_size Z3)) (below_step Z3 hb) ?_⟩; clear HO_3 HB hb ho0; intro HO_3 HO1017 HB) | ((with_reducible refine gC 9 rfl ?_); refine gM 9 61 rfl Try.func9 (parse_Text.calls k1 x6_1 t1018 t1019 t1020 _ A29.out) ?_; rintro _ w34 ⟨v1021, rfl, ho0, hb⟩; refine ⟨_, rfl, yA4 (Kd.R_below Z10 hb) (Kd.R_elder' Z39 (Kd.R_base ho0) hb) (Kd.R_lower (Kd.R_new' ho0 (Kd.R_lt Z39)) (below_size Z3)) (below_step Z3 hb) ?_⟩; clear HO_3 HO1017 HB hb ho0; intro HO_3 HO1017 HO1022 HB) | (go_at_call 8; (with_reducible refine (chrysalislaw10_known.calls k1  t1023 _ A31.out).mono ?_); rintro e w35 ⟨rfl, hb⟩; refine yA4 (Kd.R_below Z10 hb) (Kd.R_below Z39 hb) (Kd.R_below (by (with_reducible repeat (first | apply Kd.R_alloc | apply Kd.R_drewN | apply Kd.R_drew)); exact HO1022.out) hb) (below_step Z3 hb) ?_; clear HO_3 HO1017 HO1022 HB; intro HO_3 HO1017 HO1022 HB; (try clear hb)))
     go_ret
     exact ⟨Z4, Z3⟩
    have c30b0 : decide (8192 < (x6_1.size : Int)) = false := decide_eq_false c30
    have c30b1 : decide (8192 < x6_1.size) = false := decide_eq_false (by omega)
    clear c30
    revert H
    refine aC (fun c36b0 c36b1 H => ?_) fun c36 c36b0 c36b1 H => ?_
    ·revert H
     refine yB1 fun t1024 A37 H => ?_
     cases t1024
     rotate_left
     ·replace H := yT H
      revert H
      refine yB1 fun t1025 A39 H => ?_
      obtain rfl := Option.some.inj H
      obtain ⟨Ao40, co40, eo40⟩ := Kd.R_slice HO_3.out
      subst eo40
      go_wp2_with (first | ((with_reducible refine gC 9 rfl ?_); refine gM 9 55 rfl Try.func9 (parse_Text.calls k1 a0 t1013 t1014 t1015 _ A28.out) ?_; rintro _ w41 ⟨v1016, rfl, ho0, hb⟩; refine ⟨_, rfl, yA3 (Kd.R_below Z10 hb) (Kd.R_lower ho0 (below_size Z3)) (below_step Z3 hb) ?_⟩; clear HO_3 HB hb ho0; intro HO_3 HO1017 HB) | ((with_reducible refine gC 9 rfl ?_); refine gM 9 61 rfl Try.func9 (parse_Text.calls k1 x6_1 t1018 t1019 t1020 _ A29.out) ?_; rintro _ w42 ⟨v1021, rfl, ho0, hb⟩; refine ⟨_, rfl, yA4 (Kd.R_below Z10 hb) (Kd.R_elder' Z39 (Kd.R_base ho0) hb) (Kd.R_lower (Kd.R_new' ho0 (Kd.R_lt Z39)) (below_size Z3)) (below_step Z3 hb) ?_⟩; clear HO_3 HO1017 HB hb ho0; intro HO_3 HO1017 HO1022 HB; obtain ⟨Ao43, co43, rfl⟩ := Kd.R_slice HO1017.out; obtain ⟨Ao44, co44, rfl⟩ := Kd.R_slice HO1022.out) | (go_at_call 12; (with_reducible refine (chrysalisref09_Same.calls k1 _ _ t1013 _ _ t1018 true _ ?side1 ?side2 ?side3 ?side4 A37.out).mono ?_); (case side1 => repeat (first | exact (Kd.R_reads' HO1017.out).2.2 | (with_reducible refine Kd.C_alloc ?_ _) | (with_reducible refine Kd.C_drewN ?_ _) | (with_reducible refine Kd.C_drew ?_))); (case side2 => exact (Kd.R_reads' HO1017.out).2.1); (case side3 => repeat (first | exact (Kd.R_reads' HO1022.out).2.2 | (with_reducible refine Kd.C_alloc ?_ _) | (with_reducible refine Kd.C_drewN ?_ _) | (with_reducible refine Kd.C_drew ?_))); (case side4 => exact (Kd.R_reads' HO1022.out).2.1); rintro e w' ⟨rfl, ⟨nd, rfl⟩⟩) | (go_at_call 8; (with_reducible refine (chrysalislaw10_known.calls k1  t1025 _ A39.out).mono ?_); rintro e w45 ⟨rfl, hb⟩; refine yA4 (Kd.R_below Z10 hb) (Kd.R_below Z39 hb) (Kd.R_below (by (with_reducible repeat (first | apply Kd.R_alloc | apply Kd.R_drewN | apply Kd.R_drew)); exact HO1022.out) hb) (below_step Z3 hb) ?_; clear HO_3 HO1017 HO1022 HB; intro HO_3 HO1017 HO1022 HB; (try clear hb)))
      go_ret
      exact ⟨Z4, Z3⟩
     replace H := yF H
     obtain rfl := Option.some.inj H
     obtain ⟨Ao46, co46, eo46⟩ := Kd.R_slice HO_3.out
     subst eo46
     go_wp2_with (first | ((with_reducible refine gC 9 rfl ?_); refine gM 9 55 rfl Try.func9 (parse_Text.calls k1 a0 t1013 t1014 t1015 _ A28.out) ?_; rintro _ w47 ⟨v1016, rfl, ho0, hb⟩; refine ⟨_, rfl, yA3 (Kd.R_below Z10 hb) (Kd.R_lower ho0 (below_size Z3)) (below_step Z3 hb) ?_⟩; clear HO_3 HB hb ho0; intro HO_3 HO1017 HB) | ((with_reducible refine gC 9 rfl ?_); refine gM 9 61 rfl Try.func9 (parse_Text.calls k1 x6_1 t1018 t1019 t1020 _ A29.out) ?_; rintro _ w48 ⟨v1021, rfl, ho0, hb⟩; refine ⟨_, rfl, yA4 (Kd.R_below Z10 hb) (Kd.R_elder' Z39 (Kd.R_base ho0) hb) (Kd.R_lower (Kd.R_new' ho0 (Kd.R_lt Z39)) (below_size Z3)) (below_step Z3 hb) ?_⟩; clear HO_3 HO1017 HB hb ho0; intro HO_3 HO1017 HO1022 HB; obtain ⟨Ao49, co49, rfl⟩ := Kd.R_slice HO1017.out; obtain ⟨Ao50, co50, rfl⟩ := Kd.R_slice HO1022.out) | (go_at_call 12; (with_reducible refine (chrysalisref09_Same.calls k1 _ _ t1013 _ _ t1018 false _ ?side1 ?side2 ?side3 ?side4 A37.out).mono ?_); (case side1 => repeat (first | exact (Kd.R_reads' HO1017.out).2.2 | (with_reducible refine Kd.C_alloc ?_ _) | (with_reducible refine Kd.C_drewN ?_ _) | (with_reducible refine Kd.C_drew ?_))); (case side2 => exact (Kd.R_reads' HO1017.out).2.1); (case side3 => repeat (first | exact (Kd.R_reads' HO1022.out).2.2 | (with_reducible refine Kd.C_alloc ?_ _) | (with_reducible refine Kd.C_drewN ?_ _) | (with_reducible refine Kd.C_drew ?_))); (case side4 => exact (Kd.R_reads' HO1022.out).2.1); rintro e w' ⟨rfl, ⟨nd, rfl⟩⟩))
     go_ret
     exact ⟨Z4, Z3⟩
    obtain rfl := Option.some.inj H
    obtain ⟨Ao51, co51, eo51⟩ := Kd.R_slice HO_3.out
    subst eo51
    go_wp2_with (first | ((with_reducible refine gC 9 rfl ?_); refine gM 9 55 rfl Try.func9 (parse_Text.calls k1 a0 t1013 t1014 t1015 _ A28.out) ?_; rintro _ w52 ⟨v1016, rfl, ho0, hb⟩; refine ⟨_, rfl, yA3 (Kd.R_below Z10 hb) (Kd.R_lower ho0 (below_size Z3)) (below_step Z3 hb) ?_⟩; clear HO_3 HB hb ho0; intro HO_3 HO1017 HB) | ((with_reducible refine gC 9 rfl ?_); refine gM 9 61 rfl Try.func9 (parse_Text.calls k1 x6_1 t1018 t1019 t1020 _ A29.out) ?_; rintro _ w53 ⟨v1021, rfl, ho0, hb⟩; refine ⟨_, rfl, yA4 (Kd.R_below Z10 hb) (Kd.R_elder' Z39 (Kd.R_base ho0) hb) (Kd.R_lower (Kd.R_new' ho0 (Kd.R_lt Z39)) (below_size Z3)) (below_step Z3 hb) ?_⟩; clear HO_3 HO1017 HB hb ho0; intro HO_3 HO1017 HO1022 HB))
    go_ret
    exact ⟨Z4, Z3⟩
 revert H
 refine yB1 fun t1007 A54 H => ?_
 obtain rfl := Option.some.inj H
 go_enter Try.func7, Try.ntmps7
 go_wp2_with (first | ((with_reducible refine gC 13 rfl ?_); refine gM 13 20 rfl Try.func13 (lex_Scan.calls k a0 t1002 t1003 t1004 _ A5.out) ?_; rintro _ w55 ⟨v1005, rfl, ho0, hb⟩; refine ⟨_, rfl, yA2 (Kd.R_lower ho0 (below_size Z3)) (below_step Z3 hb) ?_⟩; clear HB hb ho0; intro HO1006 HB) | ((with_reducible refine gC 8 rfl ?_); refine gM 8 26 rfl Try.func8 (chrysalislaw10_known.calls k  t1007 _ A54.out) ?_; rintro _ w56 ⟨rfl, hb⟩; refine ⟨_, rfl, yA2 (Kd.R_below (by (with_reducible repeat (first | apply Kd.R_alloc | apply Kd.R_drewN | apply Kd.R_drew)); exact HO1006.out) hb) (below_step Z3 hb) ?_⟩; clear HO1006 HB hb; intro HO1006 HB))
 go_ret
 exact ⟨Z4, Z3⟩
/-- THE ONE PURE STATEMENT of chrysalislaw10_ParseSpaces: yours. -/
def chrysalislaw10_ParseSpaces.Pure : Prop := ∀ (a0 : ByteArray), a0.size ≤ 140737488351232 → ∃ k, chrysalislaw10_ParseSpaces.f k a0 = some true
theorem chrysalislaw10_ParseSpaces.walk (P : chrysalislaw10_ParseSpaces.Pure) (a0 : ByteArray) (w : World) (w0 : a0.size ≤ 140737488351232) :
 Calls Try.prog 7 #[.string a0] w fun e w' => e = .returned (.bool true) ∧ Below w.heap.size w w' := by
 obtain ⟨k, h⟩ := P a0 w0
 refine (chrysalislaw10_ParseSpaces.calls k a0 true w h).mono ?_
 rintro e w' ⟨rfl, hd⟩
 exact ⟨rfl, hd⟩
end Go.Proofs.Ytendgafpkeadhaa.Q
end
