/- Walks over functions of the program, words for them, and what the functions come to; of each text only what this claim uses; no condition. -/
import Derived.Test.YtkbhkonenkgfoaaGreatZPT0
import Derived.Test.YtkbhkonenkgfoaaGreatZPT1
import Derived.Test.YtkbhkonenkgfoaaGreatZPT3
import Derived.Test.YtkbhkonenkgfoaaGreatZPT9
section
namespace Go.Proofs.YtkbhkonenkgfoaaGreat.Q
open Go.RowKit Go.Proofs.YtkbhkonenkgfoaaGreatW.PrintWords Go.Proofs.YtkbhkonenkgfoaaGreatW.PrintLast Go.Proofs.YtkbhkonenkgfoaaGreatW.PrintMore
attribute [local go_sem] dJ dH dS dR cZ cO dI dG
set_option linter.unusedVariables false
set_option linter.unusedSimpArgs false
/-! ### dm: function 83 -/
def dm.l0 : Nat → ByteArray → List ByteArray → Int → Option (Bool)
 | 0, _, _, _ => none
 | k + 1, x0, x3, x4 => if x4 < (x3.length : Int) then (if 0 ≤ x4 then (if (nX ByteArray.empty x3 x4).toList = x0.toList then (some true) else (dm.l0 k x0 x3 (wrap64 (x4 + 1)))) else (none)) else (some false)
def dm.f (k : Nat) (a0 : ByteArray) : Option (Bool) := dm.l0 k a0 (([(⟨#[43]⟩ : ByteArray), (⟨#[45]⟩ : ByteArray), (⟨#[42]⟩ : ByteArray), (⟨#[47]⟩ : ByteArray), (⟨#[37]⟩ : ByteArray), (⟨#[46, 46]⟩ : ByteArray), (⟨#[61, 61]⟩ : ByteArray), (⟨#[33, 61]⟩ : ByteArray), (⟨#[60]⟩ : ByteArray), (⟨#[60, 61]⟩ : ByteArray), (⟨#[97, 110, 100]⟩ : ByteArray), (⟨#[111, 114]⟩ : ByteArray)] : List ByteArray)) 0
theorem dm.bZ : ∀ k, (∀ y0 y1 y2, LeO (dm.l0 k y0 y1 y2) (dm.l0 (k + 1) y0 y1 y2))
 | 0 => fun _ _ _ r h => by simp [dm.l0] at h
 | k + 1 => by
  have ih0 := dm.bZ k
  intro y0 y1 y2
  unfold dm.l0
  exact yL
theorem dm.mono : ∀ a0 k, LeO (dm.f k a0) (dm.f (k + 1) a0) := by
 intro a0 k
 have ih0 := dm.bZ k
 unfold dm.f
 exact yL
set_option maxHeartbeats 8000000 in
set_option maxRecDepth 100000 in
theorem dm.calls (k : Nat) (a0 : ByteArray) (r : Bool) (w : World) (h : dm.f k a0 = some r) :
 Calls Tryz.prog 83 #[.string a0] w fun e w' => e = .returned (.bool r) ∧ Below w.heap.size w w' := by
 have HB := af.mk (Below.refl w.heap.size w)
 have H := h
 clear h
 unfold dm.f at H
 obtain ⟨y1198, hy1198⟩ : ∃ y_ : List ByteArray, y_ = (([(⟨#[43]⟩ : ByteArray), (⟨#[45]⟩ : ByteArray), (⟨#[42]⟩ : ByteArray), (⟨#[47]⟩ : ByteArray), (⟨#[37]⟩ : ByteArray), (⟨#[46, 46]⟩ : ByteArray), (⟨#[61, 61]⟩ : ByteArray), (⟨#[33, 61]⟩ : ByteArray), (⟨#[60]⟩ : ByteArray), (⟨#[60, 61]⟩ : ByteArray), (⟨#[97, 110, 100]⟩ : ByteArray), (⟨#[111, 114]⟩ : ByteArray)] : List ByteArray)) := ⟨_, rfl⟩
 replace H : (dm.l0 k a0 y1198 0) = some r := by first | (rw [hy1198]; with_reducible exact H) | (have H2_ := (Option.bind_some _ _).symm.trans H; rw [hy1198]; with_reducible exact H2_) | (have H2_ := (Option.bind_some _ _).symm.trans H; with_reducible exact H2_) | with_reducible exact H | (rw [hy1198]; exact H) | exact H
 have Ny1198 := af.mk hy1198
 clear hy1198
 have H' := af.mk H
 clear H
 go_enter Tryz.func83, Tryz.ntmps83
 go_wp2_with (first | ((with_reducible refine bH (N := 5) rfl ?_); refine Kd.pO Kd.string _ 9 ?hg (N := 5) ?hd (xs := ([(⟨#[43]⟩ : ByteArray), (⟨#[45]⟩ : ByteArray), (⟨#[42]⟩ : ByteArray), (⟨#[47]⟩ : ByteArray), (⟨#[37]⟩ : ByteArray), (⟨#[46, 46]⟩ : ByteArray), (⟨#[61, 61]⟩ : ByteArray), (⟨#[33, 61]⟩ : ByteArray), (⟨#[60]⟩ : ByteArray), (⟨#[60, 61]⟩ : ByteArray), (⟨#[97, 110, 100]⟩ : ByteArray), (⟨#[111, 114]⟩ : ByteArray)] : List ByteArray)) (inner := [.string (⟨#[43]⟩ : ByteArray), .string (⟨#[45]⟩ : ByteArray), .string (⟨#[42]⟩ : ByteArray), .string (⟨#[47]⟩ : ByteArray), .string (⟨#[37]⟩ : ByteArray), .string (⟨#[46, 46]⟩ : ByteArray), .string (⟨#[61, 61]⟩ : ByteArray), .string (⟨#[33, 61]⟩ : ByteArray), .string (⟨#[60]⟩ : ByteArray), .string (⟨#[60, 61]⟩ : ByteArray), .string (⟨#[97, 110, 100]⟩ : ByteArray), .string (⟨#[111, 114]⟩ : ByteArray)]) (ok := fun _ => True) (okp := fun _ => True) ?hr ?hp (fun _ hk => hk) trivial (Below.refl _ _) (Nat.le_refl _) (by simp) ?_; (case hd => rfl); (case hg => rfl); (case hr => first | (go_simp; done) | (go_simp; rfl)); (case hp => exact (eG.one (show Kd.M Kd.string _ _ _ (⟨#[43]⟩ : ByteArray) [.string (⟨#[43]⟩ : ByteArray)] from rfl) (eG.one (show Kd.M Kd.string _ _ _ (⟨#[45]⟩ : ByteArray) [.string (⟨#[45]⟩ : ByteArray)] from rfl) (eG.one (show Kd.M Kd.string _ _ _ (⟨#[42]⟩ : ByteArray) [.string (⟨#[42]⟩ : ByteArray)] from rfl) (eG.one (show Kd.M Kd.string _ _ _ (⟨#[47]⟩ : ByteArray) [.string (⟨#[47]⟩ : ByteArray)] from rfl) (eG.one (show Kd.M Kd.string _ _ _ (⟨#[37]⟩ : ByteArray) [.string (⟨#[37]⟩ : ByteArray)] from rfl) (eG.one (show Kd.M Kd.string _ _ _ (⟨#[46, 46]⟩ : ByteArray) [.string (⟨#[46, 46]⟩ : ByteArray)] from rfl) (eG.one (show Kd.M Kd.string _ _ _ (⟨#[61, 61]⟩ : ByteArray) [.string (⟨#[61, 61]⟩ : ByteArray)] from rfl) (eG.one (show Kd.M Kd.string _ _ _ (⟨#[33, 61]⟩ : ByteArray) [.string (⟨#[33, 61]⟩ : ByteArray)] from rfl) (eG.one (show Kd.M Kd.string _ _ _ (⟨#[60]⟩ : ByteArray) [.string (⟨#[60]⟩ : ByteArray)] from rfl) (eG.one (show Kd.M Kd.string _ _ _ (⟨#[60, 61]⟩ : ByteArray) [.string (⟨#[60, 61]⟩ : ByteArray)] from rfl) (eG.one (show Kd.M Kd.string _ _ _ (⟨#[97, 110, 100]⟩ : ByteArray) [.string (⟨#[97, 110, 100]⟩ : ByteArray)] from rfl) (eG.one (show Kd.M Kd.string _ _ _ (⟨#[111, 114]⟩ : ByteArray) [.string (⟨#[111, 114]⟩ : ByteArray)] from rfl) (eG.none _ _)))))))))))))); intro v1199 w2 ho3 hb hg_ hnew_; clear hg_ hnew_; (first | rw [← Ny1198.out] at ho3 | (simp only [Int.reduceToNat] at ho3; rw [← Ny1198.out] at ho3)); refine yA2 (Kd.iw ho3 (bD (bT HB))) (aA (bT HB) hb) ?_; clear HB; intro HO1200 HB; clear hb ho3))
 go_loopg [4] k (fun kq v4 w' => ∃ (x4_1 : Int), v4 = .int .i64 x4_1 ∧ af (dm.l0 kq a0 y1198 x4_1 = some r) ∧ af (kq ≤ k) ∧ af (Kd.R Kd.string 9 w' w.heap.size (fun _ => True) v1199 y1198) ∧ af (Below w.heap.size w w'))
 case atStart => exact ⟨(0), fT, H', ⟨Nat.le_refl _⟩, ⟨qR HO1200⟩, ⟨bT HB⟩⟩
 case round =>
  clear H'
  try clear p2
  obtain ⟨x4_1, rfl, HA, HK1, HO_3, HB⟩ := hrel
  cases gk with
  | zero => exact absurd HA.out (by simp [dm.l0])
  | succ k1 =>
   have H := HA.out
   clear HA
   simp only [dm.l0] at H
   revert H
   refine iR (fun c4b0 H => ?_) fun c4b0 H => ?_
   ·revert H
    refine gB (fun c5b0 H => ?_) fun c5 H => ?_
    ·revert H
     refine aU (fun c6b0 c6b1 H => ?_) fun c6 c6b0 c6b1 H => ?_
     ·obtain rfl := Option.some.inj H
      obtain ⟨Ao7, co7, eo7⟩ := Kd.fG HO_3.out
      subst eo7
      have p1201 : 0 ≤ (x4_1 : Int) := of_decide_eq_true aT
      have q1201 : x4_1 < (y1198.length : Int) := of_decide_eq_true aT
      obtain ⟨ad1201, e1201, hx1201_0⟩ := Kd.oP (Kd.dU HO_3.out).2.2 x4_1 p1201 q1201
      cases e1201
      replace p1201 := eq_true p1201
      replace q1201 := eq_true q1201
      go_wp2
      go_ret
      exact ⟨eT, bT HB⟩
     have H' := af.mk H
     clear H
     obtain ⟨Ao8, co8, eo8⟩ := Kd.fG HO_3.out
     subst eo8
     have p1201 : 0 ≤ (x4_1 : Int) := of_decide_eq_true aT
     have q1201 : x4_1 < (y1198.length : Int) := of_decide_eq_true aT
     obtain ⟨ad1201, e1201, hx1201_0⟩ := Kd.oP (Kd.dU HO_3.out).2.2 x4_1 p1201 q1201
     cases e1201
     replace p1201 := eq_true p1201
     replace q1201 := eq_true q1201
     go_wp2
     go_roundg k1
     case measure => have := HK1.out; omega
     case rel => exact ⟨(wrap64 (x4_1 + 1)), fT, H', ⟨by have := HK1.out; omega⟩, ⟨qR HO_3⟩, ⟨bT HB⟩⟩
    exact absurd H (by simp)
   obtain rfl := Option.some.inj H
   obtain ⟨Ao9, co9, eo9⟩ := Kd.fG HO_3.out
   subst eo9
   go_wp2
   go_ret
   exact ⟨eT, bT HB⟩
end Go.Proofs.YtkbhkonenkgfoaaGreat.Q
end
section
namespace Go.Proofs.YtkbhkonenkgfoaaGreat.Q
open Go.RowKit Go.Proofs.YtkbhkonenkgfoaaGreatW.PrintWords Go.Proofs.YtkbhkonenkgfoaaGreatW.PrintLast Go.Proofs.YtkbhkonenkgfoaaGreatW.PrintMore
attribute [local go_sem] dJ dH dS dR cZ cO dI dG
set_option linter.unusedVariables false
set_option linter.unusedSimpArgs false
/-! ### bi: function 42 -/
def bi.j0 : Nat → Bool → Bool → Int → Bool → Int → Int → ByteArray → Int → ByteArray → Int → Int → ByteArray → Int → ByteArray → Option (Bool)
 | 0, _, _, _, _, _, _, _, _, _, _, _, _, _, _ => none
 | k + 1, x3, x4, x14, x57, x1203000, x1203001, x1203002, x1203003, x1203004, x1206000, x1206001, x1206002, x1206003, x1206004 => if x57 = true then (if x3 = true then ((cu.f x1206000 x1206001 (⟨#[]⟩ : ByteArray) x1206003 x1206004).bind fun t1208 => (some t1208)) else (some false)) else (if x14 = 19 then (if x1203003 ≥ 0 then ((cu.f x1206000 x1206001 x1206002 0 x1206004).bind fun t1209 => (some t1209)) else (some false)) else (if x14 = 20 then (if (x1203004.size : Int) ≤ 1024 then ((cu.f x1206000 x1206001 x1206002 x1206003 (⟨#[]⟩ : ByteArray)).bind fun t1210 => (some t1210)) else (some false)) else (if x14 = 23 then (if x3 = true then (if x4 = true then ((cu.f x1206000 x1206001 (⟨#[]⟩ : ByteArray) x1206003 (⟨#[]⟩ : ByteArray)).bind fun t1211 => (some t1211)) else (some false)) else (some false)) else (if x14 = 27 then ((dm.f k x1203004).bind fun t1212 => (if t1212 = true then ((cu.f x1206000 x1206001 x1206002 x1206003 (⟨#[]⟩ : ByteArray)).bind fun t1213 => (some t1213)) else (some false))) else (if x14 = 28 then (if x1203004.toList = ([45] : List UInt8) then ((cu.f x1206000 x1206001 x1206002 x1206003 (⟨#[]⟩ : ByteArray)).bind fun t1214 => (some t1214)) else (if x1203004.toList = ([110, 111, 116] : List UInt8) then ((cu.f x1206000 x1206001 x1206002 x1206003 (⟨#[]⟩ : ByteArray)).bind fun t1215 => (some t1215)) else (if x1203004.toList = ([108, 101, 110] : List UInt8) then ((cu.f x1206000 x1206001 x1206002 x1206003 (⟨#[]⟩ : ByteArray)).bind fun t1216 => (some t1216)) else (some false)))) else (if x1203000 ≥ 1 then (if x1203000 ≤ 30 then ((cu.f x1203000 x1203001 x1203002 x1203003 x1203004).bind fun t1217 => (some t1217)) else (some false)) else (some false)))))))
def bi.f (k : Nat) (a0_0 : Int) (a0_1 : Int) (a0_2 : ByteArray) (a0_3 : Int) (a0_4 : ByteArray) : Option (Bool) := (eH.f k a0_2).bind fun t1203 => ((eH.f k a0_4).bind fun t1204 => (if a0_0 = 1 then (if t1203 = true then (if a0_3 ≥ 1 then (if a0_3 ≤ 2147483647 then ((cu.f a0_0 a0_1 (⟨#[]⟩ : ByteArray) 0 a0_4).bind fun t1206 => (some t1206)) else (some false)) else (some false)) else (some false)) else (if a0_0 = 2 then (if t1203 = true then (if t1204 = true then (if a0_3 ≥ 0 then (if a0_3 ≤ 8 then ((cu.f a0_0 a0_1 (⟨#[]⟩ : ByteArray) 0 (⟨#[]⟩ : ByteArray)).bind fun t1207 => (some t1207)) else (some false)) else (some false)) else (some false)) else (some false)) else (if a0_0 = 3 then (bi.j0 k t1203 t1204 a0_0 (a0_0 == 3) a0_0 a0_1 a0_2 a0_3 a0_4 a0_0 a0_1 a0_2 a0_3 a0_4) else (if a0_0 = 4 then (bi.j0 k t1203 t1204 a0_0 (a0_0 == 4) a0_0 a0_1 a0_2 a0_3 a0_4 a0_0 a0_1 a0_2 a0_3 a0_4) else (if a0_0 = 6 then (bi.j0 k t1203 t1204 a0_0 (a0_0 == 6) a0_0 a0_1 a0_2 a0_3 a0_4 a0_0 a0_1 a0_2 a0_3 a0_4) else (if a0_0 = 7 then (bi.j0 k t1203 t1204 a0_0 (a0_0 == 7) a0_0 a0_1 a0_2 a0_3 a0_4 a0_0 a0_1 a0_2 a0_3 a0_4) else (bi.j0 k t1203 t1204 a0_0 (a0_0 == 21) a0_0 a0_1 a0_2 a0_3 a0_4 a0_0 a0_1 a0_2 a0_3 a0_4))))))))
theorem bi.bZ : ∀ k, (∀ y0 y1 y2 y3 y4 y5 y6 y7 y8 y9 y10 y11 y12 y13, LeO (bi.j0 k y0 y1 y2 y3 y4 y5 y6 y7 y8 y9 y10 y11 y12 y13) (bi.j0 (k + 1) y0 y1 y2 y3 y4 y5 y6 y7 y8 y9 y10 y11 y12 y13))
 | 0 => fun _ _ _ _ _ _ _ _ _ _ _ _ _ _ r h => by simp [bi.j0] at h
 | k + 1 => by
  have ih0 := bi.bZ k
  intro y0 y1 y2 y3 y4 y5 y6 y7 y8 y9 y10 y11 y12 y13
  unfold bi.j0
  have m0 := eH.mono
  have m1 := dm.mono
  exact yL
theorem bi.mono : ∀ a0 a1 a2 a3 a4 k, LeO (bi.f k a0 a1 a2 a3 a4) (bi.f (k + 1) a0 a1 a2 a3 a4) := by
 intro a0 a1 a2 a3 a4 k
 have ih0 := bi.bZ k
 unfold bi.f
 have m0 := eH.mono
 have m1 := dm.mono
 exact yL
theorem CY {P : Program} {c : Code} {Q : Exit → Act → World → Prop} {a : Act} {w : World} (J : World → Prop) (h : J w) (k : ∀ w', J w' → Code.wp P c Q a w') : Code.wp P c Q a w := k w h
set_option maxHeartbeats 8000000 in
set_option maxRecDepth 100000 in
theorem bi.calls (k : Nat) (a0_0 : Int) (a0_1 : Int) (a0_2 : ByteArray) (a0_3 : Int) (a0_4 : ByteArray) (r : Bool) (w : World) (h : bi.f k a0_0 a0_1 a0_2 a0_3 a0_4 = some r) :
 Calls Tryz.prog 42 #[.agg #[.int .i64 a0_0, .int .i64 a0_1, .string a0_2, .int .i64 a0_3, .string a0_4]] w fun e w' => e = .returned (.bool r) ∧ Below w.heap.size w w' := by
 have hu29 := Tryz.underlying29
 have HB := af.mk (Below.refl w.heap.size w)
 have H := h
 clear h
 unfold bi.f at H
 revert H
 refine yB1 fun t1203 A2 H => ?_
 revert H
 refine yB1 fun t1204 A3 H => ?_
 go_enter Tryz.func42, Tryz.ntmps42
 go_upto_if 15 with (first | ((with_reducible refine bH (N := 1) rfl ?_); refine fA ?hg (N := 1) ?hd (cs := #[.int .i64 a0_0, .int .i64 a0_1, .string a0_2, .int .i64 a0_3, .string a0_4]) (t := 29) ?hr ?_; (case hd => rfl); (case hg => rfl); (case hr => first | (go_simp; done) | (go_simp; rfl)); intro gb250 hg w108 hbox hb; refine yA4 (aA (bT HB) hb) (hbox) ((by rw [hg]; exact (bD (bT HB)) : w.heap.size ≤ gb250)) ((by rw [hg]; exact (bD (bT HB)) : w.heap.size ≤ gb250)) ?_; clear HB; intro HB BK250 GW250 GE250; clear hb hbox hg; have hcz109_0 : w108.cell? ⟨gb250, 0, none⟩ = some (.int .i64 a0_0) := (ag BK250.out 0).trans rfl; have hcz109_1 : w108.cell? ⟨gb250, 1, none⟩ = some (.int .i64 a0_1) := (ag BK250.out 1).trans rfl; have hcz109_2 : w108.cell? ⟨gb250, 2, none⟩ = some (.string a0_2) := (ag BK250.out 2).trans rfl; have hcz109_3 : w108.cell? ⟨gb250, 3, none⟩ = some (.int .i64 a0_3) := (ag BK250.out 3).trans rfl; have hcz109_4 : w108.cell? ⟨gb250, 4, none⟩ = some (.string a0_4) := (ag BK250.out 4).trans rfl; have hfz109_0 := ae BK250.out 0; have hfz109_1 := ae BK250.out 1; have hfz109_2 := ae BK250.out 2; have hfz109_3 := ae BK250.out 3; have hfz109_4 := ae BK250.out 4) | ((with_reducible refine gC 81 rfl ?_); refine gM 81 8 rfl Tryz.func81 (eH.calls k a0_2 t1203 _ A2.out) ?_; rintro _ w110 ⟨rfl, hb⟩; refine ⟨_, rfl, yA2 (dL (g := gb250) (o := .cells #[.int .i64 a0_0, .int .i64 a0_1, .string a0_2, .int .i64 a0_3, .string a0_4] 29 (0, 0)) (by exact BK250.out) hb) (aA (bT HB) hb) ?_⟩; clear BK250 HB hb; intro BK250 HB; have hcz111_0 : w110.cell? ⟨gb250, 0, none⟩ = some (.int .i64 a0_0) := (ag BK250.out 0).trans rfl; have hcz111_1 : w110.cell? ⟨gb250, 1, none⟩ = some (.int .i64 a0_1) := (ag BK250.out 1).trans rfl; have hcz111_2 : w110.cell? ⟨gb250, 2, none⟩ = some (.string a0_2) := (ag BK250.out 2).trans rfl; have hcz111_3 : w110.cell? ⟨gb250, 3, none⟩ = some (.int .i64 a0_3) := (ag BK250.out 3).trans rfl; have hcz111_4 : w110.cell? ⟨gb250, 4, none⟩ = some (.string a0_4) := (ag BK250.out 4).trans rfl; have hfz111_0 := ae BK250.out 0; have hfz111_1 := ae BK250.out 1; have hfz111_2 := ae BK250.out 2; have hfz111_3 := ae BK250.out 3; have hfz111_4 := ae BK250.out 4) | ((with_reducible refine gC 81 rfl ?_); refine gM 81 11 rfl Tryz.func81 (eH.calls k a0_4 t1204 _ A3.out) ?_; rintro _ w112 ⟨rfl, hb⟩; refine ⟨_, rfl, yA2 (dL (g := gb250) (o := .cells #[.int .i64 a0_0, .int .i64 a0_1, .string a0_2, .int .i64 a0_3, .string a0_4] 29 (0, 0)) (by exact BK250.out) hb) (aA (bT HB) hb) ?_⟩; clear BK250 HB hb; intro BK250 HB; have hcz113_0 : w112.cell? ⟨gb250, 0, none⟩ = some (.int .i64 a0_0) := (ag BK250.out 0).trans rfl; have hcz113_1 : w112.cell? ⟨gb250, 1, none⟩ = some (.int .i64 a0_1) := (ag BK250.out 1).trans rfl; have hcz113_2 : w112.cell? ⟨gb250, 2, none⟩ = some (.string a0_2) := (ag BK250.out 2).trans rfl; have hcz113_3 : w112.cell? ⟨gb250, 3, none⟩ = some (.int .i64 a0_3) := (ag BK250.out 3).trans rfl; have hcz113_4 : w112.cell? ⟨gb250, 4, none⟩ = some (.string a0_4) := (ag BK250.out 4).trans rfl; have hfz113_0 := ae BK250.out 0; have hfz113_1 := ae BK250.out 1; have hfz113_2 := ae BK250.out 2; have hfz113_3 := ae BK250.out 3; have hfz113_4 := ae BK250.out 4) | ((with_reducible refine bH (N := 5) rfl ?_); refine fA ?hg (N := 5) ?hd (cs := #[.int .i64 0, .int .i64 0, .string (⟨#[]⟩ : ByteArray), .int .i64 0, .string (⟨#[]⟩ : ByteArray)]) (t := 29) ?hr ?_; (case hd => rfl); (case hg => rfl); (case hr => first | (go_simp; done) | (go_simp; rfl)); intro gb253 hg w114 hbox hb; refine yA7 (dL (g := gb250) (o := .cells #[.int .i64 a0_0, .int .i64 a0_1, .string a0_2, .int .i64 a0_3, .string a0_4] 29 (0, 0)) (by exact BK250.out) hb) (aA (bT HB) hb) (hbox) ((by rw [hg]; exact (bD (bT HB)) : w.heap.size ≤ gb253)) ((by rw [hg]; exact (bD (bT HB)) : w.heap.size ≤ gb253)) ((by rw [hg]; exact Nat.ne_of_lt (kH (g := gb250) (o := .cells #[.int .i64 a0_0, .int .i64 a0_1, .string a0_2, .int .i64 a0_3, .string a0_4] 29 (0, 0)) (by exact BK250.out)) : gb250 ≠ gb253)) ((by rw [hg]; exact Nat.ne_of_gt (kH (g := gb250) (o := .cells #[.int .i64 a0_0, .int .i64 a0_1, .string a0_2, .int .i64 a0_3, .string a0_4] 29 (0, 0)) (by exact BK250.out)) : gb253 ≠ gb250)) ?_; clear BK250 HB; intro BK250 HB BK253 GW253 GE253 NB250_253 NB253_250; clear hb hbox hg; have hnb115 := NB253_250.out; have hnc115 := NB250_253.out; have hcz116_0 : w114.cell? ⟨gb253, 0, none⟩ = some (.int .i64 0) := (ag BK253.out 0).trans rfl; have hcz116_1 : w114.cell? ⟨gb253, 1, none⟩ = some (.int .i64 0) := (ag BK253.out 1).trans rfl; have hcz116_2 : w114.cell? ⟨gb253, 2, none⟩ = some (.string (⟨#[]⟩ : ByteArray)) := (ag BK253.out 2).trans rfl; have hcz116_3 : w114.cell? ⟨gb253, 3, none⟩ = some (.int .i64 0) := (ag BK253.out 3).trans rfl; have hcz116_4 : w114.cell? ⟨gb253, 4, none⟩ = some (.string (⟨#[]⟩ : ByteArray)) := (ag BK253.out 4).trans rfl; have hfz116_0 := ae BK253.out 0; have hfz116_1 := ae BK253.out 1; have hfz116_2 := ae BK253.out 2; have hfz116_3 := ae BK253.out 3; have hfz116_4 := ae BK253.out 4; have hcz117_0 : w114.cell? ⟨gb250, 0, none⟩ = some (.int .i64 a0_0) := (ag BK250.out 0).trans rfl; have hcz117_1 : w114.cell? ⟨gb250, 1, none⟩ = some (.int .i64 a0_1) := (ag BK250.out 1).trans rfl; have hcz117_2 : w114.cell? ⟨gb250, 2, none⟩ = some (.string a0_2) := (ag BK250.out 2).trans rfl; have hcz117_3 : w114.cell? ⟨gb250, 3, none⟩ = some (.int .i64 a0_3) := (ag BK250.out 3).trans rfl; have hcz117_4 : w114.cell? ⟨gb250, 4, none⟩ = some (.string a0_4) := (ag BK250.out 4).trans rfl; have hfz117_0 := ae BK250.out 0; have hfz117_1 := ae BK250.out 1; have hfz117_2 := ae BK250.out 2; have hfz117_3 := ae BK250.out 3; have hfz117_4 := ae BK250.out 4))
 (try simp only [Act.put, List.setIfInBounds_toArray, List.set_cons_zero, List.set_cons_succ])
 refine CY (fun w_ => af (w_.heap[gb250]? = some (.cells #[.int .i64 a0_0, .int .i64 a0_1, .string a0_2, .int .i64 a0_3, .string a0_4] 29 (0, 0))) ∧ af (w_.heap[gb253]? = some (.cells #[.int .i64 a0_0, .int .i64 a0_1, .string a0_2, .int .i64 a0_3, .string a0_4] 29 (0, 0))) ∧ af (Below w.heap.size w w_)) ⟨⟨by  refine fZ ?_ NB250_253.out _; refine fZ ?_ NB250_253.out _; refine fZ ?_ NB250_253.out _; refine fZ ?_ NB250_253.out _; refine fZ ?_ NB250_253.out _; exact BK250.out⟩, ⟨by  refine bW (cs := #[.int .i64 a0_0, .int .i64 a0_1, .string a0_2, .int .i64 a0_3, .string (⟨#[]⟩ : ByteArray)]) ?_ 4 _ rfl; refine bW (cs := #[.int .i64 a0_0, .int .i64 a0_1, .string a0_2, .int .i64 0, .string (⟨#[]⟩ : ByteArray)]) ?_ 3 _ rfl; refine bW (cs := #[.int .i64 a0_0, .int .i64 a0_1, .string (⟨#[]⟩ : ByteArray), .int .i64 0, .string (⟨#[]⟩ : ByteArray)]) ?_ 2 _ rfl; refine bW (cs := #[.int .i64 a0_0, .int .i64 0, .string (⟨#[]⟩ : ByteArray), .int .i64 0, .string (⟨#[]⟩ : ByteArray)]) ?_ 1 _ rfl; refine bW (cs := #[.int .i64 0, .int .i64 0, .string (⟨#[]⟩ : ByteArray), .int .i64 0, .string (⟨#[]⟩ : ByteArray)]) ?_ 0 _ rfl; exact BK253.out⟩, ⟨bT HB⟩⟩ ?_
 clear BK250 BK253 HB
 clear hcz109_0 hcz109_1 hcz109_2 hcz109_3 hcz109_4 hcz111_0 hcz111_1 hcz111_2 hcz111_3 hcz111_4 hcz113_0 hcz113_1 hcz113_2 hcz113_3 hcz113_4 hcz116_0 hcz116_1 hcz116_2 hcz116_3 hcz116_4 hcz117_0 hcz117_1 hcz117_2 hcz117_3 hcz117_4 hfz109_0 hfz109_1 hfz109_2 hfz109_3 hfz109_4 hfz111_0 hfz111_1 hfz111_2 hfz111_3 hfz111_4 hfz113_0 hfz113_1 hfz113_2 hfz113_3 hfz113_4 hfz116_0 hfz116_1 hfz116_2 hfz116_3 hfz116_4 hfz117_0 hfz117_1 hfz117_2 hfz117_3 hfz117_4
 rintro w_ ⟨BK250, BK253, HB⟩
 have hcw250_0 : w_.cell? ⟨gb250, 0, none⟩ = some (.int .i64 a0_0) := (ag BK250.out 0).trans rfl
 have hfw250_0 := ae BK250.out 0
 have hcw250_1 : w_.cell? ⟨gb250, 1, none⟩ = some (.int .i64 a0_1) := (ag BK250.out 1).trans rfl
 have hfw250_1 := ae BK250.out 1
 have hcw250_2 : w_.cell? ⟨gb250, 2, none⟩ = some (.string a0_2) := (ag BK250.out 2).trans rfl
 have hfw250_2 := ae BK250.out 2
 have hcw250_3 : w_.cell? ⟨gb250, 3, none⟩ = some (.int .i64 a0_3) := (ag BK250.out 3).trans rfl
 have hfw250_3 := ae BK250.out 3
 have hcw250_4 : w_.cell? ⟨gb250, 4, none⟩ = some (.string a0_4) := (ag BK250.out 4).trans rfl
 have hfw250_4 := ae BK250.out 4
 have hcw253_0 : w_.cell? ⟨gb253, 0, none⟩ = some (.int .i64 a0_0) := (ag BK253.out 0).trans rfl
 have hfw253_0 := ae BK253.out 0
 have hcw253_1 : w_.cell? ⟨gb253, 1, none⟩ = some (.int .i64 a0_1) := (ag BK253.out 1).trans rfl
 have hfw253_1 := ae BK253.out 1
 have hcw253_2 : w_.cell? ⟨gb253, 2, none⟩ = some (.string a0_2) := (ag BK253.out 2).trans rfl
 have hfw253_2 := ae BK253.out 2
 have hcw253_3 : w_.cell? ⟨gb253, 3, none⟩ = some (.int .i64 a0_3) := (ag BK253.out 3).trans rfl
 have hfw253_3 := ae BK253.out 3
 have hcw253_4 : w_.cell? ⟨gb253, 4, none⟩ = some (.string a0_4) := (ag BK253.out 4).trans rfl
 have hfw253_4 := ae BK253.out 4
 revert H
 refine aU (fun c4b0 c4b1 H => ?_) fun c4 c4b0 c4b1 H => ?_
 ·cases t1203
  rotate_left
  ·replace H := yT H
   revert H
   refine gU (fun c6 H => ?_) fun c6 H => ?_
   ·have c6b0 : decide (1 ≤ a0_3) = true := decide_eq_true c6
    clear c6
    revert H
    refine iR (fun c7b0 H => ?_) fun c7b0 H => ?_
    ·revert H
     refine yB1 fun t1206 A8 H => ?_
     obtain rfl := Option.some.inj H
     go_wp2_with (first | (go_at_call 82; (with_reducible refine (cu.calls a0_0 a0_1 (⟨#[]⟩ : ByteArray) 0 a0_4 t1206 _ A8.out).mono ?_); rintro e w19 ⟨rfl, hb⟩; refine yA3 (dL (g := gb250) (o := .cells #[.int .i64 a0_0, .int .i64 a0_1, .string a0_2, .int .i64 a0_3, .string a0_4] 29 (0, 0)) (by refine fZ ?_ NB250_253.out _; refine fZ ?_ NB250_253.out _; exact BK250.out) hb) (dL (g := gb253) (o := .cells #[.int .i64 a0_0, .int .i64 a0_1, .string (⟨#[]⟩ : ByteArray), .int .i64 0, .string a0_4] 29 (0, 0)) (by refine bW (cs := #[.int .i64 a0_0, .int .i64 a0_1, .string (⟨#[]⟩ : ByteArray), .int .i64 a0_3, .string a0_4]) ?_ 3 _ rfl; refine bW (cs := #[.int .i64 a0_0, .int .i64 a0_1, .string a0_2, .int .i64 a0_3, .string a0_4]) ?_ 2 _ rfl; exact BK253.out) hb) (aA (bT HB) hb) ?_; clear BK250 BK253 HB; intro BK250 BK253 HB; (try clear hb)))
     go_ret
     exact ⟨eT, bT HB⟩
    obtain rfl := Option.some.inj H
    go_wp2
    go_ret
    exact ⟨eT, bT HB⟩
   have c6b0 : decide (1 ≤ a0_3) = false := decide_eq_false c6
   clear c6
   obtain rfl := Option.some.inj H
   go_wp2
   go_ret
   exact ⟨eT, bT HB⟩
  replace H := yF H
  obtain rfl := Option.some.inj H
  go_wp2
  go_ret
  exact ⟨eT, bT HB⟩
 revert H
 refine aU (fun c50b0 c50b1 H => ?_) fun c50 c50b0 c50b1 H => ?_
 ·cases t1203
  rotate_left
  ·replace H := yT H
   cases t1204
   rotate_left
   ·replace H := yT H
    revert H
    refine gU (fun c53 H => ?_) fun c53 H => ?_
    ·have c53b0 : decide (0 ≤ a0_3) = true := decide_eq_true c53
     clear c53
     revert H
     refine iR (fun c54b0 H => ?_) fun c54b0 H => ?_
     ·revert H
      refine yB1 fun t1207 A55 H => ?_
      obtain rfl := Option.some.inj H
      go_wp2_with (first | (go_at_call 82; (with_reducible refine (cu.calls a0_0 a0_1 (⟨#[]⟩ : ByteArray) 0 (⟨#[]⟩ : ByteArray) t1207 _ A55.out).mono ?_); rintro e w66 ⟨rfl, hb⟩; refine yA3 (dL (g := gb250) (o := .cells #[.int .i64 a0_0, .int .i64 a0_1, .string a0_2, .int .i64 a0_3, .string a0_4] 29 (0, 0)) (by refine fZ ?_ NB250_253.out _; refine fZ ?_ NB250_253.out _; refine fZ ?_ NB250_253.out _; exact BK250.out) hb) (dL (g := gb253) (o := .cells #[.int .i64 a0_0, .int .i64 a0_1, .string (⟨#[]⟩ : ByteArray), .int .i64 0, .string (⟨#[]⟩ : ByteArray)] 29 (0, 0)) (by refine bW (cs := #[.int .i64 a0_0, .int .i64 a0_1, .string (⟨#[]⟩ : ByteArray), .int .i64 a0_3, .string (⟨#[]⟩ : ByteArray)]) ?_ 3 _ rfl; refine bW (cs := #[.int .i64 a0_0, .int .i64 a0_1, .string (⟨#[]⟩ : ByteArray), .int .i64 a0_3, .string a0_4]) ?_ 4 _ rfl; refine bW (cs := #[.int .i64 a0_0, .int .i64 a0_1, .string a0_2, .int .i64 a0_3, .string a0_4]) ?_ 2 _ rfl; exact BK253.out) hb) (aA (bT HB) hb) ?_; clear BK250 BK253 HB; intro BK250 BK253 HB; (try clear hb)))
      go_ret
      exact ⟨eT, bT HB⟩
     obtain rfl := Option.some.inj H
     go_wp2
     go_ret
     exact ⟨eT, bT HB⟩
    have c53b0 : decide (0 ≤ a0_3) = false := decide_eq_false c53
    clear c53
    obtain rfl := Option.some.inj H
    go_wp2
    go_ret
    exact ⟨eT, bT HB⟩
   replace H := yF H
   obtain rfl := Option.some.inj H
   go_wp2
   go_ret
   exact ⟨eT, bT HB⟩
  replace H := yF H
  obtain rfl := Option.some.inj H
  go_wp2
  go_ret
  exact ⟨eT, bT HB⟩
 have HC107 := af.mk H
 clear H
 go_upto_if 57 with (fail)
 (try simp only [Act.put, List.setIfInBounds_toArray, List.set_cons_zero, List.set_cons_succ])
 go_cut [57] (fun v57 wc => ∃ (kq : Nat) (x57_106 : Bool), v57 = .bool x57_106 ∧ af (bi.j0 kq t1203 t1204 a0_0 x57_106 a0_0 a0_1 a0_2 a0_3 a0_4 a0_0 a0_1 a0_2 a0_3 a0_4 = some r) ∧ af (kq ≤ k) ∧ af (wc.heap[gb250]? = some (.cells #[.int .i64 a0_0, .int .i64 a0_1, .string a0_2, .int .i64 a0_3, .string a0_4] 29 (0, 0))) ∧ af (wc.heap[gb253]? = some (.cells #[.int .i64 a0_0, .int .i64 a0_1, .string a0_2, .int .i64 a0_3, .string a0_4] 29 (0, 0))) ∧ af (Below w.heap.size w wc))
 case first =>
  have H := HC107.out
  clear HC107
  revert H
  refine aU (fun c118b0 c118b1 H => ?_) fun c118 c118b0 c118b1 H => ?_
  ·(first | rw [c118b0] | (simp only [fP, gG]; rw [c118b0]) | skip)
   have H' := af.mk H
   clear H
   go_wp2
   go_meet
   case rel => exact ⟨_, ((a0_0 == 3)), fT, H', ⟨Z11⟩, ⟨by exact BK250.out⟩, ⟨by exact BK253.out⟩, ⟨bT HB⟩⟩
  (first | rw [c118b0] | (simp only [fP, gG]; rw [c118b0]) | skip)
  revert H
  refine aU (fun c119b0 c119b1 H => ?_) fun c119 c119b0 c119b1 H => ?_
  ·have H' := af.mk H
   clear H
   go_wp2
   go_meet
   case rel => exact ⟨_, ((a0_0 == 4)), fT, H', ⟨Z11⟩, ⟨by exact BK250.out⟩, ⟨by exact BK253.out⟩, ⟨bT HB⟩⟩
  revert H
  refine aU (fun c120b0 c120b1 H => ?_) fun c120 c120b0 c120b1 H => ?_
  ·have H' := af.mk H
   clear H
   go_wp2
   go_meet
   case rel => exact ⟨_, ((a0_0 == 6)), fT, H', ⟨Z11⟩, ⟨by exact BK250.out⟩, ⟨by exact BK253.out⟩, ⟨bT HB⟩⟩
  revert H
  refine aU (fun c121b0 c121b1 H => ?_) fun c121 c121b0 c121b1 H => ?_
  ·have H' := af.mk H
   clear H
   go_wp2
   go_meet
   case rel => exact ⟨_, ((a0_0 == 7)), fT, H', ⟨Z11⟩, ⟨by exact BK250.out⟩, ⟨by exact BK253.out⟩, ⟨bT HB⟩⟩
  have H' := af.mk H
  clear H
  go_wp2
  go_meet
  case rel => exact ⟨_, ((a0_0 == 21)), fT, H', ⟨Z11⟩, ⟨by exact BK250.out⟩, ⟨by exact BK253.out⟩, ⟨bT HB⟩⟩
 case rest =>
  clear HC107
  try clear c1
  try clear c2
  try clear p2
  try clear c3
  try clear c4
  try clear c4b0
  try clear c4b1
  try clear c5
  try clear c6
  try clear c6b0
  try clear c7
  try clear c7b0
  try clear c8
  try clear c9
  try clear c10
  try clear c11
  try clear c12
  try clear c16
  try clear c27
  try clear c37
  try clear c42
  try clear c47
  try clear c50
  try clear c50b0
  try clear c50b1
  try clear c51
  try clear c52
  try clear c53
  try clear c53b0
  try clear c54
  try clear c54b0
  try clear c63
  try clear c74
  try clear c81
  try clear c84
  try clear c94
  try clear c104
  try clear c115
  try clear c118
  try clear c118b0
  try clear c118b1
  try clear c119
  try clear c119b0
  try clear c119b1
  try clear c120
  try clear c120b0
  try clear c120b1
  try clear c121
  try clear c121b0
  try clear c121b1
  try clear hcz100_0
  try clear hcz100_1
  try clear hcz100_2
  try clear hcz100_3
  try clear hcz100_4
  try clear hcz102_0
  try clear hcz102_1
  try clear hcz102_2
  try clear hcz102_3
  try clear hcz102_4
  try clear hcz105_0
  try clear hcz105_1
  try clear hcz105_2
  try clear hcz105_3
  try clear hcz105_4
  try clear hcz106_0
  try clear hcz106_1
  try clear hcz106_2
  try clear hcz106_3
  try clear hcz106_4
  try clear hcz109_0
  try clear hcz109_1
  try clear hcz109_2
  try clear hcz109_3
  try clear hcz109_4
  try clear hcz10_0
  try clear hcz10_1
  try clear hcz10_2
  try clear hcz10_3
  try clear hcz10_4
  try clear hcz111_0
  try clear hcz111_1
  try clear hcz111_2
  try clear hcz111_3
  try clear hcz111_4
  try clear hcz113_0
  try clear hcz113_1
  try clear hcz113_2
  try clear hcz113_3
  try clear hcz113_4
  try clear hcz116_0
  try clear hcz116_1
  try clear hcz116_2
  try clear hcz116_3
  try clear hcz116_4
  try clear hcz117_0
  try clear hcz117_1
  try clear hcz117_2
  try clear hcz117_3
  try clear hcz117_4
  try clear hcz12_0
  try clear hcz12_1
  try clear hcz12_2
  try clear hcz12_3
  try clear hcz12_4
  try clear hcz14_0
  try clear hcz14_1
  try clear hcz14_2
  try clear hcz14_3
  try clear hcz14_4
  try clear hcz17_0
  try clear hcz17_1
  try clear hcz17_2
  try clear hcz17_3
  try clear hcz17_4
  try clear hcz18_0
  try clear hcz18_1
  try clear hcz18_2
  try clear hcz18_3
  try clear hcz18_4
  try clear hcz21_0
  try clear hcz21_1
  try clear hcz21_2
  try clear hcz21_3
  try clear hcz21_4
  try clear hcz23_0
  try clear hcz23_1
  try clear hcz23_2
  try clear hcz23_3
  try clear hcz23_4
  try clear hcz25_0
  try clear hcz25_1
  try clear hcz25_2
  try clear hcz25_3
  try clear hcz25_4
  try clear hcz28_0
  try clear hcz28_1
  try clear hcz28_2
  try clear hcz28_3
  try clear hcz28_4
  try clear hcz29_0
  try clear hcz29_1
  try clear hcz29_2
  try clear hcz29_3
  try clear hcz29_4
  try clear hcz31_0
  try clear hcz31_1
  try clear hcz31_2
  try clear hcz31_3
  try clear hcz31_4
  try clear hcz33_0
  try clear hcz33_1
  try clear hcz33_2
  try clear hcz33_3
  try clear hcz33_4
  try clear hcz35_0
  try clear hcz35_1
  try clear hcz35_2
  try clear hcz35_3
  try clear hcz35_4
  try clear hcz38_0
  try clear hcz38_1
  try clear hcz38_2
  try clear hcz38_3
  try clear hcz38_4
  try clear hcz39_0
  try clear hcz39_1
  try clear hcz39_2
  try clear hcz39_3
  try clear hcz39_4
  try clear hcz41_0
  try clear hcz41_1
  try clear hcz41_2
  try clear hcz41_3
  try clear hcz41_4
  try clear hcz43_0
  try clear hcz43_1
  try clear hcz43_2
  try clear hcz43_3
  try clear hcz43_4
  try clear hcz45_0
  try clear hcz45_1
  try clear hcz45_2
  try clear hcz45_3
  try clear hcz45_4
  try clear hcz48_0
  try clear hcz48_1
  try clear hcz48_2
  try clear hcz48_3
  try clear hcz48_4
  try clear hcz49_0
  try clear hcz49_1
  try clear hcz49_2
  try clear hcz49_3
  try clear hcz49_4
  try clear hcz57_0
  try clear hcz57_1
  try clear hcz57_2
  try clear hcz57_3
  try clear hcz57_4
  try clear hcz59_0
  try clear hcz59_1
  try clear hcz59_2
  try clear hcz59_3
  try clear hcz59_4
  try clear hcz61_0
  try clear hcz61_1
  try clear hcz61_2
  try clear hcz61_3
  try clear hcz61_4
  try clear hcz64_0
  try clear hcz64_1
  try clear hcz64_2
  try clear hcz64_3
  try clear hcz64_4
  try clear hcz65_0
  try clear hcz65_1
  try clear hcz65_2
  try clear hcz65_3
  try clear hcz65_4
  try clear hcz68_0
  try clear hcz68_1
  try clear hcz68_2
  try clear hcz68_3
  try clear hcz68_4
  try clear hcz70_0
  try clear hcz70_1
  try clear hcz70_2
  try clear hcz70_3
  try clear hcz70_4
  try clear hcz72_0
  try clear hcz72_1
  try clear hcz72_2
  try clear hcz72_3
  try clear hcz72_4
  try clear hcz75_0
  try clear hcz75_1
  try clear hcz75_2
  try clear hcz75_3
  try clear hcz75_4
  try clear hcz76_0
  try clear hcz76_1
  try clear hcz76_2
  try clear hcz76_3
  try clear hcz76_4
  try clear hcz78_0
  try clear hcz78_1
  try clear hcz78_2
  try clear hcz78_3
  try clear hcz78_4
  try clear hcz80_0
  try clear hcz80_1
  try clear hcz80_2
  try clear hcz80_3
  try clear hcz80_4
  try clear hcz82_0
  try clear hcz82_1
  try clear hcz82_2
  try clear hcz82_3
  try clear hcz82_4
  try clear hcz85_0
  try clear hcz85_1
  try clear hcz85_2
  try clear hcz85_3
  try clear hcz85_4
  try clear hcz86_0
  try clear hcz86_1
  try clear hcz86_2
  try clear hcz86_3
  try clear hcz86_4
  try clear hcz88_0
  try clear hcz88_1
  try clear hcz88_2
  try clear hcz88_3
  try clear hcz88_4
  try clear hcz90_0
  try clear hcz90_1
  try clear hcz90_2
  try clear hcz90_3
  try clear hcz90_4
  try clear hcz92_0
  try clear hcz92_1
  try clear hcz92_2
  try clear hcz92_3
  try clear hcz92_4
  try clear hcz95_0
  try clear hcz95_1
  try clear hcz95_2
  try clear hcz95_3
  try clear hcz95_4
  try clear hcz96_0
  try clear hcz96_1
  try clear hcz96_2
  try clear hcz96_3
  try clear hcz96_4
  try clear hcz98_0
  try clear hcz98_1
  try clear hcz98_2
  try clear hcz98_3
  try clear hcz98_4
  try clear hfz100_0
  try clear hfz100_1
  try clear hfz100_2
  try clear hfz100_3
  try clear hfz100_4
  try clear hfz102_0
  try clear hfz102_1
  try clear hfz102_2
  try clear hfz102_3
  try clear hfz102_4
  try clear hfz105_0
  try clear hfz105_1
  try clear hfz105_2
  try clear hfz105_3
  try clear hfz105_4
  try clear hfz106_0
  try clear hfz106_1
  try clear hfz106_2
  try clear hfz106_3
  try clear hfz106_4
  try clear hfz109_0
  try clear hfz109_1
  try clear hfz109_2
  try clear hfz109_3
  try clear hfz109_4
  try clear hfz10_0
  try clear hfz10_1
  try clear hfz10_2
  try clear hfz10_3
  try clear hfz10_4
  try clear hfz111_0
  try clear hfz111_1
  try clear hfz111_2
  try clear hfz111_3
  try clear hfz111_4
  try clear hfz113_0
  try clear hfz113_1
  try clear hfz113_2
  try clear hfz113_3
  try clear hfz113_4
  try clear hfz116_0
  try clear hfz116_1
  try clear hfz116_2
  try clear hfz116_3
  try clear hfz116_4
  try clear hfz117_0
  try clear hfz117_1
  try clear hfz117_2
  try clear hfz117_3
  try clear hfz117_4
  try clear hfz12_0
  try clear hfz12_1
  try clear hfz12_2
  try clear hfz12_3
  try clear hfz12_4
  try clear hfz14_0
  try clear hfz14_1
  try clear hfz14_2
  try clear hfz14_3
  try clear hfz14_4
  try clear hfz17_0
  try clear hfz17_1
  try clear hfz17_2
  try clear hfz17_3
  try clear hfz17_4
  try clear hfz18_0
  try clear hfz18_1
  try clear hfz18_2
  try clear hfz18_3
  try clear hfz18_4
  try clear hfz21_0
  try clear hfz21_1
  try clear hfz21_2
  try clear hfz21_3
  try clear hfz21_4
  try clear hfz23_0
  try clear hfz23_1
  try clear hfz23_2
  try clear hfz23_3
  try clear hfz23_4
  try clear hfz25_0
  try clear hfz25_1
  try clear hfz25_2
  try clear hfz25_3
  try clear hfz25_4
  try clear hfz28_0
  try clear hfz28_1
  try clear hfz28_2
  try clear hfz28_3
  try clear hfz28_4
  try clear hfz29_0
  try clear hfz29_1
  try clear hfz29_2
  try clear hfz29_3
  try clear hfz29_4
  try clear hfz31_0
  try clear hfz31_1
  try clear hfz31_2
  try clear hfz31_3
  try clear hfz31_4
  try clear hfz33_0
  try clear hfz33_1
  try clear hfz33_2
  try clear hfz33_3
  try clear hfz33_4
  try clear hfz35_0
  try clear hfz35_1
  try clear hfz35_2
  try clear hfz35_3
  try clear hfz35_4
  try clear hfz38_0
  try clear hfz38_1
  try clear hfz38_2
  try clear hfz38_3
  try clear hfz38_4
  try clear hfz39_0
  try clear hfz39_1
  try clear hfz39_2
  try clear hfz39_3
  try clear hfz39_4
  try clear hfz41_0
  try clear hfz41_1
  try clear hfz41_2
  try clear hfz41_3
  try clear hfz41_4
  try clear hfz43_0
  try clear hfz43_1
  try clear hfz43_2
  try clear hfz43_3
  try clear hfz43_4
  try clear hfz45_0
  try clear hfz45_1
  try clear hfz45_2
  try clear hfz45_3
  try clear hfz45_4
  try clear hfz48_0
  try clear hfz48_1
  try clear hfz48_2
  try clear hfz48_3
  try clear hfz48_4
  try clear hfz49_0
  try clear hfz49_1
  try clear hfz49_2
  try clear hfz49_3
  try clear hfz49_4
  try clear hfz57_0
  try clear hfz57_1
  try clear hfz57_2
  try clear hfz57_3
  try clear hfz57_4
  try clear hfz59_0
  try clear hfz59_1
  try clear hfz59_2
  try clear hfz59_3
  try clear hfz59_4
  try clear hfz61_0
  try clear hfz61_1
  try clear hfz61_2
  try clear hfz61_3
  try clear hfz61_4
  try clear hfz64_0
  try clear hfz64_1
  try clear hfz64_2
  try clear hfz64_3
  try clear hfz64_4
  try clear hfz65_0
  try clear hfz65_1
  try clear hfz65_2
  try clear hfz65_3
  try clear hfz65_4
  try clear hfz68_0
  try clear hfz68_1
  try clear hfz68_2
  try clear hfz68_3
  try clear hfz68_4
  try clear hfz70_0
  try clear hfz70_1
  try clear hfz70_2
  try clear hfz70_3
  try clear hfz70_4
  try clear hfz72_0
  try clear hfz72_1
  try clear hfz72_2
  try clear hfz72_3
  try clear hfz72_4
  try clear hfz75_0
  try clear hfz75_1
  try clear hfz75_2
  try clear hfz75_3
  try clear hfz75_4
  try clear hfz76_0
  try clear hfz76_1
  try clear hfz76_2
  try clear hfz76_3
  try clear hfz76_4
  try clear hfz78_0
  try clear hfz78_1
  try clear hfz78_2
  try clear hfz78_3
  try clear hfz78_4
  try clear hfz80_0
  try clear hfz80_1
  try clear hfz80_2
  try clear hfz80_3
  try clear hfz80_4
  try clear hfz82_0
  try clear hfz82_1
  try clear hfz82_2
  try clear hfz82_3
  try clear hfz82_4
  try clear hfz85_0
  try clear hfz85_1
  try clear hfz85_2
  try clear hfz85_3
  try clear hfz85_4
  try clear hfz86_0
  try clear hfz86_1
  try clear hfz86_2
  try clear hfz86_3
  try clear hfz86_4
  try clear hfz88_0
  try clear hfz88_1
  try clear hfz88_2
  try clear hfz88_3
  try clear hfz88_4
  try clear hfz90_0
  try clear hfz90_1
  try clear hfz90_2
  try clear hfz90_3
  try clear hfz90_4
  try clear hfz92_0
  try clear hfz92_1
  try clear hfz92_2
  try clear hfz92_3
  try clear hfz92_4
  try clear hfz95_0
  try clear hfz95_1
  try clear hfz95_2
  try clear hfz95_3
  try clear hfz95_4
  try clear hfz96_0
  try clear hfz96_1
  try clear hfz96_2
  try clear hfz96_3
  try clear hfz96_4
  try clear hfz98_0
  try clear hfz98_1
  try clear hfz98_2
  try clear hfz98_3
  try clear hfz98_4
  obtain ⟨kq, x57_106, rfl, HA, HJ106, BK250, BK253, HB⟩ := hcut
  cases kq with
  | zero => exact absurd HA.out (by simp [bi.j0])
  | succ kj106 =>
   have H := HA.out
   clear HA
   simp only [bi.j0] at H
   cases x57_106
   rotate_left
   ·replace H := yT H
    cases t1203
    rotate_left
    ·replace H := yT H
     revert H
     refine yB1 fun t1208 A124 H => ?_
     obtain rfl := Option.some.inj H
     have hnb125 := NB253_250.out
     have hnc125 := NB250_253.out
     have hcz126_0 : wc.cell? ⟨gb253, 0, none⟩ = some (.int .i64 a0_0) := (ag BK253.out 0).trans rfl
     have hcz126_1 : wc.cell? ⟨gb253, 1, none⟩ = some (.int .i64 a0_1) := (ag BK253.out 1).trans rfl
     have hcz126_2 : wc.cell? ⟨gb253, 2, none⟩ = some (.string a0_2) := (ag BK253.out 2).trans rfl
     have hcz126_3 : wc.cell? ⟨gb253, 3, none⟩ = some (.int .i64 a0_3) := (ag BK253.out 3).trans rfl
     have hcz126_4 : wc.cell? ⟨gb253, 4, none⟩ = some (.string a0_4) := (ag BK253.out 4).trans rfl
     have hfz126_0 := ae BK253.out 0
     have hfz126_1 := ae BK253.out 1
     have hfz126_2 := ae BK253.out 2
     have hfz126_3 := ae BK253.out 3
     have hfz126_4 := ae BK253.out 4
     go_wp2_with (first | (go_at_call 82; (with_reducible refine (cu.calls a0_0 a0_1 (⟨#[]⟩ : ByteArray) a0_3 a0_4 t1208 _ A124.out).mono ?_); rintro e w127 ⟨rfl, hb⟩; refine yA3 (dL (g := gb250) (o := .cells #[.int .i64 a0_0, .int .i64 a0_1, .string a0_2, .int .i64 a0_3, .string a0_4] 29 (0, 0)) (by refine fZ ?_ NB250_253.out _; exact BK250.out) hb) (dL (g := gb253) (o := .cells #[.int .i64 a0_0, .int .i64 a0_1, .string (⟨#[]⟩ : ByteArray), .int .i64 a0_3, .string a0_4] 29 (0, 0)) (by refine bW (cs := #[.int .i64 a0_0, .int .i64 a0_1, .string a0_2, .int .i64 a0_3, .string a0_4]) ?_ 2 _ rfl; exact BK253.out) hb) (aA (bT HB) hb) ?_; clear BK250 BK253 HB; intro BK250 BK253 HB; (try clear hb)))
     go_ret
     exact ⟨eT, bT HB⟩
    replace H := yF H
    obtain rfl := Option.some.inj H
    have hnb128 := NB253_250.out
    have hnc128 := NB250_253.out
    have hcz129_0 : wc.cell? ⟨gb253, 0, none⟩ = some (.int .i64 a0_0) := (ag BK253.out 0).trans rfl
    have hcz129_1 : wc.cell? ⟨gb253, 1, none⟩ = some (.int .i64 a0_1) := (ag BK253.out 1).trans rfl
    have hcz129_2 : wc.cell? ⟨gb253, 2, none⟩ = some (.string a0_2) := (ag BK253.out 2).trans rfl
    have hcz129_3 : wc.cell? ⟨gb253, 3, none⟩ = some (.int .i64 a0_3) := (ag BK253.out 3).trans rfl
    have hcz129_4 : wc.cell? ⟨gb253, 4, none⟩ = some (.string a0_4) := (ag BK253.out 4).trans rfl
    have hfz129_0 := ae BK253.out 0
    have hfz129_1 := ae BK253.out 1
    have hfz129_2 := ae BK253.out 2
    have hfz129_3 := ae BK253.out 3
    have hfz129_4 := ae BK253.out 4
    go_wp2
    go_ret
    exact ⟨eT, bT HB⟩
   replace H := yF H
   revert H
   refine aU (fun c130b0 c130b1 H => ?_) fun c130 c130b0 c130b1 H => ?_
   ·revert H
    refine gU (fun c131 H => ?_) fun c131 H => ?_
    ·have c131b0 : decide (0 ≤ a0_3) = true := decide_eq_true c131
     clear c131
     revert H
     refine yB1 fun t1209 A132 H => ?_
     obtain rfl := Option.some.inj H
     have hnb133 := NB253_250.out
     have hnc133 := NB250_253.out
     have hcz134_0 : wc.cell? ⟨gb253, 0, none⟩ = some (.int .i64 a0_0) := (ag BK253.out 0).trans rfl
     have hcz134_1 : wc.cell? ⟨gb253, 1, none⟩ = some (.int .i64 a0_1) := (ag BK253.out 1).trans rfl
     have hcz134_2 : wc.cell? ⟨gb253, 2, none⟩ = some (.string a0_2) := (ag BK253.out 2).trans rfl
     have hcz134_3 : wc.cell? ⟨gb253, 3, none⟩ = some (.int .i64 a0_3) := (ag BK253.out 3).trans rfl
     have hcz134_4 : wc.cell? ⟨gb253, 4, none⟩ = some (.string a0_4) := (ag BK253.out 4).trans rfl
     have hfz134_0 := ae BK253.out 0
     have hfz134_1 := ae BK253.out 1
     have hfz134_2 := ae BK253.out 2
     have hfz134_3 := ae BK253.out 3
     have hfz134_4 := ae BK253.out 4
     have hcz135_0 : wc.cell? ⟨gb250, 0, none⟩ = some (.int .i64 a0_0) := (ag BK250.out 0).trans rfl
     have hcz135_1 : wc.cell? ⟨gb250, 1, none⟩ = some (.int .i64 a0_1) := (ag BK250.out 1).trans rfl
     have hcz135_2 : wc.cell? ⟨gb250, 2, none⟩ = some (.string a0_2) := (ag BK250.out 2).trans rfl
     have hcz135_3 : wc.cell? ⟨gb250, 3, none⟩ = some (.int .i64 a0_3) := (ag BK250.out 3).trans rfl
     have hcz135_4 : wc.cell? ⟨gb250, 4, none⟩ = some (.string a0_4) := (ag BK250.out 4).trans rfl
     have hfz135_0 := ae BK250.out 0
     have hfz135_1 := ae BK250.out 1
     have hfz135_2 := ae BK250.out 2
     have hfz135_3 := ae BK250.out 3
     have hfz135_4 := ae BK250.out 4
     go_wp2_with (first | (go_at_call 82; (with_reducible refine (cu.calls a0_0 a0_1 a0_2 0 a0_4 t1209 _ A132.out).mono ?_); rintro e w136 ⟨rfl, hb⟩; refine yA3 (dL (g := gb250) (o := .cells #[.int .i64 a0_0, .int .i64 a0_1, .string a0_2, .int .i64 a0_3, .string a0_4] 29 (0, 0)) (by refine fZ ?_ NB250_253.out _; exact BK250.out) hb) (dL (g := gb253) (o := .cells #[.int .i64 a0_0, .int .i64 a0_1, .string a0_2, .int .i64 0, .string a0_4] 29 (0, 0)) (by refine bW (cs := #[.int .i64 a0_0, .int .i64 a0_1, .string a0_2, .int .i64 a0_3, .string a0_4]) ?_ 3 _ rfl; exact BK253.out) hb) (aA (bT HB) hb) ?_; clear BK250 BK253 HB; intro BK250 BK253 HB; (try clear hb)))
     go_ret
     exact ⟨eT, bT HB⟩
    have c131b0 : decide (0 ≤ a0_3) = false := decide_eq_false c131
    clear c131
    obtain rfl := Option.some.inj H
    have hnb137 := NB253_250.out
    have hnc137 := NB250_253.out
    have hcz138_0 : wc.cell? ⟨gb253, 0, none⟩ = some (.int .i64 a0_0) := (ag BK253.out 0).trans rfl
    have hcz138_1 : wc.cell? ⟨gb253, 1, none⟩ = some (.int .i64 a0_1) := (ag BK253.out 1).trans rfl
    have hcz138_2 : wc.cell? ⟨gb253, 2, none⟩ = some (.string a0_2) := (ag BK253.out 2).trans rfl
    have hcz138_3 : wc.cell? ⟨gb253, 3, none⟩ = some (.int .i64 a0_3) := (ag BK253.out 3).trans rfl
    have hcz138_4 : wc.cell? ⟨gb253, 4, none⟩ = some (.string a0_4) := (ag BK253.out 4).trans rfl
    have hfz138_0 := ae BK253.out 0
    have hfz138_1 := ae BK253.out 1
    have hfz138_2 := ae BK253.out 2
    have hfz138_3 := ae BK253.out 3
    have hfz138_4 := ae BK253.out 4
    have hcz139_0 : wc.cell? ⟨gb250, 0, none⟩ = some (.int .i64 a0_0) := (ag BK250.out 0).trans rfl
    have hcz139_1 : wc.cell? ⟨gb250, 1, none⟩ = some (.int .i64 a0_1) := (ag BK250.out 1).trans rfl
    have hcz139_2 : wc.cell? ⟨gb250, 2, none⟩ = some (.string a0_2) := (ag BK250.out 2).trans rfl
    have hcz139_3 : wc.cell? ⟨gb250, 3, none⟩ = some (.int .i64 a0_3) := (ag BK250.out 3).trans rfl
    have hcz139_4 : wc.cell? ⟨gb250, 4, none⟩ = some (.string a0_4) := (ag BK250.out 4).trans rfl
    have hfz139_0 := ae BK250.out 0
    have hfz139_1 := ae BK250.out 1
    have hfz139_2 := ae BK250.out 2
    have hfz139_3 := ae BK250.out 3
    have hfz139_4 := ae BK250.out 4
    go_wp2
    go_ret
    exact ⟨eT, bT HB⟩
   revert H
   refine aU (fun c140b0 c140b1 H => ?_) fun c140 c140b0 c140b1 H => ?_
   ·revert H
    refine qF (fun c141 c141b0 H => ?_) fun c141 c141b0 H => ?_
    ·have c141b1 : decide (a0_4.size ≤ 1024) = true := decide_eq_true (by omega)
     clear c141
     revert H
     refine yB1 fun t1210 A142 H => ?_
     obtain rfl := Option.some.inj H
     have hnb143 := NB253_250.out
     have hnc143 := NB250_253.out
     have hcz144_0 : wc.cell? ⟨gb253, 0, none⟩ = some (.int .i64 a0_0) := (ag BK253.out 0).trans rfl
     have hcz144_1 : wc.cell? ⟨gb253, 1, none⟩ = some (.int .i64 a0_1) := (ag BK253.out 1).trans rfl
     have hcz144_2 : wc.cell? ⟨gb253, 2, none⟩ = some (.string a0_2) := (ag BK253.out 2).trans rfl
     have hcz144_3 : wc.cell? ⟨gb253, 3, none⟩ = some (.int .i64 a0_3) := (ag BK253.out 3).trans rfl
     have hcz144_4 : wc.cell? ⟨gb253, 4, none⟩ = some (.string a0_4) := (ag BK253.out 4).trans rfl
     have hfz144_0 := ae BK253.out 0
     have hfz144_1 := ae BK253.out 1
     have hfz144_2 := ae BK253.out 2
     have hfz144_3 := ae BK253.out 3
     have hfz144_4 := ae BK253.out 4
     have hcz145_0 : wc.cell? ⟨gb250, 0, none⟩ = some (.int .i64 a0_0) := (ag BK250.out 0).trans rfl
     have hcz145_1 : wc.cell? ⟨gb250, 1, none⟩ = some (.int .i64 a0_1) := (ag BK250.out 1).trans rfl
     have hcz145_2 : wc.cell? ⟨gb250, 2, none⟩ = some (.string a0_2) := (ag BK250.out 2).trans rfl
     have hcz145_3 : wc.cell? ⟨gb250, 3, none⟩ = some (.int .i64 a0_3) := (ag BK250.out 3).trans rfl
     have hcz145_4 : wc.cell? ⟨gb250, 4, none⟩ = some (.string a0_4) := (ag BK250.out 4).trans rfl
     have hfz145_0 := ae BK250.out 0
     have hfz145_1 := ae BK250.out 1
     have hfz145_2 := ae BK250.out 2
     have hfz145_3 := ae BK250.out 3
     have hfz145_4 := ae BK250.out 4
     go_wp2_with (first | (go_at_call 82; (with_reducible refine (cu.calls a0_0 a0_1 a0_2 a0_3 (⟨#[]⟩ : ByteArray) t1210 _ A142.out).mono ?_); rintro e w146 ⟨rfl, hb⟩; refine yA3 (dL (g := gb250) (o := .cells #[.int .i64 a0_0, .int .i64 a0_1, .string a0_2, .int .i64 a0_3, .string a0_4] 29 (0, 0)) (by refine fZ ?_ NB250_253.out _; exact BK250.out) hb) (dL (g := gb253) (o := .cells #[.int .i64 a0_0, .int .i64 a0_1, .string a0_2, .int .i64 a0_3, .string (⟨#[]⟩ : ByteArray)] 29 (0, 0)) (by refine bW (cs := #[.int .i64 a0_0, .int .i64 a0_1, .string a0_2, .int .i64 a0_3, .string a0_4]) ?_ 4 _ rfl; exact BK253.out) hb) (aA (bT HB) hb) ?_; clear BK250 BK253 HB; intro BK250 BK253 HB; (try clear hb)))
     go_ret
     exact ⟨eT, bT HB⟩
    have c141b1 : decide (a0_4.size ≤ 1024) = false := decide_eq_false (by omega)
    clear c141
    obtain rfl := Option.some.inj H
    have hnb147 := NB253_250.out
    have hnc147 := NB250_253.out
    have hcz148_0 : wc.cell? ⟨gb253, 0, none⟩ = some (.int .i64 a0_0) := (ag BK253.out 0).trans rfl
    have hcz148_1 : wc.cell? ⟨gb253, 1, none⟩ = some (.int .i64 a0_1) := (ag BK253.out 1).trans rfl
    have hcz148_2 : wc.cell? ⟨gb253, 2, none⟩ = some (.string a0_2) := (ag BK253.out 2).trans rfl
    have hcz148_3 : wc.cell? ⟨gb253, 3, none⟩ = some (.int .i64 a0_3) := (ag BK253.out 3).trans rfl
    have hcz148_4 : wc.cell? ⟨gb253, 4, none⟩ = some (.string a0_4) := (ag BK253.out 4).trans rfl
    have hfz148_0 := ae BK253.out 0
    have hfz148_1 := ae BK253.out 1
    have hfz148_2 := ae BK253.out 2
    have hfz148_3 := ae BK253.out 3
    have hfz148_4 := ae BK253.out 4
    have hcz149_0 : wc.cell? ⟨gb250, 0, none⟩ = some (.int .i64 a0_0) := (ag BK250.out 0).trans rfl
    have hcz149_1 : wc.cell? ⟨gb250, 1, none⟩ = some (.int .i64 a0_1) := (ag BK250.out 1).trans rfl
    have hcz149_2 : wc.cell? ⟨gb250, 2, none⟩ = some (.string a0_2) := (ag BK250.out 2).trans rfl
    have hcz149_3 : wc.cell? ⟨gb250, 3, none⟩ = some (.int .i64 a0_3) := (ag BK250.out 3).trans rfl
    have hcz149_4 : wc.cell? ⟨gb250, 4, none⟩ = some (.string a0_4) := (ag BK250.out 4).trans rfl
    have hfz149_0 := ae BK250.out 0
    have hfz149_1 := ae BK250.out 1
    have hfz149_2 := ae BK250.out 2
    have hfz149_3 := ae BK250.out 3
    have hfz149_4 := ae BK250.out 4
    go_wp2
    go_ret
    exact ⟨eT, bT HB⟩
   revert H
   refine aU (fun c150b0 c150b1 H => ?_) fun c150 c150b0 c150b1 H => ?_
   ·cases t1203
    rotate_left
    ·replace H := yT H
     cases t1204
     rotate_left
     ·replace H := yT H
      revert H
      refine yB1 fun t1211 A153 H => ?_
      obtain rfl := Option.some.inj H
      have hnb154 := NB253_250.out
      have hnc154 := NB250_253.out
      have hcz155_0 : wc.cell? ⟨gb253, 0, none⟩ = some (.int .i64 a0_0) := (ag BK253.out 0).trans rfl
      have hcz155_1 : wc.cell? ⟨gb253, 1, none⟩ = some (.int .i64 a0_1) := (ag BK253.out 1).trans rfl
      have hcz155_2 : wc.cell? ⟨gb253, 2, none⟩ = some (.string a0_2) := (ag BK253.out 2).trans rfl
      have hcz155_3 : wc.cell? ⟨gb253, 3, none⟩ = some (.int .i64 a0_3) := (ag BK253.out 3).trans rfl
      have hcz155_4 : wc.cell? ⟨gb253, 4, none⟩ = some (.string a0_4) := (ag BK253.out 4).trans rfl
      have hfz155_0 := ae BK253.out 0
      have hfz155_1 := ae BK253.out 1
      have hfz155_2 := ae BK253.out 2
      have hfz155_3 := ae BK253.out 3
      have hfz155_4 := ae BK253.out 4
      go_wp2_with (first | (go_at_call 82; (with_reducible refine (cu.calls a0_0 a0_1 (⟨#[]⟩ : ByteArray) a0_3 (⟨#[]⟩ : ByteArray) t1211 _ A153.out).mono ?_); rintro e w156 ⟨rfl, hb⟩; refine yA3 (dL (g := gb250) (o := .cells #[.int .i64 a0_0, .int .i64 a0_1, .string a0_2, .int .i64 a0_3, .string a0_4] 29 (0, 0)) (by refine fZ ?_ NB250_253.out _; refine fZ ?_ NB250_253.out _; exact BK250.out) hb) (dL (g := gb253) (o := .cells #[.int .i64 a0_0, .int .i64 a0_1, .string (⟨#[]⟩ : ByteArray), .int .i64 a0_3, .string (⟨#[]⟩ : ByteArray)] 29 (0, 0)) (by refine bW (cs := #[.int .i64 a0_0, .int .i64 a0_1, .string (⟨#[]⟩ : ByteArray), .int .i64 a0_3, .string a0_4]) ?_ 4 _ rfl; refine bW (cs := #[.int .i64 a0_0, .int .i64 a0_1, .string a0_2, .int .i64 a0_3, .string a0_4]) ?_ 2 _ rfl; exact BK253.out) hb) (aA (bT HB) hb) ?_; clear BK250 BK253 HB; intro BK250 BK253 HB; (try clear hb)))
      go_ret
      exact ⟨eT, bT HB⟩
     replace H := yF H
     obtain rfl := Option.some.inj H
     have hnb157 := NB253_250.out
     have hnc157 := NB250_253.out
     have hcz158_0 : wc.cell? ⟨gb253, 0, none⟩ = some (.int .i64 a0_0) := (ag BK253.out 0).trans rfl
     have hcz158_1 : wc.cell? ⟨gb253, 1, none⟩ = some (.int .i64 a0_1) := (ag BK253.out 1).trans rfl
     have hcz158_2 : wc.cell? ⟨gb253, 2, none⟩ = some (.string a0_2) := (ag BK253.out 2).trans rfl
     have hcz158_3 : wc.cell? ⟨gb253, 3, none⟩ = some (.int .i64 a0_3) := (ag BK253.out 3).trans rfl
     have hcz158_4 : wc.cell? ⟨gb253, 4, none⟩ = some (.string a0_4) := (ag BK253.out 4).trans rfl
     have hfz158_0 := ae BK253.out 0
     have hfz158_1 := ae BK253.out 1
     have hfz158_2 := ae BK253.out 2
     have hfz158_3 := ae BK253.out 3
     have hfz158_4 := ae BK253.out 4
     go_wp2
     go_ret
     exact ⟨eT, bT HB⟩
    replace H := yF H
    obtain rfl := Option.some.inj H
    have hnb159 := NB253_250.out
    have hnc159 := NB250_253.out
    have hcz160_0 : wc.cell? ⟨gb253, 0, none⟩ = some (.int .i64 a0_0) := (ag BK253.out 0).trans rfl
    have hcz160_1 : wc.cell? ⟨gb253, 1, none⟩ = some (.int .i64 a0_1) := (ag BK253.out 1).trans rfl
    have hcz160_2 : wc.cell? ⟨gb253, 2, none⟩ = some (.string a0_2) := (ag BK253.out 2).trans rfl
    have hcz160_3 : wc.cell? ⟨gb253, 3, none⟩ = some (.int .i64 a0_3) := (ag BK253.out 3).trans rfl
    have hcz160_4 : wc.cell? ⟨gb253, 4, none⟩ = some (.string a0_4) := (ag BK253.out 4).trans rfl
    have hfz160_0 := ae BK253.out 0
    have hfz160_1 := ae BK253.out 1
    have hfz160_2 := ae BK253.out 2
    have hfz160_3 := ae BK253.out 3
    have hfz160_4 := ae BK253.out 4
    go_wp2
    go_ret
    exact ⟨eT, bT HB⟩
   revert H
   refine aU (fun c161b0 c161b1 H => ?_) fun c161 c161b0 c161b1 H => ?_
   ·revert H
    refine yB1 fun t1212 A162 H => ?_
    cases t1212
    rotate_left
    ·replace H := yT H
     revert H
     refine yB1 fun t1213 A164 H => ?_
     obtain rfl := Option.some.inj H
     have hnb165 := NB253_250.out
     have hnc165 := NB250_253.out
     have hcz166_0 : wc.cell? ⟨gb253, 0, none⟩ = some (.int .i64 a0_0) := (ag BK253.out 0).trans rfl
     have hcz166_1 : wc.cell? ⟨gb253, 1, none⟩ = some (.int .i64 a0_1) := (ag BK253.out 1).trans rfl
     have hcz166_2 : wc.cell? ⟨gb253, 2, none⟩ = some (.string a0_2) := (ag BK253.out 2).trans rfl
     have hcz166_3 : wc.cell? ⟨gb253, 3, none⟩ = some (.int .i64 a0_3) := (ag BK253.out 3).trans rfl
     have hcz166_4 : wc.cell? ⟨gb253, 4, none⟩ = some (.string a0_4) := (ag BK253.out 4).trans rfl
     have hfz166_0 := ae BK253.out 0
     have hfz166_1 := ae BK253.out 1
     have hfz166_2 := ae BK253.out 2
     have hfz166_3 := ae BK253.out 3
     have hfz166_4 := ae BK253.out 4
     have hcz167_0 : wc.cell? ⟨gb250, 0, none⟩ = some (.int .i64 a0_0) := (ag BK250.out 0).trans rfl
     have hcz167_1 : wc.cell? ⟨gb250, 1, none⟩ = some (.int .i64 a0_1) := (ag BK250.out 1).trans rfl
     have hcz167_2 : wc.cell? ⟨gb250, 2, none⟩ = some (.string a0_2) := (ag BK250.out 2).trans rfl
     have hcz167_3 : wc.cell? ⟨gb250, 3, none⟩ = some (.int .i64 a0_3) := (ag BK250.out 3).trans rfl
     have hcz167_4 : wc.cell? ⟨gb250, 4, none⟩ = some (.string a0_4) := (ag BK250.out 4).trans rfl
     have hfz167_0 := ae BK250.out 0
     have hfz167_1 := ae BK250.out 1
     have hfz167_2 := ae BK250.out 2
     have hfz167_3 := ae BK250.out 3
     have hfz167_4 := ae BK250.out 4
     go_wp2_with (first | ((with_reducible refine gC 83 rfl ?_); refine gM 83 107 rfl Tryz.func83 (dm.calls kj106 a0_4 true _ A162.out) ?_; rintro _ w168 ⟨rfl, hb⟩; refine ⟨_, rfl, yA3 (dL (g := gb250) (o := .cells #[.int .i64 a0_0, .int .i64 a0_1, .string a0_2, .int .i64 a0_3, .string a0_4] 29 (0, 0)) (by refine fZ ?_ NB250_253.out _; exact BK250.out) hb) (dL (g := gb253) (o := .cells #[.int .i64 a0_0, .int .i64 a0_1, .string a0_2, .int .i64 a0_3, .string (⟨#[]⟩ : ByteArray)] 29 (0, 0)) (by refine bW (cs := #[.int .i64 a0_0, .int .i64 a0_1, .string a0_2, .int .i64 a0_3, .string a0_4]) ?_ 4 _ rfl; exact BK253.out) hb) (aA (bT HB) hb) ?_⟩; clear BK250 BK253 HB hb; intro BK250 BK253 HB; have hcz169_0 : w168.cell? ⟨gb253, 0, none⟩ = some (.int .i64 a0_0) := (ag BK253.out 0).trans rfl; have hcz169_1 : w168.cell? ⟨gb253, 1, none⟩ = some (.int .i64 a0_1) := (ag BK253.out 1).trans rfl; have hcz169_2 : w168.cell? ⟨gb253, 2, none⟩ = some (.string a0_2) := (ag BK253.out 2).trans rfl; have hcz169_3 : w168.cell? ⟨gb253, 3, none⟩ = some (.int .i64 a0_3) := (ag BK253.out 3).trans rfl; have hcz169_4 : w168.cell? ⟨gb253, 4, none⟩ = some (.string (⟨#[]⟩ : ByteArray)) := (ag BK253.out 4).trans rfl; have hfz169_0 := ae BK253.out 0; have hfz169_1 := ae BK253.out 1; have hfz169_2 := ae BK253.out 2; have hfz169_3 := ae BK253.out 3; have hfz169_4 := ae BK253.out 4) | (go_at_call 82; (with_reducible refine (cu.calls a0_0 a0_1 a0_2 a0_3 (⟨#[]⟩ : ByteArray) t1213 _ A164.out).mono ?_); rintro e w170 ⟨rfl, hb⟩; refine yA3 (dL (g := gb250) (o := .cells #[.int .i64 a0_0, .int .i64 a0_1, .string a0_2, .int .i64 a0_3, .string a0_4] 29 (0, 0)) (by exact BK250.out) hb) (dL (g := gb253) (o := .cells #[.int .i64 a0_0, .int .i64 a0_1, .string a0_2, .int .i64 a0_3, .string (⟨#[]⟩ : ByteArray)] 29 (0, 0)) (by exact BK253.out) hb) (aA (bT HB) hb) ?_; clear BK250 BK253 HB; intro BK250 BK253 HB; (try clear hb)))
     go_ret
     exact ⟨eT, bT HB⟩
    replace H := yF H
    obtain rfl := Option.some.inj H
    have hnb171 := NB253_250.out
    have hnc171 := NB250_253.out
    have hcz172_0 : wc.cell? ⟨gb253, 0, none⟩ = some (.int .i64 a0_0) := (ag BK253.out 0).trans rfl
    have hcz172_1 : wc.cell? ⟨gb253, 1, none⟩ = some (.int .i64 a0_1) := (ag BK253.out 1).trans rfl
    have hcz172_2 : wc.cell? ⟨gb253, 2, none⟩ = some (.string a0_2) := (ag BK253.out 2).trans rfl
    have hcz172_3 : wc.cell? ⟨gb253, 3, none⟩ = some (.int .i64 a0_3) := (ag BK253.out 3).trans rfl
    have hcz172_4 : wc.cell? ⟨gb253, 4, none⟩ = some (.string a0_4) := (ag BK253.out 4).trans rfl
    have hfz172_0 := ae BK253.out 0
    have hfz172_1 := ae BK253.out 1
    have hfz172_2 := ae BK253.out 2
    have hfz172_3 := ae BK253.out 3
    have hfz172_4 := ae BK253.out 4
    have hcz173_0 : wc.cell? ⟨gb250, 0, none⟩ = some (.int .i64 a0_0) := (ag BK250.out 0).trans rfl
    have hcz173_1 : wc.cell? ⟨gb250, 1, none⟩ = some (.int .i64 a0_1) := (ag BK250.out 1).trans rfl
    have hcz173_2 : wc.cell? ⟨gb250, 2, none⟩ = some (.string a0_2) := (ag BK250.out 2).trans rfl
    have hcz173_3 : wc.cell? ⟨gb250, 3, none⟩ = some (.int .i64 a0_3) := (ag BK250.out 3).trans rfl
    have hcz173_4 : wc.cell? ⟨gb250, 4, none⟩ = some (.string a0_4) := (ag BK250.out 4).trans rfl
    have hfz173_0 := ae BK250.out 0
    have hfz173_1 := ae BK250.out 1
    have hfz173_2 := ae BK250.out 2
    have hfz173_3 := ae BK250.out 3
    have hfz173_4 := ae BK250.out 4
    go_wp2_with (first | ((with_reducible refine gC 83 rfl ?_); refine gM 83 107 rfl Tryz.func83 (dm.calls kj106 a0_4 false _ A162.out) ?_; rintro _ w174 ⟨rfl, hb⟩; refine ⟨_, rfl, yA3 (dL (g := gb250) (o := .cells #[.int .i64 a0_0, .int .i64 a0_1, .string a0_2, .int .i64 a0_3, .string a0_4] 29 (0, 0)) (by refine fZ ?_ NB250_253.out _; exact BK250.out) hb) (dL (g := gb253) (o := .cells #[.int .i64 a0_0, .int .i64 a0_1, .string a0_2, .int .i64 a0_3, .string (⟨#[]⟩ : ByteArray)] 29 (0, 0)) (by refine bW (cs := #[.int .i64 a0_0, .int .i64 a0_1, .string a0_2, .int .i64 a0_3, .string a0_4]) ?_ 4 _ rfl; exact BK253.out) hb) (aA (bT HB) hb) ?_⟩; clear BK250 BK253 HB hb; intro BK250 BK253 HB))
    go_ret
    exact ⟨eT, bT HB⟩
   revert H
   refine aU (fun c175b0 c175b1 H => ?_) fun c175 c175b0 c175b1 H => ?_
   ·revert H
    refine aU (fun c176b0 c176b1 H => ?_) fun c176 c176b0 c176b1 H => ?_
    ·revert H
     refine yB1 fun t1214 A177 H => ?_
     obtain rfl := Option.some.inj H
     have hnb178 := NB253_250.out
     have hnc178 := NB250_253.out
     have hcz179_0 : wc.cell? ⟨gb253, 0, none⟩ = some (.int .i64 a0_0) := (ag BK253.out 0).trans rfl
     have hcz179_1 : wc.cell? ⟨gb253, 1, none⟩ = some (.int .i64 a0_1) := (ag BK253.out 1).trans rfl
     have hcz179_2 : wc.cell? ⟨gb253, 2, none⟩ = some (.string a0_2) := (ag BK253.out 2).trans rfl
     have hcz179_3 : wc.cell? ⟨gb253, 3, none⟩ = some (.int .i64 a0_3) := (ag BK253.out 3).trans rfl
     have hcz179_4 : wc.cell? ⟨gb253, 4, none⟩ = some (.string a0_4) := (ag BK253.out 4).trans rfl
     have hfz179_0 := ae BK253.out 0
     have hfz179_1 := ae BK253.out 1
     have hfz179_2 := ae BK253.out 2
     have hfz179_3 := ae BK253.out 3
     have hfz179_4 := ae BK253.out 4
     have hcz180_0 : wc.cell? ⟨gb250, 0, none⟩ = some (.int .i64 a0_0) := (ag BK250.out 0).trans rfl
     have hcz180_1 : wc.cell? ⟨gb250, 1, none⟩ = some (.int .i64 a0_1) := (ag BK250.out 1).trans rfl
     have hcz180_2 : wc.cell? ⟨gb250, 2, none⟩ = some (.string a0_2) := (ag BK250.out 2).trans rfl
     have hcz180_3 : wc.cell? ⟨gb250, 3, none⟩ = some (.int .i64 a0_3) := (ag BK250.out 3).trans rfl
     have hcz180_4 : wc.cell? ⟨gb250, 4, none⟩ = some (.string a0_4) := (ag BK250.out 4).trans rfl
     have hfz180_0 := ae BK250.out 0
     have hfz180_1 := ae BK250.out 1
     have hfz180_2 := ae BK250.out 2
     have hfz180_3 := ae BK250.out 3
     have hfz180_4 := ae BK250.out 4
     go_wp2_with (first | (go_at_call 82; (with_reducible refine (cu.calls a0_0 a0_1 a0_2 a0_3 (⟨#[]⟩ : ByteArray) t1214 _ A177.out).mono ?_); rintro e w181 ⟨rfl, hb⟩; refine yA3 (dL (g := gb250) (o := .cells #[.int .i64 a0_0, .int .i64 a0_1, .string a0_2, .int .i64 a0_3, .string a0_4] 29 (0, 0)) (by refine fZ ?_ NB250_253.out _; exact BK250.out) hb) (dL (g := gb253) (o := .cells #[.int .i64 a0_0, .int .i64 a0_1, .string a0_2, .int .i64 a0_3, .string (⟨#[]⟩ : ByteArray)] 29 (0, 0)) (by refine bW (cs := #[.int .i64 a0_0, .int .i64 a0_1, .string a0_2, .int .i64 a0_3, .string a0_4]) ?_ 4 _ rfl; exact BK253.out) hb) (aA (bT HB) hb) ?_; clear BK250 BK253 HB; intro BK250 BK253 HB; (try clear hb)))
     go_ret
     exact ⟨eT, bT HB⟩
    revert H
    refine aU (fun c182b0 c182b1 H => ?_) fun c182 c182b0 c182b1 H => ?_
    ·revert H
     refine yB1 fun t1215 A183 H => ?_
     obtain rfl := Option.some.inj H
     have hnb184 := NB253_250.out
     have hnc184 := NB250_253.out
     have hcz185_0 : wc.cell? ⟨gb253, 0, none⟩ = some (.int .i64 a0_0) := (ag BK253.out 0).trans rfl
     have hcz185_1 : wc.cell? ⟨gb253, 1, none⟩ = some (.int .i64 a0_1) := (ag BK253.out 1).trans rfl
     have hcz185_2 : wc.cell? ⟨gb253, 2, none⟩ = some (.string a0_2) := (ag BK253.out 2).trans rfl
     have hcz185_3 : wc.cell? ⟨gb253, 3, none⟩ = some (.int .i64 a0_3) := (ag BK253.out 3).trans rfl
     have hcz185_4 : wc.cell? ⟨gb253, 4, none⟩ = some (.string a0_4) := (ag BK253.out 4).trans rfl
     have hfz185_0 := ae BK253.out 0
     have hfz185_1 := ae BK253.out 1
     have hfz185_2 := ae BK253.out 2
     have hfz185_3 := ae BK253.out 3
     have hfz185_4 := ae BK253.out 4
     have hcz186_0 : wc.cell? ⟨gb250, 0, none⟩ = some (.int .i64 a0_0) := (ag BK250.out 0).trans rfl
     have hcz186_1 : wc.cell? ⟨gb250, 1, none⟩ = some (.int .i64 a0_1) := (ag BK250.out 1).trans rfl
     have hcz186_2 : wc.cell? ⟨gb250, 2, none⟩ = some (.string a0_2) := (ag BK250.out 2).trans rfl
     have hcz186_3 : wc.cell? ⟨gb250, 3, none⟩ = some (.int .i64 a0_3) := (ag BK250.out 3).trans rfl
     have hcz186_4 : wc.cell? ⟨gb250, 4, none⟩ = some (.string a0_4) := (ag BK250.out 4).trans rfl
     have hfz186_0 := ae BK250.out 0
     have hfz186_1 := ae BK250.out 1
     have hfz186_2 := ae BK250.out 2
     have hfz186_3 := ae BK250.out 3
     have hfz186_4 := ae BK250.out 4
     go_wp2_with (first | (go_at_call 82; (with_reducible refine (cu.calls a0_0 a0_1 a0_2 a0_3 (⟨#[]⟩ : ByteArray) t1215 _ A183.out).mono ?_); rintro e w187 ⟨rfl, hb⟩; refine yA3 (dL (g := gb250) (o := .cells #[.int .i64 a0_0, .int .i64 a0_1, .string a0_2, .int .i64 a0_3, .string a0_4] 29 (0, 0)) (by refine fZ ?_ NB250_253.out _; exact BK250.out) hb) (dL (g := gb253) (o := .cells #[.int .i64 a0_0, .int .i64 a0_1, .string a0_2, .int .i64 a0_3, .string (⟨#[]⟩ : ByteArray)] 29 (0, 0)) (by refine bW (cs := #[.int .i64 a0_0, .int .i64 a0_1, .string a0_2, .int .i64 a0_3, .string a0_4]) ?_ 4 _ rfl; exact BK253.out) hb) (aA (bT HB) hb) ?_; clear BK250 BK253 HB; intro BK250 BK253 HB; (try clear hb)))
     go_ret
     exact ⟨eT, bT HB⟩
    revert H
    refine aU (fun c188b0 c188b1 H => ?_) fun c188 c188b0 c188b1 H => ?_
    ·revert H
     refine yB1 fun t1216 A189 H => ?_
     obtain rfl := Option.some.inj H
     have hnb190 := NB253_250.out
     have hnc190 := NB250_253.out
     have hcz191_0 : wc.cell? ⟨gb253, 0, none⟩ = some (.int .i64 a0_0) := (ag BK253.out 0).trans rfl
     have hcz191_1 : wc.cell? ⟨gb253, 1, none⟩ = some (.int .i64 a0_1) := (ag BK253.out 1).trans rfl
     have hcz191_2 : wc.cell? ⟨gb253, 2, none⟩ = some (.string a0_2) := (ag BK253.out 2).trans rfl
     have hcz191_3 : wc.cell? ⟨gb253, 3, none⟩ = some (.int .i64 a0_3) := (ag BK253.out 3).trans rfl
     have hcz191_4 : wc.cell? ⟨gb253, 4, none⟩ = some (.string a0_4) := (ag BK253.out 4).trans rfl
     have hfz191_0 := ae BK253.out 0
     have hfz191_1 := ae BK253.out 1
     have hfz191_2 := ae BK253.out 2
     have hfz191_3 := ae BK253.out 3
     have hfz191_4 := ae BK253.out 4
     have hcz192_0 : wc.cell? ⟨gb250, 0, none⟩ = some (.int .i64 a0_0) := (ag BK250.out 0).trans rfl
     have hcz192_1 : wc.cell? ⟨gb250, 1, none⟩ = some (.int .i64 a0_1) := (ag BK250.out 1).trans rfl
     have hcz192_2 : wc.cell? ⟨gb250, 2, none⟩ = some (.string a0_2) := (ag BK250.out 2).trans rfl
     have hcz192_3 : wc.cell? ⟨gb250, 3, none⟩ = some (.int .i64 a0_3) := (ag BK250.out 3).trans rfl
     have hcz192_4 : wc.cell? ⟨gb250, 4, none⟩ = some (.string a0_4) := (ag BK250.out 4).trans rfl
     have hfz192_0 := ae BK250.out 0
     have hfz192_1 := ae BK250.out 1
     have hfz192_2 := ae BK250.out 2
     have hfz192_3 := ae BK250.out 3
     have hfz192_4 := ae BK250.out 4
     go_wp2_with (first | (go_at_call 82; (with_reducible refine (cu.calls a0_0 a0_1 a0_2 a0_3 (⟨#[]⟩ : ByteArray) t1216 _ A189.out).mono ?_); rintro e w193 ⟨rfl, hb⟩; refine yA3 (dL (g := gb250) (o := .cells #[.int .i64 a0_0, .int .i64 a0_1, .string a0_2, .int .i64 a0_3, .string a0_4] 29 (0, 0)) (by refine fZ ?_ NB250_253.out _; exact BK250.out) hb) (dL (g := gb253) (o := .cells #[.int .i64 a0_0, .int .i64 a0_1, .string a0_2, .int .i64 a0_3, .string (⟨#[]⟩ : ByteArray)] 29 (0, 0)) (by refine bW (cs := #[.int .i64 a0_0, .int .i64 a0_1, .string a0_2, .int .i64 a0_3, .string a0_4]) ?_ 4 _ rfl; exact BK253.out) hb) (aA (bT HB) hb) ?_; clear BK250 BK253 HB; intro BK250 BK253 HB; (try clear hb)))
     go_ret
     exact ⟨eT, bT HB⟩
    obtain rfl := Option.some.inj H
    have hnb194 := NB253_250.out
    have hnc194 := NB250_253.out
    have hcz195_0 : wc.cell? ⟨gb253, 0, none⟩ = some (.int .i64 a0_0) := (ag BK253.out 0).trans rfl
    have hcz195_1 : wc.cell? ⟨gb253, 1, none⟩ = some (.int .i64 a0_1) := (ag BK253.out 1).trans rfl
    have hcz195_2 : wc.cell? ⟨gb253, 2, none⟩ = some (.string a0_2) := (ag BK253.out 2).trans rfl
    have hcz195_3 : wc.cell? ⟨gb253, 3, none⟩ = some (.int .i64 a0_3) := (ag BK253.out 3).trans rfl
    have hcz195_4 : wc.cell? ⟨gb253, 4, none⟩ = some (.string a0_4) := (ag BK253.out 4).trans rfl
    have hfz195_0 := ae BK253.out 0
    have hfz195_1 := ae BK253.out 1
    have hfz195_2 := ae BK253.out 2
    have hfz195_3 := ae BK253.out 3
    have hfz195_4 := ae BK253.out 4
    have hcz196_0 : wc.cell? ⟨gb250, 0, none⟩ = some (.int .i64 a0_0) := (ag BK250.out 0).trans rfl
    have hcz196_1 : wc.cell? ⟨gb250, 1, none⟩ = some (.int .i64 a0_1) := (ag BK250.out 1).trans rfl
    have hcz196_2 : wc.cell? ⟨gb250, 2, none⟩ = some (.string a0_2) := (ag BK250.out 2).trans rfl
    have hcz196_3 : wc.cell? ⟨gb250, 3, none⟩ = some (.int .i64 a0_3) := (ag BK250.out 3).trans rfl
    have hcz196_4 : wc.cell? ⟨gb250, 4, none⟩ = some (.string a0_4) := (ag BK250.out 4).trans rfl
    have hfz196_0 := ae BK250.out 0
    have hfz196_1 := ae BK250.out 1
    have hfz196_2 := ae BK250.out 2
    have hfz196_3 := ae BK250.out 3
    have hfz196_4 := ae BK250.out 4
    go_wp2
    go_ret
    exact ⟨eT, bT HB⟩
   revert H
   refine gU (fun c197 H => ?_) fun c197 H => ?_
   ·have c197b0 : decide (1 ≤ a0_0) = true := decide_eq_true c197
    clear c197
    revert H
    refine iR (fun c198b0 H => ?_) fun c198b0 H => ?_
    ·revert H
     refine yB1 fun t1217 A199 H => ?_
     obtain rfl := Option.some.inj H
     have hnb200 := NB250_253.out
     have hnc200 := NB253_250.out
     have hcz201_0 : wc.cell? ⟨gb250, 0, none⟩ = some (.int .i64 a0_0) := (ag BK250.out 0).trans rfl
     have hcz201_1 : wc.cell? ⟨gb250, 1, none⟩ = some (.int .i64 a0_1) := (ag BK250.out 1).trans rfl
     have hcz201_2 : wc.cell? ⟨gb250, 2, none⟩ = some (.string a0_2) := (ag BK250.out 2).trans rfl
     have hcz201_3 : wc.cell? ⟨gb250, 3, none⟩ = some (.int .i64 a0_3) := (ag BK250.out 3).trans rfl
     have hcz201_4 : wc.cell? ⟨gb250, 4, none⟩ = some (.string a0_4) := (ag BK250.out 4).trans rfl
     have hfz201_0 := ae BK250.out 0
     have hfz201_1 := ae BK250.out 1
     have hfz201_2 := ae BK250.out 2
     have hfz201_3 := ae BK250.out 3
     have hfz201_4 := ae BK250.out 4
     go_wp2_with (first | (go_at_call 82; (with_reducible refine (cu.calls a0_0 a0_1 a0_2 a0_3 a0_4 t1217 _ A199.out).mono ?_); rintro e w202 ⟨rfl, hb⟩; refine yA3 (dL (g := gb250) (o := .cells #[.int .i64 a0_0, .int .i64 a0_1, .string a0_2, .int .i64 a0_3, .string a0_4] 29 (0, 0)) (by exact BK250.out) hb) (dL (g := gb253) (o := .cells #[.int .i64 a0_0, .int .i64 a0_1, .string a0_2, .int .i64 a0_3, .string a0_4] 29 (0, 0)) (by exact BK253.out) hb) (aA (bT HB) hb) ?_; clear BK250 BK253 HB; intro BK250 BK253 HB; (try clear hb)))
     go_ret
     exact ⟨eT, bT HB⟩
    obtain rfl := Option.some.inj H
    have hnb203 := NB250_253.out
    have hnc203 := NB253_250.out
    have hcz204_0 : wc.cell? ⟨gb250, 0, none⟩ = some (.int .i64 a0_0) := (ag BK250.out 0).trans rfl
    have hcz204_1 : wc.cell? ⟨gb250, 1, none⟩ = some (.int .i64 a0_1) := (ag BK250.out 1).trans rfl
    have hcz204_2 : wc.cell? ⟨gb250, 2, none⟩ = some (.string a0_2) := (ag BK250.out 2).trans rfl
    have hcz204_3 : wc.cell? ⟨gb250, 3, none⟩ = some (.int .i64 a0_3) := (ag BK250.out 3).trans rfl
    have hcz204_4 : wc.cell? ⟨gb250, 4, none⟩ = some (.string a0_4) := (ag BK250.out 4).trans rfl
    have hfz204_0 := ae BK250.out 0
    have hfz204_1 := ae BK250.out 1
    have hfz204_2 := ae BK250.out 2
    have hfz204_3 := ae BK250.out 3
    have hfz204_4 := ae BK250.out 4
    go_wp2
    go_ret
    exact ⟨eT, bT HB⟩
   have c197b0 : decide (1 ≤ a0_0) = false := decide_eq_false c197
   clear c197
   obtain rfl := Option.some.inj H
   have hnb205 := NB250_253.out
   have hnc205 := NB253_250.out
   have hcz206_0 : wc.cell? ⟨gb250, 0, none⟩ = some (.int .i64 a0_0) := (ag BK250.out 0).trans rfl
   have hcz206_1 : wc.cell? ⟨gb250, 1, none⟩ = some (.int .i64 a0_1) := (ag BK250.out 1).trans rfl
   have hcz206_2 : wc.cell? ⟨gb250, 2, none⟩ = some (.string a0_2) := (ag BK250.out 2).trans rfl
   have hcz206_3 : wc.cell? ⟨gb250, 3, none⟩ = some (.int .i64 a0_3) := (ag BK250.out 3).trans rfl
   have hcz206_4 : wc.cell? ⟨gb250, 4, none⟩ = some (.string a0_4) := (ag BK250.out 4).trans rfl
   have hfz206_0 := ae BK250.out 0
   have hfz206_1 := ae BK250.out 1
   have hfz206_2 := ae BK250.out 2
   have hfz206_3 := ae BK250.out 3
   have hfz206_4 := ae BK250.out 4
   go_wp2
   go_ret
   exact ⟨eT, bT HB⟩
end Go.Proofs.YtkbhkonenkgfoaaGreat.Q
end
section
namespace Go.Proofs.YtkbhkonenkgfoaaGreat.Q
open Go.RowKit Go.Proofs.YtkbhkonenkgfoaaGreatW.PrintWords Go.Proofs.YtkbhkonenkgfoaaGreatW.PrintLast Go.Proofs.YtkbhkonenkgfoaaGreatW.PrintMore
attribute [local go_sem] dJ dH dS dR cZ cO dI dG
set_option linter.unusedVariables false
set_option linter.unusedSimpArgs false
/-! ### aK: function 84 -/
mutual
def aK.j0 : Nat → List Int → Int → Bool → Option (Bool)
 | 0, _, _, _ => none
 | k + 1, x0, x3, x20 => if x20 = true then (some false) else (aK.l0 k x0 x3 0)
def aK.l0 : Nat → List Int → Int → Int → Option (Bool)
 | 0, _, _, _ => none
 | k + 1, x0, x3, x4 => if x4 < (wrap64 (x3 - 1)) then (if 0 ≤ x4 then (if x4 < (x0.length : Int) then (if (rd x0 x4) = 4 then (aK.l0 k x0 x3 (wrap64 (x4 + 1))) else (some false)) else (none)) else (none)) else (some true)
end
def aK.f (k : Nat) (l0 : List Int) : Option (Bool) := if (l0.length : Int) < 1 then (aK.j0 k l0 (l0.length : Int) true) else (if (l0.length : Int) > 9 then (aK.j0 k l0 (l0.length : Int) true) else (if 0 ≤ (wrap64 ((l0.length : Int) - 1)) then (if (wrap64 ((l0.length : Int) - 1)) < (l0.length : Int) then (aK.j0 k l0 (l0.length : Int) ((rd l0 (wrap64 ((l0.length : Int) - 1))) != 5)) else (none)) else (none)))
theorem aK.bZ : ∀ k, (∀ y0 y1 y2, LeO (aK.j0 k y0 y1 y2) (aK.j0 (k + 1) y0 y1 y2)) ∧ (∀ y0 y1 y2, LeO (aK.l0 k y0 y1 y2) (aK.l0 (k + 1) y0 y1 y2))
 | 0 => ⟨fun _ _ _ r h => by simp [aK.j0] at h, fun _ _ _ r h => by simp [aK.l0] at h⟩
 | k + 1 => by
  obtain ⟨ih0, ih1⟩ := aK.bZ k
  refine ⟨?_, ?_⟩
  ·intro y0 y1 y2
   unfold aK.j0
   exact yL
  intro y0 y1 y2
  unfold aK.l0
  exact yL
theorem aK.mono : ∀ a0 k, LeO (aK.f k a0) (aK.f (k + 1) a0) := by
 intro a0 k
 obtain ⟨ih0, ih1⟩ := aK.bZ k
 unfold aK.f
 exact yL
set_option maxHeartbeats 8000000 in
set_option maxRecDepth 100000 in
theorem aK.calls (k : Nat) (A0 : Option Addr) (c0 : Nat) (l0 : List Int) (r : Bool) (w : World) (hr0 : Kd.C (Kd.int .i64) w A0 l0.length l0) (hc0 : l0.length ≤ c0) (h : aK.f k l0 = some r) :
 Calls Tryz.prog 84 #[.slice A0 l0.length c0] w fun e w' => e = .returned (.bool r) ∧ dZ w w' := by
 have HR0 := af.mk hr0
 have HC0 := af.mk hc0
 clear hr0 hc0
 have H := h
 clear h
 unfold aK.f at H
 have HC2 := af.mk H
 clear H
 go_enter Tryz.func84, Tryz.ntmps84
 go_upto_region 2 with (fail)
 go_cut [20] (fun v20 wc => ∃ (kq : Nat) (x20_1 : Bool), v20 = .bool x20_1 ∧ af (aK.j0 kq l0 (l0.length : Int) x20_1 = some r) ∧ af (kq ≤ k) ∧ dZ w wc)
 case first =>
  have H := HC2.out
  clear HC2
  revert H
  refine qF (fun c3 c3b0 H => ?_) fun c3 c3b0 H => ?_
  ·have c3b1 : decide (l0.length < 1) = true := decide_eq_true (by omega)
   clear c3
   (first | rw [c3b0] | (simp only [fP, gG]; rw [c3b0]) | skip)
   have H' := af.mk H
   clear H
   go_wp2
   go_meet
   case rel => exact ⟨_, (true), fT, H', ⟨Z11⟩, Z0⟩
  have c3b1 : decide (l0.length < 1) = false := decide_eq_false (by omega)
  clear c3
  (first | rw [c3b0] | (simp only [fP, gG]; rw [c3b0]) | skip)
  revert H
  refine gU (fun c4 H => ?_) fun c4 H => ?_
  ·have c4b0 : decide (9 < (l0.length : Int)) = true := decide_eq_true c4
   have c4b1 : decide (9 < l0.length) = true := decide_eq_true (by omega)
   clear c4
   have H' := af.mk H
   clear H
   go_wp2
   go_meet
   case rel => exact ⟨_, (true), fT, H', ⟨Z11⟩, Z0⟩
  have c4b0 : decide (9 < (l0.length : Int)) = false := decide_eq_false c4
  have c4b1 : decide (9 < l0.length) = false := decide_eq_false (by omega)
  clear c4
  obtain ⟨ji5, hji5⟩ : ∃ j_ : Int, (wrap64 ((l0.length : Int) - 1)) = j_ := ⟨_, rfl⟩
  replace H : (if 0 ≤ (ji5) then (if (ji5) < (l0.length : Int) then (aK.j0 k l0 (l0.length : Int) ((rd l0 (ji5)) != 5)) else (none)) else (none)) = some r := by first | (rw [hji5] at H; exact H) | (simp only [hji5] at H ⊢; exact H)
  have hji5w : (IntKind.i64.wrap ((l0.length : Int) - 1)) = ji5 := (fP _).trans hji5
  revert H
  refine gB (fun c6b0 H => ?_) fun c6 H => ?_
  ·revert H
   refine gB (fun c7b0 H => ?_) fun c7 H => ?_
   ·have H' := af.mk H
    clear H
    have p1218 : 0 ≤ ((ji5) : Int) := of_decide_eq_true aT
    have q1218 : (ji5) < (l0.length : Int) := of_decide_eq_true aT
    obtain ⟨ad1218, e1218, hx1218_0⟩ := Kd.fO HR0.out (ji5) p1218 q1218
    cases e1218
    replace p1218 := eq_true p1218
    replace q1218 := eq_true q1218
    go_wp2
    go_meet
    case rel => exact ⟨_, (((rd l0 (ji5)) != 5)), (by first | rfl | (simp; done) | (simp only [← hji5] <;> (first | rfl | simp)) | (simp [*]; done)), H', ⟨Z11⟩, Z0⟩
   exact absurd H (by simp)
  exact absurd H (by simp)
 case rest =>
  clear HC2
  try clear p1
  try clear q1
  try clear hx1
  try clear p2
  try clear c3
  try clear c3b0
  try clear c3b1
  try clear c4
  try clear c4b0
  try clear c4b1
  try clear c6
  try clear c6b0
  try clear p6
  try clear c7
  try clear c7b0
  try clear hx1218_0
  try clear p1218
  try clear q1218
  obtain ⟨kq, x20_1, rfl, HA, HJ1, ⟨mc1, rfl⟩⟩ := hcut
  cases kq with
  | zero => exact absurd HA.out (by simp [aK.j0])
  | succ kj1 =>
   have H := HA.out
   clear HA
   simp only [aK.j0] at H
   cases x20_1
   rotate_left
   ·replace H := yT H
    obtain rfl := Option.some.inj H
    go_wp2
    go_ret
    exact ⟨fT, Z0⟩
   replace H := yF H
   have H' := af.mk H
   clear H
   go_wp2
   go_loopg [4] kj1 (fun kq v4 w' => ∃ (x4_2 : Int), v4 = .int .i64 x4_2 ∧ af (aK.l0 kq l0 (l0.length : Int) x4_2 = some r) ∧ af (kq ≤ kj1) ∧ dZ w w')
   case atStart => exact ⟨(0), fT, H', ⟨Nat.le_refl _⟩, Z0⟩
   case round =>
    clear H'
    try clear c1
    try clear p1
    try clear q1
    try clear hx1
    try clear p2
    try clear c3
    try clear c3b0
    try clear c3b1
    try clear c4
    try clear c4b0
    try clear c4b1
    try clear c6
    try clear c6b0
    try clear p6
    try clear c7
    try clear c7b0
    try clear c8
    try clear hx1218_0
    try clear p1
    try clear p1218
    try clear p2
    try clear p6
    try clear q1
    try clear q1218
    obtain ⟨x4_2, rfl, HA, HK2, ⟨m2, rfl⟩⟩ := hrel
    cases gk with
    | zero => exact absurd HA.out (by simp [aK.l0])
    | succ k2 =>
     have H := HA.out
     clear HA
     simp only [aK.l0] at H
     revert H
     refine iR (fun c9b0 H => ?_) fun c9b0 H => ?_
     ·revert H
      refine gB (fun c10b0 H => ?_) fun c10 H => ?_
      ·revert H
       refine gB (fun c11b0 H => ?_) fun c11 H => ?_
       ·revert H
        refine aU (fun c12b0 c12b1 H => ?_) fun c12 c12b0 c12b1 H => ?_
        ·have H' := af.mk H
         clear H
         have p1219 : 0 ≤ (x4_2 : Int) := of_decide_eq_true aT
         have q1219 : x4_2 < (l0.length : Int) := of_decide_eq_true aT
         obtain ⟨ad1219, e1219, hx1219_0⟩ := Kd.fO HR0.out x4_2 p1219 q1219
         cases e1219
         replace p1219 := eq_true p1219
         replace q1219 := eq_true q1219
         go_wp2
         go_roundg k2
         case measure => have := HJ1.out; have := HK2.out; omega
         case rel => exact ⟨(wrap64 (x4_2 + 1)), fT, H', ⟨by have := HJ1.out; have := HK2.out; omega⟩, Z0⟩
        obtain rfl := Option.some.inj H
        have p1219 : 0 ≤ (x4_2 : Int) := of_decide_eq_true aT
        have q1219 : x4_2 < (l0.length : Int) := of_decide_eq_true aT
        obtain ⟨ad1219, e1219, hx1219_0⟩ := Kd.fO HR0.out x4_2 p1219 q1219
        cases e1219
        replace p1219 := eq_true p1219
        replace q1219 := eq_true q1219
        go_wp2
        go_ret
        exact ⟨fT, Z0⟩
       exact absurd H (by simp)
      exact absurd H (by simp)
     obtain rfl := Option.some.inj H
     go_wp2
     go_ret
     exact ⟨fT, Z0⟩
/-! ### gQ: function 85 -/
def gQ.f (a0 : Int) : Option (Bool) := if a0 ≥ 6 then (some (decide (a0 ≤ 17))) else (some false)
set_option maxHeartbeats 8000000 in
set_option maxRecDepth 100000 in
theorem gQ.calls (a0 : Int) (r : Bool) (w : World) (h : gQ.f a0 = some r) :
 Calls Tryz.prog 85 #[.int .i64 a0] w fun e w' => e = .returned (.bool r) ∧ dZ w w' := by
 have H := h
 clear h
 unfold gQ.f at H
 revert H
 refine gU (fun c2 H => ?_) fun c2 H => ?_
 ·have c2b0 : decide (6 ≤ a0) = true := decide_eq_true c2
  clear c2
  obtain rfl := Option.some.inj H
  go_enter Tryz.func85, Tryz.ntmps85
  go_wp2
  go_ret
  exact ⟨fT, Z0⟩
 have c2b0 : decide (6 ≤ a0) = false := decide_eq_false c2
 clear c2
 obtain rfl := Option.some.inj H
 go_enter Tryz.func85, Tryz.ntmps85
 go_wp2
 go_ret
 exact ⟨fT, Z0⟩
end Go.Proofs.YtkbhkonenkgfoaaGreat.Q
end
section
namespace Go.Proofs.YtkbhkonenkgfoaaGreat.Q
open Go.RowKit Go.Proofs.YtkbhkonenkgfoaaGreatW.PrintWords Go.Proofs.YtkbhkonenkgfoaaGreatW.PrintLast Go.Proofs.YtkbhkonenkgfoaaGreatW.PrintMore
attribute [local go_sem] dJ dH dS dR cZ cO dI dG
set_option linter.unusedVariables false
set_option linter.unusedSimpArgs false
/-! ### dX: function 87 -/
def dX.f (a0 : Int) : Option (Bool) := if a0 ≥ 18 then (some (decide (a0 ≤ 30))) else (some false)
set_option maxHeartbeats 8000000 in
set_option maxRecDepth 100000 in
theorem dX.calls (a0 : Int) (r : Bool) (w : World) (h : dX.f a0 = some r) :
 Calls Tryz.prog 87 #[.int .i64 a0] w fun e w' => e = .returned (.bool r) ∧ dZ w w' := by
 have H := h
 clear h
 unfold dX.f at H
 revert H
 refine gU (fun c2 H => ?_) fun c2 H => ?_
 ·have c2b0 : decide (18 ≤ a0) = true := decide_eq_true c2
  clear c2
  obtain rfl := Option.some.inj H
  go_enter Tryz.func87, Tryz.ntmps87
  go_wp2
  go_ret
  exact ⟨fT, Z0⟩
 have c2b0 : decide (18 ≤ a0) = false := decide_eq_false c2
 clear c2
 obtain rfl := Option.some.inj H
 go_enter Tryz.func87, Tryz.ntmps87
 go_wp2
 go_ret
 exact ⟨fT, Z0⟩
/-! ### aZ: function 86 -/
def aZ.l0 : Nat → List Int → Int → Int → Int → Option (Bool)
 | 0, _, _, _, _ => none
 | k + 1, x0, x1, x2, x7 => if x7 < (x0.length : Int) then (if 0 ≤ x7 then ((dX.f (rd x0 x7)).bind fun t1221 => (if t1221 = true then (aZ.l0 k x0 x1 x2 (wrap64 (x7 + 1))) else (some false))) else (none)) else (if (x0.length : Int) ≥ x1 then (some (decide ((x0.length : Int) ≤ x2))) else (some false))
def aZ.f (k : Nat) (l0 : List Int) (a1 : Int) (a2 : Int) : Option (Bool) := aZ.l0 k l0 a1 a2 0
theorem aZ.bZ : ∀ k, (∀ y0 y1 y2 y3, LeO (aZ.l0 k y0 y1 y2 y3) (aZ.l0 (k + 1) y0 y1 y2 y3))
 | 0 => fun _ _ _ _ r h => by simp [aZ.l0] at h
 | k + 1 => by
  have ih0 := aZ.bZ k
  intro y0 y1 y2 y3
  unfold aZ.l0
  exact yL
theorem aZ.mono : ∀ a0 a1 a2 k, LeO (aZ.f k a0 a1 a2) (aZ.f (k + 1) a0 a1 a2) := by
 intro a0 a1 a2 k
 have ih0 := aZ.bZ k
 unfold aZ.f
 exact yL
set_option maxHeartbeats 8000000 in
set_option maxRecDepth 100000 in
theorem aZ.calls (k : Nat) (A0 : Option Addr) (c0 : Nat) (l0 : List Int) (a1 : Int) (a2 : Int) (r : Bool) (w : World) (hr0 : Kd.C (Kd.int .i64) w A0 l0.length l0) (hc0 : l0.length ≤ c0) (h : aZ.f k l0 a1 a2 = some r) :
 Calls Tryz.prog 86 #[.slice A0 l0.length c0, .int .i64 a1, .int .i64 a2] w fun e w' => e = .returned (.bool r) ∧ dZ w w' := by
 have HR0 := af.mk hr0
 have HC0 := af.mk hc0
 clear hr0 hc0
 have H := h
 clear h
 unfold aZ.f at H
 have H' := af.mk H
 clear H
 go_enter Tryz.func86, Tryz.ntmps86
 go_wp2
 go_loopg [7] k (fun kq v7 w' => ∃ (x7_1 : Int), v7 = .int .i64 x7_1 ∧ af (aZ.l0 kq l0 a1 a2 x7_1 = some r) ∧ af (kq ≤ k) ∧ dZ w w')
 case atStart => exact ⟨(0), fT, H', ⟨Nat.le_refl _⟩, Z0⟩
 case round =>
  clear H'
  try clear p2
  obtain ⟨x7_1, rfl, HA, HK1, ⟨m1, rfl⟩⟩ := hrel
  cases gk with
  | zero => exact absurd HA.out (by simp [aZ.l0])
  | succ k1 =>
   have H := HA.out
   clear HA
   simp only [aZ.l0] at H
   revert H
   refine iR (fun c4b0 H => ?_) fun c4b0 H => ?_
   ·revert H
    refine gB (fun c5b0 H => ?_) fun c5 H => ?_
    ·revert H
     refine yB1 fun t1221 A6 H => ?_
     cases t1221
     rotate_left
     ·replace H := yT H
      have H' := af.mk H
      clear H
      have p1220 : 0 ≤ (x7_1 : Int) := of_decide_eq_true aT
      have q1220 : x7_1 < (l0.length : Int) := of_decide_eq_true aT
      obtain ⟨ad1220, e1220, hx1220_0⟩ := Kd.fO HR0.out x7_1 p1220 q1220
      cases e1220
      replace p1220 := eq_true p1220
      replace q1220 := eq_true q1220
      go_wp2_with (first | ((with_reducible refine gC 87 rfl ?_); refine gM 87 18 rfl Tryz.func87 (dX.calls (rd l0 x7_1) true _ A6.out) ?_; rintro _ w' ⟨rfl, ⟨nd, rfl⟩⟩; refine ⟨_, rfl, ?_⟩))
      go_roundg k1
      case measure => have := HK1.out; omega
      case rel => exact ⟨(wrap64 (x7_1 + 1)), fT, H', ⟨by have := HK1.out; omega⟩, Z0⟩
     replace H := yF H
     obtain rfl := Option.some.inj H
     have p1220 : 0 ≤ (x7_1 : Int) := of_decide_eq_true aT
     have q1220 : x7_1 < (l0.length : Int) := of_decide_eq_true aT
     obtain ⟨ad1220, e1220, hx1220_0⟩ := Kd.fO HR0.out x7_1 p1220 q1220
     cases e1220
     replace p1220 := eq_true p1220
     replace q1220 := eq_true q1220
     go_wp2_with (first | ((with_reducible refine gC 87 rfl ?_); refine gM 87 18 rfl Tryz.func87 (dX.calls (rd l0 x7_1) false _ A6.out) ?_; rintro _ w' ⟨rfl, ⟨nd, rfl⟩⟩; refine ⟨_, rfl, ?_⟩))
     go_ret
     exact ⟨fT, Z0⟩
    exact absurd H (by simp)
   revert H
   refine gU (fun c8 H => ?_) fun c8 H => ?_
   ·have c8b0 : decide (a1 ≤ (l0.length : Int)) = true := decide_eq_true c8
    clear c8
    obtain rfl := Option.some.inj H
    go_wp2
    go_ret
    exact ⟨fT, Z0⟩
   have c8b0 : decide (a1 ≤ (l0.length : Int)) = false := decide_eq_false c8
   clear c8
   obtain rfl := Option.some.inj H
   go_wp2
   go_ret
   exact ⟨fT, Z0⟩
end Go.Proofs.YtkbhkonenkgfoaaGreat.Q
end
