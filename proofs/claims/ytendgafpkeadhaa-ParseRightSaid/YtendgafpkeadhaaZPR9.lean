/- Walks over functions of the program, words for them, and what the functions come to; of each text only what this claim uses; no condition. -/
import Derived.Test.YtendgafpkeadhaaZPR0
import Derived.Test.YtendgafpkeadhaaZPR2
import Derived.Test.YtendgafpkeadhaaZPR3
import Derived.Test.YtendgafpkeadhaaZPR7
import Derived.Test.YtendgafpkeadhaaZPR8
section
namespace Go.Proofs.Ytendgafpkeadhaa.Q
open Go.RowKit Go.Proofs.YtendgafpkeadhaaW.PrintWords Go.Proofs.YtendgafpkeadhaaW.PrintLast Go.Proofs.YtendgafpkeadhaaW.PrintMore
attribute [local go_sem] ik ig gZ gY max2_int min2_int max_two min_two max_three min_three max_four min_four
set_option linter.unusedVariables false
set_option linter.unusedSimpArgs false
/-! ### lex_Scan: function 13 -/
def lex_Scan.l0 : Nat → ByteArray → List (S38) → ByteArray → Option ((List (S38)) × Int × Int)
 | 0, _, _, _ => none
 | k + 1, x0, x5, x6 => if x6.toList = ([] : List UInt8) then (some (x5, 0, 0)) else ((fC.f k x6).bind fun bt202 => (if bt202.2.2.2.2.2 = 0 then (if x5.length < 3518437208883 then (if 0 ≤ bt202.2.2.2.2.1 then (if bt202.2.2.2.2.1 ≤ (x6.size : Int) then ((jE.f (x6.extract (bt202.2.2.2.2.1 : Int).toNat x6.size)).bind fun t212 => (lex_Scan.l0 k x0 (x5 ++ [(⟨bt202.1, bt202.2.1, bt202.2.2.1, wrap64 ((x0.size : Int) - (x6.size : Int))⟩ : S38)]) t212)) else (none)) else (none)) else (none)) else (some (([] : List (S38)), bt202.2.2.2.2.2, wrap64 ((x0.size : Int) - (x6.size : Int))))))
def lex_Scan.f (k : Nat) (a0 : ByteArray) : Option ((List (S38)) × Int × Int) := if (a0.size : Int) > 8192 then (some (([] : List (S38)), 3, 0)) else ((jE.f a0).bind fun t201 => (lex_Scan.l0 k a0 ([] : List (S38)) t201))
theorem lex_Scan.mono_l : ∀ k, (∀ y0 y1 y2, LeO (lex_Scan.l0 k y0 y1 y2) (lex_Scan.l0 (k + 1) y0 y1 y2))
 | 0 => fun _ _ _ r h => by simp [lex_Scan.l0] at h
 | k + 1 => by
  have ih0 := lex_Scan.mono_l k
  intro y0 y1 y2
  unfold lex_Scan.l0
  repeat' first
  | (with_reducible exact ih0 _ _ _)
  | (with_reducible exact fC.mono _ _)
  | (with_reducible exact LeO.refl _)
  | (with_reducible exact LeO.none _)
  | (with_reducible refine LeO.ite ?_ ?_)
  | (with_reducible refine LeO.bind ?_ (fun _ => ?_))
  | exact ih0 _ _ _
  | exact fC.mono _ _
  | exact LeO.none _
  | refine LeO.ite ?_ ?_
  | refine LeO.bind ?_ (fun _ => ?_)
theorem lex_Scan.mono : ∀ a0 k, LeO (lex_Scan.f k a0) (lex_Scan.f (k + 1) a0) := by
 intro a0 k
 have ih0 := lex_Scan.mono_l k
 unfold lex_Scan.f
 repeat' first
  | (with_reducible exact ih0 _ _ _)
  | (with_reducible exact fC.mono _ _)
  | (with_reducible exact LeO.refl _)
  | (with_reducible exact LeO.none _)
  | (with_reducible refine LeO.ite ?_ ?_)
  | (with_reducible refine LeO.bind ?_ (fun _ => ?_))
  | exact ih0 _ _ _
  | exact fC.mono _ _
  | exact LeO.none _
  | refine LeO.ite ?_ ?_
  | refine LeO.bind ?_ (fun _ => ?_)
set_option maxHeartbeats 8000000 in
set_option maxRecDepth 100000 in
theorem lex_Scan.calls (k : Nat) (a0 : ByteArray) (r1 : List (S38)) (r2 : Int) (r3 : Int) (w : World) (h : lex_Scan.f k a0 = some (r1, r2, r3)) :
 Calls Try.prog 13 #[.string a0] w fun e w' => ∃ v0_ : Value, e = .returned (.tuple #[v0_, .int .i64 r2, .int .i64 r3]) ∧ Kd.R k38 38 w' w.heap.size (fun _ => True) v0_ r1 ∧ Below w.heap.size w w' := by
 have hu38 := Try.underlying38
 have HB := Aside0.mk (Below.refl w.heap.size w)
 have H : (if (a0.size : Int) > 8192 then (some (([] : List (S38)), 3, 0)) else ((jE.f a0).bind fun t201 => (lex_Scan.l0 k a0 ([] : List (S38)) t201))) = some (r1, r2, r3) := h
 clear h
 by_cases c2 : (a0.size : Int) > 8192
 ·rw [if_pos c2] at H
  have c2b0 : decide (8192 < (a0.size : Int)) = true := decide_eq_true c2
  have c2b1 : decide (8192 < a0.size) = true := decide_eq_true (by omega)
  clear c2
  simp only [Option.some.injEq, Prod.mk.injEq] at H
  obtain ⟨rfl, rfl, rfl⟩ := H
  go_enter Try.func13, Try.ntmps13
  go_wp2
  go_ret3
  exact ⟨_, Z5, Z23, Z4⟩
 rw [if_neg c2] at H
 have c2b0 : decide (8192 < (a0.size : Int)) = false := decide_eq_false c2
 have c2b1 : decide (8192 < a0.size) = false := decide_eq_false (by omega)
 clear c2
 replace H := Option.bind_eq_some_iff.mp H
 obtain ⟨t201, A30, H⟩ := H
 replace H : (lex_Scan.l0 k a0 ([] : List (S38)) t201) = some (r1, r2, r3) := H
 have A3 := Aside0.mk A30
 clear A30
 have H' := Aside0.mk H
 clear H
 go_enter Try.func13, Try.ntmps13
 go_wp2_with (first | ((with_reducible refine gate_callee (f := 23) rfl ?_); refine goesL_ (some 15) rfl rfl Try.func23 (by kernel_rfl) rfl #[.string a0] rfl Z3 ?_; (with_reducible refine (jE.calls a0 t201 _ A3.out).mono ?_); rintro e w4 ⟨rfl, hb⟩; refine ⟨_, rfl, ?_⟩; have n0_ := Aside0.mk (below_step Z4 hb); clear HB; have HB := n0_; clear n0_; (try clear hb)))
 (try simp only [Act.put, List.setIfInBounds_toArray, List.set_cons_zero, List.set_cons_succ])
 go_loopg [5, 6] k (fun kq v5 v6 w' => ∃ (x5_1 : List (S38)) (x6_1 : ByteArray), v6 = .string x6_1 ∧ Aside0 (lex_Scan.l0 kq a0 x5_1 x6_1 = some (r1, r2, r3)) ∧ Aside0 (kq ≤ k) ∧ Aside0 (Kd.R k38 38 w' w.heap.size (fun _ => True) v5 x5_1) ∧ Aside0 (Below w.heap.size w w'))
 case atStart => exact ⟨(([] : List (S38))), (t201), Z7, H', ⟨Nat.le_refl _⟩, ⟨Z23⟩, ⟨Z4⟩⟩
 case round =>
  clear H'
  try clear c1
  try clear c2
  try clear c2b0
  try clear c2b1
  try clear p2
  obtain ⟨x5_1, x6_1, rfl, HA, HK1, HO_5, HB⟩ := hrel
  cases gk with
  | zero => exact absurd HA.out (by simp [lex_Scan.l0])
  | succ k1 =>
   have H := HA.out
   clear HA
   simp only [lex_Scan.l0] at H
   by_cases c5 : x6_1.toList = ([] : List UInt8)
   ·rw [if_pos c5] at H
    have c5b0 : (x6_1.toList == ([] : List UInt8)) = true := beq_iff_eq.mpr c5
    have c5b1 : (x6_1.toList != ([] : List UInt8)) = false := bne_eq_false_iff_eq.mpr c5
    clear c5
    simp only [Option.some.injEq, Prod.mk.injEq] at H
    obtain ⟨rfl, rfl, rfl⟩ := H
    go_wp2
    go_ret3
    exact ⟨_, Z5, Z21, Z4⟩
   rw [if_neg c5] at H
   have c5b0 : (x6_1.toList == ([] : List UInt8)) = false := beq_eq_false_iff_ne.mpr c5
   have c5b1 : (x6_1.toList != ([] : List UInt8)) = true := bne_iff_ne.mpr c5
   replace H := Option.bind_eq_some_iff.mp H
   obtain ⟨⟨t202, t203, t204, t205, t206, t207⟩, A60, H⟩ := H
   try dsimp only at H
   have A6 := Aside0.mk A60
   clear A60
   by_cases c7 : t207 = 0
   ·rw [if_pos c7] at H
    have c7b0 : (t207 == 0) = true := beq_iff_eq.mpr c7
    have c7b1 : (t207 != 0) = false := bne_eq_false_iff_eq.mpr c7
    clear c7
    by_cases c8 : x5_1.length < 3518437208883
    ·rw [if_pos c8] at H
     have LMc8 := Aside0.mk c8
     clear c8
     obtain ⟨y209, hy209⟩ : ∃ y_ : List (S38), y_ = (x5_1 ++ [(⟨t202, t203, t204, wrap64 ((a0.size : Int) - (x6_1.size : Int))⟩ : S38)]) := ⟨_, rfl⟩
     replace H : (if 0 ≤ t206 then (if t206 ≤ (x6_1.size : Int) then ((jE.f (x6_1.extract (t206 : Int).toNat x6_1.size)).bind fun t212 => (lex_Scan.l0 k1 a0 y209 t212)) else (none)) else (none)) = some (r1, r2, r3) := by first | (rw [hy209]; with_reducible exact H) | (have H2_ := (Option.bind_some _ _).symm.trans H; rw [hy209]; with_reducible exact H2_) | (have H2_ := (Option.bind_some _ _).symm.trans H; with_reducible exact H2_) | with_reducible exact H | (rw [hy209]; exact H) | exact H
     have Ny209 := Aside0.mk hy209
     clear hy209
     by_cases c9 : 0 ≤ t206
     ·rw [if_pos c9] at H
      have c9b0 := eq_true c9
      have c9b1 : decide (0 ≤ t206) = true := decide_eq_true c9
      clear c9
      by_cases c10 : t206 ≤ (x6_1.size : Int)
      ·rw [if_pos c10] at H
       have c10b0 := eq_true c10
       have c10b1 : decide (t206 ≤ (x6_1.size : Int)) = true := decide_eq_true c10
       clear c10
       replace H := Option.bind_eq_some_iff.mp H
       obtain ⟨t212, A110, H⟩ := H
       replace H : (lex_Scan.l0 k1 a0 y209 t212) = some (r1, r2, r3) := H
       have A11 := Aside0.mk A110
       clear A110
       have H' := Aside0.mk H
       clear H
       go_wp2_with (first | ((with_reducible refine gate_callee (f := 24) rfl ?_); refine goesL_ (some 25) rfl rfl Try.func24 (by kernel_rfl) rfl #[.string x6_1] rfl Z3 ?_; (with_reducible refine (fC.calls k1 x6_1 t202 t203 t204 t205 t206 t207 _ A6.out).mono ?_); rintro e w12 ⟨rfl, hb⟩; refine ⟨_, rfl, ?_⟩; have n0_ := Aside0.mk (Kd.R_below Z21 hb); have n1_ := Aside0.mk (below_step Z4 hb); clear HO_5; clear HB; have HO_5 := n0_; have HB := n1_; clear n0_ n1_; (try clear hb)) | ((with_reducible refine bP (N := 8) rfl ?_); refine bT ?hg (N := 8) ?hd (cs := #[.int .i64 0, .string (⟨#[]⟩ : ByteArray), .int .i64 0, .int .i64 0]) (t := 38) ?hr ?_; (case hd => rfl); (case hg => rfl); (case hr => first | (go_simp; done) | (go_simp; rfl)); intro gb208 hg w13 hbox hb; have n0_ := Aside0.mk (Kd.R_below (Kd.vC Z21 gb208 (Nat.le_of_eq hg.symm)) hb); have n1_ := Aside0.mk (below_step Z4 hb); have n2_ := Aside0.mk (hbox); have n3_ := Aside0.mk ((by rw [hg]; exact (below_size Z4) : w.heap.size ≤ gb208)); have n4_ := Aside0.mk ((by rw [hg]; exact (below_size Z4) : w.heap.size ≤ gb208)); clear HO_5; clear HB; have HO_5 := n0_; have HB := n1_; have BK208 := n2_; have GW208 := n3_; have GE208 := n4_; clear n0_ n1_ n2_ n3_ n4_; clear hb hbox hg; have hcz14_0 : w13.cell? ⟨gb208, 0, none⟩ = some (.int .i64 0) := (ag BK208.out 0).trans rfl; have hcz14_1 : w13.cell? ⟨gb208, 1, none⟩ = some (.string (⟨#[]⟩ : ByteArray)) := (ag BK208.out 1).trans rfl; have hcz14_2 : w13.cell? ⟨gb208, 2, none⟩ = some (.int .i64 0) := (ag BK208.out 2).trans rfl; have hcz14_3 : w13.cell? ⟨gb208, 3, none⟩ = some (.int .i64 0) := (ag BK208.out 3).trans rfl; have hfz14_0 := ae BK208.out 0; have hfz14_1 := ae BK208.out 1; have hfz14_2 := ae BK208.out 2; have hfz14_3 := ae BK208.out 3; have hdd14 := rZ hcz14_3) | ((with_reducible refine dD (b := .append) (xs := #[.tmp 35, .tmp 37]) rfl ?_); at_builtin; refine Kd.jK k38 (w0 := w) w.heap.size rfl (.tmp 35) (.tmp 37) 32 38 (.agg #[(.int .i64 0), (.string ⟨#[]⟩), (.int .i64 0), (.int .i64 0)]) 40 rfl Try.underlying32 info38 rfl (by decide) (by omega) u5 x5_1 (⟨t202, t203, t204, wrap64 ((a0.size : Int) - (x6_1.size : Int))⟩ : S38) [.int .i64 t202, .string t203, .int .i64 t204, .int .i64 (wrap64 ((a0.size : Int) - (x6_1.size : Int)))] (fun k_ => k_ ≠ gb208) (fun _ => False) rfl (by first | (go_simp; done) | (go_simp; rfl)) ?aP (fun _ hk => hk.elim) ?aF ?aO ?aB ?aS ?aL ?_; (case aP => exact AX _ _ _ (⟨t202, t203, t204, wrap64 ((a0.size : Int) - (x6_1.size : Int))⟩ : S38)); (case aB => exact Z44); (case aF => exact (fun k_ hk => Kd.ng (g := gb208) (o := .cells #[.int .i64 t202, .string t203, .int .i64 t204, .int .i64 (wrap64 ((a0.size : Int) - (x6_1.size : Int)))] 38 (0, 0)) (by refine aZ (cs := #[.int .i64 t202, .string t203, .int .i64 t204, .int .i64 t205]) ?_ 3 _ rfl; refine aZ (cs := #[.int .i64 t202, .string t203, .int .i64 t204, .int .i64 0]) ?_ 3 _ rfl; refine aZ (cs := #[.int .i64 t202, .string t203, .int .i64 0, .int .i64 0]) ?_ 2 _ rfl; refine aZ (cs := #[.int .i64 t202, .string (⟨#[]⟩ : ByteArray), .int .i64 0, .int .i64 0]) ?_ 1 _ rfl; refine aZ (cs := #[.int .i64 0, .string (⟨#[]⟩ : ByteArray), .int .i64 0, .int .i64 0]) ?_ 0 _ rfl; exact BK208.out) k_ hk)); (case aO => exact (by (with_reducible repeat (first | apply Kd.R_alloc | apply Kd.R_drewN | apply Kd.R_drew)); exact Kd.bi (Kd.mO (p := ⟨gb208, 3, none⟩) (Kd.mO (p := ⟨gb208, 3, none⟩) (Kd.mO (p := ⟨gb208, 2, none⟩) (Kd.mO (p := ⟨gb208, 1, none⟩) (Kd.mO (p := ⟨gb208, 0, none⟩) (Kd.bi HO_5.out (fun k_ hk => (⟨hk, hk.2⟩ : _ ∧ k_ ≠ gb208))) (fun _ hk => hk.2) (.int .i64 t202)) (fun _ hk => hk.2) (.string t203)) (fun _ hk => hk.2) (.int .i64 t204)) (fun _ hk => hk.2) (.int .i64 t205)) (fun _ hk => hk.2) (.int .i64 (wrap64 ((a0.size : Int) - (x6_1.size : Int))))) (fun _ hk => hk.1.2))); (case aS => exact (below_size Z44)); (case aL => have := LMc8.out; omega); intro v210 w15 ho hb hg hat; rw [← Ny209.out] at ho; have n0_ := Aside0.mk (iJ (g := gb208) (o := .cells #[.int .i64 t202, .string t203, .int .i64 t204, .int .i64 (wrap64 ((a0.size : Int) - (x6_1.size : Int)))] 38 (0, 0)) (by refine aZ (cs := #[.int .i64 t202, .string t203, .int .i64 t204, .int .i64 t205]) ?_ 3 _ rfl; refine aZ (cs := #[.int .i64 t202, .string t203, .int .i64 t204, .int .i64 0]) ?_ 3 _ rfl; refine aZ (cs := #[.int .i64 t202, .string t203, .int .i64 0, .int .i64 0]) ?_ 2 _ rfl; refine aZ (cs := #[.int .i64 t202, .string (⟨#[]⟩ : ByteArray), .int .i64 0, .int .i64 0]) ?_ 1 _ rfl; refine aZ (cs := #[.int .i64 0, .string (⟨#[]⟩ : ByteArray), .int .i64 0, .int .i64 0]) ?_ 0 _ rfl; exact BK208.out) hg (Kd.zO HO_5.out (fun _ hk => hk.2))); have n1_ := Aside0.mk (hb); have n2_ := Aside0.mk (ho); clear BK208; clear HB; clear HO_5; have BK208 := n0_; have HB := n1_; have HO211 := n2_; clear n0_ n1_ n2_; clear ho hb hg hat) | ((with_reducible refine gate_callee (f := 23) rfl ?_); refine goesL_ (some 42) rfl rfl Try.func23 (by kernel_rfl) rfl #[.string (x6_1.extract (t206 : Int).toNat x6_1.size)] rfl Z3 ?_; (with_reducible refine (jE.calls (x6_1.extract (t206 : Int).toNat x6_1.size) t212 _ A11.out).mono ?_); rintro e w16 ⟨rfl, hb⟩; refine ⟨_, rfl, ?_⟩; have n0_ := Aside0.mk (Kd.R_below (by (with_reducible repeat (first | apply Kd.R_alloc | apply Kd.R_drewN | apply Kd.R_drew)); exact HO211.out) hb); have n1_ := Aside0.mk (bU (g := gb208) (o := .cells #[.int .i64 t202, .string t203, .int .i64 t204, .int .i64 (wrap64 ((a0.size : Int) - (x6_1.size : Int)))] 38 (0, 0)) (by exact BK208.out) hb); have n2_ := Aside0.mk (below_step Z44 hb); clear HO211; clear BK208; clear HB; have HO211 := n0_; have BK208 := n1_; have HB := n2_; clear n0_ n1_ n2_; (try clear hb)))
       go_roundg k1
       case measure => have := HK1.out; omega
       case rel => exact ⟨(y209), (t212), Z7, H', ⟨by have := HK1.out; omega⟩, ⟨by (with_reducible repeat (first | apply Kd.R_alloc | apply Kd.R_drewN | apply Kd.R_drew)); exact Kd.bi HO211.out (fun _ hk => trivial)⟩, ⟨Z44⟩⟩
      rw [if_neg c10] at H
      exact absurd H (by simp)
     rw [if_neg c9] at H
     exact absurd H (by simp)
    rw [if_neg c8] at H
    exact absurd H (by simp)
   rw [if_neg c7] at H
   have c7b0 : (t207 == 0) = false := beq_eq_false_iff_ne.mpr c7
   have c7b1 : (t207 != 0) = true := bne_iff_ne.mpr c7
   simp only [Option.some.injEq, Prod.mk.injEq] at H
   obtain ⟨rfl, rfl, rfl⟩ := H
   go_wp2_with (first | ((with_reducible refine gate_callee (f := 24) rfl ?_); refine goesL_ (some 25) rfl rfl Try.func24 (by kernel_rfl) rfl #[.string x6_1] rfl Z3 ?_; (with_reducible refine (fC.calls k1 x6_1 t202 t203 t204 t205 t206 t207 _ A6.out).mono ?_); rintro e w17 ⟨rfl, hb⟩; refine ⟨_, rfl, ?_⟩; have n0_ := Aside0.mk (Kd.R_below Z21 hb); have n1_ := Aside0.mk (below_step Z4 hb); clear HO_5; clear HB; have HO_5 := n0_; have HB := n1_; clear n0_ n1_; (try clear hb)) | ((with_reducible refine bP (N := 8) rfl ?_); refine bT ?hg (N := 8) ?hd (cs := #[.int .i64 0, .string (⟨#[]⟩ : ByteArray), .int .i64 0, .int .i64 0]) (t := 38) ?hr ?_; (case hd => rfl); (case hg => rfl); (case hr => first | (go_simp; done) | (go_simp; rfl)); intro gb208 hg w18 hbox hb; have n0_ := Aside0.mk (Kd.R_below (Kd.vC Z21 gb208 (Nat.le_of_eq hg.symm)) hb); have n1_ := Aside0.mk (below_step Z4 hb); have n2_ := Aside0.mk (hbox); have n3_ := Aside0.mk ((by rw [hg]; exact (below_size Z4) : w.heap.size ≤ gb208)); have n4_ := Aside0.mk ((by rw [hg]; exact (below_size Z4) : w.heap.size ≤ gb208)); clear HO_5; clear HB; have HO_5 := n0_; have HB := n1_; have BK208 := n2_; have GW208 := n3_; have GE208 := n4_; clear n0_ n1_ n2_ n3_ n4_; clear hb hbox hg; have hcz19_0 : w18.cell? ⟨gb208, 0, none⟩ = some (.int .i64 0) := (ag BK208.out 0).trans rfl; have hcz19_1 : w18.cell? ⟨gb208, 1, none⟩ = some (.string (⟨#[]⟩ : ByteArray)) := (ag BK208.out 1).trans rfl; have hcz19_2 : w18.cell? ⟨gb208, 2, none⟩ = some (.int .i64 0) := (ag BK208.out 2).trans rfl; have hcz19_3 : w18.cell? ⟨gb208, 3, none⟩ = some (.int .i64 0) := (ag BK208.out 3).trans rfl; have hfz19_0 := ae BK208.out 0; have hfz19_1 := ae BK208.out 1; have hfz19_2 := ae BK208.out 2; have hfz19_3 := ae BK208.out 3; have hdd19 := rZ hcz19_3))
   go_ret3
   exact ⟨_, Z5, Z23, Z44⟩
-- BY HAND: function 15 (parse_Tree)
-- BY HAND: function 70 (parse_reader_next)
/-! ### aV: function 71 -/
def aV.f (s0_0 : List (S38)) (s0_1 : Int) (s0_2 : Bool) : Option (ByteArray × Int × Bool) := (eY.f s0_0 s0_1 s0_2).bind fun bt213 => (if bt213.2.2.2.2.1 = true then (if bt213.1 = 5 then (some (bt213.2.1, bt213.2.2.2.2.2.1, bt213.2.2.2.2.2.2)) else (if bt213.1 = 4 then (some (bt213.2.1, bt213.2.2.2.2.2.1, bt213.2.2.2.2.2.2)) else (some ((⟨#[]⟩ : ByteArray), bt213.2.2.2.2.2.1, bt213.2.2.2.2.2.2)))) else (some ((⟨#[]⟩ : ByteArray), bt213.2.2.2.2.2.1, bt213.2.2.2.2.2.2)))
set_option maxHeartbeats 8000000 in
set_option maxRecDepth 100000 in
theorem aV.calls (g : Nat) (s0_0 : List (S38)) (s0_1 : Int) (s0_2 : Bool) (r1 : ByteArray) (r2 : Int) (r3 : Bool) (w0 w : World) (hI : ah w0 w g s0_0 s0_1 s0_2) (hB : Below w0.heap.size w0 w) (h : aV.f s0_0 s0_1 s0_2 = some (r1, r2, r3)) :
 Calls Try.prog 71 #[.pointer (some ⟨g, 0, none⟩)] w fun e w' => e = .returned (.string r1) ∧ ah w0 w' g s0_0 r2 r3 ∧ Below w0.heap.size w0 w' ∧ af w w' g none := by
 have hu38 := Try.underlying38
 have HI0 := Aside0.mk hI
 have HK := Aside0.mk (af.refl w g none)
 have HL := Aside0.mk hB.size
 clear hI
 have HW0 := Aside0.mk hB.size
 have HB := Aside0.mk hB
 clear hB
 have H : ((eY.f s0_0 s0_1 s0_2).bind fun bt213 => (if bt213.2.2.2.2.1 = true then (if bt213.1 = 5 then (some (bt213.2.1, bt213.2.2.2.2.2.1, bt213.2.2.2.2.2.2)) else (if bt213.1 = 4 then (some (bt213.2.1, bt213.2.2.2.2.2.1, bt213.2.2.2.2.2.2)) else (some ((⟨#[]⟩ : ByteArray), bt213.2.2.2.2.2.1, bt213.2.2.2.2.2.2)))) else (some ((⟨#[]⟩ : ByteArray), bt213.2.2.2.2.2.1, bt213.2.2.2.2.2.2)))) = some (r1, r2, r3) := h
 clear h
 replace H := Option.bind_eq_some_iff.mp H
 obtain ⟨⟨t213, t214, t215, t216, t217, t218, t219⟩, A20, H⟩ := H
 try dsimp only at H
 have A2 := Aside0.mk A20
 clear A20
 by_cases c3 : t217 = true
 ·subst c3
  rw [if_pos rfl] at H
  have H1 := H
  clear H
  have H := H1
  clear H1
  by_cases c4 : t213 = 5
  ·rw [if_pos c4] at H
   have c4b0 : (t213 == 5) = true := beq_iff_eq.mpr c4
   have c4b1 : (t213 != 5) = false := bne_eq_false_iff_eq.mpr c4
   clear c4
   simp only [Option.some.injEq, Prod.mk.injEq] at H
   obtain ⟨rfl, rfl, rfl⟩ := H
   go_enter Try.func71, Try.ntmps71
   go_wp2_with (first | ((with_reducible refine gate_callee (f := 70) rfl ?_); refine goesL_ (some 7) rfl rfl Try.func70 (by kernel_rfl) rfl #[.pointer (some ⟨g, 0, none⟩)] rfl Z3 ?_; (with_reducible refine (eY.calls g s0_0 s0_1 s0_2 t213 t214 t215 t216 true t218 t219 w0 _ ?side1 ?side2 A2.out).mono ?_); (case side1 => exact Z0); (case side2 => exact Z2); rintro e w5 ⟨rfl, hi, hb, hk⟩; refine ⟨_, rfl, ?_⟩; have n0_ := Aside0.mk (af.trans Z1 hk (.inl rfl)); have n1_ := Aside0.mk (hb); have n2_ := Aside0.mk (hi); clear HK; clear HB; clear HI0; have HK := n0_; have HB := n1_; have HI0 := n2_; clear n0_ n1_ n2_; (try clear hb)) | ((with_reducible refine bP (N := 3) rfl ?_); refine bT ?hg (N := 3) ?hd (cs := #[.int .i64 0, .string (⟨#[]⟩ : ByteArray), .int .i64 0, .int .i64 0]) (t := 38) ?hr ?_; (case hd => rfl); (case hg => rfl); (case hr => first | (go_simp; done) | (go_simp; rfl)); intro gb220 hg w6 hbox hb; have n0_ := Aside0.mk (ah.below Z0 hb); have n1_ := Aside0.mk (af.trans Z1 (af.of_below hb g none) (.inl rfl)); have n2_ := Aside0.mk (below_step Z2 hb); have n3_ := Aside0.mk (hbox); have n4_ := Aside0.mk ((by rw [hg]; exact (aH (w := w) (g := g) (row := none) Z1) : w.heap.size ≤ gb220)); have n5_ := Aside0.mk ((Nat.le_trans HW0.out (by rw [hg]; exact (aH (w := w) (g := g) (row := none) Z1) : w.heap.size ≤ gb220) : w0.heap.size ≤ gb220)); have n6_ := Aside0.mk ((by rw [hg]; exact Nat.ne_of_lt (ah.lt (show ah w0 _ g s0_0 t218 t219 from Z0)) : g ≠ gb220)); have n7_ := Aside0.mk ((by rw [hg]; exact Nat.ne_of_gt (ah.lt (show ah w0 _ g s0_0 t218 t219 from Z0)) : gb220 ≠ g)); clear HI0; clear HK; clear HB; have HI0 := n0_; have HK := n1_; have HB := n2_; have BK220 := n3_; have GW220 := n4_; have GE220 := n5_; have NB0_220 := n6_; have NB220_0 := n7_; clear n0_ n1_ n2_ n3_ n4_ n5_ n6_ n7_; clear hb hbox hg; have hnb7 := NB220_0.out; have hnc7 := NB0_220.out; have hcz8_0 : w6.cell? ⟨gb220, 0, none⟩ = some (.int .i64 0) := (ag BK220.out 0).trans rfl; have hcz8_1 : w6.cell? ⟨gb220, 1, none⟩ = some (.string (⟨#[]⟩ : ByteArray)) := (ag BK220.out 1).trans rfl; have hcz8_2 : w6.cell? ⟨gb220, 2, none⟩ = some (.int .i64 0) := (ag BK220.out 2).trans rfl; have hcz8_3 : w6.cell? ⟨gb220, 3, none⟩ = some (.int .i64 0) := (ag BK220.out 3).trans rfl; have hfz8_0 := ae BK220.out 0; have hfz8_1 := ae BK220.out 1; have hfz8_2 := ae BK220.out 2; have hfz8_3 := ae BK220.out 3))
   go_ret
   exact ⟨Z5, Z41, Z45, Z52⟩
  rw [if_neg c4] at H
  have c4b0 : (t213 == 5) = false := beq_eq_false_iff_ne.mpr c4
  have c4b1 : (t213 != 5) = true := bne_iff_ne.mpr c4
  by_cases c9 : t213 = 4
  ·rw [if_pos c9] at H
   have c9b0 : (t213 == 4) = true := beq_iff_eq.mpr c9
   have c9b1 : (t213 != 4) = false := bne_eq_false_iff_eq.mpr c9
   clear c9
   simp only [Option.some.injEq, Prod.mk.injEq] at H
   obtain ⟨rfl, rfl, rfl⟩ := H
   go_enter Try.func71, Try.ntmps71
   go_wp2_with (first | ((with_reducible refine gate_callee (f := 70) rfl ?_); refine goesL_ (some 7) rfl rfl Try.func70 (by kernel_rfl) rfl #[.pointer (some ⟨g, 0, none⟩)] rfl Z3 ?_; (with_reducible refine (eY.calls g s0_0 s0_1 s0_2 t213 t214 t215 t216 true t218 t219 w0 _ ?side1 ?side2 A2.out).mono ?_); (case side1 => exact Z0); (case side2 => exact Z2); rintro e w10 ⟨rfl, hi, hb, hk⟩; refine ⟨_, rfl, ?_⟩; have n0_ := Aside0.mk (af.trans Z1 hk (.inl rfl)); have n1_ := Aside0.mk (hb); have n2_ := Aside0.mk (hi); clear HK; clear HB; clear HI0; have HK := n0_; have HB := n1_; have HI0 := n2_; clear n0_ n1_ n2_; (try clear hb)) | ((with_reducible refine bP (N := 3) rfl ?_); refine bT ?hg (N := 3) ?hd (cs := #[.int .i64 0, .string (⟨#[]⟩ : ByteArray), .int .i64 0, .int .i64 0]) (t := 38) ?hr ?_; (case hd => rfl); (case hg => rfl); (case hr => first | (go_simp; done) | (go_simp; rfl)); intro gb220 hg w11 hbox hb; have n0_ := Aside0.mk (ah.below Z0 hb); have n1_ := Aside0.mk (af.trans Z1 (af.of_below hb g none) (.inl rfl)); have n2_ := Aside0.mk (below_step Z2 hb); have n3_ := Aside0.mk (hbox); have n4_ := Aside0.mk ((by rw [hg]; exact (aH (w := w) (g := g) (row := none) Z1) : w.heap.size ≤ gb220)); have n5_ := Aside0.mk ((Nat.le_trans HW0.out (by rw [hg]; exact (aH (w := w) (g := g) (row := none) Z1) : w.heap.size ≤ gb220) : w0.heap.size ≤ gb220)); have n6_ := Aside0.mk ((by rw [hg]; exact Nat.ne_of_lt (ah.lt (show ah w0 _ g s0_0 t218 t219 from Z0)) : g ≠ gb220)); have n7_ := Aside0.mk ((by rw [hg]; exact Nat.ne_of_gt (ah.lt (show ah w0 _ g s0_0 t218 t219 from Z0)) : gb220 ≠ g)); clear HI0; clear HK; clear HB; have HI0 := n0_; have HK := n1_; have HB := n2_; have BK220 := n3_; have GW220 := n4_; have GE220 := n5_; have NB0_220 := n6_; have NB220_0 := n7_; clear n0_ n1_ n2_ n3_ n4_ n5_ n6_ n7_; clear hb hbox hg; have hnb12 := NB220_0.out; have hnc12 := NB0_220.out; have hcz13_0 : w11.cell? ⟨gb220, 0, none⟩ = some (.int .i64 0) := (ag BK220.out 0).trans rfl; have hcz13_1 : w11.cell? ⟨gb220, 1, none⟩ = some (.string (⟨#[]⟩ : ByteArray)) := (ag BK220.out 1).trans rfl; have hcz13_2 : w11.cell? ⟨gb220, 2, none⟩ = some (.int .i64 0) := (ag BK220.out 2).trans rfl; have hcz13_3 : w11.cell? ⟨gb220, 3, none⟩ = some (.int .i64 0) := (ag BK220.out 3).trans rfl; have hfz13_0 := ae BK220.out 0; have hfz13_1 := ae BK220.out 1; have hfz13_2 := ae BK220.out 2; have hfz13_3 := ae BK220.out 3))
   go_ret
   exact ⟨Z5, Z41, Z45, Z52⟩
  rw [if_neg c9] at H
  have c9b0 : (t213 == 4) = false := beq_eq_false_iff_ne.mpr c9
  have c9b1 : (t213 != 4) = true := bne_iff_ne.mpr c9
  simp only [Option.some.injEq, Prod.mk.injEq] at H
  obtain ⟨rfl, rfl, rfl⟩ := H
  go_enter Try.func71, Try.ntmps71
  go_wp2_with (first | ((with_reducible refine gate_callee (f := 70) rfl ?_); refine goesL_ (some 7) rfl rfl Try.func70 (by kernel_rfl) rfl #[.pointer (some ⟨g, 0, none⟩)] rfl Z3 ?_; (with_reducible refine (eY.calls g s0_0 s0_1 s0_2 t213 t214 t215 t216 true t218 t219 w0 _ ?side1 ?side2 A2.out).mono ?_); (case side1 => exact Z0); (case side2 => exact Z2); rintro e w14 ⟨rfl, hi, hb, hk⟩; refine ⟨_, rfl, ?_⟩; have n0_ := Aside0.mk (af.trans Z1 hk (.inl rfl)); have n1_ := Aside0.mk (hb); have n2_ := Aside0.mk (hi); clear HK; clear HB; clear HI0; have HK := n0_; have HB := n1_; have HI0 := n2_; clear n0_ n1_ n2_; (try clear hb)) | ((with_reducible refine bP (N := 3) rfl ?_); refine bT ?hg (N := 3) ?hd (cs := #[.int .i64 0, .string (⟨#[]⟩ : ByteArray), .int .i64 0, .int .i64 0]) (t := 38) ?hr ?_; (case hd => rfl); (case hg => rfl); (case hr => first | (go_simp; done) | (go_simp; rfl)); intro gb220 hg w15 hbox hb; have n0_ := Aside0.mk (ah.below Z0 hb); have n1_ := Aside0.mk (af.trans Z1 (af.of_below hb g none) (.inl rfl)); have n2_ := Aside0.mk (below_step Z2 hb); have n3_ := Aside0.mk (hbox); have n4_ := Aside0.mk ((by rw [hg]; exact (aH (w := w) (g := g) (row := none) Z1) : w.heap.size ≤ gb220)); have n5_ := Aside0.mk ((Nat.le_trans HW0.out (by rw [hg]; exact (aH (w := w) (g := g) (row := none) Z1) : w.heap.size ≤ gb220) : w0.heap.size ≤ gb220)); have n6_ := Aside0.mk ((by rw [hg]; exact Nat.ne_of_lt (ah.lt (show ah w0 _ g s0_0 t218 t219 from Z0)) : g ≠ gb220)); have n7_ := Aside0.mk ((by rw [hg]; exact Nat.ne_of_gt (ah.lt (show ah w0 _ g s0_0 t218 t219 from Z0)) : gb220 ≠ g)); clear HI0; clear HK; clear HB; have HI0 := n0_; have HK := n1_; have HB := n2_; have BK220 := n3_; have GW220 := n4_; have GE220 := n5_; have NB0_220 := n6_; have NB220_0 := n7_; clear n0_ n1_ n2_ n3_ n4_ n5_ n6_ n7_; clear hb hbox hg; have hnb16 := NB220_0.out; have hnc16 := NB0_220.out; have hcz17_0 : w15.cell? ⟨gb220, 0, none⟩ = some (.int .i64 0) := (ag BK220.out 0).trans rfl; have hcz17_1 : w15.cell? ⟨gb220, 1, none⟩ = some (.string (⟨#[]⟩ : ByteArray)) := (ag BK220.out 1).trans rfl; have hcz17_2 : w15.cell? ⟨gb220, 2, none⟩ = some (.int .i64 0) := (ag BK220.out 2).trans rfl; have hcz17_3 : w15.cell? ⟨gb220, 3, none⟩ = some (.int .i64 0) := (ag BK220.out 3).trans rfl; have hfz17_0 := ae BK220.out 0; have hfz17_1 := ae BK220.out 1; have hfz17_2 := ae BK220.out 2; have hfz17_3 := ae BK220.out 3))
  go_ret
  exact ⟨Z5, Z41, Z45, Z52⟩
 replace c3 := Bool.eq_false_iff.mpr c3
 subst c3
 have H1 : (some ((⟨#[]⟩ : ByteArray), t218, t219)) = some (r1, r2, r3) := by rw [if_neg (show ¬ (false = true) by decide)] at H; exact H
 clear H
 have H := H1
 clear H1
 simp only [Option.some.injEq, Prod.mk.injEq] at H
 obtain ⟨rfl, rfl, rfl⟩ := H
 go_enter Try.func71, Try.ntmps71
 go_wp2_with (first | ((with_reducible refine gate_callee (f := 70) rfl ?_); refine goesL_ (some 7) rfl rfl Try.func70 (by kernel_rfl) rfl #[.pointer (some ⟨g, 0, none⟩)] rfl Z3 ?_; (with_reducible refine (eY.calls g s0_0 s0_1 s0_2 t213 t214 t215 t216 false t218 t219 w0 _ ?side1 ?side2 A2.out).mono ?_); (case side1 => exact Z0); (case side2 => exact Z2); rintro e w18 ⟨rfl, hi, hb, hk⟩; refine ⟨_, rfl, ?_⟩; have n0_ := Aside0.mk (af.trans Z1 hk (.inl rfl)); have n1_ := Aside0.mk (hb); have n2_ := Aside0.mk (hi); clear HK; clear HB; clear HI0; have HK := n0_; have HB := n1_; have HI0 := n2_; clear n0_ n1_ n2_; (try clear hb)) | ((with_reducible refine bP (N := 3) rfl ?_); refine bT ?hg (N := 3) ?hd (cs := #[.int .i64 0, .string (⟨#[]⟩ : ByteArray), .int .i64 0, .int .i64 0]) (t := 38) ?hr ?_; (case hd => rfl); (case hg => rfl); (case hr => first | (go_simp; done) | (go_simp; rfl)); intro gb220 hg w19 hbox hb; have n0_ := Aside0.mk (ah.below Z0 hb); have n1_ := Aside0.mk (af.trans Z1 (af.of_below hb g none) (.inl rfl)); have n2_ := Aside0.mk (below_step Z2 hb); have n3_ := Aside0.mk (hbox); have n4_ := Aside0.mk ((by rw [hg]; exact (aH (w := w) (g := g) (row := none) Z1) : w.heap.size ≤ gb220)); have n5_ := Aside0.mk ((Nat.le_trans HW0.out (by rw [hg]; exact (aH (w := w) (g := g) (row := none) Z1) : w.heap.size ≤ gb220) : w0.heap.size ≤ gb220)); have n6_ := Aside0.mk ((by rw [hg]; exact Nat.ne_of_lt (ah.lt (show ah w0 _ g s0_0 t218 t219 from Z0)) : g ≠ gb220)); have n7_ := Aside0.mk ((by rw [hg]; exact Nat.ne_of_gt (ah.lt (show ah w0 _ g s0_0 t218 t219 from Z0)) : gb220 ≠ g)); clear HI0; clear HK; clear HB; have HI0 := n0_; have HK := n1_; have HB := n2_; have BK220 := n3_; have GW220 := n4_; have GE220 := n5_; have NB0_220 := n6_; have NB220_0 := n7_; clear n0_ n1_ n2_ n3_ n4_ n5_ n6_ n7_; clear hb hbox hg; have hnb20 := NB220_0.out; have hnc20 := NB0_220.out; have hcz21_0 : w19.cell? ⟨gb220, 0, none⟩ = some (.int .i64 0) := (ag BK220.out 0).trans rfl; have hcz21_1 : w19.cell? ⟨gb220, 1, none⟩ = some (.string (⟨#[]⟩ : ByteArray)) := (ag BK220.out 1).trans rfl; have hcz21_2 : w19.cell? ⟨gb220, 2, none⟩ = some (.int .i64 0) := (ag BK220.out 2).trans rfl; have hcz21_3 : w19.cell? ⟨gb220, 3, none⟩ = some (.int .i64 0) := (ag BK220.out 3).trans rfl; have hfz21_0 := ae BK220.out 0; have hfz21_1 := ae BK220.out 1; have hfz21_2 := ae BK220.out 2; have hfz21_3 := ae BK220.out 3))
 go_ret
 exact ⟨Z5, Z41, Z45, Z52⟩
end Go.Proofs.Ytendgafpkeadhaa.Q
end
section
namespace Go.Proofs.Ytendgafpkeadhaa.Q
open Go.RowKit Go.Proofs.YtendgafpkeadhaaW.PrintWords Go.Proofs.YtendgafpkeadhaaW.PrintLast Go.Proofs.YtendgafpkeadhaaW.PrintMore
attribute [local go_sem] ik ig gZ gY max2_int min2_int max_two min_two max_three min_three max_four min_four
set_option linter.unusedVariables false
set_option linter.unusedSimpArgs false
/-! ### au: function 53 -/
def au.f (s0_0 : List (S38)) (s0_1 : Int) (s0_2 : Bool) (a1 : ByteArray) : Option (Bool × Int × Bool) := if a1.toList = ([] : List UInt8) then (some (false, s0_1, s0_2)) else ((aV.f s0_0 s0_1 s0_2).bind fun bt221 => (if bt221.1.toList = a1.toList then (some (true, wrap64 (bt221.2.1 + 1), bt221.2.2)) else (some (false, bt221.2.1, bt221.2.2))))
set_option maxHeartbeats 8000000 in
set_option maxRecDepth 100000 in
theorem au.calls (g : Nat) (s0_0 : List (S38)) (s0_1 : Int) (s0_2 : Bool) (a1 : ByteArray) (r1 : Bool) (r2 : Int) (r3 : Bool) (w0 w : World) (hI : ah w0 w g s0_0 s0_1 s0_2) (hB : Below w0.heap.size w0 w) (h : au.f s0_0 s0_1 s0_2 a1 = some (r1, r2, r3)) :
 Calls Try.prog 53 #[.pointer (some ⟨g, 0, none⟩), .string a1] w fun e w' => e = .returned (.bool r1) ∧ ah w0 w' g s0_0 r2 r3 ∧ Below w0.heap.size w0 w' ∧ af w w' g none := by
 have HI0 := Aside0.mk hI
 have HK := Aside0.mk (af.refl w g none)
 have HL := Aside0.mk hB.size
 clear hI
 have HW0 := Aside0.mk hB.size
 have HB := Aside0.mk hB
 clear hB
 have H : (if a1.toList = ([] : List UInt8) then (some (false, s0_1, s0_2)) else ((aV.f s0_0 s0_1 s0_2).bind fun bt221 => (if bt221.1.toList = a1.toList then (some (true, wrap64 (bt221.2.1 + 1), bt221.2.2)) else (some (false, bt221.2.1, bt221.2.2))))) = some (r1, r2, r3) := h
 clear h
 by_cases c3 : a1.toList = ([] : List UInt8)
 ·rw [if_pos c3] at H
  have c3b0 : (a1.toList == ([] : List UInt8)) = true := beq_iff_eq.mpr c3
  have c3b1 : (a1.toList != ([] : List UInt8)) = false := bne_eq_false_iff_eq.mpr c3
  clear c3
  simp only [Option.some.injEq, Prod.mk.injEq] at H
  obtain ⟨rfl, rfl, rfl⟩ := H
  go_enter Try.func53, Try.ntmps53
  go_wp2
  go_ret
  exact ⟨Z5, Z0, Z2, Z1⟩
 rw [if_neg c3] at H
 have c3b0 : (a1.toList == ([] : List UInt8)) = false := beq_eq_false_iff_ne.mpr c3
 have c3b1 : (a1.toList != ([] : List UInt8)) = true := bne_iff_ne.mpr c3
 replace H := Option.bind_eq_some_iff.mp H
 obtain ⟨⟨t221, t222, t223⟩, A40, H⟩ := H
 replace H : (if t221.toList = a1.toList then (some (true, wrap64 (t222 + 1), t223)) else (some (false, t222, t223))) = some (r1, r2, r3) := H
 have A4 := Aside0.mk A40
 clear A40
 by_cases c5 : t221.toList = a1.toList
 ·rw [if_pos c5] at H
  have c5b0 : (t221.toList == a1.toList) = true := beq_iff_eq.mpr c5
  have c5b1 : (t221.toList != a1.toList) = false := bne_eq_false_iff_eq.mpr c5
  clear c5
  simp only [Option.some.injEq, Prod.mk.injEq] at H
  obtain ⟨rfl, rfl, rfl⟩ := H
  go_enter Try.func53, Try.ntmps53
  go_wp2_with (first | (go_at_call 71; (with_reducible refine (aV.calls g s0_0 s0_1 s0_2 t221 t222 t223 w0 _ ?side1 ?side2 A4.out).mono ?_); (case side1 => exact Z0); (case side2 => exact Z2); rintro e w6 ⟨rfl, hi, hb, hk⟩; have n0_ := Aside0.mk (af.trans Z1 hk (.inl rfl)); have n1_ := Aside0.mk (hb); have n2_ := Aside0.mk (hi); clear HK; clear HB; clear HI0; have HK := n0_; have HB := n1_; have HI0 := n2_; clear n0_ n1_ n2_; (try clear hb); obtain ⟨ASz7_0, cSz7_0, HGz7, hgz7, HSz7_0⟩ := HI0.out; have hcz7_0 := df HGz7; have hcz7_1 := cZ HGz7; have hcz7_2 := cO HGz7; have hfz7_1 := ae HGz7 1; have hfz7_2 := ae HGz7 2; clear HGz7 hgz7))
  go_ret
  exact ⟨Z5, Z0, Z2, Z1⟩
 rw [if_neg c5] at H
 have c5b0 : (t221.toList == a1.toList) = false := beq_eq_false_iff_ne.mpr c5
 have c5b1 : (t221.toList != a1.toList) = true := bne_iff_ne.mpr c5
 simp only [Option.some.injEq, Prod.mk.injEq] at H
 obtain ⟨rfl, rfl, rfl⟩ := H
 go_enter Try.func53, Try.ntmps53
 go_wp2_with (first | (go_at_call 71; (with_reducible refine (aV.calls g s0_0 s0_1 s0_2 t221 t222 t223 w0 _ ?side1 ?side2 A4.out).mono ?_); (case side1 => exact Z0); (case side2 => exact Z2); rintro e w8 ⟨rfl, hi, hb, hk⟩; have n0_ := Aside0.mk (af.trans Z1 hk (.inl rfl)); have n1_ := Aside0.mk (hb); have n2_ := Aside0.mk (hi); clear HK; clear HB; clear HI0; have HK := n0_; have HB := n1_; have HI0 := n2_; clear n0_ n1_ n2_; (try clear hb)))
 go_ret
 exact ⟨Z5, Z0, Z2, Z1⟩
/-! ### ak: function 51 -/
def ak.f (s0_0 : List (S38)) (s0_1 : Int) (s0_2 : Bool) (a1 : ByteArray) : Option (Int × Bool) := (au.f s0_0 s0_1 s0_2 a1).bind fun bt224 => (if bt224.1 = true then (some (bt224.2.1, bt224.2.2)) else (some (bt224.2.1, true)))
set_option maxHeartbeats 8000000 in
set_option maxRecDepth 100000 in
theorem ak.calls (g : Nat) (s0_0 : List (S38)) (s0_1 : Int) (s0_2 : Bool) (a1 : ByteArray) (r1 : Int) (r2 : Bool) (w0 w : World) (hI : ah w0 w g s0_0 s0_1 s0_2) (hB : Below w0.heap.size w0 w) (h : ak.f s0_0 s0_1 s0_2 a1 = some (r1, r2)) :
 Calls Try.prog 51 #[.pointer (some ⟨g, 0, none⟩), .string a1] w fun e w' => e = .returned (.tuple #[]) ∧ ah w0 w' g s0_0 r1 r2 ∧ Below w0.heap.size w0 w' ∧ af w w' g none := by
 have HI0 := Aside0.mk hI
 have HK := Aside0.mk (af.refl w g none)
 have HL := Aside0.mk hB.size
 clear hI
 have HW0 := Aside0.mk hB.size
 have HB := Aside0.mk hB
 clear hB
 have H : ((au.f s0_0 s0_1 s0_2 a1).bind fun bt224 => (if bt224.1 = true then (some (bt224.2.1, bt224.2.2)) else (some (bt224.2.1, true)))) = some (r1, r2) := h
 clear h
 replace H := Option.bind_eq_some_iff.mp H
 obtain ⟨⟨t224, t225, t226⟩, A30, H⟩ := H
 replace H : (if t224 = true then (some (t225, t226)) else (some (t225, true))) = some (r1, r2) := H
 have A3 := Aside0.mk A30
 clear A30
 by_cases c4 : t224 = true
 ·subst c4
  have H1 : (some (t225, t226)) = some (r1, r2) := by rw [if_pos rfl] at H; exact H
  clear H
  have H := H1
  clear H1
  simp only [Option.some.injEq, Prod.mk.injEq] at H
  obtain ⟨rfl, rfl⟩ := H
  go_enter Try.func51, Try.ntmps51
  go_wp2_with (first | ((with_reducible refine gate_callee (f := 53) rfl ?_); refine goesL_ (some 7) rfl rfl Try.func53 (by kernel_rfl) rfl #[.pointer (some ⟨g, 0, none⟩), .string a1] rfl Z3 ?_; (with_reducible refine (au.calls g s0_0 s0_1 s0_2 a1 true t225 t226 w0 _ ?side1 ?side2 A3.out).mono ?_); (case side1 => exact Z0); (case side2 => exact Z2); rintro e w5 ⟨rfl, hi, hb, hk⟩; refine ⟨_, rfl, ?_⟩; have n0_ := Aside0.mk (af.trans Z1 hk (.inl rfl)); have n1_ := Aside0.mk (hb); have n2_ := Aside0.mk (hi); clear HK; clear HB; clear HI0; have HK := n0_; have HB := n1_; have HI0 := n2_; clear n0_ n1_ n2_; (try clear hb); obtain ⟨ASz6_0, cSz6_0, HGz6, hgz6, HSz6_0⟩ := HI0.out; have hcz6_0 := df HGz6; have hcz6_1 := cZ HGz6; have hcz6_2 := cO HGz6; have hfz6_1 := ae HGz6 1; have hfz6_2 := ae HGz6 2; clear HGz6 hgz6))
  first | go_end0 | ((try simp only [Exit.inBlock, Exit.then]); refine bodyPost_ret (results_none rfl _ _ _) rfl ?_)
  exact ⟨Z5, Z0, Z2, Z1⟩
 replace c4 := Bool.eq_false_iff.mpr c4
 subst c4
 have H1 : (some (t225, true)) = some (r1, r2) := by rw [if_neg (show ¬ (false = true) by decide)] at H; exact H
 clear H
 have H := H1
 clear H1
 simp only [Option.some.injEq, Prod.mk.injEq] at H
 obtain ⟨rfl, rfl⟩ := H
 go_enter Try.func51, Try.ntmps51
 go_wp2_with (first | ((with_reducible refine gate_callee (f := 53) rfl ?_); refine goesL_ (some 7) rfl rfl Try.func53 (by kernel_rfl) rfl #[.pointer (some ⟨g, 0, none⟩), .string a1] rfl Z3 ?_; (with_reducible refine (au.calls g s0_0 s0_1 s0_2 a1 false t225 t226 w0 _ ?side1 ?side2 A3.out).mono ?_); (case side1 => exact Z0); (case side2 => exact Z2); rintro e w7 ⟨rfl, hi, hb, hk⟩; refine ⟨_, rfl, ?_⟩; have n0_ := Aside0.mk (af.trans Z1 hk (.inl rfl)); have n1_ := Aside0.mk (hb); have n2_ := Aside0.mk (hi); clear HK; clear HB; clear HI0; have HK := n0_; have HB := n1_; have HI0 := n2_; clear n0_ n1_ n2_; (try clear hb); obtain ⟨ASz8_0, cSz8_0, HGz8, hgz8, HSz8_0⟩ := HI0.out; have hcz8_0 := df HGz8; have hcz8_1 := cZ HGz8; have hcz8_2 := cO HGz8; have hfz8_1 := ae HGz8 1; have hfz8_2 := ae HGz8 2; clear HGz8 hgz8))
 first | go_end0 | ((try simp only [Exit.inBlock, Exit.then]); refine bodyPost_ret (results_none rfl _ _ _) rfl ?_)
 exact ⟨Z5, Z0, Z2, Z1⟩
/-! ### aX: function 52 -/
def aX.f (s0_0 : List (S38)) (s0_1 : Int) (s0_2 : Bool) (a1 : Int) : Option (Int × ByteArray × Int × Int × Int × Bool) := (eY.f s0_0 s0_1 s0_2).bind fun bt228 => (if bt228.2.2.2.2.1 = true then (if bt228.1 = a1 then (some (bt228.1, bt228.2.1, bt228.2.2.1, bt228.2.2.2.1, wrap64 (bt228.2.2.2.2.2.1 + 1), bt228.2.2.2.2.2.2)) else (some (0, (⟨#[]⟩ : ByteArray), 0, 0, bt228.2.2.2.2.2.1, true))) else (some (0, (⟨#[]⟩ : ByteArray), 0, 0, bt228.2.2.2.2.2.1, true)))
set_option maxHeartbeats 8000000 in
set_option maxRecDepth 100000 in
theorem aX.calls (g : Nat) (s0_0 : List (S38)) (s0_1 : Int) (s0_2 : Bool) (a1 : Int) (r1 : Int) (r2 : ByteArray) (r3 : Int) (r4 : Int) (r5 : Int) (r6 : Bool) (w0 w : World) (hI : ah w0 w g s0_0 s0_1 s0_2) (hB : Below w0.heap.size w0 w) (h : aX.f s0_0 s0_1 s0_2 a1 = some (r1, r2, r3, r4, r5, r6)) :
 Calls Try.prog 52 #[.pointer (some ⟨g, 0, none⟩), .int .i64 a1] w fun e w' => e = .returned (.agg #[.int .i64 r1, .string r2, .int .i64 r3, .int .i64 r4]) ∧ ah w0 w' g s0_0 r5 r6 ∧ Below w0.heap.size w0 w' ∧ af w w' g none := by
 have hu38 := Try.underlying38
 have HI0 := Aside0.mk hI
 have HK := Aside0.mk (af.refl w g none)
 have HL := Aside0.mk hB.size
 clear hI
 have HW0 := Aside0.mk hB.size
 have HB := Aside0.mk hB
 clear hB
 have H : ((eY.f s0_0 s0_1 s0_2).bind fun bt228 => (if bt228.2.2.2.2.1 = true then (if bt228.1 = a1 then (some (bt228.1, bt228.2.1, bt228.2.2.1, bt228.2.2.2.1, wrap64 (bt228.2.2.2.2.2.1 + 1), bt228.2.2.2.2.2.2)) else (some (0, (⟨#[]⟩ : ByteArray), 0, 0, bt228.2.2.2.2.2.1, true))) else (some (0, (⟨#[]⟩ : ByteArray), 0, 0, bt228.2.2.2.2.2.1, true)))) = some (r1, r2, r3, r4, r5, r6) := h
 clear h
 replace H := Option.bind_eq_some_iff.mp H
 obtain ⟨⟨t228, t229, t230, t231, t232, t233, t234⟩, A30, H⟩ := H
 try dsimp only at H
 have A3 := Aside0.mk A30
 clear A30
 by_cases c4 : t232 = true
 ·subst c4
  rw [if_pos rfl] at H
  have H1 := H
  clear H
  have H := H1
  clear H1
  by_cases c5 : t228 = a1
  ·rw [if_pos c5] at H
   have c5b0 : (t228 == a1) = true := beq_iff_eq.mpr c5
   have c5b1 : (t228 != a1) = false := bne_eq_false_iff_eq.mpr c5
   clear c5
   simp only [Option.some.injEq, Prod.mk.injEq] at H
   obtain ⟨rfl, rfl, rfl, rfl, rfl, rfl⟩ := H
   go_enter Try.func52, Try.ntmps52
   go_wp2_with (first | ((with_reducible refine bP (N := 4) rfl ?_); refine bT ?hg (N := 4) ?hd (cs := #[.int .i64 0, .string (⟨#[]⟩ : ByteArray), .int .i64 0, .int .i64 0]) (t := 38) ?hr ?_; (case hd => rfl); (case hg => rfl); (case hr => first | (go_simp; done) | (go_simp; rfl)); intro gb227 hg w6 hbox hb; have n0_ := Aside0.mk (ah.below Z0 hb); have n1_ := Aside0.mk (af.trans Z1 (af.of_below hb g none) (.inl rfl)); have n2_ := Aside0.mk (below_step Z2 hb); have n3_ := Aside0.mk (hbox); have n4_ := Aside0.mk ((by rw [hg]; exact (aH (w := w) (g := g) (row := none) Z1) : w.heap.size ≤ gb227)); have n5_ := Aside0.mk ((Nat.le_trans HW0.out (by rw [hg]; exact (aH (w := w) (g := g) (row := none) Z1) : w.heap.size ≤ gb227) : w0.heap.size ≤ gb227)); have n6_ := Aside0.mk ((by rw [hg]; exact Nat.ne_of_lt (ah.lt (show ah w0 _ g s0_0 s0_1 s0_2 from Z0)) : g ≠ gb227)); have n7_ := Aside0.mk ((by rw [hg]; exact Nat.ne_of_gt (ah.lt (show ah w0 _ g s0_0 s0_1 s0_2 from Z0)) : gb227 ≠ g)); clear HI0; clear HK; clear HB; have HI0 := n0_; have HK := n1_; have HB := n2_; have BK227 := n3_; have GW227 := n4_; have GE227 := n5_; have NB0_227 := n6_; have NB227_0 := n7_; clear n0_ n1_ n2_ n3_ n4_ n5_ n6_ n7_; clear hb hbox hg) | ((with_reducible refine gate_callee (f := 70) rfl ?_); refine goesL_ (some 9) rfl rfl Try.func70 (by kernel_rfl) rfl #[.pointer (some ⟨g, 0, none⟩)] rfl Z3 ?_; (with_reducible refine (eY.calls g s0_0 s0_1 s0_2 t228 t229 t230 t231 true t233 t234 w0 _ ?side1 ?side2 A3.out).mono ?_); (case side1 => exact Z18); (case side2 => exact Z34); rintro e w7 ⟨rfl, hi, hb, hk⟩; refine ⟨_, rfl, ?_⟩; have n0_ := Aside0.mk (af.blk hk (g' := gb227) (o := .cells #[.int .i64 0, .string (⟨#[]⟩ : ByteArray), .int .i64 0, .int .i64 0] 38 (0, 0)) (by exact BK227.out) NB227_0.out (by simp)); have n1_ := Aside0.mk (af.trans Z20 hk (.inl rfl)); have n2_ := Aside0.mk (hb); have n3_ := Aside0.mk (hi); clear BK227; clear HK; clear HB; clear HI0; have BK227 := n0_; have HK := n1_; have HB := n2_; have HI0 := n3_; clear n0_ n1_ n2_ n3_; (try clear hb)) | ((with_reducible refine bP (N := 5) rfl ?_); refine bT ?hg (N := 5) ?hd (cs := #[.int .i64 0, .string (⟨#[]⟩ : ByteArray), .int .i64 0, .int .i64 0]) (t := 38) ?hr ?_; (case hd => rfl); (case hg => rfl); (case hr => first | (go_simp; done) | (go_simp; rfl)); intro gb235 hg w8 hbox hb; have n0_ := Aside0.mk (ah.below Z18 hb); have n1_ := Aside0.mk (bU (g := gb227) (o := .cells #[.int .i64 0, .string (⟨#[]⟩ : ByteArray), .int .i64 0, .int .i64 0] 38 (0, 0)) (by exact BK227.out) hb); have n2_ := Aside0.mk (af.trans Z20 (af.of_below hb g none) (.inl rfl)); have n3_ := Aside0.mk (below_step Z34 hb); have n4_ := Aside0.mk (hbox); have n5_ := Aside0.mk ((by rw [hg]; exact (aH (w := w) (g := g) (row := none) Z20) : w.heap.size ≤ gb235)); have n6_ := Aside0.mk ((Nat.le_trans HW0.out (by rw [hg]; exact (aH (w := w) (g := g) (row := none) Z20) : w.heap.size ≤ gb235) : w0.heap.size ≤ gb235)); have n7_ := Aside0.mk ((by rw [hg]; exact Nat.ne_of_lt (je (g := gb227) (o := .cells #[.int .i64 0, .string (⟨#[]⟩ : ByteArray), .int .i64 0, .int .i64 0] 38 (0, 0)) (by exact BK227.out)) : gb227 ≠ gb235)); have n8_ := Aside0.mk ((by rw [hg]; exact Nat.ne_of_gt (je (g := gb227) (o := .cells #[.int .i64 0, .string (⟨#[]⟩ : ByteArray), .int .i64 0, .int .i64 0] 38 (0, 0)) (by exact BK227.out)) : gb235 ≠ gb227)); have n9_ := Aside0.mk ((by rw [hg]; exact Nat.ne_of_lt (ah.lt (show ah w0 _ g s0_0 t233 t234 from Z18)) : g ≠ gb235)); have n10_ := Aside0.mk ((by rw [hg]; exact Nat.ne_of_gt (ah.lt (show ah w0 _ g s0_0 t233 t234 from Z18)) : gb235 ≠ g)); clear HI0; clear BK227; clear HK; clear HB; have HI0 := n0_; have BK227 := n1_; have HK := n2_; have HB := n3_; have BK235 := n4_; have GW235 := n5_; have GE235 := n6_; have NB227_235 := n7_; have NB235_227 := n8_; have NB0_235 := n9_; have NB235_0 := n10_; clear n0_ n1_ n2_ n3_ n4_ n5_ n6_ n7_ n8_ n9_ n10_; clear hb hbox hg; have hnb9 := NB235_227.out; have hnc9 := NB227_235.out; have hnb10 := NB235_0.out; have hnc10 := NB0_235.out; have hcz11_0 : w8.cell? ⟨gb235, 0, none⟩ = some (.int .i64 0) := (ag BK235.out 0).trans rfl; have hcz11_1 : w8.cell? ⟨gb235, 1, none⟩ = some (.string (⟨#[]⟩ : ByteArray)) := (ag BK235.out 1).trans rfl; have hcz11_2 : w8.cell? ⟨gb235, 2, none⟩ = some (.int .i64 0) := (ag BK235.out 2).trans rfl; have hcz11_3 : w8.cell? ⟨gb235, 3, none⟩ = some (.int .i64 0) := (ag BK235.out 3).trans rfl; have hfz11_0 := ae BK235.out 0; have hfz11_1 := ae BK235.out 1; have hfz11_2 := ae BK235.out 2; have hfz11_3 := ae BK235.out 3; obtain ⟨ASz12_0, cSz12_0, HGz12, hgz12, HSz12_0⟩ := HI0.out; have hcz12_0 := df HGz12; have hcz12_1 := cZ HGz12; have hcz12_2 := cO HGz12; have hfz12_1 := ae HGz12 1; have hfz12_2 := ae HGz12 2; clear HGz12 hgz12; have hnb13 := NB227_0.out; have hnc13 := NB0_227.out; have hcz14_0 : w8.cell? ⟨gb227, 0, none⟩ = some (.int .i64 0) := (ag BK227.out 0).trans rfl; have hcz14_1 : w8.cell? ⟨gb227, 1, none⟩ = some (.string (⟨#[]⟩ : ByteArray)) := (ag BK227.out 1).trans rfl; have hcz14_2 : w8.cell? ⟨gb227, 2, none⟩ = some (.int .i64 0) := (ag BK227.out 2).trans rfl; have hcz14_3 : w8.cell? ⟨gb227, 3, none⟩ = some (.int .i64 0) := (ag BK227.out 3).trans rfl; have hfz14_0 := ae BK227.out 0; have hfz14_1 := ae BK227.out 1; have hfz14_2 := ae BK227.out 2; have hfz14_3 := ae BK227.out 3))
   refine bodyPost_ret (results_cell_row rfl _ _ gb227 38 #[.int .i64 t228, .string t229, .int .i64 t230, .int .i64 t231] (0, 0) _ rfl (by refine aZ (cs := #[.int .i64 t228, .string t229, .int .i64 t230, .int .i64 0]) ?_ 3 _ rfl; refine aZ (cs := #[.int .i64 t228, .string t229, .int .i64 0, .int .i64 0]) ?_ 2 _ rfl; refine aZ (cs := #[.int .i64 t228, .string (⟨#[]⟩ : ByteArray), .int .i64 0, .int .i64 0]) ?_ 1 _ rfl; refine aZ (cs := #[.int .i64 0, .string (⟨#[]⟩ : ByteArray), .int .i64 0, .int .i64 0]) ?_ 0 _ rfl; refine fM ?_ NB227_0.out _; refine fM ?_ NB227_235.out _; refine fM ?_ NB227_235.out _; refine fM ?_ NB227_235.out _; refine fM ?_ NB227_235.out _; exact BK227.out) Try.underlying38 rfl (by kernel_rfl)) rfl ?_
   exact ⟨Z5, Z48, Z53, Z54⟩
  rw [if_neg c5] at H
  have c5b0 : (t228 == a1) = false := beq_eq_false_iff_ne.mpr c5
  have c5b1 : (t228 != a1) = true := bne_iff_ne.mpr c5
  simp only [Option.some.injEq, Prod.mk.injEq] at H
  obtain ⟨rfl, rfl, rfl, rfl, rfl, rfl⟩ := H
  go_enter Try.func52, Try.ntmps52
  go_wp2_with (first | ((with_reducible refine bP (N := 4) rfl ?_); refine bT ?hg (N := 4) ?hd (cs := #[.int .i64 0, .string (⟨#[]⟩ : ByteArray), .int .i64 0, .int .i64 0]) (t := 38) ?hr ?_; (case hd => rfl); (case hg => rfl); (case hr => first | (go_simp; done) | (go_simp; rfl)); intro gb227 hg w15 hbox hb; have n0_ := Aside0.mk (ah.below Z0 hb); have n1_ := Aside0.mk (af.trans Z1 (af.of_below hb g none) (.inl rfl)); have n2_ := Aside0.mk (below_step Z2 hb); have n3_ := Aside0.mk (hbox); have n4_ := Aside0.mk ((by rw [hg]; exact (aH (w := w) (g := g) (row := none) Z1) : w.heap.size ≤ gb227)); have n5_ := Aside0.mk ((Nat.le_trans HW0.out (by rw [hg]; exact (aH (w := w) (g := g) (row := none) Z1) : w.heap.size ≤ gb227) : w0.heap.size ≤ gb227)); have n6_ := Aside0.mk ((by rw [hg]; exact Nat.ne_of_lt (ah.lt (show ah w0 _ g s0_0 s0_1 s0_2 from Z0)) : g ≠ gb227)); have n7_ := Aside0.mk ((by rw [hg]; exact Nat.ne_of_gt (ah.lt (show ah w0 _ g s0_0 s0_1 s0_2 from Z0)) : gb227 ≠ g)); clear HI0; clear HK; clear HB; have HI0 := n0_; have HK := n1_; have HB := n2_; have BK227 := n3_; have GW227 := n4_; have GE227 := n5_; have NB0_227 := n6_; have NB227_0 := n7_; clear n0_ n1_ n2_ n3_ n4_ n5_ n6_ n7_; clear hb hbox hg) | ((with_reducible refine gate_callee (f := 70) rfl ?_); refine goesL_ (some 9) rfl rfl Try.func70 (by kernel_rfl) rfl #[.pointer (some ⟨g, 0, none⟩)] rfl Z3 ?_; (with_reducible refine (eY.calls g s0_0 s0_1 s0_2 t228 t229 t230 t231 true t233 t234 w0 _ ?side1 ?side2 A3.out).mono ?_); (case side1 => exact Z18); (case side2 => exact Z34); rintro e w16 ⟨rfl, hi, hb, hk⟩; refine ⟨_, rfl, ?_⟩; have n0_ := Aside0.mk (af.blk hk (g' := gb227) (o := .cells #[.int .i64 0, .string (⟨#[]⟩ : ByteArray), .int .i64 0, .int .i64 0] 38 (0, 0)) (by exact BK227.out) NB227_0.out (by simp)); have n1_ := Aside0.mk (af.trans Z20 hk (.inl rfl)); have n2_ := Aside0.mk (hb); have n3_ := Aside0.mk (hi); clear BK227; clear HK; clear HB; clear HI0; have BK227 := n0_; have HK := n1_; have HB := n2_; have HI0 := n3_; clear n0_ n1_ n2_ n3_; (try clear hb)) | ((with_reducible refine bP (N := 5) rfl ?_); refine bT ?hg (N := 5) ?hd (cs := #[.int .i64 0, .string (⟨#[]⟩ : ByteArray), .int .i64 0, .int .i64 0]) (t := 38) ?hr ?_; (case hd => rfl); (case hg => rfl); (case hr => first | (go_simp; done) | (go_simp; rfl)); intro gb235 hg w17 hbox hb; have n0_ := Aside0.mk (ah.below Z18 hb); have n1_ := Aside0.mk (bU (g := gb227) (o := .cells #[.int .i64 0, .string (⟨#[]⟩ : ByteArray), .int .i64 0, .int .i64 0] 38 (0, 0)) (by exact BK227.out) hb); have n2_ := Aside0.mk (af.trans Z20 (af.of_below hb g none) (.inl rfl)); have n3_ := Aside0.mk (below_step Z34 hb); have n4_ := Aside0.mk (hbox); have n5_ := Aside0.mk ((by rw [hg]; exact (aH (w := w) (g := g) (row := none) Z20) : w.heap.size ≤ gb235)); have n6_ := Aside0.mk ((Nat.le_trans HW0.out (by rw [hg]; exact (aH (w := w) (g := g) (row := none) Z20) : w.heap.size ≤ gb235) : w0.heap.size ≤ gb235)); have n7_ := Aside0.mk ((by rw [hg]; exact Nat.ne_of_lt (je (g := gb227) (o := .cells #[.int .i64 0, .string (⟨#[]⟩ : ByteArray), .int .i64 0, .int .i64 0] 38 (0, 0)) (by exact BK227.out)) : gb227 ≠ gb235)); have n8_ := Aside0.mk ((by rw [hg]; exact Nat.ne_of_gt (je (g := gb227) (o := .cells #[.int .i64 0, .string (⟨#[]⟩ : ByteArray), .int .i64 0, .int .i64 0] 38 (0, 0)) (by exact BK227.out)) : gb235 ≠ gb227)); have n9_ := Aside0.mk ((by rw [hg]; exact Nat.ne_of_lt (ah.lt (show ah w0 _ g s0_0 t233 t234 from Z18)) : g ≠ gb235)); have n10_ := Aside0.mk ((by rw [hg]; exact Nat.ne_of_gt (ah.lt (show ah w0 _ g s0_0 t233 t234 from Z18)) : gb235 ≠ g)); clear HI0; clear BK227; clear HK; clear HB; have HI0 := n0_; have BK227 := n1_; have HK := n2_; have HB := n3_; have BK235 := n4_; have GW235 := n5_; have GE235 := n6_; have NB227_235 := n7_; have NB235_227 := n8_; have NB0_235 := n9_; have NB235_0 := n10_; clear n0_ n1_ n2_ n3_ n4_ n5_ n6_ n7_ n8_ n9_ n10_; clear hb hbox hg; have hnb18 := NB235_227.out; have hnc18 := NB227_235.out; have hnb19 := NB235_0.out; have hnc19 := NB0_235.out; have hcz20_0 : w17.cell? ⟨gb235, 0, none⟩ = some (.int .i64 0) := (ag BK235.out 0).trans rfl; have hcz20_1 : w17.cell? ⟨gb235, 1, none⟩ = some (.string (⟨#[]⟩ : ByteArray)) := (ag BK235.out 1).trans rfl; have hcz20_2 : w17.cell? ⟨gb235, 2, none⟩ = some (.int .i64 0) := (ag BK235.out 2).trans rfl; have hcz20_3 : w17.cell? ⟨gb235, 3, none⟩ = some (.int .i64 0) := (ag BK235.out 3).trans rfl; have hfz20_0 := ae BK235.out 0; have hfz20_1 := ae BK235.out 1; have hfz20_2 := ae BK235.out 2; have hfz20_3 := ae BK235.out 3; obtain ⟨ASz21_0, cSz21_0, HGz21, hgz21, HSz21_0⟩ := HI0.out; have hcz21_0 := df HGz21; have hcz21_1 := cZ HGz21; have hcz21_2 := cO HGz21; have hfz21_1 := ae HGz21 1; have hfz21_2 := ae HGz21 2; clear HGz21 hgz21; have hnb22 := NB227_0.out; have hnc22 := NB0_227.out; have hcz23_0 : w17.cell? ⟨gb227, 0, none⟩ = some (.int .i64 0) := (ag BK227.out 0).trans rfl; have hcz23_1 : w17.cell? ⟨gb227, 1, none⟩ = some (.string (⟨#[]⟩ : ByteArray)) := (ag BK227.out 1).trans rfl; have hcz23_2 : w17.cell? ⟨gb227, 2, none⟩ = some (.int .i64 0) := (ag BK227.out 2).trans rfl; have hcz23_3 : w17.cell? ⟨gb227, 3, none⟩ = some (.int .i64 0) := (ag BK227.out 3).trans rfl; have hfz23_0 := ae BK227.out 0; have hfz23_1 := ae BK227.out 1; have hfz23_2 := ae BK227.out 2; have hfz23_3 := ae BK227.out 3))
  refine bodyPost_ret (results_cell_row rfl _ _ gb227 38 #[.int .i64 0, .string (⟨#[]⟩ : ByteArray), .int .i64 0, .int .i64 0] (0, 0) _ rfl (by refine aZ (cs := #[.int .i64 0, .string (⟨#[]⟩ : ByteArray), .int .i64 0, .int .i64 0]) ?_ 3 _ rfl; refine aZ (cs := #[.int .i64 0, .string (⟨#[]⟩ : ByteArray), .int .i64 0, .int .i64 0]) ?_ 2 _ rfl; refine aZ (cs := #[.int .i64 0, .string (⟨#[]⟩ : ByteArray), .int .i64 0, .int .i64 0]) ?_ 1 _ rfl; refine aZ (cs := #[.int .i64 0, .string (⟨#[]⟩ : ByteArray), .int .i64 0, .int .i64 0]) ?_ 0 _ rfl; refine fM ?_ NB227_0.out _; refine fM ?_ NB227_235.out _; refine fM ?_ NB227_235.out _; refine fM ?_ NB227_235.out _; refine fM ?_ NB227_235.out _; exact BK227.out) Try.underlying38 rfl (by kernel_rfl)) rfl ?_
  exact ⟨Z5, Z48, Z53, Z54⟩
 replace c4 := Bool.eq_false_iff.mpr c4
 subst c4
 have H1 : (some (0, (⟨#[]⟩ : ByteArray), 0, 0, t233, true)) = some (r1, r2, r3, r4, r5, r6) := by rw [if_neg (show ¬ (false = true) by decide)] at H; exact H
 clear H
 have H := H1
 clear H1
 simp only [Option.some.injEq, Prod.mk.injEq] at H
 obtain ⟨rfl, rfl, rfl, rfl, rfl, rfl⟩ := H
 go_enter Try.func52, Try.ntmps52
 go_wp2_with (first | ((with_reducible refine bP (N := 4) rfl ?_); refine bT ?hg (N := 4) ?hd (cs := #[.int .i64 0, .string (⟨#[]⟩ : ByteArray), .int .i64 0, .int .i64 0]) (t := 38) ?hr ?_; (case hd => rfl); (case hg => rfl); (case hr => first | (go_simp; done) | (go_simp; rfl)); intro gb227 hg w24 hbox hb; have n0_ := Aside0.mk (ah.below Z0 hb); have n1_ := Aside0.mk (af.trans Z1 (af.of_below hb g none) (.inl rfl)); have n2_ := Aside0.mk (below_step Z2 hb); have n3_ := Aside0.mk (hbox); have n4_ := Aside0.mk ((by rw [hg]; exact (aH (w := w) (g := g) (row := none) Z1) : w.heap.size ≤ gb227)); have n5_ := Aside0.mk ((Nat.le_trans HW0.out (by rw [hg]; exact (aH (w := w) (g := g) (row := none) Z1) : w.heap.size ≤ gb227) : w0.heap.size ≤ gb227)); have n6_ := Aside0.mk ((by rw [hg]; exact Nat.ne_of_lt (ah.lt (show ah w0 _ g s0_0 s0_1 s0_2 from Z0)) : g ≠ gb227)); have n7_ := Aside0.mk ((by rw [hg]; exact Nat.ne_of_gt (ah.lt (show ah w0 _ g s0_0 s0_1 s0_2 from Z0)) : gb227 ≠ g)); clear HI0; clear HK; clear HB; have HI0 := n0_; have HK := n1_; have HB := n2_; have BK227 := n3_; have GW227 := n4_; have GE227 := n5_; have NB0_227 := n6_; have NB227_0 := n7_; clear n0_ n1_ n2_ n3_ n4_ n5_ n6_ n7_; clear hb hbox hg) | ((with_reducible refine gate_callee (f := 70) rfl ?_); refine goesL_ (some 9) rfl rfl Try.func70 (by kernel_rfl) rfl #[.pointer (some ⟨g, 0, none⟩)] rfl Z3 ?_; (with_reducible refine (eY.calls g s0_0 s0_1 s0_2 t228 t229 t230 t231 false t233 t234 w0 _ ?side1 ?side2 A3.out).mono ?_); (case side1 => exact Z18); (case side2 => exact Z34); rintro e w25 ⟨rfl, hi, hb, hk⟩; refine ⟨_, rfl, ?_⟩; have n0_ := Aside0.mk (af.blk hk (g' := gb227) (o := .cells #[.int .i64 0, .string (⟨#[]⟩ : ByteArray), .int .i64 0, .int .i64 0] 38 (0, 0)) (by exact BK227.out) NB227_0.out (by simp)); have n1_ := Aside0.mk (af.trans Z20 hk (.inl rfl)); have n2_ := Aside0.mk (hb); have n3_ := Aside0.mk (hi); clear BK227; clear HK; clear HB; clear HI0; have BK227 := n0_; have HK := n1_; have HB := n2_; have HI0 := n3_; clear n0_ n1_ n2_ n3_; (try clear hb)) | ((with_reducible refine bP (N := 5) rfl ?_); refine bT ?hg (N := 5) ?hd (cs := #[.int .i64 0, .string (⟨#[]⟩ : ByteArray), .int .i64 0, .int .i64 0]) (t := 38) ?hr ?_; (case hd => rfl); (case hg => rfl); (case hr => first | (go_simp; done) | (go_simp; rfl)); intro gb235 hg w26 hbox hb; have n0_ := Aside0.mk (ah.below Z18 hb); have n1_ := Aside0.mk (bU (g := gb227) (o := .cells #[.int .i64 0, .string (⟨#[]⟩ : ByteArray), .int .i64 0, .int .i64 0] 38 (0, 0)) (by exact BK227.out) hb); have n2_ := Aside0.mk (af.trans Z20 (af.of_below hb g none) (.inl rfl)); have n3_ := Aside0.mk (below_step Z34 hb); have n4_ := Aside0.mk (hbox); have n5_ := Aside0.mk ((by rw [hg]; exact (aH (w := w) (g := g) (row := none) Z20) : w.heap.size ≤ gb235)); have n6_ := Aside0.mk ((Nat.le_trans HW0.out (by rw [hg]; exact (aH (w := w) (g := g) (row := none) Z20) : w.heap.size ≤ gb235) : w0.heap.size ≤ gb235)); have n7_ := Aside0.mk ((by rw [hg]; exact Nat.ne_of_lt (je (g := gb227) (o := .cells #[.int .i64 0, .string (⟨#[]⟩ : ByteArray), .int .i64 0, .int .i64 0] 38 (0, 0)) (by exact BK227.out)) : gb227 ≠ gb235)); have n8_ := Aside0.mk ((by rw [hg]; exact Nat.ne_of_gt (je (g := gb227) (o := .cells #[.int .i64 0, .string (⟨#[]⟩ : ByteArray), .int .i64 0, .int .i64 0] 38 (0, 0)) (by exact BK227.out)) : gb235 ≠ gb227)); have n9_ := Aside0.mk ((by rw [hg]; exact Nat.ne_of_lt (ah.lt (show ah w0 _ g s0_0 t233 t234 from Z18)) : g ≠ gb235)); have n10_ := Aside0.mk ((by rw [hg]; exact Nat.ne_of_gt (ah.lt (show ah w0 _ g s0_0 t233 t234 from Z18)) : gb235 ≠ g)); clear HI0; clear BK227; clear HK; clear HB; have HI0 := n0_; have BK227 := n1_; have HK := n2_; have HB := n3_; have BK235 := n4_; have GW235 := n5_; have GE235 := n6_; have NB227_235 := n7_; have NB235_227 := n8_; have NB0_235 := n9_; have NB235_0 := n10_; clear n0_ n1_ n2_ n3_ n4_ n5_ n6_ n7_ n8_ n9_ n10_; clear hb hbox hg; have hnb27 := NB235_227.out; have hnc27 := NB227_235.out; have hnb28 := NB235_0.out; have hnc28 := NB0_235.out; have hcz29_0 : w26.cell? ⟨gb235, 0, none⟩ = some (.int .i64 0) := (ag BK235.out 0).trans rfl; have hcz29_1 : w26.cell? ⟨gb235, 1, none⟩ = some (.string (⟨#[]⟩ : ByteArray)) := (ag BK235.out 1).trans rfl; have hcz29_2 : w26.cell? ⟨gb235, 2, none⟩ = some (.int .i64 0) := (ag BK235.out 2).trans rfl; have hcz29_3 : w26.cell? ⟨gb235, 3, none⟩ = some (.int .i64 0) := (ag BK235.out 3).trans rfl; have hfz29_0 := ae BK235.out 0; have hfz29_1 := ae BK235.out 1; have hfz29_2 := ae BK235.out 2; have hfz29_3 := ae BK235.out 3; obtain ⟨ASz30_0, cSz30_0, HGz30, hgz30, HSz30_0⟩ := HI0.out; have hcz30_0 := df HGz30; have hcz30_1 := cZ HGz30; have hcz30_2 := cO HGz30; have hfz30_1 := ae HGz30 1; have hfz30_2 := ae HGz30 2; clear HGz30 hgz30; have hnb31 := NB227_0.out; have hnc31 := NB0_227.out; have hcz32_0 : w26.cell? ⟨gb227, 0, none⟩ = some (.int .i64 0) := (ag BK227.out 0).trans rfl; have hcz32_1 : w26.cell? ⟨gb227, 1, none⟩ = some (.string (⟨#[]⟩ : ByteArray)) := (ag BK227.out 1).trans rfl; have hcz32_2 : w26.cell? ⟨gb227, 2, none⟩ = some (.int .i64 0) := (ag BK227.out 2).trans rfl; have hcz32_3 : w26.cell? ⟨gb227, 3, none⟩ = some (.int .i64 0) := (ag BK227.out 3).trans rfl; have hfz32_0 := ae BK227.out 0; have hfz32_1 := ae BK227.out 1; have hfz32_2 := ae BK227.out 2; have hfz32_3 := ae BK227.out 3))
 refine bodyPost_ret (results_cell_row rfl _ _ gb227 38 #[.int .i64 0, .string (⟨#[]⟩ : ByteArray), .int .i64 0, .int .i64 0] (0, 0) _ rfl (by refine aZ (cs := #[.int .i64 0, .string (⟨#[]⟩ : ByteArray), .int .i64 0, .int .i64 0]) ?_ 3 _ rfl; refine aZ (cs := #[.int .i64 0, .string (⟨#[]⟩ : ByteArray), .int .i64 0, .int .i64 0]) ?_ 2 _ rfl; refine aZ (cs := #[.int .i64 0, .string (⟨#[]⟩ : ByteArray), .int .i64 0, .int .i64 0]) ?_ 1 _ rfl; refine aZ (cs := #[.int .i64 0, .string (⟨#[]⟩ : ByteArray), .int .i64 0, .int .i64 0]) ?_ 0 _ rfl; refine fM ?_ NB227_0.out _; refine fM ?_ NB227_235.out _; refine fM ?_ NB227_235.out _; refine fM ?_ NB227_235.out _; refine fM ?_ NB227_235.out _; exact BK227.out) Try.underlying38 rfl (by kernel_rfl)) rfl ?_
 exact ⟨Z5, Z48, Z53, Z54⟩
/-! ### aj: function 56 -/
def aj.l0 : Nat → List (S41) → List (List (S41)) → Int → Int → Option ((List (S41)))
 | 0, _, _, _, _ => none
 | k + 1, x5, x13, x14, x15 => if x15 < x14 then (if 0 ≤ x15 then (if x15 < (x13.length : Int) then (if x5.length + (lD x13 x15).length < 2513169434916 then (aj.l0 k (x5 ++ (lD x13 x15)) x13 x14 (wrap64 (x15 + 1))) else (none)) else (none)) else (none)) else (some x5)
def aj.f (k : Nat) (a0_0 : Int) (a0_1 : Int) (a0_2 : ByteArray) (a0_3 : Int) (a0_4 : ByteArray) (l1 : List (List (S41))) : Option ((List (S41))) := aj.l0 k (([(⟨a0_0, (l1.length : Int), a0_2, a0_3, a0_4⟩ : S41)] : List (S41))) l1 (l1.length : Int) 0
theorem aj.mono_l : ∀ k, (∀ y0 y1 y2 y3, LeO (aj.l0 k y0 y1 y2 y3) (aj.l0 (k + 1) y0 y1 y2 y3))
 | 0 => fun _ _ _ _ r h => by simp [aj.l0] at h
 | k + 1 => by
  have ih0 := aj.mono_l k
  intro y0 y1 y2 y3
  unfold aj.l0
  repeat' first
  | (with_reducible exact ih0 _ _ _ _)
  | (with_reducible exact LeO.refl _)
  | (with_reducible exact LeO.none _)
  | (with_reducible refine LeO.ite ?_ ?_)
  | (with_reducible refine LeO.bind ?_ (fun _ => ?_))
  | exact ih0 _ _ _ _
  | exact LeO.none _
  | refine LeO.ite ?_ ?_
  | refine LeO.bind ?_ (fun _ => ?_)
theorem aj.mono : ∀ a0 a1 a2 a3 a4 a5 k, LeO (aj.f k a0 a1 a2 a3 a4 a5) (aj.f (k + 1) a0 a1 a2 a3 a4 a5) := by
 intro a0 a1 a2 a3 a4 a5 k
 have ih0 := aj.mono_l k
 unfold aj.f
 repeat' first
  | (with_reducible exact ih0 _ _ _ _)
  | (with_reducible exact LeO.refl _)
  | (with_reducible exact LeO.none _)
  | (with_reducible refine LeO.ite ?_ ?_)
  | (with_reducible refine LeO.bind ?_ (fun _ => ?_))
  | exact ih0 _ _ _ _
  | exact LeO.none _
  | refine LeO.ite ?_ ?_
  | refine LeO.bind ?_ (fun _ => ?_)
set_option maxHeartbeats 8000000 in
set_option maxRecDepth 100000 in
theorem aj.calls (k : Nat) (a0_0 : Int) (a0_1 : Int) (a0_2 : ByteArray) (a0_3 : Int) (a0_4 : ByteArray) (A1 : Option Addr) (c1 : Nat) (l1 : List (List (S41))) (r : List (S41)) (w : World) (hr1 : Kd.C (Kd.slice 41 k41) w A1 l1.length l1) (hc1 : l1.length ≤ c1) (h : aj.f k a0_0 a0_1 a0_2 a0_3 a0_4 l1 = some r) :
 Calls Try.prog 56 #[.agg #[.int .i64 a0_0, .int .i64 a0_1, .string a0_2, .int .i64 a0_3, .string a0_4], .slice A1 l1.length c1] w fun e w' => ∃ v0_ : Value, e = .returned (v0_) ∧ Kd.R k41 41 w' w.heap.size (fun _ => True) v0_ r ∧ Below w.heap.size w w' := by
 have hu41 := Try.underlying41
 have HR1 := Aside0.mk hr1
 have HC1 := Aside0.mk hc1
 clear hr1 hc1
 have HB := Aside0.mk (Below.refl w.heap.size w)
 have H : (aj.l0 k (([(⟨a0_0, (l1.length : Int), a0_2, a0_3, a0_4⟩ : S41)] : List (S41))) l1 (l1.length : Int) 0) = some r := h
 clear h
 obtain ⟨y237, hy237⟩ : ∃ y_ : List (S41), y_ = (([(⟨a0_0, (l1.length : Int), a0_2, a0_3, a0_4⟩ : S41)] : List (S41))) := ⟨_, rfl⟩
 replace H : (aj.l0 k y237 l1 (l1.length : Int) 0) = some r := by first | (rw [hy237]; with_reducible exact H) | (have H2_ := (Option.bind_some _ _).symm.trans H; rw [hy237]; with_reducible exact H2_) | (have H2_ := (Option.bind_some _ _).symm.trans H; with_reducible exact H2_) | with_reducible exact H | (rw [hy237]; exact H) | exact H
 have Ny237 := Aside0.mk hy237
 clear hy237
 have H' := Aside0.mk H
 clear H
 go_enter Try.func56, Try.ntmps56
 go_wp2_with (first | ((with_reducible refine bP (N := 2) rfl ?_); refine bT ?hg (N := 2) ?hd (cs := #[.int .i64 a0_0, .int .i64 a0_1, .string a0_2, .int .i64 a0_3, .string a0_4]) (t := 41) ?hr ?_; (case hd => rfl); (case hg => rfl); (case hr => first | (go_simp; done) | (go_simp; rfl)); intro gb236 hg w3 hbox hb; have n0_ := Aside0.mk (below_step Z4 hb); have n1_ := Aside0.mk (hbox); have n2_ := Aside0.mk ((by rw [hg]; exact (below_size Z4) : w.heap.size ≤ gb236)); have n3_ := Aside0.mk ((by rw [hg]; exact (below_size Z4) : w.heap.size ≤ gb236)); clear HB; have HB := n0_; have BK236 := n1_; have GW236 := n2_; have GE236 := n3_; clear n0_ n1_ n2_ n3_; clear hb hbox hg; have hcz4_0 : w3.cell? ⟨gb236, 0, none⟩ = some (.int .i64 a0_0) := (ag BK236.out 0).trans rfl; have hcz4_1 : w3.cell? ⟨gb236, 1, none⟩ = some (.int .i64 a0_1) := (ag BK236.out 1).trans rfl; have hcz4_2 : w3.cell? ⟨gb236, 2, none⟩ = some (.string a0_2) := (ag BK236.out 2).trans rfl; have hcz4_3 : w3.cell? ⟨gb236, 3, none⟩ = some (.int .i64 a0_3) := (ag BK236.out 3).trans rfl; have hcz4_4 : w3.cell? ⟨gb236, 4, none⟩ = some (.string a0_4) := (ag BK236.out 4).trans rfl; have hfz4_0 := ae BK236.out 0; have hfz4_1 := ae BK236.out 1; have hfz4_2 := ae BK236.out 2; have hfz4_3 := ae BK236.out 3; have hfz4_4 := ae BK236.out 4) | ((with_reducible refine bP (N := 12) rfl ?_); refine Kd.BP k41 _ 41 ?hg (N := 12) ?hd (xs := ([(⟨a0_0, (l1.length : Int), a0_2, a0_3, a0_4⟩ : S41)] : List (S41))) (inner := [.int .i64 a0_0, .int .i64 (l1.length : Int), .string a0_2, .int .i64 a0_3, .string a0_4]) (ok := fun _ => True) (okp := fun _ => True) ?hr ?hp (fun _ hk => hk) trivial (Below.refl _ _) (Nat.le_refl _) (by simp) ?_; (case hd => rfl); (case hg => rfl); (case hr => first | (go_simp; done) | (go_simp; rfl)); (case hp => exact (dw.c5 (show Kd.M k41 _ _ _ (⟨a0_0, (l1.length : Int), a0_2, a0_3, a0_4⟩ : S41) [.int .i64 a0_0, .int .i64 (l1.length : Int), .string a0_2, .int .i64 a0_3, .string a0_4] from (AV _ _ _ (⟨a0_0, (l1.length : Int), a0_2, a0_3, a0_4⟩ : S41) )) (dw.none _ _))); intro v238 w5 ho6 hb hg_ hnew_; clear hg_ hnew_; (first | rw [← Ny237.out] at ho6 | (simp only [Int.reduceToNat] at ho6; rw [← Ny237.out] at ho6)); have n0_ := Aside0.mk (Kd.R_lower (Kd.lw ho6 (g := gb236) (o := .cells #[.int .i64 a0_0, .int .i64 (l1.length : Int), .string a0_2, .int .i64 a0_3, .string a0_4] 41 (0, 0)) (by refine aZ (cs := #[.int .i64 a0_0, .int .i64 a0_1, .string a0_2, .int .i64 a0_3, .string a0_4]) ?_ 1 _ rfl; exact BK236.out)) (below_size Z36)); have n1_ := Aside0.mk (bU (g := gb236) (o := .cells #[.int .i64 a0_0, .int .i64 (l1.length : Int), .string a0_2, .int .i64 a0_3, .string a0_4] 41 (0, 0)) (by refine aZ (cs := #[.int .i64 a0_0, .int .i64 a0_1, .string a0_2, .int .i64 a0_3, .string a0_4]) ?_ 1 _ rfl; exact BK236.out) hb); have n2_ := Aside0.mk (below_step Z36 hb); clear BK236; clear HB; have HO239 := n0_; have BK236 := n1_; have HB := n2_; clear n0_ n1_ n2_; clear hb ho6))
 (try simp only [Act.put, List.setIfInBounds_toArray, List.set_cons_zero, List.set_cons_succ])
 go_loopg [5, 15] k (fun kq v5 v15 w' => ∃ (x5_1 : List (S41)) (x15_1 : Int), v15 = .int .i64 x15_1 ∧ Aside0 (aj.l0 kq x5_1 l1 (l1.length : Int) x15_1 = some r) ∧ Aside0 (kq ≤ k) ∧ Aside0 (Kd.R k41 41 w' w.heap.size (fun k_ => k_ ≠ gb236) v5 x5_1) ∧ Aside0 (w'.heap[gb236]? = some (.cells #[.int .i64 a0_0, .int .i64 (l1.length : Int), .string a0_2, .int .i64 a0_3, .string a0_4] 41 (0, 0))) ∧ Aside0 (Below w.heap.size w w'))
 case atStart => exact ⟨(y237), (0), Z7, H', ⟨Nat.le_refl _⟩, ⟨by (with_reducible repeat (first | apply Kd.R_alloc | apply Kd.R_drewN | apply Kd.R_drew)); exact Kd.bi HO239.out (fun _ hk => hk.2)⟩, ⟨by exact BK236.out⟩, ⟨Z36⟩⟩
 case round =>
  clear H'
  try clear c1
  try clear p2
  try clear c5
  try clear hcz4_0
  try clear hcz4_1
  try clear hcz4_2
  try clear hcz4_3
  try clear hcz4_4
  try clear hfz4_0
  try clear hfz4_1
  try clear hfz4_2
  try clear hfz4_3
  try clear hfz4_4
  obtain ⟨x5_1, x15_1, rfl, HA, HK1, HO_5, BK236, HB⟩ := hrel
  cases gk with
  | zero => exact absurd HA.out (by simp [aj.l0])
  | succ k1 =>
   have H := HA.out
   clear HA
   simp only [aj.l0] at H
   by_cases c7 : x15_1 < (l1.length : Int)
   ·rw [if_pos c7] at H
    have c7b0 : decide (x15_1 < (l1.length : Int)) = true := decide_eq_true c7
    clear c7
    by_cases c8 : 0 ≤ x15_1
    ·rw [if_pos c8] at H
     have c8b0 : decide (0 ≤ x15_1) = true := decide_eq_true c8
     clear c8
     by_cases c9 : x15_1 < (l1.length : Int)
     ·rw [if_pos c9] at H
      have c9b0 : decide (x15_1 < (l1.length : Int)) = true := decide_eq_true c9
      clear c9
      by_cases c10 : x5_1.length + (lD l1 x15_1).length < 2513169434916
      ·rw [if_pos c10] at H
       have LMc10 := Aside0.mk c10
       clear c10
       obtain ⟨y241, hy241⟩ : ∃ y_ : List (S41), y_ = (x5_1 ++ (lD l1 x15_1)) := ⟨_, rfl⟩
       replace H : (aj.l0 k1 y241 l1 (l1.length : Int) (wrap64 (x15_1 + 1))) = some r := by first | (rw [hy241]; with_reducible exact H) | (have H2_ := (Option.bind_some _ _).symm.trans H; rw [hy241]; with_reducible exact H2_) | (have H2_ := (Option.bind_some _ _).symm.trans H; with_reducible exact H2_) | with_reducible exact H | (rw [hy241]; exact H) | exact H
       have Ny241 := Aside0.mk hy241
       clear hy241
       have H' := Aside0.mk H
       clear H
       have p240 : 0 ≤ (x15_1 : Int) := of_decide_eq_true Z8
       have q240 : x15_1 < (l1.length : Int) := of_decide_eq_true Z8
       obtain ⟨ad240, A240_0, c240_0, e240, hx240_0, hl240_0, hi240_0⟩ := DT HR1.out x15_1 p240 q240
       cases e240
       replace hx240_0 := (HB.out.cell (World.block_lt_of_cell? w _ hx240_0)).trans hx240_0
       have HR240_0 := Aside0.mk hi240_0
       have HC240_0 := Aside0.mk hl240_0
       clear hi240_0 hl240_0
       replace p240 := eq_true p240
       replace q240 := eq_true q240
       go_wp2_with (first | ((with_reducible refine dD (b := .append) (xs := #[.tmp 19, .tmp 20]) rfl ?_); at_builtin; refine Kd.kU k41 (w0 := w) w.heap.size rfl (.tmp 19) (.tmp 20) 23 41 (.agg #[(.int .i64 0), (.int .i64 0), (.string ⟨#[]⟩), (.int .i64 0), (.string ⟨#[]⟩)]) 56 rfl Try.underlying23 vW rfl (by decide) (by omega) u5 x5_1 (lD l1 x15_1) _ _ _ (fun k_ => k_ ≠ gb236) (fun _ => False) rfl rfl ?aO ?aR (fun _ _ h => h) (fun _ h => h.elim) ?aF ?aB ?aS ?aL ?_; (case aR => repeat (first | exact (Kd.C_below HR240_0.out HB.out) | (with_reducible refine Kd.C_alloc ?_ _) | (with_reducible refine Kd.C_drewN ?_ _) | (with_reducible refine Kd.C_drew ?_))); (case aB => exact Z36); (case aF => exact (fun k_ hk => Kd.ng (g := gb236) (o := .cells #[.int .i64 a0_0, .int .i64 (l1.length : Int), .string a0_2, .int .i64 a0_3, .string a0_4] 41 (0, 0)) (by exact BK236.out) k_ hk)); (case aO => exact Z21); (case aS => exact (below_size Z36)); (case aL => have := LMc10.out; omega); intro v242 w11 ho hb hg hat; rw [← Ny241.out] at ho; have n0_ := Aside0.mk (iJ (g := gb236) (o := .cells #[.int .i64 a0_0, .int .i64 (l1.length : Int), .string a0_2, .int .i64 a0_3, .string a0_4] 41 (0, 0)) (by exact BK236.out) hg (Kd.zO HO_5.out (fun _ hk => hk))); have n1_ := Aside0.mk (hb); have n2_ := Aside0.mk (ho); clear BK236; clear HB; clear HO_5; have BK236 := n0_; have HB := n1_; have HO243 := n2_; clear n0_ n1_ n2_; clear ho hb hg hat))
       go_roundg k1
       case measure => have := HK1.out; omega
       case rel => exact ⟨(y241), (wrap64 (x15_1 + 1)), Z7, H', ⟨by have := HK1.out; omega⟩, ⟨by (with_reducible repeat (first | apply Kd.R_alloc | apply Kd.R_drewN | apply Kd.R_drew)); exact HO243.out⟩, ⟨by exact BK236.out⟩, ⟨Z36⟩⟩
      rw [if_neg c10] at H
      exact absurd H (by simp)
     rw [if_neg c9] at H
     exact absurd H (by simp)
    rw [if_neg c8] at H
    exact absurd H (by simp)
   rw [if_neg c7] at H
   have c7b0 : decide (x15_1 < (l1.length : Int)) = false := decide_eq_false c7
   clear c7
   obtain rfl := Option.some.inj H
   go_wp2
   go_ret
   exact ⟨_, Z5, by (with_reducible repeat (first | apply Kd.R_alloc | apply Kd.R_drewN | apply Kd.R_drew)); exact Kd.bi HO_5.out (fun _ hk => trivial), Z36⟩
end Go.Proofs.Ytendgafpkeadhaa.Q
end
