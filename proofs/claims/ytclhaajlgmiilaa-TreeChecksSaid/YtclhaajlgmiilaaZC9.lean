/- Walks over functions of the program, words for them, and what the functions come to; of each text only what this claim uses; no condition. -/
import Derived.Test.YtclhaajlgmiilaaZC3
import Derived.Test.YtclhaajlgmiilaaZC7
import Derived.Test.YtclhaajlgmiilaaZC8

section
namespace Go.Proofs.Ytclhaajlgmiilaa.Q
open Go.RowKit Go.Proofs.YtclhaajlgmiilaaW.PrintWords Go.Proofs.YtclhaajlgmiilaaW.PrintLast Go.Proofs.YtclhaajlgmiilaaW.PrintMore
attribute [local go_sem] max2_int min2_int max_two min_two max_three min_three max_four min_four
set_option linter.unusedVariables false
set_option linter.unusedSimpArgs false

/-! ### chrysalislaw09_known: function 10 -/
def chrysalislaw09_known.f (k : Nat)  : Option (Bool) := (some (([(⟨1, 1, (⟨#[109]⟩ : ByteArray), 1, (⟨#[]⟩ : ByteArray)⟩ : S36), (⟨3, 1, (⟨#[102]⟩ : ByteArray), 0, (⟨#[]⟩ : ByteArray)⟩ : S36), (⟨5, 0, (⟨#[]⟩ : ByteArray), 0, (⟨#[]⟩ : ByteArray)⟩ : S36)] : List (S36)) : List (S36))).bind fun y192 => ((tree_Check.f k y192).bind fun bt195 => ((some (([(⟨1, 1, (⟨#[109]⟩ : ByteArray), 1, (⟨#[]⟩ : ByteArray)⟩ : S36), (⟨5, 0, (⟨#[]⟩ : ByteArray), 0, (⟨#[]⟩ : ByteArray)⟩ : S36)] : List (S36)) : List (S36))).bind fun y197 => ((tree_Check.f k y197).bind fun bt200 => ((tree_Kids.f k y192 0).bind fun t202 => (if bt195.1 = 0 then (if bt195.2 = 0 then (if bt200.1 = 4 then (if bt200.2 = 0 then ((tree_End.f k y192 1).bind fun t205 => (if t205 = 3 then ((tree_End.f k y192 3).bind fun t206 => (if t206 = (-1) then (if (t202.length : Int) = 1 then (if 0 < (t202.length : Int) then (if (rd t202 0) = 1 then ((tree_Depth.f k y192).bind fun t208 => (if t208 = 3 then ((tree_Expr.f 18).bind fun t209 => (if t209 = true then ((tree_Stmt.f 17).bind fun t210 => (if t210 = true then ((tree_Expr.f 17).bind fun t211 => (if t211 = true then (some false) else ((tree_Sub.f k y192 1).bind fun t212 => (if (t212.length : Int) = 2 then ((tree_Same.f k y192 y192).bind fun t215 => (if t215 = true then ((tree_Same.f k y192 y197).bind fun t216 => (some (!t216))) else (some false))) else (some false))))) else (some false))) else (some false))) else (some false))) else (some false)) else (none)) else (some false)) else (some false))) else (some false))) else (some false)) else (some false)) else (some false)) else (some false))))))
theorem chrysalislaw09_known.mono : ∀ k, LeO (chrysalislaw09_known.f k ) (chrysalislaw09_known.f (k + 1) ) := by
  intro  k
  unfold chrysalislaw09_known.f
  repeat' first
      | (with_reducible exact tree_Check.mono _ _)
      | (with_reducible exact tree_Depth.mono _ _)
      | (with_reducible exact tree_End.mono _ _ _)
      | (with_reducible exact tree_Kids.mono _ _ _)
      | (with_reducible exact tree_Same.mono _ _ _)
      | (with_reducible exact tree_Sub.mono _ _ _)
      | (with_reducible exact LeO.refl _)
      | (with_reducible exact LeO.none _)
      | (with_reducible refine LeO.ite ?_ ?_)
      | (with_reducible refine LeO.bind ?_ (fun _ => ?_))
      | exact tree_Check.mono _ _
      | exact tree_Depth.mono _ _
      | exact tree_End.mono _ _ _
      | exact tree_Kids.mono _ _ _
      | exact tree_Same.mono _ _ _
      | exact tree_Sub.mono _ _ _
      | exact LeO.none _
      | refine LeO.ite ?_ ?_
      | refine LeO.bind ?_ (fun _ => ?_)
theorem chrysalislaw09_known.more : ∀ (d k : Nat) (r : Bool), chrysalislaw09_known.f k = some r → chrysalislaw09_known.f (k + d) = some r
  | 0, _, _, h => h
  | d + 1, k, r, h => chrysalislaw09_known.mono (k + d) r (chrysalislaw09_known.more d k r h)
set_option maxRecDepth 100000 in
theorem chrysalislaw09_known.at : chrysalislaw09_known.f 120 = some true := by kernel_rfl
theorem chrysalislaw09_known.isTrue (k : Nat) (r : Bool) (h : chrysalislaw09_known.f k = some r) : r = true := by
  have h1 := chrysalislaw09_known.more 120 k r h
  have h2 := chrysalislaw09_known.more k 120 true chrysalislaw09_known.at
  rw [Nat.add_comm 120 k, h1] at h2
  exact Option.some.inj h2
set_option maxHeartbeats 8000000 in
set_option maxRecDepth 100000 in
theorem chrysalislaw09_known.calls (k : Nat)  (r : Bool) (w : World) (h : chrysalislaw09_known.f k  = some r) :
    Calls Try.prog 10 #[] w fun e w' => e = .returned (.bool r) ∧ Below w.heap.size w w' := by
  have hu36 := Try.underlying36
  have HB := Aside0.mk (Below.refl w.heap.size w)
  have HR := Aside0.mk (chrysalislaw09_known.isTrue k r h)
  have H : ((some (([(⟨1, 1, (⟨#[109]⟩ : ByteArray), 1, (⟨#[]⟩ : ByteArray)⟩ : S36), (⟨3, 1, (⟨#[102]⟩ : ByteArray), 0, (⟨#[]⟩ : ByteArray)⟩ : S36), (⟨5, 0, (⟨#[]⟩ : ByteArray), 0, (⟨#[]⟩ : ByteArray)⟩ : S36)] : List (S36)) : List (S36))).bind fun y192 => ((tree_Check.f k y192).bind fun bt195 => ((some (([(⟨1, 1, (⟨#[109]⟩ : ByteArray), 1, (⟨#[]⟩ : ByteArray)⟩ : S36), (⟨5, 0, (⟨#[]⟩ : ByteArray), 0, (⟨#[]⟩ : ByteArray)⟩ : S36)] : List (S36)) : List (S36))).bind fun y197 => ((tree_Check.f k y197).bind fun bt200 => ((tree_Kids.f k y192 0).bind fun t202 => (if bt195.1 = 0 then (if bt195.2 = 0 then (if bt200.1 = 4 then (if bt200.2 = 0 then ((tree_End.f k y192 1).bind fun t205 => (if t205 = 3 then ((tree_End.f k y192 3).bind fun t206 => (if t206 = (-1) then (if (t202.length : Int) = 1 then (if 0 < (t202.length : Int) then (if (rd t202 0) = 1 then ((tree_Depth.f k y192).bind fun t208 => (if t208 = 3 then ((tree_Expr.f 18).bind fun t209 => (if t209 = true then ((tree_Stmt.f 17).bind fun t210 => (if t210 = true then ((tree_Expr.f 17).bind fun t211 => (if t211 = true then (some false) else ((tree_Sub.f k y192 1).bind fun t212 => (if (t212.length : Int) = 2 then ((tree_Same.f k y192 y192).bind fun t215 => (if t215 = true then ((tree_Same.f k y192 y197).bind fun t216 => (some (!t216))) else (some false))) else (some false))))) else (some false))) else (some false))) else (some false))) else (some false)) else (none)) else (some false)) else (some false))) else (some false))) else (some false)) else (some false)) else (some false)) else (some false))))))) = some r := h
  clear h
  obtain ⟨y192, hy192⟩ : ∃ y_ : List (S36), y_ = (([(⟨1, 1, (⟨#[109]⟩ : ByteArray), 1, (⟨#[]⟩ : ByteArray)⟩ : S36), (⟨3, 1, (⟨#[102]⟩ : ByteArray), 0, (⟨#[]⟩ : ByteArray)⟩ : S36), (⟨5, 0, (⟨#[]⟩ : ByteArray), 0, (⟨#[]⟩ : ByteArray)⟩ : S36)] : List (S36))) := ⟨_, rfl⟩
  replace H : ((tree_Check.f k y192).bind fun bt195 => ((some (([(⟨1, 1, (⟨#[109]⟩ : ByteArray), 1, (⟨#[]⟩ : ByteArray)⟩ : S36), (⟨5, 0, (⟨#[]⟩ : ByteArray), 0, (⟨#[]⟩ : ByteArray)⟩ : S36)] : List (S36)) : List (S36))).bind fun y197 => ((tree_Check.f k y197).bind fun bt200 => ((tree_Kids.f k y192 0).bind fun t202 => (if bt195.1 = 0 then (if bt195.2 = 0 then (if bt200.1 = 4 then (if bt200.2 = 0 then ((tree_End.f k y192 1).bind fun t205 => (if t205 = 3 then ((tree_End.f k y192 3).bind fun t206 => (if t206 = (-1) then (if (t202.length : Int) = 1 then (if 0 < (t202.length : Int) then (if (rd t202 0) = 1 then ((tree_Depth.f k y192).bind fun t208 => (if t208 = 3 then ((tree_Expr.f 18).bind fun t209 => (if t209 = true then ((tree_Stmt.f 17).bind fun t210 => (if t210 = true then ((tree_Expr.f 17).bind fun t211 => (if t211 = true then (some false) else ((tree_Sub.f k y192 1).bind fun t212 => (if (t212.length : Int) = 2 then ((tree_Same.f k y192 y192).bind fun t215 => (if t215 = true then ((tree_Same.f k y192 y197).bind fun t216 => (some (!t216))) else (some false))) else (some false))))) else (some false))) else (some false))) else (some false))) else (some false)) else (none)) else (some false)) else (some false))) else (some false))) else (some false)) else (some false)) else (some false)) else (some false)))))) = some r := by first | (rw [hy192]; with_reducible exact H) | (have H2_ := (Option.bind_some _ _).symm.trans H; rw [hy192]; with_reducible exact H2_) | (have H2_ := (Option.bind_some _ _).symm.trans H; with_reducible exact H2_) | with_reducible exact H | (rw [hy192]; exact H) | exact H
  have Ny192 := Aside0.mk hy192
  clear hy192
  replace H := Option.bind_eq_some_iff.mp H
  obtain ⟨⟨t195, t196⟩, A10, H⟩ := H
  try dsimp only at H
  have A1 := Aside0.mk A10
  clear A10
  obtain ⟨y197, hy197⟩ : ∃ y_ : List (S36), y_ = (([(⟨1, 1, (⟨#[109]⟩ : ByteArray), 1, (⟨#[]⟩ : ByteArray)⟩ : S36), (⟨5, 0, (⟨#[]⟩ : ByteArray), 0, (⟨#[]⟩ : ByteArray)⟩ : S36)] : List (S36))) := ⟨_, rfl⟩
  replace H : ((tree_Check.f k y197).bind fun bt200 => ((tree_Kids.f k y192 0).bind fun t202 => (if t195 = 0 then (if t196 = 0 then (if bt200.1 = 4 then (if bt200.2 = 0 then ((tree_End.f k y192 1).bind fun t205 => (if t205 = 3 then ((tree_End.f k y192 3).bind fun t206 => (if t206 = (-1) then (if (t202.length : Int) = 1 then (if 0 < (t202.length : Int) then (if (rd t202 0) = 1 then ((tree_Depth.f k y192).bind fun t208 => (if t208 = 3 then ((tree_Expr.f 18).bind fun t209 => (if t209 = true then ((tree_Stmt.f 17).bind fun t210 => (if t210 = true then ((tree_Expr.f 17).bind fun t211 => (if t211 = true then (some false) else ((tree_Sub.f k y192 1).bind fun t212 => (if (t212.length : Int) = 2 then ((tree_Same.f k y192 y192).bind fun t215 => (if t215 = true then ((tree_Same.f k y192 y197).bind fun t216 => (some (!t216))) else (some false))) else (some false))))) else (some false))) else (some false))) else (some false))) else (some false)) else (none)) else (some false)) else (some false))) else (some false))) else (some false)) else (some false)) else (some false)) else (some false)))) = some r := by first | (rw [hy197]; with_reducible exact H) | (have H2_ := (Option.bind_some _ _).symm.trans H; rw [hy197]; with_reducible exact H2_) | (have H2_ := (Option.bind_some _ _).symm.trans H; with_reducible exact H2_) | with_reducible exact H | (rw [hy197]; exact H) | exact H
  have Ny197 := Aside0.mk hy197
  clear hy197
  replace H := Option.bind_eq_some_iff.mp H
  obtain ⟨⟨t200, t201⟩, A20, H⟩ := H
  try dsimp only at H
  have A2 := Aside0.mk A20
  clear A20
  replace H := Option.bind_eq_some_iff.mp H
  obtain ⟨t202, A30, H⟩ := H
  try dsimp only at H
  have A3 := Aside0.mk A30
  clear A30
  by_cases c4 : t195 = 0
  · rw [if_pos c4] at H
    have c4b0 : (t195 == 0) = true := beq_iff_eq.mpr c4
    have c4b1 : (t195 != 0) = false := bne_eq_false_iff_eq.mpr c4
    clear c4
    by_cases c5 : t196 = 0
    · rw [if_pos c5] at H
      have c5b0 : (t196 == 0) = true := beq_iff_eq.mpr c5
      have c5b1 : (t196 != 0) = false := bne_eq_false_iff_eq.mpr c5
      clear c5
      by_cases c6 : t200 = 4
      · rw [if_pos c6] at H
        have c6b0 : (t200 == 4) = true := beq_iff_eq.mpr c6
        have c6b1 : (t200 != 4) = false := bne_eq_false_iff_eq.mpr c6
        clear c6
        by_cases c7 : t201 = 0
        · rw [if_pos c7] at H
          have c7b0 : (t201 == 0) = true := beq_iff_eq.mpr c7
          have c7b1 : (t201 != 0) = false := bne_eq_false_iff_eq.mpr c7
          clear c7
          replace H := Option.bind_eq_some_iff.mp H
          obtain ⟨t205, A80, H⟩ := H
          try dsimp only at H
          have A8 := Aside0.mk A80
          clear A80
          by_cases c9 : t205 = 3
          · rw [if_pos c9] at H
            have c9b0 : (t205 == 3) = true := beq_iff_eq.mpr c9
            have c9b1 : (t205 != 3) = false := bne_eq_false_iff_eq.mpr c9
            clear c9
            replace H := Option.bind_eq_some_iff.mp H
            obtain ⟨t206, A100, H⟩ := H
            try dsimp only at H
            have A10 := Aside0.mk A100
            clear A100
            by_cases c11 : t206 = (-1)
            · rw [if_pos c11] at H
              have c11b0 : (t206 == (-1)) = true := beq_iff_eq.mpr c11
              have c11b1 : (t206 != (-1)) = false := bne_eq_false_iff_eq.mpr c11
              clear c11
              by_cases c12 : (t202.length : Int) = 1
              · rw [if_pos c12] at H
                have c12b0 : ((t202.length : Int) == 1) = true := beq_iff_eq.mpr c12
                have c12b1 : ((t202.length : Int) != 1) = false := bne_eq_false_iff_eq.mpr c12
                clear c12
                by_cases c13 : 0 < (t202.length : Int)
                · rw [if_pos c13] at H
                  have c13b0 : decide (0 < (t202.length : Int)) = true := decide_eq_true c13
                  have c13b1 : decide (0 < t202.length) = true := decide_eq_true (by omega)
                  clear c13
                  by_cases c14 : (rd t202 0) = 1
                  · rw [if_pos c14] at H
                    have c14b0 : ((rd t202 0) == 1) = true := beq_iff_eq.mpr c14
                    have c14b1 : ((rd t202 0) != 1) = false := bne_eq_false_iff_eq.mpr c14
                    clear c14
                    replace H := Option.bind_eq_some_iff.mp H
                    obtain ⟨t208, A150, H⟩ := H
                    try dsimp only at H
                    have A15 := Aside0.mk A150
                    clear A150
                    by_cases c16 : t208 = 3
                    · rw [if_pos c16] at H
                      have c16b0 : (t208 == 3) = true := beq_iff_eq.mpr c16
                      have c16b1 : (t208 != 3) = false := bne_eq_false_iff_eq.mpr c16
                      clear c16
                      replace H := Option.bind_eq_some_iff.mp H
                      obtain ⟨t209, A170, H⟩ := H
                      try dsimp only at H
                      have A17 := Aside0.mk A170
                      clear A170
                      by_cases c18 : t209 = true
                      · subst c18
                        rw [if_pos rfl] at H
                        have H1 := H
                        clear H
                        have H := H1
                        clear H1
                        replace H := Option.bind_eq_some_iff.mp H
                        obtain ⟨t210, A190, H⟩ := H
                        try dsimp only at H
                        have A19 := Aside0.mk A190
                        clear A190
                        by_cases c20 : t210 = true
                        · subst c20
                          rw [if_pos rfl] at H
                          have H1 := H
                          clear H
                          have H := H1
                          clear H1
                          replace H := Option.bind_eq_some_iff.mp H
                          obtain ⟨t211, A210, H⟩ := H
                          try dsimp only at H
                          have A21 := Aside0.mk A210
                          clear A210
                          by_cases c22 : t211 = true
                          · subst c22
                            have H1 : (some false) = some r := by rw [if_pos rfl] at H; exact H
                            clear H
                            have H := H1
                            clear H1
                            exact absurd ((Option.some.inj H).trans HR.out) (by decide)
                          · replace c22 := Bool.eq_false_iff.mpr c22
                            subst c22
                            rw [if_neg (show ¬ (false = true) by decide)] at H
                            have H1 := H
                            clear H
                            have H := H1
                            clear H1
                            replace H := Option.bind_eq_some_iff.mp H
                            obtain ⟨t212, A340, H⟩ := H
                            try dsimp only at H
                            have A34 := Aside0.mk A340
                            clear A340
                            by_cases c35 : (t212.length : Int) = 2
                            · rw [if_pos c35] at H
                              have c35b0 : ((t212.length : Int) == 2) = true := beq_iff_eq.mpr c35
                              have c35b1 : ((t212.length : Int) != 2) = false := bne_eq_false_iff_eq.mpr c35
                              clear c35
                              replace H := Option.bind_eq_some_iff.mp H
                              obtain ⟨t215, A360, H⟩ := H
                              replace H : (if t215 = true then ((tree_Same.f k y192 y197).bind fun t216 => (some (!t216))) else (some false)) = some r := H
                              have A36 := Aside0.mk A360
                              clear A360
                              by_cases c37 : t215 = true
                              · subst c37
                                have H1 : ((tree_Same.f k y192 y197).bind fun t216 => (some (!t216))) = some r := by rw [if_pos rfl] at H; exact H
                                clear H
                                have H := H1
                                clear H1
                                replace H := Option.bind_eq_some_iff.mp H
                                obtain ⟨t216, A380, H⟩ := H
                                replace H : (some (!t216)) = some r := H
                                have A38 := Aside0.mk A380
                                clear A380
                                obtain rfl := Option.some.inj H
                                go_enter Try.func10, Try.ntmps10
                                go_wp2_with (first | ((with_reducible refine gate_dst (N := 11) rfl ?_); (try (refine gate_guard (by rfl) ?_; dsimp only)); refine Kd.R_lit k36 _ 36 ?hg (N := 11) ?hd (xs := ([(⟨1, 1, (⟨#[109]⟩ : ByteArray), 1, (⟨#[]⟩ : ByteArray)⟩ : S36), (⟨3, 1, (⟨#[102]⟩ : ByteArray), 0, (⟨#[]⟩ : ByteArray)⟩ : S36), (⟨5, 0, (⟨#[]⟩ : ByteArray), 0, (⟨#[]⟩ : ByteArray)⟩ : S36)] : List (S36))) (inner := [.int .i64 1, .int .i64 1, .string (⟨#[109]⟩ : ByteArray), .int .i64 1, .string (⟨#[]⟩ : ByteArray), .int .i64 3, .int .i64 1, .string (⟨#[102]⟩ : ByteArray), .int .i64 0, .string (⟨#[]⟩ : ByteArray), .int .i64 5, .int .i64 0, .string (⟨#[]⟩ : ByteArray), .int .i64 0, .string (⟨#[]⟩ : ByteArray)]) (ok := fun _ => True) (okp := fun _ => True) ?hr ?hp (fun _ hk => hk) trivial (Below.refl _ _) (Nat.le_refl _) (by simp) ?_; (case hd => rfl); (case hg => rfl); (case hr => first | (go_simp; done) | (go_simp; rfl)); (case hp => exact (Reps.c5 (show Kd.M k36 _ _ _ (⟨1, 1, (⟨#[109]⟩ : ByteArray), 1, (⟨#[]⟩ : ByteArray)⟩ : S36) [.int .i64 1, .int .i64 1, .string (⟨#[109]⟩ : ByteArray), .int .i64 1, .string (⟨#[]⟩ : ByteArray)] from (k36_mkM _ _ _ (⟨1, 1, (⟨#[109]⟩ : ByteArray), 1, (⟨#[]⟩ : ByteArray)⟩ : S36) )) (Reps.c5 (show Kd.M k36 _ _ _ (⟨3, 1, (⟨#[102]⟩ : ByteArray), 0, (⟨#[]⟩ : ByteArray)⟩ : S36) [.int .i64 3, .int .i64 1, .string (⟨#[102]⟩ : ByteArray), .int .i64 0, .string (⟨#[]⟩ : ByteArray)] from (k36_mkM _ _ _ (⟨3, 1, (⟨#[102]⟩ : ByteArray), 0, (⟨#[]⟩ : ByteArray)⟩ : S36) )) (Reps.c5 (show Kd.M k36 _ _ _ (⟨5, 0, (⟨#[]⟩ : ByteArray), 0, (⟨#[]⟩ : ByteArray)⟩ : S36) [.int .i64 5, .int .i64 0, .string (⟨#[]⟩ : ByteArray), .int .i64 0, .string (⟨#[]⟩ : ByteArray)] from (k36_mkM _ _ _ (⟨5, 0, (⟨#[]⟩ : ByteArray), 0, (⟨#[]⟩ : ByteArray)⟩ : S36) )) (Reps.none _ _))))); intro v193 w39 ho40 hb hg_ hnew_; clear hg_ hnew_; (first | rw [← Ny192.out] at ho40 | (simp only [Int.reduceToNat] at ho40; rw [← Ny192.out] at ho40)); have n0_ := Aside0.mk (Kd.R_lower ho40 (below_size (by repeat (first | (with_reducible first | exact HB.out | apply below_alloc | apply pw_below_drewN | apply below_drew1) | exact HB.out)))); have n1_ := Aside0.mk (below_step (by repeat (first | (with_reducible first | exact HB.out | apply below_alloc | apply pw_below_drewN | apply below_drew1) | exact HB.out)) hb); clear HB; have HO194 := n0_; have HB := n1_; clear n0_ n1_; clear hb ho40; obtain ⟨Ao41, co41, eo41⟩ := Kd.R_slice HO194.out; subst eo41) | ((with_reducible refine gate_callee (f := 11) rfl ?_); refine goesL_ (some 14) rfl rfl Try.func11 (by kernel_rfl) rfl #[.slice Ao41 y192.length co41] rfl (by (try simp only [List.map_toArray, List.map_cons, List.map_nil]); first | done | rfl | (simp only [List.length_drop, List.length_take]; rfl)) ?_; (with_reducible refine (tree_Check.calls k _ _ y192 t195 t196 _ ?side1 ?side2 A1.out).mono ?_); (case side1 => repeat (first | exact (Kd.R_reads' HO194.out).2.2 | (with_reducible refine Kd.C_alloc ?_ _) | (with_reducible refine Kd.C_drewN ?_ _) | (with_reducible refine Kd.C_drew ?_))); (case side2 => exact (Kd.R_reads' HO194.out).2.1); rintro e w42 ⟨rfl, hb⟩; refine ⟨_, rfl, ?_⟩; have n0_ := Aside0.mk (Kd.R_below (by (with_reducible repeat (first | apply Kd.R_alloc | apply Kd.R_drewN | apply Kd.R_drew)); exact HO194.out) hb); have n1_ := Aside0.mk (below_step (by repeat (first | (with_reducible first | exact HB.out | apply below_alloc | apply pw_below_drewN | apply below_drew1) | exact HB.out)) hb); clear HO194; clear HB; have HO194 := n0_; have HB := n1_; clear n0_ n1_; (try clear hb)) | ((with_reducible refine gate_dst (N := 19) rfl ?_); (try (refine gate_guard (by rfl) ?_; dsimp only)); refine Kd.R_lit k36 _ 36 ?hg (N := 19) ?hd (xs := ([(⟨1, 1, (⟨#[109]⟩ : ByteArray), 1, (⟨#[]⟩ : ByteArray)⟩ : S36), (⟨5, 0, (⟨#[]⟩ : ByteArray), 0, (⟨#[]⟩ : ByteArray)⟩ : S36)] : List (S36))) (inner := [.int .i64 1, .int .i64 1, .string (⟨#[109]⟩ : ByteArray), .int .i64 1, .string (⟨#[]⟩ : ByteArray), .int .i64 5, .int .i64 0, .string (⟨#[]⟩ : ByteArray), .int .i64 0, .string (⟨#[]⟩ : ByteArray)]) (ok := fun _ => True) (okp := fun _ => True) ?hr ?hp (fun _ hk => hk) trivial (Below.refl _ _) (Nat.le_refl _) (by simp) ?_; (case hd => rfl); (case hg => rfl); (case hr => first | (go_simp; done) | (go_simp; rfl)); (case hp => exact (Reps.c5 (show Kd.M k36 _ _ _ (⟨1, 1, (⟨#[109]⟩ : ByteArray), 1, (⟨#[]⟩ : ByteArray)⟩ : S36) [.int .i64 1, .int .i64 1, .string (⟨#[109]⟩ : ByteArray), .int .i64 1, .string (⟨#[]⟩ : ByteArray)] from (k36_mkM _ _ _ (⟨1, 1, (⟨#[109]⟩ : ByteArray), 1, (⟨#[]⟩ : ByteArray)⟩ : S36) )) (Reps.c5 (show Kd.M k36 _ _ _ (⟨5, 0, (⟨#[]⟩ : ByteArray), 0, (⟨#[]⟩ : ByteArray)⟩ : S36) [.int .i64 5, .int .i64 0, .string (⟨#[]⟩ : ByteArray), .int .i64 0, .string (⟨#[]⟩ : ByteArray)] from (k36_mkM _ _ _ (⟨5, 0, (⟨#[]⟩ : ByteArray), 0, (⟨#[]⟩ : ByteArray)⟩ : S36) )) (Reps.none _ _)))); intro v198 w43 ho44 hb hg_ hnew_; clear hg_ hnew_; (first | rw [← Ny197.out] at ho44 | (simp only [Int.reduceToNat] at ho44; rw [← Ny197.out] at ho44)); have n0_ := Aside0.mk (Kd.R_elder' (by (with_reducible repeat (first | apply Kd.R_alloc | apply Kd.R_drewN | apply Kd.R_drew)); exact HO194.out) (Kd.R_base ho44) hb); have n1_ := Aside0.mk (Kd.R_lower (Kd.R_new' ho44 (Kd.R_lt (by (with_reducible repeat (first | apply Kd.R_alloc | apply Kd.R_drewN | apply Kd.R_drew)); exact HO194.out))) (below_size (by repeat (first | (with_reducible first | exact HB.out | apply below_alloc | apply pw_below_drewN | apply below_drew1) | exact HB.out)))); have n2_ := Aside0.mk (below_step (by repeat (first | (with_reducible first | exact HB.out | apply below_alloc | apply pw_below_drewN | apply below_drew1) | exact HB.out)) hb); clear HO194; clear HB; have HO194 := n0_; have HO199 := n1_; have HB := n2_; clear n0_ n1_ n2_; clear hb ho44; obtain ⟨Ao45, co45, eo45⟩ := Kd.R_slice HO199.out; subst eo45) | ((with_reducible refine gate_callee (f := 11) rfl ?_); refine goesL_ (some 22) rfl rfl Try.func11 (by kernel_rfl) rfl #[.slice Ao45 y197.length co45] rfl (by (try simp only [List.map_toArray, List.map_cons, List.map_nil]); first | done | rfl | (simp only [List.length_drop, List.length_take]; rfl)) ?_; (with_reducible refine (tree_Check.calls k _ _ y197 t200 t201 _ ?side1 ?side2 A2.out).mono ?_); (case side1 => repeat (first | exact (Kd.R_reads' HO199.out).2.2 | (with_reducible refine Kd.C_alloc ?_ _) | (with_reducible refine Kd.C_drewN ?_ _) | (with_reducible refine Kd.C_drew ?_))); (case side2 => exact (Kd.R_reads' HO199.out).2.1); rintro e w46 ⟨rfl, hb⟩; refine ⟨_, rfl, ?_⟩; have n0_ := Aside0.mk (Kd.R_below (by (with_reducible repeat (first | apply Kd.R_alloc | apply Kd.R_drewN | apply Kd.R_drew)); exact HO194.out) hb); have n1_ := Aside0.mk (Kd.R_below (by (with_reducible repeat (first | apply Kd.R_alloc | apply Kd.R_drewN | apply Kd.R_drew)); exact HO199.out) hb); have n2_ := Aside0.mk (below_step (by repeat (first | (with_reducible first | exact HB.out | apply below_alloc | apply pw_below_drewN | apply below_drew1) | exact HB.out)) hb); clear HO194; clear HO199; clear HB; have HO194 := n0_; have HO199 := n1_; have HB := n2_; clear n0_ n1_ n2_; (try clear hb)) | ((with_reducible refine gate_callee (f := 17) rfl ?_); refine goesL_ (some 26) rfl rfl Try.func17 (by kernel_rfl) rfl #[.slice Ao41 y192.length co41, .int .i64 0] rfl (by (try simp only [List.map_toArray, List.map_cons, List.map_nil]); first | done | rfl | (simp only [List.length_drop, List.length_take]; rfl)) ?_; (with_reducible refine (tree_Kids.calls k _ _ y192 0 t202 _ ?side1 ?side2 A3.out).mono ?_); (case side1 => repeat (first | exact (Kd.R_reads' HO194.out).2.2 | (with_reducible refine Kd.C_alloc ?_ _) | (with_reducible refine Kd.C_drewN ?_ _) | (with_reducible refine Kd.C_drew ?_))); (case side2 => exact (Kd.R_reads' HO194.out).2.1); rintro e w47 ⟨v203, rfl, ho0, hb⟩; refine ⟨_, rfl, ?_⟩; have n0_ := Aside0.mk (Kd.R_below (by (with_reducible repeat (first | apply Kd.R_alloc | apply Kd.R_drewN | apply Kd.R_drew)); exact HO194.out) hb); have n1_ := Aside0.mk (Kd.R_below (by (with_reducible repeat (first | apply Kd.R_alloc | apply Kd.R_drewN | apply Kd.R_drew)); exact HO199.out) hb); have n2_ := Aside0.mk (Kd.R_lower ho0 (below_size (by repeat (first | (with_reducible first | exact HB.out | apply below_alloc | apply pw_below_drewN | apply below_drew1) | exact HB.out)))); have n3_ := Aside0.mk (below_step (by repeat (first | (with_reducible first | exact HB.out | apply below_alloc | apply pw_below_drewN | apply below_drew1) | exact HB.out)) hb); clear HO194; clear HO199; clear HB; have HO194 := n0_; have HO199 := n1_; have HO204 := n2_; have HB := n3_; clear n0_ n1_ n2_ n3_; (try clear hb); (try clear ho0)) | (go_at_call 14; (with_reducible refine (tree_End.calls k _ _ y192 1 t205 _ ?side1 ?side2 A8.out).mono ?_); (case side1 => repeat (first | exact (Kd.R_reads' HO194.out).2.2 | (with_reducible refine Kd.C_alloc ?_ _) | (with_reducible refine Kd.C_drewN ?_ _) | (with_reducible refine Kd.C_drew ?_))); (case side2 => exact (Kd.R_reads' HO194.out).2.1); rintro e w' ⟨rfl, ⟨nd, rfl⟩⟩) | (go_at_call 14; (with_reducible refine (tree_End.calls k _ _ y192 3 t206 _ ?side1 ?side2 A10.out).mono ?_); (case side1 => repeat (first | exact (Kd.R_reads' HO194.out).2.2 | (with_reducible refine Kd.C_alloc ?_ _) | (with_reducible refine Kd.C_drewN ?_ _) | (with_reducible refine Kd.C_drew ?_))); (case side2 => exact (Kd.R_reads' HO194.out).2.1); rintro e w' ⟨rfl, ⟨nd, rfl⟩⟩; obtain ⟨Ao48, co48, eo48⟩ := Kd.R_slice HO204.out; subst eo48; have p207 : 0 ≤ (0 : Int) := (by omega); have q207 : 0 < (t202.length : Int) := of_decide_eq_true (by first | (with_reducible assumption) | assumption); obtain ⟨ad207, e207, hx207_0⟩ := Kd.at_int (Kd.R_reads' HO204.out).2.2 0 p207 q207; cases e207; have qi207 : (0 < t202.length) = True := eq_true (by omega); (try rw [show ((0 : Int)).toNat = 0 from rfl] at hx207_0); (try rw [Addr.add_zero'] at hx207_0); replace p207 := eq_true p207; replace q207 := eq_true q207) | (go_at_call 21; (with_reducible refine (tree_Depth.calls k _ _ y192 t208 _ ?side1 ?side2 A15.out).mono ?_); (case side1 => repeat (first | exact (Kd.R_reads' HO194.out).2.2 | (with_reducible refine Kd.C_alloc ?_ _) | (with_reducible refine Kd.C_drewN ?_ _) | (with_reducible refine Kd.C_drew ?_))); (case side2 => exact (Kd.R_reads' HO194.out).2.1); rintro e w49 ⟨rfl, hb⟩; have n0_ := Aside0.mk (Kd.R_below (by (with_reducible repeat (first | apply Kd.R_alloc | apply Kd.R_drewN | apply Kd.R_drew)); exact HO194.out) hb); have n1_ := Aside0.mk (Kd.R_below (by (with_reducible repeat (first | apply Kd.R_alloc | apply Kd.R_drewN | apply Kd.R_drew)); exact HO199.out) hb); have n2_ := Aside0.mk (Kd.R_below (by (with_reducible repeat (first | apply Kd.R_alloc | apply Kd.R_drewN | apply Kd.R_drew)); exact HO204.out) hb); have n3_ := Aside0.mk (below_step (by repeat (first | (with_reducible first | exact HB.out | apply below_alloc | apply pw_below_drewN | apply below_drew1) | exact HB.out)) hb); clear HO194; clear HO199; clear HO204; clear HB; have HO194 := n0_; have HO199 := n1_; have HO204 := n2_; have HB := n3_; clear n0_ n1_ n2_ n3_; (try clear hb)) | (go_at_call 23; (with_reducible refine (tree_Expr.calls 18 true _ A17.out).mono ?_); rintro e w' ⟨rfl, ⟨nd, rfl⟩⟩) | (go_at_call 25; (with_reducible refine (tree_Stmt.calls 17 true _ A19.out).mono ?_); rintro e w' ⟨rfl, ⟨nd, rfl⟩⟩) | (go_at_call 23; (with_reducible refine (tree_Expr.calls 17 false _ A21.out).mono ?_); rintro e w' ⟨rfl, ⟨nd, rfl⟩⟩) | (go_at_call 13; (with_reducible refine (tree_Sub.calls k _ _ y192 1 t212 _ ?side1 ?side2 A34.out).mono ?_); (case side1 => repeat (first | exact (Kd.R_reads' HO194.out).2.2 | (with_reducible refine Kd.C_alloc ?_ _) | (with_reducible refine Kd.C_drewN ?_ _) | (with_reducible refine Kd.C_drew ?_))); (case side2 => exact (Kd.R_reads' HO194.out).2.1); rintro e w50 ⟨v213, rfl, ho0, hb⟩; have n0_ := Aside0.mk (Kd.R_elder' (by (with_reducible repeat (first | apply Kd.R_alloc | apply Kd.R_drewN | apply Kd.R_drew)); exact HO194.out) (Kd.R_base ho0) hb); have n1_ := Aside0.mk (Kd.R_elder' (by (with_reducible repeat (first | apply Kd.R_alloc | apply Kd.R_drewN | apply Kd.R_drew)); exact HO199.out) (Kd.R_base ho0) hb); have n2_ := Aside0.mk (Kd.R_below (by (with_reducible repeat (first | apply Kd.R_alloc | apply Kd.R_drewN | apply Kd.R_drew)); exact HO204.out) hb); have n3_ := Aside0.mk (Kd.R_lower (Kd.R_new' (Kd.R_new' ho0 (Kd.R_lt (by (with_reducible repeat (first | apply Kd.R_alloc | apply Kd.R_drewN | apply Kd.R_drew)); exact HO194.out))) (Kd.R_lt (by (with_reducible repeat (first | apply Kd.R_alloc | apply Kd.R_drewN | apply Kd.R_drew)); exact HO199.out))) (below_size (by repeat (first | (with_reducible first | exact HB.out | apply below_alloc | apply pw_below_drewN | apply below_drew1) | exact HB.out)))); have n4_ := Aside0.mk (below_step (by repeat (first | (with_reducible first | exact HB.out | apply below_alloc | apply pw_below_drewN | apply below_drew1) | exact HB.out)) hb); clear HO194; clear HO199; clear HO204; clear HB; have HO194 := n0_; have HO199 := n1_; have HO204 := n2_; have HO214 := n3_; have HB := n4_; clear n0_ n1_ n2_ n3_ n4_; (try clear hb); (try clear ho0); obtain ⟨Ao51, co51, eo51⟩ := Kd.R_slice HO214.out; subst eo51) | (go_at_call 27; (with_reducible refine (tree_Same.calls k _ _ y192 _ _ y192 true _ ?side1 ?side2 ?side3 ?side4 A36.out).mono ?_); (case side1 => repeat (first | exact (Kd.R_reads' HO194.out).2.2 | (with_reducible refine Kd.C_alloc ?_ _) | (with_reducible refine Kd.C_drewN ?_ _) | (with_reducible refine Kd.C_drew ?_))); (case side2 => exact (Kd.R_reads' HO194.out).2.1); (case side3 => repeat (first | exact (Kd.R_reads' HO194.out).2.2 | (with_reducible refine Kd.C_alloc ?_ _) | (with_reducible refine Kd.C_drewN ?_ _) | (with_reducible refine Kd.C_drew ?_))); (case side4 => exact (Kd.R_reads' HO194.out).2.1); rintro e w52 ⟨rfl, hb⟩; have n0_ := Aside0.mk (Kd.R_below (by (with_reducible repeat (first | apply Kd.R_alloc | apply Kd.R_drewN | apply Kd.R_drew)); exact HO194.out) hb); have n1_ := Aside0.mk (Kd.R_below (by (with_reducible repeat (first | apply Kd.R_alloc | apply Kd.R_drewN | apply Kd.R_drew)); exact HO199.out) hb); have n2_ := Aside0.mk (Kd.R_below (by (with_reducible repeat (first | apply Kd.R_alloc | apply Kd.R_drewN | apply Kd.R_drew)); exact HO204.out) hb); have n3_ := Aside0.mk (Kd.R_below (by (with_reducible repeat (first | apply Kd.R_alloc | apply Kd.R_drewN | apply Kd.R_drew)); exact HO214.out) hb); have n4_ := Aside0.mk (below_step (by repeat (first | (with_reducible first | exact HB.out | apply below_alloc | apply pw_below_drewN | apply below_drew1) | exact HB.out)) hb); clear HO194; clear HO199; clear HO204; clear HO214; clear HB; have HO194 := n0_; have HO199 := n1_; have HO204 := n2_; have HO214 := n3_; have HB := n4_; clear n0_ n1_ n2_ n3_ n4_; (try clear hb)) | (go_at_call 27; (with_reducible refine (tree_Same.calls k _ _ y192 _ _ y197 t216 _ ?side1 ?side2 ?side3 ?side4 A38.out).mono ?_); (case side1 => repeat (first | exact (Kd.R_reads' HO194.out).2.2 | (with_reducible refine Kd.C_alloc ?_ _) | (with_reducible refine Kd.C_drewN ?_ _) | (with_reducible refine Kd.C_drew ?_))); (case side2 => exact (Kd.R_reads' HO194.out).2.1); (case side3 => repeat (first | exact (Kd.R_reads' HO199.out).2.2 | (with_reducible refine Kd.C_alloc ?_ _) | (with_reducible refine Kd.C_drewN ?_ _) | (with_reducible refine Kd.C_drew ?_))); (case side4 => exact (Kd.R_reads' HO199.out).2.1); rintro e w53 ⟨rfl, hb⟩; have n0_ := Aside0.mk (Kd.R_below (by (with_reducible repeat (first | apply Kd.R_alloc | apply Kd.R_drewN | apply Kd.R_drew)); exact HO194.out) hb); have n1_ := Aside0.mk (Kd.R_below (by (with_reducible repeat (first | apply Kd.R_alloc | apply Kd.R_drewN | apply Kd.R_drew)); exact HO199.out) hb); have n2_ := Aside0.mk (Kd.R_below (by (with_reducible repeat (first | apply Kd.R_alloc | apply Kd.R_drewN | apply Kd.R_drew)); exact HO204.out) hb); have n3_ := Aside0.mk (Kd.R_below (by (with_reducible repeat (first | apply Kd.R_alloc | apply Kd.R_drewN | apply Kd.R_drew)); exact HO214.out) hb); have n4_ := Aside0.mk (below_step (by repeat (first | (with_reducible first | exact HB.out | apply below_alloc | apply pw_below_drewN | apply below_drew1) | exact HB.out)) hb); clear HO194; clear HO199; clear HO204; clear HO214; clear HB; have HO194 := n0_; have HO199 := n1_; have HO204 := n2_; have HO214 := n3_; have HB := n4_; clear n0_ n1_ n2_ n3_ n4_; (try clear hb)))
                                go_ret
                                exact ⟨by first | rfl | (simp [errW_none, errW_some] <;> rfl) | (simp [*, errW_none, errW_some] <;> rfl), by repeat (first | (with_reducible first | exact HB.out | apply below_alloc | apply pw_below_drewN | apply below_drew1) | exact HB.out)⟩
                              · replace c37 := Bool.eq_false_iff.mpr c37
                                subst c37
                                have H1 : (some false) = some r := by rw [if_neg (show ¬ (false = true) by decide)] at H; exact H
                                clear H
                                have H := H1
                                clear H1
                                exact absurd ((Option.some.inj H).trans HR.out) (by decide)
                            · rw [if_neg c35] at H
                              have c35b0 : ((t212.length : Int) == 2) = false := beq_eq_false_iff_ne.mpr c35
                              have c35b1 : ((t212.length : Int) != 2) = true := bne_iff_ne.mpr c35
                              exact absurd ((Option.some.inj H).trans HR.out) (by decide)
                        · replace c20 := Bool.eq_false_iff.mpr c20
                          subst c20
                          have H1 : (some false) = some r := by rw [if_neg (show ¬ (false = true) by decide)] at H; exact H
                          clear H
                          have H := H1
                          clear H1
                          exact absurd ((Option.some.inj H).trans HR.out) (by decide)
                      · replace c18 := Bool.eq_false_iff.mpr c18
                        subst c18
                        have H1 : (some false) = some r := by rw [if_neg (show ¬ (false = true) by decide)] at H; exact H
                        clear H
                        have H := H1
                        clear H1
                        exact absurd ((Option.some.inj H).trans HR.out) (by decide)
                    · rw [if_neg c16] at H
                      have c16b0 : (t208 == 3) = false := beq_eq_false_iff_ne.mpr c16
                      have c16b1 : (t208 != 3) = true := bne_iff_ne.mpr c16
                      exact absurd ((Option.some.inj H).trans HR.out) (by decide)
                  · rw [if_neg c14] at H
                    have c14b0 : ((rd t202 0) == 1) = false := beq_eq_false_iff_ne.mpr c14
                    have c14b1 : ((rd t202 0) != 1) = true := bne_iff_ne.mpr c14
                    exact absurd ((Option.some.inj H).trans HR.out) (by decide)
                · rw [if_neg c13] at H
                  exact absurd H (by simp)
              · rw [if_neg c12] at H
                have c12b0 : ((t202.length : Int) == 1) = false := beq_eq_false_iff_ne.mpr c12
                have c12b1 : ((t202.length : Int) != 1) = true := bne_iff_ne.mpr c12
                exact absurd ((Option.some.inj H).trans HR.out) (by decide)
            · rw [if_neg c11] at H
              have c11b0 : (t206 == (-1)) = false := beq_eq_false_iff_ne.mpr c11
              have c11b1 : (t206 != (-1)) = true := bne_iff_ne.mpr c11
              exact absurd ((Option.some.inj H).trans HR.out) (by decide)
          · rw [if_neg c9] at H
            have c9b0 : (t205 == 3) = false := beq_eq_false_iff_ne.mpr c9
            have c9b1 : (t205 != 3) = true := bne_iff_ne.mpr c9
            exact absurd ((Option.some.inj H).trans HR.out) (by decide)
        · rw [if_neg c7] at H
          have c7b0 : (t201 == 0) = false := beq_eq_false_iff_ne.mpr c7
          have c7b1 : (t201 != 0) = true := bne_iff_ne.mpr c7
          exact absurd ((Option.some.inj H).trans HR.out) (by decide)
      · rw [if_neg c6] at H
        have c6b0 : (t200 == 4) = false := beq_eq_false_iff_ne.mpr c6
        have c6b1 : (t200 != 4) = true := bne_iff_ne.mpr c6
        exact absurd ((Option.some.inj H).trans HR.out) (by decide)
    · rw [if_neg c5] at H
      have c5b0 : (t196 == 0) = false := beq_eq_false_iff_ne.mpr c5
      have c5b1 : (t196 != 0) = true := bne_iff_ne.mpr c5
      exact absurd ((Option.some.inj H).trans HR.out) (by decide)
  · rw [if_neg c4] at H
    have c4b0 : (t195 == 0) = false := beq_eq_false_iff_ne.mpr c4
    have c4b1 : (t195 != 0) = true := bne_iff_ne.mpr c4
    exact absurd ((Option.some.inj H).trans HR.out) (by decide)

end Go.Proofs.Ytclhaajlgmiilaa.Q
end
section
namespace Go.Proofs.Ytclhaajlgmiilaa.Q
open Go.RowKit Go.Proofs.YtclhaajlgmiilaaW.PrintWords Go.Proofs.YtclhaajlgmiilaaW.PrintLast Go.Proofs.YtclhaajlgmiilaaW.PrintMore
attribute [local go_sem] max2_int min2_int max_two min_two max_three min_three max_four min_four
set_option linter.unusedVariables false
set_option linter.unusedSimpArgs false

/-! ### chrysalisref09_Light: function 9 -/
def chrysalisref09_Light.l0 : Nat → List (S36) → Int → Option (Bool)
  | 0, _, _ => none
  | k + 1, x0, x3 => if x3 < (x0.length : Int) then (if 0 ≤ x3 then (if (((rd_T36 x0 x3).f2).size : Int) > 2000 then (some false) else (if (((rd_T36 x0 x3).f4).size : Int) > 2000 then (some false) else (chrysalisref09_Light.l0 k x0 (wrap64 (x3 + 1))))) else (none)) else (some true)
def chrysalisref09_Light.f (k : Nat) (l0 : List (S36)) : Option (Bool) := if (l0.length : Int) > 2100 then (some false) else (chrysalisref09_Light.l0 k l0 0)
theorem chrysalisref09_Light.mono_l : ∀ k, (∀ y0 y1, LeO (chrysalisref09_Light.l0 k y0 y1) (chrysalisref09_Light.l0 (k + 1) y0 y1))
  | 0 => fun _ _ r h => by simp [chrysalisref09_Light.l0] at h
  | k + 1 => by
    have ih0 := chrysalisref09_Light.mono_l k
    · intro y0 y1
      unfold chrysalisref09_Light.l0
      repeat' first
      | (with_reducible exact ih0 _ _)
      | (with_reducible exact LeO.refl _)
      | (with_reducible exact LeO.none _)
      | (with_reducible refine LeO.ite ?_ ?_)
      | (with_reducible refine LeO.bind ?_ (fun _ => ?_))
      | exact ih0 _ _
      | exact LeO.none _
      | refine LeO.ite ?_ ?_
      | refine LeO.bind ?_ (fun _ => ?_)
theorem chrysalisref09_Light.mono : ∀ a0 k, LeO (chrysalisref09_Light.f k a0) (chrysalisref09_Light.f (k + 1) a0) := by
  intro a0 k
  have ih0 := chrysalisref09_Light.mono_l k
  unfold chrysalisref09_Light.f
  repeat' first
      | (with_reducible exact ih0 _ _)
      | (with_reducible exact LeO.refl _)
      | (with_reducible exact LeO.none _)
      | (with_reducible refine LeO.ite ?_ ?_)
      | (with_reducible refine LeO.bind ?_ (fun _ => ?_))
      | exact ih0 _ _
      | exact LeO.none _
      | refine LeO.ite ?_ ?_
      | refine LeO.bind ?_ (fun _ => ?_)
set_option maxHeartbeats 8000000 in
set_option maxRecDepth 100000 in
theorem chrysalisref09_Light.calls (k : Nat) (A0 : Option Addr) (c0 : Nat) (l0 : List (S36)) (r : Bool) (w : World) (hr0 : Kd.C k36 w A0 l0.length l0) (hc0 : l0.length ≤ c0) (h : chrysalisref09_Light.f k l0 = some r) :
    Calls Try.prog 9 #[.slice A0 l0.length c0] w fun e w' => e = .returned (.bool r) ∧ Drawn0 w w' := by
  have HR0 := Aside0.mk hr0
  have HC0 := Aside0.mk hc0
  clear hr0 hc0
  have H : (if (l0.length : Int) > 2100 then (some false) else (chrysalisref09_Light.l0 k l0 0)) = some r := h
  clear h
  by_cases c2 : (l0.length : Int) > 2100
  · rw [if_pos c2] at H
    have c2b0 : decide (2100 < (l0.length : Int)) = true := decide_eq_true c2
    have c2b1 : decide (2100 < l0.length) = true := decide_eq_true (by omega)
    clear c2
    obtain rfl := Option.some.inj H
    go_enter Try.func9, Try.ntmps9
    go_wp2
    go_ret
    exact ⟨by first | rfl | (simp; done) | (simp [*]; done), by repeat (first | exact Drawn0.refl _ | apply Drawn0.step)⟩
  · rw [if_neg c2] at H
    have c2b0 : decide (2100 < (l0.length : Int)) = false := decide_eq_false c2
    have c2b1 : decide (2100 < l0.length) = false := decide_eq_false (by omega)
    clear c2
    have H' := Aside0.mk H
    clear H
    go_enter Try.func9, Try.ntmps9
    go_wp2
    go_loopg [3] k (fun kq v3 w' => ∃ (x3_1 : Int), v3 = .int .i64 x3_1 ∧ Aside0 (chrysalisref09_Light.l0 kq l0 x3_1 = some r) ∧ Aside0 (kq ≤ k) ∧ Drawn0 w w')
    case atStart => exact ⟨(0), (by first | rfl | (simp; done) | (simp [*]; done)), H', ⟨Nat.le_refl _⟩, by repeat (first | exact Drawn0.refl _ | apply Drawn0.step)⟩
    case round =>
      clear H'
      try clear c2
      try clear c2b0
      try clear c2b1
      try clear p2
      obtain ⟨x3_1, rfl, HA, HK1, ⟨m1, rfl⟩⟩ := hrel
      cases gk with
      | zero => exact absurd HA.out (by simp [chrysalisref09_Light.l0])
      | succ k1 =>
        have H := HA.out
        clear HA
        simp only [chrysalisref09_Light.l0] at H
        by_cases c3 : x3_1 < (l0.length : Int)
        · rw [if_pos c3] at H
          have c3b0 : decide (x3_1 < (l0.length : Int)) = true := decide_eq_true c3
          clear c3
          by_cases c4 : 0 ≤ x3_1
          · rw [if_pos c4] at H
            have c4b0 : decide (0 ≤ x3_1) = true := decide_eq_true c4
            clear c4
            by_cases c5 : (((rd_T36 l0 x3_1).f2).size : Int) > 2000
            · rw [if_pos c5] at H
              have c5b0 : decide (2000 < (((rd_T36 l0 x3_1).f2).size : Int)) = true := decide_eq_true c5
              have c5b1 : decide (2000 < ((rd_T36 l0 x3_1).f2).size) = true := decide_eq_true (by omega)
              clear c5
              obtain rfl := Option.some.inj H
              have p101 : 0 ≤ (x3_1 : Int) := of_decide_eq_true (by first | (with_reducible assumption) | assumption)
              have q101 : x3_1 < (l0.length : Int) := of_decide_eq_true (by first | (with_reducible assumption) | assumption)
              obtain ⟨ad101, e101, hx101_0, hx101_1, hx101_2, hx101_3, hx101_4⟩ := at_T36 HR0.out x3_1 p101 q101
              cases e101
              replace p101 := eq_true p101
              replace q101 := eq_true q101
              go_wp2
              go_ret
              exact ⟨by first | rfl | (simp; done) | (simp [*]; done), by repeat (first | exact Drawn0.refl _ | apply Drawn0.step)⟩
            · rw [if_neg c5] at H
              have c5b0 : decide (2000 < (((rd_T36 l0 x3_1).f2).size : Int)) = false := decide_eq_false c5
              have c5b1 : decide (2000 < ((rd_T36 l0 x3_1).f2).size) = false := decide_eq_false (by omega)
              clear c5
              by_cases c6 : (((rd_T36 l0 x3_1).f4).size : Int) > 2000
              · rw [if_pos c6] at H
                have c6b0 : decide (2000 < (((rd_T36 l0 x3_1).f4).size : Int)) = true := decide_eq_true c6
                have c6b1 : decide (2000 < ((rd_T36 l0 x3_1).f4).size) = true := decide_eq_true (by omega)
                clear c6
                obtain rfl := Option.some.inj H
                have p101 : 0 ≤ (x3_1 : Int) := of_decide_eq_true (by first | (with_reducible assumption) | assumption)
                have q101 : x3_1 < (l0.length : Int) := of_decide_eq_true (by first | (with_reducible assumption) | assumption)
                obtain ⟨ad101, e101, hx101_0, hx101_1, hx101_2, hx101_3, hx101_4⟩ := at_T36 HR0.out x3_1 p101 q101
                cases e101
                replace p101 := eq_true p101
                replace q101 := eq_true q101
                have p102 : 0 ≤ (x3_1 : Int) := of_decide_eq_true (by first | (with_reducible assumption) | assumption)
                have q102 : x3_1 < (l0.length : Int) := of_decide_eq_true (by first | (with_reducible assumption) | assumption)
                obtain ⟨ad102, e102, hx102_0, hx102_1, hx102_2, hx102_3, hx102_4⟩ := at_T36 HR0.out x3_1 p102 q102
                obtain rfl : ad101 = ad102 := (by injection e102)
                replace p102 := eq_true p102
                replace q102 := eq_true q102
                go_wp2
                go_ret
                exact ⟨by first | rfl | (simp; done) | (simp [*]; done), by repeat (first | exact Drawn0.refl _ | apply Drawn0.step)⟩
              · rw [if_neg c6] at H
                have c6b0 : decide (2000 < (((rd_T36 l0 x3_1).f4).size : Int)) = false := decide_eq_false c6
                have c6b1 : decide (2000 < ((rd_T36 l0 x3_1).f4).size) = false := decide_eq_false (by omega)
                clear c6
                have H' := Aside0.mk H
                clear H
                have p101 : 0 ≤ (x3_1 : Int) := of_decide_eq_true (by first | (with_reducible assumption) | assumption)
                have q101 : x3_1 < (l0.length : Int) := of_decide_eq_true (by first | (with_reducible assumption) | assumption)
                obtain ⟨ad101, e101, hx101_0, hx101_1, hx101_2, hx101_3, hx101_4⟩ := at_T36 HR0.out x3_1 p101 q101
                cases e101
                replace p101 := eq_true p101
                replace q101 := eq_true q101
                have p102 : 0 ≤ (x3_1 : Int) := of_decide_eq_true (by first | (with_reducible assumption) | assumption)
                have q102 : x3_1 < (l0.length : Int) := of_decide_eq_true (by first | (with_reducible assumption) | assumption)
                obtain ⟨ad102, e102, hx102_0, hx102_1, hx102_2, hx102_3, hx102_4⟩ := at_T36 HR0.out x3_1 p102 q102
                obtain rfl : ad101 = ad102 := (by injection e102)
                replace p102 := eq_true p102
                replace q102 := eq_true q102
                go_wp2
                go_roundg k1
                case measure => have := HK1.out; omega
                case rel => exact ⟨(wrap64 (x3_1 + 1)), (by first | rfl | (simp; done) | (simp [*]; done)), H', ⟨by have := HK1.out; omega⟩, by repeat (first | exact Drawn0.refl _ | apply Drawn0.step)⟩
          · rw [if_neg c4] at H
            exact absurd H (by simp)
        · rw [if_neg c3] at H
          have c3b0 : decide (x3_1 < (l0.length : Int)) = false := decide_eq_false c3
          clear c3
          obtain rfl := Option.some.inj H
          go_wp2
          go_ret
          exact ⟨by first | rfl | (simp; done) | (simp [*]; done), by repeat (first | exact Drawn0.refl _ | apply Drawn0.step)⟩

end Go.Proofs.Ytclhaajlgmiilaa.Q
end
section
namespace Go.Proofs.Ytclhaajlgmiilaa.Q
open Go.RowKit Go.Proofs.YtclhaajlgmiilaaW.PrintWords Go.Proofs.YtclhaajlgmiilaaW.PrintLast Go.Proofs.YtclhaajlgmiilaaW.PrintMore
attribute [local go_sem] max2_int min2_int max_two min_two max_three min_three max_four min_four
set_option linter.unusedVariables false
set_option linter.unusedSimpArgs false

/-! ### chrysalisref09_End: function 15 -/
mutual
def chrysalisref09_End.l0 : Nat → List (S36) → Int → Int → Option (Int)
  | 0, _, _, _ => none
  | k + 1, x0, x5, x6 => if x6 < (x0.length : Int) then (if 0 ≤ x6 then (if ((rd_T36 x0 x6).f1) < 0 then (chrysalisref09_End.j1 k x0 x5 x6 true) else (chrysalisref09_End.j1 k x0 x5 x6 (decide (((rd_T36 x0 x6).f1) > (x0.length : Int))))) else (none)) else (some (-1))
def chrysalisref09_End.j1 : Nat → List (S36) → Int → Int → Bool → Option (Int)
  | 0, _, _, _, _ => none
  | k + 1, x0, x5, x6, x31 => if x31 = true then (some (-1)) else (if 0 ≤ x6 then (if x6 < (x0.length : Int) then (if (wrap64 ((wrap64 (x5 - 1)) + ((rd_T36 x0 x6).f1))) = 0 then (some (wrap64 (x6 + 1))) else (chrysalisref09_End.l0 k x0 (wrap64 ((wrap64 (x5 - 1)) + ((rd_T36 x0 x6).f1))) (wrap64 (x6 + 1)))) else (none)) else (none))
end
def chrysalisref09_End.f (k : Nat) (l0 : List (S36)) (a1 : Int) : Option (Int) := if a1 < 0 then (some (-1)) else (chrysalisref09_End.l0 k l0 1 a1)
theorem chrysalisref09_End.mono_l : ∀ k, (∀ y0 y1 y2, LeO (chrysalisref09_End.l0 k y0 y1 y2) (chrysalisref09_End.l0 (k + 1) y0 y1 y2)) ∧ (∀ y0 y1 y2 y3, LeO (chrysalisref09_End.j1 k y0 y1 y2 y3) (chrysalisref09_End.j1 (k + 1) y0 y1 y2 y3))
  | 0 => ⟨fun _ _ _ r h => by simp [chrysalisref09_End.l0] at h, fun _ _ _ _ r h => by simp [chrysalisref09_End.j1] at h⟩
  | k + 1 => by
    obtain ⟨ih0, ih1⟩ := chrysalisref09_End.mono_l k
    refine ⟨?_, ?_⟩
    · intro y0 y1 y2
      unfold chrysalisref09_End.l0
      repeat' first
      | (with_reducible exact ih0 _ _ _)
      | (with_reducible exact ih1 _ _ _ _)
      | (with_reducible exact LeO.refl _)
      | (with_reducible exact LeO.none _)
      | (with_reducible refine LeO.ite ?_ ?_)
      | (with_reducible refine LeO.bind ?_ (fun _ => ?_))
      | exact ih0 _ _ _
      | exact ih1 _ _ _ _
      | exact LeO.none _
      | refine LeO.ite ?_ ?_
      | refine LeO.bind ?_ (fun _ => ?_)
    · intro y0 y1 y2 y3
      unfold chrysalisref09_End.j1
      repeat' first
      | (with_reducible exact ih0 _ _ _)
      | (with_reducible exact ih1 _ _ _ _)
      | (with_reducible exact LeO.refl _)
      | (with_reducible exact LeO.none _)
      | (with_reducible refine LeO.ite ?_ ?_)
      | (with_reducible refine LeO.bind ?_ (fun _ => ?_))
      | exact ih0 _ _ _
      | exact ih1 _ _ _ _
      | exact LeO.none _
      | refine LeO.ite ?_ ?_
      | refine LeO.bind ?_ (fun _ => ?_)
theorem chrysalisref09_End.mono : ∀ a0 a1 k, LeO (chrysalisref09_End.f k a0 a1) (chrysalisref09_End.f (k + 1) a0 a1) := by
  intro a0 a1 k
  obtain ⟨ih0, ih1⟩ := chrysalisref09_End.mono_l k
  unfold chrysalisref09_End.f
  repeat' first
      | (with_reducible exact ih0 _ _ _)
      | (with_reducible exact ih1 _ _ _ _)
      | (with_reducible exact LeO.refl _)
      | (with_reducible exact LeO.none _)
      | (with_reducible refine LeO.ite ?_ ?_)
      | (with_reducible refine LeO.bind ?_ (fun _ => ?_))
      | exact ih0 _ _ _
      | exact ih1 _ _ _ _
      | exact LeO.none _
      | refine LeO.ite ?_ ?_
      | refine LeO.bind ?_ (fun _ => ?_)
set_option maxHeartbeats 8000000 in
set_option maxRecDepth 100000 in
theorem chrysalisref09_End.calls (k : Nat) (A0 : Option Addr) (c0 : Nat) (l0 : List (S36)) (a1 : Int) (r : Int) (w : World) (hr0 : Kd.C k36 w A0 l0.length l0) (hc0 : l0.length ≤ c0) (h : chrysalisref09_End.f k l0 a1 = some r) :
    Calls Try.prog 15 #[.slice A0 l0.length c0, .int .i64 a1] w fun e w' => e = .returned (.int .i64 r) ∧ Drawn0 w w' := by
  have HR0 := Aside0.mk hr0
  have HC0 := Aside0.mk hc0
  clear hr0 hc0
  have H : (if a1 < 0 then (some (-1)) else (chrysalisref09_End.l0 k l0 1 a1)) = some r := h
  clear h
  by_cases c3 : a1 < 0
  · rw [if_pos c3] at H
    have c3b0 : decide (a1 < 0) = true := decide_eq_true c3
    clear c3
    obtain rfl := Option.some.inj H
    go_enter Try.func15, Try.ntmps15
    go_wp2
    go_ret
    exact ⟨by first | rfl | (simp; done) | (simp [*]; done), by repeat (first | exact Drawn0.refl _ | apply Drawn0.step)⟩
  · rw [if_neg c3] at H
    have c3b0 : decide (a1 < 0) = false := decide_eq_false c3
    clear c3
    have H' := Aside0.mk H
    clear H
    go_enter Try.func15, Try.ntmps15
    go_wp2
    go_loopg [5, 6] k (fun kq v5 v6 w' => ∃ (x5_1 : Int) (x6_1 : Int), v5 = .int .i64 x5_1 ∧ v6 = .int .i64 x6_1 ∧ Aside0 (chrysalisref09_End.l0 kq l0 x5_1 x6_1 = some r) ∧ Aside0 (kq ≤ k) ∧ Drawn0 w w')
    case atStart => exact ⟨(1), (a1), (by first | rfl | (simp; done) | (simp [*]; done)), (by first | rfl | (simp; done) | (simp [*]; done)), H', ⟨Nat.le_refl _⟩, by repeat (first | exact Drawn0.refl _ | apply Drawn0.step)⟩
    case round =>
      clear H'
      try clear c1
      try clear p2
      try clear c3
      try clear c3b0
      obtain ⟨x5_1, x6_1, rfl, rfl, HA, HK1, ⟨m1, rfl⟩⟩ := hrel
      cases gk with
      | zero => exact absurd HA.out (by simp [chrysalisref09_End.l0])
      | succ k1 =>
        have H := HA.out
        clear HA
        simp only [chrysalisref09_End.l0] at H
        by_cases c4 : x6_1 < (l0.length : Int)
        · rw [if_pos c4] at H
          have c4b0 : decide (x6_1 < (l0.length : Int)) = true := decide_eq_true c4
          clear c4
          have HC5 := Aside0.mk H
          clear H
          go_upto_region 7 with (fail)
          go_cut [31] (fun v31 wc => ∃ (kq : Nat) (x31_4 : Bool), v31 = .bool x31_4 ∧ Aside0 (chrysalisref09_End.j1 kq l0 x5_1 x6_1 x31_4 = some r) ∧ Aside0 (kq ≤ k1) ∧ Drawn0 w wc)
          case first =>
            have H := HC5.out
            clear HC5
            by_cases c6 : 0 ≤ x6_1
            · rw [if_pos c6] at H
              have c6b0 : decide (0 ≤ x6_1) = true := decide_eq_true c6
              clear c6
              (first | rw [c6b0] | (simp only [i64_w, i32_w]; rw [c6b0]) | skip)
              by_cases c7 : ((rd_T36 l0 x6_1).f1) < 0
              · rw [if_pos c7] at H
                have c7b0 : decide (((rd_T36 l0 x6_1).f1) < 0) = true := decide_eq_true c7
                clear c7
                have H' := Aside0.mk H
                clear H
                have p217 : 0 ≤ (x6_1 : Int) := of_decide_eq_true (by first | (with_reducible assumption) | assumption)
                have q217 : x6_1 < (l0.length : Int) := of_decide_eq_true (by first | (with_reducible assumption) | assumption)
                obtain ⟨ad217, e217, hx217_0, hx217_1, hx217_2, hx217_3, hx217_4⟩ := at_T36 HR0.out x6_1 p217 q217
                cases e217
                replace p217 := eq_true p217
                replace q217 := eq_true q217
                go_wp2
                go_meet
                case rel => exact ⟨_, (true), (by first | rfl | (simp; done) | (simp [*]; done)), H', ⟨by have := HK1.out; first | omega | exact Nat.le_refl _⟩, by repeat (first | exact Drawn0.refl _ | apply Drawn0.step)⟩
              · rw [if_neg c7] at H
                have c7b0 : decide (((rd_T36 l0 x6_1).f1) < 0) = false := decide_eq_false c7
                clear c7
                have H' := Aside0.mk H
                clear H
                have p217 : 0 ≤ (x6_1 : Int) := of_decide_eq_true (by first | (with_reducible assumption) | assumption)
                have q217 : x6_1 < (l0.length : Int) := of_decide_eq_true (by first | (with_reducible assumption) | assumption)
                obtain ⟨ad217, e217, hx217_0, hx217_1, hx217_2, hx217_3, hx217_4⟩ := at_T36 HR0.out x6_1 p217 q217
                cases e217
                replace p217 := eq_true p217
                replace q217 := eq_true q217
                have p218 : 0 ≤ (x6_1 : Int) := of_decide_eq_true (by first | (with_reducible assumption) | assumption)
                have q218 : x6_1 < (l0.length : Int) := of_decide_eq_true (by first | (with_reducible assumption) | assumption)
                obtain ⟨ad218, e218, hx218_0, hx218_1, hx218_2, hx218_3, hx218_4⟩ := at_T36 HR0.out x6_1 p218 q218
                obtain rfl : ad217 = ad218 := (by injection e218)
                replace p218 := eq_true p218
                replace q218 := eq_true q218
                go_wp2
                go_meet
                case rel => exact ⟨_, (decide (((rd_T36 l0 x6_1).f1) > (l0.length : Int))), (by first | rfl | (simp; done) | (simp [*]; done)), H', ⟨by have := HK1.out; first | omega | exact Nat.le_refl _⟩, by repeat (first | exact Drawn0.refl _ | apply Drawn0.step)⟩
            · rw [if_neg c6] at H
              exact absurd H (by simp)
          case rest =>
            clear HC5
            try clear c1
            try clear p2
            try clear q2
            try clear hx2
            try clear c3
            try clear c3b0
            try clear c4
            try clear c4b0
            try clear c6
            try clear c6b0
            try clear c7
            try clear c7b0
            try clear hx217_0
            try clear hx217_1
            try clear hx217_2
            try clear hx217_3
            try clear hx217_4
            try clear hx218_0
            try clear hx218_1
            try clear hx218_2
            try clear hx218_3
            try clear hx218_4
            try clear p2
            try clear p217
            try clear p218
            try clear q217
            try clear q218
            obtain ⟨kq, x31_4, rfl, HA, HJ4, ⟨mc4, rfl⟩⟩ := hcut
            cases kq with
            | zero => exact absurd HA.out (by simp [chrysalisref09_End.j1])
            | succ kj4 =>
              have H := HA.out
              clear HA
              simp only [chrysalisref09_End.j1] at H
              by_cases c8 : x31_4 = true
              · subst c8
                have H1 : (some (-1)) = some r := by rw [if_pos rfl] at H; exact H
                clear H
                have H := H1
                clear H1
                obtain rfl := Option.some.inj H
                go_wp2
                go_ret
                exact ⟨by first | rfl | (simp; done) | (simp [*]; done), by repeat (first | exact Drawn0.refl _ | apply Drawn0.step)⟩
              · replace c8 := Bool.eq_false_iff.mpr c8
                subst c8
                rw [if_neg (show ¬ (false = true) by decide)] at H
                have H1 := H
                clear H
                have H := H1
                clear H1
                by_cases c9 : 0 ≤ x6_1
                · rw [if_pos c9] at H
                  have c9b0 : decide (0 ≤ x6_1) = true := decide_eq_true c9
                  clear c9
                  by_cases c10 : x6_1 < (l0.length : Int)
                  · rw [if_pos c10] at H
                    have c10b0 : decide (x6_1 < (l0.length : Int)) = true := decide_eq_true c10
                    clear c10
                    by_cases c11 : (wrap64 ((wrap64 (x5_1 - 1)) + ((rd_T36 l0 x6_1).f1))) = 0
                    · rw [if_pos c11] at H
                      have c11b0 : ((wrap64 ((wrap64 (x5_1 - 1)) + ((rd_T36 l0 x6_1).f1))) == 0) = true := beq_iff_eq.mpr c11
                      have c11b1 : ((wrap64 ((wrap64 (x5_1 - 1)) + ((rd_T36 l0 x6_1).f1))) != 0) = false := bne_eq_false_iff_eq.mpr c11
                      clear c11
                      obtain rfl := Option.some.inj H
                      have p219 : 0 ≤ (x6_1 : Int) := of_decide_eq_true (by first | (with_reducible assumption) | assumption)
                      have q219 : x6_1 < (l0.length : Int) := of_decide_eq_true (by first | (with_reducible assumption) | assumption)
                      obtain ⟨ad219, e219, hx219_0, hx219_1, hx219_2, hx219_3, hx219_4⟩ := at_T36 HR0.out x6_1 p219 q219
                      cases e219
                      replace p219 := eq_true p219
                      replace q219 := eq_true q219
                      go_wp2
                      go_ret
                      exact ⟨by first | rfl | (simp; done) | (simp [*]; done), by repeat (first | exact Drawn0.refl _ | apply Drawn0.step)⟩
                    · rw [if_neg c11] at H
                      have c11b0 : ((wrap64 ((wrap64 (x5_1 - 1)) + ((rd_T36 l0 x6_1).f1))) == 0) = false := beq_eq_false_iff_ne.mpr c11
                      have c11b1 : ((wrap64 ((wrap64 (x5_1 - 1)) + ((rd_T36 l0 x6_1).f1))) != 0) = true := bne_iff_ne.mpr c11
                      have H' := Aside0.mk H
                      clear H
                      have p219 : 0 ≤ (x6_1 : Int) := of_decide_eq_true (by first | (with_reducible assumption) | assumption)
                      have q219 : x6_1 < (l0.length : Int) := of_decide_eq_true (by first | (with_reducible assumption) | assumption)
                      obtain ⟨ad219, e219, hx219_0, hx219_1, hx219_2, hx219_3, hx219_4⟩ := at_T36 HR0.out x6_1 p219 q219
                      cases e219
                      replace p219 := eq_true p219
                      replace q219 := eq_true q219
                      go_wp2
                      go_roundg kj4
                      case measure => have := HK1.out; have := HJ4.out; omega
                      case rel => exact ⟨(wrap64 ((wrap64 (x5_1 - 1)) + ((rd_T36 l0 x6_1).f1))), (wrap64 (x6_1 + 1)), (by first | rfl | (simp; done) | (simp [*]; done)), (by first | rfl | (simp; done) | (simp [*]; done)), H', ⟨by have := HK1.out; have := HJ4.out; omega⟩, by repeat (first | exact Drawn0.refl _ | apply Drawn0.step)⟩
                  · rw [if_neg c10] at H
                    exact absurd H (by simp)
                · rw [if_neg c9] at H
                  exact absurd H (by simp)
        · rw [if_neg c4] at H
          have c4b0 : decide (x6_1 < (l0.length : Int)) = false := decide_eq_false c4
          clear c4
          obtain rfl := Option.some.inj H
          go_wp2
          go_ret
          exact ⟨by first | rfl | (simp; done) | (simp [*]; done), by repeat (first | exact Drawn0.refl _ | apply Drawn0.step)⟩

end Go.Proofs.Ytclhaajlgmiilaa.Q
end
section
namespace Go.Proofs.Ytclhaajlgmiilaa.Q
open Go.RowKit Go.Proofs.YtclhaajlgmiilaaW.PrintWords Go.Proofs.YtclhaajlgmiilaaW.PrintLast Go.Proofs.YtclhaajlgmiilaaW.PrintMore
attribute [local go_sem] max2_int min2_int max_two min_two max_three min_three max_four min_four
set_option linter.unusedVariables false
set_option linter.unusedSimpArgs false

/-! ### chrysalisref09_Kids: function 18 -/
def chrysalisref09_Kids.l0 : Nat → List (S36) → Int → List Int → Int → Int → Option (List Int)
  | 0, _, _, _, _, _ => none
  | k + 1, x0, x1, x5, x6, x7 => if 0 ≤ x1 then (if x1 < (x0.length : Int) then (if x7 < ((rd_T36 x0 x1).f1) then (if x5.length < 17592186044416 then ((chrysalisref09_End.f k x0 x6).bind fun t225 => (chrysalisref09_Kids.l0 k x0 x1 (x5 ++ [x6]) t225 (wrap64 (x7 + 1)))) else (none)) else (some x5)) else (none)) else (none)
def chrysalisref09_Kids.f (k : Nat) (l0 : List (S36)) (a1 : Int) : Option (List Int) := (chrysalisref09_End.f k l0 a1).bind fun t220 => (if t220 < 0 then (some ([] : List Int)) else (chrysalisref09_Kids.l0 k l0 a1 ([] : List Int) (wrap64 (a1 + 1)) 0))
theorem chrysalisref09_Kids.mono_l : ∀ k, (∀ y0 y1 y2 y3 y4, LeO (chrysalisref09_Kids.l0 k y0 y1 y2 y3 y4) (chrysalisref09_Kids.l0 (k + 1) y0 y1 y2 y3 y4))
  | 0 => fun _ _ _ _ _ r h => by simp [chrysalisref09_Kids.l0] at h
  | k + 1 => by
    have ih0 := chrysalisref09_Kids.mono_l k
    · intro y0 y1 y2 y3 y4
      unfold chrysalisref09_Kids.l0
      repeat' first
      | (with_reducible exact ih0 _ _ _ _ _)
      | (with_reducible exact chrysalisref09_End.mono _ _ _)
      | (with_reducible exact LeO.refl _)
      | (with_reducible exact LeO.none _)
      | (with_reducible refine LeO.ite ?_ ?_)
      | (with_reducible refine LeO.bind ?_ (fun _ => ?_))
      | exact ih0 _ _ _ _ _
      | exact chrysalisref09_End.mono _ _ _
      | exact LeO.none _
      | refine LeO.ite ?_ ?_
      | refine LeO.bind ?_ (fun _ => ?_)
theorem chrysalisref09_Kids.mono : ∀ a0 a1 k, LeO (chrysalisref09_Kids.f k a0 a1) (chrysalisref09_Kids.f (k + 1) a0 a1) := by
  intro a0 a1 k
  have ih0 := chrysalisref09_Kids.mono_l k
  unfold chrysalisref09_Kids.f
  repeat' first
      | (with_reducible exact ih0 _ _ _ _ _)
      | (with_reducible exact chrysalisref09_End.mono _ _ _)
      | (with_reducible exact LeO.refl _)
      | (with_reducible exact LeO.none _)
      | (with_reducible refine LeO.ite ?_ ?_)
      | (with_reducible refine LeO.bind ?_ (fun _ => ?_))
      | exact ih0 _ _ _ _ _
      | exact chrysalisref09_End.mono _ _ _
      | exact LeO.none _
      | refine LeO.ite ?_ ?_
      | refine LeO.bind ?_ (fun _ => ?_)
set_option maxHeartbeats 8000000 in
set_option maxRecDepth 100000 in
theorem chrysalisref09_Kids.calls (k : Nat) (A0 : Option Addr) (c0 : Nat) (l0 : List (S36)) (a1 : Int) (r : List Int) (w : World) (hr0 : Kd.C k36 w A0 l0.length l0) (hc0 : l0.length ≤ c0) (h : chrysalisref09_Kids.f k l0 a1 = some r) :
    Calls Try.prog 18 #[.slice A0 l0.length c0, .int .i64 a1] w fun e w' => ∃ v0_ : Value, e = .returned (v0_) ∧ Kd.R (Kd.int .i64) 3 w' w.heap.size (fun _ => True) v0_ r ∧ Below w.heap.size w w' := by
  have HR0 := Aside0.mk hr0
  have HC0 := Aside0.mk hc0
  clear hr0 hc0
  have HB := Aside0.mk (Below.refl w.heap.size w)
  have H : ((chrysalisref09_End.f k l0 a1).bind fun t220 => (if t220 < 0 then (some ([] : List Int)) else (chrysalisref09_Kids.l0 k l0 a1 ([] : List Int) (wrap64 (a1 + 1)) 0))) = some r := h
  clear h
  replace H := Option.bind_eq_some_iff.mp H
  obtain ⟨t220, A30, H⟩ := H
  replace H : (if t220 < 0 then (some ([] : List Int)) else (chrysalisref09_Kids.l0 k l0 a1 ([] : List Int) (wrap64 (a1 + 1)) 0)) = some r := H
  have A3 := Aside0.mk A30
  clear A30
  by_cases c4 : t220 < 0
  · rw [if_pos c4] at H
    have c4b0 : decide (t220 < 0) = true := decide_eq_true c4
    clear c4
    obtain rfl := Option.some.inj H
    go_enter Try.func18, Try.ntmps18
    go_wp2_with (first | ((with_reducible refine gate_callee (f := 15) rfl ?_); refine goesL_ (some 10) rfl rfl Try.func15 (by kernel_rfl) rfl #[.slice A0 l0.length c0, .int .i64 a1] rfl (by (try simp only [List.map_toArray, List.map_cons, List.map_nil]); first | done | rfl | (simp only [List.length_drop, List.length_take]; rfl)) ?_; (with_reducible refine (chrysalisref09_End.calls k _ _ l0 a1 t220 _ ?side1 ?side2 A3.out).mono ?_); (case side1 => repeat (first | exact HR0.out | (with_reducible refine Kd.C_alloc ?_ _) | (with_reducible refine Kd.C_drewN ?_ _) | (with_reducible refine Kd.C_drew ?_))); (case side2 => exact HC0.out); rintro e w' ⟨rfl, ⟨nd, rfl⟩⟩; refine ⟨_, rfl, ?_⟩))
    go_ret
    exact ⟨_, by first | rfl | (simp [errW_none, errW_some] <;> rfl) | (simp [*, errW_none, errW_some] <;> rfl), by first | exact Kd.R_nil _ _ _ _ _ | exact Kd.N_nil _ _ _ _ _ | exact Kd.V_nil _ _ _ _ _ | exact Kd.Q_nil _ _ _ _ _ | exact Kd.S_nil _ _ _ _ _, by repeat (first | (with_reducible first | exact HB.out | apply below_alloc | apply pw_below_drewN | apply below_drew1) | exact HB.out)⟩
  · rw [if_neg c4] at H
    have c4b0 : decide (t220 < 0) = false := decide_eq_false c4
    clear c4
    have H' := Aside0.mk H
    clear H
    go_enter Try.func18, Try.ntmps18
    go_wp2_with (first | ((with_reducible refine gate_callee (f := 15) rfl ?_); refine goesL_ (some 10) rfl rfl Try.func15 (by kernel_rfl) rfl #[.slice A0 l0.length c0, .int .i64 a1] rfl (by (try simp only [List.map_toArray, List.map_cons, List.map_nil]); first | done | rfl | (simp only [List.length_drop, List.length_take]; rfl)) ?_; (with_reducible refine (chrysalisref09_End.calls k _ _ l0 a1 t220 _ ?side1 ?side2 A3.out).mono ?_); (case side1 => repeat (first | exact HR0.out | (with_reducible refine Kd.C_alloc ?_ _) | (with_reducible refine Kd.C_drewN ?_ _) | (with_reducible refine Kd.C_drew ?_))); (case side2 => exact HC0.out); rintro e w' ⟨rfl, ⟨nd, rfl⟩⟩; refine ⟨_, rfl, ?_⟩))
    go_loopg [5, 6, 7] k (fun kq v5 v6 v7 w' => ∃ (x5_1 : List Int) (x6_1 : Int) (x7_1 : Int), v6 = .int .i64 x6_1 ∧ v7 = .int .i64 x7_1 ∧ Aside0 (chrysalisref09_Kids.l0 kq l0 a1 x5_1 x6_1 x7_1 = some r) ∧ Aside0 (kq ≤ k) ∧ Aside0 (Kd.R (Kd.int .i64) 3 w' w.heap.size (fun _ => True) v5 x5_1) ∧ Aside0 (Below w.heap.size w w'))
    case atStart => exact ⟨(([] : List Int)), (wrap64 (a1 + 1)), (0), (by first | rfl | (simp; done) | (simp [*]; done)), (by first | rfl | (simp; done) | (simp [*]; done)), H', ⟨Nat.le_refl _⟩, ⟨by first | exact Kd.R_nil _ _ _ _ _ | exact Kd.N_nil _ _ _ _ _ | exact Kd.V_nil _ _ _ _ _ | exact Kd.Q_nil _ _ _ _ _ | exact Kd.S_nil _ _ _ _ _⟩, ⟨by repeat (first | (with_reducible first | exact HB.out | apply below_alloc | apply pw_below_drewN | apply below_drew1) | exact HB.out)⟩⟩
    case round =>
      clear H'
      try clear c1
      try clear p2
      try clear c4
      try clear c4b0
      obtain ⟨x5_1, x6_1, x7_1, rfl, rfl, HA, HK1, HO_5, HB⟩ := hrel
      cases gk with
      | zero => exact absurd HA.out (by simp [chrysalisref09_Kids.l0])
      | succ k1 =>
        have H := HA.out
        clear HA
        simp only [chrysalisref09_Kids.l0] at H
        by_cases c5 : 0 ≤ a1
        · rw [if_pos c5] at H
          have c5b0 : decide (0 ≤ a1) = true := decide_eq_true c5
          clear c5
          by_cases c6 : a1 < (l0.length : Int)
          · rw [if_pos c6] at H
            have c6b0 : decide (a1 < (l0.length : Int)) = true := decide_eq_true c6
            clear c6
            by_cases c7 : x7_1 < ((rd_T36 l0 a1).f1)
            · rw [if_pos c7] at H
              have c7b0 : decide (x7_1 < ((rd_T36 l0 a1).f1)) = true := decide_eq_true c7
              clear c7
              by_cases c8 : x5_1.length < 17592186044416
              · rw [if_pos c8] at H
                have LMc8 := Aside0.mk c8
                clear c8
                obtain ⟨y222, hy222⟩ : ∃ y_ : List Int, y_ = (x5_1 ++ [x6_1]) := ⟨_, rfl⟩
                replace H : ((chrysalisref09_End.f k1 l0 x6_1).bind fun t225 => (chrysalisref09_Kids.l0 k1 l0 a1 y222 t225 (wrap64 (x7_1 + 1)))) = some r := by first | (rw [hy222]; with_reducible exact H) | (have H2_ := (Option.bind_some _ _).symm.trans H; rw [hy222]; with_reducible exact H2_) | (have H2_ := (Option.bind_some _ _).symm.trans H; with_reducible exact H2_) | with_reducible exact H | (rw [hy222]; exact H) | exact H
                have Ny222 := Aside0.mk hy222
                clear hy222
                replace H := Option.bind_eq_some_iff.mp H
                obtain ⟨t225, A90, H⟩ := H
                replace H : (chrysalisref09_Kids.l0 k1 l0 a1 y222 t225 (wrap64 (x7_1 + 1))) = some r := H
                have A9 := Aside0.mk A90
                clear A90
                have H' := Aside0.mk H
                clear H
                have p221 : 0 ≤ (a1 : Int) := of_decide_eq_true (by first | (with_reducible assumption) | assumption)
                have q221 : a1 < (l0.length : Int) := of_decide_eq_true (by first | (with_reducible assumption) | assumption)
                obtain ⟨ad221, e221, hx221_0, hx221_1, hx221_2, hx221_3, hx221_4⟩ := at_T36 HR0.out a1 p221 q221
                cases e221
                replace hx221_0 := (HB.out.cell (World.block_lt_of_cell? w _ hx221_0)).trans hx221_0
                replace hx221_1 := (HB.out.cell (World.block_lt_of_cell? w _ hx221_1)).trans hx221_1
                replace hx221_2 := (HB.out.cell (World.block_lt_of_cell? w _ hx221_2)).trans hx221_2
                replace hx221_3 := (HB.out.cell (World.block_lt_of_cell? w _ hx221_3)).trans hx221_3
                replace hx221_4 := (HB.out.cell (World.block_lt_of_cell? w _ hx221_4)).trans hx221_4
                replace p221 := eq_true p221
                replace q221 := eq_true q221
                go_wp2_with (first | ((with_reducible refine gate_builtin (b := .append) (xs := #[.tmp 24, .tmp 26]) rfl ?_); at_builtin; refine Kd.R_append (Kd.int .i64) (w0 := w) w.heap.size rfl (.tmp 24) (.tmp 26) 31 3 (.int .i64 0) 8 rfl Try.underlying31 info3 rfl (by decide) (by omega) u5 x5_1 x6_1 [.int .i64 x6_1] (fun _ => True) (fun _ => False) rfl rfl ?aP (fun _ hk => hk.elim) ?aF ?aO ?aB ?aS ?aL ?_; (case aP => exact rfl); (case aB => exact (by repeat (first | (with_reducible first | exact HB.out | apply below_alloc | apply pw_below_drewN | apply below_drew1) | exact HB.out))); (case aF => exact (fun _ _ => trivial)); (case aO => exact (by (with_reducible repeat (first | apply Kd.R_alloc | apply Kd.R_drewN | apply Kd.R_drew)); exact HO_5.out)); (case aS => exact (below_size (by repeat (first | (with_reducible first | exact HB.out | apply below_alloc | apply pw_below_drewN | apply below_drew1) | exact HB.out)))); (case aL => have := LMc8.out; omega); intro v223 w10 ho hb hg hat; rw [← Ny222.out] at ho; have n0_ := Aside0.mk (hb); have n1_ := Aside0.mk (ho); clear HB; clear HO_5; have HB := n0_; have HO224 := n1_; clear n0_ n1_; clear ho hb hg hat) | ((with_reducible refine gate_callee (f := 15) rfl ?_); refine goesL_ (some 30) rfl rfl Try.func15 (by kernel_rfl) rfl #[.slice (some ad221) l0.length c0, .int .i64 x6_1] rfl (by (try simp only [List.map_toArray, List.map_cons, List.map_nil]); first | done | rfl | (simp only [List.length_drop, List.length_take]; rfl)) ?_; (with_reducible refine (chrysalisref09_End.calls k1 _ _ l0 x6_1 t225 _ ?side1 ?side2 A9.out).mono ?_); (case side1 => repeat (first | exact (Kd.C_below HR0.out HB.out) | (with_reducible refine Kd.C_alloc ?_ _) | (with_reducible refine Kd.C_drewN ?_ _) | (with_reducible refine Kd.C_drew ?_))); (case side2 => exact HC0.out); rintro e w' ⟨rfl, ⟨nd, rfl⟩⟩; refine ⟨_, rfl, ?_⟩))
                go_roundg k1
                case measure => have := HK1.out; omega
                case rel => exact ⟨(y222), (t225), (wrap64 (x7_1 + 1)), (by first | rfl | (simp; done) | (simp [*]; done)), (by first | rfl | (simp; done) | (simp [*]; done)), H', ⟨by have := HK1.out; omega⟩, ⟨by (with_reducible repeat (first | apply Kd.R_alloc | apply Kd.R_drewN | apply Kd.R_drew)); exact HO224.out⟩, ⟨by repeat (first | (with_reducible first | exact HB.out | apply below_alloc | apply pw_below_drewN | apply below_drew1) | exact HB.out)⟩⟩
              · rw [if_neg c8] at H
                exact absurd H (by simp)
            · rw [if_neg c7] at H
              have c7b0 : decide (x7_1 < ((rd_T36 l0 a1).f1)) = false := decide_eq_false c7
              clear c7
              obtain rfl := Option.some.inj H
              have p221 : 0 ≤ (a1 : Int) := of_decide_eq_true (by first | (with_reducible assumption) | assumption)
              have q221 : a1 < (l0.length : Int) := of_decide_eq_true (by first | (with_reducible assumption) | assumption)
              obtain ⟨ad221, e221, hx221_0, hx221_1, hx221_2, hx221_3, hx221_4⟩ := at_T36 HR0.out a1 p221 q221
              cases e221
              replace hx221_0 := (HB.out.cell (World.block_lt_of_cell? w _ hx221_0)).trans hx221_0
              replace hx221_1 := (HB.out.cell (World.block_lt_of_cell? w _ hx221_1)).trans hx221_1
              replace hx221_2 := (HB.out.cell (World.block_lt_of_cell? w _ hx221_2)).trans hx221_2
              replace hx221_3 := (HB.out.cell (World.block_lt_of_cell? w _ hx221_3)).trans hx221_3
              replace hx221_4 := (HB.out.cell (World.block_lt_of_cell? w _ hx221_4)).trans hx221_4
              replace p221 := eq_true p221
              replace q221 := eq_true q221
              go_wp2
              go_ret
              exact ⟨_, by first | rfl | (simp [errW_none, errW_some] <;> rfl) | (simp [*, errW_none, errW_some] <;> rfl), by (with_reducible repeat (first | apply Kd.R_alloc | apply Kd.R_drewN | apply Kd.R_drew)); exact HO_5.out, by repeat (first | (with_reducible first | exact HB.out | apply below_alloc | apply pw_below_drewN | apply below_drew1) | exact HB.out)⟩
          · rw [if_neg c6] at H
            exact absurd H (by simp)
        · rw [if_neg c5] at H
          exact absurd H (by simp)

end Go.Proofs.Ytclhaajlgmiilaa.Q
end
