/- Walks over functions of the program, words for them, and what the functions come to; of each text only what this claim uses. -/
import Derived.Test.YtclhaajlgmiilaaZR3
import Derived.Test.YtclhaajlgmiilaaZR7
import Derived.Test.YtclhaajlgmiilaaZR8

section
namespace Go.Proofs.Ytclhaajlgmiilaa.Q
open Go.RowKit Go.Proofs.YtclhaajlgmiilaaW.PrintWords Go.Proofs.YtclhaajlgmiilaaW.PrintLast Go.Proofs.YtclhaajlgmiilaaW.PrintMore
attribute [local go_sem] max2_int min2_int max_two min_two max_three min_three max_four min_four
set_option linter.unusedVariables false
set_option linter.unusedSimpArgs false

/-! ### chrysalislaw09_known: function 10 -/
def chrysalislaw09_known.f (k : Nat)  : Option (Bool) := (some (([(⟨1, 1, (⟨#[109]⟩ : ByteArray), 1, (⟨#[]⟩ : ByteArray)⟩ : S36), (⟨3, 1, (⟨#[102]⟩ : ByteArray), 0, (⟨#[]⟩ : ByteArray)⟩ : S36), (⟨5, 0, (⟨#[]⟩ : ByteArray), 0, (⟨#[]⟩ : ByteArray)⟩ : S36)] : List (S36)) : List (S36))).bind fun y192 => ((tree_Check.f k y192).bind fun bt195 => ((some (([(⟨1, 1, (⟨#[109]⟩ : ByteArray), 1, (⟨#[]⟩ : ByteArray)⟩ : S36), (⟨5, 0, (⟨#[]⟩ : ByteArray), 0, (⟨#[]⟩ : ByteArray)⟩ : S36)] : List (S36)) : List (S36))).bind fun y197 => ((tree_Check.f k y197).bind fun bt200 => ((tree_Kids.f k y192 0).bind fun t202 => (if bt195.1 = 0 then (if bt195.2 = 0 then (if bt200.1 = 4 then (if bt200.2 = 0 then ((tree_End.f k y192 1).bind fun t205 => (if t205 = 3 then ((tree_End.f k y192 3).bind fun t206 => (if t206 = (-1) then (if (t202.length : Int) = 1 then (if 0 < (t202.length : Int) then (if (rd t202 0) = 1 then ((tree_Depth.f k y192).bind fun t208 => (if t208 = 3 then ((tree_Expr.f 18).bind fun t209 => (if t209 = true then ((tree_Stmt.f 17).bind fun t210 => (if t210 = true then ((tree_Expr.f 17).bind fun t211 => (if t211 = true then (some false) else ((tree_Sub.f k y192 1).bind fun t212 => (if (t212.length : Int) = 2 then ((tree_Same.f k y192 y192).bind fun t215 => (if t215 = true then ((tree_Same.f k y192 y197).bind fun t216 => (some (!t216))) else (some false))) else (some false))))) else (some false))) else (some false))) else (some false))) else (some false)) else (none)) else (some false)) else (some false))) else (some false))) else (some false)) else (some false)) else (some false)) else (some false))))))
theorem chrysalislaw09_known.mono : ∀ k, LeO (chrysalislaw09_known.f k ) (chrysalislaw09_known.f (k + 1) ) := by
  intro  k
  unfold chrysalislaw09_known.f
  repeat' first
      | (with_reducible exact tree_Check.mono _ _)
      | (with_reducible exact tree_Depth.mono _ _)
      | (with_reducible exact tree_End.mono _ _ _)
      | (with_reducible exact tree_Kids.mono _ _ _)
      | (with_reducible exact tree_Same.mono _ _ _)
      | (with_reducible exact tree_Sub.mono _ _ _)
      | (with_reducible exact LeO.refl _)
      | (with_reducible exact LeO.none _)
      | (with_reducible refine LeO.ite ?_ ?_)
      | (with_reducible refine LeO.bind ?_ (fun _ => ?_))
      | exact tree_Check.mono _ _
      | exact tree_Depth.mono _ _
      | exact tree_End.mono _ _ _
      | exact tree_Kids.mono _ _ _
      | exact tree_Same.mono _ _ _
      | exact tree_Sub.mono _ _ _
      | exact LeO.none _
      | refine LeO.ite ?_ ?_
      | refine LeO.bind ?_ (fun _ => ?_)
theorem chrysalislaw09_known.more : ∀ (d k : Nat) (r : Bool), chrysalislaw09_known.f k = some r → chrysalislaw09_known.f (k + d) = some r
  | 0, _, _, h => h
  | d + 1, k, r, h => chrysalislaw09_known.mono (k + d) r (chrysalislaw09_known.more d k r h)
set_option maxRecDepth 100000 in
theorem chrysalislaw09_known.at : chrysalislaw09_known.f 120 = some true := by kernel_rfl
theorem chrysalislaw09_known.isTrue (k : Nat) (r : Bool) (h : chrysalislaw09_known.f k = some r) : r = true := by
  have h1 := chrysalislaw09_known.more 120 k r h
  have h2 := chrysalislaw09_known.more k 120 true chrysalislaw09_known.at
  rw [Nat.add_comm 120 k, h1] at h2
  exact Option.some.inj h2
set_option maxHeartbeats 8000000 in
set_option maxRecDepth 100000 in
theorem chrysalislaw09_known.calls (k : Nat)  (r : Bool) (w : World) (h : chrysalislaw09_known.f k  = some r) :
    Calls Try.prog 10 #[] w fun e w' => e = .returned (.bool r) ∧ Below w.heap.size w w' := by
  have hu36 := Try.underlying36
  have HB := Aside0.mk (Below.refl w.heap.size w)
  have HR := Aside0.mk (chrysalislaw09_known.isTrue k r h)
  have H : ((some (([(⟨1, 1, (⟨#[109]⟩ : ByteArray), 1, (⟨#[]⟩ : ByteArray)⟩ : S36), (⟨3, 1, (⟨#[102]⟩ : ByteArray), 0, (⟨#[]⟩ : ByteArray)⟩ : S36), (⟨5, 0, (⟨#[]⟩ : ByteArray), 0, (⟨#[]⟩ : ByteArray)⟩ : S36)] : List (S36)) : List (S36))).bind fun y192 => ((tree_Check.f k y192).bind fun bt195 => ((some (([(⟨1, 1, (⟨#[109]⟩ : ByteArray), 1, (⟨#[]⟩ : ByteArray)⟩ : S36), (⟨5, 0, (⟨#[]⟩ : ByteArray), 0, (⟨#[]⟩ : ByteArray)⟩ : S36)] : List (S36)) : List (S36))).bind fun y197 => ((tree_Check.f k y197).bind fun bt200 => ((tree_Kids.f k y192 0).bind fun t202 => (if bt195.1 = 0 then (if bt195.2 = 0 then (if bt200.1 = 4 then (if bt200.2 = 0 then ((tree_End.f k y192 1).bind fun t205 => (if t205 = 3 then ((tree_End.f k y192 3).bind fun t206 => (if t206 = (-1) then (if (t202.length : Int) = 1 then (if 0 < (t202.length : Int) then (if (rd t202 0) = 1 then ((tree_Depth.f k y192).bind fun t208 => (if t208 = 3 then ((tree_Expr.f 18).bind fun t209 => (if t209 = true then ((tree_Stmt.f 17).bind fun t210 => (if t210 = true then ((tree_Expr.f 17).bind fun t211 => (if t211 = true then (some false) else ((tree_Sub.f k y192 1).bind fun t212 => (if (t212.length : Int) = 2 then ((tree_Same.f k y192 y192).bind fun t215 => (if t215 = true then ((tree_Same.f k y192 y197).bind fun t216 => (some (!t216))) else (some false))) else (some false))))) else (some false))) else (some false))) else (some false))) else (some false)) else (none)) else (some false)) else (some false))) else (some false))) else (some false)) else (some false)) else (some false)) else (some false))))))) = some r := h
  clear h
  obtain ⟨y192, hy192⟩ : ∃ y_ : List (S36), y_ = (([(⟨1, 1, (⟨#[109]⟩ : ByteArray), 1, (⟨#[]⟩ : ByteArray)⟩ : S36), (⟨3, 1, (⟨#[102]⟩ : ByteArray), 0, (⟨#[]⟩ : ByteArray)⟩ : S36), (⟨5, 0, (⟨#[]⟩ : ByteArray), 0, (⟨#[]⟩ : ByteArray)⟩ : S36)] : List (S36))) := ⟨_, rfl⟩
  replace H : ((tree_Check.f k y192).bind fun bt195 => ((some (([(⟨1, 1, (⟨#[109]⟩ : ByteArray), 1, (⟨#[]⟩ : ByteArray)⟩ : S36), (⟨5, 0, (⟨#[]⟩ : ByteArray), 0, (⟨#[]⟩ : ByteArray)⟩ : S36)] : List (S36)) : List (S36))).bind fun y197 => ((tree_Check.f k y197).bind fun bt200 => ((tree_Kids.f k y192 0).bind fun t202 => (if bt195.1 = 0 then (if bt195.2 = 0 then (if bt200.1 = 4 then (if bt200.2 = 0 then ((tree_End.f k y192 1).bind fun t205 => (if t205 = 3 then ((tree_End.f k y192 3).bind fun t206 => (if t206 = (-1) then (if (t202.length : Int) = 1 then (if 0 < (t202.length : Int) then (if (rd t202 0) = 1 then ((tree_Depth.f k y192).bind fun t208 => (if t208 = 3 then ((tree_Expr.f 18).bind fun t209 => (if t209 = true then ((tree_Stmt.f 17).bind fun t210 => (if t210 = true then ((tree_Expr.f 17).bind fun t211 => (if t211 = true then (some false) else ((tree_Sub.f k y192 1).bind fun t212 => (if (t212.length : Int) = 2 then ((tree_Same.f k y192 y192).bind fun t215 => (if t215 = true then ((tree_Same.f k y192 y197).bind fun t216 => (some (!t216))) else (some false))) else (some false))))) else (some false))) else (some false))) else (some false))) else (some false)) else (none)) else (some false)) else (some false))) else (some false))) else (some false)) else (some false)) else (some false)) else (some false)))))) = some r := by first | (rw [hy192]; with_reducible exact H) | (have H2_ := (Option.bind_some _ _).symm.trans H; rw [hy192]; with_reducible exact H2_) | (have H2_ := (Option.bind_some _ _).symm.trans H; with_reducible exact H2_) | with_reducible exact H | (rw [hy192]; exact H) | exact H
  have Ny192 := Aside0.mk hy192
  clear hy192
  replace H := Option.bind_eq_some_iff.mp H
  obtain ⟨⟨t195, t196⟩, A10, H⟩ := H
  try dsimp only at H
  have A1 := Aside0.mk A10
  clear A10
  obtain ⟨y197, hy197⟩ : ∃ y_ : List (S36), y_ = (([(⟨1, 1, (⟨#[109]⟩ : ByteArray), 1, (⟨#[]⟩ : ByteArray)⟩ : S36), (⟨5, 0, (⟨#[]⟩ : ByteArray), 0, (⟨#[]⟩ : ByteArray)⟩ : S36)] : List (S36))) := ⟨_, rfl⟩
  replace H : ((tree_Check.f k y197).bind fun bt200 => ((tree_Kids.f k y192 0).bind fun t202 => (if t195 = 0 then (if t196 = 0 then (if bt200.1 = 4 then (if bt200.2 = 0 then ((tree_End.f k y192 1).bind fun t205 => (if t205 = 3 then ((tree_End.f k y192 3).bind fun t206 => (if t206 = (-1) then (if (t202.length : Int) = 1 then (if 0 < (t202.length : Int) then (if (rd t202 0) = 1 then ((tree_Depth.f k y192).bind fun t208 => (if t208 = 3 then ((tree_Expr.f 18).bind fun t209 => (if t209 = true then ((tree_Stmt.f 17).bind fun t210 => (if t210 = true then ((tree_Expr.f 17).bind fun t211 => (if t211 = true then (some false) else ((tree_Sub.f k y192 1).bind fun t212 => (if (t212.length : Int) = 2 then ((tree_Same.f k y192 y192).bind fun t215 => (if t215 = true then ((tree_Same.f k y192 y197).bind fun t216 => (some (!t216))) else (some false))) else (some false))))) else (some false))) else (some false))) else (some false))) else (some false)) else (none)) else (some false)) else (some false))) else (some false))) else (some false)) else (some false)) else (some false)) else (some false)))) = some r := by first | (rw [hy197]; with_reducible exact H) | (have H2_ := (Option.bind_some _ _).symm.trans H; rw [hy197]; with_reducible exact H2_) | (have H2_ := (Option.bind_some _ _).symm.trans H; with_reducible exact H2_) | with_reducible exact H | (rw [hy197]; exact H) | exact H
  have Ny197 := Aside0.mk hy197
  clear hy197
  replace H := Option.bind_eq_some_iff.mp H
  obtain ⟨⟨t200, t201⟩, A20, H⟩ := H
  try dsimp only at H
  have A2 := Aside0.mk A20
  clear A20
  replace H := Option.bind_eq_some_iff.mp H
  obtain ⟨t202, A30, H⟩ := H
  try dsimp only at H
  have A3 := Aside0.mk A30
  clear A30
  by_cases c4 : t195 = 0
  · rw [if_pos c4] at H
    have c4b0 : (t195 == 0) = true := beq_iff_eq.mpr c4
    have c4b1 : (t195 != 0) = false := bne_eq_false_iff_eq.mpr c4
    clear c4
    by_cases c5 : t196 = 0
    · rw [if_pos c5] at H
      have c5b0 : (t196 == 0) = true := beq_iff_eq.mpr c5
      have c5b1 : (t196 != 0) = false := bne_eq_false_iff_eq.mpr c5
      clear c5
      by_cases c6 : t200 = 4
      · rw [if_pos c6] at H
        have c6b0 : (t200 == 4) = true := beq_iff_eq.mpr c6
        have c6b1 : (t200 != 4) = false := bne_eq_false_iff_eq.mpr c6
        clear c6
        by_cases c7 : t201 = 0
        · rw [if_pos c7] at H
          have c7b0 : (t201 == 0) = true := beq_iff_eq.mpr c7
          have c7b1 : (t201 != 0) = false := bne_eq_false_iff_eq.mpr c7
          clear c7
          replace H := Option.bind_eq_some_iff.mp H
          obtain ⟨t205, A80, H⟩ := H
          try dsimp only at H
          have A8 := Aside0.mk A80
          clear A80
          by_cases c9 : t205 = 3
          · rw [if_pos c9] at H
            have c9b0 : (t205 == 3) = true := beq_iff_eq.mpr c9
            have c9b1 : (t205 != 3) = false := bne_eq_false_iff_eq.mpr c9
            clear c9
            replace H := Option.bind_eq_some_iff.mp H
            obtain ⟨t206, A100, H⟩ := H
            try dsimp only at H
            have A10 := Aside0.mk A100
            clear A100
            by_cases c11 : t206 = (-1)
            · rw [if_pos c11] at H
              have c11b0 : (t206 == (-1)) = true := beq_iff_eq.mpr c11
              have c11b1 : (t206 != (-1)) = false := bne_eq_false_iff_eq.mpr c11
              clear c11
              by_cases c12 : (t202.length : Int) = 1
              · rw [if_pos c12] at H
                have c12b0 : ((t202.length : Int) == 1) = true := beq_iff_eq.mpr c12
                have c12b1 : ((t202.length : Int) != 1) = false := bne_eq_false_iff_eq.mpr c12
                clear c12
                by_cases c13 : 0 < (t202.length : Int)
                · rw [if_pos c13] at H
                  have c13b0 : decide (0 < (t202.length : Int)) = true := decide_eq_true c13
                  have c13b1 : decide (0 < t202.length) = true := decide_eq_true (by omega)
                  clear c13
                  by_cases c14 : (rd t202 0) = 1
                  · rw [if_pos c14] at H
                    have c14b0 : ((rd t202 0) == 1) = true := beq_iff_eq.mpr c14
                    have c14b1 : ((rd t202 0) != 1) = false := bne_eq_false_iff_eq.mpr c14
                    clear c14
                    replace H := Option.bind_eq_some_iff.mp H
                    obtain ⟨t208, A150, H⟩ := H
                    try dsimp only at H
                    have A15 := Aside0.mk A150
                    clear A150
                    by_cases c16 : t208 = 3
                    · rw [if_pos c16] at H
                      have c16b0 : (t208 == 3) = true := beq_iff_eq.mpr c16
                      have c16b1 : (t208 != 3) = false := bne_eq_false_iff_eq.mpr c16
                      clear c16
                      replace H := Option.bind_eq_some_iff.mp H
                      obtain ⟨t209, A170, H⟩ := H
                      try dsimp only at H
                      have A17 := Aside0.mk A170
                      clear A170
                      by_cases c18 : t209 = true
                      · subst c18
                        rw [if_pos rfl] at H
                        have H1 := H
                        clear H
                        have H := H1
                        clear H1
                        replace H := Option.bind_eq_some_iff.mp H
                        obtain ⟨t210, A190, H⟩ := H
                        try dsimp only at H
                        have A19 := Aside0.mk A190
                        clear A190
                        by_cases c20 : t210 = true
                        · subst c20
                          rw [if_pos rfl] at H
                          have H1 := H
                          clear H
                          have H := H1
                          clear H1
                          replace H := Option.bind_eq_some_iff.mp H
                          obtain ⟨t211, A210, H⟩ := H
                          try dsimp only at H
                          have A21 := Aside0.mk A210
                          clear A210
                          by_cases c22 : t211 = true
                          · subst c22
                            have H1 : (some false) = some r := by rw [if_pos rfl] at H; exact H
                            clear H
                            have H := H1
                            clear H1
                            exact absurd ((Option.some.inj H).trans HR.out) (by decide)
                          · replace c22 := Bool.eq_false_iff.mpr c22
                            subst c22
                            rw [if_neg (show ¬ (false = true) by decide)] at H
                            have H1 := H
                            clear H
                            have H := H1
                            clear H1
                            replace H := Option.bind_eq_some_iff.mp H
                            obtain ⟨t212, A340, H⟩ := H
                            try dsimp only at H
                            have A34 := Aside0.mk A340
                            clear A340
                            by_cases c35 : (t212.length : Int) = 2
                            · rw [if_pos c35] at H
                              have c35b0 : ((t212.length : Int) == 2) = true := beq_iff_eq.mpr c35
                              have c35b1 : ((t212.length : Int) != 2) = false := bne_eq_false_iff_eq.mpr c35
                              clear c35
                              replace H := Option.bind_eq_some_iff.mp H
                              obtain ⟨t215, A360, H⟩ := H
                              replace H : (if t215 = true then ((tree_Same.f k y192 y197).bind fun t216 => (some (!t216))) else (some false)) = some r := H
                              have A36 := Aside0.mk A360
                              clear A360
                              by_cases c37 : t215 = true
                              · subst c37
                                have H1 : ((tree_Same.f k y192 y197).bind fun t216 => (some (!t216))) = some r := by rw [if_pos rfl] at H; exact H
                                clear H
                                have H := H1
                                clear H1
                                replace H := Option.bind_eq_some_iff.mp H
                                obtain ⟨t216, A380, H⟩ := H
                                replace H : (some (!t216)) = some r := H
                                have A38 := Aside0.mk A380
                                clear A380
                                obtain rfl := Option.some.inj H
                                go_enter Try.func10, Try.ntmps10
                                go_wp2_with (first | ((with_reducible refine gate_dst (N := 11) rfl ?_); (try (refine gate_guard (by rfl) ?_; dsimp only)); refine Kd.R_lit k36 _ 36 ?hg (N := 11) ?hd (xs := ([(⟨1, 1, (⟨#[109]⟩ : ByteArray), 1, (⟨#[]⟩ : ByteArray)⟩ : S36), (⟨3, 1, (⟨#[102]⟩ : ByteArray), 0, (⟨#[]⟩ : ByteArray)⟩ : S36), (⟨5, 0, (⟨#[]⟩ : ByteArray), 0, (⟨#[]⟩ : ByteArray)⟩ : S36)] : List (S36))) (inner := [.int .i64 1, .int .i64 1, .string (⟨#[109]⟩ : ByteArray), .int .i64 1, .string (⟨#[]⟩ : ByteArray), .int .i64 3, .int .i64 1, .string (⟨#[102]⟩ : ByteArray), .int .i64 0, .string (⟨#[]⟩ : ByteArray), .int .i64 5, .int .i64 0, .string (⟨#[]⟩ : ByteArray), .int .i64 0, .string (⟨#[]⟩ : ByteArray)]) (ok := fun _ => True) (okp := fun _ => True) ?hr ?hp (fun _ hk => hk) trivial (Below.refl _ _) (Nat.le_refl _) (by simp) ?_; (case hd => rfl); (case hg => rfl); (case hr => first | (go_simp; done) | (go_simp; rfl)); (case hp => exact (Reps.c5 (show Kd.M k36 _ _ _ (⟨1, 1, (⟨#[109]⟩ : ByteArray), 1, (⟨#[]⟩ : ByteArray)⟩ : S36) [.int .i64 1, .int .i64 1, .string (⟨#[109]⟩ : ByteArray), .int .i64 1, .string (⟨#[]⟩ : ByteArray)] from (k36_mkM _ _ _ (⟨1, 1, (⟨#[109]⟩ : ByteArray), 1, (⟨#[]⟩ : ByteArray)⟩ : S36) )) (Reps.c5 (show Kd.M k36 _ _ _ (⟨3, 1, (⟨#[102]⟩ : ByteArray), 0, (⟨#[]⟩ : ByteArray)⟩ : S36) [.int .i64 3, .int .i64 1, .string (⟨#[102]⟩ : ByteArray), .int .i64 0, .string (⟨#[]⟩ : ByteArray)] from (k36_mkM _ _ _ (⟨3, 1, (⟨#[102]⟩ : ByteArray), 0, (⟨#[]⟩ : ByteArray)⟩ : S36) )) (Reps.c5 (show Kd.M k36 _ _ _ (⟨5, 0, (⟨#[]⟩ : ByteArray), 0, (⟨#[]⟩ : ByteArray)⟩ : S36) [.int .i64 5, .int .i64 0, .string (⟨#[]⟩ : ByteArray), .int .i64 0, .string (⟨#[]⟩ : ByteArray)] from (k36_mkM _ _ _ (⟨5, 0, (⟨#[]⟩ : ByteArray), 0, (⟨#[]⟩ : ByteArray)⟩ : S36) )) (Reps.none _ _))))); intro v193 w39 ho40 hb hg_ hnew_; clear hg_ hnew_; (first | rw [← Ny192.out] at ho40 | (simp only [Int.reduceToNat] at ho40; rw [← Ny192.out] at ho40)); have n0_ := Aside0.mk (Kd.R_lower ho40 (below_size (by repeat (first | (with_reducible first | exact HB.out | apply below_alloc | apply pw_below_drewN | apply below_drew1) | exact HB.out)))); have n1_ := Aside0.mk (below_step (by repeat (first | (with_reducible first | exact HB.out | apply below_alloc | apply pw_below_drewN | apply below_drew1) | exact HB.out)) hb); clear HB; have HO194 := n0_; have HB := n1_; clear n0_ n1_; clear hb ho40; obtain ⟨Ao41, co41, eo41⟩ := Kd.R_slice HO194.out; subst eo41) | ((with_reducible refine gate_callee (f := 11) rfl ?_); refine goesL_ (some 14) rfl rfl Try.func11 (by kernel_rfl) rfl #[.slice Ao41 y192.length co41] rfl (by (try simp only [List.map_toArray, List.map_cons, List.map_nil]); first | done | rfl | (simp only [List.length_drop, List.length_take]; rfl)) ?_; (with_reducible refine (tree_Check.calls k _ _ y192 t195 t196 _ ?side1 ?side2 A1.out).mono ?_); (case side1 => repeat (first | exact (Kd.R_reads' HO194.out).2.2 | (with_reducible refine Kd.C_alloc ?_ _) | (with_reducible refine Kd.C_drewN ?_ _) | (with_reducible refine Kd.C_drew ?_))); (case side2 => exact (Kd.R_reads' HO194.out).2.1); rintro e w42 ⟨rfl, hb⟩; refine ⟨_, rfl, ?_⟩; have n0_ := Aside0.mk (Kd.R_below (by (with_reducible repeat (first | apply Kd.R_alloc | apply Kd.R_drewN | apply Kd.R_drew)); exact HO194.out) hb); have n1_ := Aside0.mk (below_step (by repeat (first | (with_reducible first | exact HB.out | apply below_alloc | apply pw_below_drewN | apply below_drew1) | exact HB.out)) hb); clear HO194; clear HB; have HO194 := n0_; have HB := n1_; clear n0_ n1_; (try clear hb)) | ((with_reducible refine gate_dst (N := 19) rfl ?_); (try (refine gate_guard (by rfl) ?_; dsimp only)); refine Kd.R_lit k36 _ 36 ?hg (N := 19) ?hd (xs := ([(⟨1, 1, (⟨#[109]⟩ : ByteArray), 1, (⟨#[]⟩ : ByteArray)⟩ : S36), (⟨5, 0, (⟨#[]⟩ : ByteArray), 0, (⟨#[]⟩ : ByteArray)⟩ : S36)] : List (S36))) (inner := [.int .i64 1, .int .i64 1, .string (⟨#[109]⟩ : ByteArray), .int .i64 1, .string (⟨#[]⟩ : ByteArray), .int .i64 5, .int .i64 0, .string (⟨#[]⟩ : ByteArray), .int .i64 0, .string (⟨#[]⟩ : ByteArray)]) (ok := fun _ => True) (okp := fun _ => True) ?hr ?hp (fun _ hk => hk) trivial (Below.refl _ _) (Nat.le_refl _) (by simp) ?_; (case hd => rfl); (case hg => rfl); (case hr => first | (go_simp; done) | (go_simp; rfl)); (case hp => exact (Reps.c5 (show Kd.M k36 _ _ _ (⟨1, 1, (⟨#[109]⟩ : ByteArray), 1, (⟨#[]⟩ : ByteArray)⟩ : S36) [.int .i64 1, .int .i64 1, .string (⟨#[109]⟩ : ByteArray), .int .i64 1, .string (⟨#[]⟩ : ByteArray)] from (k36_mkM _ _ _ (⟨1, 1, (⟨#[109]⟩ : ByteArray), 1, (⟨#[]⟩ : ByteArray)⟩ : S36) )) (Reps.c5 (show Kd.M k36 _ _ _ (⟨5, 0, (⟨#[]⟩ : ByteArray), 0, (⟨#[]⟩ : ByteArray)⟩ : S36) [.int .i64 5, .int .i64 0, .string (⟨#[]⟩ : ByteArray), .int .i64 0, .string (⟨#[]⟩ : ByteArray)] from (k36_mkM _ _ _ (⟨5, 0, (⟨#[]⟩ : ByteArray), 0, (⟨#[]⟩ : ByteArray)⟩ : S36) )) (Reps.none _ _)))); intro v198 w43 ho44 hb hg_ hnew_; clear hg_ hnew_; (first | rw [← Ny197.out] at ho44 | (simp only [Int.reduceToNat] at ho44; rw [← Ny197.out] at ho44)); have n0_ := Aside0.mk (Kd.R_elder' (by (with_reducible repeat (first | apply Kd.R_alloc | apply Kd.R_drewN | apply Kd.R_drew)); exact HO194.out) (Kd.R_base ho44) hb); have n1_ := Aside0.mk (Kd.R_lower (Kd.R_new' ho44 (Kd.R_lt (by (with_reducible repeat (first | apply Kd.R_alloc | apply Kd.R_drewN | apply Kd.R_drew)); exact HO194.out))) (below_size (by repeat (first | (with_reducible first | exact HB.out | apply below_alloc | apply pw_below_drewN | apply below_drew1) | exact HB.out)))); have n2_ := Aside0.mk (below_step (by repeat (first | (with_reducible first | exact HB.out | apply below_alloc | apply pw_below_drewN | apply below_drew1) | exact HB.out)) hb); clear HO194; clear HB; have HO194 := n0_; have HO199 := n1_; have HB := n2_; clear n0_ n1_ n2_; clear hb ho44; obtain ⟨Ao45, co45, eo45⟩ := Kd.R_slice HO199.out; subst eo45) | ((with_reducible refine gate_callee (f := 11) rfl ?_); refine goesL_ (some 22) rfl rfl Try.func11 (by kernel_rfl) rfl #[.slice Ao45 y197.length co45] rfl (by (try simp only [List.map_toArray, List.map_cons, List.map_nil]); first | done | rfl | (simp only [List.length_drop, List.length_take]; rfl)) ?_; (with_reducible refine (tree_Check.calls k _ _ y197 t200 t201 _ ?side1 ?side2 A2.out).mono ?_); (case side1 => repeat (first | exact (Kd.R_reads' HO199.out).2.2 | (with_reducible refine Kd.C_alloc ?_ _) | (with_reducible refine Kd.C_drewN ?_ _) | (with_reducible refine Kd.C_drew ?_))); (case side2 => exact (Kd.R_reads' HO199.out).2.1); rintro e w46 ⟨rfl, hb⟩; refine ⟨_, rfl, ?_⟩; have n0_ := Aside0.mk (Kd.R_below (by (with_reducible repeat (first | apply Kd.R_alloc | apply Kd.R_drewN | apply Kd.R_drew)); exact HO194.out) hb); have n1_ := Aside0.mk (Kd.R_below (by (with_reducible repeat (first | apply Kd.R_alloc | apply Kd.R_drewN | apply Kd.R_drew)); exact HO199.out) hb); have n2_ := Aside0.mk (below_step (by repeat (first | (with_reducible first | exact HB.out | apply below_alloc | apply pw_below_drewN | apply below_drew1) | exact HB.out)) hb); clear HO194; clear HO199; clear HB; have HO194 := n0_; have HO199 := n1_; have HB := n2_; clear n0_ n1_ n2_; (try clear hb)) | ((with_reducible refine gate_callee (f := 17) rfl ?_); refine goesL_ (some 26) rfl rfl Try.func17 (by kernel_rfl) rfl #[.slice Ao41 y192.length co41, .int .i64 0] rfl (by (try simp only [List.map_toArray, List.map_cons, List.map_nil]); first | done | rfl | (simp only [List.length_drop, List.length_take]; rfl)) ?_; (with_reducible refine (tree_Kids.calls k _ _ y192 0 t202 _ ?side1 ?side2 A3.out).mono ?_); (case side1 => repeat (first | exact (Kd.R_reads' HO194.out).2.2 | (with_reducible refine Kd.C_alloc ?_ _) | (with_reducible refine Kd.C_drewN ?_ _) | (with_reducible refine Kd.C_drew ?_))); (case side2 => exact (Kd.R_reads' HO194.out).2.1); rintro e w47 ⟨v203, rfl, ho0, hb⟩; refine ⟨_, rfl, ?_⟩; have n0_ := Aside0.mk (Kd.R_below (by (with_reducible repeat (first | apply Kd.R_alloc | apply Kd.R_drewN | apply Kd.R_drew)); exact HO194.out) hb); have n1_ := Aside0.mk (Kd.R_below (by (with_reducible repeat (first | apply Kd.R_alloc | apply Kd.R_drewN | apply Kd.R_drew)); exact HO199.out) hb); have n2_ := Aside0.mk (Kd.R_lower ho0 (below_size (by repeat (first | (with_reducible first | exact HB.out | apply below_alloc | apply pw_below_drewN | apply below_drew1) | exact HB.out)))); have n3_ := Aside0.mk (below_step (by repeat (first | (with_reducible first | exact HB.out | apply below_alloc | apply pw_below_drewN | apply below_drew1) | exact HB.out)) hb); clear HO194; clear HO199; clear HB; have HO194 := n0_; have HO199 := n1_; have HO204 := n2_; have HB := n3_; clear n0_ n1_ n2_ n3_; (try clear hb); (try clear ho0)) | (go_at_call 14; (with_reducible refine (tree_End.calls k _ _ y192 1 t205 _ ?side1 ?side2 A8.out).mono ?_); (case side1 => repeat (first | exact (Kd.R_reads' HO194.out).2.2 | (with_reducible refine Kd.C_alloc ?_ _) | (with_reducible refine Kd.C_drewN ?_ _) | (with_reducible refine Kd.C_drew ?_))); (case side2 => exact (Kd.R_reads' HO194.out).2.1); rintro e w' ⟨rfl, ⟨nd, rfl⟩⟩) | (go_at_call 14; (with_reducible refine (tree_End.calls k _ _ y192 3 t206 _ ?side1 ?side2 A10.out).mono ?_); (case side1 => repeat (first | exact (Kd.R_reads' HO194.out).2.2 | (with_reducible refine Kd.C_alloc ?_ _) | (with_reducible refine Kd.C_drewN ?_ _) | (with_reducible refine Kd.C_drew ?_))); (case side2 => exact (Kd.R_reads' HO194.out).2.1); rintro e w' ⟨rfl, ⟨nd, rfl⟩⟩; obtain ⟨Ao48, co48, eo48⟩ := Kd.R_slice HO204.out; subst eo48; have p207 : 0 ≤ (0 : Int) := (by omega); have q207 : 0 < (t202.length : Int) := of_decide_eq_true (by first | (with_reducible assumption) | assumption); obtain ⟨ad207, e207, hx207_0⟩ := Kd.at_int (Kd.R_reads' HO204.out).2.2 0 p207 q207; cases e207; have qi207 : (0 < t202.length) = True := eq_true (by omega); (try rw [show ((0 : Int)).toNat = 0 from rfl] at hx207_0); (try rw [Addr.add_zero'] at hx207_0); replace p207 := eq_true p207; replace q207 := eq_true q207) | (go_at_call 21; (with_reducible refine (tree_Depth.calls k _ _ y192 t208 _ ?side1 ?side2 A15.out).mono ?_); (case side1 => repeat (first | exact (Kd.R_reads' HO194.out).2.2 | (with_reducible refine Kd.C_alloc ?_ _) | (with_reducible refine Kd.C_drewN ?_ _) | (with_reducible refine Kd.C_drew ?_))); (case side2 => exact (Kd.R_reads' HO194.out).2.1); rintro e w49 ⟨rfl, hb⟩; have n0_ := Aside0.mk (Kd.R_below (by (with_reducible repeat (first | apply Kd.R_alloc | apply Kd.R_drewN | apply Kd.R_drew)); exact HO194.out) hb); have n1_ := Aside0.mk (Kd.R_below (by (with_reducible repeat (first | apply Kd.R_alloc | apply Kd.R_drewN | apply Kd.R_drew)); exact HO199.out) hb); have n2_ := Aside0.mk (Kd.R_below (by (with_reducible repeat (first | apply Kd.R_alloc | apply Kd.R_drewN | apply Kd.R_drew)); exact HO204.out) hb); have n3_ := Aside0.mk (below_step (by repeat (first | (with_reducible first | exact HB.out | apply below_alloc | apply pw_below_drewN | apply below_drew1) | exact HB.out)) hb); clear HO194; clear HO199; clear HO204; clear HB; have HO194 := n0_; have HO199 := n1_; have HO204 := n2_; have HB := n3_; clear n0_ n1_ n2_ n3_; (try clear hb)) | (go_at_call 23; (with_reducible refine (tree_Expr.calls 18 true _ A17.out).mono ?_); rintro e w' ⟨rfl, ⟨nd, rfl⟩⟩) | (go_at_call 25; (with_reducible refine (tree_Stmt.calls 17 true _ A19.out).mono ?_); rintro e w' ⟨rfl, ⟨nd, rfl⟩⟩) | (go_at_call 23; (with_reducible refine (tree_Expr.calls 17 false _ A21.out).mono ?_); rintro e w' ⟨rfl, ⟨nd, rfl⟩⟩) | (go_at_call 13; (with_reducible refine (tree_Sub.calls k _ _ y192 1 t212 _ ?side1 ?side2 A34.out).mono ?_); (case side1 => repeat (first | exact (Kd.R_reads' HO194.out).2.2 | (with_reducible refine Kd.C_alloc ?_ _) | (with_reducible refine Kd.C_drewN ?_ _) | (with_reducible refine Kd.C_drew ?_))); (case side2 => exact (Kd.R_reads' HO194.out).2.1); rintro e w50 ⟨v213, rfl, ho0, hb⟩; have n0_ := Aside0.mk (Kd.R_elder' (by (with_reducible repeat (first | apply Kd.R_alloc | apply Kd.R_drewN | apply Kd.R_drew)); exact HO194.out) (Kd.R_base ho0) hb); have n1_ := Aside0.mk (Kd.R_elder' (by (with_reducible repeat (first | apply Kd.R_alloc | apply Kd.R_drewN | apply Kd.R_drew)); exact HO199.out) (Kd.R_base ho0) hb); have n2_ := Aside0.mk (Kd.R_below (by (with_reducible repeat (first | apply Kd.R_alloc | apply Kd.R_drewN | apply Kd.R_drew)); exact HO204.out) hb); have n3_ := Aside0.mk (Kd.R_lower (Kd.R_new' (Kd.R_new' ho0 (Kd.R_lt (by (with_reducible repeat (first | apply Kd.R_alloc | apply Kd.R_drewN | apply Kd.R_drew)); exact HO194.out))) (Kd.R_lt (by (with_reducible repeat (first | apply Kd.R_alloc | apply Kd.R_drewN | apply Kd.R_drew)); exact HO199.out))) (below_size (by repeat (first | (with_reducible first | exact HB.out | apply below_alloc | apply pw_below_drewN | apply below_drew1) | exact HB.out)))); have n4_ := Aside0.mk (below_step (by repeat (first | (with_reducible first | exact HB.out | apply below_alloc | apply pw_below_drewN | apply below_drew1) | exact HB.out)) hb); clear HO194; clear HO199; clear HO204; clear HB; have HO194 := n0_; have HO199 := n1_; have HO204 := n2_; have HO214 := n3_; have HB := n4_; clear n0_ n1_ n2_ n3_ n4_; (try clear hb); (try clear ho0); obtain ⟨Ao51, co51, eo51⟩ := Kd.R_slice HO214.out; subst eo51) | (go_at_call 27; (with_reducible refine (tree_Same.calls k _ _ y192 _ _ y192 true _ ?side1 ?side2 ?side3 ?side4 A36.out).mono ?_); (case side1 => repeat (first | exact (Kd.R_reads' HO194.out).2.2 | (with_reducible refine Kd.C_alloc ?_ _) | (with_reducible refine Kd.C_drewN ?_ _) | (with_reducible refine Kd.C_drew ?_))); (case side2 => exact (Kd.R_reads' HO194.out).2.1); (case side3 => repeat (first | exact (Kd.R_reads' HO194.out).2.2 | (with_reducible refine Kd.C_alloc ?_ _) | (with_reducible refine Kd.C_drewN ?_ _) | (with_reducible refine Kd.C_drew ?_))); (case side4 => exact (Kd.R_reads' HO194.out).2.1); rintro e w52 ⟨rfl, hb⟩; have n0_ := Aside0.mk (Kd.R_below (by (with_reducible repeat (first | apply Kd.R_alloc | apply Kd.R_drewN | apply Kd.R_drew)); exact HO194.out) hb); have n1_ := Aside0.mk (Kd.R_below (by (with_reducible repeat (first | apply Kd.R_alloc | apply Kd.R_drewN | apply Kd.R_drew)); exact HO199.out) hb); have n2_ := Aside0.mk (Kd.R_below (by (with_reducible repeat (first | apply Kd.R_alloc | apply Kd.R_drewN | apply Kd.R_drew)); exact HO204.out) hb); have n3_ := Aside0.mk (Kd.R_below (by (with_reducible repeat (first | apply Kd.R_alloc | apply Kd.R_drewN | apply Kd.R_drew)); exact HO214.out) hb); have n4_ := Aside0.mk (below_step (by repeat (first | (with_reducible first | exact HB.out | apply below_alloc | apply pw_below_drewN | apply below_drew1) | exact HB.out)) hb); clear HO194; clear HO199; clear HO204; clear HO214; clear HB; have HO194 := n0_; have HO199 := n1_; have HO204 := n2_; have HO214 := n3_; have HB := n4_; clear n0_ n1_ n2_ n3_ n4_; (try clear hb)) | (go_at_call 27; (with_reducible refine (tree_Same.calls k _ _ y192 _ _ y197 t216 _ ?side1 ?side2 ?side3 ?side4 A38.out).mono ?_); (case side1 => repeat (first | exact (Kd.R_reads' HO194.out).2.2 | (with_reducible refine Kd.C_alloc ?_ _) | (with_reducible refine Kd.C_drewN ?_ _) | (with_reducible refine Kd.C_drew ?_))); (case side2 => exact (Kd.R_reads' HO194.out).2.1); (case side3 => repeat (first | exact (Kd.R_reads' HO199.out).2.2 | (with_reducible refine Kd.C_alloc ?_ _) | (with_reducible refine Kd.C_drewN ?_ _) | (with_reducible refine Kd.C_drew ?_))); (case side4 => exact (Kd.R_reads' HO199.out).2.1); rintro e w53 ⟨rfl, hb⟩; have n0_ := Aside0.mk (Kd.R_below (by (with_reducible repeat (first | apply Kd.R_alloc | apply Kd.R_drewN | apply Kd.R_drew)); exact HO194.out) hb); have n1_ := Aside0.mk (Kd.R_below (by (with_reducible repeat (first | apply Kd.R_alloc | apply Kd.R_drewN | apply Kd.R_drew)); exact HO199.out) hb); have n2_ := Aside0.mk (Kd.R_below (by (with_reducible repeat (first | apply Kd.R_alloc | apply Kd.R_drewN | apply Kd.R_drew)); exact HO204.out) hb); have n3_ := Aside0.mk (Kd.R_below (by (with_reducible repeat (first | apply Kd.R_alloc | apply Kd.R_drewN | apply Kd.R_drew)); exact HO214.out) hb); have n4_ := Aside0.mk (below_step (by repeat (first | (with_reducible first | exact HB.out | apply below_alloc | apply pw_below_drewN | apply below_drew1) | exact HB.out)) hb); clear HO194; clear HO199; clear HO204; clear HO214; clear HB; have HO194 := n0_; have HO199 := n1_; have HO204 := n2_; have HO214 := n3_; have HB := n4_; clear n0_ n1_ n2_ n3_ n4_; (try clear hb)))
                                go_ret
                                exact ⟨by first | rfl | (simp [errW_none, errW_some] <;> rfl) | (simp [*, errW_none, errW_some] <;> rfl), by repeat (first | (with_reducible first | exact HB.out | apply below_alloc | apply pw_below_drewN | apply below_drew1) | exact HB.out)⟩
                              · replace c37 := Bool.eq_false_iff.mpr c37
                                subst c37
                                have H1 : (some false) = some r := by rw [if_neg (show ¬ (false = true) by decide)] at H; exact H
                                clear H
                                have H := H1
                                clear H1
                                exact absurd ((Option.some.inj H).trans HR.out) (by decide)
                            · rw [if_neg c35] at H
                              have c35b0 : ((t212.length : Int) == 2) = false := beq_eq_false_iff_ne.mpr c35
                              have c35b1 : ((t212.length : Int) != 2) = true := bne_iff_ne.mpr c35
                              exact absurd ((Option.some.inj H).trans HR.out) (by decide)
                        · replace c20 := Bool.eq_false_iff.mpr c20
                          subst c20
                          have H1 : (some false) = some r := by rw [if_neg (show ¬ (false = true) by decide)] at H; exact H
                          clear H
                          have H := H1
                          clear H1
                          exact absurd ((Option.some.inj H).trans HR.out) (by decide)
                      · replace c18 := Bool.eq_false_iff.mpr c18
                        subst c18
                        have H1 : (some false) = some r := by rw [if_neg (show ¬ (false = true) by decide)] at H; exact H
                        clear H
                        have H := H1
                        clear H1
                        exact absurd ((Option.some.inj H).trans HR.out) (by decide)
                    · rw [if_neg c16] at H
                      have c16b0 : (t208 == 3) = false := beq_eq_false_iff_ne.mpr c16
                      have c16b1 : (t208 != 3) = true := bne_iff_ne.mpr c16
                      exact absurd ((Option.some.inj H).trans HR.out) (by decide)
                  · rw [if_neg c14] at H
                    have c14b0 : ((rd t202 0) == 1) = false := beq_eq_false_iff_ne.mpr c14
                    have c14b1 : ((rd t202 0) != 1) = true := bne_iff_ne.mpr c14
                    exact absurd ((Option.some.inj H).trans HR.out) (by decide)
                · rw [if_neg c13] at H
                  exact absurd H (by simp)
              · rw [if_neg c12] at H
                have c12b0 : ((t202.length : Int) == 1) = false := beq_eq_false_iff_ne.mpr c12
                have c12b1 : ((t202.length : Int) != 1) = true := bne_iff_ne.mpr c12
                exact absurd ((Option.some.inj H).trans HR.out) (by decide)
            · rw [if_neg c11] at H
              have c11b0 : (t206 == (-1)) = false := beq_eq_false_iff_ne.mpr c11
              have c11b1 : (t206 != (-1)) = true := bne_iff_ne.mpr c11
              exact absurd ((Option.some.inj H).trans HR.out) (by decide)
          · rw [if_neg c9] at H
            have c9b0 : (t205 == 3) = false := beq_eq_false_iff_ne.mpr c9
            have c9b1 : (t205 != 3) = true := bne_iff_ne.mpr c9
            exact absurd ((Option.some.inj H).trans HR.out) (by decide)
        · rw [if_neg c7] at H
          have c7b0 : (t201 == 0) = false := beq_eq_false_iff_ne.mpr c7
          have c7b1 : (t201 != 0) = true := bne_iff_ne.mpr c7
          exact absurd ((Option.some.inj H).trans HR.out) (by decide)
      · rw [if_neg c6] at H
        have c6b0 : (t200 == 4) = false := beq_eq_false_iff_ne.mpr c6
        have c6b1 : (t200 != 4) = true := bne_iff_ne.mpr c6
        exact absurd ((Option.some.inj H).trans HR.out) (by decide)
    · rw [if_neg c5] at H
      have c5b0 : (t196 == 0) = false := beq_eq_false_iff_ne.mpr c5
      have c5b1 : (t196 != 0) = true := bne_iff_ne.mpr c5
      exact absurd ((Option.some.inj H).trans HR.out) (by decide)
  · rw [if_neg c4] at H
    have c4b0 : (t195 == 0) = false := beq_eq_false_iff_ne.mpr c4
    have c4b1 : (t195 != 0) = true := bne_iff_ne.mpr c4
    exact absurd ((Option.some.inj H).trans HR.out) (by decide)

end Go.Proofs.Ytclhaajlgmiilaa.Q
end
section
namespace Go.Proofs.Ytclhaajlgmiilaa.Q
open Go.RowKit Go.Proofs.YtclhaajlgmiilaaW.PrintWords Go.Proofs.YtclhaajlgmiilaaW.PrintLast Go.Proofs.YtclhaajlgmiilaaW.PrintMore
attribute [local go_sem] max2_int min2_int max_two min_two max_three min_three max_four min_four
set_option linter.unusedVariables false
set_option linter.unusedSimpArgs false

/-! ### chrysalisref09_Light: function 9 -/
def chrysalisref09_Light.l0 : Nat → List (S36) → Int → Option (Bool)
  | 0, _, _ => none
  | k + 1, x0, x3 => if x3 < (x0.length : Int) then (if 0 ≤ x3 then (if (((rd_T36 x0 x3).f2).size : Int) > 2000 then (some false) else (if (((rd_T36 x0 x3).f4).size : Int) > 2000 then (some false) else (chrysalisref09_Light.l0 k x0 (wrap64 (x3 + 1))))) else (none)) else (some true)
def chrysalisref09_Light.f (k : Nat) (l0 : List (S36)) : Option (Bool) := if (l0.length : Int) > 2100 then (some false) else (chrysalisref09_Light.l0 k l0 0)
theorem chrysalisref09_Light.mono_l : ∀ k, (∀ y0 y1, LeO (chrysalisref09_Light.l0 k y0 y1) (chrysalisref09_Light.l0 (k + 1) y0 y1))
  | 0 => fun _ _ r h => by simp [chrysalisref09_Light.l0] at h
  | k + 1 => by
    have ih0 := chrysalisref09_Light.mono_l k
    · intro y0 y1
      unfold chrysalisref09_Light.l0
      repeat' first
      | (with_reducible exact ih0 _ _)
      | (with_reducible exact LeO.refl _)
      | (with_reducible exact LeO.none _)
      | (with_reducible refine LeO.ite ?_ ?_)
      | (with_reducible refine LeO.bind ?_ (fun _ => ?_))
      | exact ih0 _ _
      | exact LeO.none _
      | refine LeO.ite ?_ ?_
      | refine LeO.bind ?_ (fun _ => ?_)
theorem chrysalisref09_Light.mono : ∀ a0 k, LeO (chrysalisref09_Light.f k a0) (chrysalisref09_Light.f (k + 1) a0) := by
  intro a0 k
  have ih0 := chrysalisref09_Light.mono_l k
  unfold chrysalisref09_Light.f
  repeat' first
      | (with_reducible exact ih0 _ _)
      | (with_reducible exact LeO.refl _)
      | (with_reducible exact LeO.none _)
      | (with_reducible refine LeO.ite ?_ ?_)
      | (with_reducible refine LeO.bind ?_ (fun _ => ?_))
      | exact ih0 _ _
      | exact LeO.none _
      | refine LeO.ite ?_ ?_
      | refine LeO.bind ?_ (fun _ => ?_)
set_option maxHeartbeats 8000000 in
set_option maxRecDepth 100000 in
theorem chrysalisref09_Light.calls (k : Nat) (A0 : Option Addr) (c0 : Nat) (l0 : List (S36)) (r : Bool) (w : World) (hr0 : Kd.C k36 w A0 l0.length l0) (hc0 : l0.length ≤ c0) (h : chrysalisref09_Light.f k l0 = some r) :
    Calls Try.prog 9 #[.slice A0 l0.length c0] w fun e w' => e = .returned (.bool r) ∧ Drawn0 w w' := by
  have HR0 := Aside0.mk hr0
  have HC0 := Aside0.mk hc0
  clear hr0 hc0
  have H : (if (l0.length : Int) > 2100 then (some false) else (chrysalisref09_Light.l0 k l0 0)) = some r := h
  clear h
  by_cases c2 : (l0.length : Int) > 2100
  · rw [if_pos c2] at H
    have c2b0 : decide (2100 < (l0.length : Int)) = true := decide_eq_true c2
    have c2b1 : decide (2100 < l0.length) = true := decide_eq_true (by omega)
    clear c2
    obtain rfl := Option.some.inj H
    go_enter Try.func9, Try.ntmps9
    go_wp2
    go_ret
    exact ⟨by first | rfl | (simp; done) | (simp [*]; done), by repeat (first | exact Drawn0.refl _ | apply Drawn0.step)⟩
  · rw [if_neg c2] at H
    have c2b0 : decide (2100 < (l0.length : Int)) = false := decide_eq_false c2
    have c2b1 : decide (2100 < l0.length) = false := decide_eq_false (by omega)
    clear c2
    have H' := Aside0.mk H
    clear H
    go_enter Try.func9, Try.ntmps9
    go_wp2
    go_loopg [3] k (fun kq v3 w' => ∃ (x3_1 : Int), v3 = .int .i64 x3_1 ∧ Aside0 (chrysalisref09_Light.l0 kq l0 x3_1 = some r) ∧ Aside0 (kq ≤ k) ∧ Drawn0 w w')
    case atStart => exact ⟨(0), (by first | rfl | (simp; done) | (simp [*]; done)), H', ⟨Nat.le_refl _⟩, by repeat (first | exact Drawn0.refl _ | apply Drawn0.step)⟩
    case round =>
      clear H'
      try clear c2
      try clear c2b0
      try clear c2b1
      try clear p2
      obtain ⟨x3_1, rfl, HA, HK1, ⟨m1, rfl⟩⟩ := hrel
      cases gk with
      | zero => exact absurd HA.out (by simp [chrysalisref09_Light.l0])
      | succ k1 =>
        have H := HA.out
        clear HA
        simp only [chrysalisref09_Light.l0] at H
        by_cases c3 : x3_1 < (l0.length : Int)
        · rw [if_pos c3] at H
          have c3b0 : decide (x3_1 < (l0.length : Int)) = true := decide_eq_true c3
          clear c3
          by_cases c4 : 0 ≤ x3_1
          · rw [if_pos c4] at H
            have c4b0 : decide (0 ≤ x3_1) = true := decide_eq_true c4
            clear c4
            by_cases c5 : (((rd_T36 l0 x3_1).f2).size : Int) > 2000
            · rw [if_pos c5] at H
              have c5b0 : decide (2000 < (((rd_T36 l0 x3_1).f2).size : Int)) = true := decide_eq_true c5
              have c5b1 : decide (2000 < ((rd_T36 l0 x3_1).f2).size) = true := decide_eq_true (by omega)
              clear c5
              obtain rfl := Option.some.inj H
              have p101 : 0 ≤ (x3_1 : Int) := of_decide_eq_true (by first | (with_reducible assumption) | assumption)
              have q101 : x3_1 < (l0.length : Int) := of_decide_eq_true (by first | (with_reducible assumption) | assumption)
              obtain ⟨ad101, e101, hx101_0, hx101_1, hx101_2, hx101_3, hx101_4⟩ := at_T36 HR0.out x3_1 p101 q101
              cases e101
              replace p101 := eq_true p101
              replace q101 := eq_true q101
              go_wp2
              go_ret
              exact ⟨by first | rfl | (simp; done) | (simp [*]; done), by repeat (first | exact Drawn0.refl _ | apply Drawn0.step)⟩
            · rw [if_neg c5] at H
              have c5b0 : decide (2000 < (((rd_T36 l0 x3_1).f2).size : Int)) = false := decide_eq_false c5
              have c5b1 : decide (2000 < ((rd_T36 l0 x3_1).f2).size) = false := decide_eq_false (by omega)
              clear c5
              by_cases c6 : (((rd_T36 l0 x3_1).f4).size : Int) > 2000
              · rw [if_pos c6] at H
                have c6b0 : decide (2000 < (((rd_T36 l0 x3_1).f4).size : Int)) = true := decide_eq_true c6
                have c6b1 : decide (2000 < ((rd_T36 l0 x3_1).f4).size) = true := decide_eq_true (by omega)
                clear c6
                obtain rfl := Option.some.inj H
                have p101 : 0 ≤ (x3_1 : Int) := of_decide_eq_true (by first | (with_reducible assumption) | assumption)
                have q101 : x3_1 < (l0.length : Int) := of_decide_eq_true (by first | (with_reducible assumption) | assumption)
                obtain ⟨ad101, e101, hx101_0, hx101_1, hx101_2, hx101_3, hx101_4⟩ := at_T36 HR0.out x3_1 p101 q101
                cases e101
                replace p101 := eq_true p101
                replace q101 := eq_true q101
                have p102 : 0 ≤ (x3_1 : Int) := of_decide_eq_true (by first | (with_reducible assumption) | assumption)
                have q102 : x3_1 < (l0.length : Int) := of_decide_eq_true (by first | (with_reducible assumption) | assumption)
                obtain ⟨ad102, e102, hx102_0, hx102_1, hx102_2, hx102_3, hx102_4⟩ := at_T36 HR0.out x3_1 p102 q102
                obtain rfl : ad101 = ad102 := (by injection e102)
                replace p102 := eq_true p102
                replace q102 := eq_true q102
                go_wp2
                go_ret
                exact ⟨by first | rfl | (simp; done) | (simp [*]; done), by repeat (first | exact Drawn0.refl _ | apply Drawn0.step)⟩
              · rw [if_neg c6] at H
                have c6b0 : decide (2000 < (((rd_T36 l0 x3_1).f4).size : Int)) = false := decide_eq_false c6
                have c6b1 : decide (2000 < ((rd_T36 l0 x3_1).f4).size) = false := decide_eq_false (by omega)
                clear c6
                have H' := Aside0.mk H
                clear H
                have p101 : 0 ≤ (x3_1 : Int) := of_decide_eq_true (by first | (with_reducible assumption) | assumption)
                have q101 : x3_1 < (l0.length : Int) := of_decide_eq_true (by first | (with_reducible assumption) | assumption)
                obtain ⟨ad101, e101, hx101_0, hx101_1, hx101_2, hx101_3, hx101_4⟩ := at_T36 HR0.out x3_1 p101 q101
                cases e101
                replace p101 := eq_true p101
                replace q101 := eq_true q101
                have p102 : 0 ≤ (x3_1 : Int) := of_decide_eq_true (by first | (with_reducible assumption) | assumption)
                have q102 : x3_1 < (l0.length : Int) := of_decide_eq_true (by first | (with_reducible assumption) | assumption)
                obtain ⟨ad102, e102, hx102_0, hx102_1, hx102_2, hx102_3, hx102_4⟩ := at_T36 HR0.out x3_1 p102 q102
                obtain rfl : ad101 = ad102 := (by injection e102)
                replace p102 := eq_true p102
                replace q102 := eq_true q102
                go_wp2
                go_roundg k1
                case measure => have := HK1.out; omega
                case rel => exact ⟨(wrap64 (x3_1 + 1)), (by first | rfl | (simp; done) | (simp [*]; done)), H', ⟨by have := HK1.out; omega⟩, by repeat (first | exact Drawn0.refl _ | apply Drawn0.step)⟩
          · rw [if_neg c4] at H
            exact absurd H (by simp)
        · rw [if_neg c3] at H
          have c3b0 : decide (x3_1 < (l0.length : Int)) = false := decide_eq_false c3
          clear c3
          obtain rfl := Option.some.inj H
          go_wp2
          go_ret
          exact ⟨by first | rfl | (simp; done) | (simp [*]; done), by repeat (first | exact Drawn0.refl _ | apply Drawn0.step)⟩

end Go.Proofs.Ytclhaajlgmiilaa.Q
end
section
namespace Go.Proofs.Ytclhaajlgmiilaa.Q
open Go.RowKit Go.Proofs.YtclhaajlgmiilaaW.PrintWords Go.Proofs.YtclhaajlgmiilaaW.PrintLast Go.Proofs.YtclhaajlgmiilaaW.PrintMore
attribute [local go_sem] max2_int min2_int max_two min_two max_three min_three max_four min_four
set_option linter.unusedVariables false
set_option linter.unusedSimpArgs false

/-! ### chrysalislaw09_TreeRight: function 7 -/
def chrysalislaw09_TreeRight.l0 : Nat → List (S36) → Int → Option (Bool)
  | 0, _, _ => none
  | k + 1, x0, x5 => if x5 < (x0.length : Int) then ((tree_End.f k x0 x5).bind fun t394 => (if t394 < 0 then (some false) else (if 0 ≤ x5 then (if ((rd_T36 x0 x5).f0) < 1 then (some false) else (if ((rd_T36 x0 x5).f0) > 30 then (some false) else (if x5 > 0 then (if ((rd_T36 x0 x5).f0) = 1 then (some false) else (chrysalislaw09_TreeRight.l0 k x0 (wrap64 (x5 + 1)))) else (chrysalislaw09_TreeRight.l0 k x0 (wrap64 (x5 + 1)))))) else (none)))) else (if (x0.length : Int) = 0 then (some false) else (if 0 ≤ (wrap64 ((x0.length : Int) - 1)) then (if (wrap64 ((x0.length : Int) - 1)) ≤ (x0.length : Int) then ((tree_Check.f k (x0.take ((wrap64 ((x0.length : Int) - 1)) : Int).toNat)).bind fun bt402 => ((some (([] : List (S36)) : List (S36))).bind fun y404 => (if y404.length + x0.length < 2513169434916 then ((some (y404 ++ x0 : List (S36))).bind fun y407 => (if y407.length < 2513169434916 then ((tree_Check.f k (y407 ++ [(⟨18, 0, (⟨#[]⟩ : ByteArray), 0, (⟨#[]⟩ : ByteArray)⟩ : S36)])).bind fun bt413 => (if bt402.1 = 0 then (some false) else (if bt413.1 = 0 then (some false) else ((chrysalislaw09_known.f k).bind fun t415 => (some t415))))) else (none))) else (none)))) else (none)) else (none)))
def chrysalislaw09_TreeRight.f (k : Nat) (l0 : List (S36)) : Option (Bool) := (chrysalisref09_Light.f k l0).bind fun t389 => (if t389 = true then ((tree_Check.f k l0).bind fun bt391 => (if bt391.1 = 0 then (chrysalislaw09_TreeRight.l0 k l0 0) else ((chrysalislaw09_known.f k).bind fun t393 => (some t393)))) else ((chrysalislaw09_known.f k).bind fun t390 => (some t390)))
theorem chrysalislaw09_TreeRight.mono_l : ∀ k, (∀ y0 y1, LeO (chrysalislaw09_TreeRight.l0 k y0 y1) (chrysalislaw09_TreeRight.l0 (k + 1) y0 y1))
  | 0 => fun _ _ r h => by simp [chrysalislaw09_TreeRight.l0] at h
  | k + 1 => by
    have ih0 := chrysalislaw09_TreeRight.mono_l k
    · intro y0 y1
      unfold chrysalislaw09_TreeRight.l0
      repeat' first
      | (with_reducible exact ih0 _ _)
      | (with_reducible exact chrysalislaw09_known.mono _)
      | (with_reducible exact chrysalisref09_Light.mono _ _)
      | (with_reducible exact tree_Check.mono _ _)
      | (with_reducible exact tree_End.mono _ _ _)
      | (with_reducible exact LeO.refl _)
      | (with_reducible exact LeO.none _)
      | (with_reducible refine LeO.ite ?_ ?_)
      | (with_reducible refine LeO.bind ?_ (fun _ => ?_))
      | exact ih0 _ _
      | exact chrysalislaw09_known.mono _
      | exact chrysalisref09_Light.mono _ _
      | exact tree_Check.mono _ _
      | exact tree_End.mono _ _ _
      | exact LeO.none _
      | refine LeO.ite ?_ ?_
      | refine LeO.bind ?_ (fun _ => ?_)
theorem chrysalislaw09_TreeRight.mono : ∀ a0 k, LeO (chrysalislaw09_TreeRight.f k a0) (chrysalislaw09_TreeRight.f (k + 1) a0) := by
  intro a0 k
  have ih0 := chrysalislaw09_TreeRight.mono_l k
  unfold chrysalislaw09_TreeRight.f
  repeat' first
      | (with_reducible exact ih0 _ _)
      | (with_reducible exact chrysalislaw09_known.mono _)
      | (with_reducible exact chrysalisref09_Light.mono _ _)
      | (with_reducible exact tree_Check.mono _ _)
      | (with_reducible exact tree_End.mono _ _ _)
      | (with_reducible exact LeO.refl _)
      | (with_reducible exact LeO.none _)
      | (with_reducible refine LeO.ite ?_ ?_)
      | (with_reducible refine LeO.bind ?_ (fun _ => ?_))
      | exact ih0 _ _
      | exact chrysalislaw09_known.mono _
      | exact chrysalisref09_Light.mono _ _
      | exact tree_Check.mono _ _
      | exact tree_End.mono _ _ _
      | exact LeO.none _
      | refine LeO.ite ?_ ?_
      | refine LeO.bind ?_ (fun _ => ?_)
set_option maxHeartbeats 8000000 in
set_option maxRecDepth 100000 in
theorem chrysalislaw09_TreeRight.calls (k : Nat) (A0 : Option Addr) (c0 : Nat) (l0 : List (S36)) (r : Bool) (w : World) (hr0 : Kd.C k36 w A0 l0.length l0) (hc0 : l0.length ≤ c0) (h : chrysalislaw09_TreeRight.f k l0 = some r) (hr : r = true) :
    Calls Try.prog 7 #[.slice A0 l0.length c0] w fun e w' => e = .returned (.bool r) ∧ Below w.heap.size w w' := by
  have hu36 := Try.underlying36
  have HR0 := Aside0.mk hr0
  have HC0 := Aside0.mk hc0
  clear hr0 hc0
  have HB := Aside0.mk (Below.refl w.heap.size w)
  have HR := Aside0.mk hr
  clear hr
  have H : ((chrysalisref09_Light.f k l0).bind fun t389 => (if t389 = true then ((tree_Check.f k l0).bind fun bt391 => (if bt391.1 = 0 then (chrysalislaw09_TreeRight.l0 k l0 0) else ((chrysalislaw09_known.f k).bind fun t393 => (some t393)))) else ((chrysalislaw09_known.f k).bind fun t390 => (some t390)))) = some r := h
  clear h
  replace H := Option.bind_eq_some_iff.mp H
  obtain ⟨t389, A20, H⟩ := H
  try dsimp only at H
  have A2 := Aside0.mk A20
  clear A20
  by_cases c3 : t389 = true
  · subst c3
    rw [if_pos rfl] at H
    have H1 := H
    clear H
    have H := H1
    clear H1
    replace H := Option.bind_eq_some_iff.mp H
    obtain ⟨⟨t391, t392⟩, A40, H⟩ := H
    replace H : (if t391 = 0 then (chrysalislaw09_TreeRight.l0 k l0 0) else ((chrysalislaw09_known.f k).bind fun t393 => (some t393))) = some r := H
    have A4 := Aside0.mk A40
    clear A40
    by_cases c5 : t391 = 0
    · rw [if_pos c5] at H
      have c5b0 : (t391 == 0) = true := beq_iff_eq.mpr c5
      have c5b1 : (t391 != 0) = false := bne_eq_false_iff_eq.mpr c5
      clear c5
      have H' := Aside0.mk H
      clear H
      go_enter Try.func7, Try.ntmps7
      go_wp2_with (first | ((with_reducible refine gate_callee (f := 9) rfl ?_); refine goesL_ (some 12) rfl rfl Try.func9 (by kernel_rfl) rfl #[.slice A0 l0.length c0] rfl (by (try simp only [List.map_toArray, List.map_cons, List.map_nil]); first | done | rfl | (simp only [List.length_drop, List.length_take]; rfl)) ?_; (with_reducible refine (chrysalisref09_Light.calls k _ _ l0 true _ ?side1 ?side2 A2.out).mono ?_); (case side1 => repeat (first | exact HR0.out | (with_reducible refine Kd.C_alloc ?_ _) | (with_reducible refine Kd.C_drewN ?_ _) | (with_reducible refine Kd.C_drew ?_))); (case side2 => exact HC0.out); rintro e w' ⟨rfl, ⟨nd, rfl⟩⟩; refine ⟨_, rfl, ?_⟩) | ((with_reducible refine gate_callee (f := 11) rfl ?_); refine goesL_ (some 17) rfl rfl Try.func11 (by kernel_rfl) rfl #[.slice A0 l0.length c0] rfl (by (try simp only [List.map_toArray, List.map_cons, List.map_nil]); first | done | rfl | (simp only [List.length_drop, List.length_take]; rfl)) ?_; (with_reducible refine (tree_Check.calls k _ _ l0 t391 t392 _ ?side1 ?side2 A4.out).mono ?_); (case side1 => repeat (first | exact HR0.out | (with_reducible refine Kd.C_alloc ?_ _) | (with_reducible refine Kd.C_drewN ?_ _) | (with_reducible refine Kd.C_drew ?_))); (case side2 => exact HC0.out); rintro e w6 ⟨rfl, hb⟩; refine ⟨_, rfl, ?_⟩; have n0_ := Aside0.mk (below_step (by repeat (first | (with_reducible first | exact HB.out | apply below_alloc | apply pw_below_drewN | apply below_drew1) | exact HB.out)) hb); clear HB; have HB := n0_; clear n0_; (try clear hb)))
      go_loopg [5] k (fun kq v5 w' => ∃ (x5_1 : Int), v5 = .int .i64 x5_1 ∧ Aside0 (chrysalislaw09_TreeRight.l0 kq l0 x5_1 = some r) ∧ Aside0 (kq ≤ k) ∧ Aside0 (Below w.heap.size w w'))
      case atStart => exact ⟨(0), (by first | rfl | (simp; done) | (simp [*]; done)), H', ⟨Nat.le_refl _⟩, ⟨by repeat (first | (with_reducible first | exact HB.out | apply below_alloc | apply pw_below_drewN | apply below_drew1) | exact HB.out)⟩⟩
      case round =>
        clear H'
        try clear c1
        try clear p2
        try clear c3
        try clear c5
        try clear c5b0
        try clear c5b1
        obtain ⟨x5_1, rfl, HA, HK1, HB⟩ := hrel
        cases gk with
        | zero => exact absurd HA.out (by simp [chrysalislaw09_TreeRight.l0])
        | succ k1 =>
          have H := HA.out
          clear HA
          simp only [chrysalislaw09_TreeRight.l0] at H
          by_cases c7 : x5_1 < (l0.length : Int)
          · rw [if_pos c7] at H
            have c7b0 : decide (x5_1 < (l0.length : Int)) = true := decide_eq_true c7
            clear c7
            replace H := Option.bind_eq_some_iff.mp H
            obtain ⟨t394, A80, H⟩ := H
            try dsimp only at H
            have A8 := Aside0.mk A80
            clear A80
            by_cases c9 : t394 < 0
            · rw [if_pos c9] at H
              have c9b0 : decide (t394 < 0) = true := decide_eq_true c9
              clear c9
              exact absurd ((Option.some.inj H).trans HR.out) (by decide)
            · rw [if_neg c9] at H
              have c9b0 : decide (t394 < 0) = false := decide_eq_false c9
              clear c9
              by_cases c10 : 0 ≤ x5_1
              · rw [if_pos c10] at H
                have c10b0 : decide (0 ≤ x5_1) = true := decide_eq_true c10
                clear c10
                by_cases c11 : ((rd_T36 l0 x5_1).f0) < 1
                · rw [if_pos c11] at H
                  have c11b0 : decide (((rd_T36 l0 x5_1).f0) < 1) = true := decide_eq_true c11
                  clear c11
                  exact absurd ((Option.some.inj H).trans HR.out) (by decide)
                · rw [if_neg c11] at H
                  have c11b0 : decide (((rd_T36 l0 x5_1).f0) < 1) = false := decide_eq_false c11
                  clear c11
                  by_cases c12 : ((rd_T36 l0 x5_1).f0) > 30
                  · rw [if_pos c12] at H
                    have c12b0 : decide (30 < ((rd_T36 l0 x5_1).f0)) = true := decide_eq_true c12
                    clear c12
                    exact absurd ((Option.some.inj H).trans HR.out) (by decide)
                  · rw [if_neg c12] at H
                    have c12b0 : decide (30 < ((rd_T36 l0 x5_1).f0)) = false := decide_eq_false c12
                    clear c12
                    by_cases c13 : x5_1 > 0
                    · rw [if_pos c13] at H
                      have c13b0 : decide (0 < x5_1) = true := decide_eq_true c13
                      clear c13
                      by_cases c14 : ((rd_T36 l0 x5_1).f0) = 1
                      · rw [if_pos c14] at H
                        have c14b0 : (((rd_T36 l0 x5_1).f0) == 1) = true := beq_iff_eq.mpr c14
                        have c14b1 : (((rd_T36 l0 x5_1).f0) != 1) = false := bne_eq_false_iff_eq.mpr c14
                        clear c14
                        exact absurd ((Option.some.inj H).trans HR.out) (by decide)
                      · rw [if_neg c14] at H
                        have c14b0 : (((rd_T36 l0 x5_1).f0) == 1) = false := beq_eq_false_iff_ne.mpr c14
                        have c14b1 : (((rd_T36 l0 x5_1).f0) != 1) = true := bne_iff_ne.mpr c14
                        have H' := Aside0.mk H
                        clear H
                        go_wp2_with (first | ((with_reducible refine gate_callee (f := 14) rfl ?_); refine goesL_ (some 31) rfl rfl Try.func14 (by kernel_rfl) rfl #[.slice A0 l0.length c0, .int .i64 x5_1] rfl (by (try simp only [List.map_toArray, List.map_cons, List.map_nil]); first | done | rfl | (simp only [List.length_drop, List.length_take]; rfl)) ?_; (with_reducible refine (tree_End.calls k1 _ _ l0 x5_1 t394 _ ?side1 ?side2 A8.out).mono ?_); (case side1 => repeat (first | exact (Kd.C_below HR0.out HB.out) | (with_reducible refine Kd.C_alloc ?_ _) | (with_reducible refine Kd.C_drewN ?_ _) | (with_reducible refine Kd.C_drew ?_))); (case side2 => exact HC0.out); rintro e w' ⟨rfl, ⟨nd, rfl⟩⟩; refine ⟨_, rfl, ?_⟩; have p395 : 0 ≤ (x5_1 : Int) := of_decide_eq_true (by first | (with_reducible assumption) | assumption); have q395 : x5_1 < (l0.length : Int) := of_decide_eq_true (by first | (with_reducible assumption) | assumption); obtain ⟨ad395, e395, hx395_0, hx395_1, hx395_2, hx395_3, hx395_4⟩ := at_T36 HR0.out x5_1 p395 q395; cases e395; replace hx395_0 := (HB.out.cell (World.block_lt_of_cell? w _ hx395_0)).trans hx395_0; replace hx395_1 := (HB.out.cell (World.block_lt_of_cell? w _ hx395_1)).trans hx395_1; replace hx395_2 := (HB.out.cell (World.block_lt_of_cell? w _ hx395_2)).trans hx395_2; replace hx395_3 := (HB.out.cell (World.block_lt_of_cell? w _ hx395_3)).trans hx395_3; replace hx395_4 := (HB.out.cell (World.block_lt_of_cell? w _ hx395_4)).trans hx395_4; replace p395 := eq_true p395; replace q395 := eq_true q395; have p396 : 0 ≤ (x5_1 : Int) := of_decide_eq_true (by first | (with_reducible assumption) | assumption); have q396 : x5_1 < (l0.length : Int) := of_decide_eq_true (by first | (with_reducible assumption) | assumption); obtain ⟨ad396, e396, hx396_0, hx396_1, hx396_2, hx396_3, hx396_4⟩ := at_T36 HR0.out x5_1 p396 q396; obtain rfl : ad395 = ad396 := (by injection e396); replace hx396_0 := (HB.out.cell (World.block_lt_of_cell? w _ hx396_0)).trans hx396_0; replace hx396_1 := (HB.out.cell (World.block_lt_of_cell? w _ hx396_1)).trans hx396_1; replace hx396_2 := (HB.out.cell (World.block_lt_of_cell? w _ hx396_2)).trans hx396_2; replace hx396_3 := (HB.out.cell (World.block_lt_of_cell? w _ hx396_3)).trans hx396_3; replace hx396_4 := (HB.out.cell (World.block_lt_of_cell? w _ hx396_4)).trans hx396_4; replace p396 := eq_true p396; replace q396 := eq_true q396; have p397 : 0 ≤ (x5_1 : Int) := of_decide_eq_true (by first | (with_reducible assumption) | assumption); have q397 : x5_1 < (l0.length : Int) := of_decide_eq_true (by first | (with_reducible assumption) | assumption); obtain ⟨ad397, e397, hx397_0, hx397_1, hx397_2, hx397_3, hx397_4⟩ := at_T36 HR0.out x5_1 p397 q397; obtain rfl : ad395 = ad397 := (by injection e397); replace hx397_0 := (HB.out.cell (World.block_lt_of_cell? w _ hx397_0)).trans hx397_0; replace hx397_1 := (HB.out.cell (World.block_lt_of_cell? w _ hx397_1)).trans hx397_1; replace hx397_2 := (HB.out.cell (World.block_lt_of_cell? w _ hx397_2)).trans hx397_2; replace hx397_3 := (HB.out.cell (World.block_lt_of_cell? w _ hx397_3)).trans hx397_3; replace hx397_4 := (HB.out.cell (World.block_lt_of_cell? w _ hx397_4)).trans hx397_4; replace p397 := eq_true p397; replace q397 := eq_true q397))
                        go_roundg k1
                        case measure => have := HK1.out; omega
                        case rel => exact ⟨(wrap64 (x5_1 + 1)), (by first | rfl | (simp; done) | (simp [*]; done)), H', ⟨by have := HK1.out; omega⟩, ⟨by repeat (first | (with_reducible first | exact HB.out | apply below_alloc | apply pw_below_drewN | apply below_drew1) | exact HB.out)⟩⟩
                    · rw [if_neg c13] at H
                      have c13b0 : decide (0 < x5_1) = false := decide_eq_false c13
                      clear c13
                      have H' := Aside0.mk H
                      clear H
                      go_wp2_with (first | ((with_reducible refine gate_callee (f := 14) rfl ?_); refine goesL_ (some 31) rfl rfl Try.func14 (by kernel_rfl) rfl #[.slice A0 l0.length c0, .int .i64 x5_1] rfl (by (try simp only [List.map_toArray, List.map_cons, List.map_nil]); first | done | rfl | (simp only [List.length_drop, List.length_take]; rfl)) ?_; (with_reducible refine (tree_End.calls k1 _ _ l0 x5_1 t394 _ ?side1 ?side2 A8.out).mono ?_); (case side1 => repeat (first | exact (Kd.C_below HR0.out HB.out) | (with_reducible refine Kd.C_alloc ?_ _) | (with_reducible refine Kd.C_drewN ?_ _) | (with_reducible refine Kd.C_drew ?_))); (case side2 => exact HC0.out); rintro e w' ⟨rfl, ⟨nd, rfl⟩⟩; refine ⟨_, rfl, ?_⟩; have p395 : 0 ≤ (x5_1 : Int) := of_decide_eq_true (by first | (with_reducible assumption) | assumption); have q395 : x5_1 < (l0.length : Int) := of_decide_eq_true (by first | (with_reducible assumption) | assumption); obtain ⟨ad395, e395, hx395_0, hx395_1, hx395_2, hx395_3, hx395_4⟩ := at_T36 HR0.out x5_1 p395 q395; cases e395; replace hx395_0 := (HB.out.cell (World.block_lt_of_cell? w _ hx395_0)).trans hx395_0; replace hx395_1 := (HB.out.cell (World.block_lt_of_cell? w _ hx395_1)).trans hx395_1; replace hx395_2 := (HB.out.cell (World.block_lt_of_cell? w _ hx395_2)).trans hx395_2; replace hx395_3 := (HB.out.cell (World.block_lt_of_cell? w _ hx395_3)).trans hx395_3; replace hx395_4 := (HB.out.cell (World.block_lt_of_cell? w _ hx395_4)).trans hx395_4; replace p395 := eq_true p395; replace q395 := eq_true q395; have p396 : 0 ≤ (x5_1 : Int) := of_decide_eq_true (by first | (with_reducible assumption) | assumption); have q396 : x5_1 < (l0.length : Int) := of_decide_eq_true (by first | (with_reducible assumption) | assumption); obtain ⟨ad396, e396, hx396_0, hx396_1, hx396_2, hx396_3, hx396_4⟩ := at_T36 HR0.out x5_1 p396 q396; obtain rfl : ad395 = ad396 := (by injection e396); replace hx396_0 := (HB.out.cell (World.block_lt_of_cell? w _ hx396_0)).trans hx396_0; replace hx396_1 := (HB.out.cell (World.block_lt_of_cell? w _ hx396_1)).trans hx396_1; replace hx396_2 := (HB.out.cell (World.block_lt_of_cell? w _ hx396_2)).trans hx396_2; replace hx396_3 := (HB.out.cell (World.block_lt_of_cell? w _ hx396_3)).trans hx396_3; replace hx396_4 := (HB.out.cell (World.block_lt_of_cell? w _ hx396_4)).trans hx396_4; replace p396 := eq_true p396; replace q396 := eq_true q396))
                      go_roundg k1
                      case measure => have := HK1.out; omega
                      case rel => exact ⟨(wrap64 (x5_1 + 1)), (by first | rfl | (simp; done) | (simp [*]; done)), H', ⟨by have := HK1.out; omega⟩, ⟨by repeat (first | (with_reducible first | exact HB.out | apply below_alloc | apply pw_below_drewN | apply below_drew1) | exact HB.out)⟩⟩
              · rw [if_neg c10] at H
                exact absurd H (by simp)
          · rw [if_neg c7] at H
            have c7b0 : decide (x5_1 < (l0.length : Int)) = false := decide_eq_false c7
            clear c7
            by_cases c15 : (l0.length : Int) = 0
            · rw [if_pos c15] at H
              have c15b0 : ((l0.length : Int) == 0) = true := beq_iff_eq.mpr c15
              have c15b1 : ((l0.length : Int) != 0) = false := bne_eq_false_iff_eq.mpr c15
              clear c15
              exact absurd ((Option.some.inj H).trans HR.out) (by decide)
            · rw [if_neg c15] at H
              have c15b0 : ((l0.length : Int) == 0) = false := beq_eq_false_iff_ne.mpr c15
              have c15b1 : ((l0.length : Int) != 0) = true := bne_iff_ne.mpr c15
              have c15b2 : ¬ (l0 = []) := fun h_ => c15 (by rw [h_]; rfl)
              obtain ⟨ji16, hji16⟩ : ∃ j_ : Int, (wrap64 ((l0.length : Int) - 1)) = j_ := ⟨_, rfl⟩
              replace H : (if 0 ≤ (ji16) then (if (ji16) ≤ (l0.length : Int) then ((tree_Check.f k1 (l0.take ((ji16) : Int).toNat)).bind fun bt402 => ((some (([] : List (S36)) : List (S36))).bind fun y404 => (if y404.length + l0.length < 2513169434916 then ((some (y404 ++ l0 : List (S36))).bind fun y407 => (if y407.length < 2513169434916 then ((tree_Check.f k1 (y407 ++ [(⟨18, 0, (⟨#[]⟩ : ByteArray), 0, (⟨#[]⟩ : ByteArray)⟩ : S36)])).bind fun bt413 => (if bt402.1 = 0 then (some false) else (if bt413.1 = 0 then (some false) else ((chrysalislaw09_known.f k1).bind fun t415 => (some t415))))) else (none))) else (none)))) else (none)) else (none)) = some r := by first | (rw [hji16] at H; exact H) | (simp only [hji16] at H ⊢; exact H)
              have hji16w : (IntKind.i64.wrap ((l0.length : Int) - 1)) = ji16 := (i64_w _).trans hji16
              by_cases c17 : 0 ≤ (ji16)
              · rw [if_pos c17] at H
                have c17b0 := eq_true c17
                have c17b1 : decide (0 ≤ (ji16)) = true := decide_eq_true c17
                clear c17
                by_cases c18 : (ji16) ≤ (l0.length : Int)
                · rw [if_pos c18] at H
                  have c18b0 := eq_true c18
                  have c18b1 : decide ((ji16) ≤ (l0.length : Int)) = true := decide_eq_true c18
                  clear c18
                  obtain ⟨y398, hy398⟩ : ∃ y_ : List (S36), y_ = (l0.take ((ji16) : Int).toNat) := ⟨_, rfl⟩
                  replace H : ((tree_Check.f k1 y398).bind fun bt402 => ((some (([] : List (S36)) : List (S36))).bind fun y404 => (if y404.length + l0.length < 2513169434916 then ((some (y404 ++ l0 : List (S36))).bind fun y407 => (if y407.length < 2513169434916 then ((tree_Check.f k1 (y407 ++ [(⟨18, 0, (⟨#[]⟩ : ByteArray), 0, (⟨#[]⟩ : ByteArray)⟩ : S36)])).bind fun bt413 => (if bt402.1 = 0 then (some false) else (if bt413.1 = 0 then (some false) else ((chrysalislaw09_known.f k1).bind fun t415 => (some t415))))) else (none))) else (none)))) = some r := by first | (rw [hy398]; with_reducible exact H) | (have H2_ := (Option.bind_some _ _).symm.trans H; rw [hy398]; with_reducible exact H2_) | (have H2_ := (Option.bind_some _ _).symm.trans H; with_reducible exact H2_) | with_reducible exact H | (rw [hy398]; exact H) | exact H
                  have Ny398 := Aside0.mk hy398
                  clear hy398
                  replace H := Option.bind_eq_some_iff.mp H
                  obtain ⟨⟨t402, t403⟩, A190, H⟩ := H
                  try dsimp only at H
                  have A19 := Aside0.mk A190
                  clear A190
                  obtain ⟨y404, hy404⟩ : ∃ y_ : List (S36), y_ = (([] : List (S36))) := ⟨_, rfl⟩
                  replace H : (if y404.length + l0.length < 2513169434916 then ((some (y404 ++ l0 : List (S36))).bind fun y407 => (if y407.length < 2513169434916 then ((tree_Check.f k1 (y407 ++ [(⟨18, 0, (⟨#[]⟩ : ByteArray), 0, (⟨#[]⟩ : ByteArray)⟩ : S36)])).bind fun bt413 => (if t402 = 0 then (some false) else (if bt413.1 = 0 then (some false) else ((chrysalislaw09_known.f k1).bind fun t415 => (some t415))))) else (none))) else (none)) = some r := by first | (rw [hy404]; with_reducible exact H) | (have H2_ := (Option.bind_some _ _).symm.trans H; rw [hy404]; with_reducible exact H2_) | (have H2_ := (Option.bind_some _ _).symm.trans H; with_reducible exact H2_) | with_reducible exact H | (rw [hy404]; exact H) | exact H
                  have Ny404 := Aside0.mk hy404
                  clear hy404
                  by_cases c20 : y404.length + l0.length < 2513169434916
                  · rw [if_pos c20] at H
                    have LMc20 := Aside0.mk c20
                    clear c20
                    obtain ⟨y407, hy407⟩ : ∃ y_ : List (S36), y_ = (y404 ++ l0) := ⟨_, rfl⟩
                    replace H : (if y407.length < 2513169434916 then ((tree_Check.f k1 (y407 ++ [(⟨18, 0, (⟨#[]⟩ : ByteArray), 0, (⟨#[]⟩ : ByteArray)⟩ : S36)])).bind fun bt413 => (if t402 = 0 then (some false) else (if bt413.1 = 0 then (some false) else ((chrysalislaw09_known.f k1).bind fun t415 => (some t415))))) else (none)) = some r := by first | (rw [hy407]; with_reducible exact H) | (have H2_ := (Option.bind_some _ _).symm.trans H; rw [hy407]; with_reducible exact H2_) | (have H2_ := (Option.bind_some _ _).symm.trans H; with_reducible exact H2_) | with_reducible exact H | (rw [hy407]; exact H) | exact H
                    have Ny407 := Aside0.mk hy407
                    clear hy407
                    by_cases c21 : y407.length < 2513169434916
                    · rw [if_pos c21] at H
                      have LMc21 := Aside0.mk c21
                      clear c21
                      obtain ⟨y410, hy410⟩ : ∃ y_ : List (S36), y_ = (y407 ++ [(⟨18, 0, (⟨#[]⟩ : ByteArray), 0, (⟨#[]⟩ : ByteArray)⟩ : S36)]) := ⟨_, rfl⟩
                      replace H : ((tree_Check.f k1 y410).bind fun bt413 => (if t402 = 0 then (some false) else (if bt413.1 = 0 then (some false) else ((chrysalislaw09_known.f k1).bind fun t415 => (some t415))))) = some r := by first | (rw [hy410]; with_reducible exact H) | (have H2_ := (Option.bind_some _ _).symm.trans H; rw [hy410]; with_reducible exact H2_) | (have H2_ := (Option.bind_some _ _).symm.trans H; with_reducible exact H2_) | with_reducible exact H | (rw [hy410]; exact H) | exact H
                      have Ny410 := Aside0.mk hy410
                      clear hy410
                      replace H := Option.bind_eq_some_iff.mp H
                      obtain ⟨⟨t413, t414⟩, A220, H⟩ := H
                      replace H : (if t402 = 0 then (some false) else (if t413 = 0 then (some false) else ((chrysalislaw09_known.f k1).bind fun t415 => (some t415)))) = some r := H
                      have A22 := Aside0.mk A220
                      clear A220
                      by_cases c23 : t402 = 0
                      · rw [if_pos c23] at H
                        have c23b0 : (t402 == 0) = true := beq_iff_eq.mpr c23
                        have c23b1 : (t402 != 0) = false := bne_eq_false_iff_eq.mpr c23
                        clear c23
                        exact absurd ((Option.some.inj H).trans HR.out) (by decide)
                      · rw [if_neg c23] at H
                        have c23b0 : (t402 == 0) = false := beq_eq_false_iff_ne.mpr c23
                        have c23b1 : (t402 != 0) = true := bne_iff_ne.mpr c23
                        by_cases c32 : t413 = 0
                        · rw [if_pos c32] at H
                          have c32b0 : (t413 == 0) = true := beq_iff_eq.mpr c32
                          have c32b1 : (t413 != 0) = false := bne_eq_false_iff_eq.mpr c32
                          clear c32
                          exact absurd ((Option.some.inj H).trans HR.out) (by decide)
                        · rw [if_neg c32] at H
                          have c32b0 : (t413 == 0) = false := beq_eq_false_iff_ne.mpr c32
                          have c32b1 : (t413 != 0) = true := bne_iff_ne.mpr c32
                          replace H := Option.bind_eq_some_iff.mp H
                          obtain ⟨t415, A410, H⟩ := H
                          replace H : (some t415) = some r := H
                          have A41 := Aside0.mk A410
                          clear A410
                          obtain rfl := Option.some.inj H
                          have q42 : ((ji16) : Int) ≤ ((l0.length : Int) : Int) := of_decide_eq_true (by first | (with_reducible assumption) | assumption)
                          obtain ⟨i042, hi042, _, hsz42, _⟩ := info_parts info36
                          have hroom42 : l0.length ≤ c0 := HC0.out
                          have hC42 : Kd.C k36 _ A0 l0.length l0 := HR0.out
                          have hcut42 := cut_to (P := Try.prog) 22 36 .i64 Try.underlying22 hi042 A0 l0.length c0 (ji16) (of_decide_eq_true (by first | (with_reducible assumption) | assumption)) q42 hroom42
                          have hr42 := Kd.C_take (m := ((ji16) : Int).toNat) hC42 (by omega)
                          have hy42 : y398.length = ((ji16) : Int).toNat := (by rw [Ny398.out, List.length_take]; omega)
                          rw [← Ny398.out] at hr42
                          rw [← hy42] at hcut42
                          have HR401 := Aside0.mk hr42
                          have HC401 := Aside0.mk (show y398.length ≤ c0 from by omega)
                          clear hr42 hC42 hroom42 hi042 hsz42
                          have KY42 := Aside0.mk hy42
                          clear hy42
                          replace q42 := eq_true q42
                          go_wp2_with (first | ((with_reducible refine gate_callee (f := 11) rfl ?_); refine goesL_ (some 70) rfl rfl Try.func11 (by kernel_rfl) rfl #[.slice A0 y398.length c0] rfl (by (try simp only [List.map_toArray, List.map_cons, List.map_nil]); first | done | rfl | (simp only [List.length_drop, List.length_take]; rfl)) ?_; (with_reducible refine (tree_Check.calls k1 _ _ y398 t402 t403 _ ?side1 ?side2 A19.out).mono ?_); (case side1 => repeat (first | exact (Kd.C_below HR401.out HB.out) | (with_reducible refine Kd.C_alloc ?_ _) | (with_reducible refine Kd.C_drewN ?_ _) | (with_reducible refine Kd.C_drew ?_))); (case side2 => exact HC401.out); rintro e w43 ⟨rfl, hb⟩; refine ⟨_, rfl, ?_⟩; have n0_ := Aside0.mk (below_step (by repeat (first | (with_reducible first | exact HB.out | apply below_alloc | apply pw_below_drewN | apply below_drew1) | exact HB.out)) hb); clear HB; have HB := n0_; clear n0_; (try clear hb)) | ((with_reducible refine gate_dst (N := 73) rfl ?_); refine Kd.R_lit k36 _ 36 ?hg (N := 73) ?hd (xs := ([] : List (S36))) (inner := []) (ok := fun _ => True) (okp := fun _ => True) ?hr ?hp (fun _ hk => hk) trivial (Below.refl _ _) (Nat.le_refl _) (by simp) ?_; (case hd => rfl); (case hg => rfl); (case hr => first | (go_simp; done) | (go_simp; rfl)); (case hp => exact (Reps.none _ _)); intro v405 w44 ho45 hb hg_ hnew_; clear hg_ hnew_; (first | rw [← Ny404.out] at ho45 | (simp only [Int.reduceToNat] at ho45; rw [← Ny404.out] at ho45)); have n0_ := Aside0.mk (Kd.R_lower ho45 (below_size (by repeat (first | (with_reducible first | exact HB.out | apply below_alloc | apply pw_below_drewN | apply below_drew1) | exact HB.out)))); have n1_ := Aside0.mk (below_step (by repeat (first | (with_reducible first | exact HB.out | apply below_alloc | apply pw_below_drewN | apply below_drew1) | exact HB.out)) hb); clear HB; have HO406 := n0_; have HB := n1_; clear n0_ n1_; clear hb ho45) | ((with_reducible refine gate_builtin (b := .append) (xs := #[.tmp 73, .tmp 74]) rfl ?_); at_builtin; refine Kd.R_append_rows k36 (w0 := w) w.heap.size rfl (.tmp 73) (.tmp 74) 22 36 (.agg #[(.int .i64 0), (.int .i64 0), (.string ⟨#[]⟩), (.int .i64 0), (.string ⟨#[]⟩)]) 56 rfl Try.underlying22 info36 rfl (by decide) (by omega) v405 y404 l0 _ _ _ (fun _ => True) (fun _ => False) rfl rfl ?aO ?aR (fun _ _ h => h) (fun _ h => h.elim) ?aF ?aB ?aS ?aL ?_; (case aR => repeat (first | exact (Kd.C_below HR0.out HB.out) | (with_reducible refine Kd.C_alloc ?_ _) | (with_reducible refine Kd.C_drewN ?_ _) | (with_reducible refine Kd.C_drew ?_))); (case aB => exact (by repeat (first | (with_reducible first | exact HB.out | apply below_alloc | apply pw_below_drewN | apply below_drew1) | exact HB.out))); (case aF => exact (fun _ _ => trivial)); (case aO => exact (by (with_reducible repeat (first | apply Kd.R_alloc | apply Kd.R_drewN | apply Kd.R_drew)); exact HO406.out)); (case aS => exact (below_size (by repeat (first | (with_reducible first | exact HB.out | apply below_alloc | apply pw_below_drewN | apply below_drew1) | exact HB.out)))); (case aL => have := LMc20.out; omega); intro v408 w46 ho hb hg hat; rw [← Ny407.out] at ho; have n0_ := Aside0.mk (hb); have n1_ := Aside0.mk (ho); clear HB; clear HO406; have HB := n0_; have HO409 := n1_; clear n0_ n1_; clear ho hb hg hat) | ((with_reducible refine gate_builtin (b := .append) (xs := #[.tmp 76, .tmp 78]) rfl ?_); at_builtin; refine Kd.R_append k36 (w0 := w) w.heap.size rfl (.tmp 76) (.tmp 78) 22 36 (.agg #[(.int .i64 0), (.int .i64 0), (.string ⟨#[]⟩), (.int .i64 0), (.string ⟨#[]⟩)]) 56 rfl Try.underlying22 info36 rfl (by decide) (by omega) v408 y407 (⟨18, 0, (⟨#[]⟩ : ByteArray), 0, (⟨#[]⟩ : ByteArray)⟩ : S36) [.int .i64 18, .int .i64 0, .string (⟨#[]⟩ : ByteArray), .int .i64 0, .string (⟨#[]⟩ : ByteArray)] (fun _ => True) (fun _ => False) rfl rfl ?aP (fun _ hk => hk.elim) ?aF ?aO ?aB ?aS ?aL ?_; (case aP => exact k36_mkM _ _ _ (⟨18, 0, (⟨#[]⟩ : ByteArray), 0, (⟨#[]⟩ : ByteArray)⟩ : S36)); (case aB => exact (by repeat (first | (with_reducible first | exact HB.out | apply below_alloc | apply pw_below_drewN | apply below_drew1) | exact HB.out))); (case aF => exact (fun _ _ => trivial)); (case aO => exact (by (with_reducible repeat (first | apply Kd.R_alloc | apply Kd.R_drewN | apply Kd.R_drew)); exact HO409.out)); (case aS => exact (below_size (by repeat (first | (with_reducible first | exact HB.out | apply below_alloc | apply pw_below_drewN | apply below_drew1) | exact HB.out)))); (case aL => have := LMc21.out; omega); intro v411 w47 ho hb hg hat; rw [← Ny410.out] at ho; have n0_ := Aside0.mk (hb); have n1_ := Aside0.mk (ho); clear HB; clear HO409; have HB := n0_; have HO412 := n1_; clear n0_ n1_; clear ho hb hg hat; obtain ⟨Ao48, co48, eo48⟩ := Kd.R_slice HO412.out; subst eo48) | ((with_reducible refine gate_callee (f := 11) rfl ?_); refine goesL_ (some 82) rfl rfl Try.func11 (by kernel_rfl) rfl #[.slice Ao48 y410.length co48] rfl (by (try simp only [List.map_toArray, List.map_cons, List.map_nil]); first | done | rfl | (simp only [List.length_drop, List.length_take]; rfl)) ?_; (with_reducible refine (tree_Check.calls k1 _ _ y410 t413 t414 _ ?side1 ?side2 A22.out).mono ?_); (case side1 => repeat (first | exact (Kd.R_reads' HO412.out).2.2 | (with_reducible refine Kd.C_alloc ?_ _) | (with_reducible refine Kd.C_drewN ?_ _) | (with_reducible refine Kd.C_drew ?_))); (case side2 => exact (Kd.R_reads' HO412.out).2.1); rintro e w49 ⟨rfl, hb⟩; refine ⟨_, rfl, ?_⟩; have n0_ := Aside0.mk (Kd.R_below (by (with_reducible repeat (first | apply Kd.R_alloc | apply Kd.R_drewN | apply Kd.R_drew)); exact HO412.out) hb); have n1_ := Aside0.mk (below_step (by repeat (first | (with_reducible first | exact HB.out | apply below_alloc | apply pw_below_drewN | apply below_drew1) | exact HB.out)) hb); clear HO412; clear HB; have HO412 := n0_; have HB := n1_; clear n0_ n1_; (try clear hb)) | (go_at_call 10; (with_reducible refine (chrysalislaw09_known.calls k1  t415 _ A41.out).mono ?_); rintro e w50 ⟨rfl, hb⟩; have n0_ := Aside0.mk (Kd.R_below (by (with_reducible repeat (first | apply Kd.R_alloc | apply Kd.R_drewN | apply Kd.R_drew)); exact HO412.out) hb); have n1_ := Aside0.mk (below_step (by repeat (first | (with_reducible first | exact HB.out | apply below_alloc | apply pw_below_drewN | apply below_drew1) | exact HB.out)) hb); clear HO412; clear HB; have HO412 := n0_; have HB := n1_; clear n0_ n1_; (try clear hb)))
                          go_ret
                          exact ⟨by first | rfl | (simp [errW_none, errW_some] <;> rfl) | (simp only [← hji16]; first | rfl | (simp [errW_none, errW_some] <;> rfl)) | (simp [*, errW_none, errW_some] <;> rfl), by repeat (first | (with_reducible first | exact HB.out | apply below_alloc | apply pw_below_drewN | apply below_drew1) | exact HB.out)⟩
                    · rw [if_neg c21] at H
                      exact absurd H (by simp)
                  · rw [if_neg c20] at H
                    exact absurd H (by simp)
                · rw [if_neg c18] at H
                  exact absurd H (by simp)
              · rw [if_neg c17] at H
                exact absurd H (by simp)
    · rw [if_neg c5] at H
      have c5b0 : (t391 == 0) = false := beq_eq_false_iff_ne.mpr c5
      have c5b1 : (t391 != 0) = true := bne_iff_ne.mpr c5
      replace H := Option.bind_eq_some_iff.mp H
      obtain ⟨t393, A510, H⟩ := H
      replace H : (some t393) = some r := H
      have A51 := Aside0.mk A510
      clear A510
      obtain rfl := Option.some.inj H
      go_enter Try.func7, Try.ntmps7
      go_wp2_with (first | ((with_reducible refine gate_callee (f := 9) rfl ?_); refine goesL_ (some 12) rfl rfl Try.func9 (by kernel_rfl) rfl #[.slice A0 l0.length c0] rfl (by (try simp only [List.map_toArray, List.map_cons, List.map_nil]); first | done | rfl | (simp only [List.length_drop, List.length_take]; rfl)) ?_; (with_reducible refine (chrysalisref09_Light.calls k _ _ l0 true _ ?side1 ?side2 A2.out).mono ?_); (case side1 => repeat (first | exact HR0.out | (with_reducible refine Kd.C_alloc ?_ _) | (with_reducible refine Kd.C_drewN ?_ _) | (with_reducible refine Kd.C_drew ?_))); (case side2 => exact HC0.out); rintro e w' ⟨rfl, ⟨nd, rfl⟩⟩; refine ⟨_, rfl, ?_⟩) | ((with_reducible refine gate_callee (f := 11) rfl ?_); refine goesL_ (some 17) rfl rfl Try.func11 (by kernel_rfl) rfl #[.slice A0 l0.length c0] rfl (by (try simp only [List.map_toArray, List.map_cons, List.map_nil]); first | done | rfl | (simp only [List.length_drop, List.length_take]; rfl)) ?_; (with_reducible refine (tree_Check.calls k _ _ l0 t391 t392 _ ?side1 ?side2 A4.out).mono ?_); (case side1 => repeat (first | exact HR0.out | (with_reducible refine Kd.C_alloc ?_ _) | (with_reducible refine Kd.C_drewN ?_ _) | (with_reducible refine Kd.C_drew ?_))); (case side2 => exact HC0.out); rintro e w52 ⟨rfl, hb⟩; refine ⟨_, rfl, ?_⟩; have n0_ := Aside0.mk (below_step (by repeat (first | (with_reducible first | exact HB.out | apply below_alloc | apply pw_below_drewN | apply below_drew1) | exact HB.out)) hb); clear HB; have HB := n0_; clear n0_; (try clear hb)) | ((with_reducible refine gate_callee (f := 10) rfl ?_); refine goesL_ (some 22) rfl rfl Try.func10 (by kernel_rfl) rfl #[] rfl (by (try simp only [List.map_toArray, List.map_cons, List.map_nil]); first | done | rfl | (simp only [List.length_drop, List.length_take]; rfl)) ?_; (with_reducible refine (chrysalislaw09_known.calls k  t393 _ A51.out).mono ?_); rintro e w53 ⟨rfl, hb⟩; refine ⟨_, rfl, ?_⟩; have n0_ := Aside0.mk (below_step (by repeat (first | (with_reducible first | exact HB.out | apply below_alloc | apply pw_below_drewN | apply below_drew1) | exact HB.out)) hb); clear HB; have HB := n0_; clear n0_; (try clear hb)))
      go_ret
      exact ⟨by first | rfl | (simp [errW_none, errW_some] <;> rfl) | (simp [*, errW_none, errW_some] <;> rfl), by repeat (first | (with_reducible first | exact HB.out | apply below_alloc | apply pw_below_drewN | apply below_drew1) | exact HB.out)⟩
  · replace c3 := Bool.eq_false_iff.mpr c3
    subst c3
    have H1 : ((chrysalislaw09_known.f k).bind fun t390 => (some t390)) = some r := by rw [if_neg (show ¬ (false = true) by decide)] at H; exact H
    clear H
    have H := H1
    clear H1
    replace H := Option.bind_eq_some_iff.mp H
    obtain ⟨t390, A540, H⟩ := H
    replace H : (some t390) = some r := H
    have A54 := Aside0.mk A540
    clear A540
    obtain rfl := Option.some.inj H
    go_enter Try.func7, Try.ntmps7
    go_wp2_with (first | ((with_reducible refine gate_callee (f := 9) rfl ?_); refine goesL_ (some 12) rfl rfl Try.func9 (by kernel_rfl) rfl #[.slice A0 l0.length c0] rfl (by (try simp only [List.map_toArray, List.map_cons, List.map_nil]); first | done | rfl | (simp only [List.length_drop, List.length_take]; rfl)) ?_; (with_reducible refine (chrysalisref09_Light.calls k _ _ l0 false _ ?side1 ?side2 A2.out).mono ?_); (case side1 => repeat (first | exact HR0.out | (with_reducible refine Kd.C_alloc ?_ _) | (with_reducible refine Kd.C_drewN ?_ _) | (with_reducible refine Kd.C_drew ?_))); (case side2 => exact HC0.out); rintro e w' ⟨rfl, ⟨nd, rfl⟩⟩; refine ⟨_, rfl, ?_⟩) | ((with_reducible refine gate_callee (f := 10) rfl ?_); refine goesL_ (some 14) rfl rfl Try.func10 (by kernel_rfl) rfl #[] rfl (by (try simp only [List.map_toArray, List.map_cons, List.map_nil]); first | done | rfl | (simp only [List.length_drop, List.length_take]; rfl)) ?_; (with_reducible refine (chrysalislaw09_known.calls k  t390 _ A54.out).mono ?_); rintro e w55 ⟨rfl, hb⟩; refine ⟨_, rfl, ?_⟩; have n0_ := Aside0.mk (below_step (by repeat (first | (with_reducible first | exact HB.out | apply below_alloc | apply pw_below_drewN | apply below_drew1) | exact HB.out)) hb); clear HB; have HB := n0_; clear n0_; (try clear hb)))
    go_ret
    exact ⟨by first | rfl | (simp [errW_none, errW_some] <;> rfl) | (simp [*, errW_none, errW_some] <;> rfl), by repeat (first | (with_reducible first | exact HB.out | apply below_alloc | apply pw_below_drewN | apply below_drew1) | exact HB.out)⟩

end Go.Proofs.Ytclhaajlgmiilaa.Q
end
