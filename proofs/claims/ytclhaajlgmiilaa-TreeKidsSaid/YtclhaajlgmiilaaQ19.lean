/- Functions that the laws reach, as plain Lean functions, each with a proof that the call does what its function says; no condition. -/
import Derived.Test.YtclhaajlgmiilaaQ0
import Derived.Test.YtclhaajlgmiilaaQ3
import Derived.Test.YtclhaajlgmiilaaQ4
import Derived.Test.YtclhaajlgmiilaaQ5
import Derived.Test.YtclhaajlgmiilaaQ12
import Derived.Test.YtclhaajlgmiilaaQ17
import Derived.Test.YtclhaajlgmiilaaQ18
namespace Go.Proofs.Ytclhaajlgmiilaa.Q
open Go.RowKit Go.Proofs.YtclhaajlgmiilaaW.PrintWords Go.Proofs.YtclhaajlgmiilaaW.PrintLast Go.Proofs.YtclhaajlgmiilaaW.PrintMore
attribute [local go_sem] max2_int min2_int max_two min_two max_three min_three max_four min_four   -- for this text's walks alone
set_option linter.unusedVariables false
set_option linter.unusedSimpArgs false

/-! ### chrysalislaw09_known: function 10 -/
def chrysalislaw09_known.f (k : Nat)  : Option (Bool) := (some (([(⟨1, 1, (⟨#[109]⟩ : ByteArray), 1, (⟨#[]⟩ : ByteArray)⟩ : S36), (⟨3, 1, (⟨#[102]⟩ : ByteArray), 0, (⟨#[]⟩ : ByteArray)⟩ : S36), (⟨5, 0, (⟨#[]⟩ : ByteArray), 0, (⟨#[]⟩ : ByteArray)⟩ : S36)] : List (S36)) : List (S36))).bind fun y192 => ((tree_Check.f k y192).bind fun bt195 => ((some (([(⟨1, 1, (⟨#[109]⟩ : ByteArray), 1, (⟨#[]⟩ : ByteArray)⟩ : S36), (⟨5, 0, (⟨#[]⟩ : ByteArray), 0, (⟨#[]⟩ : ByteArray)⟩ : S36)] : List (S36)) : List (S36))).bind fun y197 => ((tree_Check.f k y197).bind fun bt200 => ((tree_Kids.f k y192 0).bind fun t202 => (if bt195.1 = 0 then (if bt195.2 = 0 then (if bt200.1 = 4 then (if bt200.2 = 0 then ((tree_End.f k y192 1).bind fun t205 => (if t205 = 3 then ((tree_End.f k y192 3).bind fun t206 => (if t206 = (-1) then (if (t202.length : Int) = 1 then (if 0 < (t202.length : Int) then (if (rd t202 0) = 1 then ((tree_Depth.f k y192).bind fun t208 => (if t208 = 3 then ((tree_Expr.f 18).bind fun t209 => (if t209 = true then ((tree_Stmt.f 17).bind fun t210 => (if t210 = true then ((tree_Expr.f 17).bind fun t211 => (if t211 = true then (some false) else ((tree_Sub.f k y192 1).bind fun t212 => (if (t212.length : Int) = 2 then ((tree_Same.f k y192 y192).bind fun t215 => (if t215 = true then ((tree_Same.f k y192 y197).bind fun t216 => (some (!t216))) else (some false))) else (some false))))) else (some false))) else (some false))) else (some false))) else (some false)) else (none)) else (some false)) else (some false))) else (some false))) else (some false)) else (some false)) else (some false)) else (some false))))))
theorem chrysalislaw09_known.mono : ∀ k, LeO (chrysalislaw09_known.f k ) (chrysalislaw09_known.f (k + 1) ) := by
  intro  k
  unfold chrysalislaw09_known.f
  repeat' first
      | (with_reducible exact tree_Check.mono _ _)
      | (with_reducible exact tree_Depth.mono _ _)
      | (with_reducible exact tree_End.mono _ _ _)
      | (with_reducible exact tree_Kids.mono _ _ _)
      | (with_reducible exact tree_Same.mono _ _ _)
      | (with_reducible exact tree_Sub.mono _ _ _)
      | (with_reducible exact LeO.refl _)
      | (with_reducible exact LeO.none _)
      | (with_reducible refine LeO.ite ?_ ?_)
      | (with_reducible refine LeO.bind ?_ (fun _ => ?_))
      | exact tree_Check.mono _ _
      | exact tree_Depth.mono _ _
      | exact tree_End.mono _ _ _
      | exact tree_Kids.mono _ _ _
      | exact tree_Same.mono _ _ _
      | exact tree_Sub.mono _ _ _
      | exact LeO.none _
      | refine LeO.ite ?_ ?_
      | refine LeO.bind ?_ (fun _ => ?_)
theorem chrysalislaw09_known.more : ∀ (d k : Nat) (r : Bool), chrysalislaw09_known.f k = some r → chrysalislaw09_known.f (k + d) = some r
  | 0, _, _, h => h
  | d + 1, k, r, h => chrysalislaw09_known.mono (k + d) r (chrysalislaw09_known.more d k r h)
set_option maxRecDepth 100000 in
theorem chrysalislaw09_known.at : chrysalislaw09_known.f 120 = some true := by kernel_rfl
theorem chrysalislaw09_known.isTrue (k : Nat) (r : Bool) (h : chrysalislaw09_known.f k = some r) : r = true := by
  have h1 := chrysalislaw09_known.more 120 k r h
  have h2 := chrysalislaw09_known.more k 120 true chrysalislaw09_known.at
  rw [Nat.add_comm 120 k, h1] at h2
  exact Option.some.inj h2
set_option maxHeartbeats 8000000 in
set_option maxRecDepth 100000 in
theorem chrysalislaw09_known.calls (k : Nat)  (r : Bool) (w : World) (h : chrysalislaw09_known.f k  = some r) :
    Calls Try.prog 10 #[] w fun e w' => e = .returned (.bool r) ∧ Below w.heap.size w w' := by
  have hu36 := Try.underlying36
  have HB := Aside0.mk (Below.refl w.heap.size w)
  have HR := Aside0.mk (chrysalislaw09_known.isTrue k r h)
  have H : ((some (([(⟨1, 1, (⟨#[109]⟩ : ByteArray), 1, (⟨#[]⟩ : ByteArray)⟩ : S36), (⟨3, 1, (⟨#[102]⟩ : ByteArray), 0, (⟨#[]⟩ : ByteArray)⟩ : S36), (⟨5, 0, (⟨#[]⟩ : ByteArray), 0, (⟨#[]⟩ : ByteArray)⟩ : S36)] : List (S36)) : List (S36))).bind fun y192 => ((tree_Check.f k y192).bind fun bt195 => ((some (([(⟨1, 1, (⟨#[109]⟩ : ByteArray), 1, (⟨#[]⟩ : ByteArray)⟩ : S36), (⟨5, 0, (⟨#[]⟩ : ByteArray), 0, (⟨#[]⟩ : ByteArray)⟩ : S36)] : List (S36)) : List (S36))).bind fun y197 => ((tree_Check.f k y197).bind fun bt200 => ((tree_Kids.f k y192 0).bind fun t202 => (if bt195.1 = 0 then (if bt195.2 = 0 then (if bt200.1 = 4 then (if bt200.2 = 0 then ((tree_End.f k y192 1).bind fun t205 => (if t205 = 3 then ((tree_End.f k y192 3).bind fun t206 => (if t206 = (-1) then (if (t202.length : Int) = 1 then (if 0 < (t202.length : Int) then (if (rd t202 0) = 1 then ((tree_Depth.f k y192).bind fun t208 => (if t208 = 3 then ((tree_Expr.f 18).bind fun t209 => (if t209 = true then ((tree_Stmt.f 17).bind fun t210 => (if t210 = true then ((tree_Expr.f 17).bind fun t211 => (if t211 = true then (some false) else ((tree_Sub.f k y192 1).bind fun t212 => (if (t212.length : Int) = 2 then ((tree_Same.f k y192 y192).bind fun t215 => (if t215 = true then ((tree_Same.f k y192 y197).bind fun t216 => (some (!t216))) else (some false))) else (some false))))) else (some false))) else (some false))) else (some false))) else (some false)) else (none)) else (some false)) else (some false))) else (some false))) else (some false)) else (some false)) else (some false)) else (some false))))))) = some r := h
  clear h
  obtain ⟨y192, hy192⟩ : ∃ y_ : List (S36), y_ = (([(⟨1, 1, (⟨#[109]⟩ : ByteArray), 1, (⟨#[]⟩ : ByteArray)⟩ : S36), (⟨3, 1, (⟨#[102]⟩ : ByteArray), 0, (⟨#[]⟩ : ByteArray)⟩ : S36), (⟨5, 0, (⟨#[]⟩ : ByteArray), 0, (⟨#[]⟩ : ByteArray)⟩ : S36)] : List (S36))) := ⟨_, rfl⟩
  replace H : ((tree_Check.f k y192).bind fun bt195 => ((some (([(⟨1, 1, (⟨#[109]⟩ : ByteArray), 1, (⟨#[]⟩ : ByteArray)⟩ : S36), (⟨5, 0, (⟨#[]⟩ : ByteArray), 0, (⟨#[]⟩ : ByteArray)⟩ : S36)] : List (S36)) : List (S36))).bind fun y197 => ((tree_Check.f k y197).bind fun bt200 => ((tree_Kids.f k y192 0).bind fun t202 => (if bt195.1 = 0 then (if bt195.2 = 0 then (if bt200.1 = 4 then (if bt200.2 = 0 then ((tree_End.f k y192 1).bind fun t205 => (if t205 = 3 then ((tree_End.f k y192 3).bind fun t206 => (if t206 = (-1) then (if (t202.length : Int) = 1 then (if 0 < (t202.length : Int) then (if (rd t202 0) = 1 then ((tree_Depth.f k y192).bind fun t208 => (if t208 = 3 then ((tree_Expr.f 18).bind fun t209 => (if t209 = true then ((tree_Stmt.f 17).bind fun t210 => (if t210 = true then ((tree_Expr.f 17).bind fun t211 => (if t211 = true then (some false) else ((tree_Sub.f k y192 1).bind fun t212 => (if (t212.length : Int) = 2 then ((tree_Same.f k y192 y192).bind fun t215 => (if t215 = true then ((tree_Same.f k y192 y197).bind fun t216 => (some (!t216))) else (some false))) else (some false))))) else (some false))) else (some false))) else (some false))) else (some false)) else (none)) else (some false)) else (some false))) else (some false))) else (some false)) else (some false)) else (some false)) else (some false)))))) = some r := by first | (rw [hy192]; with_reducible exact H) | (have H2_ := (Option.bind_some _ _).symm.trans H; rw [hy192]; with_reducible exact H2_) | (have H2_ := (Option.bind_some _ _).symm.trans H; with_reducible exact H2_) | with_reducible exact H | (rw [hy192]; exact H) | exact H
  have Ny192 := Aside0.mk hy192
  clear hy192
  replace H := Option.bind_eq_some_iff.mp H
  obtain ⟨⟨t195, t196⟩, A10, H⟩ := H
  try dsimp only at H
  have A1 := Aside0.mk A10
  clear A10
  obtain ⟨y197, hy197⟩ : ∃ y_ : List (S36), y_ = (([(⟨1, 1, (⟨#[109]⟩ : ByteArray), 1, (⟨#[]⟩ : ByteArray)⟩ : S36), (⟨5, 0, (⟨#[]⟩ : ByteArray), 0, (⟨#[]⟩ : ByteArray)⟩ : S36)] : List (S36))) := ⟨_, rfl⟩
  replace H : ((tree_Check.f k y197).bind fun bt200 => ((tree_Kids.f k y192 0).bind fun t202 => (if t195 = 0 then (if t196 = 0 then (if bt200.1 = 4 then (if bt200.2 = 0 then ((tree_End.f k y192 1).bind fun t205 => (if t205 = 3 then ((tree_End.f k y192 3).bind fun t206 => (if t206 = (-1) then (if (t202.length : Int) = 1 then (if 0 < (t202.length : Int) then (if (rd t202 0) = 1 then ((tree_Depth.f k y192).bind fun t208 => (if t208 = 3 then ((tree_Expr.f 18).bind fun t209 => (if t209 = true then ((tree_Stmt.f 17).bind fun t210 => (if t210 = true then ((tree_Expr.f 17).bind fun t211 => (if t211 = true then (some false) else ((tree_Sub.f k y192 1).bind fun t212 => (if (t212.length : Int) = 2 then ((tree_Same.f k y192 y192).bind fun t215 => (if t215 = true then ((tree_Same.f k y192 y197).bind fun t216 => (some (!t216))) else (some false))) else (some false))))) else (some false))) else (some false))) else (some false))) else (some false)) else (none)) else (some false)) else (some false))) else (some false))) else (some false)) else (some false)) else (some false)) else (some false)))) = some r := by first | (rw [hy197]; with_reducible exact H) | (have H2_ := (Option.bind_some _ _).symm.trans H; rw [hy197]; with_reducible exact H2_) | (have H2_ := (Option.bind_some _ _).symm.trans H; with_reducible exact H2_) | with_reducible exact H | (rw [hy197]; exact H) | exact H
  have Ny197 := Aside0.mk hy197
  clear hy197
  replace H := Option.bind_eq_some_iff.mp H
  obtain ⟨⟨t200, t201⟩, A20, H⟩ := H
  try dsimp only at H
  have A2 := Aside0.mk A20
  clear A20
  replace H := Option.bind_eq_some_iff.mp H
  obtain ⟨t202, A30, H⟩ := H
  try dsimp only at H
  have A3 := Aside0.mk A30
  clear A30
  by_cases c4 : t195 = 0
  · rw [if_pos c4] at H
    have c4b0 : (t195 == 0) = true := beq_iff_eq.mpr c4
    have c4b1 : (t195 != 0) = false := bne_eq_false_iff_eq.mpr c4
    clear c4
    by_cases c5 : t196 = 0
    · rw [if_pos c5] at H
      have c5b0 : (t196 == 0) = true := beq_iff_eq.mpr c5
      have c5b1 : (t196 != 0) = false := bne_eq_false_iff_eq.mpr c5
      clear c5
      by_cases c6 : t200 = 4
      · rw [if_pos c6] at H
        have c6b0 : (t200 == 4) = true := beq_iff_eq.mpr c6
        have c6b1 : (t200 != 4) = false := bne_eq_false_iff_eq.mpr c6
        clear c6
        by_cases c7 : t201 = 0
        · rw [if_pos c7] at H
          have c7b0 : (t201 == 0) = true := beq_iff_eq.mpr c7
          have c7b1 : (t201 != 0) = false := bne_eq_false_iff_eq.mpr c7
          clear c7
          replace H := Option.bind_eq_some_iff.mp H
          obtain ⟨t205, A80, H⟩ := H
          try dsimp only at H
          have A8 := Aside0.mk A80
          clear A80
          by_cases c9 : t205 = 3
          · rw [if_pos c9] at H
            have c9b0 : (t205 == 3) = true := beq_iff_eq.mpr c9
            have c9b1 : (t205 != 3) = false := bne_eq_false_iff_eq.mpr c9
            clear c9
            replace H := Option.bind_eq_some_iff.mp H
            obtain ⟨t206, A100, H⟩ := H
            try dsimp only at H
            have A10 := Aside0.mk A100
            clear A100
            by_cases c11 : t206 = (-1)
            · rw [if_pos c11] at H
              have c11b0 : (t206 == (-1)) = true := beq_iff_eq.mpr c11
              have c11b1 : (t206 != (-1)) = false := bne_eq_false_iff_eq.mpr c11
              clear c11
              by_cases c12 : (t202.length : Int) = 1
              · rw [if_pos c12] at H
                have c12b0 : ((t202.length : Int) == 1) = true := beq_iff_eq.mpr c12
                have c12b1 : ((t202.length : Int) != 1) = false := bne_eq_false_iff_eq.mpr c12
                clear c12
                by_cases c13 : 0 < (t202.length : Int)
                · rw [if_pos c13] at H
                  have c13b0 : decide (0 < (t202.length : Int)) = true := decide_eq_true c13
                  have c13b1 : decide (0 < t202.length) = true := decide_eq_true (by omega)
                  clear c13
                  by_cases c14 : (rd t202 0) = 1
                  · rw [if_pos c14] at H
                    have c14b0 : ((rd t202 0) == 1) = true := beq_iff_eq.mpr c14
                    have c14b1 : ((rd t202 0) != 1) = false := bne_eq_false_iff_eq.mpr c14
                    clear c14
                    replace H := Option.bind_eq_some_iff.mp H
                    obtain ⟨t208, A150, H⟩ := H
                    try dsimp only at H
                    have A15 := Aside0.mk A150
                    clear A150
                    by_cases c16 : t208 = 3
                    · rw [if_pos c16] at H
                      have c16b0 : (t208 == 3) = true := beq_iff_eq.mpr c16
                      have c16b1 : (t208 != 3) = false := bne_eq_false_iff_eq.mpr c16
                      clear c16
                      replace H := Option.bind_eq_some_iff.mp H
                      obtain ⟨t209, A170, H⟩ := H
                      try dsimp only at H
                      have A17 := Aside0.mk A170
                      clear A170
                      by_cases c18 : t209 = true
                      · subst c18
                        rw [if_pos rfl] at H
                        have H1 := H
                        clear H
                        have H := H1
                        clear H1
                        replace H := Option.bind_eq_some_iff.mp H
                        obtain ⟨t210, A190, H⟩ := H
                        try dsimp only at H
                        have A19 := Aside0.mk A190
                        clear A190
                        by_cases c20 : t210 = true
                        · subst c20
                          rw [if_pos rfl] at H
                          have H1 := H
                          clear H
                          have H := H1
                          clear H1
                          replace H := Option.bind_eq_some_iff.mp H
                          obtain ⟨t211, A210, H⟩ := H
                          try dsimp only at H
                          have A21 := Aside0.mk A210
                          clear A210
                          by_cases c22 : t211 = true
                          · subst c22
                            have H1 : (some false) = some r := by rw [if_pos rfl] at H; exact H
                            clear H
                            have H := H1
                            clear H1
                            exact absurd ((Option.some.inj H).trans HR.out) (by decide)
                          · replace c22 := Bool.eq_false_iff.mpr c22
                            subst c22
                            rw [if_neg (show ¬ (false = true) by decide)] at H
                            have H1 := H
                            clear H
                            have H := H1
                            clear H1
                            replace H := Option.bind_eq_some_iff.mp H
                            obtain ⟨t212, A340, H⟩ := H
                            try dsimp only at H
                            have A34 := Aside0.mk A340
                            clear A340
                            by_cases c35 : (t212.length : Int) = 2
                            · rw [if_pos c35] at H
                              have c35b0 : ((t212.length : Int) == 2) = true := beq_iff_eq.mpr c35
                              have c35b1 : ((t212.length : Int) != 2) = false := bne_eq_false_iff_eq.mpr c35
                              clear c35
                              replace H := Option.bind_eq_some_iff.mp H
                              obtain ⟨t215, A360, H⟩ := H
                              replace H : (if t215 = true then ((tree_Same.f k y192 y197).bind fun t216 => (some (!t216))) else (some false)) = some r := H
                              have A36 := Aside0.mk A360
                              clear A360
                              by_cases c37 : t215 = true
                              · subst c37
                                have H1 : ((tree_Same.f k y192 y197).bind fun t216 => (some (!t216))) = some r := by rw [if_pos rfl] at H; exact H
                                clear H
                                have H := H1
                                clear H1
                                replace H := Option.bind_eq_some_iff.mp H
                                obtain ⟨t216, A380, H⟩ := H
                                replace H : (some (!t216)) = some r := H
                                have A38 := Aside0.mk A380
                                clear A380
                                obtain rfl := Option.some.inj H
                                go_enter Try.func10, Try.ntmps10
                                go_wp2_with (first | ((with_reducible refine gate_dst (N := 11) rfl ?_); (try (refine gate_guard (by rfl) ?_; dsimp only)); refine Kd.R_lit k36 _ 36 ?hg (N := 11) ?hd (xs := ([(⟨1, 1, (⟨#[109]⟩ : ByteArray), 1, (⟨#[]⟩ : ByteArray)⟩ : S36), (⟨3, 1, (⟨#[102]⟩ : ByteArray), 0, (⟨#[]⟩ : ByteArray)⟩ : S36), (⟨5, 0, (⟨#[]⟩ : ByteArray), 0, (⟨#[]⟩ : ByteArray)⟩ : S36)] : List (S36))) (inner := [.int .i64 1, .int .i64 1, .string (⟨#[109]⟩ : ByteArray), .int .i64 1, .string (⟨#[]⟩ : ByteArray), .int .i64 3, .int .i64 1, .string (⟨#[102]⟩ : ByteArray), .int .i64 0, .string (⟨#[]⟩ : ByteArray), .int .i64 5, .int .i64 0, .string (⟨#[]⟩ : ByteArray), .int .i64 0, .string (⟨#[]⟩ : ByteArray)]) (ok := fun _ => True) (okp := fun _ => True) ?hr ?hp (fun _ hk => hk) trivial (Below.refl _ _) (Nat.le_refl _) (by simp) ?_; (case hd => rfl); (case hg => rfl); (case hr => first | (go_simp; done) | (go_simp; rfl)); (case hp => exact (Reps.c5 (show Kd.M k36 _ _ _ (⟨1, 1, (⟨#[109]⟩ : ByteArray), 1, (⟨#[]⟩ : ByteArray)⟩ : S36) [.int .i64 1, .int .i64 1, .string (⟨#[109]⟩ : ByteArray), .int .i64 1, .string (⟨#[]⟩ : ByteArray)] from (k36_mkM _ _ _ (⟨1, 1, (⟨#[109]⟩ : ByteArray), 1, (⟨#[]⟩ : ByteArray)⟩ : S36) )) (Reps.c5 (show Kd.M k36 _ _ _ (⟨3, 1, (⟨#[102]⟩ : ByteArray), 0, (⟨#[]⟩ : ByteArray)⟩ : S36) [.int .i64 3, .int .i64 1, .string (⟨#[102]⟩ : ByteArray), .int .i64 0, .string (⟨#[]⟩ : ByteArray)] from (k36_mkM _ _ _ (⟨3, 1, (⟨#[102]⟩ : ByteArray), 0, (⟨#[]⟩ : ByteArray)⟩ : S36) )) (Reps.c5 (show Kd.M k36 _ _ _ (⟨5, 0, (⟨#[]⟩ : ByteArray), 0, (⟨#[]⟩ : ByteArray)⟩ : S36) [.int .i64 5, .int .i64 0, .string (⟨#[]⟩ : ByteArray), .int .i64 0, .string (⟨#[]⟩ : ByteArray)] from (k36_mkM _ _ _ (⟨5, 0, (⟨#[]⟩ : ByteArray), 0, (⟨#[]⟩ : ByteArray)⟩ : S36) )) (Reps.none _ _))))); intro v193 w39 ho40 hb hg_ hnew_; clear hg_ hnew_; (first | rw [← Ny192.out] at ho40 | (simp only [Int.reduceToNat] at ho40; rw [← Ny192.out] at ho40)); have n0_ := Aside0.mk (Kd.R_lower ho40 (below_size (by repeat (first | (with_reducible first | exact HB.out | apply below_alloc | apply pw_below_drewN | apply below_drew1) | exact HB.out)))); have n1_ := Aside0.mk (below_step (by repeat (first | (with_reducible first | exact HB.out | apply below_alloc | apply pw_below_drewN | apply below_drew1) | exact HB.out)) hb); clear HB; have HO194 := n0_; have HB := n1_; clear n0_ n1_; clear hb ho40; obtain ⟨Ao41, co41, eo41⟩ := Kd.R_slice HO194.out; subst eo41) | ((with_reducible refine gate_callee (f := 11) rfl ?_); refine goesL_ (some 14) rfl rfl Try.func11 (by kernel_rfl) rfl #[.slice Ao41 y192.length co41] rfl (by (try simp only [List.map_toArray, List.map_cons, List.map_nil]); first | done | rfl | (simp only [List.length_drop, List.length_take]; rfl)) ?_; (with_reducible refine (tree_Check.calls k _ _ y192 t195 t196 _ ?side1 ?side2 A1.out).mono ?_); (case side1 => repeat (first | exact (Kd.R_reads' HO194.out).2.2 | (with_reducible refine Kd.C_alloc ?_ _) | (with_reducible refine Kd.C_drewN ?_ _) | (with_reducible refine Kd.C_drew ?_))); (case side2 => exact (Kd.R_reads' HO194.out).2.1); rintro e w42 ⟨rfl, hb⟩; refine ⟨_, rfl, ?_⟩; have n0_ := Aside0.mk (Kd.R_below (by (with_reducible repeat (first | apply Kd.R_alloc | apply Kd.R_drewN | apply Kd.R_drew)); exact HO194.out) hb); have n1_ := Aside0.mk (below_step (by repeat (first | (with_reducible first | exact HB.out | apply below_alloc | apply pw_below_drewN | apply below_drew1) | exact HB.out)) hb); clear HO194; clear HB; have HO194 := n0_; have HB := n1_; clear n0_ n1_; (try clear hb)) | ((with_reducible refine gate_dst (N := 19) rfl ?_); (try (refine gate_guard (by rfl) ?_; dsimp only)); refine Kd.R_lit k36 _ 36 ?hg (N := 19) ?hd (xs := ([(⟨1, 1, (⟨#[109]⟩ : ByteArray), 1, (⟨#[]⟩ : ByteArray)⟩ : S36), (⟨5, 0, (⟨#[]⟩ : ByteArray), 0, (⟨#[]⟩ : ByteArray)⟩ : S36)] : List (S36))) (inner := [.int .i64 1, .int .i64 1, .string (⟨#[109]⟩ : ByteArray), .int .i64 1, .string (⟨#[]⟩ : ByteArray), .int .i64 5, .int .i64 0, .string (⟨#[]⟩ : ByteArray), .int .i64 0, .string (⟨#[]⟩ : ByteArray)]) (ok := fun _ => True) (okp := fun _ => True) ?hr ?hp (fun _ hk => hk) trivial (Below.refl _ _) (Nat.le_refl _) (by simp) ?_; (case hd => rfl); (case hg => rfl); (case hr => first | (go_simp; done) | (go_simp; rfl)); (case hp => exact (Reps.c5 (show Kd.M k36 _ _ _ (⟨1, 1, (⟨#[109]⟩ : ByteArray), 1, (⟨#[]⟩ : ByteArray)⟩ : S36) [.int .i64 1, .int .i64 1, .string (⟨#[109]⟩ : ByteArray), .int .i64 1, .string (⟨#[]⟩ : ByteArray)] from (k36_mkM _ _ _ (⟨1, 1, (⟨#[109]⟩ : ByteArray), 1, (⟨#[]⟩ : ByteArray)⟩ : S36) )) (Reps.c5 (show Kd.M k36 _ _ _ (⟨5, 0, (⟨#[]⟩ : ByteArray), 0, (⟨#[]⟩ : ByteArray)⟩ : S36) [.int .i64 5, .int .i64 0, .string (⟨#[]⟩ : ByteArray), .int .i64 0, .string (⟨#[]⟩ : ByteArray)] from (k36_mkM _ _ _ (⟨5, 0, (⟨#[]⟩ : ByteArray), 0, (⟨#[]⟩ : ByteArray)⟩ : S36) )) (Reps.none _ _)))); intro v198 w43 ho44 hb hg_ hnew_; clear hg_ hnew_; (first | rw [← Ny197.out] at ho44 | (simp only [Int.reduceToNat] at ho44; rw [← Ny197.out] at ho44)); have n0_ := Aside0.mk (Kd.R_elder' (by (with_reducible repeat (first | apply Kd.R_alloc | apply Kd.R_drewN | apply Kd.R_drew)); exact HO194.out) (Kd.R_base ho44) hb); have n1_ := Aside0.mk (Kd.R_lower (Kd.R_new' ho44 (Kd.R_lt (by (with_reducible repeat (first | apply Kd.R_alloc | apply Kd.R_drewN | apply Kd.R_drew)); exact HO194.out))) (below_size (by repeat (first | (with_reducible first | exact HB.out | apply below_alloc | apply pw_below_drewN | apply below_drew1) | exact HB.out)))); have n2_ := Aside0.mk (below_step (by repeat (first | (with_reducible first | exact HB.out | apply below_alloc | apply pw_below_drewN | apply below_drew1) | exact HB.out)) hb); clear HO194; clear HB; have HO194 := n0_; have HO199 := n1_; have HB := n2_; clear n0_ n1_ n2_; clear hb ho44; obtain ⟨Ao45, co45, eo45⟩ := Kd.R_slice HO199.out; subst eo45) | ((with_reducible refine gate_callee (f := 11) rfl ?_); refine goesL_ (some 22) rfl rfl Try.func11 (by kernel_rfl) rfl #[.slice Ao45 y197.length co45] rfl (by (try simp only [List.map_toArray, List.map_cons, List.map_nil]); first | done | rfl | (simp only [List.length_drop, List.length_take]; rfl)) ?_; (with_reducible refine (tree_Check.calls k _ _ y197 t200 t201 _ ?side1 ?side2 A2.out).mono ?_); (case side1 => repeat (first | exact (Kd.R_reads' HO199.out).2.2 | (with_reducible refine Kd.C_alloc ?_ _) | (with_reducible refine Kd.C_drewN ?_ _) | (with_reducible refine Kd.C_drew ?_))); (case side2 => exact (Kd.R_reads' HO199.out).2.1); rintro e w46 ⟨rfl, hb⟩; refine ⟨_, rfl, ?_⟩; have n0_ := Aside0.mk (Kd.R_below (by (with_reducible repeat (first | apply Kd.R_alloc | apply Kd.R_drewN | apply Kd.R_drew)); exact HO194.out) hb); have n1_ := Aside0.mk (Kd.R_below (by (with_reducible repeat (first | apply Kd.R_alloc | apply Kd.R_drewN | apply Kd.R_drew)); exact HO199.out) hb); have n2_ := Aside0.mk (below_step (by repeat (first | (with_reducible first | exact HB.out | apply below_alloc | apply pw_below_drewN | apply below_drew1) | exact HB.out)) hb); clear HO194; clear HO199; clear HB; have HO194 := n0_; have HO199 := n1_; have HB := n2_; clear n0_ n1_ n2_; (try clear hb)) | ((with_reducible refine gate_callee (f := 17) rfl ?_); refine goesL_ (some 26) rfl rfl Try.func17 (by kernel_rfl) rfl #[.slice Ao41 y192.length co41, .int .i64 0] rfl (by (try simp only [List.map_toArray, List.map_cons, List.map_nil]); first | done | rfl | (simp only [List.length_drop, List.length_take]; rfl)) ?_; (with_reducible refine (tree_Kids.calls k _ _ y192 0 t202 _ ?side1 ?side2 A3.out).mono ?_); (case side1 => repeat (first | exact (Kd.R_reads' HO194.out).2.2 | (with_reducible refine Kd.C_alloc ?_ _) | (with_reducible refine Kd.C_drewN ?_ _) | (with_reducible refine Kd.C_drew ?_))); (case side2 => exact (Kd.R_reads' HO194.out).2.1); rintro e w47 ⟨v203, rfl, ho0, hb⟩; refine ⟨_, rfl, ?_⟩; have n0_ := Aside0.mk (Kd.R_below (by (with_reducible repeat (first | apply Kd.R_alloc | apply Kd.R_drewN | apply Kd.R_drew)); exact HO194.out) hb); have n1_ := Aside0.mk (Kd.R_below (by (with_reducible repeat (first | apply Kd.R_alloc | apply Kd.R_drewN | apply Kd.R_drew)); exact HO199.out) hb); have n2_ := Aside0.mk (Kd.R_lower ho0 (below_size (by repeat (first | (with_reducible first | exact HB.out | apply below_alloc | apply pw_below_drewN | apply below_drew1) | exact HB.out)))); have n3_ := Aside0.mk (below_step (by repeat (first | (with_reducible first | exact HB.out | apply below_alloc | apply pw_below_drewN | apply below_drew1) | exact HB.out)) hb); clear HO194; clear HO199; clear HB; have HO194 := n0_; have HO199 := n1_; have HO204 := n2_; have HB := n3_; clear n0_ n1_ n2_ n3_; (try clear hb); (try clear ho0)) | (go_at_call 14; (with_reducible refine (tree_End.calls k _ _ y192 1 t205 _ ?side1 ?side2 A8.out).mono ?_); (case side1 => repeat (first | exact (Kd.R_reads' HO194.out).2.2 | (with_reducible refine Kd.C_alloc ?_ _) | (with_reducible refine Kd.C_drewN ?_ _) | (with_reducible refine Kd.C_drew ?_))); (case side2 => exact (Kd.R_reads' HO194.out).2.1); rintro e w' ⟨rfl, ⟨nd, rfl⟩⟩) | (go_at_call 14; (with_reducible refine (tree_End.calls k _ _ y192 3 t206 _ ?side1 ?side2 A10.out).mono ?_); (case side1 => repeat (first | exact (Kd.R_reads' HO194.out).2.2 | (with_reducible refine Kd.C_alloc ?_ _) | (with_reducible refine Kd.C_drewN ?_ _) | (with_reducible refine Kd.C_drew ?_))); (case side2 => exact (Kd.R_reads' HO194.out).2.1); rintro e w' ⟨rfl, ⟨nd, rfl⟩⟩; obtain ⟨Ao48, co48, eo48⟩ := Kd.R_slice HO204.out; subst eo48; have p207 : 0 ≤ (0 : Int) := (by omega); have q207 : 0 < (t202.length : Int) := of_decide_eq_true (by first | (with_reducible assumption) | assumption); obtain ⟨ad207, e207, hx207_0⟩ := Kd.at_int (Kd.R_reads' HO204.out).2.2 0 p207 q207; cases e207; have qi207 : (0 < t202.length) = True := eq_true (by omega); (try rw [show ((0 : Int)).toNat = 0 from rfl] at hx207_0); (try rw [Addr.add_zero'] at hx207_0); replace p207 := eq_true p207; replace q207 := eq_true q207) | (go_at_call 21; (with_reducible refine (tree_Depth.calls k _ _ y192 t208 _ ?side1 ?side2 A15.out).mono ?_); (case side1 => repeat (first | exact (Kd.R_reads' HO194.out).2.2 | (with_reducible refine Kd.C_alloc ?_ _) | (with_reducible refine Kd.C_drewN ?_ _) | (with_reducible refine Kd.C_drew ?_))); (case side2 => exact (Kd.R_reads' HO194.out).2.1); rintro e w49 ⟨rfl, hb⟩; have n0_ := Aside0.mk (Kd.R_below (by (with_reducible repeat (first | apply Kd.R_alloc | apply Kd.R_drewN | apply Kd.R_drew)); exact HO194.out) hb); have n1_ := Aside0.mk (Kd.R_below (by (with_reducible repeat (first | apply Kd.R_alloc | apply Kd.R_drewN | apply Kd.R_drew)); exact HO199.out) hb); have n2_ := Aside0.mk (Kd.R_below (by (with_reducible repeat (first | apply Kd.R_alloc | apply Kd.R_drewN | apply Kd.R_drew)); exact HO204.out) hb); have n3_ := Aside0.mk (below_step (by repeat (first | (with_reducible first | exact HB.out | apply below_alloc | apply pw_below_drewN | apply below_drew1) | exact HB.out)) hb); clear HO194; clear HO199; clear HO204; clear HB; have HO194 := n0_; have HO199 := n1_; have HO204 := n2_; have HB := n3_; clear n0_ n1_ n2_ n3_; (try clear hb)) | (go_at_call 23; (with_reducible refine (tree_Expr.calls 18 true _ A17.out).mono ?_); rintro e w' ⟨rfl, ⟨nd, rfl⟩⟩) | (go_at_call 25; (with_reducible refine (tree_Stmt.calls 17 true _ A19.out).mono ?_); rintro e w' ⟨rfl, ⟨nd, rfl⟩⟩) | (go_at_call 23; (with_reducible refine (tree_Expr.calls 17 false _ A21.out).mono ?_); rintro e w' ⟨rfl, ⟨nd, rfl⟩⟩) | (go_at_call 13; (with_reducible refine (tree_Sub.calls k _ _ y192 1 t212 _ ?side1 ?side2 A34.out).mono ?_); (case side1 => repeat (first | exact (Kd.R_reads' HO194.out).2.2 | (with_reducible refine Kd.C_alloc ?_ _) | (with_reducible refine Kd.C_drewN ?_ _) | (with_reducible refine Kd.C_drew ?_))); (case side2 => exact (Kd.R_reads' HO194.out).2.1); rintro e w50 ⟨v213, rfl, ho0, hb⟩; have n0_ := Aside0.mk (Kd.R_elder' (by (with_reducible repeat (first | apply Kd.R_alloc | apply Kd.R_drewN | apply Kd.R_drew)); exact HO194.out) (Kd.R_base ho0) hb); have n1_ := Aside0.mk (Kd.R_elder' (by (with_reducible repeat (first | apply Kd.R_alloc | apply Kd.R_drewN | apply Kd.R_drew)); exact HO199.out) (Kd.R_base ho0) hb); have n2_ := Aside0.mk (Kd.R_below (by (with_reducible repeat (first | apply Kd.R_alloc | apply Kd.R_drewN | apply Kd.R_drew)); exact HO204.out) hb); have n3_ := Aside0.mk (Kd.R_lower (Kd.R_new' (Kd.R_new' ho0 (Kd.R_lt (by (with_reducible repeat (first | apply Kd.R_alloc | apply Kd.R_drewN | apply Kd.R_drew)); exact HO194.out))) (Kd.R_lt (by (with_reducible repeat (first | apply Kd.R_alloc | apply Kd.R_drewN | apply Kd.R_drew)); exact HO199.out))) (below_size (by repeat (first | (with_reducible first | exact HB.out | apply below_alloc | apply pw_below_drewN | apply below_drew1) | exact HB.out)))); have n4_ := Aside0.mk (below_step (by repeat (first | (with_reducible first | exact HB.out | apply below_alloc | apply pw_below_drewN | apply below_drew1) | exact HB.out)) hb); clear HO194; clear HO199; clear HO204; clear HB; have HO194 := n0_; have HO199 := n1_; have HO204 := n2_; have HO214 := n3_; have HB := n4_; clear n0_ n1_ n2_ n3_ n4_; (try clear hb); (try clear ho0); obtain ⟨Ao51, co51, eo51⟩ := Kd.R_slice HO214.out; subst eo51) | (go_at_call 27; (with_reducible refine (tree_Same.calls k _ _ y192 _ _ y192 true _ ?side1 ?side2 ?side3 ?side4 A36.out).mono ?_); (case side1 => repeat (first | exact (Kd.R_reads' HO194.out).2.2 | (with_reducible refine Kd.C_alloc ?_ _) | (with_reducible refine Kd.C_drewN ?_ _) | (with_reducible refine Kd.C_drew ?_))); (case side2 => exact (Kd.R_reads' HO194.out).2.1); (case side3 => repeat (first | exact (Kd.R_reads' HO194.out).2.2 | (with_reducible refine Kd.C_alloc ?_ _) | (with_reducible refine Kd.C_drewN ?_ _) | (with_reducible refine Kd.C_drew ?_))); (case side4 => exact (Kd.R_reads' HO194.out).2.1); rintro e w52 ⟨rfl, hb⟩; have n0_ := Aside0.mk (Kd.R_below (by (with_reducible repeat (first | apply Kd.R_alloc | apply Kd.R_drewN | apply Kd.R_drew)); exact HO194.out) hb); have n1_ := Aside0.mk (Kd.R_below (by (with_reducible repeat (first | apply Kd.R_alloc | apply Kd.R_drewN | apply Kd.R_drew)); exact HO199.out) hb); have n2_ := Aside0.mk (Kd.R_below (by (with_reducible repeat (first | apply Kd.R_alloc | apply Kd.R_drewN | apply Kd.R_drew)); exact HO204.out) hb); have n3_ := Aside0.mk (Kd.R_below (by (with_reducible repeat (first | apply Kd.R_alloc | apply Kd.R_drewN | apply Kd.R_drew)); exact HO214.out) hb); have n4_ := Aside0.mk (below_step (by repeat (first | (with_reducible first | exact HB.out | apply below_alloc | apply pw_below_drewN | apply below_drew1) | exact HB.out)) hb); clear HO194; clear HO199; clear HO204; clear HO214; clear HB; have HO194 := n0_; have HO199 := n1_; have HO204 := n2_; have HO214 := n3_; have HB := n4_; clear n0_ n1_ n2_ n3_ n4_; (try clear hb)) | (go_at_call 27; (with_reducible refine (tree_Same.calls k _ _ y192 _ _ y197 t216 _ ?side1 ?side2 ?side3 ?side4 A38.out).mono ?_); (case side1 => repeat (first | exact (Kd.R_reads' HO194.out).2.2 | (with_reducible refine Kd.C_alloc ?_ _) | (with_reducible refine Kd.C_drewN ?_ _) | (with_reducible refine Kd.C_drew ?_))); (case side2 => exact (Kd.R_reads' HO194.out).2.1); (case side3 => repeat (first | exact (Kd.R_reads' HO199.out).2.2 | (with_reducible refine Kd.C_alloc ?_ _) | (with_reducible refine Kd.C_drewN ?_ _) | (with_reducible refine Kd.C_drew ?_))); (case side4 => exact (Kd.R_reads' HO199.out).2.1); rintro e w53 ⟨rfl, hb⟩; have n0_ := Aside0.mk (Kd.R_below (by (with_reducible repeat (first | apply Kd.R_alloc | apply Kd.R_drewN | apply Kd.R_drew)); exact HO194.out) hb); have n1_ := Aside0.mk (Kd.R_below (by (with_reducible repeat (first | apply Kd.R_alloc | apply Kd.R_drewN | apply Kd.R_drew)); exact HO199.out) hb); have n2_ := Aside0.mk (Kd.R_below (by (with_reducible repeat (first | apply Kd.R_alloc | apply Kd.R_drewN | apply Kd.R_drew)); exact HO204.out) hb); have n3_ := Aside0.mk (Kd.R_below (by (with_reducible repeat (first | apply Kd.R_alloc | apply Kd.R_drewN | apply Kd.R_drew)); exact HO214.out) hb); have n4_ := Aside0.mk (below_step (by repeat (first | (with_reducible first | exact HB.out | apply below_alloc | apply pw_below_drewN | apply below_drew1) | exact HB.out)) hb); clear HO194; clear HO199; clear HO204; clear HO214; clear HB; have HO194 := n0_; have HO199 := n1_; have HO204 := n2_; have HO214 := n3_; have HB := n4_; clear n0_ n1_ n2_ n3_ n4_; (try clear hb)))
                                go_ret
                                exact ⟨by first | rfl | (simp [errW_none, errW_some] <;> rfl) | (simp [*, errW_none, errW_some] <;> rfl), by repeat (first | (with_reducible first | exact HB.out | apply below_alloc | apply pw_below_drewN | apply below_drew1) | exact HB.out)⟩
                              · replace c37 := Bool.eq_false_iff.mpr c37
                                subst c37
                                have H1 : (some false) = some r := by rw [if_neg (show ¬ (false = true) by decide)] at H; exact H
                                clear H
                                have H := H1
                                clear H1
                                exact absurd ((Option.some.inj H).trans HR.out) (by decide)
                            · rw [if_neg c35] at H
                              have c35b0 : ((t212.length : Int) == 2) = false := beq_eq_false_iff_ne.mpr c35
                              have c35b1 : ((t212.length : Int) != 2) = true := bne_iff_ne.mpr c35
                              exact absurd ((Option.some.inj H).trans HR.out) (by decide)
                        · replace c20 := Bool.eq_false_iff.mpr c20
                          subst c20
                          have H1 : (some false) = some r := by rw [if_neg (show ¬ (false = true) by decide)] at H; exact H
                          clear H
                          have H := H1
                          clear H1
                          exact absurd ((Option.some.inj H).trans HR.out) (by decide)
                      · replace c18 := Bool.eq_false_iff.mpr c18
                        subst c18
                        have H1 : (some false) = some r := by rw [if_neg (show ¬ (false = true) by decide)] at H; exact H
                        clear H
                        have H := H1
                        clear H1
                        exact absurd ((Option.some.inj H).trans HR.out) (by decide)
                    · rw [if_neg c16] at H
                      have c16b0 : (t208 == 3) = false := beq_eq_false_iff_ne.mpr c16
                      have c16b1 : (t208 != 3) = true := bne_iff_ne.mpr c16
                      exact absurd ((Option.some.inj H).trans HR.out) (by decide)
                  · rw [if_neg c14] at H
                    have c14b0 : ((rd t202 0) == 1) = false := beq_eq_false_iff_ne.mpr c14
                    have c14b1 : ((rd t202 0) != 1) = true := bne_iff_ne.mpr c14
                    exact absurd ((Option.some.inj H).trans HR.out) (by decide)
                · rw [if_neg c13] at H
                  exact absurd H (by simp)
              · rw [if_neg c12] at H
                have c12b0 : ((t202.length : Int) == 1) = false := beq_eq_false_iff_ne.mpr c12
                have c12b1 : ((t202.length : Int) != 1) = true := bne_iff_ne.mpr c12
                exact absurd ((Option.some.inj H).trans HR.out) (by decide)
            · rw [if_neg c11] at H
              have c11b0 : (t206 == (-1)) = false := beq_eq_false_iff_ne.mpr c11
              have c11b1 : (t206 != (-1)) = true := bne_iff_ne.mpr c11
              exact absurd ((Option.some.inj H).trans HR.out) (by decide)
          · rw [if_neg c9] at H
            have c9b0 : (t205 == 3) = false := beq_eq_false_iff_ne.mpr c9
            have c9b1 : (t205 != 3) = true := bne_iff_ne.mpr c9
            exact absurd ((Option.some.inj H).trans HR.out) (by decide)
        · rw [if_neg c7] at H
          have c7b0 : (t201 == 0) = false := beq_eq_false_iff_ne.mpr c7
          have c7b1 : (t201 != 0) = true := bne_iff_ne.mpr c7
          exact absurd ((Option.some.inj H).trans HR.out) (by decide)
      · rw [if_neg c6] at H
        have c6b0 : (t200 == 4) = false := beq_eq_false_iff_ne.mpr c6
        have c6b1 : (t200 != 4) = true := bne_iff_ne.mpr c6
        exact absurd ((Option.some.inj H).trans HR.out) (by decide)
    · rw [if_neg c5] at H
      have c5b0 : (t196 == 0) = false := beq_eq_false_iff_ne.mpr c5
      have c5b1 : (t196 != 0) = true := bne_iff_ne.mpr c5
      exact absurd ((Option.some.inj H).trans HR.out) (by decide)
  · rw [if_neg c4] at H
    have c4b0 : (t195 == 0) = false := beq_eq_false_iff_ne.mpr c4
    have c4b1 : (t195 != 0) = true := bne_iff_ne.mpr c4
    exact absurd ((Option.some.inj H).trans HR.out) (by decide)

end Go.Proofs.Ytclhaajlgmiilaa.Q
