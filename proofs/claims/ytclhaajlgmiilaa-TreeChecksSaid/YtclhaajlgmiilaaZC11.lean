/- Walks over functions of the program, words for them, and what the functions come to; of each text only what this claim uses; no condition. -/
import Derived.Test.YtclhaajlgmiilaaZC3
import Derived.Test.YtclhaajlgmiilaaZC10

namespace Go.Proofs.Ytclhaajlgmiilaa.Q
open Go.RowKit Go.Proofs.YtclhaajlgmiilaaW.PrintWords Go.Proofs.YtclhaajlgmiilaaW.PrintLast Go.Proofs.YtclhaajlgmiilaaW.PrintMore
attribute [local go_sem] max2_int min2_int max_two min_two max_three min_three max_four min_four
set_option linter.unusedVariables false
set_option linter.unusedSimpArgs false

/-! ### chrysalisref09_fields: function 30 -/
def chrysalisref09_fields.j0 : Nat → Bool → Bool → Int → Bool → Int → Int → ByteArray → Int → ByteArray → Int → Int → ByteArray → Int → ByteArray → Option (Bool)
  | 0, _, _, _, _, _, _, _, _, _, _, _, _, _, _ => none
  | k + 1, x3, x4, x14, x57, x251000, x251001, x251002, x251003, x251004, x254000, x254001, x254002, x254003, x254004 => if x57 = true then (if x3 = true then ((chrysalisref09_bare.f x254000 x254001 (⟨#[]⟩ : ByteArray) x254003 x254004).bind fun t256 => (some t256)) else (some false)) else (if x14 = 19 then (if x251003 ≥ 0 then ((chrysalisref09_bare.f x254000 x254001 x254002 0 x254004).bind fun t257 => (some t257)) else (some false)) else (if x14 = 20 then (if (x251004.size : Int) ≤ 1024 then ((chrysalisref09_bare.f x254000 x254001 x254002 x254003 (⟨#[]⟩ : ByteArray)).bind fun t258 => (some t258)) else (some false)) else (if x14 = 23 then (if x3 = true then (if x4 = true then ((chrysalisref09_bare.f x254000 x254001 (⟨#[]⟩ : ByteArray) x254003 (⟨#[]⟩ : ByteArray)).bind fun t259 => (some t259)) else (some false)) else (some false)) else (if x14 = 27 then ((chrysalisref09_op.f k x251004).bind fun t260 => (if t260 = true then ((chrysalisref09_bare.f x254000 x254001 x254002 x254003 (⟨#[]⟩ : ByteArray)).bind fun t261 => (some t261)) else (some false))) else (if x14 = 28 then (if x251004.toList = ([45] : List UInt8) then ((chrysalisref09_bare.f x254000 x254001 x254002 x254003 (⟨#[]⟩ : ByteArray)).bind fun t262 => (some t262)) else (if x251004.toList = ([110, 111, 116] : List UInt8) then ((chrysalisref09_bare.f x254000 x254001 x254002 x254003 (⟨#[]⟩ : ByteArray)).bind fun t263 => (some t263)) else (if x251004.toList = ([108, 101, 110] : List UInt8) then ((chrysalisref09_bare.f x254000 x254001 x254002 x254003 (⟨#[]⟩ : ByteArray)).bind fun t264 => (some t264)) else (some false)))) else (if x251000 ≥ 1 then (if x251000 ≤ 30 then ((chrysalisref09_bare.f x251000 x251001 x251002 x251003 x251004).bind fun t265 => (some t265)) else (some false)) else (some false)))))))
def chrysalisref09_fields.f (k : Nat) (a0_0 : Int) (a0_1 : Int) (a0_2 : ByteArray) (a0_3 : Int) (a0_4 : ByteArray) : Option (Bool) := (chrysalisref08_Name.f k a0_2).bind fun t251 => ((chrysalisref08_Name.f k a0_4).bind fun t252 => (if a0_0 = 1 then (if t251 = true then (if a0_3 ≥ 1 then (if a0_3 ≤ 2147483647 then ((chrysalisref09_bare.f a0_0 a0_1 (⟨#[]⟩ : ByteArray) 0 a0_4).bind fun t254 => (some t254)) else (some false)) else (some false)) else (some false)) else (if a0_0 = 2 then (if t251 = true then (if t252 = true then (if a0_3 ≥ 0 then (if a0_3 ≤ 8 then ((chrysalisref09_bare.f a0_0 a0_1 (⟨#[]⟩ : ByteArray) 0 (⟨#[]⟩ : ByteArray)).bind fun t255 => (some t255)) else (some false)) else (some false)) else (some false)) else (some false)) else (if a0_0 = 3 then (chrysalisref09_fields.j0 k t251 t252 a0_0 (a0_0 == 3) a0_0 a0_1 a0_2 a0_3 a0_4 a0_0 a0_1 a0_2 a0_3 a0_4) else (if a0_0 = 4 then (chrysalisref09_fields.j0 k t251 t252 a0_0 (a0_0 == 4) a0_0 a0_1 a0_2 a0_3 a0_4 a0_0 a0_1 a0_2 a0_3 a0_4) else (if a0_0 = 6 then (chrysalisref09_fields.j0 k t251 t252 a0_0 (a0_0 == 6) a0_0 a0_1 a0_2 a0_3 a0_4 a0_0 a0_1 a0_2 a0_3 a0_4) else (if a0_0 = 7 then (chrysalisref09_fields.j0 k t251 t252 a0_0 (a0_0 == 7) a0_0 a0_1 a0_2 a0_3 a0_4 a0_0 a0_1 a0_2 a0_3 a0_4) else (chrysalisref09_fields.j0 k t251 t252 a0_0 (a0_0 == 21) a0_0 a0_1 a0_2 a0_3 a0_4 a0_0 a0_1 a0_2 a0_3 a0_4))))))))
theorem chrysalisref09_fields.mono_l : ∀ k, (∀ y0 y1 y2 y3 y4 y5 y6 y7 y8 y9 y10 y11 y12 y13, LeO (chrysalisref09_fields.j0 k y0 y1 y2 y3 y4 y5 y6 y7 y8 y9 y10 y11 y12 y13) (chrysalisref09_fields.j0 (k + 1) y0 y1 y2 y3 y4 y5 y6 y7 y8 y9 y10 y11 y12 y13))
  | 0 => fun _ _ _ _ _ _ _ _ _ _ _ _ _ _ r h => by simp [chrysalisref09_fields.j0] at h
  | k + 1 => by
    have ih0 := chrysalisref09_fields.mono_l k
    · intro y0 y1 y2 y3 y4 y5 y6 y7 y8 y9 y10 y11 y12 y13
      unfold chrysalisref09_fields.j0
      repeat' first
      | (with_reducible exact ih0 _ _ _ _ _ _ _ _ _ _ _ _ _ _)
      | (with_reducible exact chrysalisref08_Name.mono _ _)
      | (with_reducible exact chrysalisref09_op.mono _ _)
      | (with_reducible exact LeO.refl _)
      | (with_reducible exact LeO.none _)
      | (with_reducible refine LeO.ite ?_ ?_)
      | (with_reducible refine LeO.bind ?_ (fun _ => ?_))
      | exact ih0 _ _ _ _ _ _ _ _ _ _ _ _ _ _
      | exact chrysalisref08_Name.mono _ _
      | exact chrysalisref09_op.mono _ _
      | exact LeO.none _
      | refine LeO.ite ?_ ?_
      | refine LeO.bind ?_ (fun _ => ?_)
theorem chrysalisref09_fields.mono : ∀ a0 a1 a2 a3 a4 k, LeO (chrysalisref09_fields.f k a0 a1 a2 a3 a4) (chrysalisref09_fields.f (k + 1) a0 a1 a2 a3 a4) := by
  intro a0 a1 a2 a3 a4 k
  have ih0 := chrysalisref09_fields.mono_l k
  unfold chrysalisref09_fields.f
  repeat' first
      | (with_reducible exact ih0 _ _ _ _ _ _ _ _ _ _ _ _ _ _)
      | (with_reducible exact chrysalisref08_Name.mono _ _)
      | (with_reducible exact chrysalisref09_op.mono _ _)
      | (with_reducible exact LeO.refl _)
      | (with_reducible exact LeO.none _)
      | (with_reducible refine LeO.ite ?_ ?_)
      | (with_reducible refine LeO.bind ?_ (fun _ => ?_))
      | exact ih0 _ _ _ _ _ _ _ _ _ _ _ _ _ _
      | exact chrysalisref08_Name.mono _ _
      | exact chrysalisref09_op.mono _ _
      | exact LeO.none _
      | refine LeO.ite ?_ ?_
      | refine LeO.bind ?_ (fun _ => ?_)
theorem gen_world {P : Program} {c : Code} {Q : Exit → Act → World → Prop} {a : Act} {w : World} (J : World → Prop) (h : J w) (k : ∀ w', J w' → Code.wp P c Q a w') : Code.wp P c Q a w := k w h
set_option maxHeartbeats 8000000 in
set_option maxRecDepth 100000 in
theorem chrysalisref09_fields.calls (k : Nat) (a0_0 : Int) (a0_1 : Int) (a0_2 : ByteArray) (a0_3 : Int) (a0_4 : ByteArray) (r : Bool) (w : World) (h : chrysalisref09_fields.f k a0_0 a0_1 a0_2 a0_3 a0_4 = some r) :
    Calls Try.prog 30 #[.agg #[.int .i64 a0_0, .int .i64 a0_1, .string a0_2, .int .i64 a0_3, .string a0_4]] w fun e w' => e = .returned (.bool r) ∧ Below w.heap.size w w' := by
  have hu36 := Try.underlying36
  have HB := Aside0.mk (Below.refl w.heap.size w)
  have H : ((chrysalisref08_Name.f k a0_2).bind fun t251 => ((chrysalisref08_Name.f k a0_4).bind fun t252 => (if a0_0 = 1 then (if t251 = true then (if a0_3 ≥ 1 then (if a0_3 ≤ 2147483647 then ((chrysalisref09_bare.f a0_0 a0_1 (⟨#[]⟩ : ByteArray) 0 a0_4).bind fun t254 => (some t254)) else (some false)) else (some false)) else (some false)) else (if a0_0 = 2 then (if t251 = true then (if t252 = true then (if a0_3 ≥ 0 then (if a0_3 ≤ 8 then ((chrysalisref09_bare.f a0_0 a0_1 (⟨#[]⟩ : ByteArray) 0 (⟨#[]⟩ : ByteArray)).bind fun t255 => (some t255)) else (some false)) else (some false)) else (some false)) else (some false)) else (if a0_0 = 3 then (chrysalisref09_fields.j0 k t251 t252 a0_0 (a0_0 == 3) a0_0 a0_1 a0_2 a0_3 a0_4 a0_0 a0_1 a0_2 a0_3 a0_4) else (if a0_0 = 4 then (chrysalisref09_fields.j0 k t251 t252 a0_0 (a0_0 == 4) a0_0 a0_1 a0_2 a0_3 a0_4 a0_0 a0_1 a0_2 a0_3 a0_4) else (if a0_0 = 6 then (chrysalisref09_fields.j0 k t251 t252 a0_0 (a0_0 == 6) a0_0 a0_1 a0_2 a0_3 a0_4 a0_0 a0_1 a0_2 a0_3 a0_4) else (if a0_0 = 7 then (chrysalisref09_fields.j0 k t251 t252 a0_0 (a0_0 == 7) a0_0 a0_1 a0_2 a0_3 a0_4 a0_0 a0_1 a0_2 a0_3 a0_4) else (chrysalisref09_fields.j0 k t251 t252 a0_0 (a0_0 == 21) a0_0 a0_1 a0_2 a0_3 a0_4 a0_0 a0_1 a0_2 a0_3 a0_4))))))))) = some r := h
  clear h
  replace H := Option.bind_eq_some_iff.mp H
  obtain ⟨t251, A20, H⟩ := H
  try dsimp only at H
  have A2 := Aside0.mk A20
  clear A20
  replace H := Option.bind_eq_some_iff.mp H
  obtain ⟨t252, A30, H⟩ := H
  try dsimp only at H
  have A3 := Aside0.mk A30
  clear A30
  go_enter Try.func30, Try.ntmps30
  go_upto_if 15 with (first | ((with_reducible refine gate_dst (N := 1) rfl ?_); refine box_event ?hg (N := 1) ?hd (cs := #[.int .i64 a0_0, .int .i64 a0_1, .string a0_2, .int .i64 a0_3, .string a0_4]) (t := 36) ?hr ?_; (case hd => rfl); (case hg => rfl); (case hr => first | (go_simp; done) | (go_simp; rfl)); intro gb250 hg w108 hbox hb; have n0_ := Aside0.mk (below_step (by repeat (first | (with_reducible first | exact HB.out | apply below_alloc | apply pw_below_drewN | apply below_drew1) | exact HB.out)) hb); have n1_ := Aside0.mk (hbox); have n2_ := Aside0.mk ((by rw [hg]; exact (below_size (by repeat (first | (with_reducible first | exact HB.out | apply below_alloc | apply pw_below_drewN | apply below_drew1) | exact HB.out))) : w.heap.size ≤ gb250)); have n3_ := Aside0.mk ((by rw [hg]; exact (below_size (by repeat (first | (with_reducible first | exact HB.out | apply below_alloc | apply pw_below_drewN | apply below_drew1) | exact HB.out))) : w.heap.size ≤ gb250)); clear HB; have HB := n0_; have BK250 := n1_; have GW250 := n2_; have GE250 := n3_; clear n0_ n1_ n2_ n3_; clear hb hbox hg; have hcz109_0 : w108.cell? ⟨gb250, 0, none⟩ = some (.int .i64 a0_0) := (blk_cell BK250.out 0).trans rfl; have hcz109_1 : w108.cell? ⟨gb250, 1, none⟩ = some (.int .i64 a0_1) := (blk_cell BK250.out 1).trans rfl; have hcz109_2 : w108.cell? ⟨gb250, 2, none⟩ = some (.string a0_2) := (blk_cell BK250.out 2).trans rfl; have hcz109_3 : w108.cell? ⟨gb250, 3, none⟩ = some (.int .i64 a0_3) := (blk_cell BK250.out 3).trans rfl; have hcz109_4 : w108.cell? ⟨gb250, 4, none⟩ = some (.string a0_4) := (blk_cell BK250.out 4).trans rfl; have hfz109_0 := blk_frozen BK250.out 0; have hfz109_1 := blk_frozen BK250.out 1; have hfz109_2 := blk_frozen BK250.out 2; have hfz109_3 := blk_frozen BK250.out 3; have hfz109_4 := blk_frozen BK250.out 4) | ((with_reducible refine gate_callee (f := 41) rfl ?_); refine goesL_ (some 8) rfl rfl Try.func41 (by kernel_rfl) rfl #[.string a0_2] rfl (by (try simp only [List.map_toArray, List.map_cons, List.map_nil]); first | done | rfl | (simp only [List.length_drop, List.length_take]; rfl)) ?_; (with_reducible refine (chrysalisref08_Name.calls k a0_2 t251 _ A2.out).mono ?_); rintro e w110 ⟨rfl, hb⟩; refine ⟨_, rfl, ?_⟩; have n0_ := Aside0.mk (blk_below (g := gb250) (o := .cells #[.int .i64 a0_0, .int .i64 a0_1, .string a0_2, .int .i64 a0_3, .string a0_4] 36 (0, 0)) (by exact BK250.out) hb); have n1_ := Aside0.mk (below_step (by repeat (first | (with_reducible first | exact HB.out | apply below_alloc | apply pw_below_drewN | apply below_drew1 | refine below_set ?_ GE250.out) | exact HB.out)) hb); clear BK250; clear HB; have BK250 := n0_; have HB := n1_; clear n0_ n1_; (try clear hb); have hcz111_0 : w110.cell? ⟨gb250, 0, none⟩ = some (.int .i64 a0_0) := (blk_cell BK250.out 0).trans rfl; have hcz111_1 : w110.cell? ⟨gb250, 1, none⟩ = some (.int .i64 a0_1) := (blk_cell BK250.out 1).trans rfl; have hcz111_2 : w110.cell? ⟨gb250, 2, none⟩ = some (.string a0_2) := (blk_cell BK250.out 2).trans rfl; have hcz111_3 : w110.cell? ⟨gb250, 3, none⟩ = some (.int .i64 a0_3) := (blk_cell BK250.out 3).trans rfl; have hcz111_4 : w110.cell? ⟨gb250, 4, none⟩ = some (.string a0_4) := (blk_cell BK250.out 4).trans rfl; have hfz111_0 := blk_frozen BK250.out 0; have hfz111_1 := blk_frozen BK250.out 1; have hfz111_2 := blk_frozen BK250.out 2; have hfz111_3 := blk_frozen BK250.out 3; have hfz111_4 := blk_frozen BK250.out 4) | ((with_reducible refine gate_callee (f := 41) rfl ?_); refine goesL_ (some 11) rfl rfl Try.func41 (by kernel_rfl) rfl #[.string a0_4] rfl (by (try simp only [List.map_toArray, List.map_cons, List.map_nil]); first | done | rfl | (simp only [List.length_drop, List.length_take]; rfl)) ?_; (with_reducible refine (chrysalisref08_Name.calls k a0_4 t252 _ A3.out).mono ?_); rintro e w112 ⟨rfl, hb⟩; refine ⟨_, rfl, ?_⟩; have n0_ := Aside0.mk (blk_below (g := gb250) (o := .cells #[.int .i64 a0_0, .int .i64 a0_1, .string a0_2, .int .i64 a0_3, .string a0_4] 36 (0, 0)) (by exact BK250.out) hb); have n1_ := Aside0.mk (below_step (by repeat (first | (with_reducible first | exact HB.out | apply below_alloc | apply pw_below_drewN | apply below_drew1 | refine below_set ?_ GE250.out) | exact HB.out)) hb); clear BK250; clear HB; have BK250 := n0_; have HB := n1_; clear n0_ n1_; (try clear hb); have hcz113_0 : w112.cell? ⟨gb250, 0, none⟩ = some (.int .i64 a0_0) := (blk_cell BK250.out 0).trans rfl; have hcz113_1 : w112.cell? ⟨gb250, 1, none⟩ = some (.int .i64 a0_1) := (blk_cell BK250.out 1).trans rfl; have hcz113_2 : w112.cell? ⟨gb250, 2, none⟩ = some (.string a0_2) := (blk_cell BK250.out 2).trans rfl; have hcz113_3 : w112.cell? ⟨gb250, 3, none⟩ = some (.int .i64 a0_3) := (blk_cell BK250.out 3).trans rfl; have hcz113_4 : w112.cell? ⟨gb250, 4, none⟩ = some (.string a0_4) := (blk_cell BK250.out 4).trans rfl; have hfz113_0 := blk_frozen BK250.out 0; have hfz113_1 := blk_frozen BK250.out 1; have hfz113_2 := blk_frozen BK250.out 2; have hfz113_3 := blk_frozen BK250.out 3; have hfz113_4 := blk_frozen BK250.out 4) | ((with_reducible refine gate_dst (N := 5) rfl ?_); refine box_event ?hg (N := 5) ?hd (cs := #[.int .i64 0, .int .i64 0, .string (⟨#[]⟩ : ByteArray), .int .i64 0, .string (⟨#[]⟩ : ByteArray)]) (t := 36) ?hr ?_; (case hd => rfl); (case hg => rfl); (case hr => first | (go_simp; done) | (go_simp; rfl)); intro gb253 hg w114 hbox hb; have n0_ := Aside0.mk (blk_below (g := gb250) (o := .cells #[.int .i64 a0_0, .int .i64 a0_1, .string a0_2, .int .i64 a0_3, .string a0_4] 36 (0, 0)) (by exact BK250.out) hb); have n1_ := Aside0.mk (below_step (by repeat (first | (with_reducible first | exact HB.out | apply below_alloc | apply pw_below_drewN | apply below_drew1 | refine below_set ?_ GE250.out) | exact HB.out)) hb); have n2_ := Aside0.mk (hbox); have n3_ := Aside0.mk ((by rw [hg]; exact (below_size (by repeat (first | (with_reducible first | exact HB.out | apply below_alloc | apply pw_below_drewN | apply below_drew1 | refine below_set ?_ GE250.out) | exact HB.out))) : w.heap.size ≤ gb253)); have n4_ := Aside0.mk ((by rw [hg]; exact (below_size (by repeat (first | (with_reducible first | exact HB.out | apply below_alloc | apply pw_below_drewN | apply below_drew1 | refine below_set ?_ GE250.out) | exact HB.out))) : w.heap.size ≤ gb253)); have n5_ := Aside0.mk ((by rw [hg]; exact Nat.ne_of_lt (blk_lt (g := gb250) (o := .cells #[.int .i64 a0_0, .int .i64 a0_1, .string a0_2, .int .i64 a0_3, .string a0_4] 36 (0, 0)) (by exact BK250.out)) : gb250 ≠ gb253)); have n6_ := Aside0.mk ((by rw [hg]; exact Nat.ne_of_gt (blk_lt (g := gb250) (o := .cells #[.int .i64 a0_0, .int .i64 a0_1, .string a0_2, .int .i64 a0_3, .string a0_4] 36 (0, 0)) (by exact BK250.out)) : gb253 ≠ gb250)); clear BK250; clear HB; have BK250 := n0_; have HB := n1_; have BK253 := n2_; have GW253 := n3_; have GE253 := n4_; have NB250_253 := n5_; have NB253_250 := n6_; clear n0_ n1_ n2_ n3_ n4_ n5_ n6_; clear hb hbox hg; have hnb115 := NB253_250.out; have hnc115 := NB250_253.out; have hcz116_0 : w114.cell? ⟨gb253, 0, none⟩ = some (.int .i64 0) := (blk_cell BK253.out 0).trans rfl; have hcz116_1 : w114.cell? ⟨gb253, 1, none⟩ = some (.int .i64 0) := (blk_cell BK253.out 1).trans rfl; have hcz116_2 : w114.cell? ⟨gb253, 2, none⟩ = some (.string (⟨#[]⟩ : ByteArray)) := (blk_cell BK253.out 2).trans rfl; have hcz116_3 : w114.cell? ⟨gb253, 3, none⟩ = some (.int .i64 0) := (blk_cell BK253.out 3).trans rfl; have hcz116_4 : w114.cell? ⟨gb253, 4, none⟩ = some (.string (⟨#[]⟩ : ByteArray)) := (blk_cell BK253.out 4).trans rfl; have hfz116_0 := blk_frozen BK253.out 0; have hfz116_1 := blk_frozen BK253.out 1; have hfz116_2 := blk_frozen BK253.out 2; have hfz116_3 := blk_frozen BK253.out 3; have hfz116_4 := blk_frozen BK253.out 4; have hcz117_0 : w114.cell? ⟨gb250, 0, none⟩ = some (.int .i64 a0_0) := (blk_cell BK250.out 0).trans rfl; have hcz117_1 : w114.cell? ⟨gb250, 1, none⟩ = some (.int .i64 a0_1) := (blk_cell BK250.out 1).trans rfl; have hcz117_2 : w114.cell? ⟨gb250, 2, none⟩ = some (.string a0_2) := (blk_cell BK250.out 2).trans rfl; have hcz117_3 : w114.cell? ⟨gb250, 3, none⟩ = some (.int .i64 a0_3) := (blk_cell BK250.out 3).trans rfl; have hcz117_4 : w114.cell? ⟨gb250, 4, none⟩ = some (.string a0_4) := (blk_cell BK250.out 4).trans rfl; have hfz117_0 := blk_frozen BK250.out 0; have hfz117_1 := blk_frozen BK250.out 1; have hfz117_2 := blk_frozen BK250.out 2; have hfz117_3 := blk_frozen BK250.out 3; have hfz117_4 := blk_frozen BK250.out 4))
  (try simp only [Act.put, List.setIfInBounds_toArray, List.set_cons_zero, List.set_cons_succ])
  refine gen_world (fun w_ => Aside0 (w_.heap[gb250]? = some (.cells #[.int .i64 a0_0, .int .i64 a0_1, .string a0_2, .int .i64 a0_3, .string a0_4] 36 (0, 0))) ∧ Aside0 (w_.heap[gb253]? = some (.cells #[.int .i64 a0_0, .int .i64 a0_1, .string a0_2, .int .i64 a0_3, .string a0_4] 36 (0, 0))) ∧ Aside0 (Below w.heap.size w w_)) ⟨⟨by  refine blk_far ?_ NB250_253.out _; refine blk_far ?_ NB250_253.out _; refine blk_far ?_ NB250_253.out _; refine blk_far ?_ NB250_253.out _; refine blk_far ?_ NB250_253.out _; exact BK250.out⟩, ⟨by  refine blk_put (cs := #[.int .i64 a0_0, .int .i64 a0_1, .string a0_2, .int .i64 a0_3, .string (⟨#[]⟩ : ByteArray)]) ?_ 4 _ rfl; refine blk_put (cs := #[.int .i64 a0_0, .int .i64 a0_1, .string a0_2, .int .i64 0, .string (⟨#[]⟩ : ByteArray)]) ?_ 3 _ rfl; refine blk_put (cs := #[.int .i64 a0_0, .int .i64 a0_1, .string (⟨#[]⟩ : ByteArray), .int .i64 0, .string (⟨#[]⟩ : ByteArray)]) ?_ 2 _ rfl; refine blk_put (cs := #[.int .i64 a0_0, .int .i64 0, .string (⟨#[]⟩ : ByteArray), .int .i64 0, .string (⟨#[]⟩ : ByteArray)]) ?_ 1 _ rfl; refine blk_put (cs := #[.int .i64 0, .int .i64 0, .string (⟨#[]⟩ : ByteArray), .int .i64 0, .string (⟨#[]⟩ : ByteArray)]) ?_ 0 _ rfl; exact BK253.out⟩, ⟨by repeat (first | (with_reducible first | exact HB.out | apply below_alloc | apply pw_below_drewN | apply below_drew1 | refine below_set ?_ GE250.out | refine below_set ?_ GE253.out) | exact HB.out)⟩⟩ ?_
  clear BK250 BK253 HB
  clear hcz109_0 hcz109_1 hcz109_2 hcz109_3 hcz109_4 hcz111_0 hcz111_1 hcz111_2 hcz111_3 hcz111_4 hcz113_0 hcz113_1 hcz113_2 hcz113_3 hcz113_4 hcz116_0 hcz116_1 hcz116_2 hcz116_3 hcz116_4 hcz117_0 hcz117_1 hcz117_2 hcz117_3 hcz117_4 hfz109_0 hfz109_1 hfz109_2 hfz109_3 hfz109_4 hfz111_0 hfz111_1 hfz111_2 hfz111_3 hfz111_4 hfz113_0 hfz113_1 hfz113_2 hfz113_3 hfz113_4 hfz116_0 hfz116_1 hfz116_2 hfz116_3 hfz116_4 hfz117_0 hfz117_1 hfz117_2 hfz117_3 hfz117_4
  rintro w_ ⟨BK250, BK253, HB⟩
  have hcw250_0 : w_.cell? ⟨gb250, 0, none⟩ = some (.int .i64 a0_0) := (blk_cell BK250.out 0).trans rfl
  have hfw250_0 := blk_frozen BK250.out 0
  have hcw250_1 : w_.cell? ⟨gb250, 1, none⟩ = some (.int .i64 a0_1) := (blk_cell BK250.out 1).trans rfl
  have hfw250_1 := blk_frozen BK250.out 1
  have hcw250_2 : w_.cell? ⟨gb250, 2, none⟩ = some (.string a0_2) := (blk_cell BK250.out 2).trans rfl
  have hfw250_2 := blk_frozen BK250.out 2
  have hcw250_3 : w_.cell? ⟨gb250, 3, none⟩ = some (.int .i64 a0_3) := (blk_cell BK250.out 3).trans rfl
  have hfw250_3 := blk_frozen BK250.out 3
  have hcw250_4 : w_.cell? ⟨gb250, 4, none⟩ = some (.string a0_4) := (blk_cell BK250.out 4).trans rfl
  have hfw250_4 := blk_frozen BK250.out 4
  have hcw253_0 : w_.cell? ⟨gb253, 0, none⟩ = some (.int .i64 a0_0) := (blk_cell BK253.out 0).trans rfl
  have hfw253_0 := blk_frozen BK253.out 0
  have hcw253_1 : w_.cell? ⟨gb253, 1, none⟩ = some (.int .i64 a0_1) := (blk_cell BK253.out 1).trans rfl
  have hfw253_1 := blk_frozen BK253.out 1
  have hcw253_2 : w_.cell? ⟨gb253, 2, none⟩ = some (.string a0_2) := (blk_cell BK253.out 2).trans rfl
  have hfw253_2 := blk_frozen BK253.out 2
  have hcw253_3 : w_.cell? ⟨gb253, 3, none⟩ = some (.int .i64 a0_3) := (blk_cell BK253.out 3).trans rfl
  have hfw253_3 := blk_frozen BK253.out 3
  have hcw253_4 : w_.cell? ⟨gb253, 4, none⟩ = some (.string a0_4) := (blk_cell BK253.out 4).trans rfl
  have hfw253_4 := blk_frozen BK253.out 4
  by_cases c4 : a0_0 = 1
  · rw [if_pos c4] at H
    have c4b0 : (a0_0 == 1) = true := beq_iff_eq.mpr c4
    have c4b1 : (a0_0 != 1) = false := bne_eq_false_iff_eq.mpr c4
    clear c4
    by_cases c5 : t251 = true
    · subst c5
      rw [if_pos rfl] at H
      have H1 := H
      clear H
      have H := H1
      clear H1
      by_cases c6 : a0_3 ≥ 1
      · rw [if_pos c6] at H
        have c6b0 : decide (1 ≤ a0_3) = true := decide_eq_true c6
        clear c6
        by_cases c7 : a0_3 ≤ 2147483647
        · rw [if_pos c7] at H
          have c7b0 : decide (a0_3 ≤ 2147483647) = true := decide_eq_true c7
          clear c7
          replace H := Option.bind_eq_some_iff.mp H
          obtain ⟨t254, A80, H⟩ := H
          replace H : (some t254) = some r := H
          have A8 := Aside0.mk A80
          clear A80
          obtain rfl := Option.some.inj H
          go_wp2_with (first | (go_at_call 42; (with_reducible refine (chrysalisref09_bare.calls a0_0 a0_1 (⟨#[]⟩ : ByteArray) 0 a0_4 t254 _ A8.out).mono ?_); rintro e w19 ⟨rfl, hb⟩; have n0_ := Aside0.mk (blk_below (g := gb250) (o := .cells #[.int .i64 a0_0, .int .i64 a0_1, .string a0_2, .int .i64 a0_3, .string a0_4] 36 (0, 0)) (by refine blk_far ?_ NB250_253.out _; refine blk_far ?_ NB250_253.out _; exact BK250.out) hb); have n1_ := Aside0.mk (blk_below (g := gb253) (o := .cells #[.int .i64 a0_0, .int .i64 a0_1, .string (⟨#[]⟩ : ByteArray), .int .i64 0, .string a0_4] 36 (0, 0)) (by refine blk_put (cs := #[.int .i64 a0_0, .int .i64 a0_1, .string (⟨#[]⟩ : ByteArray), .int .i64 a0_3, .string a0_4]) ?_ 3 _ rfl; refine blk_put (cs := #[.int .i64 a0_0, .int .i64 a0_1, .string a0_2, .int .i64 a0_3, .string a0_4]) ?_ 2 _ rfl; exact BK253.out) hb); have n2_ := Aside0.mk (below_step (by repeat (first | (with_reducible first | exact HB.out | apply below_alloc | apply pw_below_drewN | apply below_drew1 | refine below_set ?_ GE250.out | refine below_set ?_ GE253.out) | exact HB.out)) hb); clear BK250; clear BK253; clear HB; have BK250 := n0_; have BK253 := n1_; have HB := n2_; clear n0_ n1_ n2_; (try clear hb)))
          go_ret
          exact ⟨by first | rfl | (simp [errW_none, errW_some] <;> rfl) | (simp [*, errW_none, errW_some] <;> rfl), by repeat (first | (with_reducible first | exact HB.out | apply below_alloc | apply pw_below_drewN | apply below_drew1 | refine below_set ?_ GE250.out | refine below_set ?_ GE253.out) | exact HB.out)⟩
        · rw [if_neg c7] at H
          have c7b0 : decide (a0_3 ≤ 2147483647) = false := decide_eq_false c7
          clear c7
          obtain rfl := Option.some.inj H
          go_wp2
          go_ret
          exact ⟨by first | rfl | (simp [errW_none, errW_some] <;> rfl) | (simp [*, errW_none, errW_some] <;> rfl), by repeat (first | (with_reducible first | exact HB.out | apply below_alloc | apply pw_below_drewN | apply below_drew1 | refine below_set ?_ GE250.out | refine below_set ?_ GE253.out) | exact HB.out)⟩
      · rw [if_neg c6] at H
        have c6b0 : decide (1 ≤ a0_3) = false := decide_eq_false c6
        clear c6
        obtain rfl := Option.some.inj H
        go_wp2
        go_ret
        exact ⟨by first | rfl | (simp [errW_none, errW_some] <;> rfl) | (simp [*, errW_none, errW_some] <;> rfl), by repeat (first | (with_reducible first | exact HB.out | apply below_alloc | apply pw_below_drewN | apply below_drew1 | refine below_set ?_ GE250.out | refine below_set ?_ GE253.out) | exact HB.out)⟩
    · replace c5 := Bool.eq_false_iff.mpr c5
      subst c5
      have H1 : (some false) = some r := by rw [if_neg (show ¬ (false = true) by decide)] at H; exact H
      clear H
      have H := H1
      clear H1
      obtain rfl := Option.some.inj H
      go_wp2
      go_ret
      exact ⟨by first | rfl | (simp [errW_none, errW_some] <;> rfl) | (simp [*, errW_none, errW_some] <;> rfl), by repeat (first | (with_reducible first | exact HB.out | apply below_alloc | apply pw_below_drewN | apply below_drew1 | refine below_set ?_ GE250.out | refine below_set ?_ GE253.out) | exact HB.out)⟩
  · rw [if_neg c4] at H
    have c4b0 : (a0_0 == 1) = false := beq_eq_false_iff_ne.mpr c4
    have c4b1 : (a0_0 != 1) = true := bne_iff_ne.mpr c4
    by_cases c50 : a0_0 = 2
    · rw [if_pos c50] at H
      have c50b0 : (a0_0 == 2) = true := beq_iff_eq.mpr c50
      have c50b1 : (a0_0 != 2) = false := bne_eq_false_iff_eq.mpr c50
      clear c50
      by_cases c51 : t251 = true
      · subst c51
        rw [if_pos rfl] at H
        have H1 := H
        clear H
        have H := H1
        clear H1
        by_cases c52 : t252 = true
        · subst c52
          rw [if_pos rfl] at H
          have H1 := H
          clear H
          have H := H1
          clear H1
          by_cases c53 : a0_3 ≥ 0
          · rw [if_pos c53] at H
            have c53b0 : decide (0 ≤ a0_3) = true := decide_eq_true c53
            clear c53
            by_cases c54 : a0_3 ≤ 8
            · rw [if_pos c54] at H
              have c54b0 : decide (a0_3 ≤ 8) = true := decide_eq_true c54
              clear c54
              replace H := Option.bind_eq_some_iff.mp H
              obtain ⟨t255, A550, H⟩ := H
              replace H : (some t255) = some r := H
              have A55 := Aside0.mk A550
              clear A550
              obtain rfl := Option.some.inj H
              go_wp2_with (first | (go_at_call 42; (with_reducible refine (chrysalisref09_bare.calls a0_0 a0_1 (⟨#[]⟩ : ByteArray) 0 (⟨#[]⟩ : ByteArray) t255 _ A55.out).mono ?_); rintro e w66 ⟨rfl, hb⟩; have n0_ := Aside0.mk (blk_below (g := gb250) (o := .cells #[.int .i64 a0_0, .int .i64 a0_1, .string a0_2, .int .i64 a0_3, .string a0_4] 36 (0, 0)) (by refine blk_far ?_ NB250_253.out _; refine blk_far ?_ NB250_253.out _; refine blk_far ?_ NB250_253.out _; exact BK250.out) hb); have n1_ := Aside0.mk (blk_below (g := gb253) (o := .cells #[.int .i64 a0_0, .int .i64 a0_1, .string (⟨#[]⟩ : ByteArray), .int .i64 0, .string (⟨#[]⟩ : ByteArray)] 36 (0, 0)) (by refine blk_put (cs := #[.int .i64 a0_0, .int .i64 a0_1, .string (⟨#[]⟩ : ByteArray), .int .i64 a0_3, .string (⟨#[]⟩ : ByteArray)]) ?_ 3 _ rfl; refine blk_put (cs := #[.int .i64 a0_0, .int .i64 a0_1, .string (⟨#[]⟩ : ByteArray), .int .i64 a0_3, .string a0_4]) ?_ 4 _ rfl; refine blk_put (cs := #[.int .i64 a0_0, .int .i64 a0_1, .string a0_2, .int .i64 a0_3, .string a0_4]) ?_ 2 _ rfl; exact BK253.out) hb); have n2_ := Aside0.mk (below_step (by repeat (first | (with_reducible first | exact HB.out | apply below_alloc | apply pw_below_drewN | apply below_drew1 | refine below_set ?_ GE250.out | refine below_set ?_ GE253.out) | exact HB.out)) hb); clear BK250; clear BK253; clear HB; have BK250 := n0_; have BK253 := n1_; have HB := n2_; clear n0_ n1_ n2_; (try clear hb)))
              go_ret
              exact ⟨by first | rfl | (simp [errW_none, errW_some] <;> rfl) | (simp [*, errW_none, errW_some] <;> rfl), by repeat (first | (with_reducible first | exact HB.out | apply below_alloc | apply pw_below_drewN | apply below_drew1 | refine below_set ?_ GE250.out | refine below_set ?_ GE253.out) | exact HB.out)⟩
            · rw [if_neg c54] at H
              have c54b0 : decide (a0_3 ≤ 8) = false := decide_eq_false c54
              clear c54
              obtain rfl := Option.some.inj H
              go_wp2
              go_ret
              exact ⟨by first | rfl | (simp [errW_none, errW_some] <;> rfl) | (simp [*, errW_none, errW_some] <;> rfl), by repeat (first | (with_reducible first | exact HB.out | apply below_alloc | apply pw_below_drewN | apply below_drew1 | refine below_set ?_ GE250.out | refine below_set ?_ GE253.out) | exact HB.out)⟩
          · rw [if_neg c53] at H
            have c53b0 : decide (0 ≤ a0_3) = false := decide_eq_false c53
            clear c53
            obtain rfl := Option.some.inj H
            go_wp2
            go_ret
            exact ⟨by first | rfl | (simp [errW_none, errW_some] <;> rfl) | (simp [*, errW_none, errW_some] <;> rfl), by repeat (first | (with_reducible first | exact HB.out | apply below_alloc | apply pw_below_drewN | apply below_drew1 | refine below_set ?_ GE250.out | refine below_set ?_ GE253.out) | exact HB.out)⟩
        · replace c52 := Bool.eq_false_iff.mpr c52
          subst c52
          have H1 : (some false) = some r := by rw [if_neg (show ¬ (false = true) by decide)] at H; exact H
          clear H
          have H := H1
          clear H1
          obtain rfl := Option.some.inj H
          go_wp2
          go_ret
          exact ⟨by first | rfl | (simp [errW_none, errW_some] <;> rfl) | (simp [*, errW_none, errW_some] <;> rfl), by repeat (first | (with_reducible first | exact HB.out | apply below_alloc | apply pw_below_drewN | apply below_drew1 | refine below_set ?_ GE250.out | refine below_set ?_ GE253.out) | exact HB.out)⟩
      · replace c51 := Bool.eq_false_iff.mpr c51
        subst c51
        have H1 : (some false) = some r := by rw [if_neg (show ¬ (false = true) by decide)] at H; exact H
        clear H
        have H := H1
        clear H1
        obtain rfl := Option.some.inj H
        go_wp2
        go_ret
        exact ⟨by first | rfl | (simp [errW_none, errW_some] <;> rfl) | (simp [*, errW_none, errW_some] <;> rfl), by repeat (first | (with_reducible first | exact HB.out | apply below_alloc | apply pw_below_drewN | apply below_drew1 | refine below_set ?_ GE250.out | refine below_set ?_ GE253.out) | exact HB.out)⟩
    · rw [if_neg c50] at H
      have c50b0 : (a0_0 == 2) = false := beq_eq_false_iff_ne.mpr c50
      have c50b1 : (a0_0 != 2) = true := bne_iff_ne.mpr c50
      have HC107 := Aside0.mk H
      clear H
      go_upto_if 57 with (fail)
      (try simp only [Act.put, List.setIfInBounds_toArray, List.set_cons_zero, List.set_cons_succ])
      go_cut [57] (fun v57 wc => ∃ (kq : Nat) (x57_106 : Bool), v57 = .bool x57_106 ∧ Aside0 (chrysalisref09_fields.j0 kq t251 t252 a0_0 x57_106 a0_0 a0_1 a0_2 a0_3 a0_4 a0_0 a0_1 a0_2 a0_3 a0_4 = some r) ∧ Aside0 (kq ≤ k) ∧ Aside0 (wc.heap[gb250]? = some (.cells #[.int .i64 a0_0, .int .i64 a0_1, .string a0_2, .int .i64 a0_3, .string a0_4] 36 (0, 0))) ∧ Aside0 (wc.heap[gb253]? = some (.cells #[.int .i64 a0_0, .int .i64 a0_1, .string a0_2, .int .i64 a0_3, .string a0_4] 36 (0, 0))) ∧ Aside0 (Below w.heap.size w wc))
      case first =>
        have H := HC107.out
        clear HC107
        by_cases c118 : a0_0 = 3
        · rw [if_pos c118] at H
          have c118b0 : (a0_0 == 3) = true := beq_iff_eq.mpr c118
          have c118b1 : (a0_0 != 3) = false := bne_eq_false_iff_eq.mpr c118
          clear c118
          (first | rw [c118b0] | (simp only [i64_w, i32_w]; rw [c118b0]) | skip)
          have H' := Aside0.mk H
          clear H
          go_wp2
          go_meet
          case rel => exact ⟨_, ((a0_0 == 3)), (by first | rfl | (simp; done) | (simp [*]; done)), H', ⟨by first | omega | exact Nat.le_refl _⟩, ⟨by exact BK250.out⟩, ⟨by exact BK253.out⟩, ⟨by repeat (first | (with_reducible first | exact HB.out | apply below_alloc | apply pw_below_drewN | apply below_drew1 | refine below_set ?_ GE250.out | refine below_set ?_ GE253.out) | exact HB.out)⟩⟩
        · rw [if_neg c118] at H
          have c118b0 : (a0_0 == 3) = false := beq_eq_false_iff_ne.mpr c118
          have c118b1 : (a0_0 != 3) = true := bne_iff_ne.mpr c118
          (first | rw [c118b0] | (simp only [i64_w, i32_w]; rw [c118b0]) | skip)
          by_cases c119 : a0_0 = 4
          · rw [if_pos c119] at H
            have c119b0 : (a0_0 == 4) = true := beq_iff_eq.mpr c119
            have c119b1 : (a0_0 != 4) = false := bne_eq_false_iff_eq.mpr c119
            clear c119
            have H' := Aside0.mk H
            clear H
            go_wp2
            go_meet
            case rel => exact ⟨_, ((a0_0 == 4)), (by first | rfl | (simp; done) | (simp [*]; done)), H', ⟨by first | omega | exact Nat.le_refl _⟩, ⟨by exact BK250.out⟩, ⟨by exact BK253.out⟩, ⟨by repeat (first | (with_reducible first | exact HB.out | apply below_alloc | apply pw_below_drewN | apply below_drew1 | refine below_set ?_ GE250.out | refine below_set ?_ GE253.out) | exact HB.out)⟩⟩
          · rw [if_neg c119] at H
            have c119b0 : (a0_0 == 4) = false := beq_eq_false_iff_ne.mpr c119
            have c119b1 : (a0_0 != 4) = true := bne_iff_ne.mpr c119
            by_cases c120 : a0_0 = 6
            · rw [if_pos c120] at H
              have c120b0 : (a0_0 == 6) = true := beq_iff_eq.mpr c120
              have c120b1 : (a0_0 != 6) = false := bne_eq_false_iff_eq.mpr c120
              clear c120
              have H' := Aside0.mk H
              clear H
              go_wp2
              go_meet
              case rel => exact ⟨_, ((a0_0 == 6)), (by first | rfl | (simp; done) | (simp [*]; done)), H', ⟨by first | omega | exact Nat.le_refl _⟩, ⟨by exact BK250.out⟩, ⟨by exact BK253.out⟩, ⟨by repeat (first | (with_reducible first | exact HB.out | apply below_alloc | apply pw_below_drewN | apply below_drew1 | refine below_set ?_ GE250.out | refine below_set ?_ GE253.out) | exact HB.out)⟩⟩
            · rw [if_neg c120] at H
              have c120b0 : (a0_0 == 6) = false := beq_eq_false_iff_ne.mpr c120
              have c120b1 : (a0_0 != 6) = true := bne_iff_ne.mpr c120
              by_cases c121 : a0_0 = 7
              · rw [if_pos c121] at H
                have c121b0 : (a0_0 == 7) = true := beq_iff_eq.mpr c121
                have c121b1 : (a0_0 != 7) = false := bne_eq_false_iff_eq.mpr c121
                clear c121
                have H' := Aside0.mk H
                clear H
                go_wp2
                go_meet
                case rel => exact ⟨_, ((a0_0 == 7)), (by first | rfl | (simp; done) | (simp [*]; done)), H', ⟨by first | omega | exact Nat.le_refl _⟩, ⟨by exact BK250.out⟩, ⟨by exact BK253.out⟩, ⟨by repeat (first | (with_reducible first | exact HB.out | apply below_alloc | apply pw_below_drewN | apply below_drew1 | refine below_set ?_ GE250.out | refine below_set ?_ GE253.out) | exact HB.out)⟩⟩
              · rw [if_neg c121] at H
                have c121b0 : (a0_0 == 7) = false := beq_eq_false_iff_ne.mpr c121
                have c121b1 : (a0_0 != 7) = true := bne_iff_ne.mpr c121
                have H' := Aside0.mk H
                clear H
                go_wp2
                go_meet
                case rel => exact ⟨_, ((a0_0 == 21)), (by first | rfl | (simp; done) | (simp [*]; done)), H', ⟨by first | omega | exact Nat.le_refl _⟩, ⟨by exact BK250.out⟩, ⟨by exact BK253.out⟩, ⟨by repeat (first | (with_reducible first | exact HB.out | apply below_alloc | apply pw_below_drewN | apply below_drew1 | refine below_set ?_ GE250.out | refine below_set ?_ GE253.out) | exact HB.out)⟩⟩
      case rest =>
        clear HC107
        try clear c1
        try clear c2
        try clear p2
        try clear c3
        try clear c4
        try clear c4b0
        try clear c4b1
        try clear c5
        try clear c6
        try clear c6b0
        try clear c7
        try clear c7b0
        try clear c8
        try clear c9
        try clear c10
        try clear c11
        try clear c12
        try clear c16
        try clear c27
        try clear c30
        try clear c37
        try clear c41
        try clear c47
        try clear c50
        try clear c50b0
        try clear c50b1
        try clear c51
        try clear c52
        try clear c53
        try clear c53b0
        try clear c54
        try clear c54b0
        try clear c63
        try clear c74
        try clear c84
        try clear c94
        try clear c104
        try clear c115
        try clear c118
        try clear c118b0
        try clear c118b1
        try clear c119
        try clear c119b0
        try clear c119b1
        try clear c120
        try clear c120b0
        try clear c120b1
        try clear c121
        try clear c121b0
        try clear c121b1
        try clear hcz100_0
        try clear hcz100_1
        try clear hcz100_2
        try clear hcz100_3
        try clear hcz100_4
        try clear hcz102_0
        try clear hcz102_1
        try clear hcz102_2
        try clear hcz102_3
        try clear hcz102_4
        try clear hcz105_0
        try clear hcz105_1
        try clear hcz105_2
        try clear hcz105_3
        try clear hcz105_4
        try clear hcz106_0
        try clear hcz106_1
        try clear hcz106_2
        try clear hcz106_3
        try clear hcz106_4
        try clear hcz109_0
        try clear hcz109_1
        try clear hcz109_2
        try clear hcz109_3
        try clear hcz109_4
        try clear hcz10_0
        try clear hcz10_1
        try clear hcz10_2
        try clear hcz10_3
        try clear hcz10_4
        try clear hcz111_0
        try clear hcz111_1
        try clear hcz111_2
        try clear hcz111_3
        try clear hcz111_4
        try clear hcz113_0
        try clear hcz113_1
        try clear hcz113_2
        try clear hcz113_3
        try clear hcz113_4
        try clear hcz116_0
        try clear hcz116_1
        try clear hcz116_2
        try clear hcz116_3
        try clear hcz116_4
        try clear hcz117_0
        try clear hcz117_1
        try clear hcz117_2
        try clear hcz117_3
        try clear hcz117_4
        try clear hcz12_0
        try clear hcz12_1
        try clear hcz12_2
        try clear hcz12_3
        try clear hcz12_4
        try clear hcz14_0
        try clear hcz14_1
        try clear hcz14_2
        try clear hcz14_3
        try clear hcz14_4
        try clear hcz17_0
        try clear hcz17_1
        try clear hcz17_2
        try clear hcz17_3
        try clear hcz17_4
        try clear hcz18_0
        try clear hcz18_1
        try clear hcz18_2
        try clear hcz18_3
        try clear hcz18_4
        try clear hcz21_0
        try clear hcz21_1
        try clear hcz21_2
        try clear hcz21_3
        try clear hcz21_4
        try clear hcz23_0
        try clear hcz23_1
        try clear hcz23_2
        try clear hcz23_3
        try clear hcz23_4
        try clear hcz25_0
        try clear hcz25_1
        try clear hcz25_2
        try clear hcz25_3
        try clear hcz25_4
        try clear hcz28_0
        try clear hcz28_1
        try clear hcz28_2
        try clear hcz28_3
        try clear hcz28_4
        try clear hcz29_0
        try clear hcz29_1
        try clear hcz29_2
        try clear hcz29_3
        try clear hcz29_4
        try clear hcz31_0
        try clear hcz31_1
        try clear hcz31_2
        try clear hcz31_3
        try clear hcz31_4
        try clear hcz33_0
        try clear hcz33_1
        try clear hcz33_2
        try clear hcz33_3
        try clear hcz33_4
        try clear hcz35_0
        try clear hcz35_1
        try clear hcz35_2
        try clear hcz35_3
        try clear hcz35_4
        try clear hcz38_0
        try clear hcz38_1
        try clear hcz38_2
        try clear hcz38_3
        try clear hcz38_4
        try clear hcz39_0
        try clear hcz39_1
        try clear hcz39_2
        try clear hcz39_3
        try clear hcz39_4
        try clear hcz41_0
        try clear hcz41_1
        try clear hcz41_2
        try clear hcz41_3
        try clear hcz41_4
        try clear hcz43_0
        try clear hcz43_1
        try clear hcz43_2
        try clear hcz43_3
        try clear hcz43_4
        try clear hcz45_0
        try clear hcz45_1
        try clear hcz45_2
        try clear hcz45_3
        try clear hcz45_4
        try clear hcz48_0
        try clear hcz48_1
        try clear hcz48_2
        try clear hcz48_3
        try clear hcz48_4
        try clear hcz49_0
        try clear hcz49_1
        try clear hcz49_2
        try clear hcz49_3
        try clear hcz49_4
        try clear hcz57_0
        try clear hcz57_1
        try clear hcz57_2
        try clear hcz57_3
        try clear hcz57_4
        try clear hcz59_0
        try clear hcz59_1
        try clear hcz59_2
        try clear hcz59_3
        try clear hcz59_4
        try clear hcz61_0
        try clear hcz61_1
        try clear hcz61_2
        try clear hcz61_3
        try clear hcz61_4
        try clear hcz64_0
        try clear hcz64_1
        try clear hcz64_2
        try clear hcz64_3
        try clear hcz64_4
        try clear hcz65_0
        try clear hcz65_1
        try clear hcz65_2
        try clear hcz65_3
        try clear hcz65_4
        try clear hcz68_0
        try clear hcz68_1
        try clear hcz68_2
        try clear hcz68_3
        try clear hcz68_4
        try clear hcz70_0
        try clear hcz70_1
        try clear hcz70_2
        try clear hcz70_3
        try clear hcz70_4
        try clear hcz72_0
        try clear hcz72_1
        try clear hcz72_2
        try clear hcz72_3
        try clear hcz72_4
        try clear hcz75_0
        try clear hcz75_1
        try clear hcz75_2
        try clear hcz75_3
        try clear hcz75_4
        try clear hcz76_0
        try clear hcz76_1
        try clear hcz76_2
        try clear hcz76_3
        try clear hcz76_4
        try clear hcz78_0
        try clear hcz78_1
        try clear hcz78_2
        try clear hcz78_3
        try clear hcz78_4
        try clear hcz80_0
        try clear hcz80_1
        try clear hcz80_2
        try clear hcz80_3
        try clear hcz80_4
        try clear hcz82_0
        try clear hcz82_1
        try clear hcz82_2
        try clear hcz82_3
        try clear hcz82_4
        try clear hcz85_0
        try clear hcz85_1
        try clear hcz85_2
        try clear hcz85_3
        try clear hcz85_4
        try clear hcz86_0
        try clear hcz86_1
        try clear hcz86_2
        try clear hcz86_3
        try clear hcz86_4
        try clear hcz88_0
        try clear hcz88_1
        try clear hcz88_2
        try clear hcz88_3
        try clear hcz88_4
        try clear hcz90_0
        try clear hcz90_1
        try clear hcz90_2
        try clear hcz90_3
        try clear hcz90_4
        try clear hcz92_0
        try clear hcz92_1
        try clear hcz92_2
        try clear hcz92_3
        try clear hcz92_4
        try clear hcz95_0
        try clear hcz95_1
        try clear hcz95_2
        try clear hcz95_3
        try clear hcz95_4
        try clear hcz96_0
        try clear hcz96_1
        try clear hcz96_2
        try clear hcz96_3
        try clear hcz96_4
        try clear hcz98_0
        try clear hcz98_1
        try clear hcz98_2
        try clear hcz98_3
        try clear hcz98_4
        try clear hfz100_0
        try clear hfz100_1
        try clear hfz100_2
        try clear hfz100_3
        try clear hfz100_4
        try clear hfz102_0
        try clear hfz102_1
        try clear hfz102_2
        try clear hfz102_3
        try clear hfz102_4
        try clear hfz105_0
        try clear hfz105_1
        try clear hfz105_2
        try clear hfz105_3
        try clear hfz105_4
        try clear hfz106_0
        try clear hfz106_1
        try clear hfz106_2
        try clear hfz106_3
        try clear hfz106_4
        try clear hfz109_0
        try clear hfz109_1
        try clear hfz109_2
        try clear hfz109_3
        try clear hfz109_4
        try clear hfz10_0
        try clear hfz10_1
        try clear hfz10_2
        try clear hfz10_3
        try clear hfz10_4
        try clear hfz111_0
        try clear hfz111_1
        try clear hfz111_2
        try clear hfz111_3
        try clear hfz111_4
        try clear hfz113_0
        try clear hfz113_1
        try clear hfz113_2
        try clear hfz113_3
        try clear hfz113_4
        try clear hfz116_0
        try clear hfz116_1
        try clear hfz116_2
        try clear hfz116_3
        try clear hfz116_4
        try clear hfz117_0
        try clear hfz117_1
        try clear hfz117_2
        try clear hfz117_3
        try clear hfz117_4
        try clear hfz12_0
        try clear hfz12_1
        try clear hfz12_2
        try clear hfz12_3
        try clear hfz12_4
        try clear hfz14_0
        try clear hfz14_1
        try clear hfz14_2
        try clear hfz14_3
        try clear hfz14_4
        try clear hfz17_0
        try clear hfz17_1
        try clear hfz17_2
        try clear hfz17_3
        try clear hfz17_4
        try clear hfz18_0
        try clear hfz18_1
        try clear hfz18_2
        try clear hfz18_3
        try clear hfz18_4
        try clear hfz21_0
        try clear hfz21_1
        try clear hfz21_2
        try clear hfz21_3
        try clear hfz21_4
        try clear hfz23_0
        try clear hfz23_1
        try clear hfz23_2
        try clear hfz23_3
        try clear hfz23_4
        try clear hfz25_0
        try clear hfz25_1
        try clear hfz25_2
        try clear hfz25_3
        try clear hfz25_4
        try clear hfz28_0
        try clear hfz28_1
        try clear hfz28_2
        try clear hfz28_3
        try clear hfz28_4
        try clear hfz29_0
        try clear hfz29_1
        try clear hfz29_2
        try clear hfz29_3
        try clear hfz29_4
        try clear hfz31_0
        try clear hfz31_1
        try clear hfz31_2
        try clear hfz31_3
        try clear hfz31_4
        try clear hfz33_0
        try clear hfz33_1
        try clear hfz33_2
        try clear hfz33_3
        try clear hfz33_4
        try clear hfz35_0
        try clear hfz35_1
        try clear hfz35_2
        try clear hfz35_3
        try clear hfz35_4
        try clear hfz38_0
        try clear hfz38_1
        try clear hfz38_2
        try clear hfz38_3
        try clear hfz38_4
        try clear hfz39_0
        try clear hfz39_1
        try clear hfz39_2
        try clear hfz39_3
        try clear hfz39_4
        try clear hfz41_0
        try clear hfz41_1
        try clear hfz41_2
        try clear hfz41_3
        try clear hfz41_4
        try clear hfz43_0
        try clear hfz43_1
        try clear hfz43_2
        try clear hfz43_3
        try clear hfz43_4
        try clear hfz45_0
        try clear hfz45_1
        try clear hfz45_2
        try clear hfz45_3
        try clear hfz45_4
        try clear hfz48_0
        try clear hfz48_1
        try clear hfz48_2
        try clear hfz48_3
        try clear hfz48_4
        try clear hfz49_0
        try clear hfz49_1
        try clear hfz49_2
        try clear hfz49_3
        try clear hfz49_4
        try clear hfz57_0
        try clear hfz57_1
        try clear hfz57_2
        try clear hfz57_3
        try clear hfz57_4
        try clear hfz59_0
        try clear hfz59_1
        try clear hfz59_2
        try clear hfz59_3
        try clear hfz59_4
        try clear hfz61_0
        try clear hfz61_1
        try clear hfz61_2
        try clear hfz61_3
        try clear hfz61_4
        try clear hfz64_0
        try clear hfz64_1
        try clear hfz64_2
        try clear hfz64_3
        try clear hfz64_4
        try clear hfz65_0
        try clear hfz65_1
        try clear hfz65_2
        try clear hfz65_3
        try clear hfz65_4
        try clear hfz68_0
        try clear hfz68_1
        try clear hfz68_2
        try clear hfz68_3
        try clear hfz68_4
        try clear hfz70_0
        try clear hfz70_1
        try clear hfz70_2
        try clear hfz70_3
        try clear hfz70_4
        try clear hfz72_0
        try clear hfz72_1
        try clear hfz72_2
        try clear hfz72_3
        try clear hfz72_4
        try clear hfz75_0
        try clear hfz75_1
        try clear hfz75_2
        try clear hfz75_3
        try clear hfz75_4
        try clear hfz76_0
        try clear hfz76_1
        try clear hfz76_2
        try clear hfz76_3
        try clear hfz76_4
        try clear hfz78_0
        try clear hfz78_1
        try clear hfz78_2
        try clear hfz78_3
        try clear hfz78_4
        try clear hfz80_0
        try clear hfz80_1
        try clear hfz80_2
        try clear hfz80_3
        try clear hfz80_4
        try clear hfz82_0
        try clear hfz82_1
        try clear hfz82_2
        try clear hfz82_3
        try clear hfz82_4
        try clear hfz85_0
        try clear hfz85_1
        try clear hfz85_2
        try clear hfz85_3
        try clear hfz85_4
        try clear hfz86_0
        try clear hfz86_1
        try clear hfz86_2
        try clear hfz86_3
        try clear hfz86_4
        try clear hfz88_0
        try clear hfz88_1
        try clear hfz88_2
        try clear hfz88_3
        try clear hfz88_4
        try clear hfz90_0
        try clear hfz90_1
        try clear hfz90_2
        try clear hfz90_3
        try clear hfz90_4
        try clear hfz92_0
        try clear hfz92_1
        try clear hfz92_2
        try clear hfz92_3
        try clear hfz92_4
        try clear hfz95_0
        try clear hfz95_1
        try clear hfz95_2
        try clear hfz95_3
        try clear hfz95_4
        try clear hfz96_0
        try clear hfz96_1
        try clear hfz96_2
        try clear hfz96_3
        try clear hfz96_4
        try clear hfz98_0
        try clear hfz98_1
        try clear hfz98_2
        try clear hfz98_3
        try clear hfz98_4
        obtain ⟨kq, x57_106, rfl, HA, HJ106, BK250, BK253, HB⟩ := hcut
        cases kq with
        | zero => exact absurd HA.out (by simp [chrysalisref09_fields.j0])
        | succ kj106 =>
          have H := HA.out
          clear HA
          simp only [chrysalisref09_fields.j0] at H
          by_cases c122 : x57_106 = true
          · subst c122
            have H1 : (if t251 = true then ((chrysalisref09_bare.f a0_0 a0_1 (⟨#[]⟩ : ByteArray) a0_3 a0_4).bind fun t256 => (some t256)) else (some false)) = some r := by rw [if_pos rfl] at H; exact H
            clear H
            have H := H1
            clear H1
            by_cases c123 : t251 = true
            · subst c123
              have H1 : ((chrysalisref09_bare.f a0_0 a0_1 (⟨#[]⟩ : ByteArray) a0_3 a0_4).bind fun t256 => (some t256)) = some r := by rw [if_pos rfl] at H; exact H
              clear H
              have H := H1
              clear H1
              replace H := Option.bind_eq_some_iff.mp H
              obtain ⟨t256, A1240, H⟩ := H
              replace H : (some t256) = some r := H
              have A124 := Aside0.mk A1240
              clear A1240
              obtain rfl := Option.some.inj H
              have hnb125 := NB253_250.out
              have hnc125 := NB250_253.out
              have hcz126_0 : wc.cell? ⟨gb253, 0, none⟩ = some (.int .i64 a0_0) := (blk_cell BK253.out 0).trans rfl
              have hcz126_1 : wc.cell? ⟨gb253, 1, none⟩ = some (.int .i64 a0_1) := (blk_cell BK253.out 1).trans rfl
              have hcz126_2 : wc.cell? ⟨gb253, 2, none⟩ = some (.string a0_2) := (blk_cell BK253.out 2).trans rfl
              have hcz126_3 : wc.cell? ⟨gb253, 3, none⟩ = some (.int .i64 a0_3) := (blk_cell BK253.out 3).trans rfl
              have hcz126_4 : wc.cell? ⟨gb253, 4, none⟩ = some (.string a0_4) := (blk_cell BK253.out 4).trans rfl
              have hfz126_0 := blk_frozen BK253.out 0
              have hfz126_1 := blk_frozen BK253.out 1
              have hfz126_2 := blk_frozen BK253.out 2
              have hfz126_3 := blk_frozen BK253.out 3
              have hfz126_4 := blk_frozen BK253.out 4
              go_wp2_with (first | (go_at_call 42; (with_reducible refine (chrysalisref09_bare.calls a0_0 a0_1 (⟨#[]⟩ : ByteArray) a0_3 a0_4 t256 _ A124.out).mono ?_); rintro e w127 ⟨rfl, hb⟩; have n0_ := Aside0.mk (blk_below (g := gb250) (o := .cells #[.int .i64 a0_0, .int .i64 a0_1, .string a0_2, .int .i64 a0_3, .string a0_4] 36 (0, 0)) (by refine blk_far ?_ NB250_253.out _; exact BK250.out) hb); have n1_ := Aside0.mk (blk_below (g := gb253) (o := .cells #[.int .i64 a0_0, .int .i64 a0_1, .string (⟨#[]⟩ : ByteArray), .int .i64 a0_3, .string a0_4] 36 (0, 0)) (by refine blk_put (cs := #[.int .i64 a0_0, .int .i64 a0_1, .string a0_2, .int .i64 a0_3, .string a0_4]) ?_ 2 _ rfl; exact BK253.out) hb); have n2_ := Aside0.mk (below_step (by repeat (first | (with_reducible first | exact HB.out | apply below_alloc | apply pw_below_drewN | apply below_drew1 | refine below_set ?_ GE250.out | refine below_set ?_ GE253.out) | exact HB.out)) hb); clear BK250; clear BK253; clear HB; have BK250 := n0_; have BK253 := n1_; have HB := n2_; clear n0_ n1_ n2_; (try clear hb)))
              go_ret
              exact ⟨by first | rfl | (simp [errW_none, errW_some] <;> rfl) | (simp [*, errW_none, errW_some] <;> rfl), by repeat (first | (with_reducible first | exact HB.out | apply below_alloc | apply pw_below_drewN | apply below_drew1 | refine below_set ?_ GE250.out | refine below_set ?_ GE253.out) | exact HB.out)⟩
            · replace c123 := Bool.eq_false_iff.mpr c123
              subst c123
              have H1 : (some false) = some r := by rw [if_neg (show ¬ (false = true) by decide)] at H; exact H
              clear H
              have H := H1
              clear H1
              obtain rfl := Option.some.inj H
              have hnb128 := NB253_250.out
              have hnc128 := NB250_253.out
              have hcz129_0 : wc.cell? ⟨gb253, 0, none⟩ = some (.int .i64 a0_0) := (blk_cell BK253.out 0).trans rfl
              have hcz129_1 : wc.cell? ⟨gb253, 1, none⟩ = some (.int .i64 a0_1) := (blk_cell BK253.out 1).trans rfl
              have hcz129_2 : wc.cell? ⟨gb253, 2, none⟩ = some (.string a0_2) := (blk_cell BK253.out 2).trans rfl
              have hcz129_3 : wc.cell? ⟨gb253, 3, none⟩ = some (.int .i64 a0_3) := (blk_cell BK253.out 3).trans rfl
              have hcz129_4 : wc.cell? ⟨gb253, 4, none⟩ = some (.string a0_4) := (blk_cell BK253.out 4).trans rfl
              have hfz129_0 := blk_frozen BK253.out 0
              have hfz129_1 := blk_frozen BK253.out 1
              have hfz129_2 := blk_frozen BK253.out 2
              have hfz129_3 := blk_frozen BK253.out 3
              have hfz129_4 := blk_frozen BK253.out 4
              go_wp2
              go_ret
              exact ⟨by first | rfl | (simp [errW_none, errW_some] <;> rfl) | (simp [*, errW_none, errW_some] <;> rfl), by repeat (first | (with_reducible first | exact HB.out | apply below_alloc | apply pw_below_drewN | apply below_drew1 | refine below_set ?_ GE250.out | refine below_set ?_ GE253.out) | exact HB.out)⟩
          · replace c122 := Bool.eq_false_iff.mpr c122
            subst c122
            rw [if_neg (show ¬ (false = true) by decide)] at H
            have H1 := H
            clear H
            have H := H1
            clear H1
            by_cases c130 : a0_0 = 19
            · rw [if_pos c130] at H
              have c130b0 : (a0_0 == 19) = true := beq_iff_eq.mpr c130
              have c130b1 : (a0_0 != 19) = false := bne_eq_false_iff_eq.mpr c130
              clear c130
              by_cases c131 : a0_3 ≥ 0
              · rw [if_pos c131] at H
                have c131b0 : decide (0 ≤ a0_3) = true := decide_eq_true c131
                clear c131
                replace H := Option.bind_eq_some_iff.mp H
                obtain ⟨t257, A1320, H⟩ := H
                replace H : (some t257) = some r := H
                have A132 := Aside0.mk A1320
                clear A1320
                obtain rfl := Option.some.inj H
                have hnb133 := NB253_250.out
                have hnc133 := NB250_253.out
                have hcz134_0 : wc.cell? ⟨gb253, 0, none⟩ = some (.int .i64 a0_0) := (blk_cell BK253.out 0).trans rfl
                have hcz134_1 : wc.cell? ⟨gb253, 1, none⟩ = some (.int .i64 a0_1) := (blk_cell BK253.out 1).trans rfl
                have hcz134_2 : wc.cell? ⟨gb253, 2, none⟩ = some (.string a0_2) := (blk_cell BK253.out 2).trans rfl
                have hcz134_3 : wc.cell? ⟨gb253, 3, none⟩ = some (.int .i64 a0_3) := (blk_cell BK253.out 3).trans rfl
                have hcz134_4 : wc.cell? ⟨gb253, 4, none⟩ = some (.string a0_4) := (blk_cell BK253.out 4).trans rfl
                have hfz134_0 := blk_frozen BK253.out 0
                have hfz134_1 := blk_frozen BK253.out 1
                have hfz134_2 := blk_frozen BK253.out 2
                have hfz134_3 := blk_frozen BK253.out 3
                have hfz134_4 := blk_frozen BK253.out 4
                have hcz135_0 : wc.cell? ⟨gb250, 0, none⟩ = some (.int .i64 a0_0) := (blk_cell BK250.out 0).trans rfl
                have hcz135_1 : wc.cell? ⟨gb250, 1, none⟩ = some (.int .i64 a0_1) := (blk_cell BK250.out 1).trans rfl
                have hcz135_2 : wc.cell? ⟨gb250, 2, none⟩ = some (.string a0_2) := (blk_cell BK250.out 2).trans rfl
                have hcz135_3 : wc.cell? ⟨gb250, 3, none⟩ = some (.int .i64 a0_3) := (blk_cell BK250.out 3).trans rfl
                have hcz135_4 : wc.cell? ⟨gb250, 4, none⟩ = some (.string a0_4) := (blk_cell BK250.out 4).trans rfl
                have hfz135_0 := blk_frozen BK250.out 0
                have hfz135_1 := blk_frozen BK250.out 1
                have hfz135_2 := blk_frozen BK250.out 2
                have hfz135_3 := blk_frozen BK250.out 3
                have hfz135_4 := blk_frozen BK250.out 4
                go_wp2_with (first | (go_at_call 42; (with_reducible refine (chrysalisref09_bare.calls a0_0 a0_1 a0_2 0 a0_4 t257 _ A132.out).mono ?_); rintro e w136 ⟨rfl, hb⟩; have n0_ := Aside0.mk (blk_below (g := gb250) (o := .cells #[.int .i64 a0_0, .int .i64 a0_1, .string a0_2, .int .i64 a0_3, .string a0_4] 36 (0, 0)) (by refine blk_far ?_ NB250_253.out _; exact BK250.out) hb); have n1_ := Aside0.mk (blk_below (g := gb253) (o := .cells #[.int .i64 a0_0, .int .i64 a0_1, .string a0_2, .int .i64 0, .string a0_4] 36 (0, 0)) (by refine blk_put (cs := #[.int .i64 a0_0, .int .i64 a0_1, .string a0_2, .int .i64 a0_3, .string a0_4]) ?_ 3 _ rfl; exact BK253.out) hb); have n2_ := Aside0.mk (below_step (by repeat (first | (with_reducible first | exact HB.out | apply below_alloc | apply pw_below_drewN | apply below_drew1 | refine below_set ?_ GE250.out | refine below_set ?_ GE253.out) | exact HB.out)) hb); clear BK250; clear BK253; clear HB; have BK250 := n0_; have BK253 := n1_; have HB := n2_; clear n0_ n1_ n2_; (try clear hb)))
                go_ret
                exact ⟨by first | rfl | (simp [errW_none, errW_some] <;> rfl) | (simp [*, errW_none, errW_some] <;> rfl), by repeat (first | (with_reducible first | exact HB.out | apply below_alloc | apply pw_below_drewN | apply below_drew1 | refine below_set ?_ GE250.out | refine below_set ?_ GE253.out) | exact HB.out)⟩
              · rw [if_neg c131] at H
                have c131b0 : decide (0 ≤ a0_3) = false := decide_eq_false c131
                clear c131
                obtain rfl := Option.some.inj H
                have hnb137 := NB253_250.out
                have hnc137 := NB250_253.out
                have hcz138_0 : wc.cell? ⟨gb253, 0, none⟩ = some (.int .i64 a0_0) := (blk_cell BK253.out 0).trans rfl
                have hcz138_1 : wc.cell? ⟨gb253, 1, none⟩ = some (.int .i64 a0_1) := (blk_cell BK253.out 1).trans rfl
                have hcz138_2 : wc.cell? ⟨gb253, 2, none⟩ = some (.string a0_2) := (blk_cell BK253.out 2).trans rfl
                have hcz138_3 : wc.cell? ⟨gb253, 3, none⟩ = some (.int .i64 a0_3) := (blk_cell BK253.out 3).trans rfl
                have hcz138_4 : wc.cell? ⟨gb253, 4, none⟩ = some (.string a0_4) := (blk_cell BK253.out 4).trans rfl
                have hfz138_0 := blk_frozen BK253.out 0
                have hfz138_1 := blk_frozen BK253.out 1
                have hfz138_2 := blk_frozen BK253.out 2
                have hfz138_3 := blk_frozen BK253.out 3
                have hfz138_4 := blk_frozen BK253.out 4
                have hcz139_0 : wc.cell? ⟨gb250, 0, none⟩ = some (.int .i64 a0_0) := (blk_cell BK250.out 0).trans rfl
                have hcz139_1 : wc.cell? ⟨gb250, 1, none⟩ = some (.int .i64 a0_1) := (blk_cell BK250.out 1).trans rfl
                have hcz139_2 : wc.cell? ⟨gb250, 2, none⟩ = some (.string a0_2) := (blk_cell BK250.out 2).trans rfl
                have hcz139_3 : wc.cell? ⟨gb250, 3, none⟩ = some (.int .i64 a0_3) := (blk_cell BK250.out 3).trans rfl
                have hcz139_4 : wc.cell? ⟨gb250, 4, none⟩ = some (.string a0_4) := (blk_cell BK250.out 4).trans rfl
                have hfz139_0 := blk_frozen BK250.out 0
                have hfz139_1 := blk_frozen BK250.out 1
                have hfz139_2 := blk_frozen BK250.out 2
                have hfz139_3 := blk_frozen BK250.out 3
                have hfz139_4 := blk_frozen BK250.out 4
                go_wp2
                go_ret
                exact ⟨by first | rfl | (simp [errW_none, errW_some] <;> rfl) | (simp [*, errW_none, errW_some] <;> rfl), by repeat (first | (with_reducible first | exact HB.out | apply below_alloc | apply pw_below_drewN | apply below_drew1 | refine below_set ?_ GE250.out | refine below_set ?_ GE253.out) | exact HB.out)⟩
            · rw [if_neg c130] at H
              have c130b0 : (a0_0 == 19) = false := beq_eq_false_iff_ne.mpr c130
              have c130b1 : (a0_0 != 19) = true := bne_iff_ne.mpr c130
              by_cases c140 : a0_0 = 20
              · rw [if_pos c140] at H
                have c140b0 : (a0_0 == 20) = true := beq_iff_eq.mpr c140
                have c140b1 : (a0_0 != 20) = false := bne_eq_false_iff_eq.mpr c140
                clear c140
                by_cases c141 : (a0_4.size : Int) ≤ 1024
                · rw [if_pos c141] at H
                  have c141b0 : decide ((a0_4.size : Int) ≤ 1024) = true := decide_eq_true c141
                  have c141b1 : decide (a0_4.size ≤ 1024) = true := decide_eq_true (by omega)
                  clear c141
                  replace H := Option.bind_eq_some_iff.mp H
                  obtain ⟨t258, A1420, H⟩ := H
                  replace H : (some t258) = some r := H
                  have A142 := Aside0.mk A1420
                  clear A1420
                  obtain rfl := Option.some.inj H
                  have hnb143 := NB253_250.out
                  have hnc143 := NB250_253.out
                  have hcz144_0 : wc.cell? ⟨gb253, 0, none⟩ = some (.int .i64 a0_0) := (blk_cell BK253.out 0).trans rfl
                  have hcz144_1 : wc.cell? ⟨gb253, 1, none⟩ = some (.int .i64 a0_1) := (blk_cell BK253.out 1).trans rfl
                  have hcz144_2 : wc.cell? ⟨gb253, 2, none⟩ = some (.string a0_2) := (blk_cell BK253.out 2).trans rfl
                  have hcz144_3 : wc.cell? ⟨gb253, 3, none⟩ = some (.int .i64 a0_3) := (blk_cell BK253.out 3).trans rfl
                  have hcz144_4 : wc.cell? ⟨gb253, 4, none⟩ = some (.string a0_4) := (blk_cell BK253.out 4).trans rfl
                  have hfz144_0 := blk_frozen BK253.out 0
                  have hfz144_1 := blk_frozen BK253.out 1
                  have hfz144_2 := blk_frozen BK253.out 2
                  have hfz144_3 := blk_frozen BK253.out 3
                  have hfz144_4 := blk_frozen BK253.out 4
                  have hcz145_0 : wc.cell? ⟨gb250, 0, none⟩ = some (.int .i64 a0_0) := (blk_cell BK250.out 0).trans rfl
                  have hcz145_1 : wc.cell? ⟨gb250, 1, none⟩ = some (.int .i64 a0_1) := (blk_cell BK250.out 1).trans rfl
                  have hcz145_2 : wc.cell? ⟨gb250, 2, none⟩ = some (.string a0_2) := (blk_cell BK250.out 2).trans rfl
                  have hcz145_3 : wc.cell? ⟨gb250, 3, none⟩ = some (.int .i64 a0_3) := (blk_cell BK250.out 3).trans rfl
                  have hcz145_4 : wc.cell? ⟨gb250, 4, none⟩ = some (.string a0_4) := (blk_cell BK250.out 4).trans rfl
                  have hfz145_0 := blk_frozen BK250.out 0
                  have hfz145_1 := blk_frozen BK250.out 1
                  have hfz145_2 := blk_frozen BK250.out 2
                  have hfz145_3 := blk_frozen BK250.out 3
                  have hfz145_4 := blk_frozen BK250.out 4
                  go_wp2_with (first | (go_at_call 42; (with_reducible refine (chrysalisref09_bare.calls a0_0 a0_1 a0_2 a0_3 (⟨#[]⟩ : ByteArray) t258 _ A142.out).mono ?_); rintro e w146 ⟨rfl, hb⟩; have n0_ := Aside0.mk (blk_below (g := gb250) (o := .cells #[.int .i64 a0_0, .int .i64 a0_1, .string a0_2, .int .i64 a0_3, .string a0_4] 36 (0, 0)) (by refine blk_far ?_ NB250_253.out _; exact BK250.out) hb); have n1_ := Aside0.mk (blk_below (g := gb253) (o := .cells #[.int .i64 a0_0, .int .i64 a0_1, .string a0_2, .int .i64 a0_3, .string (⟨#[]⟩ : ByteArray)] 36 (0, 0)) (by refine blk_put (cs := #[.int .i64 a0_0, .int .i64 a0_1, .string a0_2, .int .i64 a0_3, .string a0_4]) ?_ 4 _ rfl; exact BK253.out) hb); have n2_ := Aside0.mk (below_step (by repeat (first | (with_reducible first | exact HB.out | apply below_alloc | apply pw_below_drewN | apply below_drew1 | refine below_set ?_ GE250.out | refine below_set ?_ GE253.out) | exact HB.out)) hb); clear BK250; clear BK253; clear HB; have BK250 := n0_; have BK253 := n1_; have HB := n2_; clear n0_ n1_ n2_; (try clear hb)))
                  go_ret
                  exact ⟨by first | rfl | (simp [errW_none, errW_some] <;> rfl) | (simp [*, errW_none, errW_some] <;> rfl), by repeat (first | (with_reducible first | exact HB.out | apply below_alloc | apply pw_below_drewN | apply below_drew1 | refine below_set ?_ GE250.out | refine below_set ?_ GE253.out) | exact HB.out)⟩
                · rw [if_neg c141] at H
                  have c141b0 : decide ((a0_4.size : Int) ≤ 1024) = false := decide_eq_false c141
                  have c141b1 : decide (a0_4.size ≤ 1024) = false := decide_eq_false (by omega)
                  clear c141
                  obtain rfl := Option.some.inj H
                  have hnb147 := NB253_250.out
                  have hnc147 := NB250_253.out
                  have hcz148_0 : wc.cell? ⟨gb253, 0, none⟩ = some (.int .i64 a0_0) := (blk_cell BK253.out 0).trans rfl
                  have hcz148_1 : wc.cell? ⟨gb253, 1, none⟩ = some (.int .i64 a0_1) := (blk_cell BK253.out 1).trans rfl
                  have hcz148_2 : wc.cell? ⟨gb253, 2, none⟩ = some (.string a0_2) := (blk_cell BK253.out 2).trans rfl
                  have hcz148_3 : wc.cell? ⟨gb253, 3, none⟩ = some (.int .i64 a0_3) := (blk_cell BK253.out 3).trans rfl
                  have hcz148_4 : wc.cell? ⟨gb253, 4, none⟩ = some (.string a0_4) := (blk_cell BK253.out 4).trans rfl
                  have hfz148_0 := blk_frozen BK253.out 0
                  have hfz148_1 := blk_frozen BK253.out 1
                  have hfz148_2 := blk_frozen BK253.out 2
                  have hfz148_3 := blk_frozen BK253.out 3
                  have hfz148_4 := blk_frozen BK253.out 4
                  have hcz149_0 : wc.cell? ⟨gb250, 0, none⟩ = some (.int .i64 a0_0) := (blk_cell BK250.out 0).trans rfl
                  have hcz149_1 : wc.cell? ⟨gb250, 1, none⟩ = some (.int .i64 a0_1) := (blk_cell BK250.out 1).trans rfl
                  have hcz149_2 : wc.cell? ⟨gb250, 2, none⟩ = some (.string a0_2) := (blk_cell BK250.out 2).trans rfl
                  have hcz149_3 : wc.cell? ⟨gb250, 3, none⟩ = some (.int .i64 a0_3) := (blk_cell BK250.out 3).trans rfl
                  have hcz149_4 : wc.cell? ⟨gb250, 4, none⟩ = some (.string a0_4) := (blk_cell BK250.out 4).trans rfl
                  have hfz149_0 := blk_frozen BK250.out 0
                  have hfz149_1 := blk_frozen BK250.out 1
                  have hfz149_2 := blk_frozen BK250.out 2
                  have hfz149_3 := blk_frozen BK250.out 3
                  have hfz149_4 := blk_frozen BK250.out 4
                  go_wp2
                  go_ret
                  exact ⟨by first | rfl | (simp [errW_none, errW_some] <;> rfl) | (simp [*, errW_none, errW_some] <;> rfl), by repeat (first | (with_reducible first | exact HB.out | apply below_alloc | apply pw_below_drewN | apply below_drew1 | refine below_set ?_ GE250.out | refine below_set ?_ GE253.out) | exact HB.out)⟩
              · rw [if_neg c140] at H
                have c140b0 : (a0_0 == 20) = false := beq_eq_false_iff_ne.mpr c140
                have c140b1 : (a0_0 != 20) = true := bne_iff_ne.mpr c140
                by_cases c150 : a0_0 = 23
                · rw [if_pos c150] at H
                  have c150b0 : (a0_0 == 23) = true := beq_iff_eq.mpr c150
                  have c150b1 : (a0_0 != 23) = false := bne_eq_false_iff_eq.mpr c150
                  clear c150
                  by_cases c151 : t251 = true
                  · subst c151
                    have H1 : (if t252 = true then ((chrysalisref09_bare.f a0_0 a0_1 (⟨#[]⟩ : ByteArray) a0_3 (⟨#[]⟩ : ByteArray)).bind fun t259 => (some t259)) else (some false)) = some r := by rw [if_pos rfl] at H; exact H
                    clear H
                    have H := H1
                    clear H1
                    by_cases c152 : t252 = true
                    · subst c152
                      have H1 : ((chrysalisref09_bare.f a0_0 a0_1 (⟨#[]⟩ : ByteArray) a0_3 (⟨#[]⟩ : ByteArray)).bind fun t259 => (some t259)) = some r := by rw [if_pos rfl] at H; exact H
                      clear H
                      have H := H1
                      clear H1
                      replace H := Option.bind_eq_some_iff.mp H
                      obtain ⟨t259, A1530, H⟩ := H
                      replace H : (some t259) = some r := H
                      have A153 := Aside0.mk A1530
                      clear A1530
                      obtain rfl := Option.some.inj H
                      have hnb154 := NB253_250.out
                      have hnc154 := NB250_253.out
                      have hcz155_0 : wc.cell? ⟨gb253, 0, none⟩ = some (.int .i64 a0_0) := (blk_cell BK253.out 0).trans rfl
                      have hcz155_1 : wc.cell? ⟨gb253, 1, none⟩ = some (.int .i64 a0_1) := (blk_cell BK253.out 1).trans rfl
                      have hcz155_2 : wc.cell? ⟨gb253, 2, none⟩ = some (.string a0_2) := (blk_cell BK253.out 2).trans rfl
                      have hcz155_3 : wc.cell? ⟨gb253, 3, none⟩ = some (.int .i64 a0_3) := (blk_cell BK253.out 3).trans rfl
                      have hcz155_4 : wc.cell? ⟨gb253, 4, none⟩ = some (.string a0_4) := (blk_cell BK253.out 4).trans rfl
                      have hfz155_0 := blk_frozen BK253.out 0
                      have hfz155_1 := blk_frozen BK253.out 1
                      have hfz155_2 := blk_frozen BK253.out 2
                      have hfz155_3 := blk_frozen BK253.out 3
                      have hfz155_4 := blk_frozen BK253.out 4
                      go_wp2_with (first | (go_at_call 42; (with_reducible refine (chrysalisref09_bare.calls a0_0 a0_1 (⟨#[]⟩ : ByteArray) a0_3 (⟨#[]⟩ : ByteArray) t259 _ A153.out).mono ?_); rintro e w156 ⟨rfl, hb⟩; have n0_ := Aside0.mk (blk_below (g := gb250) (o := .cells #[.int .i64 a0_0, .int .i64 a0_1, .string a0_2, .int .i64 a0_3, .string a0_4] 36 (0, 0)) (by refine blk_far ?_ NB250_253.out _; refine blk_far ?_ NB250_253.out _; exact BK250.out) hb); have n1_ := Aside0.mk (blk_below (g := gb253) (o := .cells #[.int .i64 a0_0, .int .i64 a0_1, .string (⟨#[]⟩ : ByteArray), .int .i64 a0_3, .string (⟨#[]⟩ : ByteArray)] 36 (0, 0)) (by refine blk_put (cs := #[.int .i64 a0_0, .int .i64 a0_1, .string (⟨#[]⟩ : ByteArray), .int .i64 a0_3, .string a0_4]) ?_ 4 _ rfl; refine blk_put (cs := #[.int .i64 a0_0, .int .i64 a0_1, .string a0_2, .int .i64 a0_3, .string a0_4]) ?_ 2 _ rfl; exact BK253.out) hb); have n2_ := Aside0.mk (below_step (by repeat (first | (with_reducible first | exact HB.out | apply below_alloc | apply pw_below_drewN | apply below_drew1 | refine below_set ?_ GE250.out | refine below_set ?_ GE253.out) | exact HB.out)) hb); clear BK250; clear BK253; clear HB; have BK250 := n0_; have BK253 := n1_; have HB := n2_; clear n0_ n1_ n2_; (try clear hb)))
                      go_ret
                      exact ⟨by first | rfl | (simp [errW_none, errW_some] <;> rfl) | (simp [*, errW_none, errW_some] <;> rfl), by repeat (first | (with_reducible first | exact HB.out | apply below_alloc | apply pw_below_drewN | apply below_drew1 | refine below_set ?_ GE250.out | refine below_set ?_ GE253.out) | exact HB.out)⟩
                    · replace c152 := Bool.eq_false_iff.mpr c152
                      subst c152
                      have H1 : (some false) = some r := by rw [if_neg (show ¬ (false = true) by decide)] at H; exact H
                      clear H
                      have H := H1
                      clear H1
                      obtain rfl := Option.some.inj H
                      have hnb157 := NB253_250.out
                      have hnc157 := NB250_253.out
                      have hcz158_0 : wc.cell? ⟨gb253, 0, none⟩ = some (.int .i64 a0_0) := (blk_cell BK253.out 0).trans rfl
                      have hcz158_1 : wc.cell? ⟨gb253, 1, none⟩ = some (.int .i64 a0_1) := (blk_cell BK253.out 1).trans rfl
                      have hcz158_2 : wc.cell? ⟨gb253, 2, none⟩ = some (.string a0_2) := (blk_cell BK253.out 2).trans rfl
                      have hcz158_3 : wc.cell? ⟨gb253, 3, none⟩ = some (.int .i64 a0_3) := (blk_cell BK253.out 3).trans rfl
                      have hcz158_4 : wc.cell? ⟨gb253, 4, none⟩ = some (.string a0_4) := (blk_cell BK253.out 4).trans rfl
                      have hfz158_0 := blk_frozen BK253.out 0
                      have hfz158_1 := blk_frozen BK253.out 1
                      have hfz158_2 := blk_frozen BK253.out 2
                      have hfz158_3 := blk_frozen BK253.out 3
                      have hfz158_4 := blk_frozen BK253.out 4
                      go_wp2
                      go_ret
                      exact ⟨by first | rfl | (simp [errW_none, errW_some] <;> rfl) | (simp [*, errW_none, errW_some] <;> rfl), by repeat (first | (with_reducible first | exact HB.out | apply below_alloc | apply pw_below_drewN | apply below_drew1 | refine below_set ?_ GE250.out | refine below_set ?_ GE253.out) | exact HB.out)⟩
                  · replace c151 := Bool.eq_false_iff.mpr c151
                    subst c151
                    have H1 : (some false) = some r := by rw [if_neg (show ¬ (false = true) by decide)] at H; exact H
                    clear H
                    have H := H1
                    clear H1
                    obtain rfl := Option.some.inj H
                    have hnb159 := NB253_250.out
                    have hnc159 := NB250_253.out
                    have hcz160_0 : wc.cell? ⟨gb253, 0, none⟩ = some (.int .i64 a0_0) := (blk_cell BK253.out 0).trans rfl
                    have hcz160_1 : wc.cell? ⟨gb253, 1, none⟩ = some (.int .i64 a0_1) := (blk_cell BK253.out 1).trans rfl
                    have hcz160_2 : wc.cell? ⟨gb253, 2, none⟩ = some (.string a0_2) := (blk_cell BK253.out 2).trans rfl
                    have hcz160_3 : wc.cell? ⟨gb253, 3, none⟩ = some (.int .i64 a0_3) := (blk_cell BK253.out 3).trans rfl
                    have hcz160_4 : wc.cell? ⟨gb253, 4, none⟩ = some (.string a0_4) := (blk_cell BK253.out 4).trans rfl
                    have hfz160_0 := blk_frozen BK253.out 0
                    have hfz160_1 := blk_frozen BK253.out 1
                    have hfz160_2 := blk_frozen BK253.out 2
                    have hfz160_3 := blk_frozen BK253.out 3
                    have hfz160_4 := blk_frozen BK253.out 4
                    go_wp2
                    go_ret
                    exact ⟨by first | rfl | (simp [errW_none, errW_some] <;> rfl) | (simp [*, errW_none, errW_some] <;> rfl), by repeat (first | (with_reducible first | exact HB.out | apply below_alloc | apply pw_below_drewN | apply below_drew1 | refine below_set ?_ GE250.out | refine below_set ?_ GE253.out) | exact HB.out)⟩
                · rw [if_neg c150] at H
                  have c150b0 : (a0_0 == 23) = false := beq_eq_false_iff_ne.mpr c150
                  have c150b1 : (a0_0 != 23) = true := bne_iff_ne.mpr c150
                  by_cases c161 : a0_0 = 27
                  · rw [if_pos c161] at H
                    have c161b0 : (a0_0 == 27) = true := beq_iff_eq.mpr c161
                    have c161b1 : (a0_0 != 27) = false := bne_eq_false_iff_eq.mpr c161
                    clear c161
                    replace H := Option.bind_eq_some_iff.mp H
                    obtain ⟨t260, A1620, H⟩ := H
                    replace H : (if t260 = true then ((chrysalisref09_bare.f a0_0 a0_1 a0_2 a0_3 (⟨#[]⟩ : ByteArray)).bind fun t261 => (some t261)) else (some false)) = some r := H
                    have A162 := Aside0.mk A1620
                    clear A1620
                    by_cases c163 : t260 = true
                    · subst c163
                      have H1 : ((chrysalisref09_bare.f a0_0 a0_1 a0_2 a0_3 (⟨#[]⟩ : ByteArray)).bind fun t261 => (some t261)) = some r := by rw [if_pos rfl] at H; exact H
                      clear H
                      have H := H1
                      clear H1
                      replace H := Option.bind_eq_some_iff.mp H
                      obtain ⟨t261, A1640, H⟩ := H
                      replace H : (some t261) = some r := H
                      have A164 := Aside0.mk A1640
                      clear A1640
                      obtain rfl := Option.some.inj H
                      have hnb165 := NB253_250.out
                      have hnc165 := NB250_253.out
                      have hcz166_0 : wc.cell? ⟨gb253, 0, none⟩ = some (.int .i64 a0_0) := (blk_cell BK253.out 0).trans rfl
                      have hcz166_1 : wc.cell? ⟨gb253, 1, none⟩ = some (.int .i64 a0_1) := (blk_cell BK253.out 1).trans rfl
                      have hcz166_2 : wc.cell? ⟨gb253, 2, none⟩ = some (.string a0_2) := (blk_cell BK253.out 2).trans rfl
                      have hcz166_3 : wc.cell? ⟨gb253, 3, none⟩ = some (.int .i64 a0_3) := (blk_cell BK253.out 3).trans rfl
                      have hcz166_4 : wc.cell? ⟨gb253, 4, none⟩ = some (.string a0_4) := (blk_cell BK253.out 4).trans rfl
                      have hfz166_0 := blk_frozen BK253.out 0
                      have hfz166_1 := blk_frozen BK253.out 1
                      have hfz166_2 := blk_frozen BK253.out 2
                      have hfz166_3 := blk_frozen BK253.out 3
                      have hfz166_4 := blk_frozen BK253.out 4
                      have hcz167_0 : wc.cell? ⟨gb250, 0, none⟩ = some (.int .i64 a0_0) := (blk_cell BK250.out 0).trans rfl
                      have hcz167_1 : wc.cell? ⟨gb250, 1, none⟩ = some (.int .i64 a0_1) := (blk_cell BK250.out 1).trans rfl
                      have hcz167_2 : wc.cell? ⟨gb250, 2, none⟩ = some (.string a0_2) := (blk_cell BK250.out 2).trans rfl
                      have hcz167_3 : wc.cell? ⟨gb250, 3, none⟩ = some (.int .i64 a0_3) := (blk_cell BK250.out 3).trans rfl
                      have hcz167_4 : wc.cell? ⟨gb250, 4, none⟩ = some (.string a0_4) := (blk_cell BK250.out 4).trans rfl
                      have hfz167_0 := blk_frozen BK250.out 0
                      have hfz167_1 := blk_frozen BK250.out 1
                      have hfz167_2 := blk_frozen BK250.out 2
                      have hfz167_3 := blk_frozen BK250.out 3
                      have hfz167_4 := blk_frozen BK250.out 4
                      go_wp2_with (first | ((with_reducible refine gate_callee (f := 43) rfl ?_); refine goesL_ (some 107) rfl rfl Try.func43 (by kernel_rfl) rfl #[.string a0_4] rfl (by (try simp only [List.map_toArray, List.map_cons, List.map_nil]); first | done | rfl | (simp only [List.length_drop, List.length_take]; rfl)) ?_; (with_reducible refine (chrysalisref09_op.calls kj106 a0_4 true _ A162.out).mono ?_); rintro e w168 ⟨rfl, hb⟩; refine ⟨_, rfl, ?_⟩; have n0_ := Aside0.mk (blk_below (g := gb250) (o := .cells #[.int .i64 a0_0, .int .i64 a0_1, .string a0_2, .int .i64 a0_3, .string a0_4] 36 (0, 0)) (by refine blk_far ?_ NB250_253.out _; exact BK250.out) hb); have n1_ := Aside0.mk (blk_below (g := gb253) (o := .cells #[.int .i64 a0_0, .int .i64 a0_1, .string a0_2, .int .i64 a0_3, .string (⟨#[]⟩ : ByteArray)] 36 (0, 0)) (by refine blk_put (cs := #[.int .i64 a0_0, .int .i64 a0_1, .string a0_2, .int .i64 a0_3, .string a0_4]) ?_ 4 _ rfl; exact BK253.out) hb); have n2_ := Aside0.mk (below_step (by repeat (first | (with_reducible first | exact HB.out | apply below_alloc | apply pw_below_drewN | apply below_drew1 | refine below_set ?_ GE250.out | refine below_set ?_ GE253.out) | exact HB.out)) hb); clear BK250; clear BK253; clear HB; have BK250 := n0_; have BK253 := n1_; have HB := n2_; clear n0_ n1_ n2_; (try clear hb); have hcz169_0 : w168.cell? ⟨gb253, 0, none⟩ = some (.int .i64 a0_0) := (blk_cell BK253.out 0).trans rfl; have hcz169_1 : w168.cell? ⟨gb253, 1, none⟩ = some (.int .i64 a0_1) := (blk_cell BK253.out 1).trans rfl; have hcz169_2 : w168.cell? ⟨gb253, 2, none⟩ = some (.string a0_2) := (blk_cell BK253.out 2).trans rfl; have hcz169_3 : w168.cell? ⟨gb253, 3, none⟩ = some (.int .i64 a0_3) := (blk_cell BK253.out 3).trans rfl; have hcz169_4 : w168.cell? ⟨gb253, 4, none⟩ = some (.string (⟨#[]⟩ : ByteArray)) := (blk_cell BK253.out 4).trans rfl; have hfz169_0 := blk_frozen BK253.out 0; have hfz169_1 := blk_frozen BK253.out 1; have hfz169_2 := blk_frozen BK253.out 2; have hfz169_3 := blk_frozen BK253.out 3; have hfz169_4 := blk_frozen BK253.out 4) | (go_at_call 42; (with_reducible refine (chrysalisref09_bare.calls a0_0 a0_1 a0_2 a0_3 (⟨#[]⟩ : ByteArray) t261 _ A164.out).mono ?_); rintro e w170 ⟨rfl, hb⟩; have n0_ := Aside0.mk (blk_below (g := gb250) (o := .cells #[.int .i64 a0_0, .int .i64 a0_1, .string a0_2, .int .i64 a0_3, .string a0_4] 36 (0, 0)) (by exact BK250.out) hb); have n1_ := Aside0.mk (blk_below (g := gb253) (o := .cells #[.int .i64 a0_0, .int .i64 a0_1, .string a0_2, .int .i64 a0_3, .string (⟨#[]⟩ : ByteArray)] 36 (0, 0)) (by exact BK253.out) hb); have n2_ := Aside0.mk (below_step (by repeat (first | (with_reducible first | exact HB.out | apply below_alloc | apply pw_below_drewN | apply below_drew1 | refine below_set ?_ GE250.out | refine below_set ?_ GE253.out) | exact HB.out)) hb); clear BK250; clear BK253; clear HB; have BK250 := n0_; have BK253 := n1_; have HB := n2_; clear n0_ n1_ n2_; (try clear hb)))
                      go_ret
                      exact ⟨by first | rfl | (simp [errW_none, errW_some] <;> rfl) | (simp [*, errW_none, errW_some] <;> rfl), by repeat (first | (with_reducible first | exact HB.out | apply below_alloc | apply pw_below_drewN | apply below_drew1 | refine below_set ?_ GE250.out | refine below_set ?_ GE253.out) | exact HB.out)⟩
                    · replace c163 := Bool.eq_false_iff.mpr c163
                      subst c163
                      have H1 : (some false) = some r := by rw [if_neg (show ¬ (false = true) by decide)] at H; exact H
                      clear H
                      have H := H1
                      clear H1
                      obtain rfl := Option.some.inj H
                      have hnb171 := NB253_250.out
                      have hnc171 := NB250_253.out
                      have hcz172_0 : wc.cell? ⟨gb253, 0, none⟩ = some (.int .i64 a0_0) := (blk_cell BK253.out 0).trans rfl
                      have hcz172_1 : wc.cell? ⟨gb253, 1, none⟩ = some (.int .i64 a0_1) := (blk_cell BK253.out 1).trans rfl
                      have hcz172_2 : wc.cell? ⟨gb253, 2, none⟩ = some (.string a0_2) := (blk_cell BK253.out 2).trans rfl
                      have hcz172_3 : wc.cell? ⟨gb253, 3, none⟩ = some (.int .i64 a0_3) := (blk_cell BK253.out 3).trans rfl
                      have hcz172_4 : wc.cell? ⟨gb253, 4, none⟩ = some (.string a0_4) := (blk_cell BK253.out 4).trans rfl
                      have hfz172_0 := blk_frozen BK253.out 0
                      have hfz172_1 := blk_frozen BK253.out 1
                      have hfz172_2 := blk_frozen BK253.out 2
                      have hfz172_3 := blk_frozen BK253.out 3
                      have hfz172_4 := blk_frozen BK253.out 4
                      have hcz173_0 : wc.cell? ⟨gb250, 0, none⟩ = some (.int .i64 a0_0) := (blk_cell BK250.out 0).trans rfl
                      have hcz173_1 : wc.cell? ⟨gb250, 1, none⟩ = some (.int .i64 a0_1) := (blk_cell BK250.out 1).trans rfl
                      have hcz173_2 : wc.cell? ⟨gb250, 2, none⟩ = some (.string a0_2) := (blk_cell BK250.out 2).trans rfl
                      have hcz173_3 : wc.cell? ⟨gb250, 3, none⟩ = some (.int .i64 a0_3) := (blk_cell BK250.out 3).trans rfl
                      have hcz173_4 : wc.cell? ⟨gb250, 4, none⟩ = some (.string a0_4) := (blk_cell BK250.out 4).trans rfl
                      have hfz173_0 := blk_frozen BK250.out 0
                      have hfz173_1 := blk_frozen BK250.out 1
                      have hfz173_2 := blk_frozen BK250.out 2
                      have hfz173_3 := blk_frozen BK250.out 3
                      have hfz173_4 := blk_frozen BK250.out 4
                      go_wp2_with (first | ((with_reducible refine gate_callee (f := 43) rfl ?_); refine goesL_ (some 107) rfl rfl Try.func43 (by kernel_rfl) rfl #[.string a0_4] rfl (by (try simp only [List.map_toArray, List.map_cons, List.map_nil]); first | done | rfl | (simp only [List.length_drop, List.length_take]; rfl)) ?_; (with_reducible refine (chrysalisref09_op.calls kj106 a0_4 false _ A162.out).mono ?_); rintro e w174 ⟨rfl, hb⟩; refine ⟨_, rfl, ?_⟩; have n0_ := Aside0.mk (blk_below (g := gb250) (o := .cells #[.int .i64 a0_0, .int .i64 a0_1, .string a0_2, .int .i64 a0_3, .string a0_4] 36 (0, 0)) (by refine blk_far ?_ NB250_253.out _; exact BK250.out) hb); have n1_ := Aside0.mk (blk_below (g := gb253) (o := .cells #[.int .i64 a0_0, .int .i64 a0_1, .string a0_2, .int .i64 a0_3, .string (⟨#[]⟩ : ByteArray)] 36 (0, 0)) (by refine blk_put (cs := #[.int .i64 a0_0, .int .i64 a0_1, .string a0_2, .int .i64 a0_3, .string a0_4]) ?_ 4 _ rfl; exact BK253.out) hb); have n2_ := Aside0.mk (below_step (by repeat (first | (with_reducible first | exact HB.out | apply below_alloc | apply pw_below_drewN | apply below_drew1 | refine below_set ?_ GE250.out | refine below_set ?_ GE253.out) | exact HB.out)) hb); clear BK250; clear BK253; clear HB; have BK250 := n0_; have BK253 := n1_; have HB := n2_; clear n0_ n1_ n2_; (try clear hb)))
                      go_ret
                      exact ⟨by first | rfl | (simp [errW_none, errW_some] <;> rfl) | (simp [*, errW_none, errW_some] <;> rfl), by repeat (first | (with_reducible first | exact HB.out | apply below_alloc | apply pw_below_drewN | apply below_drew1 | refine below_set ?_ GE250.out | refine below_set ?_ GE253.out) | exact HB.out)⟩
                  · rw [if_neg c161] at H
                    have c161b0 : (a0_0 == 27) = false := beq_eq_false_iff_ne.mpr c161
                    have c161b1 : (a0_0 != 27) = true := bne_iff_ne.mpr c161
                    by_cases c175 : a0_0 = 28
                    · rw [if_pos c175] at H
                      have c175b0 : (a0_0 == 28) = true := beq_iff_eq.mpr c175
                      have c175b1 : (a0_0 != 28) = false := bne_eq_false_iff_eq.mpr c175
                      clear c175
                      by_cases c176 : a0_4.toList = ([45] : List UInt8)
                      · rw [if_pos c176] at H
                        have c176b0 : (a0_4.toList == ([45] : List UInt8)) = true := beq_iff_eq.mpr c176
                        have c176b1 : (a0_4.toList != ([45] : List UInt8)) = false := bne_eq_false_iff_eq.mpr c176
                        clear c176
                        replace H := Option.bind_eq_some_iff.mp H
                        obtain ⟨t262, A1770, H⟩ := H
                        replace H : (some t262) = some r := H
                        have A177 := Aside0.mk A1770
                        clear A1770
                        obtain rfl := Option.some.inj H
                        have hnb178 := NB253_250.out
                        have hnc178 := NB250_253.out
                        have hcz179_0 : wc.cell? ⟨gb253, 0, none⟩ = some (.int .i64 a0_0) := (blk_cell BK253.out 0).trans rfl
                        have hcz179_1 : wc.cell? ⟨gb253, 1, none⟩ = some (.int .i64 a0_1) := (blk_cell BK253.out 1).trans rfl
                        have hcz179_2 : wc.cell? ⟨gb253, 2, none⟩ = some (.string a0_2) := (blk_cell BK253.out 2).trans rfl
                        have hcz179_3 : wc.cell? ⟨gb253, 3, none⟩ = some (.int .i64 a0_3) := (blk_cell BK253.out 3).trans rfl
                        have hcz179_4 : wc.cell? ⟨gb253, 4, none⟩ = some (.string a0_4) := (blk_cell BK253.out 4).trans rfl
                        have hfz179_0 := blk_frozen BK253.out 0
                        have hfz179_1 := blk_frozen BK253.out 1
                        have hfz179_2 := blk_frozen BK253.out 2
                        have hfz179_3 := blk_frozen BK253.out 3
                        have hfz179_4 := blk_frozen BK253.out 4
                        have hcz180_0 : wc.cell? ⟨gb250, 0, none⟩ = some (.int .i64 a0_0) := (blk_cell BK250.out 0).trans rfl
                        have hcz180_1 : wc.cell? ⟨gb250, 1, none⟩ = some (.int .i64 a0_1) := (blk_cell BK250.out 1).trans rfl
                        have hcz180_2 : wc.cell? ⟨gb250, 2, none⟩ = some (.string a0_2) := (blk_cell BK250.out 2).trans rfl
                        have hcz180_3 : wc.cell? ⟨gb250, 3, none⟩ = some (.int .i64 a0_3) := (blk_cell BK250.out 3).trans rfl
                        have hcz180_4 : wc.cell? ⟨gb250, 4, none⟩ = some (.string a0_4) := (blk_cell BK250.out 4).trans rfl
                        have hfz180_0 := blk_frozen BK250.out 0
                        have hfz180_1 := blk_frozen BK250.out 1
                        have hfz180_2 := blk_frozen BK250.out 2
                        have hfz180_3 := blk_frozen BK250.out 3
                        have hfz180_4 := blk_frozen BK250.out 4
                        go_wp2_with (first | (go_at_call 42; (with_reducible refine (chrysalisref09_bare.calls a0_0 a0_1 a0_2 a0_3 (⟨#[]⟩ : ByteArray) t262 _ A177.out).mono ?_); rintro e w181 ⟨rfl, hb⟩; have n0_ := Aside0.mk (blk_below (g := gb250) (o := .cells #[.int .i64 a0_0, .int .i64 a0_1, .string a0_2, .int .i64 a0_3, .string a0_4] 36 (0, 0)) (by refine blk_far ?_ NB250_253.out _; exact BK250.out) hb); have n1_ := Aside0.mk (blk_below (g := gb253) (o := .cells #[.int .i64 a0_0, .int .i64 a0_1, .string a0_2, .int .i64 a0_3, .string (⟨#[]⟩ : ByteArray)] 36 (0, 0)) (by refine blk_put (cs := #[.int .i64 a0_0, .int .i64 a0_1, .string a0_2, .int .i64 a0_3, .string a0_4]) ?_ 4 _ rfl; exact BK253.out) hb); have n2_ := Aside0.mk (below_step (by repeat (first | (with_reducible first | exact HB.out | apply below_alloc | apply pw_below_drewN | apply below_drew1 | refine below_set ?_ GE250.out | refine below_set ?_ GE253.out) | exact HB.out)) hb); clear BK250; clear BK253; clear HB; have BK250 := n0_; have BK253 := n1_; have HB := n2_; clear n0_ n1_ n2_; (try clear hb)))
                        go_ret
                        exact ⟨by first | rfl | (simp [errW_none, errW_some] <;> rfl) | (simp [*, errW_none, errW_some] <;> rfl), by repeat (first | (with_reducible first | exact HB.out | apply below_alloc | apply pw_below_drewN | apply below_drew1 | refine below_set ?_ GE250.out | refine below_set ?_ GE253.out) | exact HB.out)⟩
                      · rw [if_neg c176] at H
                        have c176b0 : (a0_4.toList == ([45] : List UInt8)) = false := beq_eq_false_iff_ne.mpr c176
                        have c176b1 : (a0_4.toList != ([45] : List UInt8)) = true := bne_iff_ne.mpr c176
                        by_cases c182 : a0_4.toList = ([110, 111, 116] : List UInt8)
                        · rw [if_pos c182] at H
                          have c182b0 : (a0_4.toList == ([110, 111, 116] : List UInt8)) = true := beq_iff_eq.mpr c182
                          have c182b1 : (a0_4.toList != ([110, 111, 116] : List UInt8)) = false := bne_eq_false_iff_eq.mpr c182
                          clear c182
                          replace H := Option.bind_eq_some_iff.mp H
                          obtain ⟨t263, A1830, H⟩ := H
                          replace H : (some t263) = some r := H
                          have A183 := Aside0.mk A1830
                          clear A1830
                          obtain rfl := Option.some.inj H
                          have hnb184 := NB253_250.out
                          have hnc184 := NB250_253.out
                          have hcz185_0 : wc.cell? ⟨gb253, 0, none⟩ = some (.int .i64 a0_0) := (blk_cell BK253.out 0).trans rfl
                          have hcz185_1 : wc.cell? ⟨gb253, 1, none⟩ = some (.int .i64 a0_1) := (blk_cell BK253.out 1).trans rfl
                          have hcz185_2 : wc.cell? ⟨gb253, 2, none⟩ = some (.string a0_2) := (blk_cell BK253.out 2).trans rfl
                          have hcz185_3 : wc.cell? ⟨gb253, 3, none⟩ = some (.int .i64 a0_3) := (blk_cell BK253.out 3).trans rfl
                          have hcz185_4 : wc.cell? ⟨gb253, 4, none⟩ = some (.string a0_4) := (blk_cell BK253.out 4).trans rfl
                          have hfz185_0 := blk_frozen BK253.out 0
                          have hfz185_1 := blk_frozen BK253.out 1
                          have hfz185_2 := blk_frozen BK253.out 2
                          have hfz185_3 := blk_frozen BK253.out 3
                          have hfz185_4 := blk_frozen BK253.out 4
                          have hcz186_0 : wc.cell? ⟨gb250, 0, none⟩ = some (.int .i64 a0_0) := (blk_cell BK250.out 0).trans rfl
                          have hcz186_1 : wc.cell? ⟨gb250, 1, none⟩ = some (.int .i64 a0_1) := (blk_cell BK250.out 1).trans rfl
                          have hcz186_2 : wc.cell? ⟨gb250, 2, none⟩ = some (.string a0_2) := (blk_cell BK250.out 2).trans rfl
                          have hcz186_3 : wc.cell? ⟨gb250, 3, none⟩ = some (.int .i64 a0_3) := (blk_cell BK250.out 3).trans rfl
                          have hcz186_4 : wc.cell? ⟨gb250, 4, none⟩ = some (.string a0_4) := (blk_cell BK250.out 4).trans rfl
                          have hfz186_0 := blk_frozen BK250.out 0
                          have hfz186_1 := blk_frozen BK250.out 1
                          have hfz186_2 := blk_frozen BK250.out 2
                          have hfz186_3 := blk_frozen BK250.out 3
                          have hfz186_4 := blk_frozen BK250.out 4
                          go_wp2_with (first | (go_at_call 42; (with_reducible refine (chrysalisref09_bare.calls a0_0 a0_1 a0_2 a0_3 (⟨#[]⟩ : ByteArray) t263 _ A183.out).mono ?_); rintro e w187 ⟨rfl, hb⟩; have n0_ := Aside0.mk (blk_below (g := gb250) (o := .cells #[.int .i64 a0_0, .int .i64 a0_1, .string a0_2, .int .i64 a0_3, .string a0_4] 36 (0, 0)) (by refine blk_far ?_ NB250_253.out _; exact BK250.out) hb); have n1_ := Aside0.mk (blk_below (g := gb253) (o := .cells #[.int .i64 a0_0, .int .i64 a0_1, .string a0_2, .int .i64 a0_3, .string (⟨#[]⟩ : ByteArray)] 36 (0, 0)) (by refine blk_put (cs := #[.int .i64 a0_0, .int .i64 a0_1, .string a0_2, .int .i64 a0_3, .string a0_4]) ?_ 4 _ rfl; exact BK253.out) hb); have n2_ := Aside0.mk (below_step (by repeat (first | (with_reducible first | exact HB.out | apply below_alloc | apply pw_below_drewN | apply below_drew1 | refine below_set ?_ GE250.out | refine below_set ?_ GE253.out) | exact HB.out)) hb); clear BK250; clear BK253; clear HB; have BK250 := n0_; have BK253 := n1_; have HB := n2_; clear n0_ n1_ n2_; (try clear hb)))
                          go_ret
                          exact ⟨by first | rfl | (simp [errW_none, errW_some] <;> rfl) | (simp [*, errW_none, errW_some] <;> rfl), by repeat (first | (with_reducible first | exact HB.out | apply below_alloc | apply pw_below_drewN | apply below_drew1 | refine below_set ?_ GE250.out | refine below_set ?_ GE253.out) | exact HB.out)⟩
                        · rw [if_neg c182] at H
                          have c182b0 : (a0_4.toList == ([110, 111, 116] : List UInt8)) = false := beq_eq_false_iff_ne.mpr c182
                          have c182b1 : (a0_4.toList != ([110, 111, 116] : List UInt8)) = true := bne_iff_ne.mpr c182
                          by_cases c188 : a0_4.toList = ([108, 101, 110] : List UInt8)
                          · rw [if_pos c188] at H
                            have c188b0 : (a0_4.toList == ([108, 101, 110] : List UInt8)) = true := beq_iff_eq.mpr c188
                            have c188b1 : (a0_4.toList != ([108, 101, 110] : List UInt8)) = false := bne_eq_false_iff_eq.mpr c188
                            clear c188
                            replace H := Option.bind_eq_some_iff.mp H
                            obtain ⟨t264, A1890, H⟩ := H
                            replace H : (some t264) = some r := H
                            have A189 := Aside0.mk A1890
                            clear A1890
                            obtain rfl := Option.some.inj H
                            have hnb190 := NB253_250.out
                            have hnc190 := NB250_253.out
                            have hcz191_0 : wc.cell? ⟨gb253, 0, none⟩ = some (.int .i64 a0_0) := (blk_cell BK253.out 0).trans rfl
                            have hcz191_1 : wc.cell? ⟨gb253, 1, none⟩ = some (.int .i64 a0_1) := (blk_cell BK253.out 1).trans rfl
                            have hcz191_2 : wc.cell? ⟨gb253, 2, none⟩ = some (.string a0_2) := (blk_cell BK253.out 2).trans rfl
                            have hcz191_3 : wc.cell? ⟨gb253, 3, none⟩ = some (.int .i64 a0_3) := (blk_cell BK253.out 3).trans rfl
                            have hcz191_4 : wc.cell? ⟨gb253, 4, none⟩ = some (.string a0_4) := (blk_cell BK253.out 4).trans rfl
                            have hfz191_0 := blk_frozen BK253.out 0
                            have hfz191_1 := blk_frozen BK253.out 1
                            have hfz191_2 := blk_frozen BK253.out 2
                            have hfz191_3 := blk_frozen BK253.out 3
                            have hfz191_4 := blk_frozen BK253.out 4
                            have hcz192_0 : wc.cell? ⟨gb250, 0, none⟩ = some (.int .i64 a0_0) := (blk_cell BK250.out 0).trans rfl
                            have hcz192_1 : wc.cell? ⟨gb250, 1, none⟩ = some (.int .i64 a0_1) := (blk_cell BK250.out 1).trans rfl
                            have hcz192_2 : wc.cell? ⟨gb250, 2, none⟩ = some (.string a0_2) := (blk_cell BK250.out 2).trans rfl
                            have hcz192_3 : wc.cell? ⟨gb250, 3, none⟩ = some (.int .i64 a0_3) := (blk_cell BK250.out 3).trans rfl
                            have hcz192_4 : wc.cell? ⟨gb250, 4, none⟩ = some (.string a0_4) := (blk_cell BK250.out 4).trans rfl
                            have hfz192_0 := blk_frozen BK250.out 0
                            have hfz192_1 := blk_frozen BK250.out 1
                            have hfz192_2 := blk_frozen BK250.out 2
                            have hfz192_3 := blk_frozen BK250.out 3
                            have hfz192_4 := blk_frozen BK250.out 4
                            go_wp2_with (first | (go_at_call 42; (with_reducible refine (chrysalisref09_bare.calls a0_0 a0_1 a0_2 a0_3 (⟨#[]⟩ : ByteArray) t264 _ A189.out).mono ?_); rintro e w193 ⟨rfl, hb⟩; have n0_ := Aside0.mk (blk_below (g := gb250) (o := .cells #[.int .i64 a0_0, .int .i64 a0_1, .string a0_2, .int .i64 a0_3, .string a0_4] 36 (0, 0)) (by refine blk_far ?_ NB250_253.out _; exact BK250.out) hb); have n1_ := Aside0.mk (blk_below (g := gb253) (o := .cells #[.int .i64 a0_0, .int .i64 a0_1, .string a0_2, .int .i64 a0_3, .string (⟨#[]⟩ : ByteArray)] 36 (0, 0)) (by refine blk_put (cs := #[.int .i64 a0_0, .int .i64 a0_1, .string a0_2, .int .i64 a0_3, .string a0_4]) ?_ 4 _ rfl; exact BK253.out) hb); have n2_ := Aside0.mk (below_step (by repeat (first | (with_reducible first | exact HB.out | apply below_alloc | apply pw_below_drewN | apply below_drew1 | refine below_set ?_ GE250.out | refine below_set ?_ GE253.out) | exact HB.out)) hb); clear BK250; clear BK253; clear HB; have BK250 := n0_; have BK253 := n1_; have HB := n2_; clear n0_ n1_ n2_; (try clear hb)))
                            go_ret
                            exact ⟨by first | rfl | (simp [errW_none, errW_some] <;> rfl) | (simp [*, errW_none, errW_some] <;> rfl), by repeat (first | (with_reducible first | exact HB.out | apply below_alloc | apply pw_below_drewN | apply below_drew1 | refine below_set ?_ GE250.out | refine below_set ?_ GE253.out) | exact HB.out)⟩
                          · rw [if_neg c188] at H
                            have c188b0 : (a0_4.toList == ([108, 101, 110] : List UInt8)) = false := beq_eq_false_iff_ne.mpr c188
                            have c188b1 : (a0_4.toList != ([108, 101, 110] : List UInt8)) = true := bne_iff_ne.mpr c188
                            obtain rfl := Option.some.inj H
                            have hnb194 := NB253_250.out
                            have hnc194 := NB250_253.out
                            have hcz195_0 : wc.cell? ⟨gb253, 0, none⟩ = some (.int .i64 a0_0) := (blk_cell BK253.out 0).trans rfl
                            have hcz195_1 : wc.cell? ⟨gb253, 1, none⟩ = some (.int .i64 a0_1) := (blk_cell BK253.out 1).trans rfl
                            have hcz195_2 : wc.cell? ⟨gb253, 2, none⟩ = some (.string a0_2) := (blk_cell BK253.out 2).trans rfl
                            have hcz195_3 : wc.cell? ⟨gb253, 3, none⟩ = some (.int .i64 a0_3) := (blk_cell BK253.out 3).trans rfl
                            have hcz195_4 : wc.cell? ⟨gb253, 4, none⟩ = some (.string a0_4) := (blk_cell BK253.out 4).trans rfl
                            have hfz195_0 := blk_frozen BK253.out 0
                            have hfz195_1 := blk_frozen BK253.out 1
                            have hfz195_2 := blk_frozen BK253.out 2
                            have hfz195_3 := blk_frozen BK253.out 3
                            have hfz195_4 := blk_frozen BK253.out 4
                            have hcz196_0 : wc.cell? ⟨gb250, 0, none⟩ = some (.int .i64 a0_0) := (blk_cell BK250.out 0).trans rfl
                            have hcz196_1 : wc.cell? ⟨gb250, 1, none⟩ = some (.int .i64 a0_1) := (blk_cell BK250.out 1).trans rfl
                            have hcz196_2 : wc.cell? ⟨gb250, 2, none⟩ = some (.string a0_2) := (blk_cell BK250.out 2).trans rfl
                            have hcz196_3 : wc.cell? ⟨gb250, 3, none⟩ = some (.int .i64 a0_3) := (blk_cell BK250.out 3).trans rfl
                            have hcz196_4 : wc.cell? ⟨gb250, 4, none⟩ = some (.string a0_4) := (blk_cell BK250.out 4).trans rfl
                            have hfz196_0 := blk_frozen BK250.out 0
                            have hfz196_1 := blk_frozen BK250.out 1
                            have hfz196_2 := blk_frozen BK250.out 2
                            have hfz196_3 := blk_frozen BK250.out 3
                            have hfz196_4 := blk_frozen BK250.out 4
                            go_wp2
                            go_ret
                            exact ⟨by first | rfl | (simp [errW_none, errW_some] <;> rfl) | (simp [*, errW_none, errW_some] <;> rfl), by repeat (first | (with_reducible first | exact HB.out | apply below_alloc | apply pw_below_drewN | apply below_drew1 | refine below_set ?_ GE250.out | refine below_set ?_ GE253.out) | exact HB.out)⟩
                    · rw [if_neg c175] at H
                      have c175b0 : (a0_0 == 28) = false := beq_eq_false_iff_ne.mpr c175
                      have c175b1 : (a0_0 != 28) = true := bne_iff_ne.mpr c175
                      by_cases c197 : a0_0 ≥ 1
                      · rw [if_pos c197] at H
                        have c197b0 : decide (1 ≤ a0_0) = true := decide_eq_true c197
                        clear c197
                        by_cases c198 : a0_0 ≤ 30
                        · rw [if_pos c198] at H
                          have c198b0 : decide (a0_0 ≤ 30) = true := decide_eq_true c198
                          clear c198
                          replace H := Option.bind_eq_some_iff.mp H
                          obtain ⟨t265, A1990, H⟩ := H
                          replace H : (some t265) = some r := H
                          have A199 := Aside0.mk A1990
                          clear A1990
                          obtain rfl := Option.some.inj H
                          have hnb200 := NB250_253.out
                          have hnc200 := NB253_250.out
                          have hcz201_0 : wc.cell? ⟨gb250, 0, none⟩ = some (.int .i64 a0_0) := (blk_cell BK250.out 0).trans rfl
                          have hcz201_1 : wc.cell? ⟨gb250, 1, none⟩ = some (.int .i64 a0_1) := (blk_cell BK250.out 1).trans rfl
                          have hcz201_2 : wc.cell? ⟨gb250, 2, none⟩ = some (.string a0_2) := (blk_cell BK250.out 2).trans rfl
                          have hcz201_3 : wc.cell? ⟨gb250, 3, none⟩ = some (.int .i64 a0_3) := (blk_cell BK250.out 3).trans rfl
                          have hcz201_4 : wc.cell? ⟨gb250, 4, none⟩ = some (.string a0_4) := (blk_cell BK250.out 4).trans rfl
                          have hfz201_0 := blk_frozen BK250.out 0
                          have hfz201_1 := blk_frozen BK250.out 1
                          have hfz201_2 := blk_frozen BK250.out 2
                          have hfz201_3 := blk_frozen BK250.out 3
                          have hfz201_4 := blk_frozen BK250.out 4
                          go_wp2_with (first | (go_at_call 42; (with_reducible refine (chrysalisref09_bare.calls a0_0 a0_1 a0_2 a0_3 a0_4 t265 _ A199.out).mono ?_); rintro e w202 ⟨rfl, hb⟩; have n0_ := Aside0.mk (blk_below (g := gb250) (o := .cells #[.int .i64 a0_0, .int .i64 a0_1, .string a0_2, .int .i64 a0_3, .string a0_4] 36 (0, 0)) (by exact BK250.out) hb); have n1_ := Aside0.mk (blk_below (g := gb253) (o := .cells #[.int .i64 a0_0, .int .i64 a0_1, .string a0_2, .int .i64 a0_3, .string a0_4] 36 (0, 0)) (by exact BK253.out) hb); have n2_ := Aside0.mk (below_step (by repeat (first | (with_reducible first | exact HB.out | apply below_alloc | apply pw_below_drewN | apply below_drew1 | refine below_set ?_ GE250.out | refine below_set ?_ GE253.out) | exact HB.out)) hb); clear BK250; clear BK253; clear HB; have BK250 := n0_; have BK253 := n1_; have HB := n2_; clear n0_ n1_ n2_; (try clear hb)))
                          go_ret
                          exact ⟨by first | rfl | (simp [errW_none, errW_some] <;> rfl) | (simp [*, errW_none, errW_some] <;> rfl), by repeat (first | (with_reducible first | exact HB.out | apply below_alloc | apply pw_below_drewN | apply below_drew1 | refine below_set ?_ GE250.out | refine below_set ?_ GE253.out) | exact HB.out)⟩
                        · rw [if_neg c198] at H
                          have c198b0 : decide (a0_0 ≤ 30) = false := decide_eq_false c198
                          clear c198
                          obtain rfl := Option.some.inj H
                          have hnb203 := NB250_253.out
                          have hnc203 := NB253_250.out
                          have hcz204_0 : wc.cell? ⟨gb250, 0, none⟩ = some (.int .i64 a0_0) := (blk_cell BK250.out 0).trans rfl
                          have hcz204_1 : wc.cell? ⟨gb250, 1, none⟩ = some (.int .i64 a0_1) := (blk_cell BK250.out 1).trans rfl
                          have hcz204_2 : wc.cell? ⟨gb250, 2, none⟩ = some (.string a0_2) := (blk_cell BK250.out 2).trans rfl
                          have hcz204_3 : wc.cell? ⟨gb250, 3, none⟩ = some (.int .i64 a0_3) := (blk_cell BK250.out 3).trans rfl
                          have hcz204_4 : wc.cell? ⟨gb250, 4, none⟩ = some (.string a0_4) := (blk_cell BK250.out 4).trans rfl
                          have hfz204_0 := blk_frozen BK250.out 0
                          have hfz204_1 := blk_frozen BK250.out 1
                          have hfz204_2 := blk_frozen BK250.out 2
                          have hfz204_3 := blk_frozen BK250.out 3
                          have hfz204_4 := blk_frozen BK250.out 4
                          go_wp2
                          go_ret
                          exact ⟨by first | rfl | (simp [errW_none, errW_some] <;> rfl) | (simp [*, errW_none, errW_some] <;> rfl), by repeat (first | (with_reducible first | exact HB.out | apply below_alloc | apply pw_below_drewN | apply below_drew1 | refine below_set ?_ GE250.out | refine below_set ?_ GE253.out) | exact HB.out)⟩
                      · rw [if_neg c197] at H
                        have c197b0 : decide (1 ≤ a0_0) = false := decide_eq_false c197
                        clear c197
                        obtain rfl := Option.some.inj H
                        have hnb205 := NB250_253.out
                        have hnc205 := NB253_250.out
                        have hcz206_0 : wc.cell? ⟨gb250, 0, none⟩ = some (.int .i64 a0_0) := (blk_cell BK250.out 0).trans rfl
                        have hcz206_1 : wc.cell? ⟨gb250, 1, none⟩ = some (.int .i64 a0_1) := (blk_cell BK250.out 1).trans rfl
                        have hcz206_2 : wc.cell? ⟨gb250, 2, none⟩ = some (.string a0_2) := (blk_cell BK250.out 2).trans rfl
                        have hcz206_3 : wc.cell? ⟨gb250, 3, none⟩ = some (.int .i64 a0_3) := (blk_cell BK250.out 3).trans rfl
                        have hcz206_4 : wc.cell? ⟨gb250, 4, none⟩ = some (.string a0_4) := (blk_cell BK250.out 4).trans rfl
                        have hfz206_0 := blk_frozen BK250.out 0
                        have hfz206_1 := blk_frozen BK250.out 1
                        have hfz206_2 := blk_frozen BK250.out 2
                        have hfz206_3 := blk_frozen BK250.out 3
                        have hfz206_4 := blk_frozen BK250.out 4
                        go_wp2
                        go_ret
                        exact ⟨by first | rfl | (simp [errW_none, errW_some] <;> rfl) | (simp [*, errW_none, errW_some] <;> rfl), by repeat (first | (with_reducible first | exact HB.out | apply below_alloc | apply pw_below_drewN | apply below_drew1 | refine below_set ?_ GE250.out | refine below_set ?_ GE253.out) | exact HB.out)⟩

end Go.Proofs.Ytclhaajlgmiilaa.Q
