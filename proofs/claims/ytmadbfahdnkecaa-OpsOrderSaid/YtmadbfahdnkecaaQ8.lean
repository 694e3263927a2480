/- Functions that the laws reach, as plain Lean functions, each with a proof that the call does what its function says; no condition. -/
import Derived.Test.YtmadbfahdnkecaaQ0
import Derived.Test.YtmadbfahdnkecaaQ1
import Derived.Test.YtmadbfahdnkecaaQ4
import Derived.Test.YtmadbfahdnkecaaQ6
import Derived.Test.YtmadbfahdnkecaaQ7
namespace Go.Proofs.Ytmadbfahdnkecaa.Q
open Go.RowKit Go.Proofs.YtmadbfahdnkecaaW.PrintWords Go.Proofs.YtmadbfahdnkecaaW.PrintLast Go.Proofs.YtmadbfahdnkecaaW.PrintMore
attribute [local go_sem]  Go.Proofs.Ytmadbfahdnkecaa.as_num_num Go.Proofs.Ytmadbfahdnkecaa.as_text_num Go.Proofs.Ytmadbfahdnkecaa.as_nil_num Go.Proofs.Ytmadbfahdnkecaa.as_text_text Go.Proofs.Ytmadbfahdnkecaa.as_num_text Go.Proofs.Ytmadbfahdnkecaa.as_nil_text Go.Proofs.Ytmadbfahdnkecaa.leq_texts max2_int min2_int max_two min_two max_three min_three max_four min_four   -- for this text's walks alone
set_option linter.unusedVariables false
set_option linter.unusedSimpArgs false

attribute [local go_sem high] eqA23
/-! ### chrysalislaw17_known: function 11 -/
def chrysalislaw17_known.f (k : Nat)  : Option (Bool) := (chrysalisref17_Int.f (-7)).bind fun bt267 => ((chrysalisref17_Int.f 2).bind fun bt270 => ((ops_Two.f k (⟨#[47]⟩ : ByteArray) bt267.1 bt267.2.1 bt267.2.2 bt270.1 bt270.2.1 bt270.2.2).bind fun bt273 => ((chrysalisref17_Int.f (-7)).bind fun bt278 => ((chrysalisref17_Int.f 2).bind fun bt281 => ((ops_Two.f k (⟨#[37]⟩ : ByteArray) bt278.1 bt278.2.1 bt278.2.2 bt281.1 bt281.2.1 bt281.2.2).bind fun bt284 => ((chrysalisref17_Text.f (⟨#[97]⟩ : ByteArray)).bind fun bt289 => ((chrysalisref17_Text.f (⟨#[97, 98]⟩ : ByteArray)).bind fun bt292 => ((ops_Two.f k (⟨#[60]⟩ : ByteArray) bt289.1 bt289.2.1 bt289.2.2 bt292.1 bt292.2.1 bt292.2.2).bind fun bt295 => ((chrysalisref17_Int.f 1).bind fun bt300 => ((chrysalisref17_Text.f (⟨#[97]⟩ : ByteArray)).bind fun bt303 => ((ops_Two.f k (⟨#[43]⟩ : ByteArray) bt300.1 bt300.2.1 bt300.2.2 bt303.1 bt303.2.1 bt303.2.2).bind fun bt306 => ((chrysalisref17_Int.f 1).bind fun bt311 => ((chrysalisref17_Int.f 0).bind fun bt314 => ((ops_Two.f k (⟨#[47]⟩ : ByteArray) bt311.1 bt311.2.1 bt311.2.2 bt314.1 bt314.2.1 bt314.2.2).bind fun bt317 => ((ops_One.f k (⟨#[110, 111, 116]⟩ : ByteArray) 0 0 (⟨#[]⟩ : ByteArray)).bind fun bt322 => ((chrysalisref17_Int.f (-3)).bind fun bt327 => (if (bt273.1 == bt327.1 && (bt273.2.1 == bt327.2.1 && (bt273.2.2.1.toList == bt327.2.2.toList))) = true then (if bt273.2.2.2 = 0 then ((chrysalisref17_Int.f (-1)).bind fun bt330 => (if (bt284.1 == bt330.1 && (bt284.2.1 == bt330.2.1 && (bt284.2.2.1.toList == bt330.2.2.toList))) = true then (if bt284.2.2.2 = 0 then ((chrysalisref17_Int.f 1).bind fun bt333 => (if (bt295.1 == bt333.1 && (bt295.2.1 == bt333.2.1 && (bt295.2.2.1.toList == bt333.2.2.toList))) = true then (if bt295.2.2.2 = 0 then (if bt306.2.2.2 = 1 then (if bt317.2.2.2 = 2 then ((chrysalisref17_Int.f 1).bind fun bt336 => (if (bt322.1 == bt336.1 && (bt322.2.1 == bt336.2.1 && (bt322.2.2.1.toList == bt336.2.2.toList))) = true then (if bt322.2.2.2 = 0 then ((chrysalisref17_Text.f (⟨#[97, 34, 98]⟩ : ByteArray)).bind fun bt339 => ((ops_Show.f k bt339.1 bt339.2.1 bt339.2.2).bind fun t342 => (if t342.toList = ([34, 97, 92, 34, 98, 34] : List UInt8) then ((chrysalisref17_Text.f (⟨#[]⟩ : ByteArray)).bind fun bt343 => ((ops_Truth.f bt343.1 bt343.2.1 bt343.2.2).bind fun t346 => (if t346 = true then ((chrysalisref17_Int.f 0).bind fun bt347 => ((ops_Truth.f bt347.1 bt347.2.1 bt347.2.2).bind fun t350 => (some (!t350)))) else (some false)))) else (some false)))) else (some false)) else (some false))) else (some false)) else (some false)) else (some false)) else (some false))) else (some false)) else (some false))) else (some false)) else (some false))))))))))))))))))
theorem chrysalislaw17_known.mono : ∀ k, LeO (chrysalislaw17_known.f k ) (chrysalislaw17_known.f (k + 1) ) := by
  intro  k
  unfold chrysalislaw17_known.f
  repeat' first
      | (with_reducible exact ops_One.mono _ _ _ _ _)
      | (with_reducible exact ops_Show.mono _ _ _ _)
      | (with_reducible exact ops_Two.mono _ _ _ _ _ _ _ _)
      | (with_reducible exact LeO.refl _)
      | (with_reducible exact LeO.none _)
      | (with_reducible refine LeO.ite ?_ ?_)
      | (with_reducible refine LeO.bind ?_ (fun _ => ?_))
      | exact ops_One.mono _ _ _ _ _
      | exact ops_Show.mono _ _ _ _
      | exact ops_Two.mono _ _ _ _ _ _ _ _
      | exact LeO.none _
      | refine LeO.ite ?_ ?_
      | refine LeO.bind ?_ (fun _ => ?_)
def chrysalislaw17_known.T7 : Bool × List (List Nat × List Nat) := (true, [([], []), ([], []), ([0, 1], [0, 1]), ([2, 1], [2]), ([3], [3]), ([4, 3], [3, 4]), ([3, 5], [3, 5]), ([6, 3], [6]), ([7], [7]), ([7, 7], [7]), ([8, 9, 7], [7, 8, 9]), ([7, 10], [7, 10]), ([11, 9], [11]), ([12], [12]), ([13, 12], [12, 13]), ([12, 14], [12, 14]), ([15, 12], [15]), ([16], [16]), ([16, 16], [16]), ([17, 18, 16], [16, 17, 18]), ([16, 19], [16, 19]), ([20, 18], [20]), ([21], [21]), ([22, 21], [21, 22]), ([21, 23], [21, 23]), ([24, 21], [24]), ([25], [25]), ([26, 25], [25, 26]), ([25, 27], [25, 27]), ([28, 25], [28]), ([29], [29]), ([30, 29], [29, 30]), ([29, 31], [29, 31]), ([32, 29], [32]), ([33], [33]), ([33, 33], [33]), ([34, 35, 33], [33, 34, 35]), ([33, 36], [33, 36]), ([37, 35], [37]), ([38], [38]), ([39, 38], [38, 39]), ([38, 40], [38, 40]), ([41, 38], [41]), ([42, 42], [42]), ([43, 43, 42], [42, 43]), ([44, 42], [42, 44]), ([42, 45], [42, 45]), ([46, 44], [46]), ([47, 47], [47]), ([48, 48, 47], [47, 48]), ([47, 49], [47, 49]), ([50, 49], [50]), ([51, 51], [51]), ([52, 52, 51], [51, 52]), ([53, 51], [51, 53]), ([51, 54], [51, 54]), ([55, 53, 0, 1, 2, 3, 4, 5, 6, 7, 8, 9, 10, 11, 12, 13, 14, 15, 16, 17, 18, 19, 20, 21, 22, 23, 24, 25, 26, 27, 28, 29, 30, 31, 32, 33, 34, 35, 36, 37, 38, 39, 40, 41, 42, 43, 44, 45, 46, 47, 48, 49, 50, 51, 52, 53, 54, 55], [55])])
def chrysalislaw17_known.B7 : List Nat := [0, 0, 3, 7, 15, 31, 63, 127, 255, 255, 1023, 2047, 4095, 8191, 16383, 32767, 65535, 131071, 131071, 524287, 1048575, 2097151, 4194303, 8388607, 16777215, 33554431, 67108863, 134217727, 268435455, 536870911, 1073741823, 2147483647, 4294967295, 8589934591, 17179869183, 17179869183, 68719476735, 137438953471, 274877906943, 549755813887, 1099511627775, 2199023255551, 4398046511103, 8796093022207, 17592186044415, 35184372088831, 70368744177663, 140737488355327, 281474976710655, 562949953421311, 1125899906842623, 2251799813685247, 4503599627370495, 9007199254740991, 18014398509481983, 36028797018963967, 72057594037927935]
theorem chrysalislaw17_known.tab7 : rtab .any (opsOf Try.f11 7) = chrysalislaw17_known.T7 := by kernel_rfl
theorem chrysalislaw17_known.bits7 : waitsOk chrysalislaw17_known.T7.2 chrysalislaw17_known.B7 = true := by kernel_rfl
theorem chrysalislaw17_known.more : ∀ (d k : Nat) (r : Bool), chrysalislaw17_known.f k = some r → chrysalislaw17_known.f (k + d) = some r
  | 0, _, _, h => h
  | d + 1, k, r, h => chrysalislaw17_known.mono (k + d) r (chrysalislaw17_known.more d k r h)
set_option maxRecDepth 100000 in
theorem chrysalislaw17_known.at : chrysalislaw17_known.f 300 = some true := by kernel_rfl
theorem chrysalislaw17_known.isTrue (k : Nat) (r : Bool) (h : chrysalislaw17_known.f k = some r) : r = true := by
  have h1 := chrysalislaw17_known.more 300 k r h
  have h2 := chrysalislaw17_known.more k 300 true chrysalislaw17_known.at
  rw [Nat.add_comm 300 k, h1] at h2
  exact Option.some.inj h2
set_option maxHeartbeats 8000000 in
set_option maxRecDepth 100000 in
theorem chrysalislaw17_known.calls (k : Nat)  (r : Bool) (w : World) (h : chrysalislaw17_known.f k  = some r) :
    Calls Try.prog 11 #[] w fun e w' => e = .returned (.bool r) ∧ Below w.heap.size w w' := by
  have hu23 := Try.underlying23
  have HB := Aside0.mk (Below.refl w.heap.size w)
  have HR := Aside0.mk (chrysalislaw17_known.isTrue k r h)
  have H : ((chrysalisref17_Int.f (-7)).bind fun bt267 => ((chrysalisref17_Int.f 2).bind fun bt270 => ((ops_Two.f k (⟨#[47]⟩ : ByteArray) bt267.1 bt267.2.1 bt267.2.2 bt270.1 bt270.2.1 bt270.2.2).bind fun bt273 => ((chrysalisref17_Int.f (-7)).bind fun bt278 => ((chrysalisref17_Int.f 2).bind fun bt281 => ((ops_Two.f k (⟨#[37]⟩ : ByteArray) bt278.1 bt278.2.1 bt278.2.2 bt281.1 bt281.2.1 bt281.2.2).bind fun bt284 => ((chrysalisref17_Text.f (⟨#[97]⟩ : ByteArray)).bind fun bt289 => ((chrysalisref17_Text.f (⟨#[97, 98]⟩ : ByteArray)).bind fun bt292 => ((ops_Two.f k (⟨#[60]⟩ : ByteArray) bt289.1 bt289.2.1 bt289.2.2 bt292.1 bt292.2.1 bt292.2.2).bind fun bt295 => ((chrysalisref17_Int.f 1).bind fun bt300 => ((chrysalisref17_Text.f (⟨#[97]⟩ : ByteArray)).bind fun bt303 => ((ops_Two.f k (⟨#[43]⟩ : ByteArray) bt300.1 bt300.2.1 bt300.2.2 bt303.1 bt303.2.1 bt303.2.2).bind fun bt306 => ((chrysalisref17_Int.f 1).bind fun bt311 => ((chrysalisref17_Int.f 0).bind fun bt314 => ((ops_Two.f k (⟨#[47]⟩ : ByteArray) bt311.1 bt311.2.1 bt311.2.2 bt314.1 bt314.2.1 bt314.2.2).bind fun bt317 => ((ops_One.f k (⟨#[110, 111, 116]⟩ : ByteArray) 0 0 (⟨#[]⟩ : ByteArray)).bind fun bt322 => ((chrysalisref17_Int.f (-3)).bind fun bt327 => (if (bt273.1 == bt327.1 && (bt273.2.1 == bt327.2.1 && (bt273.2.2.1.toList == bt327.2.2.toList))) = true then (if bt273.2.2.2 = 0 then ((chrysalisref17_Int.f (-1)).bind fun bt330 => (if (bt284.1 == bt330.1 && (bt284.2.1 == bt330.2.1 && (bt284.2.2.1.toList == bt330.2.2.toList))) = true then (if bt284.2.2.2 = 0 then ((chrysalisref17_Int.f 1).bind fun bt333 => (if (bt295.1 == bt333.1 && (bt295.2.1 == bt333.2.1 && (bt295.2.2.1.toList == bt333.2.2.toList))) = true then (if bt295.2.2.2 = 0 then (if bt306.2.2.2 = 1 then (if bt317.2.2.2 = 2 then ((chrysalisref17_Int.f 1).bind fun bt336 => (if (bt322.1 == bt336.1 && (bt322.2.1 == bt336.2.1 && (bt322.2.2.1.toList == bt336.2.2.toList))) = true then (if bt322.2.2.2 = 0 then ((chrysalisref17_Text.f (⟨#[97, 34, 98]⟩ : ByteArray)).bind fun bt339 => ((ops_Show.f k bt339.1 bt339.2.1 bt339.2.2).bind fun t342 => (if t342.toList = ([34, 97, 92, 34, 98, 34] : List UInt8) then ((chrysalisref17_Text.f (⟨#[]⟩ : ByteArray)).bind fun bt343 => ((ops_Truth.f bt343.1 bt343.2.1 bt343.2.2).bind fun t346 => (if t346 = true then ((chrysalisref17_Int.f 0).bind fun bt347 => ((ops_Truth.f bt347.1 bt347.2.1 bt347.2.2).bind fun t350 => (some (!t350)))) else (some false)))) else (some false)))) else (some false)) else (some false))) else (some false)) else (some false)) else (some false)) else (some false))) else (some false)) else (some false))) else (some false)) else (some false))))))))))))))))))) = some r := h
  clear h
  replace H := Option.bind_eq_some_iff.mp H
  obtain ⟨⟨t267, t268, t269⟩, A10, H⟩ := H
  try dsimp only at H
  have A1 := Aside0.mk A10
  clear A10
  replace H := Option.bind_eq_some_iff.mp H
  obtain ⟨⟨t270, t271, t272⟩, A20, H⟩ := H
  try dsimp only at H
  have A2 := Aside0.mk A20
  clear A20
  replace H := Option.bind_eq_some_iff.mp H
  obtain ⟨⟨t273, t274, t275, t276⟩, A30, H⟩ := H
  try dsimp only at H
  have A3 := Aside0.mk A30
  clear A30
  replace H := Option.bind_eq_some_iff.mp H
  obtain ⟨⟨t278, t279, t280⟩, A40, H⟩ := H
  try dsimp only at H
  have A4 := Aside0.mk A40
  clear A40
  replace H := Option.bind_eq_some_iff.mp H
  obtain ⟨⟨t281, t282, t283⟩, A50, H⟩ := H
  try dsimp only at H
  have A5 := Aside0.mk A50
  clear A50
  replace H := Option.bind_eq_some_iff.mp H
  obtain ⟨⟨t284, t285, t286, t287⟩, A60, H⟩ := H
  try dsimp only at H
  have A6 := Aside0.mk A60
  clear A60
  replace H := Option.bind_eq_some_iff.mp H
  obtain ⟨⟨t289, t290, t291⟩, A70, H⟩ := H
  try dsimp only at H
  have A7 := Aside0.mk A70
  clear A70
  replace H := Option.bind_eq_some_iff.mp H
  obtain ⟨⟨t292, t293, t294⟩, A80, H⟩ := H
  try dsimp only at H
  have A8 := Aside0.mk A80
  clear A80
  replace H := Option.bind_eq_some_iff.mp H
  obtain ⟨⟨t295, t296, t297, t298⟩, A90, H⟩ := H
  try dsimp only at H
  have A9 := Aside0.mk A90
  clear A90
  replace H := Option.bind_eq_some_iff.mp H
  obtain ⟨⟨t300, t301, t302⟩, A100, H⟩ := H
  try dsimp only at H
  have A10 := Aside0.mk A100
  clear A100
  replace H := Option.bind_eq_some_iff.mp H
  obtain ⟨⟨t303, t304, t305⟩, A110, H⟩ := H
  try dsimp only at H
  have A11 := Aside0.mk A110
  clear A110
  replace H := Option.bind_eq_some_iff.mp H
  obtain ⟨⟨t306, t307, t308, t309⟩, A120, H⟩ := H
  try dsimp only at H
  have A12 := Aside0.mk A120
  clear A120
  replace H := Option.bind_eq_some_iff.mp H
  obtain ⟨⟨t311, t312, t313⟩, A130, H⟩ := H
  try dsimp only at H
  have A13 := Aside0.mk A130
  clear A130
  replace H := Option.bind_eq_some_iff.mp H
  obtain ⟨⟨t314, t315, t316⟩, A140, H⟩ := H
  try dsimp only at H
  have A14 := Aside0.mk A140
  clear A140
  replace H := Option.bind_eq_some_iff.mp H
  obtain ⟨⟨t317, t318, t319, t320⟩, A150, H⟩ := H
  try dsimp only at H
  have A15 := Aside0.mk A150
  clear A150
  replace H := Option.bind_eq_some_iff.mp H
  obtain ⟨⟨t322, t323, t324, t325⟩, A160, H⟩ := H
  try dsimp only at H
  have A16 := Aside0.mk A160
  clear A160
  replace H := Option.bind_eq_some_iff.mp H
  obtain ⟨⟨t327, t328, t329⟩, A170, H⟩ := H
  try dsimp only at H
  have A17 := Aside0.mk A170
  clear A170
  by_cases c18 : (t273 == t327 && (t274 == t328 && (t275.toList == t329.toList))) = true
  · rw [if_pos c18] at H
    have c18b0 : (t273 == t327 && (t274 == t328 && (t275.toList == t329.toList))) = true := c18
    (try (have c18b1 : decide (t273 = t327 && (t274 == t328 && (t275.toList == t329.toList))) = true := by simpa using c18))
    (try (have c18b2 : (t273 == t327 && (t274 == t328 && (t275.toList == t329.toList))) = true := by simpa using c18))
    clear c18
    by_cases c19 : t276 = 0
    · rw [if_pos c19] at H
      have c19b0 : (t276 == 0) = true := beq_iff_eq.mpr c19
      have c19b1 : (t276 != 0) = false := bne_eq_false_iff_eq.mpr c19
      clear c19
      replace H := Option.bind_eq_some_iff.mp H
      obtain ⟨⟨t330, t331, t332⟩, A200, H⟩ := H
      try dsimp only at H
      have A20 := Aside0.mk A200
      clear A200
      by_cases c21 : (t284 == t330 && (t285 == t331 && (t286.toList == t332.toList))) = true
      · rw [if_pos c21] at H
        have c21b0 : (t284 == t330 && (t285 == t331 && (t286.toList == t332.toList))) = true := c21
        (try (have c21b1 : decide (t284 = t330 && (t285 == t331 && (t286.toList == t332.toList))) = true := by simpa using c21))
        (try (have c21b2 : (t284 == t330 && (t285 == t331 && (t286.toList == t332.toList))) = true := by simpa using c21))
        clear c21
        by_cases c22 : t287 = 0
        · rw [if_pos c22] at H
          have c22b0 : (t287 == 0) = true := beq_iff_eq.mpr c22
          have c22b1 : (t287 != 0) = false := bne_eq_false_iff_eq.mpr c22
          clear c22
          replace H := Option.bind_eq_some_iff.mp H
          obtain ⟨⟨t333, t334, t335⟩, A230, H⟩ := H
          try dsimp only at H
          have A23 := Aside0.mk A230
          clear A230
          by_cases c24 : (t295 == t333 && (t296 == t334 && (t297.toList == t335.toList))) = true
          · rw [if_pos c24] at H
            have c24b0 : (t295 == t333 && (t296 == t334 && (t297.toList == t335.toList))) = true := c24
            (try (have c24b1 : decide (t295 = t333 && (t296 == t334 && (t297.toList == t335.toList))) = true := by simpa using c24))
            (try (have c24b2 : (t295 == t333 && (t296 == t334 && (t297.toList == t335.toList))) = true := by simpa using c24))
            clear c24
            by_cases c25 : t298 = 0
            · rw [if_pos c25] at H
              have c25b0 : (t298 == 0) = true := beq_iff_eq.mpr c25
              have c25b1 : (t298 != 0) = false := bne_eq_false_iff_eq.mpr c25
              clear c25
              by_cases c26 : t309 = 1
              · rw [if_pos c26] at H
                have c26b0 : (t309 == 1) = true := beq_iff_eq.mpr c26
                have c26b1 : (t309 != 1) = false := bne_eq_false_iff_eq.mpr c26
                clear c26
                by_cases c27 : t320 = 2
                · rw [if_pos c27] at H
                  have c27b0 : (t320 == 2) = true := beq_iff_eq.mpr c27
                  have c27b1 : (t320 != 2) = false := bne_eq_false_iff_eq.mpr c27
                  clear c27
                  replace H := Option.bind_eq_some_iff.mp H
                  obtain ⟨⟨t336, t337, t338⟩, A280, H⟩ := H
                  try dsimp only at H
                  have A28 := Aside0.mk A280
                  clear A280
                  by_cases c29 : (t322 == t336 && (t323 == t337 && (t324.toList == t338.toList))) = true
                  · rw [if_pos c29] at H
                    have c29b0 : (t322 == t336 && (t323 == t337 && (t324.toList == t338.toList))) = true := c29
                    (try (have c29b1 : decide (t322 = t336 && (t323 == t337 && (t324.toList == t338.toList))) = true := by simpa using c29))
                    (try (have c29b2 : (t322 == t336 && (t323 == t337 && (t324.toList == t338.toList))) = true := by simpa using c29))
                    clear c29
                    by_cases c30 : t325 = 0
                    · rw [if_pos c30] at H
                      have c30b0 : (t325 == 0) = true := beq_iff_eq.mpr c30
                      have c30b1 : (t325 != 0) = false := bne_eq_false_iff_eq.mpr c30
                      clear c30
                      replace H := Option.bind_eq_some_iff.mp H
                      obtain ⟨⟨t339, t340, t341⟩, A310, H⟩ := H
                      try dsimp only at H
                      have A31 := Aside0.mk A310
                      clear A310
                      replace H := Option.bind_eq_some_iff.mp H
                      obtain ⟨t342, A320, H⟩ := H
                      try dsimp only at H
                      have A32 := Aside0.mk A320
                      clear A320
                      by_cases c33 : t342.toList = ([34, 97, 92, 34, 98, 34] : List UInt8)
                      · rw [if_pos c33] at H
                        have c33b0 : (t342.toList == ([34, 97, 92, 34, 98, 34] : List UInt8)) = true := beq_iff_eq.mpr c33
                        have c33b1 : (t342.toList != ([34, 97, 92, 34, 98, 34] : List UInt8)) = false := bne_eq_false_iff_eq.mpr c33
                        clear c33
                        replace H := Option.bind_eq_some_iff.mp H
                        obtain ⟨⟨t343, t344, t345⟩, A340, H⟩ := H
                        try dsimp only at H
                        have A34 := Aside0.mk A340
                        clear A340
                        replace H := Option.bind_eq_some_iff.mp H
                        obtain ⟨t346, A350, H⟩ := H
                        try dsimp only at H
                        have A35 := Aside0.mk A350
                        clear A350
                        by_cases c36 : t346 = true
                        · subst c36
                          have H1 : ((chrysalisref17_Int.f 0).bind fun bt347 => ((ops_Truth.f bt347.1 bt347.2.1 bt347.2.2).bind fun t350 => (some (!t350)))) = some r := by rw [if_pos rfl] at H; exact H
                          clear H
                          have H := H1
                          clear H1
                          replace H := Option.bind_eq_some_iff.mp H
                          obtain ⟨⟨t347, t348, t349⟩, A370, H⟩ := H
                          replace H : ((ops_Truth.f t347 t348 t349).bind fun t350 => (some (!t350))) = some r := H
                          have A37 := Aside0.mk A370
                          clear A370
                          replace H := Option.bind_eq_some_iff.mp H
                          obtain ⟨t350, A380, H⟩ := H
                          replace H : (some (!t350)) = some r := H
                          have A38 := Aside0.mk A380
                          clear A380
                          obtain rfl := Option.some.inj H
                          go_enter Try.func11, Try.ntmps11
                          try go_wp2_with (first | ((with_reducible refine gate_callee (f := 9) rfl ?_); refine goesL_ (some 14) rfl rfl Try.func9 (by kernel_rfl) rfl #[.int .i64 (-7)] rfl (by (try simp only [List.map_toArray, List.map_cons, List.map_nil]); first | done | rfl | (simp only [List.length_drop, List.length_take]; rfl)) ?_; (with_reducible refine (chrysalisref17_Int.calls (-7) t267 t268 t269 _ A1.out).mono ?_); rintro e w39 ⟨rfl, hb⟩; refine ⟨_, rfl, ?_⟩; have n0_ := Aside0.mk (below_step (by repeat (first | (with_reducible first | exact HB.out | apply below_alloc | apply pw_below_drewN | apply below_drew1) | exact HB.out)) hb); clear HB; have HB := n0_; clear n0_; (try clear hb)) | ((with_reducible refine gate_callee (f := 9) rfl ?_); refine goesL_ (some 15) rfl rfl Try.func9 (by kernel_rfl) rfl #[.int .i64 2] rfl (by (try simp only [List.map_toArray, List.map_cons, List.map_nil]); first | done | rfl | (simp only [List.length_drop, List.length_take]; rfl)) ?_; (with_reducible refine (chrysalisref17_Int.calls 2 t270 t271 t272 _ A2.out).mono ?_); rintro e w40 ⟨rfl, hb⟩; refine ⟨_, rfl, ?_⟩; have n0_ := Aside0.mk (below_step (by repeat (first | (with_reducible first | exact HB.out | apply below_alloc | apply pw_below_drewN | apply below_drew1) | exact HB.out)) hb); clear HB; have HB := n0_; clear n0_; (try clear hb)) | ((with_reducible refine gate_callee (f := 10) rfl ?_); refine goesL_ (some 16) rfl rfl Try.func10 (by kernel_rfl) rfl #[.string (⟨#[47]⟩ : ByteArray), .agg #[.int .i64 t267, .int .i64 t268, .string t269], .agg #[.int .i64 t270, .int .i64 t271, .string t272]] rfl (by (try simp only [List.map_toArray, List.map_cons, List.map_nil]); first | done | rfl | (simp only [List.length_drop, List.length_take]; rfl)) ?_; (with_reducible refine (ops_Two.calls k (⟨#[47]⟩ : ByteArray) t267 t268 t269 t270 t271 t272 t273 t274 t275 t276 _ A3.out).mono ?_); rintro e w41 ⟨rfl, hb⟩; refine ⟨_, rfl, ?_⟩; have n0_ := Aside0.mk (below_step (by repeat (first | (with_reducible first | exact HB.out | apply below_alloc | apply pw_below_drewN | apply below_drew1) | exact HB.out)) hb); clear HB; have HB := n0_; clear n0_; (try clear hb)) | ((with_reducible refine gate_dst (N := 1) rfl ?_); refine box_event ?hg (N := 1) ?hd (cs := #[.int .i64 0, .int .i64 0, .string (⟨#[]⟩ : ByteArray)]) (t := 23) ?hr ?_; (case hd => rfl); (case hg => rfl); (case hr => first | (go_simp; done) | (go_simp; rfl)); intro gb277 hg w42 hbox hb; have n0_ := Aside0.mk (below_step (by repeat (first | (with_reducible first | exact HB.out | apply below_alloc | apply pw_below_drewN | apply below_drew1) | exact HB.out)) hb); have n1_ := Aside0.mk (hbox); have n2_ := Aside0.mk ((by rw [hg]; exact (below_size (by repeat (first | (with_reducible first | exact HB.out | apply below_alloc | apply pw_below_drewN | apply below_drew1) | exact HB.out))) : w.heap.size ≤ gb277)); have n3_ := Aside0.mk ((by rw [hg]; exact (below_size (by repeat (first | (with_reducible first | exact HB.out | apply below_alloc | apply pw_below_drewN | apply below_drew1) | exact HB.out))) : w.heap.size ≤ gb277)); clear HB; have HB := n0_; have BK277 := n1_; have GW277 := n2_; have GE277 := n3_; clear n0_ n1_ n2_ n3_; clear hb hbox hg; have hcz43_0 : w42.cell? ⟨gb277, 0, none⟩ = some (.int .i64 0) := (blk_cell BK277.out 0).trans rfl; have hcz43_1 : w42.cell? ⟨gb277, 1, none⟩ = some (.int .i64 0) := (blk_cell BK277.out 1).trans rfl; have hcz43_2 : w42.cell? ⟨gb277, 2, none⟩ = some (.string (⟨#[]⟩ : ByteArray)) := (blk_cell BK277.out 2).trans rfl; have hfz43_0 := blk_frozen BK277.out 0; have hfz43_1 := blk_frozen BK277.out 1; have hfz43_2 := blk_frozen BK277.out 2) | ((with_reducible refine gate_callee (f := 9) rfl ?_); refine goesL_ (some 20) rfl rfl Try.func9 (by kernel_rfl) rfl #[.int .i64 (-7)] rfl (by (try simp only [List.map_toArray, List.map_cons, List.map_nil]); first | done | rfl | (simp only [List.length_drop, List.length_take]; rfl)) ?_; (with_reducible refine (chrysalisref17_Int.calls (-7) t278 t279 t280 _ A4.out).mono ?_); rintro e w44 ⟨rfl, hb⟩; refine ⟨_, rfl, ?_⟩; have n0_ := Aside0.mk (blk_below (g := gb277) (o := .cells #[.int .i64 t273, .int .i64 t274, .string t275] 23 (0, 0)) (by refine blk_put (cs := #[.int .i64 t273, .int .i64 t274, .string (⟨#[]⟩ : ByteArray)]) ?_ 2 _ rfl; refine blk_put (cs := #[.int .i64 t273, .int .i64 0, .string (⟨#[]⟩ : ByteArray)]) ?_ 1 _ rfl; refine blk_put (cs := #[.int .i64 0, .int .i64 0, .string (⟨#[]⟩ : ByteArray)]) ?_ 0 _ rfl; exact BK277.out) hb); have n1_ := Aside0.mk (below_step (by repeat (first | (with_reducible first | exact HB.out | apply below_alloc | apply pw_below_drewN | apply below_drew1 | refine below_set ?_ GE277.out) | exact HB.out)) hb); clear BK277; clear HB; have BK277 := n0_; have HB := n1_; clear n0_ n1_; (try clear hb)) | ((with_reducible refine gate_callee (f := 9) rfl ?_); refine goesL_ (some 21) rfl rfl Try.func9 (by kernel_rfl) rfl #[.int .i64 2] rfl (by (try simp only [List.map_toArray, List.map_cons, List.map_nil]); first | done | rfl | (simp only [List.length_drop, List.length_take]; rfl)) ?_; (with_reducible refine (chrysalisref17_Int.calls 2 t281 t282 t283 _ A5.out).mono ?_); rintro e w45 ⟨rfl, hb⟩; refine ⟨_, rfl, ?_⟩; have n0_ := Aside0.mk (blk_below (g := gb277) (o := .cells #[.int .i64 t273, .int .i64 t274, .string t275] 23 (0, 0)) BK277.out hb); have n1_ := Aside0.mk (below_step (by repeat (first | (with_reducible first | exact HB.out | apply below_alloc | apply pw_below_drewN | apply below_drew1 | refine below_set ?_ GE277.out) | exact HB.out)) hb); clear BK277; clear HB; have BK277 := n0_; have HB := n1_; clear n0_ n1_; (try clear hb)) | ((with_reducible refine gate_callee (f := 10) rfl ?_); refine goesL_ (some 22) rfl rfl Try.func10 (by kernel_rfl) rfl #[.string (⟨#[37]⟩ : ByteArray), .agg #[.int .i64 t278, .int .i64 t279, .string t280], .agg #[.int .i64 t281, .int .i64 t282, .string t283]] rfl (by (try simp only [List.map_toArray, List.map_cons, List.map_nil]); first | done | rfl | (simp only [List.length_drop, List.length_take]; rfl)) ?_; (with_reducible refine (ops_Two.calls k (⟨#[37]⟩ : ByteArray) t278 t279 t280 t281 t282 t283 t284 t285 t286 t287 _ A6.out).mono ?_); rintro e w46 ⟨rfl, hb⟩; refine ⟨_, rfl, ?_⟩; have n0_ := Aside0.mk (blk_below (g := gb277) (o := .cells #[.int .i64 t273, .int .i64 t274, .string t275] 23 (0, 0)) BK277.out hb); have n1_ := Aside0.mk (below_step (by repeat (first | (with_reducible first | exact HB.out | apply below_alloc | apply pw_below_drewN | apply below_drew1 | refine below_set ?_ GE277.out) | exact HB.out)) hb); clear BK277; clear HB; have BK277 := n0_; have HB := n1_; clear n0_ n1_; (try clear hb)) | ((with_reducible refine gate_dst (N := 3) rfl ?_); refine box_event ?hg (N := 3) ?hd (cs := #[.int .i64 0, .int .i64 0, .string (⟨#[]⟩ : ByteArray)]) (t := 23) ?hr ?_; (case hd => rfl); (case hg => rfl); (case hr => first | (go_simp; done) | (go_simp; rfl)); intro gb288 hg w47 hbox hb; have n0_ := Aside0.mk (blk_below (g := gb277) (o := .cells #[.int .i64 t273, .int .i64 t274, .string t275] 23 (0, 0)) BK277.out hb); have n1_ := Aside0.mk (below_step (by repeat (first | (with_reducible first | exact HB.out | apply below_alloc | apply pw_below_drewN | apply below_drew1 | refine below_set ?_ GE277.out) | exact HB.out)) hb); have n2_ := Aside0.mk (hbox); have n3_ := Aside0.mk ((by rw [hg]; exact (below_size (by repeat (first | (with_reducible first | exact HB.out | apply below_alloc | apply pw_below_drewN | apply below_drew1 | refine below_set ?_ GE277.out) | exact HB.out))) : w.heap.size ≤ gb288)); have n4_ := Aside0.mk ((by rw [hg]; exact (below_size (by repeat (first | (with_reducible first | exact HB.out | apply below_alloc | apply pw_below_drewN | apply below_drew1 | refine below_set ?_ GE277.out) | exact HB.out))) : w.heap.size ≤ gb288)); have n5_ := Aside0.mk ((by rw [hg]; exact Nat.ne_of_lt (blk_lt (g := gb277) (o := .cells #[.int .i64 t273, .int .i64 t274, .string t275] 23 (0, 0)) BK277.out) : gb277 ≠ gb288)); have n6_ := Aside0.mk ((by rw [hg]; exact Nat.ne_of_gt (blk_lt (g := gb277) (o := .cells #[.int .i64 t273, .int .i64 t274, .string t275] 23 (0, 0)) BK277.out) : gb288 ≠ gb277)); clear BK277; clear HB; have BK277 := n0_; have HB := n1_; have BK288 := n2_; have GW288 := n3_; have GE288 := n4_; have NB277_288 := n5_; have NB288_277 := n6_; clear n0_ n1_ n2_ n3_ n4_ n5_ n6_; clear hb hbox hg; have hnb48 := NB288_277.out; have hnc48 := NB277_288.out; have hcz49_0 : w47.cell? ⟨gb288, 0, none⟩ = some (.int .i64 0) := (blk_cell BK288.out 0).trans rfl; have hcz49_1 : w47.cell? ⟨gb288, 1, none⟩ = some (.int .i64 0) := (blk_cell BK288.out 1).trans rfl; have hcz49_2 : w47.cell? ⟨gb288, 2, none⟩ = some (.string (⟨#[]⟩ : ByteArray)) := (blk_cell BK288.out 2).trans rfl; have hfz49_0 := blk_frozen BK288.out 0; have hfz49_1 := blk_frozen BK288.out 1; have hfz49_2 := blk_frozen BK288.out 2) | ((with_reducible refine gate_callee (f := 12) rfl ?_); refine goesL_ (some 26) rfl rfl Try.func12 (by kernel_rfl) rfl #[.string (⟨#[97]⟩ : ByteArray)] rfl (by (try simp only [List.map_toArray, List.map_cons, List.map_nil]); first | done | rfl | (simp only [List.length_drop, List.length_take]; rfl)) ?_; (with_reducible refine (chrysalisref17_Text.calls (⟨#[97]⟩ : ByteArray) t289 t290 t291 _ A7.out).mono ?_); rintro e w50 ⟨rfl, hb⟩; refine ⟨_, rfl, ?_⟩; have n0_ := Aside0.mk (blk_below (g := gb277) (o := .cells #[.int .i64 t273, .int .i64 t274, .string t275] 23 (0, 0)) (by refine blk_far ?_ NB277_288.out _; refine blk_far ?_ NB277_288.out _; refine blk_far ?_ NB277_288.out _; exact BK277.out) hb); have n1_ := Aside0.mk (blk_below (g := gb288) (o := .cells #[.int .i64 t284, .int .i64 t285, .string t286] 23 (0, 0)) (by refine blk_put (cs := #[.int .i64 t284, .int .i64 t285, .string (⟨#[]⟩ : ByteArray)]) ?_ 2 _ rfl; refine blk_put (cs := #[.int .i64 t284, .int .i64 0, .string (⟨#[]⟩ : ByteArray)]) ?_ 1 _ rfl; refine blk_put (cs := #[.int .i64 0, .int .i64 0, .string (⟨#[]⟩ : ByteArray)]) ?_ 0 _ rfl; exact BK288.out) hb); have n2_ := Aside0.mk (below_step (by repeat (first | (with_reducible first | exact HB.out | apply below_alloc | apply pw_below_drewN | apply below_drew1 | refine below_set ?_ GE277.out | refine below_set ?_ GE288.out) | exact HB.out)) hb); clear BK277; clear BK288; clear HB; have BK277 := n0_; have BK288 := n1_; have HB := n2_; clear n0_ n1_ n2_; (try clear hb)) | ((with_reducible refine gate_callee (f := 12) rfl ?_); refine goesL_ (some 27) rfl rfl Try.func12 (by kernel_rfl) rfl #[.string (⟨#[97, 98]⟩ : ByteArray)] rfl (by (try simp only [List.map_toArray, List.map_cons, List.map_nil]); first | done | rfl | (simp only [List.length_drop, List.length_take]; rfl)) ?_; (with_reducible refine (chrysalisref17_Text.calls (⟨#[97, 98]⟩ : ByteArray) t292 t293 t294 _ A8.out).mono ?_); rintro e w51 ⟨rfl, hb⟩; refine ⟨_, rfl, ?_⟩; have n0_ := Aside0.mk (blk_below (g := gb277) (o := .cells #[.int .i64 t273, .int .i64 t274, .string t275] 23 (0, 0)) BK277.out hb); have n1_ := Aside0.mk (blk_below (g := gb288) (o := .cells #[.int .i64 t284, .int .i64 t285, .string t286] 23 (0, 0)) BK288.out hb); have n2_ := Aside0.mk (below_step (by repeat (first | (with_reducible first | exact HB.out | apply below_alloc | apply pw_below_drewN | apply below_drew1 | refine below_set ?_ GE277.out | refine below_set ?_ GE288.out) | exact HB.out)) hb); clear BK277; clear BK288; clear HB; have BK277 := n0_; have BK288 := n1_; have HB := n2_; clear n0_ n1_ n2_; (try clear hb)) | ((with_reducible refine gate_callee (f := 10) rfl ?_); refine goesL_ (some 28) rfl rfl Try.func10 (by kernel_rfl) rfl #[.string (⟨#[60]⟩ : ByteArray), .agg #[.int .i64 t289, .int .i64 t290, .string t291], .agg #[.int .i64 t292, .int .i64 t293, .string t294]] rfl (by (try simp only [List.map_toArray, List.map_cons, List.map_nil]); first | done | rfl | (simp only [List.length_drop, List.length_take]; rfl)) ?_; (with_reducible refine (ops_Two.calls k (⟨#[60]⟩ : ByteArray) t289 t290 t291 t292 t293 t294 t295 t296 t297 t298 _ A9.out).mono ?_); rintro e w52 ⟨rfl, hb⟩; refine ⟨_, rfl, ?_⟩; have n0_ := Aside0.mk (blk_below (g := gb277) (o := .cells #[.int .i64 t273, .int .i64 t274, .string t275] 23 (0, 0)) BK277.out hb); have n1_ := Aside0.mk (blk_below (g := gb288) (o := .cells #[.int .i64 t284, .int .i64 t285, .string t286] 23 (0, 0)) BK288.out hb); have n2_ := Aside0.mk (below_step (by repeat (first | (with_reducible first | exact HB.out | apply below_alloc | apply pw_below_drewN | apply below_drew1 | refine below_set ?_ GE277.out | refine below_set ?_ GE288.out) | exact HB.out)) hb); clear BK277; clear BK288; clear HB; have BK277 := n0_; have BK288 := n1_; have HB := n2_; clear n0_ n1_ n2_; (try clear hb)) | ((with_reducible refine gate_dst (N := 5) rfl ?_); refine box_event ?hg (N := 5) ?hd (cs := #[.int .i64 0, .int .i64 0, .string (⟨#[]⟩ : ByteArray)]) (t := 23) ?hr ?_; (case hd => rfl); (case hg => rfl); (case hr => first | (go_simp; done) | (go_simp; rfl)); intro gb299 hg w53 hbox hb; have n0_ := Aside0.mk (blk_below (g := gb277) (o := .cells #[.int .i64 t273, .int .i64 t274, .string t275] 23 (0, 0)) BK277.out hb); have n1_ := Aside0.mk (blk_below (g := gb288) (o := .cells #[.int .i64 t284, .int .i64 t285, .string t286] 23 (0, 0)) BK288.out hb); have n2_ := Aside0.mk (below_step (by repeat (first | (with_reducible first | exact HB.out | apply below_alloc | apply pw_below_drewN | apply below_drew1 | refine below_set ?_ GE277.out | refine below_set ?_ GE288.out) | exact HB.out)) hb); have n3_ := Aside0.mk (hbox); have n4_ := Aside0.mk ((by rw [hg]; exact (below_size (by repeat (first | (with_reducible first | exact HB.out | apply below_alloc | apply pw_below_drewN | apply below_drew1 | refine below_set ?_ GE277.out | refine below_set ?_ GE288.out) | exact HB.out))) : w.heap.size ≤ gb299)); have n5_ := Aside0.mk ((by rw [hg]; exact (below_size (by repeat (first | (with_reducible first | exact HB.out | apply below_alloc | apply pw_below_drewN | apply below_drew1 | refine below_set ?_ GE277.out | refine below_set ?_ GE288.out) | exact HB.out))) : w.heap.size ≤ gb299)); have n6_ := Aside0.mk ((by rw [hg]; exact Nat.ne_of_lt (blk_lt (g := gb277) (o := .cells #[.int .i64 t273, .int .i64 t274, .string t275] 23 (0, 0)) BK277.out) : gb277 ≠ gb299)); have n7_ := Aside0.mk ((by rw [hg]; exact Nat.ne_of_gt (blk_lt (g := gb277) (o := .cells #[.int .i64 t273, .int .i64 t274, .string t275] 23 (0, 0)) BK277.out) : gb299 ≠ gb277)); have n8_ := Aside0.mk ((by rw [hg]; exact Nat.ne_of_lt (blk_lt (g := gb288) (o := .cells #[.int .i64 t284, .int .i64 t285, .string t286] 23 (0, 0)) BK288.out) : gb288 ≠ gb299)); have n9_ := Aside0.mk ((by rw [hg]; exact Nat.ne_of_gt (blk_lt (g := gb288) (o := .cells #[.int .i64 t284, .int .i64 t285, .string t286] 23 (0, 0)) BK288.out) : gb299 ≠ gb288)); clear BK277; clear BK288; clear HB; have BK277 := n0_; have BK288 := n1_; have HB := n2_; have BK299 := n3_; have GW299 := n4_; have GE299 := n5_; have NB277_299 := n6_; have NB299_277 := n7_; have NB288_299 := n8_; have NB299_288 := n9_; clear n0_ n1_ n2_ n3_ n4_ n5_ n6_ n7_ n8_ n9_; clear hb hbox hg; have hnb54 := NB299_277.out; have hnc54 := NB277_299.out; have hnb55 := NB299_288.out; have hnc55 := NB288_299.out; have hcz56_0 : w53.cell? ⟨gb299, 0, none⟩ = some (.int .i64 0) := (blk_cell BK299.out 0).trans rfl; have hcz56_1 : w53.cell? ⟨gb299, 1, none⟩ = some (.int .i64 0) := (blk_cell BK299.out 1).trans rfl; have hcz56_2 : w53.cell? ⟨gb299, 2, none⟩ = some (.string (⟨#[]⟩ : ByteArray)) := (blk_cell BK299.out 2).trans rfl; have hfz56_0 := blk_frozen BK299.out 0; have hfz56_1 := blk_frozen BK299.out 1; have hfz56_2 := blk_frozen BK299.out 2) | ((with_reducible refine gate_callee (f := 9) rfl ?_); refine goesL_ (some 32) rfl rfl Try.func9 (by kernel_rfl) rfl #[.int .i64 1] rfl (by (try simp only [List.map_toArray, List.map_cons, List.map_nil]); first | done | rfl | (simp only [List.length_drop, List.length_take]; rfl)) ?_; (with_reducible refine (chrysalisref17_Int.calls 1 t300 t301 t302 _ A10.out).mono ?_); rintro e w57 ⟨rfl, hb⟩; refine ⟨_, rfl, ?_⟩; have n0_ := Aside0.mk (blk_below (g := gb277) (o := .cells #[.int .i64 t273, .int .i64 t274, .string t275] 23 (0, 0)) (by refine blk_far ?_ NB277_299.out _; refine blk_far ?_ NB277_299.out _; refine blk_far ?_ NB277_299.out _; exact BK277.out) hb); have n1_ := Aside0.mk (blk_below (g := gb288) (o := .cells #[.int .i64 t284, .int .i64 t285, .string t286] 23 (0, 0)) (by refine blk_far ?_ NB288_299.out _; refine blk_far ?_ NB288_299.out _; refine blk_far ?_ NB288_299.out _; exact BK288.out) hb); have n2_ := Aside0.mk (blk_below (g := gb299) (o := .cells #[.int .i64 t295, .int .i64 t296, .string t297] 23 (0, 0)) (by refine blk_put (cs := #[.int .i64 t295, .int .i64 t296, .string (⟨#[]⟩ : ByteArray)]) ?_ 2 _ rfl; refine blk_put (cs := #[.int .i64 t295, .int .i64 0, .string (⟨#[]⟩ : ByteArray)]) ?_ 1 _ rfl; refine blk_put (cs := #[.int .i64 0, .int .i64 0, .string (⟨#[]⟩ : ByteArray)]) ?_ 0 _ rfl; exact BK299.out) hb); have n3_ := Aside0.mk (below_step (by repeat (first | (with_reducible first | exact HB.out | apply below_alloc | apply pw_below_drewN | apply below_drew1 | refine below_set ?_ GE277.out | refine below_set ?_ GE288.out | refine below_set ?_ GE299.out) | exact HB.out)) hb); clear BK277; clear BK288; clear BK299; clear HB; have BK277 := n0_; have BK288 := n1_; have BK299 := n2_; have HB := n3_; clear n0_ n1_ n2_ n3_; (try clear hb)) | ((with_reducible refine gate_callee (f := 12) rfl ?_); refine goesL_ (some 33) rfl rfl Try.func12 (by kernel_rfl) rfl #[.string (⟨#[97]⟩ : ByteArray)] rfl (by (try simp only [List.map_toArray, List.map_cons, List.map_nil]); first | done | rfl | (simp only [List.length_drop, List.length_take]; rfl)) ?_; (with_reducible refine (chrysalisref17_Text.calls (⟨#[97]⟩ : ByteArray) t303 t304 t305 _ A11.out).mono ?_); rintro e w58 ⟨rfl, hb⟩; refine ⟨_, rfl, ?_⟩; have n0_ := Aside0.mk (blk_below (g := gb277) (o := .cells #[.int .i64 t273, .int .i64 t274, .string t275] 23 (0, 0)) BK277.out hb); have n1_ := Aside0.mk (blk_below (g := gb288) (o := .cells #[.int .i64 t284, .int .i64 t285, .string t286] 23 (0, 0)) BK288.out hb); have n2_ := Aside0.mk (blk_below (g := gb299) (o := .cells #[.int .i64 t295, .int .i64 t296, .string t297] 23 (0, 0)) BK299.out hb); have n3_ := Aside0.mk (below_step (by repeat (first | (with_reducible first | exact HB.out | apply below_alloc | apply pw_below_drewN | apply below_drew1 | refine below_set ?_ GE277.out | refine below_set ?_ GE288.out | refine below_set ?_ GE299.out) | exact HB.out)) hb); clear BK277; clear BK288; clear BK299; clear HB; have BK277 := n0_; have BK288 := n1_; have BK299 := n2_; have HB := n3_; clear n0_ n1_ n2_ n3_; (try clear hb)) | ((with_reducible refine gate_callee (f := 10) rfl ?_); refine goesL_ (some 34) rfl rfl Try.func10 (by kernel_rfl) rfl #[.string (⟨#[43]⟩ : ByteArray), .agg #[.int .i64 t300, .int .i64 t301, .string t302], .agg #[.int .i64 t303, .int .i64 t304, .string t305]] rfl (by (try simp only [List.map_toArray, List.map_cons, List.map_nil]); first | done | rfl | (simp only [List.length_drop, List.length_take]; rfl)) ?_; (with_reducible refine (ops_Two.calls k (⟨#[43]⟩ : ByteArray) t300 t301 t302 t303 t304 t305 t306 t307 t308 t309 _ A12.out).mono ?_); rintro e w59 ⟨rfl, hb⟩; refine ⟨_, rfl, ?_⟩; have n0_ := Aside0.mk (blk_below (g := gb277) (o := .cells #[.int .i64 t273, .int .i64 t274, .string t275] 23 (0, 0)) BK277.out hb); have n1_ := Aside0.mk (blk_below (g := gb288) (o := .cells #[.int .i64 t284, .int .i64 t285, .string t286] 23 (0, 0)) BK288.out hb); have n2_ := Aside0.mk (blk_below (g := gb299) (o := .cells #[.int .i64 t295, .int .i64 t296, .string t297] 23 (0, 0)) BK299.out hb); have n3_ := Aside0.mk (below_step (by repeat (first | (with_reducible first | exact HB.out | apply below_alloc | apply pw_below_drewN | apply below_drew1 | refine below_set ?_ GE277.out | refine below_set ?_ GE288.out | refine below_set ?_ GE299.out) | exact HB.out)) hb); clear BK277; clear BK288; clear BK299; clear HB; have BK277 := n0_; have BK288 := n1_; have BK299 := n2_; have HB := n3_; clear n0_ n1_ n2_ n3_; (try clear hb)) | ((with_reducible refine gate_dst (N := 7) rfl ?_); refine box_event ?hg (N := 7) ?hd (cs := #[.int .i64 0, .int .i64 0, .string (⟨#[]⟩ : ByteArray)]) (t := 23) ?hr ?_; (case hd => rfl); (case hg => rfl); (case hr => first | (go_simp; done) | (go_simp; rfl)); intro gb310 hg w60 hbox hb; have n0_ := Aside0.mk (blk_below (g := gb277) (o := .cells #[.int .i64 t273, .int .i64 t274, .string t275] 23 (0, 0)) BK277.out hb); have n1_ := Aside0.mk (blk_below (g := gb288) (o := .cells #[.int .i64 t284, .int .i64 t285, .string t286] 23 (0, 0)) BK288.out hb); have n2_ := Aside0.mk (blk_below (g := gb299) (o := .cells #[.int .i64 t295, .int .i64 t296, .string t297] 23 (0, 0)) BK299.out hb); have n3_ := Aside0.mk (below_step (by repeat (first | (with_reducible first | exact HB.out | apply below_alloc | apply pw_below_drewN | apply below_drew1 | refine below_set ?_ GE277.out | refine below_set ?_ GE288.out | refine below_set ?_ GE299.out) | exact HB.out)) hb); have n4_ := Aside0.mk (hbox); have n5_ := Aside0.mk ((by rw [hg]; exact (below_size (by repeat (first | (with_reducible first | exact HB.out | apply below_alloc | apply pw_below_drewN | apply below_drew1 | refine below_set ?_ GE277.out | refine below_set ?_ GE288.out | refine below_set ?_ GE299.out) | exact HB.out))) : w.heap.size ≤ gb310)); have n6_ := Aside0.mk ((by rw [hg]; exact (below_size (by repeat (first | (with_reducible first | exact HB.out | apply below_alloc | apply pw_below_drewN | apply below_drew1 | refine below_set ?_ GE277.out | refine below_set ?_ GE288.out | refine below_set ?_ GE299.out) | exact HB.out))) : w.heap.size ≤ gb310)); have n7_ := Aside0.mk ((by rw [hg]; exact Nat.ne_of_lt (blk_lt (g := gb277) (o := .cells #[.int .i64 t273, .int .i64 t274, .string t275] 23 (0, 0)) BK277.out) : gb277 ≠ gb310)); have n8_ := Aside0.mk ((by rw [hg]; exact Nat.ne_of_gt (blk_lt (g := gb277) (o := .cells #[.int .i64 t273, .int .i64 t274, .string t275] 23 (0, 0)) BK277.out) : gb310 ≠ gb277)); have n9_ := Aside0.mk ((by rw [hg]; exact Nat.ne_of_lt (blk_lt (g := gb288) (o := .cells #[.int .i64 t284, .int .i64 t285, .string t286] 23 (0, 0)) BK288.out) : gb288 ≠ gb310)); have n10_ := Aside0.mk ((by rw [hg]; exact Nat.ne_of_gt (blk_lt (g := gb288) (o := .cells #[.int .i64 t284, .int .i64 t285, .string t286] 23 (0, 0)) BK288.out) : gb310 ≠ gb288)); have n11_ := Aside0.mk ((by rw [hg]; exact Nat.ne_of_lt (blk_lt (g := gb299) (o := .cells #[.int .i64 t295, .int .i64 t296, .string t297] 23 (0, 0)) BK299.out) : gb299 ≠ gb310)); have n12_ := Aside0.mk ((by rw [hg]; exact Nat.ne_of_gt (blk_lt (g := gb299) (o := .cells #[.int .i64 t295, .int .i64 t296, .string t297] 23 (0, 0)) BK299.out) : gb310 ≠ gb299)); clear BK277; clear BK288; clear BK299; clear HB; have BK277 := n0_; have BK288 := n1_; have BK299 := n2_; have HB := n3_; have BK310 := n4_; have GW310 := n5_; have GE310 := n6_; have NB277_310 := n7_; have NB310_277 := n8_; have NB288_310 := n9_; have NB310_288 := n10_; have NB299_310 := n11_; have NB310_299 := n12_; clear n0_ n1_ n2_ n3_ n4_ n5_ n6_ n7_ n8_ n9_ n10_ n11_ n12_; clear hb hbox hg; have hnb61 := NB310_277.out; have hnc61 := NB277_310.out; have hnb62 := NB310_288.out; have hnc62 := NB288_310.out; have hnb63 := NB310_299.out; have hnc63 := NB299_310.out; have hcz64_0 : w60.cell? ⟨gb310, 0, none⟩ = some (.int .i64 0) := (blk_cell BK310.out 0).trans rfl; have hcz64_1 : w60.cell? ⟨gb310, 1, none⟩ = some (.int .i64 0) := (blk_cell BK310.out 1).trans rfl; have hcz64_2 : w60.cell? ⟨gb310, 2, none⟩ = some (.string (⟨#[]⟩ : ByteArray)) := (blk_cell BK310.out 2).trans rfl; have hfz64_0 := blk_frozen BK310.out 0; have hfz64_1 := blk_frozen BK310.out 1; have hfz64_2 := blk_frozen BK310.out 2) | ((with_reducible refine gate_callee (f := 9) rfl ?_); refine goesL_ (some 38) rfl rfl Try.func9 (by kernel_rfl) rfl #[.int .i64 1] rfl (by (try simp only [List.map_toArray, List.map_cons, List.map_nil]); first | done | rfl | (simp only [List.length_drop, List.length_take]; rfl)) ?_; (with_reducible refine (chrysalisref17_Int.calls 1 t311 t312 t313 _ A13.out).mono ?_); rintro e w65 ⟨rfl, hb⟩; refine ⟨_, rfl, ?_⟩; have n0_ := Aside0.mk (blk_below (g := gb277) (o := .cells #[.int .i64 t273, .int .i64 t274, .string t275] 23 (0, 0)) (by refine blk_far ?_ NB277_310.out _; refine blk_far ?_ NB277_310.out _; refine blk_far ?_ NB277_310.out _; exact BK277.out) hb); have n1_ := Aside0.mk (blk_below (g := gb288) (o := .cells #[.int .i64 t284, .int .i64 t285, .string t286] 23 (0, 0)) (by refine blk_far ?_ NB288_310.out _; refine blk_far ?_ NB288_310.out _; refine blk_far ?_ NB288_310.out _; exact BK288.out) hb); have n2_ := Aside0.mk (blk_below (g := gb299) (o := .cells #[.int .i64 t295, .int .i64 t296, .string t297] 23 (0, 0)) (by refine blk_far ?_ NB299_310.out _; refine blk_far ?_ NB299_310.out _; refine blk_far ?_ NB299_310.out _; exact BK299.out) hb); have n3_ := Aside0.mk (blk_below (g := gb310) (o := .cells #[.int .i64 t306, .int .i64 t307, .string t308] 23 (0, 0)) (by refine blk_put (cs := #[.int .i64 t306, .int .i64 t307, .string (⟨#[]⟩ : ByteArray)]) ?_ 2 _ rfl; refine blk_put (cs := #[.int .i64 t306, .int .i64 0, .string (⟨#[]⟩ : ByteArray)]) ?_ 1 _ rfl; refine blk_put (cs := #[.int .i64 0, .int .i64 0, .string (⟨#[]⟩ : ByteArray)]) ?_ 0 _ rfl; exact BK310.out) hb); have n4_ := Aside0.mk (below_step (by repeat (first | (with_reducible first | exact HB.out | apply below_alloc | apply pw_below_drewN | apply below_drew1 | refine below_set ?_ GE277.out | refine below_set ?_ GE288.out | refine below_set ?_ GE299.out | refine below_set ?_ GE310.out) | exact HB.out)) hb); clear BK277; clear BK288; clear BK299; clear BK310; clear HB; have BK277 := n0_; have BK288 := n1_; have BK299 := n2_; have BK310 := n3_; have HB := n4_; clear n0_ n1_ n2_ n3_ n4_; (try clear hb)) | ((with_reducible refine gate_callee (f := 9) rfl ?_); refine goesL_ (some 39) rfl rfl Try.func9 (by kernel_rfl) rfl #[.int .i64 0] rfl (by (try simp only [List.map_toArray, List.map_cons, List.map_nil]); first | done | rfl | (simp only [List.length_drop, List.length_take]; rfl)) ?_; (with_reducible refine (chrysalisref17_Int.calls 0 t314 t315 t316 _ A14.out).mono ?_); rintro e w66 ⟨rfl, hb⟩; refine ⟨_, rfl, ?_⟩; have n0_ := Aside0.mk (blk_below (g := gb277) (o := .cells #[.int .i64 t273, .int .i64 t274, .string t275] 23 (0, 0)) BK277.out hb); have n1_ := Aside0.mk (blk_below (g := gb288) (o := .cells #[.int .i64 t284, .int .i64 t285, .string t286] 23 (0, 0)) BK288.out hb); have n2_ := Aside0.mk (blk_below (g := gb299) (o := .cells #[.int .i64 t295, .int .i64 t296, .string t297] 23 (0, 0)) BK299.out hb); have n3_ := Aside0.mk (blk_below (g := gb310) (o := .cells #[.int .i64 t306, .int .i64 t307, .string t308] 23 (0, 0)) BK310.out hb); have n4_ := Aside0.mk (below_step (by repeat (first | (with_reducible first | exact HB.out | apply below_alloc | apply pw_below_drewN | apply below_drew1 | refine below_set ?_ GE277.out | refine below_set ?_ GE288.out | refine below_set ?_ GE299.out | refine below_set ?_ GE310.out) | exact HB.out)) hb); clear BK277; clear BK288; clear BK299; clear BK310; clear HB; have BK277 := n0_; have BK288 := n1_; have BK299 := n2_; have BK310 := n3_; have HB := n4_; clear n0_ n1_ n2_ n3_ n4_; (try clear hb)) | ((with_reducible refine gate_callee (f := 10) rfl ?_); refine goesL_ (some 40) rfl rfl Try.func10 (by kernel_rfl) rfl #[.string (⟨#[47]⟩ : ByteArray), .agg #[.int .i64 t311, .int .i64 t312, .string t313], .agg #[.int .i64 t314, .int .i64 t315, .string t316]] rfl (by (try simp only [List.map_toArray, List.map_cons, List.map_nil]); first | done | rfl | (simp only [List.length_drop, List.length_take]; rfl)) ?_; (with_reducible refine (ops_Two.calls k (⟨#[47]⟩ : ByteArray) t311 t312 t313 t314 t315 t316 t317 t318 t319 t320 _ A15.out).mono ?_); rintro e w67 ⟨rfl, hb⟩; refine ⟨_, rfl, ?_⟩; have n0_ := Aside0.mk (blk_below (g := gb277) (o := .cells #[.int .i64 t273, .int .i64 t274, .string t275] 23 (0, 0)) BK277.out hb); have n1_ := Aside0.mk (blk_below (g := gb288) (o := .cells #[.int .i64 t284, .int .i64 t285, .string t286] 23 (0, 0)) BK288.out hb); have n2_ := Aside0.mk (blk_below (g := gb299) (o := .cells #[.int .i64 t295, .int .i64 t296, .string t297] 23 (0, 0)) BK299.out hb); have n3_ := Aside0.mk (blk_below (g := gb310) (o := .cells #[.int .i64 t306, .int .i64 t307, .string t308] 23 (0, 0)) BK310.out hb); have n4_ := Aside0.mk (below_step (by repeat (first | (with_reducible first | exact HB.out | apply below_alloc | apply pw_below_drewN | apply below_drew1 | refine below_set ?_ GE277.out | refine below_set ?_ GE288.out | refine below_set ?_ GE299.out | refine below_set ?_ GE310.out) | exact HB.out)) hb); clear BK277; clear BK288; clear BK299; clear BK310; clear HB; have BK277 := n0_; have BK288 := n1_; have BK299 := n2_; have BK310 := n3_; have HB := n4_; clear n0_ n1_ n2_ n3_ n4_; (try clear hb)) | ((with_reducible refine gate_dst (N := 9) rfl ?_); refine box_event ?hg (N := 9) ?hd (cs := #[.int .i64 0, .int .i64 0, .string (⟨#[]⟩ : ByteArray)]) (t := 23) ?hr ?_; (case hd => rfl); (case hg => rfl); (case hr => first | (go_simp; done) | (go_simp; rfl)); intro gb321 hg w68 hbox hb; have n0_ := Aside0.mk (blk_below (g := gb277) (o := .cells #[.int .i64 t273, .int .i64 t274, .string t275] 23 (0, 0)) BK277.out hb); have n1_ := Aside0.mk (blk_below (g := gb288) (o := .cells #[.int .i64 t284, .int .i64 t285, .string t286] 23 (0, 0)) BK288.out hb); have n2_ := Aside0.mk (blk_below (g := gb299) (o := .cells #[.int .i64 t295, .int .i64 t296, .string t297] 23 (0, 0)) BK299.out hb); have n3_ := Aside0.mk (blk_below (g := gb310) (o := .cells #[.int .i64 t306, .int .i64 t307, .string t308] 23 (0, 0)) BK310.out hb); have n4_ := Aside0.mk (below_step (by repeat (first | (with_reducible first | exact HB.out | apply below_alloc | apply pw_below_drewN | apply below_drew1 | refine below_set ?_ GE277.out | refine below_set ?_ GE288.out | refine below_set ?_ GE299.out | refine below_set ?_ GE310.out) | exact HB.out)) hb); have n5_ := Aside0.mk (hbox); have n6_ := Aside0.mk ((by rw [hg]; exact (below_size (by repeat (first | (with_reducible first | exact HB.out | apply below_alloc | apply pw_below_drewN | apply below_drew1 | refine below_set ?_ GE277.out | refine below_set ?_ GE288.out | refine below_set ?_ GE299.out | refine below_set ?_ GE310.out) | exact HB.out))) : w.heap.size ≤ gb321)); have n7_ := Aside0.mk ((by rw [hg]; exact (below_size (by repeat (first | (with_reducible first | exact HB.out | apply below_alloc | apply pw_below_drewN | apply below_drew1 | refine below_set ?_ GE277.out | refine below_set ?_ GE288.out | refine below_set ?_ GE299.out | refine below_set ?_ GE310.out) | exact HB.out))) : w.heap.size ≤ gb321)); have n8_ := Aside0.mk ((by rw [hg]; exact Nat.ne_of_lt (blk_lt (g := gb277) (o := .cells #[.int .i64 t273, .int .i64 t274, .string t275] 23 (0, 0)) BK277.out) : gb277 ≠ gb321)); have n9_ := Aside0.mk ((by rw [hg]; exact Nat.ne_of_gt (blk_lt (g := gb277) (o := .cells #[.int .i64 t273, .int .i64 t274, .string t275] 23 (0, 0)) BK277.out) : gb321 ≠ gb277)); have n10_ := Aside0.mk ((by rw [hg]; exact Nat.ne_of_lt (blk_lt (g := gb288) (o := .cells #[.int .i64 t284, .int .i64 t285, .string t286] 23 (0, 0)) BK288.out) : gb288 ≠ gb321)); have n11_ := Aside0.mk ((by rw [hg]; exact Nat.ne_of_gt (blk_lt (g := gb288) (o := .cells #[.int .i64 t284, .int .i64 t285, .string t286] 23 (0, 0)) BK288.out) : gb321 ≠ gb288)); have n12_ := Aside0.mk ((by rw [hg]; exact Nat.ne_of_lt (blk_lt (g := gb299) (o := .cells #[.int .i64 t295, .int .i64 t296, .string t297] 23 (0, 0)) BK299.out) : gb299 ≠ gb321)); have n13_ := Aside0.mk ((by rw [hg]; exact Nat.ne_of_gt (blk_lt (g := gb299) (o := .cells #[.int .i64 t295, .int .i64 t296, .string t297] 23 (0, 0)) BK299.out) : gb321 ≠ gb299)); have n14_ := Aside0.mk ((by rw [hg]; exact Nat.ne_of_lt (blk_lt (g := gb310) (o := .cells #[.int .i64 t306, .int .i64 t307, .string t308] 23 (0, 0)) BK310.out) : gb310 ≠ gb321)); have n15_ := Aside0.mk ((by rw [hg]; exact Nat.ne_of_gt (blk_lt (g := gb310) (o := .cells #[.int .i64 t306, .int .i64 t307, .string t308] 23 (0, 0)) BK310.out) : gb321 ≠ gb310)); clear BK277; clear BK288; clear BK299; clear BK310; clear HB; have BK277 := n0_; have BK288 := n1_; have BK299 := n2_; have BK310 := n3_; have HB := n4_; have BK321 := n5_; have GW321 := n6_; have GE321 := n7_; have NB277_321 := n8_; have NB321_277 := n9_; have NB288_321 := n10_; have NB321_288 := n11_; have NB299_321 := n12_; have NB321_299 := n13_; have NB310_321 := n14_; have NB321_310 := n15_; clear n0_ n1_ n2_ n3_ n4_ n5_ n6_ n7_ n8_ n9_ n10_ n11_ n12_ n13_ n14_ n15_; clear hb hbox hg; have hnb69 := NB321_277.out; have hnc69 := NB277_321.out; have hnb70 := NB321_288.out; have hnc70 := NB288_321.out; have hnb71 := NB321_299.out; have hnc71 := NB299_321.out; have hnb72 := NB321_310.out; have hnc72 := NB310_321.out; have hcz73_0 : w68.cell? ⟨gb321, 0, none⟩ = some (.int .i64 0) := (blk_cell BK321.out 0).trans rfl; have hcz73_1 : w68.cell? ⟨gb321, 1, none⟩ = some (.int .i64 0) := (blk_cell BK321.out 1).trans rfl; have hcz73_2 : w68.cell? ⟨gb321, 2, none⟩ = some (.string (⟨#[]⟩ : ByteArray)) := (blk_cell BK321.out 2).trans rfl; have hfz73_0 := blk_frozen BK321.out 0; have hfz73_1 := blk_frozen BK321.out 1; have hfz73_2 := blk_frozen BK321.out 2) | ((with_reducible refine gate_callee (f := 18) rfl ?_); refine goesL_ (some 45) rfl rfl Try.func18 (by kernel_rfl) rfl #[.string (⟨#[110, 111, 116]⟩ : ByteArray), .agg #[.int .i64 0, .int .i64 0, .string (⟨#[]⟩ : ByteArray)]] rfl (by (try simp only [List.map_toArray, List.map_cons, List.map_nil]); first | done | rfl | (simp only [List.length_drop, List.length_take]; rfl)) ?_; (with_reducible refine (ops_One.calls k (⟨#[110, 111, 116]⟩ : ByteArray) 0 0 (⟨#[]⟩ : ByteArray) t322 t323 t324 t325 _ A16.out).mono ?_); rintro e w74 ⟨rfl, hb⟩; refine ⟨_, rfl, ?_⟩; have n0_ := Aside0.mk (blk_below (g := gb277) (o := .cells #[.int .i64 t273, .int .i64 t274, .string t275] 23 (0, 0)) (by refine blk_far ?_ NB277_321.out _; refine blk_far ?_ NB277_321.out _; refine blk_far ?_ NB277_321.out _; exact BK277.out) hb); have n1_ := Aside0.mk (blk_below (g := gb288) (o := .cells #[.int .i64 t284, .int .i64 t285, .string t286] 23 (0, 0)) (by refine blk_far ?_ NB288_321.out _; refine blk_far ?_ NB288_321.out _; refine blk_far ?_ NB288_321.out _; exact BK288.out) hb); have n2_ := Aside0.mk (blk_below (g := gb299) (o := .cells #[.int .i64 t295, .int .i64 t296, .string t297] 23 (0, 0)) (by refine blk_far ?_ NB299_321.out _; refine blk_far ?_ NB299_321.out _; refine blk_far ?_ NB299_321.out _; exact BK299.out) hb); have n3_ := Aside0.mk (blk_below (g := gb310) (o := .cells #[.int .i64 t306, .int .i64 t307, .string t308] 23 (0, 0)) (by refine blk_far ?_ NB310_321.out _; refine blk_far ?_ NB310_321.out _; refine blk_far ?_ NB310_321.out _; exact BK310.out) hb); have n4_ := Aside0.mk (blk_below (g := gb321) (o := .cells #[.int .i64 t317, .int .i64 t318, .string t319] 23 (0, 0)) (by refine blk_put (cs := #[.int .i64 t317, .int .i64 t318, .string (⟨#[]⟩ : ByteArray)]) ?_ 2 _ rfl; refine blk_put (cs := #[.int .i64 t317, .int .i64 0, .string (⟨#[]⟩ : ByteArray)]) ?_ 1 _ rfl; refine blk_put (cs := #[.int .i64 0, .int .i64 0, .string (⟨#[]⟩ : ByteArray)]) ?_ 0 _ rfl; exact BK321.out) hb); have n5_ := Aside0.mk (below_step (by repeat (first | (with_reducible first | exact HB.out | apply below_alloc | apply pw_below_drewN | apply below_drew1 | refine below_set ?_ GE277.out | refine below_set ?_ GE288.out | refine below_set ?_ GE299.out | refine below_set ?_ GE310.out | refine below_set ?_ GE321.out) | exact HB.out)) hb); clear BK277; clear BK288; clear BK299; clear BK310; clear BK321; clear HB; have BK277 := n0_; have BK288 := n1_; have BK299 := n2_; have BK310 := n3_; have BK321 := n4_; have HB := n5_; clear n0_ n1_ n2_ n3_ n4_ n5_; (try clear hb)) | ((with_reducible refine gate_dst (N := 11) rfl ?_); refine box_event ?hg (N := 11) ?hd (cs := #[.int .i64 0, .int .i64 0, .string (⟨#[]⟩ : ByteArray)]) (t := 23) ?hr ?_; (case hd => rfl); (case hg => rfl); (case hr => first | (go_simp; done) | (go_simp; rfl)); intro gb326 hg w75 hbox hb; have n0_ := Aside0.mk (blk_below (g := gb277) (o := .cells #[.int .i64 t273, .int .i64 t274, .string t275] 23 (0, 0)) BK277.out hb); have n1_ := Aside0.mk (blk_below (g := gb288) (o := .cells #[.int .i64 t284, .int .i64 t285, .string t286] 23 (0, 0)) BK288.out hb); have n2_ := Aside0.mk (blk_below (g := gb299) (o := .cells #[.int .i64 t295, .int .i64 t296, .string t297] 23 (0, 0)) BK299.out hb); have n3_ := Aside0.mk (blk_below (g := gb310) (o := .cells #[.int .i64 t306, .int .i64 t307, .string t308] 23 (0, 0)) BK310.out hb); have n4_ := Aside0.mk (blk_below (g := gb321) (o := .cells #[.int .i64 t317, .int .i64 t318, .string t319] 23 (0, 0)) BK321.out hb); have n5_ := Aside0.mk (below_step (by repeat (first | (with_reducible first | exact HB.out | apply below_alloc | apply pw_below_drewN | apply below_drew1 | refine below_set ?_ GE277.out | refine below_set ?_ GE288.out | refine below_set ?_ GE299.out | refine below_set ?_ GE310.out | refine below_set ?_ GE321.out) | exact HB.out)) hb); have n6_ := Aside0.mk (hbox); have n7_ := Aside0.mk ((by rw [hg]; exact (below_size (by repeat (first | (with_reducible first | exact HB.out | apply below_alloc | apply pw_below_drewN | apply below_drew1 | refine below_set ?_ GE277.out | refine below_set ?_ GE288.out | refine below_set ?_ GE299.out | refine below_set ?_ GE310.out | refine below_set ?_ GE321.out) | exact HB.out))) : w.heap.size ≤ gb326)); have n8_ := Aside0.mk ((by rw [hg]; exact (below_size (by repeat (first | (with_reducible first | exact HB.out | apply below_alloc | apply pw_below_drewN | apply below_drew1 | refine below_set ?_ GE277.out | refine below_set ?_ GE288.out | refine below_set ?_ GE299.out | refine below_set ?_ GE310.out | refine below_set ?_ GE321.out) | exact HB.out))) : w.heap.size ≤ gb326)); have n9_ := Aside0.mk ((by rw [hg]; exact Nat.ne_of_lt (blk_lt (g := gb277) (o := .cells #[.int .i64 t273, .int .i64 t274, .string t275] 23 (0, 0)) BK277.out) : gb277 ≠ gb326)); have n10_ := Aside0.mk ((by rw [hg]; exact Nat.ne_of_gt (blk_lt (g := gb277) (o := .cells #[.int .i64 t273, .int .i64 t274, .string t275] 23 (0, 0)) BK277.out) : gb326 ≠ gb277)); have n11_ := Aside0.mk ((by rw [hg]; exact Nat.ne_of_lt (blk_lt (g := gb288) (o := .cells #[.int .i64 t284, .int .i64 t285, .string t286] 23 (0, 0)) BK288.out) : gb288 ≠ gb326)); have n12_ := Aside0.mk ((by rw [hg]; exact Nat.ne_of_gt (blk_lt (g := gb288) (o := .cells #[.int .i64 t284, .int .i64 t285, .string t286] 23 (0, 0)) BK288.out) : gb326 ≠ gb288)); have n13_ := Aside0.mk ((by rw [hg]; exact Nat.ne_of_lt (blk_lt (g := gb299) (o := .cells #[.int .i64 t295, .int .i64 t296, .string t297] 23 (0, 0)) BK299.out) : gb299 ≠ gb326)); have n14_ := Aside0.mk ((by rw [hg]; exact Nat.ne_of_gt (blk_lt (g := gb299) (o := .cells #[.int .i64 t295, .int .i64 t296, .string t297] 23 (0, 0)) BK299.out) : gb326 ≠ gb299)); have n15_ := Aside0.mk ((by rw [hg]; exact Nat.ne_of_lt (blk_lt (g := gb310) (o := .cells #[.int .i64 t306, .int .i64 t307, .string t308] 23 (0, 0)) BK310.out) : gb310 ≠ gb326)); have n16_ := Aside0.mk ((by rw [hg]; exact Nat.ne_of_gt (blk_lt (g := gb310) (o := .cells #[.int .i64 t306, .int .i64 t307, .string t308] 23 (0, 0)) BK310.out) : gb326 ≠ gb310)); have n17_ := Aside0.mk ((by rw [hg]; exact Nat.ne_of_lt (blk_lt (g := gb321) (o := .cells #[.int .i64 t317, .int .i64 t318, .string t319] 23 (0, 0)) BK321.out) : gb321 ≠ gb326)); have n18_ := Aside0.mk ((by rw [hg]; exact Nat.ne_of_gt (blk_lt (g := gb321) (o := .cells #[.int .i64 t317, .int .i64 t318, .string t319] 23 (0, 0)) BK321.out) : gb326 ≠ gb321)); clear BK277; clear BK288; clear BK299; clear BK310; clear BK321; clear HB; have BK277 := n0_; have BK288 := n1_; have BK299 := n2_; have BK310 := n3_; have BK321 := n4_; have HB := n5_; have BK326 := n6_; have GW326 := n7_; have GE326 := n8_; have NB277_326 := n9_; have NB326_277 := n10_; have NB288_326 := n11_; have NB326_288 := n12_; have NB299_326 := n13_; have NB326_299 := n14_; have NB310_326 := n15_; have NB326_310 := n16_; have NB321_326 := n17_; have NB326_321 := n18_; clear n0_ n1_ n2_ n3_ n4_ n5_ n6_ n7_ n8_ n9_ n10_ n11_ n12_ n13_ n14_ n15_ n16_ n17_ n18_; clear hb hbox hg; have hnb76 := NB326_277.out; have hnc76 := NB277_326.out; have hnb77 := NB326_288.out; have hnc77 := NB288_326.out; have hnb78 := NB326_299.out; have hnc78 := NB299_326.out; have hnb79 := NB326_310.out; have hnc79 := NB310_326.out; have hnb80 := NB326_321.out; have hnc80 := NB321_326.out; have hcz81_0 : w75.cell? ⟨gb326, 0, none⟩ = some (.int .i64 0) := (blk_cell BK326.out 0).trans rfl; have hcz81_1 : w75.cell? ⟨gb326, 1, none⟩ = some (.int .i64 0) := (blk_cell BK326.out 1).trans rfl; have hcz81_2 : w75.cell? ⟨gb326, 2, none⟩ = some (.string (⟨#[]⟩ : ByteArray)) := (blk_cell BK326.out 2).trans rfl; have hfz81_0 := blk_frozen BK326.out 0; have hfz81_1 := blk_frozen BK326.out 1; have hfz81_2 := blk_frozen BK326.out 2))
                          have n0_ : Aside0 ((((w75.setCell ⟨gb326, 0, none⟩ (.int .i64 t322)).setCell ⟨gb326, 1, none⟩ (.int .i64 t323)).setCell ⟨gb326, 2, none⟩ (.string t324)).heap[gb277]? = some (.cells #[.int .i64 t273, .int .i64 t274, .string t275] 23 (0, 0))) := ⟨by refine blk_far ?_ NB277_326.out _; refine blk_far ?_ NB277_326.out _; refine blk_far ?_ NB277_326.out _; exact BK277.out⟩
                          have n1_ : Aside0 ((((w75.setCell ⟨gb326, 0, none⟩ (.int .i64 t322)).setCell ⟨gb326, 1, none⟩ (.int .i64 t323)).setCell ⟨gb326, 2, none⟩ (.string t324)).heap[gb288]? = some (.cells #[.int .i64 t284, .int .i64 t285, .string t286] 23 (0, 0))) := ⟨by refine blk_far ?_ NB288_326.out _; refine blk_far ?_ NB288_326.out _; refine blk_far ?_ NB288_326.out _; exact BK288.out⟩
                          have n2_ : Aside0 ((((w75.setCell ⟨gb326, 0, none⟩ (.int .i64 t322)).setCell ⟨gb326, 1, none⟩ (.int .i64 t323)).setCell ⟨gb326, 2, none⟩ (.string t324)).heap[gb299]? = some (.cells #[.int .i64 t295, .int .i64 t296, .string t297] 23 (0, 0))) := ⟨by refine blk_far ?_ NB299_326.out _; refine blk_far ?_ NB299_326.out _; refine blk_far ?_ NB299_326.out _; exact BK299.out⟩
                          have n3_ : Aside0 ((((w75.setCell ⟨gb326, 0, none⟩ (.int .i64 t322)).setCell ⟨gb326, 1, none⟩ (.int .i64 t323)).setCell ⟨gb326, 2, none⟩ (.string t324)).heap[gb310]? = some (.cells #[.int .i64 t306, .int .i64 t307, .string t308] 23 (0, 0))) := ⟨by refine blk_far ?_ NB310_326.out _; refine blk_far ?_ NB310_326.out _; refine blk_far ?_ NB310_326.out _; exact BK310.out⟩
                          have n4_ : Aside0 ((((w75.setCell ⟨gb326, 0, none⟩ (.int .i64 t322)).setCell ⟨gb326, 1, none⟩ (.int .i64 t323)).setCell ⟨gb326, 2, none⟩ (.string t324)).heap[gb321]? = some (.cells #[.int .i64 t317, .int .i64 t318, .string t319] 23 (0, 0))) := ⟨by refine blk_far ?_ NB321_326.out _; refine blk_far ?_ NB321_326.out _; refine blk_far ?_ NB321_326.out _; exact BK321.out⟩
                          have n5_ : Aside0 ((((w75.setCell ⟨gb326, 0, none⟩ (.int .i64 t322)).setCell ⟨gb326, 1, none⟩ (.int .i64 t323)).setCell ⟨gb326, 2, none⟩ (.string t324)).heap[gb326]? = some (.cells #[.int .i64 t322, .int .i64 t323, .string t324] 23 (0, 0))) := ⟨by refine blk_put (cs := #[.int .i64 t322, .int .i64 t323, .string (⟨#[]⟩ : ByteArray)]) ?_ 2 _ rfl; refine blk_put (cs := #[.int .i64 t322, .int .i64 0, .string (⟨#[]⟩ : ByteArray)]) ?_ 1 _ rfl; refine blk_put (cs := #[.int .i64 0, .int .i64 0, .string (⟨#[]⟩ : ByteArray)]) ?_ 0 _ rfl; exact BK326.out⟩
                          have n6_ : Aside0 (Below w.heap.size w (((w75.setCell ⟨gb326, 0, none⟩ (.int .i64 t322)).setCell ⟨gb326, 1, none⟩ (.int .i64 t323)).setCell ⟨gb326, 2, none⟩ (.string t324))) := ⟨by repeat (first | (with_reducible first | exact HB.out | apply below_alloc | apply pw_below_drewN | apply below_drew1 | refine below_set ?_ GE277.out | refine below_set ?_ GE288.out | refine below_set ?_ GE299.out | refine below_set ?_ GE310.out | refine below_set ?_ GE321.out | refine below_set ?_ GE326.out) | exact HB.out)⟩
                          (try clear BK277)
                          (try clear BK288)
                          (try clear BK299)
                          (try clear BK310)
                          (try clear BK321)
                          (try clear BK326)
                          (try clear HB)
                          generalize (((w75.setCell ⟨gb326, 0, none⟩ (.int .i64 t322)).setCell ⟨gb326, 1, none⟩ (.int .i64 t323)).setCell ⟨gb326, 2, none⟩ (.string t324)) = w82 at n0_ n1_ n2_ n3_ n4_ n5_ n6_ ⊢
                          have BK277 := n0_
                          have BK288 := n1_
                          have BK299 := n2_
                          have BK310 := n3_
                          have BK321 := n4_
                          have BK326 := n5_
                          have HB := n6_
                          clear n0_ n1_ n2_ n3_ n4_ n5_ n6_
                          have n0_ := Aside0.mk (blk_drew BK277.out)
                          have n1_ := Aside0.mk (blk_drew BK288.out)
                          have n2_ := Aside0.mk (blk_drew BK299.out)
                          have n3_ := Aside0.mk (blk_drew BK310.out)
                          have n4_ := Aside0.mk (blk_drew BK321.out)
                          have n5_ := Aside0.mk (blk_drew BK326.out)
                          have n6_ := Aside0.mk (below_drew1 HB.out)
                          clear BK277
                          clear BK288
                          clear BK299
                          clear BK310
                          clear BK321
                          clear BK326
                          clear HB
                          have BK277 := n0_
                          have BK288 := n1_
                          have BK299 := n2_
                          have BK310 := n3_
                          have BK321 := n4_
                          have BK326 := n5_
                          have HB := n6_
                          clear n0_ n1_ n2_ n3_ n4_ n5_ n6_
                          refine start_ (n := 57) (S := fun w' => w'.cell? ⟨gb277, 0, none⟩ = some (.int .i64 t273) ∧ w'.cell? ⟨gb277, 1, none⟩ = some (.int .i64 t274) ∧ w'.cell? ⟨gb277, 2, none⟩ = some (.string t275) ∧ w'.cell? ⟨gb288, 0, none⟩ = some (.int .i64 t284) ∧ w'.cell? ⟨gb288, 1, none⟩ = some (.int .i64 t285) ∧ w'.cell? ⟨gb288, 2, none⟩ = some (.string t286) ∧ w'.cell? ⟨gb299, 0, none⟩ = some (.int .i64 t295) ∧ w'.cell? ⟨gb299, 1, none⟩ = some (.int .i64 t296) ∧ w'.cell? ⟨gb299, 2, none⟩ = some (.string t297) ∧ w'.cell? ⟨gb326, 0, none⟩ = some (.int .i64 t322) ∧ w'.cell? ⟨gb326, 1, none⟩ = some (.int .i64 t323) ∧ w'.cell? ⟨gb326, 2, none⟩ = some (.string t324)) (ds := []) #[false, false, false, false, false, false, false, false, false, false, false, false, false, false, false, false, false, false, false, false, false, false, false, false, false, false, false, false, false, false, false, false, false, false, false, false, false, false, false, false, false, false, false, false, false, false, false, false, false, false, false, false, false, false, false, false, false] (by kernel_rfl) rfl rfl ⟨(blk_cell BK277.out 0).trans rfl, (blk_cell BK277.out 1).trans rfl, (blk_cell BK277.out 2).trans rfl, (blk_cell BK288.out 0).trans rfl, (blk_cell BK288.out 1).trans rfl, (blk_cell BK288.out 2).trans rfl, (blk_cell BK299.out 0).trans rfl, (blk_cell BK299.out 1).trans rfl, (blk_cell BK299.out 2).trans rfl, (blk_cell BK326.out 0).trans rfl, (blk_cell BK326.out 1).trans rfl, (blk_cell BK326.out 2).trans rfl⟩ (fun hHeld => ?_); refine with_tabW chrysalislaw17_known.tab7 chrysalislaw17_known.bits7 (fun HT_ HW_ => ?_)
                          generalize w82.drew = w83 at BK277 BK288 BK299 BK310 BK321 BK326 HB hHeld ⊢
                          refine take_ (i := 0) (N := some 48) (v := ?_) (a' := ?_) #[true, false, false, false, false, false, false, false, false, false, false, false, false, false, false, false, false, false, false, false, false, false, false, false, false, false, false, false, false, false, false, false, false, false, false, false, false, false, false, false, false, false, false, false, false, false, false, false, false, false, false, false, false, false, false, false, false] rfl rfl (take_ofW HT_.out HW_.out (by kernel_rfl)) (fun _ _ _ h => h) (Or.inl ⟨by rfl, ?_⟩) hHeld ?_ ?_
                          rotate_left
                          · rintro w' ⟨s0, s1, s2, s3, s4, s5, s6, s7, s8, s9, s10, s11⟩
                            go_simp
                            with_reducible rfl
                          rotate_left
                          · simp only [Act.put, List.setIfInBounds_toArray, List.set_cons_zero, List.set_cons_succ, i64_w, i32_w]
                            rfl
                          refine one_ (i := 1) (N := some 49) #[true, true, false, false, false, false, false, false, false, false, false, false, false, false, false, false, false, false, false, false, false, false, false, false, false, false, false, false, false, false, false, false, false, false, false, false, false, false, false, false, false, false, false, false, false, false, false, false, false, false, false, false, false, false, false, false, false] rfl rfl (one_of HT_.out (by kernel_rfl)) (by decide) (fun K hK => ?_)
                          refine goes_ Try.func9 (by kernel_rfl) rfl #[.int .i64 (-3)] (by rfl) rfl rfl (by (try simp only [List.map_toArray, List.map_cons, List.map_nil]); first | done | rfl | (simp only [List.length_drop, List.length_take]; rfl)) ?_
                          with_reducible refine (chrysalisref17_Int.calls (-3) t327 t328 t329 _ A17.out).mono ?_
                          rintro e w84 ⟨rfl, hb⟩
                          refine ⟨_, rfl, ?_⟩
                          have n0_ := Aside0.mk (blk_below (g := gb277) (o := .cells #[.int .i64 t273, .int .i64 t274, .string t275] 23 (0, 0)) (by exact BK277.out) hb)
                          have n1_ := Aside0.mk (blk_below (g := gb288) (o := .cells #[.int .i64 t284, .int .i64 t285, .string t286] 23 (0, 0)) (by exact BK288.out) hb)
                          have n2_ := Aside0.mk (blk_below (g := gb299) (o := .cells #[.int .i64 t295, .int .i64 t296, .string t297] 23 (0, 0)) (by exact BK299.out) hb)
                          have n3_ := Aside0.mk (blk_below (g := gb310) (o := .cells #[.int .i64 t306, .int .i64 t307, .string t308] 23 (0, 0)) (by exact BK310.out) hb)
                          have n4_ := Aside0.mk (blk_below (g := gb321) (o := .cells #[.int .i64 t317, .int .i64 t318, .string t319] 23 (0, 0)) (by exact BK321.out) hb)
                          have n5_ := Aside0.mk (blk_below (g := gb326) (o := .cells #[.int .i64 t322, .int .i64 t323, .string t324] 23 (0, 0)) (by exact BK326.out) hb)
                          have n6_ := Aside0.mk (below_step (by repeat (first | (with_reducible first | exact HB.out | apply below_alloc | apply pw_below_drewN | apply below_drew1 | refine below_set ?_ GE277.out | refine below_set ?_ GE288.out | refine below_set ?_ GE299.out | refine below_set ?_ GE310.out | refine below_set ?_ GE321.out | refine below_set ?_ GE326.out) | exact HB.out)) hb)
                          clear BK277
                          clear BK288
                          clear BK299
                          clear BK310
                          clear BK321
                          clear BK326
                          clear HB
                          have BK277 := n0_
                          have BK288 := n1_
                          have BK299 := n2_
                          have BK310 := n3_
                          have BK321 := n4_
                          have BK326 := n5_
                          have HB := n6_
                          clear n0_ n1_ n2_ n3_ n4_ n5_ n6_
                          (try clear hb)
                          (try clear hb2)
                          (try clear hk)
                          (try clear hi)
                          refine hK.out _ _ ⟨(blk_cell BK277.out 0).trans rfl, (blk_cell BK277.out 1).trans rfl, (blk_cell BK277.out 2).trans rfl, (blk_cell BK288.out 0).trans rfl, (blk_cell BK288.out 1).trans rfl, (blk_cell BK288.out 2).trans rfl, (blk_cell BK299.out 0).trans rfl, (blk_cell BK299.out 1).trans rfl, (blk_cell BK299.out 2).trans rfl, (blk_cell BK326.out 0).trans rfl, (blk_cell BK326.out 1).trans rfl, (blk_cell BK326.out 2).trans rfl⟩ (fun hHeld => ?_)
                          clear hK K
                          refine norm_ (a' := ?_) ?_ ?_
                          rotate_left
                          · show Act.put _ (some 49) _ = _
                            simp only [Act.put, List.setIfInBounds_toArray, List.set_cons_zero, List.set_cons_succ, i64_w, i32_w]
                            rfl
                          refine pure_ (i := 2) (N := some 50) (v := ?_) (a' := ?_) #[true, true, true, false, false, false, false, false, false, false, false, false, false, false, false, false, false, false, false, false, false, false, false, false, false, false, false, false, false, false, false, false, false, false, false, false, false, false, false, false, false, false, false, false, false, false, false, false, false, false, false, false, false, false, false, false, false] rfl rfl (any_of HT_.out (by kernel_rfl)) (fun _ _ _ h => h) (Or.inl ⟨by rfl, ?_⟩) ?_ ?_
                          rotate_left
                          · intro w'
                            go_simp
                            with_reducible rfl
                          rotate_left
                          · simp only [Act.put, List.setIfInBounds_toArray, List.set_cons_zero, List.set_cons_succ, i64_w, i32_w]
                            rfl
                          refine pure_ (i := 3) (N := some 51) (v := ?_) (a' := ?_) #[true, true, true, true, false, false, false, false, false, false, false, false, false, false, false, false, false, false, false, false, false, false, false, false, false, false, false, false, false, false, false, false, false, false, false, false, false, false, false, false, false, false, false, false, false, false, false, false, false, false, false, false, false, false, false, false, false] rfl rfl (any_of HT_.out (by kernel_rfl)) (fun _ _ _ h => h) (Or.inl ⟨by rfl, ?_⟩) ?_ ?_
                          rotate_left
                          · intro w'
                            go_simp
                            with_reducible rfl
                          rotate_left
                          · simp only [Act.put, List.setIfInBounds_toArray, List.set_cons_zero, List.set_cons_succ, i64_w, i32_w]
                            rfl
                          refine pure_ (i := 4) (N := some 52) (v := ?_) (a' := ?_) #[true, true, true, true, true, false, false, false, false, false, false, false, false, false, false, false, false, false, false, false, false, false, false, false, false, false, false, false, false, false, false, false, false, false, false, false, false, false, false, false, false, false, false, false, false, false, false, false, false, false, false, false, false, false, false, false, false] rfl rfl (any_of HT_.out (by kernel_rfl)) (fun _ _ _ h => h) (Or.inl ⟨by rfl, ?_⟩) ?_ ?_
                          rotate_left
                          · intro w'
                            go_simp
                            with_reducible rfl
                          rotate_left
                          · simp only [Act.put, List.setIfInBounds_toArray, List.set_cons_zero, List.set_cons_succ, i64_w, i32_w]
                            rfl
                          refine pure_ (i := 5) (N := some 53) (v := ?_) (a' := ?_) #[true, true, true, true, true, true, false, false, false, false, false, false, false, false, false, false, false, false, false, false, false, false, false, false, false, false, false, false, false, false, false, false, false, false, false, false, false, false, false, false, false, false, false, false, false, false, false, false, false, false, false, false, false, false, false, false, false] rfl rfl (any_of HT_.out (by kernel_rfl)) (fun _ _ _ h => h) (Or.inl ⟨by rfl, ?_⟩) ?_ ?_
                          rotate_left
                          · intro w'
                            go_simp
                            with_reducible rfl
                          rotate_left
                          · simp only [Act.put, List.setIfInBounds_toArray, List.set_cons_zero, List.set_cons_succ, i64_w, i32_w]
                            rfl
                          refine pure_ (i := 6) (N := some 54) (v := ?_) (a' := ?_) #[true, true, true, true, true, true, true, false, false, false, false, false, false, false, false, false, false, false, false, false, false, false, false, false, false, false, false, false, false, false, false, false, false, false, false, false, false, false, false, false, false, false, false, false, false, false, false, false, false, false, false, false, false, false, false, false, false] rfl rfl (any_of HT_.out (by kernel_rfl)) (fun _ _ _ h => h) (Or.inl ⟨by rfl, ?_⟩) ?_ ?_
                          rotate_left
                          · intro w'
                            go_simp
                            with_reducible rfl
                          rotate_left
                          · simp only [Act.put, List.setIfInBounds_toArray, List.set_cons_zero, List.set_cons_succ, i64_w, i32_w]
                            rfl
                          refine pure_ (i := 7) (N := some 55) (v := ?_) (a' := ?_) #[true, true, true, true, true, true, true, true, false, false, false, false, false, false, false, false, false, false, false, false, false, false, false, false, false, false, false, false, false, false, false, false, false, false, false, false, false, false, false, false, false, false, false, false, false, false, false, false, false, false, false, false, false, false, false, false, false] rfl rfl (any_of HT_.out (by kernel_rfl)) (fun _ _ _ h => h) (Or.inl ⟨by rfl, ?_⟩) ?_ ?_
                          rotate_left
                          · intro w'
                            go_simp
                            with_reducible rfl
                          rotate_left
                          · simp only [Act.put, List.setIfInBounds_toArray, List.set_cons_zero, List.set_cons_succ, i64_w, i32_w]
                            rfl
                          refine take_ (i := 8) (N := some 56) (v := ?_) (a' := ?_) #[true, true, true, true, true, true, true, true, true, false, false, false, false, false, false, false, false, false, false, false, false, false, false, false, false, false, false, false, false, false, false, false, false, false, false, false, false, false, false, false, false, false, false, false, false, false, false, false, false, false, false, false, false, false, false, false, false] rfl rfl (take_ofW HT_.out HW_.out (by kernel_rfl)) (fun _ _ _ h => h) (Or.inl ⟨by rfl, ?_⟩) hHeld ?_ ?_
                          rotate_left
                          · rintro w' ⟨s0, s1, s2, s3, s4, s5, s6, s7, s8, s9, s10, s11⟩
                            go_simp
                            with_reducible rfl
                          rotate_left
                          · simp only [Act.put, List.setIfInBounds_toArray, List.set_cons_zero, List.set_cons_succ, i64_w, i32_w]
                            rfl
                          refine one_ (i := 9) (N := some 57) #[true, true, true, true, true, true, true, true, true, true, false, false, false, false, false, false, false, false, false, false, false, false, false, false, false, false, false, false, false, false, false, false, false, false, false, false, false, false, false, false, false, false, false, false, false, false, false, false, false, false, false, false, false, false, false, false, false] rfl rfl (one_of HT_.out (by kernel_rfl)) (by decide) (fun K hK => ?_)
                          refine goes_ Try.func9 (by kernel_rfl) rfl #[.int .i64 (-1)] (by rfl) rfl rfl (by (try simp only [List.map_toArray, List.map_cons, List.map_nil]); first | done | rfl | (simp only [List.length_drop, List.length_take]; rfl)) ?_
                          with_reducible refine (chrysalisref17_Int.calls (-1) t330 t331 t332 _ A20.out).mono ?_
                          rintro e w85 ⟨rfl, hb⟩
                          refine ⟨_, rfl, ?_⟩
                          have n0_ := Aside0.mk (blk_below (g := gb277) (o := .cells #[.int .i64 t273, .int .i64 t274, .string t275] 23 (0, 0)) (by exact BK277.out) hb)
                          have n1_ := Aside0.mk (blk_below (g := gb288) (o := .cells #[.int .i64 t284, .int .i64 t285, .string t286] 23 (0, 0)) (by exact BK288.out) hb)
                          have n2_ := Aside0.mk (blk_below (g := gb299) (o := .cells #[.int .i64 t295, .int .i64 t296, .string t297] 23 (0, 0)) (by exact BK299.out) hb)
                          have n3_ := Aside0.mk (blk_below (g := gb310) (o := .cells #[.int .i64 t306, .int .i64 t307, .string t308] 23 (0, 0)) (by exact BK310.out) hb)
                          have n4_ := Aside0.mk (blk_below (g := gb321) (o := .cells #[.int .i64 t317, .int .i64 t318, .string t319] 23 (0, 0)) (by exact BK321.out) hb)
                          have n5_ := Aside0.mk (blk_below (g := gb326) (o := .cells #[.int .i64 t322, .int .i64 t323, .string t324] 23 (0, 0)) (by exact BK326.out) hb)
                          have n6_ := Aside0.mk (below_step (by repeat (first | (with_reducible first | exact HB.out | apply below_alloc | apply pw_below_drewN | apply below_drew1 | refine below_set ?_ GE277.out | refine below_set ?_ GE288.out | refine below_set ?_ GE299.out | refine below_set ?_ GE310.out | refine below_set ?_ GE321.out | refine below_set ?_ GE326.out) | exact HB.out)) hb)
                          clear BK277
                          clear BK288
                          clear BK299
                          clear BK310
                          clear BK321
                          clear BK326
                          clear HB
                          have BK277 := n0_
                          have BK288 := n1_
                          have BK299 := n2_
                          have BK310 := n3_
                          have BK321 := n4_
                          have BK326 := n5_
                          have HB := n6_
                          clear n0_ n1_ n2_ n3_ n4_ n5_ n6_
                          (try clear hb)
                          (try clear hb2)
                          (try clear hk)
                          (try clear hi)
                          refine hK.out _ _ ⟨(blk_cell BK277.out 0).trans rfl, (blk_cell BK277.out 1).trans rfl, (blk_cell BK277.out 2).trans rfl, (blk_cell BK288.out 0).trans rfl, (blk_cell BK288.out 1).trans rfl, (blk_cell BK288.out 2).trans rfl, (blk_cell BK299.out 0).trans rfl, (blk_cell BK299.out 1).trans rfl, (blk_cell BK299.out 2).trans rfl, (blk_cell BK326.out 0).trans rfl, (blk_cell BK326.out 1).trans rfl, (blk_cell BK326.out 2).trans rfl⟩ (fun hHeld => ?_)
                          clear hK K
                          refine norm_ (a' := ?_) ?_ ?_
                          rotate_left
                          · show Act.put _ (some 57) _ = _
                            simp only [Act.put, List.setIfInBounds_toArray, List.set_cons_zero, List.set_cons_succ, i64_w, i32_w]
                            rfl
                          refine pure_ (i := 10) (N := some 58) (v := ?_) (a' := ?_) #[true, true, true, true, true, true, true, true, true, true, true, false, false, false, false, false, false, false, false, false, false, false, false, false, false, false, false, false, false, false, false, false, false, false, false, false, false, false, false, false, false, false, false, false, false, false, false, false, false, false, false, false, false, false, false, false, false] rfl rfl (any_of HT_.out (by kernel_rfl)) (fun _ _ _ h => h) (Or.inl ⟨by rfl, ?_⟩) ?_ ?_
                          rotate_left
                          · intro w'
                            go_simp
                            with_reducible rfl
                          rotate_left
                          · simp only [Act.put, List.setIfInBounds_toArray, List.set_cons_zero, List.set_cons_succ, i64_w, i32_w]
                            rfl
                          refine pure_ (i := 11) (N := some 59) (v := ?_) (a' := ?_) #[true, true, true, true, true, true, true, true, true, true, true, true, false, false, false, false, false, false, false, false, false, false, false, false, false, false, false, false, false, false, false, false, false, false, false, false, false, false, false, false, false, false, false, false, false, false, false, false, false, false, false, false, false, false, false, false, false] rfl rfl (any_of HT_.out (by kernel_rfl)) (fun _ _ _ h => h) (Or.inl ⟨by rfl, ?_⟩) ?_ ?_
                          rotate_left
                          · intro w'
                            go_simp
                            with_reducible rfl
                          rotate_left
                          · simp only [Act.put, List.setIfInBounds_toArray, List.set_cons_zero, List.set_cons_succ, i64_w, i32_w]
                            rfl
                          refine pure_ (i := 12) (N := some 60) (v := ?_) (a' := ?_) #[true, true, true, true, true, true, true, true, true, true, true, true, true, false, false, false, false, false, false, false, false, false, false, false, false, false, false, false, false, false, false, false, false, false, false, false, false, false, false, false, false, false, false, false, false, false, false, false, false, false, false, false, false, false, false, false, false] rfl rfl (any_of HT_.out (by kernel_rfl)) (fun _ _ _ h => h) (Or.inl ⟨by rfl, ?_⟩) ?_ ?_
                          rotate_left
                          · intro w'
                            go_simp
                            with_reducible rfl
                          rotate_left
                          · simp only [Act.put, List.setIfInBounds_toArray, List.set_cons_zero, List.set_cons_succ, i64_w, i32_w]
                            rfl
                          refine pure_ (i := 13) (N := some 61) (v := ?_) (a' := ?_) #[true, true, true, true, true, true, true, true, true, true, true, true, true, true, false, false, false, false, false, false, false, false, false, false, false, false, false, false, false, false, false, false, false, false, false, false, false, false, false, false, false, false, false, false, false, false, false, false, false, false, false, false, false, false, false, false, false] rfl rfl (any_of HT_.out (by kernel_rfl)) (fun _ _ _ h => h) (Or.inl ⟨by rfl, ?_⟩) ?_ ?_
                          rotate_left
                          · intro w'
                            go_simp
                            with_reducible rfl
                          rotate_left
                          · simp only [Act.put, List.setIfInBounds_toArray, List.set_cons_zero, List.set_cons_succ, i64_w, i32_w]
                            rfl
                          refine pure_ (i := 14) (N := some 62) (v := ?_) (a' := ?_) #[true, true, true, true, true, true, true, true, true, true, true, true, true, true, true, false, false, false, false, false, false, false, false, false, false, false, false, false, false, false, false, false, false, false, false, false, false, false, false, false, false, false, false, false, false, false, false, false, false, false, false, false, false, false, false, false, false] rfl rfl (any_of HT_.out (by kernel_rfl)) (fun _ _ _ h => h) (Or.inl ⟨by rfl, ?_⟩) ?_ ?_
                          rotate_left
                          · intro w'
                            go_simp
                            with_reducible rfl
                          rotate_left
                          · simp only [Act.put, List.setIfInBounds_toArray, List.set_cons_zero, List.set_cons_succ, i64_w, i32_w]
                            rfl
                          refine pure_ (i := 15) (N := some 63) (v := ?_) (a' := ?_) #[true, true, true, true, true, true, true, true, true, true, true, true, true, true, true, true, false, false, false, false, false, false, false, false, false, false, false, false, false, false, false, false, false, false, false, false, false, false, false, false, false, false, false, false, false, false, false, false, false, false, false, false, false, false, false, false, false] rfl rfl (any_of HT_.out (by kernel_rfl)) (fun _ _ _ h => h) (Or.inl ⟨by rfl, ?_⟩) ?_ ?_
                          rotate_left
                          · intro w'
                            go_simp
                            with_reducible rfl
                          rotate_left
                          · simp only [Act.put, List.setIfInBounds_toArray, List.set_cons_zero, List.set_cons_succ, i64_w, i32_w]
                            rfl
                          refine pure_ (i := 16) (N := some 64) (v := ?_) (a' := ?_) #[true, true, true, true, true, true, true, true, true, true, true, true, true, true, true, true, true, false, false, false, false, false, false, false, false, false, false, false, false, false, false, false, false, false, false, false, false, false, false, false, false, false, false, false, false, false, false, false, false, false, false, false, false, false, false, false, false] rfl rfl (any_of HT_.out (by kernel_rfl)) (fun _ _ _ h => h) (Or.inl ⟨by rfl, ?_⟩) ?_ ?_
                          rotate_left
                          · intro w'
                            go_simp
                            with_reducible rfl
                          rotate_left
                          · simp only [Act.put, List.setIfInBounds_toArray, List.set_cons_zero, List.set_cons_succ, i64_w, i32_w]
                            rfl
                          refine take_ (i := 17) (N := some 65) (v := ?_) (a' := ?_) #[true, true, true, true, true, true, true, true, true, true, true, true, true, true, true, true, true, true, false, false, false, false, false, false, false, false, false, false, false, false, false, false, false, false, false, false, false, false, false, false, false, false, false, false, false, false, false, false, false, false, false, false, false, false, false, false, false] rfl rfl (take_ofW HT_.out HW_.out (by kernel_rfl)) (fun _ _ _ h => h) (Or.inl ⟨by rfl, ?_⟩) hHeld ?_ ?_
                          rotate_left
                          · rintro w' ⟨s0, s1, s2, s3, s4, s5, s6, s7, s8, s9, s10, s11⟩
                            go_simp
                            with_reducible rfl
                          rotate_left
                          · simp only [Act.put, List.setIfInBounds_toArray, List.set_cons_zero, List.set_cons_succ, i64_w, i32_w]
                            rfl
                          refine one_ (i := 18) (N := some 66) #[true, true, true, true, true, true, true, true, true, true, true, true, true, true, true, true, true, true, true, false, false, false, false, false, false, false, false, false, false, false, false, false, false, false, false, false, false, false, false, false, false, false, false, false, false, false, false, false, false, false, false, false, false, false, false, false, false] rfl rfl (one_of HT_.out (by kernel_rfl)) (by decide) (fun K hK => ?_)
                          refine goes_ Try.func9 (by kernel_rfl) rfl #[.int .i64 1] (by rfl) rfl rfl (by (try simp only [List.map_toArray, List.map_cons, List.map_nil]); first | done | rfl | (simp only [List.length_drop, List.length_take]; rfl)) ?_
                          with_reducible refine (chrysalisref17_Int.calls 1 t333 t334 t335 _ A23.out).mono ?_
                          rintro e w86 ⟨rfl, hb⟩
                          refine ⟨_, rfl, ?_⟩
                          have n0_ := Aside0.mk (blk_below (g := gb277) (o := .cells #[.int .i64 t273, .int .i64 t274, .string t275] 23 (0, 0)) (by exact BK277.out) hb)
                          have n1_ := Aside0.mk (blk_below (g := gb288) (o := .cells #[.int .i64 t284, .int .i64 t285, .string t286] 23 (0, 0)) (by exact BK288.out) hb)
                          have n2_ := Aside0.mk (blk_below (g := gb299) (o := .cells #[.int .i64 t295, .int .i64 t296, .string t297] 23 (0, 0)) (by exact BK299.out) hb)
                          have n3_ := Aside0.mk (blk_below (g := gb310) (o := .cells #[.int .i64 t306, .int .i64 t307, .string t308] 23 (0, 0)) (by exact BK310.out) hb)
                          have n4_ := Aside0.mk (blk_below (g := gb321) (o := .cells #[.int .i64 t317, .int .i64 t318, .string t319] 23 (0, 0)) (by exact BK321.out) hb)
                          have n5_ := Aside0.mk (blk_below (g := gb326) (o := .cells #[.int .i64 t322, .int .i64 t323, .string t324] 23 (0, 0)) (by exact BK326.out) hb)
                          have n6_ := Aside0.mk (below_step (by repeat (first | (with_reducible first | exact HB.out | apply below_alloc | apply pw_below_drewN | apply below_drew1 | refine below_set ?_ GE277.out | refine below_set ?_ GE288.out | refine below_set ?_ GE299.out | refine below_set ?_ GE310.out | refine below_set ?_ GE321.out | refine below_set ?_ GE326.out) | exact HB.out)) hb)
                          clear BK277
                          clear BK288
                          clear BK299
                          clear BK310
                          clear BK321
                          clear BK326
                          clear HB
                          have BK277 := n0_
                          have BK288 := n1_
                          have BK299 := n2_
                          have BK310 := n3_
                          have BK321 := n4_
                          have BK326 := n5_
                          have HB := n6_
                          clear n0_ n1_ n2_ n3_ n4_ n5_ n6_
                          (try clear hb)
                          (try clear hb2)
                          (try clear hk)
                          (try clear hi)
                          refine hK.out _ _ ⟨(blk_cell BK277.out 0).trans rfl, (blk_cell BK277.out 1).trans rfl, (blk_cell BK277.out 2).trans rfl, (blk_cell BK288.out 0).trans rfl, (blk_cell BK288.out 1).trans rfl, (blk_cell BK288.out 2).trans rfl, (blk_cell BK299.out 0).trans rfl, (blk_cell BK299.out 1).trans rfl, (blk_cell BK299.out 2).trans rfl, (blk_cell BK326.out 0).trans rfl, (blk_cell BK326.out 1).trans rfl, (blk_cell BK326.out 2).trans rfl⟩ (fun hHeld => ?_)
                          clear hK K
                          refine norm_ (a' := ?_) ?_ ?_
                          rotate_left
                          · show Act.put _ (some 66) _ = _
                            simp only [Act.put, List.setIfInBounds_toArray, List.set_cons_zero, List.set_cons_succ, i64_w, i32_w]
                            rfl
                          refine pure_ (i := 19) (N := some 67) (v := ?_) (a' := ?_) #[true, true, true, true, true, true, true, true, true, true, true, true, true, true, true, true, true, true, true, true, false, false, false, false, false, false, false, false, false, false, false, false, false, false, false, false, false, false, false, false, false, false, false, false, false, false, false, false, false, false, false, false, false, false, false, false, false] rfl rfl (any_of HT_.out (by kernel_rfl)) (fun _ _ _ h => h) (Or.inl ⟨by rfl, ?_⟩) ?_ ?_
                          rotate_left
                          · intro w'
                            go_simp
                            with_reducible rfl
                          rotate_left
                          · simp only [Act.put, List.setIfInBounds_toArray, List.set_cons_zero, List.set_cons_succ, i64_w, i32_w]
                            rfl
                          refine pure_ (i := 20) (N := some 68) (v := ?_) (a' := ?_) #[true, true, true, true, true, true, true, true, true, true, true, true, true, true, true, true, true, true, true, true, true, false, false, false, false, false, false, false, false, false, false, false, false, false, false, false, false, false, false, false, false, false, false, false, false, false, false, false, false, false, false, false, false, false, false, false, false] rfl rfl (any_of HT_.out (by kernel_rfl)) (fun _ _ _ h => h) (Or.inl ⟨by rfl, ?_⟩) ?_ ?_
                          rotate_left
                          · intro w'
                            go_simp
                            with_reducible rfl
                          rotate_left
                          · simp only [Act.put, List.setIfInBounds_toArray, List.set_cons_zero, List.set_cons_succ, i64_w, i32_w]
                            rfl
                          refine pure_ (i := 21) (N := some 69) (v := ?_) (a' := ?_) #[true, true, true, true, true, true, true, true, true, true, true, true, true, true, true, true, true, true, true, true, true, true, false, false, false, false, false, false, false, false, false, false, false, false, false, false, false, false, false, false, false, false, false, false, false, false, false, false, false, false, false, false, false, false, false, false, false] rfl rfl (any_of HT_.out (by kernel_rfl)) (fun _ _ _ h => h) (Or.inl ⟨by rfl, ?_⟩) ?_ ?_
                          rotate_left
                          · intro w'
                            go_simp
                            with_reducible rfl
                          rotate_left
                          · simp only [Act.put, List.setIfInBounds_toArray, List.set_cons_zero, List.set_cons_succ, i64_w, i32_w]
                            rfl
                          refine pure_ (i := 22) (N := some 70) (v := ?_) (a' := ?_) #[true, true, true, true, true, true, true, true, true, true, true, true, true, true, true, true, true, true, true, true, true, true, true, false, false, false, false, false, false, false, false, false, false, false, false, false, false, false, false, false, false, false, false, false, false, false, false, false, false, false, false, false, false, false, false, false, false] rfl rfl (any_of HT_.out (by kernel_rfl)) (fun _ _ _ h => h) (Or.inl ⟨by rfl, ?_⟩) ?_ ?_
                          rotate_left
                          · intro w'
                            go_simp
                            with_reducible rfl
                          rotate_left
                          · simp only [Act.put, List.setIfInBounds_toArray, List.set_cons_zero, List.set_cons_succ, i64_w, i32_w]
                            rfl
                          refine pure_ (i := 23) (N := some 71) (v := ?_) (a' := ?_) #[true, true, true, true, true, true, true, true, true, true, true, true, true, true, true, true, true, true, true, true, true, true, true, true, false, false, false, false, false, false, false, false, false, false, false, false, false, false, false, false, false, false, false, false, false, false, false, false, false, false, false, false, false, false, false, false, false] rfl rfl (any_of HT_.out (by kernel_rfl)) (fun _ _ _ h => h) (Or.inl ⟨by rfl, ?_⟩) ?_ ?_
                          rotate_left
                          · intro w'
                            go_simp
                            with_reducible rfl
                          rotate_left
                          · simp only [Act.put, List.setIfInBounds_toArray, List.set_cons_zero, List.set_cons_succ, i64_w, i32_w]
                            rfl
                          refine pure_ (i := 24) (N := some 72) (v := ?_) (a' := ?_) #[true, true, true, true, true, true, true, true, true, true, true, true, true, true, true, true, true, true, true, true, true, true, true, true, true, false, false, false, false, false, false, false, false, false, false, false, false, false, false, false, false, false, false, false, false, false, false, false, false, false, false, false, false, false, false, false, false] rfl rfl (any_of HT_.out (by kernel_rfl)) (fun _ _ _ h => h) (Or.inl ⟨by rfl, ?_⟩) ?_ ?_
                          rotate_left
                          · intro w'
                            go_simp
                            with_reducible rfl
                          rotate_left
                          · simp only [Act.put, List.setIfInBounds_toArray, List.set_cons_zero, List.set_cons_succ, i64_w, i32_w]
                            rfl
                          refine pure_ (i := 25) (N := some 73) (v := ?_) (a' := ?_) #[true, true, true, true, true, true, true, true, true, true, true, true, true, true, true, true, true, true, true, true, true, true, true, true, true, true, false, false, false, false, false, false, false, false, false, false, false, false, false, false, false, false, false, false, false, false, false, false, false, false, false, false, false, false, false, false, false] rfl rfl (any_of HT_.out (by kernel_rfl)) (fun _ _ _ h => h) (Or.inl ⟨by rfl, ?_⟩) ?_ ?_
                          rotate_left
                          · intro w'
                            go_simp
                            with_reducible rfl
                          rotate_left
                          · simp only [Act.put, List.setIfInBounds_toArray, List.set_cons_zero, List.set_cons_succ, i64_w, i32_w]
                            rfl
                          refine pure_ (i := 26) (N := some 74) (v := ?_) (a' := ?_) #[true, true, true, true, true, true, true, true, true, true, true, true, true, true, true, true, true, true, true, true, true, true, true, true, true, true, true, false, false, false, false, false, false, false, false, false, false, false, false, false, false, false, false, false, false, false, false, false, false, false, false, false, false, false, false, false, false] rfl rfl (any_of HT_.out (by kernel_rfl)) (fun _ _ _ h => h) (Or.inl ⟨by rfl, ?_⟩) ?_ ?_
                          rotate_left
                          · intro w'
                            go_simp
                            with_reducible rfl
                          rotate_left
                          · simp only [Act.put, List.setIfInBounds_toArray, List.set_cons_zero, List.set_cons_succ, i64_w, i32_w]
                            rfl
                          refine pure_ (i := 27) (N := some 75) (v := ?_) (a' := ?_) #[true, true, true, true, true, true, true, true, true, true, true, true, true, true, true, true, true, true, true, true, true, true, true, true, true, true, true, true, false, false, false, false, false, false, false, false, false, false, false, false, false, false, false, false, false, false, false, false, false, false, false, false, false, false, false, false, false] rfl rfl (any_of HT_.out (by kernel_rfl)) (fun _ _ _ h => h) (Or.inl ⟨by rfl, ?_⟩) ?_ ?_
                          rotate_left
                          · intro w'
                            go_simp
                            with_reducible rfl
                          rotate_left
                          · simp only [Act.put, List.setIfInBounds_toArray, List.set_cons_zero, List.set_cons_succ, i64_w, i32_w]
                            rfl
                          refine pure_ (i := 28) (N := some 76) (v := ?_) (a' := ?_) #[true, true, true, true, true, true, true, true, true, true, true, true, true, true, true, true, true, true, true, true, true, true, true, true, true, true, true, true, true, false, false, false, false, false, false, false, false, false, false, false, false, false, false, false, false, false, false, false, false, false, false, false, false, false, false, false, false] rfl rfl (any_of HT_.out (by kernel_rfl)) (fun _ _ _ h => h) (Or.inl ⟨by rfl, ?_⟩) ?_ ?_
                          rotate_left
                          · intro w'
                            go_simp
                            with_reducible rfl
                          rotate_left
                          · simp only [Act.put, List.setIfInBounds_toArray, List.set_cons_zero, List.set_cons_succ, i64_w, i32_w]
                            rfl
                          refine pure_ (i := 29) (N := some 77) (v := ?_) (a' := ?_) #[true, true, true, true, true, true, true, true, true, true, true, true, true, true, true, true, true, true, true, true, true, true, true, true, true, true, true, true, true, true, false, false, false, false, false, false, false, false, false, false, false, false, false, false, false, false, false, false, false, false, false, false, false, false, false, false, false] rfl rfl (any_of HT_.out (by kernel_rfl)) (fun _ _ _ h => h) (Or.inl ⟨by rfl, ?_⟩) ?_ ?_
                          rotate_left
                          · intro w'
                            go_simp
                            with_reducible rfl
                          rotate_left
                          · simp only [Act.put, List.setIfInBounds_toArray, List.set_cons_zero, List.set_cons_succ, i64_w, i32_w]
                            rfl
                          refine pure_ (i := 30) (N := some 78) (v := ?_) (a' := ?_) #[true, true, true, true, true, true, true, true, true, true, true, true, true, true, true, true, true, true, true, true, true, true, true, true, true, true, true, true, true, true, true, false, false, false, false, false, false, false, false, false, false, false, false, false, false, false, false, false, false, false, false, false, false, false, false, false, false] rfl rfl (any_of HT_.out (by kernel_rfl)) (fun _ _ _ h => h) (Or.inl ⟨by rfl, ?_⟩) ?_ ?_
                          rotate_left
                          · intro w'
                            go_simp
                            with_reducible rfl
                          rotate_left
                          · simp only [Act.put, List.setIfInBounds_toArray, List.set_cons_zero, List.set_cons_succ, i64_w, i32_w]
                            rfl
                          refine pure_ (i := 31) (N := some 79) (v := ?_) (a' := ?_) #[true, true, true, true, true, true, true, true, true, true, true, true, true, true, true, true, true, true, true, true, true, true, true, true, true, true, true, true, true, true, true, true, false, false, false, false, false, false, false, false, false, false, false, false, false, false, false, false, false, false, false, false, false, false, false, false, false] rfl rfl (any_of HT_.out (by kernel_rfl)) (fun _ _ _ h => h) (Or.inl ⟨by rfl, ?_⟩) ?_ ?_
                          rotate_left
                          · intro w'
                            go_simp
                            with_reducible rfl
                          rotate_left
                          · simp only [Act.put, List.setIfInBounds_toArray, List.set_cons_zero, List.set_cons_succ, i64_w, i32_w]
                            rfl
                          refine pure_ (i := 32) (N := some 80) (v := ?_) (a' := ?_) #[true, true, true, true, true, true, true, true, true, true, true, true, true, true, true, true, true, true, true, true, true, true, true, true, true, true, true, true, true, true, true, true, true, false, false, false, false, false, false, false, false, false, false, false, false, false, false, false, false, false, false, false, false, false, false, false, false] rfl rfl (any_of HT_.out (by kernel_rfl)) (fun _ _ _ h => h) (Or.inl ⟨by rfl, ?_⟩) ?_ ?_
                          rotate_left
                          · intro w'
                            go_simp
                            with_reducible rfl
                          rotate_left
                          · simp only [Act.put, List.setIfInBounds_toArray, List.set_cons_zero, List.set_cons_succ, i64_w, i32_w]
                            rfl
                          refine pure_ (i := 33) (N := some 81) (v := ?_) (a' := ?_) #[true, true, true, true, true, true, true, true, true, true, true, true, true, true, true, true, true, true, true, true, true, true, true, true, true, true, true, true, true, true, true, true, true, true, false, false, false, false, false, false, false, false, false, false, false, false, false, false, false, false, false, false, false, false, false, false, false] rfl rfl (any_of HT_.out (by kernel_rfl)) (fun _ _ _ h => h) (Or.inl ⟨by rfl, ?_⟩) ?_ ?_
                          rotate_left
                          · intro w'
                            go_simp
                            with_reducible rfl
                          rotate_left
                          · simp only [Act.put, List.setIfInBounds_toArray, List.set_cons_zero, List.set_cons_succ, i64_w, i32_w]
                            rfl
                          refine take_ (i := 34) (N := some 82) (v := ?_) (a' := ?_) #[true, true, true, true, true, true, true, true, true, true, true, true, true, true, true, true, true, true, true, true, true, true, true, true, true, true, true, true, true, true, true, true, true, true, true, false, false, false, false, false, false, false, false, false, false, false, false, false, false, false, false, false, false, false, false, false, false] rfl rfl (take_ofW HT_.out HW_.out (by kernel_rfl)) (fun _ _ _ h => h) (Or.inl ⟨by rfl, ?_⟩) hHeld ?_ ?_
                          rotate_left
                          · rintro w' ⟨s0, s1, s2, s3, s4, s5, s6, s7, s8, s9, s10, s11⟩
                            go_simp
                            with_reducible rfl
                          rotate_left
                          · simp only [Act.put, List.setIfInBounds_toArray, List.set_cons_zero, List.set_cons_succ, i64_w, i32_w]
                            rfl
                          refine one_ (i := 35) (N := some 83) #[true, true, true, true, true, true, true, true, true, true, true, true, true, true, true, true, true, true, true, true, true, true, true, true, true, true, true, true, true, true, true, true, true, true, true, true, false, false, false, false, false, false, false, false, false, false, false, false, false, false, false, false, false, false, false, false, false] rfl rfl (one_of HT_.out (by kernel_rfl)) (by decide) (fun K hK => ?_)
                          refine goes_ Try.func9 (by kernel_rfl) rfl #[.int .i64 1] (by rfl) rfl rfl (by (try simp only [List.map_toArray, List.map_cons, List.map_nil]); first | done | rfl | (simp only [List.length_drop, List.length_take]; rfl)) ?_
                          with_reducible refine (chrysalisref17_Int.calls 1 t336 t337 t338 _ A28.out).mono ?_
                          rintro e w87 ⟨rfl, hb⟩
                          refine ⟨_, rfl, ?_⟩
                          have n0_ := Aside0.mk (blk_below (g := gb277) (o := .cells #[.int .i64 t273, .int .i64 t274, .string t275] 23 (0, 0)) (by exact BK277.out) hb)
                          have n1_ := Aside0.mk (blk_below (g := gb288) (o := .cells #[.int .i64 t284, .int .i64 t285, .string t286] 23 (0, 0)) (by exact BK288.out) hb)
                          have n2_ := Aside0.mk (blk_below (g := gb299) (o := .cells #[.int .i64 t295, .int .i64 t296, .string t297] 23 (0, 0)) (by exact BK299.out) hb)
                          have n3_ := Aside0.mk (blk_below (g := gb310) (o := .cells #[.int .i64 t306, .int .i64 t307, .string t308] 23 (0, 0)) (by exact BK310.out) hb)
                          have n4_ := Aside0.mk (blk_below (g := gb321) (o := .cells #[.int .i64 t317, .int .i64 t318, .string t319] 23 (0, 0)) (by exact BK321.out) hb)
                          have n5_ := Aside0.mk (blk_below (g := gb326) (o := .cells #[.int .i64 t322, .int .i64 t323, .string t324] 23 (0, 0)) (by exact BK326.out) hb)
                          have n6_ := Aside0.mk (below_step (by repeat (first | (with_reducible first | exact HB.out | apply below_alloc | apply pw_below_drewN | apply below_drew1 | refine below_set ?_ GE277.out | refine below_set ?_ GE288.out | refine below_set ?_ GE299.out | refine below_set ?_ GE310.out | refine below_set ?_ GE321.out | refine below_set ?_ GE326.out) | exact HB.out)) hb)
                          clear BK277
                          clear BK288
                          clear BK299
                          clear BK310
                          clear BK321
                          clear BK326
                          clear HB
                          have BK277 := n0_
                          have BK288 := n1_
                          have BK299 := n2_
                          have BK310 := n3_
                          have BK321 := n4_
                          have BK326 := n5_
                          have HB := n6_
                          clear n0_ n1_ n2_ n3_ n4_ n5_ n6_
                          (try clear hb)
                          (try clear hb2)
                          (try clear hk)
                          (try clear hi)
                          refine hK.out _ _ ⟨(blk_cell BK277.out 0).trans rfl, (blk_cell BK277.out 1).trans rfl, (blk_cell BK277.out 2).trans rfl, (blk_cell BK288.out 0).trans rfl, (blk_cell BK288.out 1).trans rfl, (blk_cell BK288.out 2).trans rfl, (blk_cell BK299.out 0).trans rfl, (blk_cell BK299.out 1).trans rfl, (blk_cell BK299.out 2).trans rfl, (blk_cell BK326.out 0).trans rfl, (blk_cell BK326.out 1).trans rfl, (blk_cell BK326.out 2).trans rfl⟩ (fun hHeld => ?_)
                          clear hK K
                          refine norm_ (a' := ?_) ?_ ?_
                          rotate_left
                          · show Act.put _ (some 83) _ = _
                            simp only [Act.put, List.setIfInBounds_toArray, List.set_cons_zero, List.set_cons_succ, i64_w, i32_w]
                            rfl
                          refine pure_ (i := 36) (N := some 84) (v := ?_) (a' := ?_) #[true, true, true, true, true, true, true, true, true, true, true, true, true, true, true, true, true, true, true, true, true, true, true, true, true, true, true, true, true, true, true, true, true, true, true, true, true, false, false, false, false, false, false, false, false, false, false, false, false, false, false, false, false, false, false, false, false] rfl rfl (any_of HT_.out (by kernel_rfl)) (fun _ _ _ h => h) (Or.inl ⟨by rfl, ?_⟩) ?_ ?_
                          rotate_left
                          · intro w'
                            go_simp
                            with_reducible rfl
                          rotate_left
                          · simp only [Act.put, List.setIfInBounds_toArray, List.set_cons_zero, List.set_cons_succ, i64_w, i32_w]
                            rfl
                          refine pure_ (i := 37) (N := some 85) (v := ?_) (a' := ?_) #[true, true, true, true, true, true, true, true, true, true, true, true, true, true, true, true, true, true, true, true, true, true, true, true, true, true, true, true, true, true, true, true, true, true, true, true, true, true, false, false, false, false, false, false, false, false, false, false, false, false, false, false, false, false, false, false, false] rfl rfl (any_of HT_.out (by kernel_rfl)) (fun _ _ _ h => h) (Or.inl ⟨by rfl, ?_⟩) ?_ ?_
                          rotate_left
                          · intro w'
                            go_simp
                            with_reducible rfl
                          rotate_left
                          · simp only [Act.put, List.setIfInBounds_toArray, List.set_cons_zero, List.set_cons_succ, i64_w, i32_w]
                            rfl
                          refine pure_ (i := 38) (N := some 86) (v := ?_) (a' := ?_) #[true, true, true, true, true, true, true, true, true, true, true, true, true, true, true, true, true, true, true, true, true, true, true, true, true, true, true, true, true, true, true, true, true, true, true, true, true, true, true, false, false, false, false, false, false, false, false, false, false, false, false, false, false, false, false, false, false] rfl rfl (any_of HT_.out (by kernel_rfl)) (fun _ _ _ h => h) (Or.inl ⟨by rfl, ?_⟩) ?_ ?_
                          rotate_left
                          · intro w'
                            go_simp
                            with_reducible rfl
                          rotate_left
                          · simp only [Act.put, List.setIfInBounds_toArray, List.set_cons_zero, List.set_cons_succ, i64_w, i32_w]
                            rfl
                          refine pure_ (i := 39) (N := some 87) (v := ?_) (a' := ?_) #[true, true, true, true, true, true, true, true, true, true, true, true, true, true, true, true, true, true, true, true, true, true, true, true, true, true, true, true, true, true, true, true, true, true, true, true, true, true, true, true, false, false, false, false, false, false, false, false, false, false, false, false, false, false, false, false, false] rfl rfl (any_of HT_.out (by kernel_rfl)) (fun _ _ _ h => h) (Or.inl ⟨by rfl, ?_⟩) ?_ ?_
                          rotate_left
                          · intro w'
                            go_simp
                            with_reducible rfl
                          rotate_left
                          · simp only [Act.put, List.setIfInBounds_toArray, List.set_cons_zero, List.set_cons_succ, i64_w, i32_w]
                            rfl
                          refine pure_ (i := 40) (N := some 88) (v := ?_) (a' := ?_) #[true, true, true, true, true, true, true, true, true, true, true, true, true, true, true, true, true, true, true, true, true, true, true, true, true, true, true, true, true, true, true, true, true, true, true, true, true, true, true, true, true, false, false, false, false, false, false, false, false, false, false, false, false, false, false, false, false] rfl rfl (any_of HT_.out (by kernel_rfl)) (fun _ _ _ h => h) (Or.inl ⟨by rfl, ?_⟩) ?_ ?_
                          rotate_left
                          · intro w'
                            go_simp
                            with_reducible rfl
                          rotate_left
                          · simp only [Act.put, List.setIfInBounds_toArray, List.set_cons_zero, List.set_cons_succ, i64_w, i32_w]
                            rfl
                          refine pure_ (i := 41) (N := some 89) (v := ?_) (a' := ?_) #[true, true, true, true, true, true, true, true, true, true, true, true, true, true, true, true, true, true, true, true, true, true, true, true, true, true, true, true, true, true, true, true, true, true, true, true, true, true, true, true, true, true, false, false, false, false, false, false, false, false, false, false, false, false, false, false, false] rfl rfl (any_of HT_.out (by kernel_rfl)) (fun _ _ _ h => h) (Or.inl ⟨by rfl, ?_⟩) ?_ ?_
                          rotate_left
                          · intro w'
                            go_simp
                            with_reducible rfl
                          rotate_left
                          · simp only [Act.put, List.setIfInBounds_toArray, List.set_cons_zero, List.set_cons_succ, i64_w, i32_w]
                            rfl
                          refine pure_ (i := 42) (N := some 90) (v := ?_) (a' := ?_) #[true, true, true, true, true, true, true, true, true, true, true, true, true, true, true, true, true, true, true, true, true, true, true, true, true, true, true, true, true, true, true, true, true, true, true, true, true, true, true, true, true, true, true, false, false, false, false, false, false, false, false, false, false, false, false, false, false] rfl rfl (any_of HT_.out (by kernel_rfl)) (fun _ _ _ h => h) (Or.inl ⟨by rfl, ?_⟩) ?_ ?_
                          rotate_left
                          · intro w'
                            go_simp
                            with_reducible rfl
                          rotate_left
                          · simp only [Act.put, List.setIfInBounds_toArray, List.set_cons_zero, List.set_cons_succ, i64_w, i32_w]
                            rfl
                          refine one_ (i := 43) (N := some 91) #[true, true, true, true, true, true, true, true, true, true, true, true, true, true, true, true, true, true, true, true, true, true, true, true, true, true, true, true, true, true, true, true, true, true, true, true, true, true, true, true, true, true, true, true, false, false, false, false, false, false, false, false, false, false, false, false, false] rfl rfl (one_of HT_.out (by kernel_rfl)) (by decide) (fun K hK => ?_)
                          refine goes_ Try.func12 (by kernel_rfl) rfl #[.string (⟨#[97, 34, 98]⟩ : ByteArray)] (by rfl) rfl rfl (by (try simp only [List.map_toArray, List.map_cons, List.map_nil]); first | done | rfl | (simp only [List.length_drop, List.length_take]; rfl)) ?_
                          with_reducible refine (chrysalisref17_Text.calls (⟨#[97, 34, 98]⟩ : ByteArray) t339 t340 t341 _ A31.out).mono ?_
                          rintro e w88 ⟨rfl, hb⟩
                          refine ⟨_, rfl, ?_⟩
                          have n0_ := Aside0.mk (blk_below (g := gb277) (o := .cells #[.int .i64 t273, .int .i64 t274, .string t275] 23 (0, 0)) (by exact BK277.out) hb)
                          have n1_ := Aside0.mk (blk_below (g := gb288) (o := .cells #[.int .i64 t284, .int .i64 t285, .string t286] 23 (0, 0)) (by exact BK288.out) hb)
                          have n2_ := Aside0.mk (blk_below (g := gb299) (o := .cells #[.int .i64 t295, .int .i64 t296, .string t297] 23 (0, 0)) (by exact BK299.out) hb)
                          have n3_ := Aside0.mk (blk_below (g := gb310) (o := .cells #[.int .i64 t306, .int .i64 t307, .string t308] 23 (0, 0)) (by exact BK310.out) hb)
                          have n4_ := Aside0.mk (blk_below (g := gb321) (o := .cells #[.int .i64 t317, .int .i64 t318, .string t319] 23 (0, 0)) (by exact BK321.out) hb)
                          have n5_ := Aside0.mk (blk_below (g := gb326) (o := .cells #[.int .i64 t322, .int .i64 t323, .string t324] 23 (0, 0)) (by exact BK326.out) hb)
                          have n6_ := Aside0.mk (below_step (by repeat (first | (with_reducible first | exact HB.out | apply below_alloc | apply pw_below_drewN | apply below_drew1 | refine below_set ?_ GE277.out | refine below_set ?_ GE288.out | refine below_set ?_ GE299.out | refine below_set ?_ GE310.out | refine below_set ?_ GE321.out | refine below_set ?_ GE326.out) | exact HB.out)) hb)
                          clear BK277
                          clear BK288
                          clear BK299
                          clear BK310
                          clear BK321
                          clear BK326
                          clear HB
                          have BK277 := n0_
                          have BK288 := n1_
                          have BK299 := n2_
                          have BK310 := n3_
                          have BK321 := n4_
                          have BK326 := n5_
                          have HB := n6_
                          clear n0_ n1_ n2_ n3_ n4_ n5_ n6_
                          (try clear hb)
                          (try clear hb2)
                          (try clear hk)
                          (try clear hi)
                          refine hK.out _ _ ⟨(blk_cell BK277.out 0).trans rfl, (blk_cell BK277.out 1).trans rfl, (blk_cell BK277.out 2).trans rfl, (blk_cell BK288.out 0).trans rfl, (blk_cell BK288.out 1).trans rfl, (blk_cell BK288.out 2).trans rfl, (blk_cell BK299.out 0).trans rfl, (blk_cell BK299.out 1).trans rfl, (blk_cell BK299.out 2).trans rfl, (blk_cell BK326.out 0).trans rfl, (blk_cell BK326.out 1).trans rfl, (blk_cell BK326.out 2).trans rfl⟩ (fun hHeld => ?_)
                          clear hK K
                          refine norm_ (a' := ?_) ?_ ?_
                          rotate_left
                          · show Act.put _ (some 91) _ = _
                            simp only [Act.put, List.setIfInBounds_toArray, List.set_cons_zero, List.set_cons_succ, i64_w, i32_w]
                            rfl
                          refine one_ (i := 44) (N := some 92) #[true, true, true, true, true, true, true, true, true, true, true, true, true, true, true, true, true, true, true, true, true, true, true, true, true, true, true, true, true, true, true, true, true, true, true, true, true, true, true, true, true, true, true, true, true, false, false, false, false, false, false, false, false, false, false, false, false] rfl rfl (one_of HT_.out (by kernel_rfl)) (by decide) (fun K hK => ?_)
                          refine goes_ Try.func15 (by kernel_rfl) rfl #[.agg #[.int .i64 t339, .int .i64 t340, .string t341]] (by rfl) rfl rfl (by (try simp only [List.map_toArray, List.map_cons, List.map_nil]); first | done | rfl | (simp only [List.length_drop, List.length_take]; rfl)) ?_
                          with_reducible refine (ops_Show.calls k t339 t340 t341 t342 _ A32.out).mono ?_
                          rintro e w89 ⟨rfl, hb⟩
                          refine ⟨_, rfl, ?_⟩
                          have n0_ := Aside0.mk (blk_below (g := gb277) (o := .cells #[.int .i64 t273, .int .i64 t274, .string t275] 23 (0, 0)) (by exact BK277.out) hb)
                          have n1_ := Aside0.mk (blk_below (g := gb288) (o := .cells #[.int .i64 t284, .int .i64 t285, .string t286] 23 (0, 0)) (by exact BK288.out) hb)
                          have n2_ := Aside0.mk (blk_below (g := gb299) (o := .cells #[.int .i64 t295, .int .i64 t296, .string t297] 23 (0, 0)) (by exact BK299.out) hb)
                          have n3_ := Aside0.mk (blk_below (g := gb310) (o := .cells #[.int .i64 t306, .int .i64 t307, .string t308] 23 (0, 0)) (by exact BK310.out) hb)
                          have n4_ := Aside0.mk (blk_below (g := gb321) (o := .cells #[.int .i64 t317, .int .i64 t318, .string t319] 23 (0, 0)) (by exact BK321.out) hb)
                          have n5_ := Aside0.mk (blk_below (g := gb326) (o := .cells #[.int .i64 t322, .int .i64 t323, .string t324] 23 (0, 0)) (by exact BK326.out) hb)
                          have n6_ := Aside0.mk (below_step (by repeat (first | (with_reducible first | exact HB.out | apply below_alloc | apply pw_below_drewN | apply below_drew1 | refine below_set ?_ GE277.out | refine below_set ?_ GE288.out | refine below_set ?_ GE299.out | refine below_set ?_ GE310.out | refine below_set ?_ GE321.out | refine below_set ?_ GE326.out) | exact HB.out)) hb)
                          clear BK277
                          clear BK288
                          clear BK299
                          clear BK310
                          clear BK321
                          clear BK326
                          clear HB
                          have BK277 := n0_
                          have BK288 := n1_
                          have BK299 := n2_
                          have BK310 := n3_
                          have BK321 := n4_
                          have BK326 := n5_
                          have HB := n6_
                          clear n0_ n1_ n2_ n3_ n4_ n5_ n6_
                          (try clear hb)
                          (try clear hb2)
                          (try clear hk)
                          (try clear hi)
                          refine hK.out _ _ ⟨(blk_cell BK277.out 0).trans rfl, (blk_cell BK277.out 1).trans rfl, (blk_cell BK277.out 2).trans rfl, (blk_cell BK288.out 0).trans rfl, (blk_cell BK288.out 1).trans rfl, (blk_cell BK288.out 2).trans rfl, (blk_cell BK299.out 0).trans rfl, (blk_cell BK299.out 1).trans rfl, (blk_cell BK299.out 2).trans rfl, (blk_cell BK326.out 0).trans rfl, (blk_cell BK326.out 1).trans rfl, (blk_cell BK326.out 2).trans rfl⟩ (fun hHeld => ?_)
                          clear hK K
                          refine norm_ (a' := ?_) ?_ ?_
                          rotate_left
                          · show Act.put _ (some 92) _ = _
                            simp only [Act.put, List.setIfInBounds_toArray, List.set_cons_zero, List.set_cons_succ, i64_w, i32_w]
                            rfl
                          refine pure_ (i := 45) (N := some 93) (v := ?_) (a' := ?_) #[true, true, true, true, true, true, true, true, true, true, true, true, true, true, true, true, true, true, true, true, true, true, true, true, true, true, true, true, true, true, true, true, true, true, true, true, true, true, true, true, true, true, true, true, true, true, false, false, false, false, false, false, false, false, false, false, false] rfl rfl (any_of HT_.out (by kernel_rfl)) (fun _ _ _ h => h) (Or.inl ⟨by rfl, ?_⟩) ?_ ?_
                          rotate_left
                          · intro w'
                            go_simp
                            with_reducible rfl
                          rotate_left
                          · simp only [Act.put, List.setIfInBounds_toArray, List.set_cons_zero, List.set_cons_succ, i64_w, i32_w]
                            rfl
                          refine pure_ (i := 46) (N := some 94) (v := ?_) (a' := ?_) #[true, true, true, true, true, true, true, true, true, true, true, true, true, true, true, true, true, true, true, true, true, true, true, true, true, true, true, true, true, true, true, true, true, true, true, true, true, true, true, true, true, true, true, true, true, true, true, false, false, false, false, false, false, false, false, false, false] rfl rfl (any_of HT_.out (by kernel_rfl)) (fun _ _ _ h => h) (Or.inl ⟨by rfl, ?_⟩) ?_ ?_
                          rotate_left
                          · intro w'
                            go_simp
                            with_reducible rfl
                          rotate_left
                          · simp only [Act.put, List.setIfInBounds_toArray, List.set_cons_zero, List.set_cons_succ, i64_w, i32_w]
                            rfl
                          refine pure_ (i := 47) (N := some 95) (v := ?_) (a' := ?_) #[true, true, true, true, true, true, true, true, true, true, true, true, true, true, true, true, true, true, true, true, true, true, true, true, true, true, true, true, true, true, true, true, true, true, true, true, true, true, true, true, true, true, true, true, true, true, true, true, false, false, false, false, false, false, false, false, false] rfl rfl (any_of HT_.out (by kernel_rfl)) (fun _ _ _ h => h) (Or.inl ⟨by rfl, ?_⟩) ?_ ?_
                          rotate_left
                          · intro w'
                            go_simp
                            with_reducible rfl
                          rotate_left
                          · simp only [Act.put, List.setIfInBounds_toArray, List.set_cons_zero, List.set_cons_succ, i64_w, i32_w]
                            rfl
                          refine one_ (i := 48) (N := some 96) #[true, true, true, true, true, true, true, true, true, true, true, true, true, true, true, true, true, true, true, true, true, true, true, true, true, true, true, true, true, true, true, true, true, true, true, true, true, true, true, true, true, true, true, true, true, true, true, true, true, false, false, false, false, false, false, false, false] rfl rfl (one_of HT_.out (by kernel_rfl)) (by decide) (fun K hK => ?_)
                          refine goes_ Try.func12 (by kernel_rfl) rfl #[.string (⟨#[]⟩ : ByteArray)] (by rfl) rfl rfl (by (try simp only [List.map_toArray, List.map_cons, List.map_nil]); first | done | rfl | (simp only [List.length_drop, List.length_take]; rfl)) ?_
                          with_reducible refine (chrysalisref17_Text.calls (⟨#[]⟩ : ByteArray) t343 t344 t345 _ A34.out).mono ?_
                          rintro e w90 ⟨rfl, hb⟩
                          refine ⟨_, rfl, ?_⟩
                          have n0_ := Aside0.mk (blk_below (g := gb277) (o := .cells #[.int .i64 t273, .int .i64 t274, .string t275] 23 (0, 0)) (by exact BK277.out) hb)
                          have n1_ := Aside0.mk (blk_below (g := gb288) (o := .cells #[.int .i64 t284, .int .i64 t285, .string t286] 23 (0, 0)) (by exact BK288.out) hb)
                          have n2_ := Aside0.mk (blk_below (g := gb299) (o := .cells #[.int .i64 t295, .int .i64 t296, .string t297] 23 (0, 0)) (by exact BK299.out) hb)
                          have n3_ := Aside0.mk (blk_below (g := gb310) (o := .cells #[.int .i64 t306, .int .i64 t307, .string t308] 23 (0, 0)) (by exact BK310.out) hb)
                          have n4_ := Aside0.mk (blk_below (g := gb321) (o := .cells #[.int .i64 t317, .int .i64 t318, .string t319] 23 (0, 0)) (by exact BK321.out) hb)
                          have n5_ := Aside0.mk (blk_below (g := gb326) (o := .cells #[.int .i64 t322, .int .i64 t323, .string t324] 23 (0, 0)) (by exact BK326.out) hb)
                          have n6_ := Aside0.mk (below_step (by repeat (first | (with_reducible first | exact HB.out | apply below_alloc | apply pw_below_drewN | apply below_drew1 | refine below_set ?_ GE277.out | refine below_set ?_ GE288.out | refine below_set ?_ GE299.out | refine below_set ?_ GE310.out | refine below_set ?_ GE321.out | refine below_set ?_ GE326.out) | exact HB.out)) hb)
                          clear BK277
                          clear BK288
                          clear BK299
                          clear BK310
                          clear BK321
                          clear BK326
                          clear HB
                          have BK277 := n0_
                          have BK288 := n1_
                          have BK299 := n2_
                          have BK310 := n3_
                          have BK321 := n4_
                          have BK326 := n5_
                          have HB := n6_
                          clear n0_ n1_ n2_ n3_ n4_ n5_ n6_
                          (try clear hb)
                          (try clear hb2)
                          (try clear hk)
                          (try clear hi)
                          refine hK.out _ _ ⟨(blk_cell BK277.out 0).trans rfl, (blk_cell BK277.out 1).trans rfl, (blk_cell BK277.out 2).trans rfl, (blk_cell BK288.out 0).trans rfl, (blk_cell BK288.out 1).trans rfl, (blk_cell BK288.out 2).trans rfl, (blk_cell BK299.out 0).trans rfl, (blk_cell BK299.out 1).trans rfl, (blk_cell BK299.out 2).trans rfl, (blk_cell BK326.out 0).trans rfl, (blk_cell BK326.out 1).trans rfl, (blk_cell BK326.out 2).trans rfl⟩ (fun hHeld => ?_)
                          clear hK K
                          refine norm_ (a' := ?_) ?_ ?_
                          rotate_left
                          · show Act.put _ (some 96) _ = _
                            simp only [Act.put, List.setIfInBounds_toArray, List.set_cons_zero, List.set_cons_succ, i64_w, i32_w]
                            rfl
                          refine one_ (i := 49) (N := some 97) #[true, true, true, true, true, true, true, true, true, true, true, true, true, true, true, true, true, true, true, true, true, true, true, true, true, true, true, true, true, true, true, true, true, true, true, true, true, true, true, true, true, true, true, true, true, true, true, true, true, true, false, false, false, false, false, false, false] rfl rfl (one_of HT_.out (by kernel_rfl)) (by decide) (fun K hK => ?_)
                          refine goes_ Try.func20 (by kernel_rfl) rfl #[.agg #[.int .i64 t343, .int .i64 t344, .string t345]] (by rfl) rfl rfl (by (try simp only [List.map_toArray, List.map_cons, List.map_nil]); first | done | rfl | (simp only [List.length_drop, List.length_take]; rfl)) ?_
                          with_reducible refine (ops_Truth.calls t343 t344 t345 true _ A35.out).mono ?_
                          rintro e w91 ⟨rfl, hb⟩
                          refine ⟨_, rfl, ?_⟩
                          have n0_ := Aside0.mk (blk_below (g := gb277) (o := .cells #[.int .i64 t273, .int .i64 t274, .string t275] 23 (0, 0)) (by exact BK277.out) hb)
                          have n1_ := Aside0.mk (blk_below (g := gb288) (o := .cells #[.int .i64 t284, .int .i64 t285, .string t286] 23 (0, 0)) (by exact BK288.out) hb)
                          have n2_ := Aside0.mk (blk_below (g := gb299) (o := .cells #[.int .i64 t295, .int .i64 t296, .string t297] 23 (0, 0)) (by exact BK299.out) hb)
                          have n3_ := Aside0.mk (blk_below (g := gb310) (o := .cells #[.int .i64 t306, .int .i64 t307, .string t308] 23 (0, 0)) (by exact BK310.out) hb)
                          have n4_ := Aside0.mk (blk_below (g := gb321) (o := .cells #[.int .i64 t317, .int .i64 t318, .string t319] 23 (0, 0)) (by exact BK321.out) hb)
                          have n5_ := Aside0.mk (blk_below (g := gb326) (o := .cells #[.int .i64 t322, .int .i64 t323, .string t324] 23 (0, 0)) (by exact BK326.out) hb)
                          have n6_ := Aside0.mk (below_step (by repeat (first | (with_reducible first | exact HB.out | apply below_alloc | apply pw_below_drewN | apply below_drew1 | refine below_set ?_ GE277.out | refine below_set ?_ GE288.out | refine below_set ?_ GE299.out | refine below_set ?_ GE310.out | refine below_set ?_ GE321.out | refine below_set ?_ GE326.out) | exact HB.out)) hb)
                          clear BK277
                          clear BK288
                          clear BK299
                          clear BK310
                          clear BK321
                          clear BK326
                          clear HB
                          have BK277 := n0_
                          have BK288 := n1_
                          have BK299 := n2_
                          have BK310 := n3_
                          have BK321 := n4_
                          have BK326 := n5_
                          have HB := n6_
                          clear n0_ n1_ n2_ n3_ n4_ n5_ n6_
                          (try clear hb)
                          (try clear hb2)
                          (try clear hk)
                          (try clear hi)
                          refine hK.out _ _ ⟨(blk_cell BK277.out 0).trans rfl, (blk_cell BK277.out 1).trans rfl, (blk_cell BK277.out 2).trans rfl, (blk_cell BK288.out 0).trans rfl, (blk_cell BK288.out 1).trans rfl, (blk_cell BK288.out 2).trans rfl, (blk_cell BK299.out 0).trans rfl, (blk_cell BK299.out 1).trans rfl, (blk_cell BK299.out 2).trans rfl, (blk_cell BK326.out 0).trans rfl, (blk_cell BK326.out 1).trans rfl, (blk_cell BK326.out 2).trans rfl⟩ (fun hHeld => ?_)
                          clear hK K
                          refine norm_ (a' := ?_) ?_ ?_
                          rotate_left
                          · show Act.put _ (some 97) _ = _
                            simp only [Act.put, List.setIfInBounds_toArray, List.set_cons_zero, List.set_cons_succ, i64_w, i32_w]
                            rfl
                          refine pure_ (i := 50) (N := some 98) (v := ?_) (a' := ?_) #[true, true, true, true, true, true, true, true, true, true, true, true, true, true, true, true, true, true, true, true, true, true, true, true, true, true, true, true, true, true, true, true, true, true, true, true, true, true, true, true, true, true, true, true, true, true, true, true, true, true, true, false, false, false, false, false, false] rfl rfl (any_of HT_.out (by kernel_rfl)) (fun _ _ _ h => h) (Or.inl ⟨by rfl, ?_⟩) ?_ ?_
                          rotate_left
                          · intro w'
                            go_simp
                            with_reducible rfl
                          rotate_left
                          · simp only [Act.put, List.setIfInBounds_toArray, List.set_cons_zero, List.set_cons_succ, i64_w, i32_w]
                            rfl
                          refine pure_ (i := 51) (N := some 99) (v := ?_) (a' := ?_) #[true, true, true, true, true, true, true, true, true, true, true, true, true, true, true, true, true, true, true, true, true, true, true, true, true, true, true, true, true, true, true, true, true, true, true, true, true, true, true, true, true, true, true, true, true, true, true, true, true, true, true, true, false, false, false, false, false] rfl rfl (any_of HT_.out (by kernel_rfl)) (fun _ _ _ h => h) (Or.inl ⟨by rfl, ?_⟩) ?_ ?_
                          rotate_left
                          · intro w'
                            go_simp
                            with_reducible rfl
                          rotate_left
                          · simp only [Act.put, List.setIfInBounds_toArray, List.set_cons_zero, List.set_cons_succ, i64_w, i32_w]
                            rfl
                          refine one_ (i := 52) (N := some 100) #[true, true, true, true, true, true, true, true, true, true, true, true, true, true, true, true, true, true, true, true, true, true, true, true, true, true, true, true, true, true, true, true, true, true, true, true, true, true, true, true, true, true, true, true, true, true, true, true, true, true, true, true, true, false, false, false, false] rfl rfl (one_of HT_.out (by kernel_rfl)) (by decide) (fun K hK => ?_)
                          refine goes_ Try.func9 (by kernel_rfl) rfl #[.int .i64 0] (by rfl) rfl rfl (by (try simp only [List.map_toArray, List.map_cons, List.map_nil]); first | done | rfl | (simp only [List.length_drop, List.length_take]; rfl)) ?_
                          with_reducible refine (chrysalisref17_Int.calls 0 t347 t348 t349 _ A37.out).mono ?_
                          rintro e w92 ⟨rfl, hb⟩
                          refine ⟨_, rfl, ?_⟩
                          have n0_ := Aside0.mk (blk_below (g := gb277) (o := .cells #[.int .i64 t273, .int .i64 t274, .string t275] 23 (0, 0)) (by exact BK277.out) hb)
                          have n1_ := Aside0.mk (blk_below (g := gb288) (o := .cells #[.int .i64 t284, .int .i64 t285, .string t286] 23 (0, 0)) (by exact BK288.out) hb)
                          have n2_ := Aside0.mk (blk_below (g := gb299) (o := .cells #[.int .i64 t295, .int .i64 t296, .string t297] 23 (0, 0)) (by exact BK299.out) hb)
                          have n3_ := Aside0.mk (blk_below (g := gb310) (o := .cells #[.int .i64 t306, .int .i64 t307, .string t308] 23 (0, 0)) (by exact BK310.out) hb)
                          have n4_ := Aside0.mk (blk_below (g := gb321) (o := .cells #[.int .i64 t317, .int .i64 t318, .string t319] 23 (0, 0)) (by exact BK321.out) hb)
                          have n5_ := Aside0.mk (blk_below (g := gb326) (o := .cells #[.int .i64 t322, .int .i64 t323, .string t324] 23 (0, 0)) (by exact BK326.out) hb)
                          have n6_ := Aside0.mk (below_step (by repeat (first | (with_reducible first | exact HB.out | apply below_alloc | apply pw_below_drewN | apply below_drew1 | refine below_set ?_ GE277.out | refine below_set ?_ GE288.out | refine below_set ?_ GE299.out | refine below_set ?_ GE310.out | refine below_set ?_ GE321.out | refine below_set ?_ GE326.out) | exact HB.out)) hb)
                          clear BK277
                          clear BK288
                          clear BK299
                          clear BK310
                          clear BK321
                          clear BK326
                          clear HB
                          have BK277 := n0_
                          have BK288 := n1_
                          have BK299 := n2_
                          have BK310 := n3_
                          have BK321 := n4_
                          have BK326 := n5_
                          have HB := n6_
                          clear n0_ n1_ n2_ n3_ n4_ n5_ n6_
                          (try clear hb)
                          (try clear hb2)
                          (try clear hk)
                          (try clear hi)
                          refine hK.out _ _ ⟨(blk_cell BK277.out 0).trans rfl, (blk_cell BK277.out 1).trans rfl, (blk_cell BK277.out 2).trans rfl, (blk_cell BK288.out 0).trans rfl, (blk_cell BK288.out 1).trans rfl, (blk_cell BK288.out 2).trans rfl, (blk_cell BK299.out 0).trans rfl, (blk_cell BK299.out 1).trans rfl, (blk_cell BK299.out 2).trans rfl, (blk_cell BK326.out 0).trans rfl, (blk_cell BK326.out 1).trans rfl, (blk_cell BK326.out 2).trans rfl⟩ (fun hHeld => ?_)
                          clear hK K
                          refine norm_ (a' := ?_) ?_ ?_
                          rotate_left
                          · show Act.put _ (some 100) _ = _
                            simp only [Act.put, List.setIfInBounds_toArray, List.set_cons_zero, List.set_cons_succ, i64_w, i32_w]
                            rfl
                          refine one_ (i := 53) (N := some 101) #[true, true, true, true, true, true, true, true, true, true, true, true, true, true, true, true, true, true, true, true, true, true, true, true, true, true, true, true, true, true, true, true, true, true, true, true, true, true, true, true, true, true, true, true, true, true, true, true, true, true, true, true, true, true, false, false, false] rfl rfl (one_of HT_.out (by kernel_rfl)) (by decide) (fun K hK => ?_)
                          refine goes_ Try.func20 (by kernel_rfl) rfl #[.agg #[.int .i64 t347, .int .i64 t348, .string t349]] (by rfl) rfl rfl (by (try simp only [List.map_toArray, List.map_cons, List.map_nil]); first | done | rfl | (simp only [List.length_drop, List.length_take]; rfl)) ?_
                          with_reducible refine (ops_Truth.calls t347 t348 t349 t350 _ A38.out).mono ?_
                          rintro e w93 ⟨rfl, hb⟩
                          refine ⟨_, rfl, ?_⟩
                          have n0_ := Aside0.mk (blk_below (g := gb277) (o := .cells #[.int .i64 t273, .int .i64 t274, .string t275] 23 (0, 0)) (by exact BK277.out) hb)
                          have n1_ := Aside0.mk (blk_below (g := gb288) (o := .cells #[.int .i64 t284, .int .i64 t285, .string t286] 23 (0, 0)) (by exact BK288.out) hb)
                          have n2_ := Aside0.mk (blk_below (g := gb299) (o := .cells #[.int .i64 t295, .int .i64 t296, .string t297] 23 (0, 0)) (by exact BK299.out) hb)
                          have n3_ := Aside0.mk (blk_below (g := gb310) (o := .cells #[.int .i64 t306, .int .i64 t307, .string t308] 23 (0, 0)) (by exact BK310.out) hb)
                          have n4_ := Aside0.mk (blk_below (g := gb321) (o := .cells #[.int .i64 t317, .int .i64 t318, .string t319] 23 (0, 0)) (by exact BK321.out) hb)
                          have n5_ := Aside0.mk (blk_below (g := gb326) (o := .cells #[.int .i64 t322, .int .i64 t323, .string t324] 23 (0, 0)) (by exact BK326.out) hb)
                          have n6_ := Aside0.mk (below_step (by repeat (first | (with_reducible first | exact HB.out | apply below_alloc | apply pw_below_drewN | apply below_drew1 | refine below_set ?_ GE277.out | refine below_set ?_ GE288.out | refine below_set ?_ GE299.out | refine below_set ?_ GE310.out | refine below_set ?_ GE321.out | refine below_set ?_ GE326.out) | exact HB.out)) hb)
                          clear BK277
                          clear BK288
                          clear BK299
                          clear BK310
                          clear BK321
                          clear BK326
                          clear HB
                          have BK277 := n0_
                          have BK288 := n1_
                          have BK299 := n2_
                          have BK310 := n3_
                          have BK321 := n4_
                          have BK326 := n5_
                          have HB := n6_
                          clear n0_ n1_ n2_ n3_ n4_ n5_ n6_
                          (try clear hb)
                          (try clear hb2)
                          (try clear hk)
                          (try clear hi)
                          refine hK.out _ _ ⟨(blk_cell BK277.out 0).trans rfl, (blk_cell BK277.out 1).trans rfl, (blk_cell BK277.out 2).trans rfl, (blk_cell BK288.out 0).trans rfl, (blk_cell BK288.out 1).trans rfl, (blk_cell BK288.out 2).trans rfl, (blk_cell BK299.out 0).trans rfl, (blk_cell BK299.out 1).trans rfl, (blk_cell BK299.out 2).trans rfl, (blk_cell BK326.out 0).trans rfl, (blk_cell BK326.out 1).trans rfl, (blk_cell BK326.out 2).trans rfl⟩ (fun hHeld => ?_)
                          clear hK K
                          refine norm_ (a' := ?_) ?_ ?_
                          rotate_left
                          · show Act.put _ (some 101) _ = _
                            simp only [Act.put, List.setIfInBounds_toArray, List.set_cons_zero, List.set_cons_succ, i64_w, i32_w]
                            rfl
                          refine pure_ (i := 54) (N := some 102) (v := ?_) (a' := ?_) #[true, true, true, true, true, true, true, true, true, true, true, true, true, true, true, true, true, true, true, true, true, true, true, true, true, true, true, true, true, true, true, true, true, true, true, true, true, true, true, true, true, true, true, true, true, true, true, true, true, true, true, true, true, true, true, false, false] rfl rfl (any_of HT_.out (by kernel_rfl)) (fun _ _ _ h => h) (Or.inl ⟨by rfl, ?_⟩) ?_ ?_
                          rotate_left
                          · intro w'
                            go_simp
                            with_reducible rfl
                          rotate_left
                          · simp only [Act.put, List.setIfInBounds_toArray, List.set_cons_zero, List.set_cons_succ, i64_w, i32_w]
                            rfl
                          refine pure_ (i := 55) (N := some 103) (v := ?_) (a' := ?_) #[true, true, true, true, true, true, true, true, true, true, true, true, true, true, true, true, true, true, true, true, true, true, true, true, true, true, true, true, true, true, true, true, true, true, true, true, true, true, true, true, true, true, true, true, true, true, true, true, true, true, true, true, true, true, true, true, false] rfl rfl (any_of HT_.out (by kernel_rfl)) (fun _ _ _ h => h) (Or.inl ⟨by rfl, ?_⟩) ?_ ?_
                          rotate_left
                          · intro w'
                            go_simp
                            with_reducible rfl
                          rotate_left
                          · simp only [Act.put, List.setIfInBounds_toArray, List.set_cons_zero, List.set_cons_succ, i64_w, i32_w]
                            rfl
                          refine pure_ (i := 56) (N := some 0) (v := ?_) (a' := ?_) #[true, true, true, true, true, true, true, true, true, true, true, true, true, true, true, true, true, true, true, true, true, true, true, true, true, true, true, true, true, true, true, true, true, true, true, true, true, true, true, true, true, true, true, true, true, true, true, true, true, true, true, true, true, true, true, true, true] rfl rfl (any_of HT_.out (by kernel_rfl)) (fun _ _ _ h => h) (Or.inl ⟨by rfl, ?_⟩) ?_ ?_
                          rotate_left
                          · intro w'
                            go_simp
                            with_reducible rfl
                          rotate_left
                          · simp only [Act.put, List.setIfInBounds_toArray, List.set_cons_zero, List.set_cons_succ, i64_w, i32_w]
                            rfl
                          refine done_ (done_of HT_.out (by kernel_rfl)) ?_
                          try go_wp2
                          go_ret
                          exact ⟨by first | rfl | (simp [errW_none, errW_some] <;> rfl) | (simp [*, errW_none, errW_some] <;> rfl), by repeat (first | (with_reducible first | exact HB.out | apply below_alloc | apply pw_below_drewN | apply below_drew1 | refine below_set ?_ GE277.out | refine below_set ?_ GE288.out | refine below_set ?_ GE299.out | refine below_set ?_ GE310.out | refine below_set ?_ GE321.out | refine below_set ?_ GE326.out) | exact HB.out)⟩
                        · replace c36 := Bool.eq_false_iff.mpr c36
                          subst c36
                          have H1 : (some false) = some r := by rw [if_neg (show ¬ (false = true) by decide)] at H; exact H
                          clear H
                          have H := H1
                          clear H1
                          exact absurd ((Option.some.inj H).trans HR.out) (by decide)
                      · rw [if_neg c33] at H
                        have c33b0 : (t342.toList == ([34, 97, 92, 34, 98, 34] : List UInt8)) = false := beq_eq_false_iff_ne.mpr c33
                        have c33b1 : (t342.toList != ([34, 97, 92, 34, 98, 34] : List UInt8)) = true := bne_iff_ne.mpr c33
                        exact absurd ((Option.some.inj H).trans HR.out) (by decide)
                    · rw [if_neg c30] at H
                      have c30b0 : (t325 == 0) = false := beq_eq_false_iff_ne.mpr c30
                      have c30b1 : (t325 != 0) = true := bne_iff_ne.mpr c30
                      exact absurd ((Option.some.inj H).trans HR.out) (by decide)
                  · rw [if_neg c29] at H
                    have c29b0 : (t322 == t336 && (t323 == t337 && (t324.toList == t338.toList))) = false := by simpa using c29
                    (try (have c29b1 : decide (t322 = t336 && (t323 == t337 && (t324.toList == t338.toList))) = false := by simpa using c29))
                    (try (have c29b2 : (t322 == t336 && (t323 == t337 && (t324.toList == t338.toList))) = false := by simpa using c29))
                    (try (have c29b3 : ¬ (t322 = t336 && (t323 == t337 && (t324.toList == t338.toList))) := by simpa using c29))
                    clear c29
                    exact absurd ((Option.some.inj H).trans HR.out) (by decide)
                · rw [if_neg c27] at H
                  have c27b0 : (t320 == 2) = false := beq_eq_false_iff_ne.mpr c27
                  have c27b1 : (t320 != 2) = true := bne_iff_ne.mpr c27
                  exact absurd ((Option.some.inj H).trans HR.out) (by decide)
              · rw [if_neg c26] at H
                have c26b0 : (t309 == 1) = false := beq_eq_false_iff_ne.mpr c26
                have c26b1 : (t309 != 1) = true := bne_iff_ne.mpr c26
                exact absurd ((Option.some.inj H).trans HR.out) (by decide)
            · rw [if_neg c25] at H
              have c25b0 : (t298 == 0) = false := beq_eq_false_iff_ne.mpr c25
              have c25b1 : (t298 != 0) = true := bne_iff_ne.mpr c25
              exact absurd ((Option.some.inj H).trans HR.out) (by decide)
          · rw [if_neg c24] at H
            have c24b0 : (t295 == t333 && (t296 == t334 && (t297.toList == t335.toList))) = false := by simpa using c24
            (try (have c24b1 : decide (t295 = t333 && (t296 == t334 && (t297.toList == t335.toList))) = false := by simpa using c24))
            (try (have c24b2 : (t295 == t333 && (t296 == t334 && (t297.toList == t335.toList))) = false := by simpa using c24))
            (try (have c24b3 : ¬ (t295 = t333 && (t296 == t334 && (t297.toList == t335.toList))) := by simpa using c24))
            clear c24
            exact absurd ((Option.some.inj H).trans HR.out) (by decide)
        · rw [if_neg c22] at H
          have c22b0 : (t287 == 0) = false := beq_eq_false_iff_ne.mpr c22
          have c22b1 : (t287 != 0) = true := bne_iff_ne.mpr c22
          exact absurd ((Option.some.inj H).trans HR.out) (by decide)
      · rw [if_neg c21] at H
        have c21b0 : (t284 == t330 && (t285 == t331 && (t286.toList == t332.toList))) = false := by simpa using c21
        (try (have c21b1 : decide (t284 = t330 && (t285 == t331 && (t286.toList == t332.toList))) = false := by simpa using c21))
        (try (have c21b2 : (t284 == t330 && (t285 == t331 && (t286.toList == t332.toList))) = false := by simpa using c21))
        (try (have c21b3 : ¬ (t284 = t330 && (t285 == t331 && (t286.toList == t332.toList))) := by simpa using c21))
        clear c21
        exact absurd ((Option.some.inj H).trans HR.out) (by decide)
    · rw [if_neg c19] at H
      have c19b0 : (t276 == 0) = false := beq_eq_false_iff_ne.mpr c19
      have c19b1 : (t276 != 0) = true := bne_iff_ne.mpr c19
      exact absurd ((Option.some.inj H).trans HR.out) (by decide)
  · rw [if_neg c18] at H
    have c18b0 : (t273 == t327 && (t274 == t328 && (t275.toList == t329.toList))) = false := by simpa using c18
    (try (have c18b1 : decide (t273 = t327 && (t274 == t328 && (t275.toList == t329.toList))) = false := by simpa using c18))
    (try (have c18b2 : (t273 == t327 && (t274 == t328 && (t275.toList == t329.toList))) = false := by simpa using c18))
    (try (have c18b3 : ¬ (t273 = t327 && (t274 == t328 && (t275.toList == t329.toList))) := by simpa using c18))
    clear c18
    exact absurd ((Option.some.inj H).trans HR.out) (by decide)

end Go.Proofs.Ytmadbfahdnkecaa.Q
