/- Walks over functions of the program, words for them, and what the functions come to; of each text only what this claim uses; no condition. -/
import Derived.Test.YtlenihbmafkegaaZSA0
import Derived.Test.YtlenihbmafkegaaZSA7
import Derived.Test.YtlenihbmafkegaaZSA13
section
set_option linter.unusedVariables false
set_option linter.unusedSimpArgs false
namespace Go.Proofs.Ytlenihbmafkegaa.Lex
open Go Go.RowKit Go.Proofs.YtlenihbmafkegaaW.PrintWords Go.Proofs.Ytlenihbmafkegaa.Q
def nums (l : List UInt8) : List Int := l.map fun c => (c.toNat : Int)
theorem nN (a b : List UInt8) : nums (a ++ b) = nums a ++ nums b := by simp [nums]
theorem nM (a : List UInt8) : (nums a).length = a.length := by simp [nums]
theorem Il (l : List UInt8) : strOfNums (nums l) = S l := by
 apply qH
 rw [Iz, L_S, nums, List.map_map]
 conv => rhs; rw [← List.map_id l]
 apply List.map_congr_left
 intro a _
 simp
theorem inc (i n : Nat) (h : i + 1 ≤ 9223372036854775807) : wrap64 ((i : Int) + 1) = ((i + 1 : Nat) : Int) := by
 rw [w64 _ (by omega)]; omega
/-! Quote -/
theorem Jh (s : ByteArray) (hs : s.size ≤ 140737488351232) : ∀ (m i : Nat) (acc : List UInt8), s.size = m + i → acc.length + 2 * m + 1 < 140737488355328 →
 ag (fun k => bW.l0 k s (nums acc) (s.size : Int) (i : Int)) (S (acc ++ (((L s).drop i).flatMap kZ ++ [34]))) := by
 intro m
 induction m with
 | zero =>
  intro i acc h1 h2
  rw [List.drop_eq_nil_of_le (by rw [← dL]; omega)]
  refine ag.step (G := fun _ => some (S (acc ++ ([].flatMap kZ ++ [34])))) (fun k => ?_) ag.now
  simp only [bW.l0]
  rw [if_neg (by omega), if_pos (by rw [nM]; omega)]
  congr 1
  rw [← Il, nN]; rfl
 | succ m ih =>
  intro i acc h1 h2
  have hd := ku (L s) i (by rw [← dL]; omega)
  have hb := CQ s i
  generalize (L s).getD i 0 = c at hd hb
  have e1 : ((c.toNat : Int) = 10) ↔ c = 10 := jy c 10
  have e2 : ((c.toNat : Int) = 34) ↔ c = 34 := jy c 34
  have e3 : ((c.toNat : Int) = 92) ↔ c = 92 := jy c 92
  rw [hd, List.flatMap_cons]
  have key : ∀ q : List UInt8, kZ c = q → q.length ≤ 2 → (∀ k, bW.l0 (k + 1) s (nums acc) (s.size : Int) (i : Int) = bW.l0 k s (nums (acc ++ q)) (s.size : Int) ((i + 1 : Nat) : Int)) →
   ag (fun k => bW.l0 k s (nums acc) (s.size : Int) (i : Int)) (S (acc ++ (kZ c ++ ((L s).drop (i + 1)).flatMap kZ ++ [34]))) := by
   intro q hq hl hk
   have := ih (i + 1) (acc ++ q) (by omega) Z24
   rw [hq]
   rw [List.append_assoc] at this
   rw [List.append_assoc]
   exact ag.step hk this
  by_cases c1 : c = 10
  ·refine key [92, 110] (by simp [kZ, c1]) (by simp) (fun k => ?_)
   conv => lhs; simp only [bW.l0]
   rw [if_pos (by omega), if_pos (by omega), if_pos (by omega), hb, if_pos (e1.2 c1)]
   simp only [Option.bind_some]
   rw [if_pos (by rw [nM]; simp; omega), inc i 0 (by omega), nN]; rfl
  by_cases c2 : c = 34
  ·refine key [92, 34] (by simp [kZ, c2]) (by simp) (fun k => ?_)
   conv => lhs; simp only [bW.l0]
   rw [if_pos (by omega), if_pos (by omega), if_pos (by omega), hb, if_neg (fun h => c1 (e1.1 h)), if_pos (e2.2 c2)]
   simp only [Option.bind_some]
   rw [if_pos (by rw [nM]; simp; omega), inc i 0 (by omega), nN, c2]; rfl
  by_cases c3 : c = 92
  ·refine key [92, 92] (by simp [kZ, c3]) (by simp) (fun k => ?_)
   conv => lhs; simp only [bW.l0]
   rw [if_pos (by omega), if_pos (by omega), if_pos (by omega), hb, if_neg (fun h => c1 (e1.1 h)), if_neg (fun h => c2 (e2.1 h)), if_pos (e3.2 c3)]
   simp only [Option.bind_some]
   rw [if_pos (by rw [nM]; simp; omega), inc i 0 (by omega), nN, c3]; rfl
  refine key [c] (by simp [kZ, c1, c2, c3]) (by simp) (fun k => ?_)
  conv => lhs; simp only [bW.l0]
  rw [if_pos (by omega), if_pos (by omega), if_pos (by omega), hb, if_neg (fun h => c1 (e1.1 h)), if_neg (fun h => c2 (e2.1 h)), if_neg (fun h => c3 (e3.1 h)), if_pos (by rw [nM]; omega), inc i 0 (by omega), nN]; rfl
theorem Em (s : ByteArray) (hs : s.size ≤ 70368744177000) : ag (fun k => bW.f k s) (S (quo (L s))) := by
 have := Jh s (by omega) s.size 0 [34] (by omega) (by simp; omega)
 simpa [bW.f, quo, nums] using this
/-! quoted -/
theorem AL (c : UInt8) : jD.f (c.toNat : Int) = some (match esc c with | some x => ((x.toNat : Int), true) | none => (0, false)) := by
 have e1 : ((c.toNat : Int) = 110) ↔ c = 110 := jy c 110
 have e2 : ((c.toNat : Int) = 34) ↔ c = 34 := jy c 34
 have e3 : ((c.toNat : Int) = 92) ↔ c = 92 := jy c 92
 unfold jD.f esc
 by_cases c1 : c = 110
 ·rw [if_pos (e1.2 c1), if_pos c1]; rfl
 rw [if_neg (fun h => c1 (e1.1 h)), if_neg c1]
 by_cases c2 : c = 34
 ·rw [if_pos (e2.2 c2), if_pos c2, c2]
 rw [if_neg (fun h => c2 (e2.1 h)), if_neg c2]
 by_cases c3 : c = 92
 ·rw [if_pos (e3.2 c3), if_pos c3, c3]
 rw [if_neg (fun h => c3 (e3.1 h)), if_neg c3]
def kK (size : Nat) (acc : List UInt8) : Option (List UInt8 × List UInt8) → ByteArray × Int
 | some (x, r) => (S (acc ++ x), ((size - r.length : Nat) : Int))
 | none => ((⟨#[]⟩ : ByteArray), 0)
theorem sW (size : Nat) (acc : List UInt8) (c : UInt8) (o : Option (List UInt8 × List UInt8)) : kK size acc (o.map fun r => (c :: r.1, r.2)) = kK size (acc ++ [c]) o := by
 cases o with
 | none => rfl
 | some r => simp [kK]
theorem Gg (s : ByteArray) (hs : s.size ≤ 140737488351232) : ∀ (m i : Nat) (acc : List UInt8) (b : Bool), s.size = m + i → acc.length + m < 140737488355328 →
 ag (fun k => dh.l0 k s (nums acc) b (i : Int)) (kK s.size acc (unq b ((L s).drop i))) := by
 intro m
 induction m with
 | zero =>
  intro i acc b h1 h2
  rw [List.drop_eq_nil_of_le (by rw [← dL]; omega)]
  have : unq b [] = none := by cases b <;> rfl
  rw [this]
  refine ag.step (G := fun _ => some (kK s.size acc none)) (fun k => ?_) ag.now
  simp only [dh.l0]
  rw [if_neg (by omega)]; rfl
 | succ m ih =>
  intro i acc b h1 h2
  have hd := ku (L s) i (by rw [← dL]; omega)
  have hb := CQ s i
  generalize (L s).getD i 0 = c at hd hb
  have e1 : ((c.toNat : Int) = 34) ↔ c = 34 := jy c 34
  have e2 : ((c.toNat : Int) = 10) ↔ c = 10 := jy c 10
  have e3 : ((c.toNat : Int) = 92) ↔ c = 92 := jy c 92
  rw [hd]
  cases b with
  | true =>
   simp only [unq]
   cases he : esc c with
   | none =>
    refine ag.step (G := fun _ => some (kK s.size acc none)) (fun k => ?_) ag.now
    simp only [dh.l0]
    rw [if_pos (by omega), if_pos (by omega), if_pos trivial, hb, AL, he]
    simp only [Option.bind_some]
    rfl
   | some x =>
    simp only [sW]
    refine ag.step (G := fun k => dh.l0 k s (nums (acc ++ [x])) false ((i + 1 : Nat) : Int)) (fun k => ?_) (ih (i + 1) (acc ++ [x]) false (by omega) (by simp; omega))
    conv => lhs; simp only [dh.l0]
    rw [if_pos (by omega), if_pos (by omega), if_pos trivial, hb, AL, he]
    simp only [Option.bind_some]
    rw [if_pos trivial, if_pos (by rw [nM]; omega), inc i 0 (by omega), nN]; rfl
  | false =>
   simp only [unq]
   by_cases c1 : c = 34
   ·rw [if_pos c1]
    refine ag.step (G := fun _ => some (kK s.size acc (some ([], (L s).drop (i + 1))))) (fun k => ?_) ag.now
    simp only [dh.l0]
    rw [if_pos (by omega), if_pos (by omega), if_neg (by simp), hb, if_pos (e1.2 c1), inc i 0 (by omega), Il]
    have : s.size - ((L s).drop (i + 1)).length = i + 1 := by rw [List.length_drop, ← dL]; omega
    simp only [kK, this, List.append_nil]
   rw [if_neg c1]
   by_cases c2 : c = 10
   ·rw [if_pos c2]
    refine ag.step (G := fun _ => some (kK s.size acc none)) (fun k => ?_) ag.now
    simp only [dh.l0]
    rw [if_pos (by omega), if_pos (by omega), if_neg (by simp), hb, if_neg (fun h => c1 (e1.1 h)), if_pos (e2.2 c2)]; rfl
   rw [if_neg c2]
   by_cases c3 : c = 92
   ·rw [if_pos c3]
    refine ag.step (G := fun k => dh.l0 k s (nums acc) true ((i + 1 : Nat) : Int)) (fun k => ?_) (ih (i + 1) acc true (by omega) (by omega))
    conv => lhs; simp only [dh.l0]
    rw [if_pos (by omega), if_pos (by omega), if_neg (by simp), hb, if_neg (fun h => c1 (e1.1 h)), if_neg (fun h => c2 (e2.1 h)), if_pos (e3.2 c3), inc i 0 (by omega)]
   rw [if_neg c3, sW]
   refine ag.step (G := fun k => dh.l0 k s (nums (acc ++ [c])) false ((i + 1 : Nat) : Int)) (fun k => ?_) (ih (i + 1) (acc ++ [c]) false (by omega) (by simp; omega))
   conv => lhs; simp only [dh.l0]
   rw [if_pos (by omega), if_pos (by omega), if_neg (by simp), hb, if_neg (fun h => c1 (e1.1 h)), if_neg (fun h => c2 (e2.1 h)), if_neg (fun h => c3 (e3.1 h)), if_pos (by rw [nM]; omega), inc i 0 (by omega), nN]; rfl
theorem Gh (s : ByteArray) (hs : s.size ≤ 140737488351232) (h1 : 1 ≤ s.size) : ag (fun k => dh.f k s) (kK s.size [] (unq false ((L s).drop 1))) := by
 have := Gg s hs (s.size - 1) 1 [] false (by omega) (by simp; omega)
 simpa [dh.f, nums] using this
/-! number -/
theorem Gu (s : ByteArray) (hs : s.size ≤ 140737488351232) : ∀ (m i : Nat) (n : Int), s.size = m + i → 0 ≤ n →
 ag (fun k => bP.l0 k s n (s.size : Int) (i : Int)) (wrap64 (((L s).drop i).foldl qj n), decide (((L s).drop i).foldl qj n < 9223372036854775808)) := by
 intro m
 induction m with
 | zero =>
  intro i n h1 h2
  rw [List.drop_eq_nil_of_le (by rw [← dL]; omega)]
  refine ag.step (G := fun _ => some (wrap64 n, decide (n < 9223372036854775808))) (fun k => ?_) ag.now
  simp only [bP.l0]
  rw [if_neg (by omega)]
  congr 2
  rw [Bool.eq_iff_iff]
  simp only [beq_iff_eq, decide_eq_true_eq]
  omega
 | succ m ih =>
  intro i n h1 h2
  have hd := ku (L s) i (by rw [← dL]; omega)
  have hb := CQ s i
  generalize (L s).getD i 0 = c at hd hb
  rw [hd, List.foldl_cons]
  refine ag.step (G := fun k => bP.l0 k s (qj n c) (s.size : Int) ((i + 1 : Nat) : Int)) (fun k => ?_) (ih (i + 1) (qj n c) (by omega) (by unfold qj; exact wrap_u64_nonneg _))
  conv => lhs; simp only [bP.l0]
  rw [if_pos (by omega), if_pos (by omega), if_pos (by omega), hb, inc i 0 (by omega)]; rfl
theorem Gv (s : ByteArray) (hs : s.size ≤ 140737488351232) : ag (fun k => bP.f k s) (numOf (L s)) := by
 have hl := Gu s hs s.size 0 0 (by omega) (by omega)
 rw [List.drop_zero] at hl
 have hno : long (L s) = false → ag (fun k => bP.j0 k s false) (numOf (L s)) := by
  intro h
  refine ag.step (G := fun k => bP.l0 k s 0 (s.size : Int) 0) (fun k => ?_) (by unfold numOf; rw [h]; exact hl)
  simp only [bP.j0]
  rw [if_neg (by simp)]
 have hyes : long (L s) = true → ag (fun k => bP.j0 k s true) (numOf (L s)) := by
  intro h
  refine ag.step (G := fun k => some (0, false)) (fun k => ?_) (by unfold numOf; rw [h]; exact ag.now)
  simp only [bP.j0]
  rw [if_pos trivial]
 unfold bP.f
 by_cases h : (s.size : Int) > 19
 ·refine ag.pos h (hyes ?_)
  unfold long
  rw [show decide (19 < (L s).length) = true from decide_eq_true (by rw [← dL]; omega)]; rfl
 refine ag.neg h ?_
 have d1 : decide (19 < (L s).length) = false := decide_eq_false (by rw [← dL]; omega)
 by_cases h2 : (s.size : Int) > 1
 ·refine ag.pos h2 (ag.pos (by omega) ?_)
  have d2 : decide (1 < (L s).length) = true := decide_eq_true (by rw [← dL]; omega)
  have d3 : (bt s 0 == 48) = ((L s).head? == some 48) := by
   rcases hl2 : L s with _ | ⟨c, t⟩
   ·rw [dL, hl2] at h2; simp at h2
   rw [bt0 s c t hl2]
   have e1 : ((c.toNat : Int) = 48) ↔ c = 48 := jy c 48
   rw [Bool.eq_iff_iff]
   simp only [List.head?_cons, beq_iff_eq, Option.some.injEq, ← e1]
  rw [d3]
  cases h4 : ((L s).head? == some 48) with
  | true => exact hyes (by unfold long; rw [d1, d2, h4]; rfl)
  | false => exact hno (by unfold long; rw [d1, d2, h4]; rfl)
 refine ag.neg h2 (hno ?_)
 unfold long
 rw [d1, show decide (1 < (L s).length) = false from decide_eq_false (by rw [← dL]; omega)]; rfl
end Go.Proofs.Ytlenihbmafkegaa.Lex
end
section
set_option linter.unusedVariables false
set_option linter.unusedSimpArgs false
namespace Go.Proofs.Ytlenihbmafkegaa.Lex
open Go Go.RowKit Go.Proofs.YtlenihbmafkegaaW.PrintWords Go.Proofs.Ytlenihbmafkegaa.Q
def PB : ByteArray := ⟨#[61, 61, 32, 33, 61, 32, 60, 61, 32, 46, 46, 32]⟩
def SB : ByteArray := ⟨#[40, 41, 123, 125, 91, 93, 44, 59, 46, 47, 61, 60, 43, 45, 42, 37]⟩
theorem Aj (c : UInt8) : ∀ l : List UInt8, lF [c] l = l.contains c
 | [] => rfl
 | d :: t => by
  rw [lF, Aj c t, List.contains_cons, List.isPrefixOf_cons_cons]
  simp [List.isPrefixOf]
theorem ES (c d : UInt8) : lF [c, d, 32] (L PB) = PAIRS.contains [c, d] := by
 show lF [c, d, 32] [61, 61, 32, 33, 61, 32, 60, 61, 32, 46, 46, 32] = _
 simp only [lF, List.isPrefixOf, PAIRS, List.contains_cons, List.contains_nil]
 rw [Bool.eq_iff_iff]
 simp
theorem take1 (s : ByteArray) : L (s.extract 0 1) = (L s).take 1 := by rw [ny]; rfl
theorem take2 (s : ByteArray) : L (s.extract 0 2) = (L s).take 2 := by rw [ny]; rfl
theorem Lt (s : ByteArray) (hs : s.size ≤ 140737488351232) (h1 : 1 ≤ s.size) : ag (fun k => ed.f k s) (S (mark (L s))) := by
 rcases hl : L s with _ | ⟨c, t⟩
 ·rw [dL, hl] at h1; simp at h1
 have hno : PAIRS.contains ((L s).take 2) = false → ag (fun k => ed.j0 k s false) (S (mark (c :: t))) := by
  intro h
  have hw := vJ SB (s.extract 0 1) (by rw [dL, take1, hl]; simp) (by
   have e1 : (s.extract 0 1).size = 1 := by rw [dL, take1, hl]; simp
   have e2 : SB.size = 16 := rfl
   rw [e1, e2]; omega)
  rw [take1, hl] at hw
  have e : lF [c] (L SB) = lU.contains c := Aj c _
  rw [show List.take 1 (c :: t) = [c] from rfl, e] at hw
  refine ag.step (G := fun k => (df.f k SB (s.extract 0 1)).bind fun t118 => (if t118 = true then (some (s.extract 0 1)) else (some (⟨#[]⟩ : ByteArray)))) (fun k => ?_) (ag.bind (G := fun _ t118 => (if t118 = true then (some (s.extract 0 1)) else (some (⟨#[]⟩ : ByteArray)))) hw ?_)
  ·conv => lhs; simp only [ed.j0]
   rw [if_neg (by simp), if_pos (by omega), if_pos (by omega)]; rfl
  unfold mark
  rw [← hl, h]
  rw [hl]
  simp only [Bool.false_eq_true, if_false]
  by_cases hc : lU.contains c = true
  ·refine ag.kG (fun k => ?_)
   rw [if_pos hc, if_pos hc]
   congr 1
   apply qH
   rw [take1, hl]; rfl
  refine ag.kG (fun k => ?_)
  rw [if_neg hc, if_neg hc]; rfl
 unfold ed.f
 by_cases h : (s.size : Int) > 1
 ·obtain ⟨d, u, rfl⟩ : ∃ d u, t = d :: u := by
   cases t with
   | nil => rw [dL, hl] at h; simp at h
   | cons d u => exact ⟨d, u, rfl⟩
  have e1 : (s.extract 0 2).size = 2 := by rw [dL, take2, hl]; simp
  refine ag.pos h (ag.pos (by omega) (ag.pos (by omega) (ag.pos (by rw [e1]; omega) ?_)))
  have hw := vJ PB ((s.extract 0 2) ++ (⟨#[32]⟩ : ByteArray)) (by rw [ByteArray.size_append, e1]; omega) (by
   have e2 : PB.size = 12 := rfl
   have e3 : (⟨#[32]⟩ : ByteArray).size = 1 := rfl
   rw [ByteArray.size_append, e1, e2, e3]; omega)
  rw [oL, take2, hl] at hw
  have e : lF [c, d, 32] (L PB) = PAIRS.contains [c, d] := ES c d
  rw [show List.take 2 (c :: d :: u) ++ L (⟨#[32]⟩ : ByteArray) = [c, d, 32] from rfl, e] at hw
  refine ag.bind (G := fun k t117 => (if t117 = true then (if 1 < (s.size : Int) then (ed.j0 k s ((bt s 1) != 32)) else (none)) else (ed.j0 k s false))) hw ?_
  cases hp : PAIRS.contains [c, d] with
  | false =>
   refine ag.neg (by simp) (hno ?_)
   rw [hl]; exact hp
  | true =>
   refine ag.pos rfl (ag.pos (by omega) ?_)
   have hd : d ≠ 32 := by
    rintro rfl
    simp [PAIRS] at hp
   have hb : (bt s 1 != 32) = true := by
    have := CQ s 1
    rw [hl] at this
    simp only [List.getD_cons_succ, List.getD_cons_zero] at this
    have e1 : ((d.toNat : Int) = 32) ↔ d = 32 := jy d 32
    rw [bne_iff_ne]
    intro q
    apply hd
    rw [← e1, ← this]
    exact q
   rw [hb]
   refine ag.step (G := fun _ => some (s.extract 0 2)) (fun k => ?_) ?_
   ·conv => lhs; simp only [ed.j0]
    rw [if_pos trivial, if_pos (by omega), if_pos (by omega)]
   have : S (mark (c :: d :: u)) = s.extract 0 2 := by
    apply qH
    rw [take2, hl, L_S]
    unfold mark
    rw [show List.take 2 (c :: d :: u) = [c, d] from rfl, hp]; rfl
   rw [this]
   exact ag.now
 refine ag.neg h (hno ?_)
 have : t = [] := by
  cases t with
  | nil => rfl
  | cons d u => rw [dL, hl] at h; simp at h; omega
 subst this
 rw [hl]
 simp [PAIRS]
/-! next -/
def BL : Except Int (Int × List UInt8 × Int × Nat) → Int × ByteArray × Int × Int × Int × Int
 | .ok (k, x, n, m) => (k, S x, n, 0, (m : Int), 0)
 | .error e => (0, (⟨#[]⟩ : ByteArray), 0, 0, 0, e)
theorem Ap (s : ByteArray) : jZ.f s = some (S ((L s).takeWhile inn)) := by
 unfold jZ.f
 rw [← wK lD inn wJ, S_L]
theorem Aq (s : ByteArray) : mW.f s = some (S ((L s).takeWhile di)) := by
 unfold mW.f
 rw [← wK kP di xR, S_L]
theorem fC (l : List UInt8) : (S l).size = l.length := by rw [dL, L_S]
theorem ry {α : Type} (q : α → Bool) (l : List α) : (l.takeWhile q).all q = true := by
 induction l with
 | nil => rfl
 | cons a t ih =>
  rw [List.takeWhile_cons]
  split
  ·rename_i h
   simp only [List.all_cons, h, ih, Bool.and_self]
  rfl
theorem Nw (c : UInt8) : wrap32 (c.toNat : Int) = (c.toNat : Int) := IntWalk.wrap32_in _ (by have := c.toNat_lt; omega)
theorem Me (s : ByteArray) (hs : s.size ≤ 140737488351232) (h1 : 1 ≤ s.size) : ag (fun k => iH.f k s) (BL (Lex.one (L s))) := by
 rcases hl : L s with _ | ⟨c, t⟩
 ·rw [dL, hl] at h1; simp at h1
 have hlen : (c :: t).length ≤ 140737488351232 := by rw [← hl, ← dL]; exact hs
 unfold iH.f
 refine ag.pos (by omega) ?_
 simp only [bt0 s c t hl, Nw, Ad, JL, Option.bind_some]
 simp only [Lex.one]
 by_cases c1 : le c = true
 ·refine ag.pos c1 ?_
  simp only [Ap, Option.bind_some, hl]
  simp only [c1, if_true]
  have hw : (S ((c :: t).takeWhile inn)).size ≤ 140737488351232 := by
   rw [fC]
   have := jK inn (c :: t)
   omega
  have hword : isWord ((c :: t).takeWhile inn) = true := by
   have hi : inn c = true := by simp [inn, c1]
   rw [List.takeWhile_cons, if_pos hi]
   simp only [isWord, c1, Bool.true_and, List.all_cons, hi]
   exact ry inn t
  refine ag.bind (G := fun k t122 => (if t122 = true then (some (5, S ((c :: t).takeWhile inn), 0, 0, ((S ((c :: t).takeWhile inn)).size : Int), 0)) else ((eP.f k (S ((c :: t).takeWhile inn))).bind fun t123 => (if t123 = true then (some (1, S ((c :: t).takeWhile inn), 0, 0, ((S ((c :: t).takeWhile inn)).size : Int), 0)) else (some (0, (⟨#[]⟩ : ByteArray), 0, 0, 0, 10)))))) (I8 _ hw) ?_
  rw [L_S]
  by_cases c2 : isKey ((c :: t).takeWhile inn) = true
  ·refine ag.pos c2 ?_
   rw [if_pos c2]
   simp only [BL, fC]
   exact ag.now
  refine ag.neg c2 ?_
  rw [if_neg c2]
  refine ag.bind (G := fun k t123 => (if t123 = true then (some (1, S ((c :: t).takeWhile inn), 0, 0, ((S ((c :: t).takeWhile inn)).size : Int), 0)) else (some (0, (⟨#[]⟩ : ByteArray), 0, 0, 0, 10)))) (zu _ hw) ?_
  rw [L_S]
  have hn : dS ((c :: t).takeWhile inn) = decide (((c :: t).takeWhile inn).length ≤ 16) := by
   unfold dS
   rw [hword, show isKey ((c :: t).takeWhile inn) = false by simpa using c2]
   simp
  rw [hn]
  by_cases c3 : ((c :: t).takeWhile inn).length ≤ 16
  ·refine ag.pos (decide_eq_true c3) ?_
   rw [if_pos c3]
   simp only [BL, fC]
   exact ag.now
  refine ag.neg (by simpa using c3) ?_
  rw [if_neg c3]
  exact ag.now
 refine ag.neg c1 ?_
 rw [if_neg c1]
 by_cases c2 : di c = true
 ·refine ag.pos c2 ?_
  rw [if_pos c2]
  simp only [Aq, Option.bind_some, hl]
  have hw : (S ((c :: t).takeWhile di)).size ≤ 140737488351232 := by
   rw [fC]
   have := jK di (c :: t)
   omega
  refine ag.bind (G := fun k (bt126 : Int × Bool) => (if bt126.2 = true then (some ((2 : Int), S ((c :: t).takeWhile di), bt126.1, 0, ((S ((c :: t).takeWhile di)).size : Int), 0)) else (some (0, (⟨#[]⟩ : ByteArray), 0, 0, 0, 10)))) (Gv _ hw) ?_
  rw [L_S]
  by_cases c3 : (numOf ((c :: t).takeWhile di)).2 = true
  ·refine ag.pos c3 ?_
   rw [if_pos c3]
   simp only [BL, fC]
   exact ag.now
  refine ag.neg c3 ?_
  rw [if_neg c3]
  exact ag.now
 refine ag.neg c2 ?_
 rw [if_neg c2]
 have e1 : ((c.toNat : Int) = 34) ↔ c = 34 := jy c 34
 by_cases c3 : c = 34
 ·refine ag.pos (e1.2 c3) ?_
  rw [if_pos c3]
  refine ag.bind (G := fun k (bt128 : ByteArray × Int) => (if bt128.2 > 0 then (some (3, bt128.1, 0, 0, bt128.2, 0)) else (some (0, (⟨#[]⟩ : ByteArray), 0, 0, 0, 10)))) (Gh s hs h1) ?_
  rw [hl]
  simp only [List.drop_succ_cons, List.drop_zero]
  cases hu : unq false t with
  | none =>
   refine ag.neg (by simp [kK]) ?_
   exact ag.now
  | some r =>
   obtain ⟨x, r⟩ := r
   have := sD t false x r hu
   have hz : s.size = t.length + 1 := by rw [dL, hl]; rfl
   simp only [kK, List.nil_append]
   refine ag.pos (by omega) ?_
   rw [hz]
   exact ag.now
 refine ag.neg (fun h => c3 (e1.1 h)) ?_
 rw [if_neg c3]
 refine ag.bind (G := fun k (t130 : ByteArray) => (if t130.toList = ([] : List UInt8) then (some (0, (⟨#[]⟩ : ByteArray), 0, 0, 0, 9)) else (some (4, t130, 0, 0, (t130.size : Int), 0)))) (Lt s hs h1) ?_
 rw [hl]
 by_cases c4 : mark (c :: t) = []
 ·refine ag.pos (by rw [isE, L_S]; exact c4) ?_
  simp only [if_pos c4]
  exact ag.now
 refine ag.neg (by rw [isE, L_S]; exact c4) ?_
 simp only [if_neg c4, BL, fC]
 exact ag.now
/-! Scan -/
def tkS (total : Nat) (t : Tk) : S56 := ⟨t.kind, S t.text, t.n, ((total - t.rem : Nat) : Int)⟩
def xE (total : Nat) (acc : List S56) : Except (Int × Nat) (List Tk) → List S56 × Int × Int
 | .ok ts => (acc ++ ts.map (tkS total), 0, 0)
 | .error (e, r) => ([], e, ((total - r : Nat) : Int))
theorem uO {l : List UInt8} {e : Int} (h : Lex.one l = .error e) (hl : l ≠ []) : e ≠ 0 := by
 unfold Lex.one at h
 split at h
 ·exact absurd rfl hl
 simp only [] at h
 repeat' split at h
 all_goals cases h
 all_goals decide
theorem L8 (x0 : ByteArray) (h0 : x0.size ≤ 8192) : ∀ (f : Nat) (s : ByteArray) (acc : List S56), s.size < f → s.size ≤ x0.size → acc.length + s.size ≤ x0.size →
 ag (fun k => dI.l0 k x0 acc s) (xE x0.size acc (toks f (L s))) := by
 intro f
 induction f with
 | zero => intro s acc h; omega
 | succ f ih =>
  intro s acc h1 h2 h3
  rcases hl : L s with _ | ⟨c, t⟩
  ·refine ag.step (G := fun _ => some (xE x0.size acc (toks (f + 1) []))) (fun k => ?_) ag.now
   simp only [dI.l0]
   rw [if_pos (by rw [isE]; exact hl)]
   simp [toks, xE]
  have hsz : s.size = t.length + 1 := by rw [dL, hl]; rfl
  have hn := Me s (by omega) (by omega)
  refine ag.step (fun k => by
   conv => lhs; simp only [dI.l0]
   rw [if_neg (by rw [isE, hl]; simp)]) (ag.bind hn ?_)
  rw [hl]
  simp only [toks]
  cases ho : Lex.one (c :: t) with
  | error e =>
   simp only [BL]
   refine ag.neg (uO ho (by simp)) ?_
   refine ag.kG (fun k => ?_)
   rw [w64 _ (by omega)]
   simp only [xE, List.length_cons]
   congr 3
   omega
  | ok r =>
   obtain ⟨kd, x, n, m⟩ := r
   have hm := uY ho
   simp only [List.length_cons] at hm
   simp only [BL]
   refine ag.pos trivial (ag.pos (by omega) (ag.pos (by omega) (ag.pos (by omega) ?_)))
   simp only [mO.f, Option.bind_some]
   have e1 : L (nJ (s.extract (m : Int).toNat s.size)) = skp false ((c :: t).drop m) := by
    rw [vY, ny, hl, Int.toNat_natCast, List.take_of_length_le]
    rw [List.length_drop, hsz]; simp
   have e2 : (nJ (s.extract (m : Int).toNat s.size)).size ≤ s.size - m := by
    rw [dL, e1]
    have := nY ((c :: t).drop m) false
    rw [List.length_drop] at this
    simp only [List.length_cons] at this
    omega
   have := ih (nJ (s.extract (m : Int).toNat s.size)) (acc ++ [(⟨kd, S x, n, wrap64 ((x0.size : Int) - (s.size : Int))⟩ : S56)]) (by omega) (by omega) Z16
   rw [e1] at this
   have e4 : wrap64 ((x0.size : Int) - (s.size : Int)) = ((x0.size - (c :: t).length : Nat) : Int) := by
    rw [w64 _ (by omega)]
    simp only [List.length_cons]
    omega
   rw [e4] at this ⊢
   generalize toks f (skp false ((c :: t).drop m)) = o at this ⊢
   cases o with
   | error e => exact this
   | ok ts => simpa only [xE, List.map_cons, tkS, List.append_assoc, List.singleton_append] using this
/-- What Scan answers. -/
def yw (s : ByteArray) : List S56 × Int × Int := if s.size ≤ 8192 then xE s.size [] (Lex.scan (L s)) else ([], 3, 0)
theorem Ik (s : ByteArray) : ag (fun k => dI.f k s) (yw s) := by
 unfold dI.f yw
 by_cases h : s.size ≤ 8192
 ·refine ag.neg (by omega) ?_
  rw [if_pos h]
  simp only [mO.f, Option.bind_some]
  have hl := nY (L s) false
  have e : (nJ s).size ≤ s.size := by rw [dL, vY, dL]; exact hl
  have := L8 s h (s.size + 1) (nJ s) [] (by omega) e (by simpa using e)
  rw [vY] at this
  unfold Lex.scan
  rw [← dL]
  exact this
 refine ag.pos (by omega) ?_
 rw [if_neg h]
 exact ag.now
end Go.Proofs.Ytlenihbmafkegaa.Lex
end
section
set_option linter.unusedVariables false
set_option linter.unusedSimpArgs false
namespace Go.Proofs.Ytlenihbmafkegaa.Show
open Go Go.RowKit Go.Proofs.YtlenihbmafkegaaW.PrintWords Go.Proofs.Ytlenihbmafkegaa.Q Go.Proofs.Ytlenihbmafkegaa.Lex Go.Proofs.Ytlenihbmafkegaa.Tree Go.Proofs.Ytlenihbmafkegaa.Par
theorem MJ (s : ByteArray) (hs : s.size ≤ 100000) : ag (fun k => oD k s) (if isKey (L s) then 5 else if dS (L s) then 1 else 4) := by
 unfold oD
 refine ag.bind (I8 s (by omega)) ?_
 cases isKey (L s)
 ·refine ag.neg (by simp) (ag.bind (zu s (by omega)) ?_)
  cases dS (L s)
  ·exact ag.neg (by simp) ag.now
  exact ag.pos rfl ag.now
 exact ag.pos rfl ag.now
theorem lV : ∀ (ws : List ByteArray) (out : List S56), (∀ s ∈ ws, s.size ≤ 100000) → out.length + ws.length ≤ 3000000000000 → ag (fun k => fD k ws out) (out ++ ws.map ofT)
 | [], out, _, _ => by simpa [fD] using (ag.now (v := out))
 | s :: ws, out, h, hl => by
  simp only [List.length_cons] at hl
  have h2 := lV ws (out ++ [ofT s]) (fun x hx => h x (.tail _ hx)) (by simp; omega)
  rw [show out ++ (s :: ws).map ofT = out ++ [ofT s] ++ ws.map ofT by simp]
  refine ag.bind (MJ s (h s (.head _))) (ag.pos (by omega) ?_)
  exact h2
/-- What stands at a place is written as these tokens. -/
def EvP (l : List S40) (q : Int) (t : List S56) : Prop := ∀ out : List S56, out.length + t.length ≤ 3000000000000 → ag (fun k => lG k l q out) (out ++ t)
theorem W_E (l : List UInt8) (out : List S56) (hl : l.length ≤ 100000) (h : out.length + 1 ≤ 3000000000000) : ag (fun k => fD k [S l] out) (out ++ [W l]) := lV [S l] out (fun s hs => by rw [List.mem_singleton.1 hs]; rw [fC]; exact hl) (by simpa using h)
theorem nT {l : List S40} {q : Int} {t : List S56} (ht : EvP l q t) (ws : List ByteArray) (out : List S56) (hw : ∀ s ∈ ws, s.size ≤ 100000) (h : out.length + ws.length + t.length + 1 ≤ 3000000000000) : ag (fun k => ig (lG k) k l q ws out) (out ++ (ws.map ofT ++ t ++ [W [59]])) := by
 unfold ig
 refine ag.bind (lV ws out hw (by omega)) (ag.bind (ht _ (by simp; omega)) (ag.bind (W_E [59] _ (by decide) (by simp; omega)) ?_))
 rw [show out ++ (ws.map ofT ++ t ++ [W [59]]) = out ++ ws.map ofT ++ t ++ [W [59]] by simp]
 exact ag.now
theorem DI {l : List S40} {q q2 : Int} {t t2 : List S56} (ht : EvP l q t) (ht2 : EvP l q2 t2) (out : List S56) (h : out.length + t.length + t2.length + 2 ≤ 3000000000000) : ag (fun k => mD (lG k) k l q q2 out) (out ++ (t ++ [W [91]] ++ t2 ++ [W [93]])) := by
 unfold mD
 refine ag.bind (ht _ (by omega)) (ag.bind (W_E [91] _ (by decide) (by simp; omega)) (ag.bind (ht2 _ (by simp; omega)) (ag.bind (W_E [93] _ (by decide) (by simp; omega)) ?_)))
 rw [show out ++ (t ++ [W [91]] ++ t2 ++ [W [93]]) = out ++ t ++ [W [91]] ++ t2 ++ [W [93]] by simp]
 exact ag.now
inductive EvL (l : List S40) : List Int → List (List S56) → Prop
 | nil : EvL l [] []
 | cons {q t qs ts} (h : EvP l q t) (r : EvL l qs ts) : EvL l (q :: qs) (t :: ts)
theorem EvL.len {l qs ts} (h : EvL l qs ts) : qs.length = ts.length := by
 induction h with
 | nil => rfl
 | cons h r ih => simp [ih]
theorem BB {l : List S40} : ∀ {qs ts}, EvL l qs ts → ∀ out : List S56, out.length + ts.flatten.length ≤ 3000000000000 → ∀ f, ag (fun k => jW (lG k) k l false f qs out) (out ++ ts.flatten)
 | _, _, .nil, out, _, f => by simpa [jW] using (ag.now (v := out))
 | _, _, .cons (t := t) (ts := ts) h r, out, hl, f => by
  simp only [List.flatten_cons, List.length_append] at hl
  simp only [jW, Bool.false_eq_true, false_and, if_false, Option.bind_some]
  refine ag.bind (h out (by omega)) ?_
  rw [show out ++ (t :: ts).flatten = out ++ t ++ ts.flatten by simp]
  exact BB r (out ++ t) Z24 false
def tZ (ts : List (List S56)) : List S56 := ts.flatMap fun t => W [44] :: t
theorem uX (a : List S56) : ∀ ts, pW (a :: ts) = a ++ tZ ts
 | [] => by simp [pW, tZ]
 | b :: ts => by rw [pW, uX b ts]; simp [tZ]
theorem KO {l : List S40} : ∀ {qs ts}, EvL l qs ts → ∀ out : List S56, out.length + (tZ ts).length ≤ 3000000000000 → ag (fun k => jW (lG k) k l true false qs out) (out ++ tZ ts)
 | _, _, .nil, out, _ => by simpa [jW, tZ] using (ag.now (v := out))
 | _, _, .cons (t := t) (ts := ts) h r, out, hl => by
  simp only [tZ, List.flatMap_cons, List.length_append, List.length_cons] at hl
  simp only [jW, and_self, if_true]
  refine ag.bind (W_E [44] out (by decide) (by omega)) (ag.bind (h _ (by simp; omega)) ?_)
  rw [show out ++ tZ (t :: ts) = out ++ [W [44]] ++ t ++ tZ ts by simp [tZ]]
  exact KO r _ (by simp only [tZ, List.length_append, List.length_cons, List.length_nil]; omega)
theorem NH {l : List S40} {qs ts} (h : EvL l qs ts) (out : List S56) (hl : out.length + (pW ts).length ≤ 3000000000000) : ag (fun k => jW (lG k) k l true true qs out) (out ++ pW ts) := by
 cases h with
 | nil => simpa [jW, pW] using (ag.now (v := out))
 | cons h r =>
  rename_i q t qs ts
  rw [uX] at hl ⊢
  simp only [List.length_append] at hl
  simp only [jW, Bool.true_eq_false, and_false, if_false, Option.bind_some]
  refine ag.bind (h out (by omega)) ?_
  rw [← List.append_assoc]
  exact KO r _ (by simp; omega)
theorem FX {l : List S40} {qs ts} (h : EvL l qs ts) (out : List S56) (hl : out.length + (rowT ts).length ≤ 3000000000000) : ag (fun k => rJ (lG k) k l qs out) (out ++ rowT ts) := by
 simp only [rowT, List.length_cons, List.length_append, List.length_nil] at hl
 unfold rJ
 refine ag.bind (W_E [40] out (by decide) (by omega)) (ag.bind (NH h _ (by simp; omega)) (ag.bind (W_E [41] _ (by decide) (by simp; omega)) ?_))
 rw [show out ++ rowT ts = out ++ [W [40]] ++ pW ts ++ [W [41]] by simp [rowT]]
 exact ag.now
theorem EvL.snoc {l : List S40} : ∀ {qs ts}, EvL l qs ts → 0 < qs.length → EvP l (qs.getD (qs.length - 1) 0) (ts.getLastD []) ∧ EvL l (qs.take (qs.length - 1)) ts.dropLast
 | _, _, .cons (qs := []) (ts := _) h .nil, _ => ⟨by simpa using h, by simpa using EvL.nil⟩
 | _, _, .cons (q := q) (t := t) (qs := q2 :: qs) (ts := t2 :: ts) h r, _ => by
  obtain ⟨h1, h2⟩ := EvL.snoc r (by simp)
  refine ⟨?_, ?_⟩
  ·simpa using h1
  simpa using EvL.cons h h2
theorem pg {l : List S40} {qs ts} (h : EvL l qs ts) (h0 : 0 < qs.length) (out : List S56) (hl : out.length + (qU ts).length ≤ 3000000000000) : ag (fun k => iQ (lG k) k l qs out) (out ++ qU ts) := by
 simp only [qU, List.length_append] at hl
 obtain ⟨h1, h2⟩ := h.snoc h0
 unfold iQ
 refine ag.pos h0 (ag.bind (FX h2 out (by omega)) (ag.bind (h1 _ Z24) ?_))
 rw [show out ++ qU ts = out ++ rowT ts.dropLast ++ ts.getLastD [] by simp [qU]]
 exact ag.now
/-- A number's digits, twice. -/
theorem AQ : ∀ (f u : Nat) (acc : List Int), u < 10 ^ f → Go.Proofs.Ytlenihbmafkegaa.rU f u acc = (if u = 0 ∧ f = 0 then [] else (dig u).map (fun c => (c.toNat : Int))) ++ acc
 | 0, u, acc, h => by
  have : u = 0 := by simpa using h
  simp [Go.Proofs.Ytlenihbmafkegaa.rU, this]
 | f + 1, u, acc, h => by
  rw [Go.Proofs.Ytlenihbmafkegaa.rU]
  by_cases c : u / 10 = 0
  ·rw [if_pos c, dig, dif_pos (by omega), if_neg (by simp)]
   have : (UInt8.ofNat (48 + u)).toNat = 48 + u := by rw [UInt8.toNat_ofNat']; omega
   simp only [List.map_cons, List.map_nil, this, List.cons_append, List.nil_append]
   rw [show (48 + (u : Int) % 10) = ((48 + u : Nat) : Int) by omega]
  rw [if_neg c, AQ f (u / 10) _ (by rw [Nat.pow_succ] at h; omega), if_neg (by omega), if_neg (by simp)]
  rw [dig.eq_def u, dif_neg (by omega)]
  have : (UInt8.ofNat (48 + u % 10)).toNat = 48 + u % 10 := by rw [UInt8.toNat_ofNat']; omega
  simp only [List.map_append, List.map_cons, List.map_nil, this, List.append_assoc, List.cons_append, List.nil_append]
  rw [show (48 + (u : Int) % 10) = ((48 + u % 10 : Nat) : Int) by omega]
theorem Ew (l : List UInt8) : strOfNums (l.map fun c => (c.toNat : Int)) = S l := by
 apply qH
 rw [L_S]
 simp [strOfNums, L, Function.comp_def]
theorem MZ (n : Int) (h0 : 0 ≤ n) (h1 : n ≤ 9223372036854775807) : JM n = S (dig n.toNat) := by
 unfold JM
 rw [AQ 20 n.natAbs [] (by omega), if_neg (by simp), List.append_nil, Ew, show n.natAbs = n.toNat by omega]
theorem Gw (n : Int) (out : List S56) (h0 : 0 ≤ n) (h1 : n ≤ 9223372036854775807) (hl : out.length + 1 ≤ 3000000000000) : ag (fun _ => BM n out) (out ++ [oQ n]) := by
 unfold BM
 rw [if_pos ⟨h0, h1, hl⟩, MZ n h0 h1]
 exact ag.now
end Go.Proofs.Ytlenihbmafkegaa.Show
end
section
set_option linter.unusedVariables false
set_option linter.unusedSimpArgs false
namespace Go.Proofs.Ytlenihbmafkegaa.Show
open Go Go.RowKit Go.Proofs.YtlenihbmafkegaaW.PrintWords Go.Proofs.Ytlenihbmafkegaa.Q Go.Proofs.Ytlenihbmafkegaa.Lex Go.Proofs.Ytlenihbmafkegaa.Tree Go.Proofs.Ytlenihbmafkegaa.Par
theorem bs {α : Type} {F : Nat → Option α} {v : α} (h : ag F v) : ag (fun k => (F k).bind some) v := ag.bind h ag.now
theorem EvL.no {l qs ts} (h : EvL l qs ts) (h1 : qs.length = 0) : qs = [] ∧ ts = [] := by
 cases h with
 | nil => exact ⟨rfl, rfl⟩
 | cons h r => simp at h1
theorem EvL.one {l qs ts} (h : EvL l qs ts) (h1 : qs.length = 1) : ∃ q t, qs = [q] ∧ ts = [t] ∧ EvP l q t := by
 cases h with
 | nil => simp at h1
 | cons h r => obtain ⟨rfl, rfl⟩ := r.no (by simpa using h1); exact ⟨_, _, rfl, rfl, h⟩
theorem EvL.two {l qs ts} (h : EvL l qs ts) (h1 : qs.length = 2) : ∃ q t q2 t2, qs = [q, q2] ∧ ts = [t, t2] ∧ EvP l q t ∧ EvP l q2 t2 := by
 cases h with
 | nil => simp at h1
 | cons h r => obtain ⟨_, _, rfl, rfl, h2⟩ := r.one (by simpa using h1); exact ⟨_, _, _, _, rfl, rfl, h, h2⟩
theorem EvL.three {l qs ts} (h : EvL l qs ts) (h1 : qs.length = 3) : ∃ q t q2 t2 q3 t3, qs = [q, q2, q3] ∧ ts = [t, t2, t3] ∧ EvP l q t ∧ EvP l q2 t2 ∧ EvP l q3 t3 := by
 cases h with
 | nil => simp at h1
 | cons h r => obtain ⟨_, _, _, _, rfl, rfl, h2, h3⟩ := r.two (by simpa using h1); exact ⟨_, _, _, _, _, _, rfl, rfl, h, h2, h3⟩
theorem kL {l : List Int} {lo hi : Nat} (h : exS l lo hi = true) : lo ≤ l.length ∧ l.length ≤ hi := by
 unfold exS at h
 simp only [Bool.and_eq_true, decide_eq_true_eq] at h
 omega
theorem Az {l : List Int} (h : AA l = true) : 1 ≤ l.length := by
 unfold AA at h
 simp only [Bool.and_eq_true, decide_eq_true_eq] at h
 omega
theorem DK {l : List Int} {hi : Nat} (h : ifS hi l = true) : 2 ≤ l.length ∧ l.length ≤ hi := by
 unfold ifS at h
 simp only [Bool.and_eq_true, decide_eq_true_eq] at h
 omega
theorem Lp {l : List S40} {x : S40} {kt : List Int} {qs ts} (h : EvL l qs ts) (hn : qs.length = kt.length) (hk : gX x.f0 kt = true) (h6 : 6 ≤ x.f0 ∧ x.f0 ≤ 17) (hw : x.f2.size ≤ 100000) (out : List S56) (hl : out.length + (stT x ts).length ≤ 3000000000000) : ag (fun k => qc (lG k) k l x.f0 x.f2 qs out) (out ++ stT x ts) := by
 have hw4 := hw
 have hc : x.f0 = 6 ∨ x.f0 = 7 ∨ x.f0 = 8 ∨ x.f0 = 9 ∨ x.f0 = 10 ∨ x.f0 = 11 ∨ x.f0 = 12 ∨ x.f0 = 16 ∨ x.f0 = 13 ∨ x.f0 = 14 ∨ x.f0 = 15 ∨ x.f0 = 17 := by omega
 rcases hc with h0 | h0 | h0 | h0 | h0 | h0 | h0 | h0 | h0 | h0 | h0 | h0
 all_goals simp only [qc, stT, gX, h0, Int.reduceEq, if_true, if_false, or_self, or_true, true_or, or_false, false_or] at hl hk ⊢
 ·obtain ⟨q, t, rfl, rfl, ht⟩ := h.one (by have := kL hk; omega)
  simp only [kT, List.getD_cons_zero, List.length_append, List.length_cons, List.length_nil] at hl
  exact ag.pos (by simp) (bs (nT ht [S [108, 101, 116], x.f2, S [61]] out (by intro s_ hs_; simp only [List.mem_cons, List.not_mem_nil, or_false] at hs_; rcases hs_ with rfl | rfl | rfl <;> first | exact hw | exact hw4 | (rw [fC]; decide)) (by simp; omega)))
 ·obtain ⟨q, t, rfl, rfl, ht⟩ := h.one (by have := kL hk; omega)
  simp only [kT, List.getD_cons_zero, List.length_append, List.length_cons, List.length_nil] at hl
  exact ag.pos (by simp) (bs (nT ht [x.f2, S [61]] out (by intro s_ hs_; simp only [List.mem_cons, List.not_mem_nil, or_false] at hs_; rcases hs_ with rfl | rfl <;> first | exact hw | exact hw4 | (rw [fC]; decide)) (by simp; omega)))
 ·obtain ⟨q, t, q2, t2, q3, t3, rfl, rfl, ht, ht2, ht3⟩ := h.three (by have := kL hk; omega)
  simp only [kT, List.getD_cons_zero, List.getD_cons_succ, List.length_append, List.length_cons, List.length_nil] at hl ⊢
  refine ag.pos (by simp) (ag.bind (DI ht ht2 out (by omega)) (ag.congr (G := fun k => (ig (lG k) k l q3 [S [61]] (out ++ (t ++ [W [91]] ++ t2 ++ [W [93]]))).bind some) (fun _ => rfl) ?_))
  have := bs (nT ht3 [S [61]] (out ++ (t ++ [W [91]] ++ t2 ++ [W [93]])) (by intro s_ hs_; simp only [List.mem_cons, List.not_mem_nil, or_false] at hs_; subst hs_; first | exact hw | exact hw4 | (rw [fC]; decide)) (by simp; omega))
  simpa [W] using this
 ·have hn2 := DK hk
  rcases (by omega : qs.length = 2 ∨ qs.length = 3) with h2 | h2
  ·obtain ⟨q, t, q2, t2, rfl, rfl, ht, ht2⟩ := h.two h2
   simp only [kT, List.getD_cons_zero, List.getD_cons_succ, List.length_append, List.length_cons, List.length_nil, show ¬ (2 < 0 + 1 + 1) by omega, if_false] at hl ⊢
   refine ag.pos (by simp) (ag.bind (W_E [105, 102] out (by decide) (by omega)) (ag.bind (ht _ (by simp; omega)) (ag.bind (ht2 _ (by simp; omega)) ?_)))
   simpa using (ag.now (v := out ++ [W [105, 102]] ++ t ++ t2))
  obtain ⟨q, t, q2, t2, q3, t3, rfl, rfl, ht, ht2, ht3⟩ := h.three h2
  simp only [kT, List.getD_cons_zero, List.getD_cons_succ, List.length_append, List.length_cons, List.length_nil, show 2 < 0 + 1 + 1 + 1 by omega, if_true] at hl ⊢
  refine ag.pos (by simp) (ag.bind (W_E [105, 102] out (by decide) (by omega)) (ag.bind (ht _ (by simp; omega)) (ag.bind (ht2 _ (by simp; omega)) ?_)))
  refine ag.bind (W_E [101, 108, 115, 101] _ (by decide) (by simp; omega)) (bs ?_)
  have := ht3 (out ++ [W [105, 102]] ++ t ++ t2 ++ [W [101, 108, 115, 101]]) (by simp; omega)
  simpa using this
 ·have hn2 := DK hk
  obtain ⟨q, t, q2, t2, rfl, rfl, ht, ht2⟩ := h.two (by omega)
  simp only [kT, List.getD_cons_zero, List.getD_cons_succ, List.length_append, List.length_cons, List.length_nil] at hl ⊢
  refine ag.pos (by simp) (ag.bind (W_E [119, 104, 105, 108, 101] out (by decide) (by omega)) (ag.bind (ht _ (by simp; omega)) (ag.bind (ht2 _ (by simp; omega)) ?_)))
  simpa using (ag.now (v := out ++ [W [119, 104, 105, 108, 101]] ++ t ++ t2))
 ·simp only [List.length_cons, List.length_nil] at hl
  exact bs (lV [S [98, 114, 101, 97, 107], S [59]] out (by intro s_ hs_; simp only [List.mem_cons, List.not_mem_nil, or_false] at hs_; rcases hs_ with rfl | rfl <;> first | exact hw | exact hw4 | (rw [fC]; decide)) (by simp; omega))
 ·simp only [List.length_cons, List.length_nil] at hl
  exact bs (lV [S [99, 111, 110, 116, 105, 110, 117, 101], S [59]] out (by intro s_ hs_; simp only [List.mem_cons, List.not_mem_nil, or_false] at hs_; rcases hs_ with rfl | rfl <;> first | exact hw | exact hw4 | (rw [fC]; decide)) (by simp; omega))
 ·simp only [List.length_cons, List.length_nil] at hl
  exact bs (lV [S [121, 105, 101, 108, 100], S [59]] out (by intro s_ hs_; simp only [List.mem_cons, List.not_mem_nil, or_false] at hs_; rcases hs_ with rfl | rfl <;> first | exact hw | exact hw4 | (rw [fC]; decide)) (by simp; omega))
 ·obtain ⟨q, t, rfl, rfl, ht⟩ := h.one (by have := kL hk; omega)
  simp only [kT, List.getD_cons_zero, List.length_append, List.length_cons, List.length_nil] at hl
  exact ag.pos (by simp) (bs (nT ht [S [114, 101, 116, 117, 114, 110]] out (by intro s_ hs_; simp only [List.mem_cons, List.not_mem_nil, or_false] at hs_; subst hs_; first | exact hw | exact hw4 | (rw [fC]; decide)) (by simp; omega)))
 ·obtain ⟨q, t, rfl, rfl, ht⟩ := h.one (by have := kL hk; omega)
  simp only [kT, List.getD_cons_zero, List.length_append, List.length_cons, List.length_nil] at hl
  exact ag.pos (by simp) (bs (nT ht [S [112, 117, 116]] out (by intro s_ hs_; simp only [List.mem_cons, List.not_mem_nil, or_false] at hs_; subst hs_; first | exact hw | exact hw4 | (rw [fC]; decide)) (by simp; omega)))
 ·obtain ⟨q, t, rfl, rfl, ht⟩ := h.one (by have := kL hk; omega)
  simp only [kT, List.getD_cons_zero, List.length_append, List.length_cons, List.length_nil] at hl
  exact ag.pos (by simp) (bs (nT ht [S [101, 109, 105, 116]] out (by intro s_ hs_; simp only [List.mem_cons, List.not_mem_nil, or_false] at hs_; subst hs_; first | exact hw | exact hw4 | (rw [fC]; decide)) (by simp; omega)))
 obtain ⟨q, t, rfl, rfl, ht⟩ := h.one (by have := kL hk; omega)
 simp only [kT, List.getD_cons_zero, List.length_append, List.length_cons, List.length_nil] at hl
 exact ag.pos (by simp) (bs (nT ht [] out (by simp) (by simp; omega)))
end Go.Proofs.Ytlenihbmafkegaa.Show
end
section
set_option linter.unusedVariables false
set_option linter.unusedSimpArgs false
namespace Go.Proofs.Ytlenihbmafkegaa.Show
open Go Go.RowKit Go.Proofs.YtlenihbmafkegaaW.PrintWords Go.Proofs.Ytlenihbmafkegaa.Q Go.Proofs.Ytlenihbmafkegaa.Lex Go.Proofs.Ytlenihbmafkegaa.Tree Go.Proofs.Ytlenihbmafkegaa.Par
theorem OQ (l : List UInt8) : (S l).toList = l := by rw [iL, L_S]
/-- A word that is no name. -/
theorem jr {w : List UInt8} (r : List S56) (h : dS w = false := by decide) : wd (W w :: r) = w := by
 unfold wd wB W ofT
 rw [L_S, h]
 cases isKey w <;> simp [OQ]
theorem uT {s : ByteArray} (r : List S56) (h : dS (L s) = true) : wd (ofT s :: r) = [] := by
 unfold wd wB ofT
 have hk : isKey (L s) = false := by
  unfold dS at h
  cases c : isKey (L s)
  ·rfl
  rw [c] at h; simp at h
 rw [hk, h]
 simp
 show (E : ByteArray).toList = []
 rw [iL]; rfl
theorem jX {s : ByteArray} (r : List S56) (h : dS (L s) = true) : need 1 (ofT s :: r) = .ok (ofT s, r) := by
 have hk : isKey (L s) = false := by
  unfold dS at h
  cases c : isKey (L s)
  ·rfl
  rw [c] at h; simp at h
 have : (ofT s).f0 = 1 := by unfold ofT; rw [hk, h]; rfl
 simp [need, this]
theorem bM {α β : Type} {p : Ps α} {f : α → Ps β} {l r : List S56} {a : α} (h : p l = .ok (a, r)) : bnd p f l = f a r := by unfold bnd; rw [h]
theorem iw {w : List UInt8} (r : List S56) (h : dS w = false := by decide) : must w (W w :: r) = .ok ((), r) := by
 unfold must
 rw [jr r h]; simp
theorem gu (a : S56) (r : List S56) : tk (a :: r) = .ok ((), r) := rfl
/-- What stands behind an expression: nothing that goes on with it. -/
def Fr (r : List S56) : Prop := wd r ≠ [46]
def Po (r : List S56) : Prop := wd r ≠ [40] ∧ wd r ≠ [91]
/-- How an expression's tokens are read, whatever stands behind, up to what goes on with it. -/
structure ER (e : List S40) (tk : List S56) : Prop where
 first : ∃ a r, tk = a :: r
 word : ∀ r, wd (tk ++ r) ∉ ([[45], [110, 111, 116], [108, 101, 110], [115, 112, 97, 119, 110], [108, 101, 116], [105, 102], [119, 104, 105, 108, 101], [98, 114, 101, 97, 107], [99, 111, 110, 116, 105, 110, 117, 101], [121, 105, 101, 108, 100], [114, 101, 116, 117, 114, 110], [112, 117, 116], [101, 109, 105, 116], [125], [41], [101, 108, 115, 101]] : List (List UInt8))
 post : ∃ d N0, ∀ N, N0 ≤ N → ∀ m r, Fr r → (bnd (lW (fU N) N) fun a => l7 (fU N) N (m + d) a) (tk ++ r) = l7 (fU N) N m e r
theorem ER.unary {e : List S40} {tk : List S56} (h : ER e tk) : ∃ N0, ∀ N, N0 ≤ N → ∀ r, Fr r → Po r → kW (fU N) N (tk ++ r) = .ok (e, r) := by
 obtain ⟨d, N0, hp⟩ := h.post
 refine ⟨N0 + d + 1, fun N hN r hr ho => ?_⟩
 have hw := h.word r
 simp only [List.mem_cons, not_or] at hw
 obtain ⟨m, rfl⟩ : ∃ m, N = m + d := ⟨N - d, by omega⟩
 unfold kW
 rw [if_neg (by simp [hw]), if_neg (by simp [hw]), hp (m + d) (by omega) m r hr]
 obtain ⟨m', rfl⟩ : ∃ m', m = m' + 1 := ⟨m - 1, by omega⟩
 rw [l7]
 simp only [ho.1, ho.2, if_false]
theorem ER.bound {e : List S40} {tk : List S56} (h : ER e tk) : ∀ j : Nat, j ≤ 5 → ∃ N0, ∀ N, N0 ≤ N → ∀ r, Fr r → Po r → (∀ c : Int, 6 - (j : Int) ≤ c → c ≤ 5 → gG (wd r) ≠ c) → ja (fU N) N (6 - (j : Int)) (tk ++ r) = .ok (e, r)
 | 0, _ => by
  obtain ⟨N0, h0⟩ := h.unary
  exact ⟨N0, fun N hN r hr ho _ => by unfold ja; rw [if_pos (by omega)]; exact h0 N hN r hr ho⟩
 | j + 1, hj => by
  obtain ⟨N0, h0⟩ := ER.bound h j (by omega)
  refine ⟨N0 + 1, fun N hN r hr ho ht => ?_⟩
  obtain ⟨M, rfl⟩ : ∃ M, N = M + 1 := ⟨N - 1, by omega⟩
  have h1 := h0 M (by omega) r hr ho (fun c hc => ht c (by omega))
  unfold ja
  rw [if_neg (by omega)]
  have e1 : (fU (M + 1)).bound (6 - ((j + 1 : Nat) : Int) + 1) (tk ++ r) = .ok (e, r) := by
   rw [show (6 - ((j + 1 : Nat) : Int) + 1) = 6 - (j : Int) by omega]
   exact h1
  rw [bM e1, lJ]
  dsimp only
  rw [if_neg (ht _ (by omega) (by omega))]
theorem ER.expr {e : List S40} {tk : List S56} (h : ER e tk) : ∃ N0, ∀ N, N0 ≤ N → ∀ r, Fr r → Po r → gG (wd r) = 0 → (fU N).expr (tk ++ r) = .ok (e, r) := by
 obtain ⟨N0, h0⟩ := h.bound 5 (Nat.le_refl _)
 refine ⟨N0 + 1, fun N hN r hr ho ht => ?_⟩
 obtain ⟨M, rfl⟩ : ∃ M, N = M + 1 := ⟨N - 1, by omega⟩
 exact h0 M (by omega) r hr ho (fun c hc hc2 => by rw [ht]; omega)
end Go.Proofs.Ytlenihbmafkegaa.Show
end
section
set_option linter.unusedVariables false
set_option linter.unusedSimpArgs false
namespace Go.Proofs.Ytlenihbmafkegaa.Show
open Go Go.RowKit Go.Proofs.YtlenihbmafkegaaW.PrintWords Go.Proofs.Ytlenihbmafkegaa.Q Go.Proofs.Ytlenihbmafkegaa.Lex Go.Proofs.Ytlenihbmafkegaa.Tree Go.Proofs.Ytlenihbmafkegaa.Par
abbrev II : List (List UInt8) := [[45], [110, 111, 116], [108, 101, 110], [115, 112, 97, 119, 110], [108, 101, 116], [105, 102], [119, 104, 105, 108, 101], [98, 114, 101, 97, 107], [99, 111, 110, 116, 105, 110, 117, 101], [121, 105, 101, 108, 100], [114, 101, 116, 117, 114, 110], [112, 117, 116], [101, 109, 105, 116], [125], [41], [101, 108, 115, 101]]
theorem ER.mJ {e : List S40} {tk : List S56} {a : S56} {q : List S56} (ht : tk = a :: q) (hw : ∀ r, wd (tk ++ r) ∉ II) (hp : ∃ N0, ∀ N, N0 ≤ N → ∀ r, Fr r → lW (fU N) N (tk ++ r) = .ok (e, r)) : ER e tk := by
 obtain ⟨N0, h⟩ := hp
 exact ⟨⟨a, q, ht⟩, hw, 0, N0, fun N hN m r hr => by rw [bM (h N hN r hr)]; rfl⟩
theorem MS : ER (nd 18 E 0 E []) [W [110, 105, 108]] :=
 ER.mJ rfl (fun r => by rw [List.singleton_append, jr]; decide) ⟨0, fun N _ r _ => by
  unfold lW
  rw [List.singleton_append, jr r, if_pos rfl, bM (gu _ r)]; rfl⟩
theorem Ho : ER (nd 29 E 0 E []) [W [115, 116, 97, 116, 101]] :=
 ER.mJ rfl (fun r => by rw [List.singleton_append, jr]; decide) ⟨0, fun N _ r _ => by
  unfold lW
  rw [List.singleton_append, jr r, if_neg (by decide), if_pos rfl, bM (gu _ r)]; rfl⟩
theorem Hm : ER (nd 25 E 0 E []) [W [123], W [125]] :=
 ER.mJ rfl (fun r => Z20) ⟨0, fun N _ r _ => by
  unfold lW
  rw [List.cons_append, jr, if_neg (by decide), if_neg (by decide), if_pos rfl, bM (gu _ _), List.singleton_append, bM (iw r)]; rfl⟩
theorem su {t : S56} (r : List S56) (h5 : t.f0 ≠ 5) (h4 : t.f0 ≠ 4) : wd (t :: r) = [] := by
 unfold wd wB
 dsimp only
 rw [if_neg (by simp [h5, h4])]
 show (E : ByteArray).toList = []
 rw [iL]; rfl
theorem ul (F : PF) (N : Nat) {l : List S56} (h : wd l = []) : lW F N l = nO F N l := by
 unfold lW
 rw [h, if_neg (by decide), if_neg (by decide), if_neg (by decide), if_neg (by decide), if_neg (by decide)]
theorem MV (n : Int) : ER (nd 19 E n E []) [oQ n] :=
 ER.mJ rfl (fun r => by rw [List.singleton_append, su r (show (2 : Int) ≠ 5 by decide) (show (2 : Int) ≠ 4 by decide)]; decide) ⟨0, fun N _ r _ => by
  rw [List.singleton_append, ul _ _ (su r (show (2 : Int) ≠ 5 by decide) (show (2 : Int) ≠ 4 by decide))]
  unfold nO
  dsimp only
  rw [if_pos (show (oQ n).f0 = 2 from rfl)]; rfl⟩
theorem JH (s : ByteArray) : ER (nd 20 E 0 s []) [yj s] :=
 ER.mJ rfl (fun r => by rw [List.singleton_append, su r (show (3 : Int) ≠ 5 by decide) (show (3 : Int) ≠ 4 by decide)]; decide) ⟨0, fun N _ r _ => by
  rw [List.singleton_append, ul _ _ (su r (show (3 : Int) ≠ 5 by decide) (show (3 : Int) ≠ 4 by decide))]
  unfold nO
  dsimp only
  rw [if_neg (show ¬ (yj s).f0 = 2 from (show ¬ (3 : Int) = 2 by decide)), if_pos (show (yj s).f0 = 3 from rfl)]; rfl⟩
theorem Jv {s : ByteArray} (h : dS (L s) = true) : (ofT s).f0 = 1 := by
 have hk : isKey (L s) = false := by
  unfold dS at h
  cases c : isKey (L s)
  ·rfl
  rw [c] at h; simp at h
 unfold ofT; rw [hk, h]; rfl
theorem xM (F : PF) (N : Nat) {s : ByteArray} (r : List S56) (h : dS (L s) = true) : lW F N (ofT s :: r) = uJ F N (ofT s :: r) := by
 have h1 := Jv h
 rw [ul _ _ (uT r h)]
 unfold nO
 dsimp only
 rw [if_neg (by rw [h1]; decide), if_neg (by rw [h1]; decide)]
theorem vk {s : ByteArray} (h : dS (L s) = true) : ER (nd 21 s 0 E []) [ofT s] :=
 ER.mJ rfl (fun r => by rw [List.singleton_append, uT r h]; decide) ⟨0, fun N _ r hr => by
  rw [List.singleton_append, xM _ _ r h]
  unfold uJ
  rw [bM (jX r h), if_neg hr]; rfl⟩
/-- Items of a list, each with its tokens. -/
structure LR (p : Nat → Ps (List S40)) (e : List S40) (tk : List S56) : Prop where
 word : ∀ r, wd (tk ++ r) ≠ [41]
 reads : ∃ N0, ∀ N, N0 ≤ N → ∀ r, wd r = [44] ∨ wd r = [41] → p N (tk ++ r) = .ok (e, r)
inductive LRs (p : Nat → Ps (List S40)) : List (List S40) → List (List S56) → Prop
 | nil : LRs p [] []
 | cons {e tk es tks} (h : LR p e tk) (t : LRs p es tks) : LRs p (e :: es) (tk :: tks)
def more (tks : List (List S56)) (r : List S56) : List S56 := match tks with
 | [] => W [41] :: r
 | t :: ts => W [44] :: (pW (t :: ts) ++ W [41] :: r)
theorem zN (a : List S56) (ts : List (List S56)) (r : List S56) : pW (a :: ts) ++ W [41] :: r = a ++ more ts r := by
 cases ts with
 | nil => rfl
 | cons b t => simp [pW, more]
theorem Df (ts : List (List S56)) (r : List S56) : wd (more ts r) = [44] ∨ wd (more ts r) = [41] := by
 cases ts with
 | nil => exact .inr (jr r)
 | cons b t => exact .inl (jr _)
theorem EL {p : Nat → Ps (List S40)} {es : List (List S40)} {tks : List (List S56)} (h : LRs p es tks) : ∃ N0, ∀ N, N0 ≤ N → ∀ r acc m, acc ≠ [] → lh (p N) (m + es.length + 1) acc (more tks r) = .ok (acc ++ es, r) := by
 induction h with
 | nil => exact ⟨0, fun N _ r acc m _ => by
  rw [lh]
  show (if wd (W [41] :: r) = [41] then _ else _) = _
  rw [jr r, if_pos rfl, bM (show must [41] (more [] r) = _ from iw r)]; simp [ret]⟩
 | @cons e tk es tks h t ih =>
  obtain ⟨N1, h1⟩ := ih
  obtain ⟨N2, h2⟩ := h.reads
  refine ⟨N1 + N2, fun N hN r acc m ha => ?_⟩
  have e1 : more (tk :: tks) r = W [44] :: (tk ++ more tks r) := by rw [← zN]; rfl
  rw [e1, List.length_cons, ← Nat.add_assoc, lh]
  show (if wd (W [44] :: _) = [41] then _ else _) = _
  rw [jr, if_neg (by decide), if_neg ha, bM (iw _), bM (h2 N (by omega) _ (Df tks r)), h1 N (by omega) r (acc ++ [e]) m (by simp)]
  simp
theorem wz {p : Nat → Ps (List S40)} {es : List (List S40)} {tks : List (List S56)} (h : LRs p es tks) : ∃ N0, ∀ N, N0 ≤ N → ∀ r, Par.dZ (p N) N (rowT tks ++ r) = .ok (es, r) := by
 cases h with
 | nil => exact ⟨1, fun N hN r => by
  obtain ⟨m, rfl⟩ : ∃ m, N = m + 1 := ⟨N - 1, by omega⟩
  unfold Par.dZ rowT
  rw [List.cons_append, bM (iw _), lh]
  show (if wd (W [41] :: r) = [41] then _ else _) = _
  rw [jr r, if_pos rfl, bM (show must [41] (pW [] ++ [W [41]] ++ r) = _ from iw r)]; rfl⟩
 | @cons e tk es tks h t =>
  obtain ⟨N1, h1⟩ := EL t
  obtain ⟨N2, h2⟩ := h.reads
  refine ⟨N1 + N2 + es.length + 2, fun N hN r => ?_⟩
  obtain ⟨m, hm⟩ : ∃ m, N = (m + es.length + 1) + 1 := ⟨N - es.length - 2, by omega⟩
  unfold Par.dZ rowT
  have e1 : pW (tk :: tks) ++ [W [41]] ++ r = tk ++ more tks r := by rw [List.append_assoc, List.singleton_append, zN]
  rw [List.cons_append, bM (iw _), e1]
  conv => lhs; arg 2; rw [hm]
  rw [lh]
  show (if wd (tk ++ more tks r) = [41] then _ else _) = _
  rw [if_neg (h.word _), if_pos rfl, bM (h2 N (by omega) _ (Df tks r)), h1 N (by omega) r _ m (by simp)]
  rfl
end Go.Proofs.Ytlenihbmafkegaa.Show
end
section
set_option linter.unusedVariables false
set_option linter.unusedSimpArgs false
namespace Go.Proofs.Ytlenihbmafkegaa.Show
open Go Go.RowKit Go.Proofs.YtlenihbmafkegaaW.PrintWords Go.Proofs.Ytlenihbmafkegaa.Q Go.Proofs.Ytlenihbmafkegaa.Lex Go.Proofs.Ytlenihbmafkegaa.Tree Go.Proofs.Ytlenihbmafkegaa.Par
/-- What shuts an expression. -/
theorem shut {w : List UInt8} (r : List S56) (h : w ∈ ([[41], [93], [59], [44], [61], [123]] : List (List UInt8))) : Fr (W w :: r) ∧ Po (W w :: r) ∧ gG (wd (W w :: r)) = 0 := by
 have hn : dS w = false := by
  simp only [List.mem_cons, List.not_mem_nil, or_false] at h
  rcases h with rfl | rfl | rfl | rfl | rfl | rfl <;> decide
 unfold Fr Po
 rw [jr r hn]
 simp only [List.mem_cons, List.not_mem_nil, or_false] at h
 rcases h with rfl | rfl | rfl | rfl | rfl | rfl <;> decide
theorem KW {r : List S56} {w : List UInt8} (h : wd r = w) (h1 : w ≠ [46] := by decide) : Fr r := by unfold Fr; rw [h]; exact h1
/-- Items that are expressions. -/
theorem ER.item {e : List S40} {tk : List S56} (h : ER e tk) : LR (fun N => (fU N).expr) e tk := by
 obtain ⟨N0, h0⟩ := h.expr
 refine ⟨fun r c => h.word r (by rw [c]; decide), N0, fun N hN r hr => ?_⟩
 have : Fr r ∧ Po r ∧ gG (wd r) = 0 := by
  unfold Fr Po
  rcases hr with c | c <;> rw [c] <;> decide
 exact h0 N hN r this.1 this.2.1 this.2.2
theorem BG {s : ByteArray} (h : dS (L s) = true) : LR (fun _ => nK) (nd 4 s 0 E []) [ofT s] :=
 ⟨fun r => by rw [List.singleton_append, uT r h]; decide, 0, fun N _ r _ => by
  unfold nK
  rw [List.singleton_append, bM (jX r h)]; rfl⟩
/-- Something in round brackets. -/
theorem wU {e : List S40} {q : List S56} (h : ∃ N0, ∀ N, N0 ≤ N → ∀ r, (fU N).expr (q ++ W [41] :: r) = .ok (e, W [41] :: r)) : ER e (W [40] :: (q ++ [W [41]])) := by
 obtain ⟨N0, h0⟩ := h
 refine ER.mJ rfl (fun r => Z20) ⟨N0, fun N hN r _ => ?_⟩
 unfold lW
 rw [List.cons_append, jr, if_neg (by decide), if_neg (by decide), if_neg (by decide), if_neg (by decide), if_pos rfl, bM (gu _ _)]
 rw [show q ++ [W [41]] ++ r = q ++ W [41] :: r by simp, bM (h0 N hN r), bM (iw r)]
 rfl
/-- An operation of one. -/
theorem IL {w : List UInt8} (h : UNS.contains w = true) : w = [45] ∨ w = [110, 111, 116] ∨ w = [108, 101, 110] := by
 simpa [UNS] using h
theorem IM {e : List S40} {tk : List S56} {s : ByteArray} (hs : UNS.contains (L s) = true) (h : ER e tk) : ∃ N0, ∀ N, N0 ≤ N → ∀ r, Fr r → Po r → kW (fU N) N (ofT s :: tk ++ r) = .ok (nd 28 E 0 s [e], r) := by
 obtain ⟨N0, h0⟩ := h.unary
 refine ⟨N0 + 1, fun N hN r hr ho => ?_⟩
 obtain ⟨M, rfl⟩ : ∃ M, N = M + 1 := ⟨N - 1, by omega⟩
 have hw := IL hs
 have hn : dS (L s) = false := by rcases hw with c | c | c <;> rw [c] <;> decide
 have hwd : wd (ofT s :: tk ++ r) = L s := by
  have := jr (w := L s) (tk ++ r) hn
  unfold W at this
  rwa [S_L] at this
 have hwb : wB (ofT s :: tk ++ r) = s := by
  unfold wB ofT
  rw [hn]
  cases isKey (L s) <;> simp
 unfold kW
 rw [hwd, if_pos hw, hwb, List.cons_append, bM (gu _ _)]
 have e1 : (fU (M + 1)).unary (tk ++ r) = .ok (e, r) := h0 M (by omega) r hr ho
 rw [bM e1]
 rfl
theorem down {e : List S40} {l g : List S56 → List S56} (hg : ∀ r, gG (wd (g r)) = 0) {b : Int} (hb : b ≤ 6) (h : ∃ N0, ∀ N, N0 ≤ N → ∀ r, ja (fU N) N b (l r) = .ok (e, g r)) : ∀ j : Nat, (j : Int) < b → ∃ N0, ∀ N, N0 ≤ N → ∀ r, ja (fU N) N (b - (j : Int)) (l r) = .ok (e, g r)
 | 0, _ => by
  obtain ⟨N0, h0⟩ := h
  exact ⟨N0, fun N hN r => by rw [show b - ((0 : Nat) : Int) = b by omega]; exact h0 N hN r⟩
 | j + 1, hj => by
  obtain ⟨N0, h0⟩ := down hg hb h j (by omega)
  refine ⟨N0 + 1, fun N hN r => ?_⟩
  obtain ⟨M, rfl⟩ : ∃ M, N = M + 1 := ⟨N - 1, by omega⟩
  unfold ja
  rw [if_neg (by omega)]
  have e1 : (fU (M + 1)).bound (b - ((j + 1 : Nat) : Int) + 1) (l r) = .ok (e, g r) := by
   rw [show (b - ((j + 1 : Nat) : Int) + 1) = b - (j : Int) by omega]
   exact h0 M (by omega) r
  rw [bM e1, lJ]
  (try dsimp only)
  rw [if_neg (by rw [hg]; omega)]
theorem uA {e : List S40} {l g : List S56 → List S56} (hg : ∀ r, gG (wd (g r)) = 0) {b : Int} (h1 : 1 ≤ b) (hb : b ≤ 6) (h : ∃ N0, ∀ N, N0 ≤ N → ∀ r, ja (fU N) N b (l r) = .ok (e, g r)) : ∃ N0, ∀ N, N0 ≤ N → ∀ r, (fU N).expr (l r) = .ok (e, g r) := by
 obtain ⟨N0, h0⟩ := down hg hb h (b - 1).toNat (by omega)
 rw [show b - (((b - 1).toNat : Nat) : Int) = 1 by omega] at h0
 refine ⟨N0 + 1, fun N hN r => ?_⟩
 obtain ⟨M, rfl⟩ : ∃ M, N = M + 1 := ⟨N - 1, by omega⟩
 exact h0 M (by omega) r
theorem zF {e : List S40} {l g : List S56 → List S56} (h : ∃ N0, ∀ N, N0 ≤ N → ∀ r, kW (fU N) N (l r) = .ok (e, g r)) : ∃ N0, ∀ N, N0 ≤ N → ∀ r, ja (fU N) N 6 (l r) = .ok (e, g r) := by
 obtain ⟨N0, h0⟩ := h
 exact ⟨N0, fun N hN r => by unfold ja; rw [if_pos rfl]; exact h0 N hN r⟩
theorem Ob {e : List S40} {tk : List S56} {s : ByteArray} (hs : UNS.contains (L s) = true) (h : ER e tk) : ER (nd 28 E 0 s [e]) (W [40] :: ofT s :: (tk ++ [W [41]])) := by
 refine wU (q := ofT s :: tk) (uA (b := 6) (fun r => (shut r (by simp)).2.2) (by omega) (by omega) (zF ?_))
 obtain ⟨N0, h0⟩ := IM hs h
 exact ⟨N0, fun N hN r => h0 N hN _ (shut r (by simp)).1 (shut r (by simp)).2.1⟩
theorem Hq {e : List S40} {tk : List S56} (h : ER e tk) : ER (nd 30 E 0 E [e]) (W [40] :: W [115, 112, 97, 119, 110] :: (tk ++ [W [41]])) := by
 refine wU (q := W [115, 112, 97, 119, 110] :: tk) (uA (b := 6) (fun r => (shut r (by simp)).2.2) (by omega) (by omega) (zF ?_))
 obtain ⟨N0, h0⟩ := h.unary
 refine ⟨N0 + 1, fun N hN r => ?_⟩
 obtain ⟨M, rfl⟩ : ∃ M, N = M + 1 := ⟨N - 1, by omega⟩
 unfold kW
 rw [List.cons_append, jr, if_neg (by decide), if_pos rfl, bM (gu _ _)]
 have e1 : (fU (M + 1)).unary (tk ++ W [41] :: r) = .ok (e, W [41] :: r) := h0 M (by omega) _ (shut r (by simp)).1 (shut r (by simp)).2.1
 rw [bM e1]
 rfl
theorem Jr {w : List UInt8} (h : OPS.contains w = true) : dS w = false ∧ w ≠ [46] ∧ w ≠ [40] ∧ w ≠ [91] ∧ 1 ≤ gG w ∧ gG w ≤ 5 := by
 have : w ∈ OPS := by simpa using h
 simp only [OPS, List.mem_cons, List.not_mem_nil, or_false] at this
 rcases this with rfl | rfl | rfl | rfl | rfl | rfl | rfl | rfl | rfl | rfl | rfl | rfl <;> decide
theorem MW {e e2 : List S40} {tk tk2 : List S56} {s : ByteArray} (hs : OPS.contains (L s) = true) (h : ER e tk) (h2 : ER e2 tk2) : ER (nd 27 E 0 s [e, e2]) (W [40] :: (tk ++ ofT s :: (tk2 ++ [W [41]]))) := by
 obtain ⟨hn, o1, o2, o3, t1, t2⟩ := Jr hs
 have hwd : ∀ q, wd (ofT s :: q) = L s := fun q => by
  have := jr (w := L s) q hn
  unfold W at this
  rwa [S_L] at this
 have hwb : ∀ q, wB (ofT s :: q) = s := fun q => by
  unfold wB ofT
  rw [hn]
  cases isKey (L s) <;> simp
 have key := wU (e := nd 27 E 0 s [e, e2]) (q := tk ++ ofT s :: tk2) (uA (b := gG (L s)) (fun r => (shut r (by simp)).2.2) t1 (by omega) ?_)
 ·rwa [show tk ++ ofT s :: tk2 ++ [W [41]] = tk ++ ofT s :: (tk2 ++ [W [41]]) by simp] at key
 have b1 := h.bound (5 - gG (L s)).toNat (by omega)
 have b2 := h2.bound (5 - gG (L s)).toNat (by omega)
 rw [show (6 : Int) - (((5 - gG (L s)).toNat : Nat) : Int) = gG (L s) + 1 by omega] at b1 b2
 obtain ⟨N1, b1⟩ := b1
 obtain ⟨N2, b2⟩ := b2
 refine ⟨N1 + N2 + 2, fun N hN r => ?_⟩
 obtain ⟨M, rfl⟩ : ∃ M, N = M + 1 + 1 := ⟨N - 2, by omega⟩
 unfold ja
 rw [if_neg (by omega)]
 have e1 : (fU (M + 1 + 1)).bound (gG (L s) + 1) (tk ++ ofT s :: tk2 ++ W [41] :: r) = .ok (e, ofT s :: (tk2 ++ W [41] :: r)) := by
  rw [show tk ++ ofT s :: tk2 ++ W [41] :: r = tk ++ (ofT s :: (tk2 ++ W [41] :: r)) by simp]
  exact b1 (M + 1) (by omega) _ (by unfold Fr; rw [hwd]; exact o1) (by unfold Po; rw [hwd]; exact ⟨o2, o3⟩) (fun c hc _ => by rw [hwd]; omega)
 have e2' : (fU (M + 1 + 1)).bound (gG (L s) + 1) (tk2 ++ W [41] :: r) = .ok (e2, W [41] :: r) :=
  b2 (M + 1) (by omega) _ (shut r (by simp)).1 (shut r (by simp)).2.1 (fun c hc _ => by rw [(shut r (by simp)).2.2]; omega)
 rw [bM e1, lJ]
 (try dsimp only)
 rw [hwd, if_pos rfl, bM (gu _ _), bM e2', hwb]
 by_cases c : gG (L s) = 3
 ·rw [if_pos c]; rfl
 rw [if_neg c, lJ]
 (try dsimp only)
 rw [if_neg (by rw [(shut r (by simp)).2.2]; omega)]
/-- What goes on: an index, a call. -/
theorem AO {e e2 : List S40} {tk tk2 : List S56} (h : ER e tk) (h2 : ER e2 tk2) : ER (nd 26 E 0 E [e, e2]) (tk ++ [W [91]] ++ tk2 ++ [W [93]]) := by
 obtain ⟨a, q, hq⟩ := h.first
 obtain ⟨d, N1, p1⟩ := h.post
 obtain ⟨N2, p2⟩ := h2.expr
 refine ⟨⟨a, q ++ [W [91]] ++ tk2 ++ [W [93]], by rw [hq]; simp⟩, fun r => by have := h.word ([W [91]] ++ tk2 ++ [W [93]] ++ r); simpa using this, d + 1, N1 + N2, fun N hN m r hr => ?_⟩
 rw [show tk ++ [W [91]] ++ tk2 ++ [W [93]] ++ r = tk ++ (W [91] :: (tk2 ++ W [93] :: r)) by simp, show m + (d + 1) = (m + 1) + d by omega, p1 N (by omega) (m + 1) _ (KW (jr _)), l7]
 (try dsimp only)
 rw [jr, if_neg (by decide), if_pos rfl, bM (gu _ _), bM (p2 N (by omega) _ (shut r (by simp)).1 (shut r (by simp)).2.1 (shut r (by simp)).2.2), bM (iw r)]
theorem JI {e : List S40} {tk : List S56} {es : List (List S40)} {tks : List (List S56)} (h : ER e tk) (h2 : LRs (fun N => (fU N).expr) es tks) : ER (nd 22 E 0 E (e :: es)) (tk ++ rowT tks) := by
 obtain ⟨a, q, hq⟩ := h.first
 obtain ⟨d, N1, p1⟩ := h.post
 obtain ⟨N2, p2⟩ := wz h2
 refine ⟨⟨a, q ++ rowT tks, by rw [hq]; simp⟩, fun r => by have := h.word (rowT tks ++ r); simpa using this, d + 1, N1 + N2, fun N hN m r hr => ?_⟩
 have hw : wd (rowT tks ++ r) = [40] := by unfold rowT; rw [List.cons_append, jr]
 rw [List.append_assoc, show m + (d + 1) = (m + 1) + d by omega, p1 N (by omega) (m + 1) _ (KW hw), l7]
 (try dsimp only)
 rw [hw, if_pos rfl, bM (p2 N (by omega) r)]
 rfl
theorem Hr {s u : ByteArray} {es : List (List S40)} {tks : List (List S56)} (hs : dS (L s) = true) (hu : dS (L u) = true) (h2 : LRs (fun N => (fU N).expr) es tks) : ER (nd 23 s 0 u es) ([ofT s, W [46], ofT u] ++ rowT tks) := by
 obtain ⟨N2, p2⟩ := wz h2
 refine ER.mJ rfl (fun r => by rw [List.append_assoc, List.cons_append, uT _ hs]; decide) ⟨N2, fun N hN r hr => ?_⟩
 rw [List.append_assoc, List.cons_append, xM _ _ _ hs]
 unfold uJ
 rw [bM (jX _ hs)]
 (try dsimp only)
 rw [List.cons_append, jr, if_pos rfl, bM (gu _ _), List.cons_append, bM (jX _ hu), List.nil_append, bM (p2 N hN r)]
 rfl
end Go.Proofs.Ytlenihbmafkegaa.Show
end
section
set_option linter.unusedVariables false
set_option linter.unusedSimpArgs false
namespace Go.Proofs.Ytlenihbmafkegaa.Par
open Go Go.RowKit Go.Proofs.YtlenihbmafkegaaW.PrintWords Go.Proofs.Ytlenihbmafkegaa.Q Go.Proofs.Ytlenihbmafkegaa.Lex Go.Proofs.Ytlenihbmafkegaa.Tree
theorem uk (ts : List S56) (q : Nat) (t : S56) (r : List S56) (h : ts.drop q = t :: r) : q < ts.length ∧ dD ts (q : Int) = t ∧ ts.drop (q + 1) = r := by
 have hq : q < ts.length := by
  rcases Nat.lt_or_ge q ts.length with h1 | h1
  ·exact h1
  rw [List.drop_eq_nil_of_le h1] at h; cases h
 rw [List.drop_eq_getElem_cons hq] at h
 obtain ⟨h1, h2⟩ := List.cons.inj h
 exact ⟨hq, by simp [dD, List.getD_eq_getElem?_getD, List.getElem?_eq_getElem hq, h1], h2⟩
theorem Gx (ts : List S56) (q : Int) : jB.f ts q true = some (0, E, 0, 0, false, q, true) := rfl
theorem ww (ts : List S56) (q : Nat) (h : ts.drop q = []) : jB.f ts (q : Int) false = some (0, E, 0, 0, false, (q : Int), false) := by
 unfold jB.f
 have : ts.length ≤ q := List.drop_eq_nil_iff.1 h
 rw [if_neg (by simp), if_pos (by omega)]; rfl
theorem uo (ts : List S56) (q : Nat) (t : S56) (r : List S56) (h : ts.drop q = t :: r) : jB.f ts (q : Int) false = some (t.f0, t.f1, t.f2, t.f3, true, (q : Int), false) := by
 obtain ⟨h1, h2, _⟩ := uk ts q t r h
 unfold jB.f
 rw [if_neg (by simp), if_neg (by omega), if_pos (by omega), h2]
theorem lQ (ts : List S56) (q : Nat) : bC.f ts (q : Int) false = some (wB (ts.drop q), (q : Int), false) := by
 unfold bC.f
 cases h : ts.drop q with
 | nil => rw [ww ts q h]; rfl
 | cons t r =>
  rw [uo ts q t r h]
  simp only [Option.bind_some, if_true, wB]
  by_cases c1 : t.f0 = 5
  ·rw [if_pos c1, if_pos (Or.inl c1)]
  rw [if_neg c1]
  by_cases c2 : t.f0 = 4
  ·rw [if_pos c2, if_pos (Or.inr c2)]
  rw [if_neg c2, if_neg (by omega)]; rfl
theorem vI (ts : List S56) (q : Int) : bC.f ts q true = some (E, q, true) := rfl
theorem IB : E.toList = ([] : List UInt8) := by rw [iL]; rfl
theorem nz : wd [] = [] := IB
theorem yl (ts : List S56) (q : Nat) (hq : q ≤ 100000) (w : ByteArray) (hw : w.toList ≠ []) : aH.f ts (q : Int) false w = if wd (ts.drop q) = w.toList then some (true, ((q + 1 : Nat) : Int), false) else some (false, (q : Int), false) := by
 unfold aH.f
 rw [if_neg hw, lQ]
 simp only [Option.bind_some]
 rw [Tree.inc q (by omega)]; rfl
theorem zJ (ts : List S56) (q : Int) (w : ByteArray) (hw : w.toList ≠ []) : aH.f ts q true w = some (false, q, true) := by
 unfold aH.f
 rw [if_neg hw, vI]
 simp only [Option.bind_some]
 rw [if_neg (fun h => hw (by rw [IB] at h; exact h.symm))]
theorem Jw (ts : List S56) (q : Nat) (hq : q ≤ 100000) (w : ByteArray) (hw : w.toList ≠ []) : aC.f ts (q : Int) false w = if wd (ts.drop q) = w.toList then some (((q + 1 : Nat) : Int), false) else some ((q : Int), true) := by
 unfold aC.f
 rw [yl ts q hq w hw]
 by_cases c : wd (ts.drop q) = w.toList
 ·rw [if_pos c, if_pos c]; rfl
 rw [if_neg c, if_neg c]; rfl
theorem G6 (ts : List S56) (q : Int) (w : ByteArray) (hw : w.toList ≠ []) : aC.f ts q true w = some (q, true) := by
 unfold aC.f
 rw [zJ ts q w hw]; rfl
theorem lg (ts : List S56) (q : Int) (k : Int) : bD.f ts q true k = some (0, E, 0, 0, q, true) := rfl
theorem Gz (ts : List S56) (q : Nat) (k : Int) (h : ts.drop q = []) : bD.f ts (q : Int) false k = some (0, E, 0, 0, (q : Int), true) := by
 unfold bD.f
 rw [ww ts q h]; rfl
theorem EK (ts : List S56) (q : Nat) (hq : q ≤ 100000) (k : Int) (t : S56) (r : List S56) (h : ts.drop q = t :: r) : bD.f ts (q : Int) false k = if t.f0 = k then some (t.f0, t.f1, t.f2, t.f3, ((q + 1 : Nat) : Int), false) else some (0, E, 0, 0, (q : Int), true) := by
 unfold bD.f
 rw [uo ts q t r h]
 simp only [Option.bind_some, if_true]
 rw [Tree.inc q (by omega)]; rfl
theorem Dh {l : List S56} (h : wd l ≠ []) : ∃ t r, l = t :: r := by
 cases l with
 | nil => exact absurd nz h
 | cons t r => exact ⟨t, r, rfl⟩
/-! Nodes. -/
theorem LY (a : Int) (kids : List (List S40)) (hk : kids.length ≤ 1000000) : ∀ (m i : Nat) (acc : List S40), kids.length = m + i → acc.length + ((kids.drop i).flatten).length ≤ 1000000000 →
 ag (fun k => az.l0 k acc kids (kids.length : Int) (i : Int)) (acc ++ (kids.drop i).flatten) := by
 intro m
 induction m with
 | zero =>
  intro i acc h1 h2
  rw [List.drop_eq_nil_of_le (by omega), List.flatten_nil, List.append_nil]
  refine ag.step (fun k => by rw [az.l0]) ?_
  exact ag.neg (by omega) ag.now
 | succ m ih =>
  intro i acc h1 h2
  have hi : i < kids.length := by omega
  have hr : qX kids (i : Int) = kids[i] := by simp [qX, List.getD_eq_getElem?_getD, List.getElem?_eq_getElem hi]
  rw [List.drop_eq_getElem_cons hi, List.flatten_cons] at h2 ⊢
  rw [List.length_append] at h2
  refine ag.step (fun k => by rw [az.l0]) ?_
  rw [hr, Tree.inc i (by omega)]
  refine ag.pos (by omega) (ag.pos (by omega) (ag.pos (by omega) (ag.pos (by omega) ?_)))
  have := ih (i + 1) (acc ++ kids[i]) (by omega) Z24
  rw [List.append_assoc] at this
  exact this
theorem wu (k0 : Int) (nm : ByteArray) (n : Int) (tx : ByteArray) (z : Int) (kids : List (List S40)) (hk : kids.length ≤ 1000000) (hs : kids.flatten.length ≤ 100000000) : ag (fun k => az.f k k0 z nm n tx kids) (nd k0 nm n tx kids) := by
 have := LY 0 kids hk kids.length 0 [⟨k0, (kids.length : Int), nm, n, tx⟩] (by omega) (by rw [List.drop_zero]; simp only [List.length_cons, List.length_nil]; omega)
 rw [List.drop_zero] at this
 exact this
/-! What is told. -/
/-- What a function of rounds comes to, from place q on, is the answer; what was made is no more than twice what was passed, and c. -/
def ak {α : Type} (ts : List S56) (q c : Nat) (sz : α → Nat) (F : Nat → Option (α × Int × Bool)) : R α → Prop
 | .ok (x, r) => ∃ p : Nat, q ≤ p ∧ p ≤ ts.length ∧ ts.drop p = r ∧ sz x ≤ 2 * (p - q) ∧ ag F (x, (p : Int), false)
 | .error (some r) => ∃ (x : α) (p : Nat), q ≤ p ∧ p ≤ ts.length ∧ ts.drop p = r ∧ sz x ≤ 2 * (p - q) + c ∧ ag F (x, (p : Int), true)
 | .error none => True
theorem ak.bind {α β : Type} {ts : List S56} {q q0 c d : Nat} {sA : α → Nat} {sB : β → Nat} {F : Nat → Option (α × Int × Bool)} {G : Nat → α × Int × Bool → Option (β × Int × Bool)} {P : Ps α} {l : List S56} {f : α → Ps β}
 (h : ak ts q c sA F (P l))
 (hok : ∀ (x : α) (p : Nat), q ≤ p → p ≤ ts.length → sA x ≤ 2 * (p - q) → ak ts q0 d sB (fun k => G k (x, (p : Int), false)) (f x (ts.drop p)))
 (hbad : ∀ (x : α) (p : Nat), q ≤ p → p ≤ ts.length → sA x ≤ 2 * (p - q) + c → ∃ y, q0 ≤ p ∧ sB y ≤ 2 * (p - q0) + d ∧ ag (fun k => G k (x, (p : Int), true)) (y, (p : Int), true)) :
 ak ts q0 d sB (fun k => (F k).bind (G k)) (bnd P f l) := by
 unfold bnd
 match P l, h with
 | .ok (x, r), ⟨p, h1, h2, h3, h4, h5⟩ =>
  have := hok x p h1 h2 h4
  rw [h3] at this
  revert this
  show ak ts q0 d sB _ (f x r) → ak ts q0 d sB _ (f x r)
  cases f x r with
  | ok y => exact fun ⟨p', a1, a2, a3, a4, a5⟩ => ⟨p', a1, a2, a3, a4, ag.bind h5 a5⟩
  | error e =>
   cases e with
   | none => exact fun _ => trivial
   | some e => exact fun ⟨y, p', a1, a2, a3, a4, a5⟩ => ⟨y, p', a1, a2, a3, a4, ag.bind h5 a5⟩
 | .error (some r), ⟨x, p, h1, h2, h3, h4, h5⟩ =>
  obtain ⟨y, g0, g1, g2⟩ := hbad x p h1 h2 h4
  exact ⟨y, p, g0, h2, h3, g1, ag.bind h5 g2⟩
 | .error none, _ => trivial
theorem ak.congr {α : Type} {ts : List S56} {q c : Nat} {sz : α → Nat} {F G : Nat → Option (α × Int × Bool)} {P : R α} (e : ∀ k, F k = G k) (h : ak ts q c sz G P) : ak ts q c sz F P := by
 have : F = G := funext e
 rw [this]; exact h
theorem ak.step {α : Type} {ts : List S56} {q c : Nat} {sz : α → Nat} {F G : Nat → Option (α × Int × Bool)} {P : R α} (e : ∀ k, F (k + 1) = G k) (h : ak ts q c sz G P) : ak ts q c sz F P := by
 match P, h with
 | .ok (x, r), ⟨p, h1, h2, h3, h4, h5⟩ => exact ⟨p, h1, h2, h3, h4, ag.step e h5⟩
 | .error (some r), ⟨x, p, h1, h2, h3, h4, h5⟩ => exact ⟨x, p, h1, h2, h3, h4, ag.step e h5⟩
 | .error none, _ => trivial
theorem ak.pos {α : Type} {ts : List S56} {q d : Nat} {sz : α → Nat} {F G : Nat → Option (α × Int × Bool)} {P : R α} {c : Prop} [Decidable c] (hc : c) (h : ak ts q d sz F P) : ak ts q d sz (fun k => if c then F k else G k) P := ak.congr (fun k => if_pos hc) h
theorem ak.neg {α : Type} {ts : List S56} {q d : Nat} {sz : α → Nat} {F G : Nat → Option (α × Int × Bool)} {P : R α} {c : Prop} [Decidable c] (hc : ¬c) (h : ak ts q d sz G P) : ak ts q d sz (fun k => if c then F k else G k) P := ak.congr (fun k => if_neg hc) h
/-- A mark that must stand there. -/
theorem ak.must {β : Type} {ts : List S56} {q p d : Nat} {sB : β → Nat} {G : Nat → Int × Bool → Option (β × Int × Bool)} {f : Unit → Ps β} (w : ByteArray) (wl : List UInt8) (hwl : w.toList = wl) (hw : wl ≠ []) (hp : p ≤ ts.length) (hts : ts.length ≤ 40000) (hq : q ≤ p)
 (hok : p + 1 ≤ ts.length → ak ts q d sB (fun k => G k (((p + 1 : Nat) : Int), false)) (f () (ts.drop (p + 1))))
 (hbad : ∃ y, sB y ≤ 2 * (p - q) + d ∧ ag (fun k => G k ((p : Int), true)) (y, (p : Int), true)) :
 ak ts q d sB (fun k => (aC.f ts (p : Int) false w).bind (G k)) (bnd (Par.must wl) f (ts.drop p)) := by
 subst hwl
 rw [Jw ts p (by omega) w hw]
 unfold bnd Par.must
 by_cases c : wd (ts.drop p) = w.toList
 ·rw [if_pos c, if_pos c]
  obtain ⟨t, r, e⟩ := Dh (l := ts.drop p) (by rw [c]; exact hw)
  obtain ⟨h1, _, h3⟩ := uk ts p t r e
  have := hok (by omega)
  rw [h3] at this
  rw [e]
  exact this
 rw [if_neg c, if_neg c]
 obtain ⟨y, h1, h2⟩ := hbad
 exact ⟨y, p, hq, hp, rfl, h1, h2⟩
/-- A token of a kind that must stand there. -/
theorem ak.need {β : Type} {ts : List S56} {q p d : Nat} {sB : β → Nat} {G : Nat → Int × ByteArray × Int × Int × Int × Bool → Option (β × Int × Bool)} {f : S56 → Ps β} (kd : Int) (hp : p ≤ ts.length) (hts : ts.length ≤ 40000) (hq : q ≤ p)
 (hok : ∀ t : S56, p + 1 ≤ ts.length → t.f0 = kd → ak ts q d sB (fun k => G k (t.f0, t.f1, t.f2, t.f3, ((p + 1 : Nat) : Int), false)) (f t (ts.drop (p + 1))))
 (hbad : ∃ y, sB y ≤ 2 * (p - q) + d ∧ ag (fun k => G k (0, E, 0, 0, (p : Int), true)) (y, (p : Int), true)) :
 ak ts q d sB (fun k => (bD.f ts (p : Int) false kd).bind (G k)) (bnd (Par.need kd) f (ts.drop p)) := by
 obtain ⟨y, h1, h2⟩ := hbad
 cases e : ts.drop p with
 | nil =>
  rw [Gz ts p kd e]
  exact ⟨y, p, hq, hp, e, h1, h2⟩
 | cons t r =>
  rw [EK ts p (by omega) kd t r e]
  unfold bnd Par.need
  by_cases c : t.f0 = kd
  ·simp only [if_pos c]
   obtain ⟨g1, _, g3⟩ := uk ts p t r e
   have := hok t (by omega) c
   rw [g3] at this
   exact this
  simp only [if_neg c]
  exact ⟨y, p, hq, hp, e, h1, h2⟩
theorem iE (w : ByteArray) (wl : List UInt8) (h : L w = wl) : w.toList = wl := by rw [iL]; exact h
/-- A word that was looked at is passed. -/
theorem ak.tk {β : Type} {ts : List S56} {q p d : Nat} {sB : β → Nat} {G : Nat → Bool × Int × Bool → Option (β × Int × Bool)} {f : Unit → Ps β} (w : ByteArray) (hw : w.toList ≠ []) (hwd : wd (ts.drop p) = w.toList) (hts : ts.length ≤ 40000)
 (hok : p + 1 ≤ ts.length → ak ts q d sB (fun k => G k (true, ((p + 1 : Nat) : Int), false)) (f () (ts.drop (p + 1)))) :
 ak ts q d sB (fun k => (aH.f ts (p : Int) false w).bind (G k)) (bnd Par.tk f (ts.drop p)) := by
 obtain ⟨t, r, e⟩ := Dh (l := ts.drop p) (by rw [hwd]; exact hw)
 obtain ⟨h1, _, h3⟩ := uk ts p t r e
 rw [yl ts p (by omega) w hw, if_pos hwd]
 have := hok (by omega)
 rw [h3] at this
 rw [e]
 exact this
theorem ak.done {α : Type} {ts : List S56} {q p d : Nat} {sz : α → Nat} {F : Nat → Option (α × Int × Bool)} (x : α) (hq : q ≤ p) (hp : p ≤ ts.length) (hs : sz x ≤ 2 * (p - q)) (h : ag F (x, (p : Int), false)) : ak ts q d sz F (.ok (x, ts.drop p)) := ⟨p, hq, hp, rfl, hs, h⟩
end Go.Proofs.Ytlenihbmafkegaa.Par
end
section
set_option linter.unusedVariables false
set_option linter.unusedSimpArgs false
namespace Go.Proofs.Ytlenihbmafkegaa.Par
open Go Go.RowKit Go.Proofs.YtlenihbmafkegaaW.PrintWords Go.Proofs.Ytlenihbmafkegaa.Q Go.Proofs.Ytlenihbmafkegaa.Lex Go.Proofs.Ytlenihbmafkegaa.Tree
def TB (l : List S56) : Prop := ∀ t ∈ l, t.f1.size ≤ 3000 ∧ t.f2 ≤ 9223372036854775807
def KT (e : List S40) : Prop := (∃ D, Fo e 1 D) ∧ ∀ x ∈ e, (x.f2.size ≤ 3000 ∧ x.f4.size ≤ 3000) ∧ x.f3 ≤ 9223372036854775807
def KN (e : List S40) : Prop := KT e ∧ ∀ x t, e = x :: t → x.f0 = 26 → x.f1 = 2
def KL (ks : List (List S40)) : Prop := ∀ e ∈ ks, KT e
/-- An answer: what is read is so, and fewer tokens are left than so many. -/
def Fn {α : Type} (K : α → Prop) (b : Nat) : R α → Prop
 | .ok (x, r) => r.length < b ∧ TB r ∧ K x
 | .error (some _) => True
 | .error none => False
theorem Fn.bind {α β : Type} {p : Ps α} {f : α → Ps β} {l : List S56} {b c : Nat} {K : α → Prop} {K' : β → Prop} (h : Fn K b (p l)) (g : ∀ x r, r.length < b → TB r → K x → Fn K' c (f x r)) : Fn K' c (bnd p f l) := by
 unfold bnd
 match hp : p l, h with
 | .ok (x, r), ⟨h1, h2, h3⟩ => exact g x r h1 h2 h3
 | .error (some r), _ => trivial
theorem Fn.weak {α : Type} {K K' : α → Prop} {b c : Nat} {r : R α} (h : Fn K b r) (hb : b ≤ c) (hk : ∀ x, K x → K' x) : Fn K' c r := by
 match r, h with
 | .ok (x, r), ⟨h1, h2, h3⟩ => exact ⟨by omega, h2, hk x h3⟩
 | .error (some r), _ => trivial
theorem TB.tail {t : S56} {r : List S56} (h : TB (t :: r)) : TB r := fun x hx => h x (List.mem_cons_of_mem _ hx)
theorem jh (w : List UInt8) (hw : w ≠ []) (l : List S56) (h : TB l) : Fn (fun _ => True) l.length (must w l) := by
 unfold must
 by_cases c : wd l = w
 ·rw [if_pos c]
  cases l with
  | nil => exact absurd (nz.symm.trans c).symm hw
  | cons t r => exact ⟨by simp, h.tail, trivial⟩
 rw [if_neg c]; trivial
theorem o8 (k : Int) (l : List S56) (h : TB l) : Fn (fun t => t.f1.size ≤ 3000 ∧ t.f2 ≤ 9223372036854775807) l.length (need k l) := by
 cases l with
 | nil => trivial
 | cons t r =>
  unfold need
  by_cases c : t.f0 = k
  ·simp only [if_pos c]; exact ⟨by simp, h.tail, h t List.mem_cons_self⟩
  simp only [if_neg c]; trivial
theorem nX (l : List S56) (h : TB l) (w : List UInt8) (c : wd l = w) (hw : w ≠ []) : Fn (fun _ => True) l.length (tk l) := by
 cases l with
 | nil => exact absurd (nz.symm.trans c).symm hw
 | cons t r => exact ⟨by simp, h.tail, trivial⟩
theorem Fo.app {u v : List S40} {a b D1 D2 : Nat} (h : Fo u a D1) (g : Fo v b D2) : ∃ D, Fo (u ++ v) (a + b) D := by
 induction h with
 | nil => exact ⟨D2, by rw [List.nil_append, Nat.zero_add]; exact g⟩
 | cons x t v' w D1 D2' hx ht hv ih1 ih2 =>
  obtain ⟨D, hD⟩ := ih2
  refine ⟨max (1 + D1) D, ?_⟩
  have := Fo.cons x t _ _ _ _ hx ht hD
  rw [List.cons_append, List.append_assoc, Nat.add_right_comm]
  exact this
theorem KL.fo : ∀ {ks : List (List S40)}, KL ks → ∃ D, Fo ks.flatten ks.length D
 | [], _ => ⟨0, Fo.nil⟩
 | e :: ks, h => by
  obtain ⟨⟨D1, h1⟩, _⟩ := h e List.mem_cons_self
  obtain ⟨D2, h2⟩ := KL.fo (ks := ks) (fun x hx => h x (List.mem_cons_of_mem _ hx))
  obtain ⟨D, hD⟩ := Fo.app h1 h2
  exact ⟨D, by rw [List.flatten_cons, List.length_cons, Nat.add_comm]; exact hD⟩
theorem mM {k : Int} {nm : ByteArray} {n : Int} {tx : ByteArray} {ks : List (List S40)} (h : KL ks) (hnm : nm.size ≤ 3000) (htx : tx.size ≤ 3000) (h26 : k ≠ 26 ∨ ks.length = 2) (h3 : n ≤ 9223372036854775807 := by omega) : KN (nd k nm n tx ks) := by
 obtain ⟨D, hD⟩ := h.fo
 refine ⟨⟨⟨max (1 + D) 0, ?_⟩, ?_⟩, ?_⟩
 ·have := Fo.cons (⟨k, (ks.length : Int), nm, n, tx⟩ : S40) ks.flatten [] 0 D 0 (by simp) (by simpa using hD) Fo.nil
  rw [List.append_nil] at this
  exact this
 ·intro x hx
  rcases List.mem_cons.1 hx with rfl | hx
  ·exact ⟨⟨hnm, htx⟩, h3⟩
  obtain ⟨e, he, hx⟩ := List.mem_flatten.1 hx
  exact (h e he).2 x hx
 intro x t e hk
 obtain ⟨rfl, _⟩ := List.cons.inj e
 rcases h26 with h | h
 ·exact absurd hk h
 show ((ks.length : Nat) : Int) = 2
 omega
theorem KL.nil : KL [] := fun e he => by cases he
theorem KL.one {e : List S40} (h : KT e) : KL [e] := fun x hx => by rw [List.mem_singleton.1 hx]; exact h
theorem KL.cons {e : List S40} {ks : List (List S40)} (h : KT e) (g : KL ks) : KL (e :: ks) := fun x hx => by
 rcases List.mem_cons.1 hx with rfl | hx
 ·exact h
 exact g x hx
theorem KL.app {ks us : List (List S40)} (g : KL ks) (h : KL us) : KL (ks ++ us) := fun x hx => by
 rcases List.mem_append.1 hx with hx | hx
 ·exact g x hx
 exact h x hx
theorem eQ : E.size ≤ 3000 := by show (0 : Nat) ≤ 3000; omega
theorem uV {l rest : List S40} {x : S40} {t : List S40} {p D1 : Nat} (hx : 0 ≤ x.f1) (ht : Fo t x.f1.toNat D1) (hd : l.drop p = (x :: t) ++ rest) (hn : ∀ y ∈ x :: t, ¬ ((l.length : Int) < y.f1)) : sH l (p : Int) = x :: t := by
 unfold sH
 rw [ou hx ht hd hn, if_neg (by omega), Int.toNat_natCast, Int.toNat_natCast]
 have hlen : p + (x :: t).length ≤ l.length := by
  have := congrArg List.length hd
  rw [List.length_drop, List.length_append] at this
  simp only [List.length_cons] at this ⊢
  omega
 rw [FO hlen, hd, List.take_left]
theorem J9 {e : List S40} (h : KN e) {x : S40} {t : List S40} (he : e = x :: t) (hk : x.f0 = 26) : ∃ a b, rq e = some (a, b) ∧ KT a ∧ KT b := by
 obtain ⟨⟨⟨D, hF⟩, hs⟩, h26⟩ := h
 have h2 := h26 x t he hk
 subst he
 obtain ⟨x', t', D1, e', _, hx, ht⟩ := hF.one
 obtain ⟨rfl, rfl⟩ := List.cons.inj e'
 have ht' : Fo t (1 + 1) D1 := by rw [h2] at ht; exact ht
 obtain ⟨u1, u2, D2, D3, rfl, hu1, hu2, _⟩ := Fo.split 1 1 _ _ ht'
 obtain ⟨x1, t1, E1, rfl, _, hx1, ht1⟩ := hu1.one
 obtain ⟨x2, t2, E2, rfl, _, hx2, ht2⟩ := hu2.one
 have hn : ∀ y ∈ x :: ((x1 :: t1) ++ (x2 :: t2)), ¬ (((x :: ((x1 :: t1) ++ (x2 :: t2))).length : Int) < y.f1) := fun y hy => by have := hF.kids y hy; omega
 have m1 : ∀ y ∈ x1 :: t1, y ∈ x :: ((x1 :: t1) ++ (x2 :: t2)) := fun y hy => List.mem_cons_of_mem _ (List.mem_append.2 (Or.inl hy))
 have m2 : ∀ y ∈ x2 :: t2, y ∈ x :: ((x1 :: t1) ++ (x2 :: t2)) := fun y hy => List.mem_cons_of_mem _ (List.mem_append.2 (Or.inr hy))
 have d1 : (x :: ((x1 :: t1) ++ (x2 :: t2))).drop 1 = (x1 :: t1) ++ (x2 :: t2) := rfl
 have d2 : (x :: ((x1 :: t1) ++ (x2 :: t2))).drop (1 + (x1 :: t1).length) = (x2 :: t2) ++ [] := by
  rw [Nat.add_comm, List.drop_succ_cons, List.drop_left, List.append_nil]
 have e0 : jS (x :: ((x1 :: t1) ++ (x2 :: t2))) ((0 : Nat) : Int) = _ := ou (rest := []) hx ht (by rw [List.drop_zero, List.append_nil]) hn
 have e1 := ou (p := 1) hx1 ht1 d1 (fun y hy => hn y (m1 y hy))
 have s1 := uV (p := 1) hx1 ht1 d1 (fun y hy => hn y (m1 y hy))
 have s2 := uV hx2 ht2 d2 (fun y hy => hn y (m2 y hy))
 refine ⟨x1 :: t1, x2 :: t2, ?_, ⟨⟨_, hu1⟩, fun y hy => hs y (m1 y hy)⟩, ⟨⟨_, hu2⟩, fun y hy => hs y (m2 y hy)⟩⟩
 have hk : pG (x :: ((x1 :: t1) ++ (x2 :: t2))) 0 = [((1 : Nat) : Int), ((1 + (x1 :: t1).length : Nat) : Int)] := by
  unfold pG
  rw [if_neg (by rw [show (0 : Int) = ((0 : Nat) : Int) from rfl, e0]; omega)]
  rw [show (au (x :: ((x1 :: t1) ++ (x2 :: t2))) 0).f1 = x.f1 from rfl, h2]
  show [(0 + 1 : Int), jS _ (0 + 1)] = _
  rw [show (0 + 1 : Int) = ((1 : Nat) : Int) from rfl, e1]
 unfold rq
 rw [hk]
 simp only [s1, s2]
end Go.Proofs.Ytlenihbmafkegaa.Par
end
section
set_option linter.unusedVariables false
set_option linter.unusedSimpArgs false
namespace Go.Proofs.Ytlenihbmafkegaa.Show
open Go Go.RowKit Go.Proofs.YtlenihbmafkegaaW.PrintWords Go.Proofs.Ytlenihbmafkegaa.Q Go.Proofs.Ytlenihbmafkegaa.Lex Go.Proofs.Ytlenihbmafkegaa.Tree Go.Proofs.Ytlenihbmafkegaa.Par
theorem GV {e1 e2 : List S40} {D1 D2 : Nat} (hu1 : Fo e1 1 D1) (hu2 : Fo e2 1 D2) : rq (nd 26 E 0 E [e1, e2]) = some (e1, e2) := by
 obtain ⟨D, hD⟩ := Fo.app hu1 hu2
 obtain ⟨x1, t1, E1, rfl, _, hx1, ht1⟩ := hu1.one
 obtain ⟨x2, t2, E2, rfl, _, hx2, ht2⟩ := hu2.one
 have he : nd 26 E 0 E [x1 :: t1, x2 :: t2] = (⟨26, 2, E, 0, E⟩ : S40) :: ((x1 :: t1) ++ (x2 :: t2)) := by simp [nd]
 have hF := Fo.cons (⟨26, 2, E, 0, E⟩ : S40) ((x1 :: t1) ++ (x2 :: t2)) [] 0 D 0 (by simp) (by simpa using hD) Fo.nil
 rw [List.append_nil] at hF
 rw [he]
 generalize hx : (⟨26, 2, E, 0, E⟩ : S40) = x at hF
 have h2 : x.f1 = 2 := by rw [← hx]
 have hx : 0 ≤ x.f1 := by omega
 have ht : Fo ((x1 :: t1) ++ (x2 :: t2)) x.f1.toNat D := by rw [h2]; exact hD
 have hn : ∀ y ∈ x :: ((x1 :: t1) ++ (x2 :: t2)), ¬ (((x :: ((x1 :: t1) ++ (x2 :: t2))).length : Int) < y.f1) := fun y hy => by have := hF.kids y hy; omega
 have m1 : ∀ y ∈ x1 :: t1, y ∈ x :: ((x1 :: t1) ++ (x2 :: t2)) := fun y hy => List.mem_cons_of_mem _ (List.mem_append.2 (Or.inl hy))
 have m2 : ∀ y ∈ x2 :: t2, y ∈ x :: ((x1 :: t1) ++ (x2 :: t2)) := fun y hy => List.mem_cons_of_mem _ (List.mem_append.2 (Or.inr hy))
 have d1 : (x :: ((x1 :: t1) ++ (x2 :: t2))).drop 1 = (x1 :: t1) ++ (x2 :: t2) := rfl
 have d2 : (x :: ((x1 :: t1) ++ (x2 :: t2))).drop (1 + (x1 :: t1).length) = (x2 :: t2) ++ [] := by
  rw [Nat.add_comm, List.drop_succ_cons, List.drop_left, List.append_nil]
 have e0 : jS (x :: ((x1 :: t1) ++ (x2 :: t2))) ((0 : Nat) : Int) = _ := ou (rest := []) hx ht (by rw [List.drop_zero, List.append_nil]) hn
 have e1 := ou (p := 1) hx1 ht1 d1 (fun y hy => hn y (m1 y hy))
 have s1 := uV (p := 1) hx1 ht1 d1 (fun y hy => hn y (m1 y hy))
 have s2 := uV hx2 ht2 d2 (fun y hy => hn y (m2 y hy))
 have hk : pG (x :: ((x1 :: t1) ++ (x2 :: t2))) 0 = [((1 : Nat) : Int), ((1 + (x1 :: t1).length : Nat) : Int)] := by
  unfold pG
  rw [if_neg (by rw [show (0 : Int) = ((0 : Nat) : Int) from rfl, e0]; omega)]
  rw [show (au (x :: ((x1 :: t1) ++ (x2 :: t2))) 0).f1 = x.f1 from rfl, h2]
  show [(0 + 1 : Int), jS _ (0 + 1)] = _
  rw [show (0 + 1 : Int) = ((1 : Nat) : Int) from rfl, e1]
 unfold rq
 rw [hk]
 simp only [s1, s2]
/-- A statement's tokens are read, whatever stands behind but an else. -/
structure SR (e : List S40) (tk : List S56) : Prop where
 word : ∀ r, wd (tk ++ r) ≠ [125] ∧ wd (tk ++ r) ≠ [101, 108, 115, 101]
 reads : ∃ N0, ∀ N, N0 ≤ N → ∀ r, wd r ≠ [101, 108, 115, 101] → Par.jc (fU N) (tk ++ r) = .ok (e, r)
inductive SRs : List (List S40) → List (List S56) → Prop
 | nil : SRs [] []
 | cons {e tk es tks} (h : SR e tk) (t : SRs es tks) : SRs (e :: es) (tk :: tks)
structure BR (e : List S40) (tk : List S56) : Prop where
 first : ∃ q, tk = W [123] :: q
 reads : ∃ N0, ∀ N, N0 ≤ N → ∀ r, (fU N).block (tk ++ r) = .ok (e, r)
theorem CU {es : List (List S40)} {tks : List (List S56)} (h : SRs es tks) : ∃ N0, ∀ N, N0 ≤ N → ∀ r acc m, nU (fU N) (m + es.length + 1) acc (tks.flatten ++ W [125] :: r) = .ok (nd 5 E 0 E (acc ++ es), r) := by
 induction h with
 | nil => exact ⟨0, fun N _ r acc m => by
  rw [nU]
  show (if wd (W [125] :: r) = [125] then _ else _) = _
  rw [jr r, if_pos rfl, bM (show must [125] (([] : List (List S56)).flatten ++ W [125] :: r) = _ from iw r)]; simp [ret]⟩
 | @cons e tk es tks h t ih =>
  obtain ⟨N1, h1⟩ := ih
  obtain ⟨N2, h2⟩ := h.reads
  refine ⟨N1 + N2, fun N hN r acc m => ?_⟩
  have hw : wd (tks.flatten ++ W [125] :: r) ≠ [101, 108, 115, 101] := by
   cases t with
   | nil => show wd (W [125] :: r) ≠ _; rw [jr]; decide
   | cons h' t' => rw [List.flatten_cons, List.append_assoc]; exact (h'.word _).2
  rw [List.length_cons, ← Nat.add_assoc, nU, List.flatten_cons, List.append_assoc]
  (try dsimp only)
  rw [if_neg (h.word _).1, bM (h2 N (by omega) _ hw), h1 N (by omega) r (acc ++ [e]) m]
  simp
theorem H8 {es : List (List S40)} {tks : List (List S56)} (h : SRs es tks) : BR (nd 5 E 0 E es) (W [123] :: (tks.flatten ++ [W [125]])) := by
 obtain ⟨N1, h1⟩ := CU h
 refine ⟨⟨_, rfl⟩, N1 + es.length + 3, fun N hN r => ?_⟩
 obtain ⟨M, rfl⟩ : ∃ M, N = M + 1 := ⟨N - 1, by omega⟩
 show pz (fU M) M _ = _
 unfold pz
 rw [List.cons_append, bM (iw _), show tks.flatten ++ [W [125]] ++ r = tks.flatten ++ W [125] :: r by simp]
 obtain ⟨m, hm⟩ : ∃ m, M = m + es.length + 1 := ⟨M - es.length - 1, by omega⟩
 conv => lhs; arg 2; rw [hm]
 rw [h1 M (by omega) r [] m]
 rfl
/-- Parameters and a block. -/
inductive PRs : List (List S40) → List (List S56) → Prop
 | nil : PRs [] []
 | cons {s es tks} (h : dS (L s) = true) (t : PRs es tks) : PRs (nd 4 s 0 E [] :: es) ([ofT s] :: tks)
theorem PRs.lrs {es : List (List S40)} {tks : List (List S56)} (h : PRs es tks) : LRs (fun _ => nK) es tks := by
 induction h with
 | nil => exact .nil
 | cons h t ih => exact .cons (BG h) ih
theorem Au {es : List (List S40)} {tks : List (List S56)} {b : List S40} {tb : List S56} (k : Int) (nm : ByteArray) (h : PRs es tks) (hb : BR b tb) : ∃ N0, ∀ N, N0 ≤ N → ∀ r, iR (fU N) N k nm (qU (tks ++ [tb]) ++ r) = .ok (nd k nm 0 E (es ++ [b]), r) := by
 obtain ⟨N1, h1⟩ := wz h.lrs
 obtain ⟨N2, h2⟩ := hb.reads
 refine ⟨N1 + N2 + 1, fun N hN r => ?_⟩
 unfold iR qU
 rw [List.dropLast_concat, List.getLastD_concat, List.append_assoc, bM (h1 N (by omega) _)]
 have e1 : pz (fU N) N (tb ++ r) = .ok (b, r) := h2 (N + 1) (by omega) r
 rw [bM e1]
 rfl
theorem Oc {es : List (List S40)} {tks : List (List S56)} {b : List S40} {tb : List S56} (h : PRs es tks) (hb : BR b tb) : ER (nd 24 E 0 E (es ++ [b])) (W [102, 110] :: qU (tks ++ [tb])) := by
 obtain ⟨N0, h0⟩ := Au 24 E h hb
 refine ER.mJ rfl (fun r => Z20) ⟨N0, fun N hN r _ => ?_⟩
 unfold lW
 rw [List.cons_append, jr, if_neg (by decide), if_neg (by decide), if_neg (by decide), if_pos rfl, bM (gu _ _), h0 N hN r]
theorem qA {e : List S40} {tk : List S56} (k : Int) (nm : ByteArray) (h : ER e tk) : ∃ N0, ∀ N, N0 ≤ N → ∀ r, iM (fU N) k nm (tk ++ [W [59]] ++ r) = .ok (nd k nm 0 E [e], r) := by
 obtain ⟨N0, h0⟩ := h.expr
 refine ⟨N0, fun N hN r => ?_⟩
 unfold iM
 rw [show tk ++ [W [59]] ++ r = tk ++ W [59] :: r by simp, bM (h0 N hN _ (shut r (by simp)).1 (shut r (by simp)).2.1 (shut r (by simp)).2.2), bM (iw r)]
 rfl
theorem Lr {e : List S40} {tk : List S56} {s : ByteArray} (hs : dS (L s) = true) (h : ER e tk) : SR (nd 6 s 0 E [e]) ([W [108, 101, 116], ofT s, W [61]] ++ tk ++ [W [59]]) := by
 obtain ⟨N0, h0⟩ := qA 6 s h
 refine ⟨fun r => by simp only [List.append_assoc, List.cons_append]; rw [jr]; decide, N0, fun N hN r _ => ?_⟩
 unfold Par.jc
 simp only [List.append_assoc, List.cons_append, List.nil_append]
 rw [jr, if_pos rfl, bM (gu _ _), bM (jX _ hs), bM (iw _)]
 have := h0 N hN r
 simp only [List.append_assoc, List.cons_append, List.nil_append] at this
 exact this
theorem Bv {e : List S40} {tk : List S56} (k : Int) (w : List UInt8) (hw : (w, k) ∈ ([([114, 101, 116, 117, 114, 110], 13), ([112, 117, 116], 14), ([101, 109, 105, 116], 15)] : List (List UInt8 × Int))) (h : ER e tk) : SR (nd k E 0 E [e]) (W w :: (tk ++ [W [59]])) := by
 obtain ⟨N0, h0⟩ := qA k E h
 simp only [List.mem_cons, Prod.mk.injEq, List.not_mem_nil, or_false] at hw
 have hn : dS w = false := by rcases hw with ⟨rfl, _⟩ | ⟨rfl, _⟩ | ⟨rfl, _⟩ <;> decide
 refine ⟨fun r => by rw [List.cons_append, jr _ hn]; rcases hw with ⟨rfl, _⟩ | ⟨rfl, _⟩ | ⟨rfl, _⟩ <;> decide, N0, fun N hN r _ => ?_⟩
 unfold Par.jc
 rw [List.cons_append, jr _ hn]
 rcases hw with ⟨rfl, rfl⟩ | ⟨rfl, rfl⟩ | ⟨rfl, rfl⟩
 ·rw [if_neg (by decide), if_neg (by decide), if_neg (by decide), if_neg (by decide), if_neg (by decide), if_neg (by decide), if_pos rfl, bM (gu _ _), h0 N hN r]
 ·rw [if_neg (by decide), if_neg (by decide), if_neg (by decide), if_neg (by decide), if_neg (by decide), if_neg (by decide), if_neg (by decide), if_pos rfl, bM (gu _ _), h0 N hN r]
 rw [if_neg (by decide), if_neg (by decide), if_neg (by decide), if_neg (by decide), if_neg (by decide), if_neg (by decide), if_neg (by decide), if_neg (by decide), if_pos rfl, bM (gu _ _), h0 N hN r]
theorem yu (k : Int) (w : List UInt8) (hw : (w, k) ∈ ([([98, 114, 101, 97, 107], 11), ([99, 111, 110, 116, 105, 110, 117, 101], 12), ([121, 105, 101, 108, 100], 16)] : List (List UInt8 × Int))) : SR (nd k E 0 E []) [W w, W [59]] := by
 simp only [List.mem_cons, Prod.mk.injEq, List.not_mem_nil, or_false] at hw
 have hn : dS w = false := by rcases hw with ⟨rfl, _⟩ | ⟨rfl, _⟩ | ⟨rfl, _⟩ <;> decide
 refine ⟨fun r => by rw [List.cons_append, jr _ hn]; rcases hw with ⟨rfl, _⟩ | ⟨rfl, _⟩ | ⟨rfl, _⟩ <;> decide, 0, fun N hN r _ => ?_⟩
 unfold Par.jc pO
 rw [List.cons_append, jr _ hn]
 rcases hw with ⟨rfl, rfl⟩ | ⟨rfl, rfl⟩ | ⟨rfl, rfl⟩
 ·rw [if_neg (by decide), if_neg (by decide), if_neg (by decide), if_pos rfl, bM (gu _ _), List.singleton_append, bM (iw r)]; rfl
 ·rw [if_neg (by decide), if_neg (by decide), if_neg (by decide), if_neg (by decide), if_pos rfl, bM (gu _ _), List.singleton_append, bM (iw r)]; rfl
 rw [if_neg (by decide), if_neg (by decide), if_neg (by decide), if_neg (by decide), if_neg (by decide), if_pos rfl, bM (gu _ _), List.singleton_append, bM (iw r)]; rfl
/-- What begins with an expression's tokens goes to plain. -/
theorem rH {tk : List S56} {N : Nat} (h : ∀ r, wd (tk ++ r) ∉ II) (r : List S56) : Par.jc (fU N) (tk ++ r) = o7 (fU N) (tk ++ r) := by
 have hw := h r
 simp only [II, List.mem_cons, not_or] at hw
 unfold Par.jc
 rw [if_neg (by simp [hw]), if_neg (by simp [hw]), if_neg (by simp [hw]), if_neg (by simp [hw]), if_neg (by simp [hw]), if_neg (by simp [hw]), if_neg (by simp [hw]), if_neg (by simp [hw]), if_neg (by simp [hw])]
theorem rE {tk : List S56} (h : ∀ r, wd (tk ++ r) ∉ II) (r : List S56) : wd (tk ++ r) ≠ [125] ∧ wd (tk ++ r) ≠ [101, 108, 115, 101] := by
 have hw := h r
 simp only [II, List.mem_cons, not_or] at hw
 exact ⟨by simp [hw], by simp [hw]⟩
theorem NE {e : List S40} {tk : List S56} (h : ER e tk) : SR (nd 17 E 0 E [e]) (tk ++ [W [59]]) := by
 obtain ⟨N0, h0⟩ := h.expr
 refine ⟨fun r => by rw [List.append_assoc]; exact rE h.word _, N0, fun N hN r _ => ?_⟩
 rw [List.append_assoc, rH h.word, List.singleton_append]
 unfold o7
 rw [bM (h0 N hN _ (shut r (by simp)).1 (shut r (by simp)).2.1 (shut r (by simp)).2.2)]
 unfold qg
 rw [jr, if_pos (by decide), bM (iw r)]
 rfl
theorem Ey {e : List S40} {tk : List S56} {s : ByteArray} (hs : dS (L s) = true) (h : ER e tk) : SR (nd 7 s 0 E [e]) ([ofT s, W [61]] ++ tk ++ [W [59]]) := by
 obtain ⟨N0, h0⟩ := qA 7 s h
 obtain ⟨N1, h1⟩ := (vk hs).expr
 refine ⟨fun r => by simp only [List.append_assoc, List.cons_append]; exact rE (vk hs).word _, N0 + N1, fun N hN r _ => ?_⟩
 have := rH (N := N) (vk hs).word (W [61] :: (tk ++ [W [59]] ++ r))
 simp only [List.append_assoc, List.cons_append, List.nil_append] at this ⊢
 rw [this]
 unfold o7
 have e1 := h1 N (by omega) (W [61] :: (tk ++ W [59] :: r)) (shut _ (by simp)).1 (shut _ (by simp)).2.1 (shut _ (by simp)).2.2
 rw [List.singleton_append] at e1
 rw [bM e1]
 unfold qg nd
 rw [jr, if_neg (by decide)]
 (try dsimp only)
 rw [if_pos rfl, bM (iw _)]
 have := h0 N (by omega) r
 simp only [List.append_assoc, List.cons_append, List.nil_append] at this
 exact this
theorem FQ {e e2 e3 : List S40} {tk tk2 tk3 : List S56} {D1 D2 : Nat} (f1 : Fo e 1 D1) (f2 : Fo e2 1 D2) (h : ER e tk) (h2 : ER e2 tk2) (h3 : ER e3 tk3) : SR (nd 8 E 0 E [e, e2, e3]) (tk ++ [W [91]] ++ tk2 ++ [W [93], W [61]] ++ tk3 ++ [W [59]]) := by
 have hI := AO h h2
 obtain ⟨N0, h0⟩ := hI.expr
 obtain ⟨N1, h1⟩ := h3.expr
 have el : ∀ r, tk ++ [W [91]] ++ tk2 ++ [W [93], W [61]] ++ tk3 ++ [W [59]] ++ r = (tk ++ [W [91]] ++ tk2 ++ [W [93]]) ++ W [61] :: (tk3 ++ W [59] :: r) := fun r => by simp
 refine ⟨fun r => by rw [el]; exact rE hI.word _, N0 + N1, fun N hN r _ => ?_⟩
 rw [el, rH hI.word]
 unfold o7
 rw [bM (h0 N (by omega) _ (shut _ (by simp)).1 (shut _ (by simp)).2.1 (shut _ (by simp)).2.2)]
 unfold qg
 rw [jr, if_neg (by decide)]
 show (if (26 : Int) = 21 then _ else if (26 : Int) = 26 then pY (fU N) (nd 26 E 0 E [e, e2]) _ else _) = _
 rw [if_neg (by decide), if_pos rfl]
 unfold pY
 rw [GV f1 f2]
 (try dsimp only)
 rw [bM (iw _), bM (h1 N (by omega) _ (shut r (by simp)).1 (shut r (by simp)).2.1 (shut r (by simp)).2.2), bM (iw r)]
 rfl
theorem BR.shut {b : List S40} {tb : List S56} (h : BR b tb) (r : List S56) : Fr (tb ++ r) ∧ Po (tb ++ r) ∧ gG (wd (tb ++ r)) = 0 := by
 obtain ⟨q, rfl⟩ := h.first
 exact Show.shut _ (by simp)
theorem FP {e b : List S40} {tk tb : List S56} (h : ER e tk) (hb : BR b tb) : SR (nd 10 E 0 E [e, b]) (W [119, 104, 105, 108, 101] :: (tk ++ tb)) := by
 obtain ⟨N0, h0⟩ := h.expr
 obtain ⟨N1, h1⟩ := hb.reads
 refine ⟨fun r => Z20, N0 + N1, fun N hN r _ => ?_⟩
 unfold Par.jc
 rw [List.cons_append, jr, if_neg (by decide), if_neg (by decide), if_pos rfl, bM (gu _ _), List.append_assoc, bM (h0 N (by omega) _ (hb.shut r).1 (hb.shut r).2.1 (hb.shut r).2.2), bM (h1 N (by omega) r)]
 rfl
theorem ND {e b : List S40} {tk tb : List S56} (h : ER e tk) (hb : BR b tb) : SR (nd 9 E 0 E [e, b]) (W [105, 102] :: (tk ++ tb)) := by
 obtain ⟨N0, h0⟩ := h.expr
 obtain ⟨N1, h1⟩ := hb.reads
 refine ⟨fun r => Z20, N0 + N1, fun N hN r hr => ?_⟩
 unfold Par.jc
 rw [List.cons_append, jr, if_neg (by decide), if_pos rfl, bM (gu _ _), List.append_assoc, bM (h0 N (by omega) _ (hb.shut r).1 (hb.shut r).2.1 (hb.shut r).2.2), bM (h1 N (by omega) r)]
 (try dsimp only)
 rw [if_neg hr]
theorem IY {e b c : List S40} {tk tb tc : List S56} (h : ER e tk) (hb : BR b tb) (hc : BR c tc) : SR (nd 9 E 0 E [e, b, c]) (W [105, 102] :: (tk ++ tb ++ W [101, 108, 115, 101] :: tc)) := by
 obtain ⟨N0, h0⟩ := h.expr
 obtain ⟨N1, h1⟩ := hb.reads
 obtain ⟨N2, h2⟩ := hc.reads
 refine ⟨fun r => Z20, N0 + N1 + N2, fun N hN r hr => ?_⟩
 unfold Par.jc
 rw [List.cons_append, jr, if_neg (by decide), if_pos rfl, bM (gu _ _), List.append_assoc, List.append_assoc, bM (h0 N (by omega) _ (hb.shut _).1 (hb.shut _).2.1 (hb.shut _).2.2), bM (h1 N (by omega) _)]
 (try dsimp only)
 rw [List.cons_append, jr, if_pos rfl, bM (gu _ _), bM (h2 N (by omega) r)]
 rfl
end Go.Proofs.Ytlenihbmafkegaa.Show
end
