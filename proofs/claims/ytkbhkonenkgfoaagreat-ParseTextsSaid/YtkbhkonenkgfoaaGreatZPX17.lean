/- Walks over functions of the program, words for them, and what the functions come to; of each text only what this claim uses; no condition. -/
import Derived.Test.YtkbhkonenkgfoaaGreatZPX0
import Derived.Test.YtkbhkonenkgfoaaGreatZPX8
import Derived.Test.YtkbhkonenkgfoaaGreatZPX9
import Derived.Test.YtkbhkonenkgfoaaGreatZPX12
import Derived.Test.YtkbhkonenkgfoaaGreatZPX13
import Derived.Test.YtkbhkonenkgfoaaGreatZPX15
import Derived.Test.YtkbhkonenkgfoaaGreatZPX16
section
set_option linter.unusedVariables false
set_option linter.unusedSimpArgs false
namespace Go.Proofs.YtkbhkonenkgfoaaGreat.Lex
open Go Go.RowKit Go.Proofs.YtkbhkonenkgfoaaGreatW.PrintWords Go.Proofs.YtkbhkonenkgfoaaGreat.Q
def nums (l : List UInt8) : List Int := l.map fun c => (c.toNat : Int)
theorem tZ (a b : List UInt8) : nums (a ++ b) = nums a ++ nums b := by simp [nums]
theorem pJ (a : List UInt8) : (nums a).length = a.length := by simp [nums]
theorem Hg (l : List UInt8) : strOfNums (nums l) = S l := by
 apply yO
 rw [Hy, L_S, nums, List.map_map]
 conv => rhs; rw [← List.map_id l]
 apply List.map_congr_left
 intro a _
 simp
theorem inc (i n : Nat) (h : i + 1 ≤ 9223372036854775807) : wrap64 ((i : Int) + 1) = ((i + 1 : Nat) : Int) := by
 rw [w64 _ (by omega)]; omega
/-! quoted -/
theorem Bh (c : UInt8) : kU.f (c.toNat : Int) = some (match esc c with | some x => ((x.toNat : Int), true) | none => (0, false)) := by
 have e1 : ((c.toNat : Int) = 110) ↔ c = 110 := je c 110
 have e2 : ((c.toNat : Int) = 34) ↔ c = 34 := je c 34
 have e3 : ((c.toNat : Int) = 92) ↔ c = 92 := je c 92
 unfold kU.f esc
 by_cases c1 : c = 110
 ·rw [if_pos (e1.2 c1), if_pos c1]; rfl
 rw [if_neg (fun h => c1 (e1.1 h)), if_neg c1]
 by_cases c2 : c = 34
 ·rw [if_pos (e2.2 c2), if_pos c2, c2]
 rw [if_neg (fun h => c2 (e2.1 h)), if_neg c2]
 by_cases c3 : c = 92
 ·rw [if_pos (e3.2 c3), if_pos c3, c3]
 rw [if_neg (fun h => c3 (e3.1 h)), if_neg c3]
def lQ (size : Nat) (acc : List UInt8) : Option (List UInt8 × List UInt8) → ByteArray × Int
 | some (x, r) => (S (acc ++ x), ((size - r.length : Nat) : Int))
 | none => ((⟨#[]⟩ : ByteArray), 0)
theorem tK (size : Nat) (acc : List UInt8) (c : UInt8) (o : Option (List UInt8 × List UInt8)) : lQ size acc (o.map fun r => (c :: r.1, r.2)) = lQ size (acc ++ [c]) o := by
 cases o with
 | none => rfl
 | some r => simp [lQ]
theorem FH (s : ByteArray) (hs : s.size ≤ 140737488351232) : ∀ (m i : Nat) (acc : List UInt8) (b : Bool), s.size = m + i → acc.length + m < 140737488355328 →
 af (fun k => eP.l0 k s (nums acc) b (i : Int)) (lQ s.size acc (unq b ((L s).drop i))) := by
 intro m
 induction m with
 | zero =>
  intro i acc b h1 h2
  rw [List.drop_eq_nil_of_le (by rw [← ed]; omega)]
  have : unq b [] = none := by cases b <;> rfl
  rw [this]
  refine af.step (G := fun _ => some (lQ s.size acc none)) (fun k => ?_) af.now
  simp only [eP.l0]
  rw [if_neg (by omega)]; rfl
 | succ m ih =>
  intro i acc b h1 h2
  have hd := jo (L s) i (by rw [← ed]; omega)
  have hb := uy s i
  generalize (L s).getD i 0 = c at hd hb
  have e1 : ((c.toNat : Int) = 34) ↔ c = 34 := je c 34
  have e2 : ((c.toNat : Int) = 10) ↔ c = 10 := je c 10
  have e3 : ((c.toNat : Int) = 92) ↔ c = 92 := je c 92
  rw [hd]
  cases b with
  | true =>
   simp only [unq]
   cases he : esc c with
   | none =>
    refine af.step (G := fun _ => some (lQ s.size acc none)) (fun k => ?_) af.now
    simp only [eP.l0]
    rw [if_pos (by omega), if_pos (by omega), if_pos trivial, hb, Bh, he]
    simp only [Option.bind_some]
    rfl
   | some x =>
    simp only [tK]
    refine af.step (G := fun k => eP.l0 k s (nums (acc ++ [x])) false ((i + 1 : Nat) : Int)) (fun k => ?_) (ih (i + 1) (acc ++ [x]) false (by omega) (by simp; omega))
    conv => lhs; simp only [eP.l0]
    rw [if_pos (by omega), if_pos (by omega), if_pos trivial, hb, Bh, he]
    simp only [Option.bind_some]
    rw [if_pos trivial, if_pos (by rw [pJ]; omega), inc i 0 (by omega), tZ]; rfl
  | false =>
   simp only [unq]
   by_cases c1 : c = 34
   ·rw [if_pos c1]
    refine af.step (G := fun _ => some (lQ s.size acc (some ([], (L s).drop (i + 1))))) (fun k => ?_) af.now
    simp only [eP.l0]
    rw [if_pos (by omega), if_pos (by omega), if_neg (by simp), hb, if_pos (e1.2 c1), inc i 0 (by omega), Hg]
    have : s.size - ((L s).drop (i + 1)).length = i + 1 := by rw [List.length_drop, ← ed]; omega
    simp only [lQ, this, List.append_nil]
   rw [if_neg c1]
   by_cases c2 : c = 10
   ·rw [if_pos c2]
    refine af.step (G := fun _ => some (lQ s.size acc none)) (fun k => ?_) af.now
    simp only [eP.l0]
    rw [if_pos (by omega), if_pos (by omega), if_neg (by simp), hb, if_neg (fun h => c1 (e1.1 h)), if_pos (e2.2 c2)]; rfl
   rw [if_neg c2]
   by_cases c3 : c = 92
   ·rw [if_pos c3]
    refine af.step (G := fun k => eP.l0 k s (nums acc) true ((i + 1 : Nat) : Int)) (fun k => ?_) (ih (i + 1) acc true (by omega) (by omega))
    conv => lhs; simp only [eP.l0]
    rw [if_pos (by omega), if_pos (by omega), if_neg (by simp), hb, if_neg (fun h => c1 (e1.1 h)), if_neg (fun h => c2 (e2.1 h)), if_pos (e3.2 c3), inc i 0 (by omega)]
   rw [if_neg c3, tK]
   refine af.step (G := fun k => eP.l0 k s (nums (acc ++ [c])) false ((i + 1 : Nat) : Int)) (fun k => ?_) (ih (i + 1) (acc ++ [c]) false (by omega) (by simp; omega))
   conv => lhs; simp only [eP.l0]
   rw [if_pos (by omega), if_pos (by omega), if_neg (by simp), hb, if_neg (fun h => c1 (e1.1 h)), if_neg (fun h => c2 (e2.1 h)), if_neg (fun h => c3 (e3.1 h)), if_pos (by rw [pJ]; omega), inc i 0 (by omega), tZ]; rfl
theorem FI (s : ByteArray) (hs : s.size ≤ 140737488351232) (h1 : 1 ≤ s.size) : af (fun k => eP.f k s) (lQ s.size [] (unq false ((L s).drop 1))) := by
 have := FH s hs (s.size - 1) 1 [] false (by omega) (by simp; omega)
 simpa [eP.f, nums] using this
/-! number -/
theorem FX (s : ByteArray) (hs : s.size ≤ 140737488351232) : ∀ (m i : Nat) (n : Int), s.size = m + i → 0 ≤ n →
 af (fun k => dY.l0 k s n (s.size : Int) (i : Int)) (wrap64 (((L s).drop i).foldl uf n), decide (((L s).drop i).foldl uf n < 9223372036854775808)) := by
 intro m
 induction m with
 | zero =>
  intro i n h1 h2
  rw [List.drop_eq_nil_of_le (by rw [← ed]; omega)]
  refine af.step (G := fun _ => some (wrap64 n, decide (n < 9223372036854775808))) (fun k => ?_) af.now
  simp only [dY.l0]
  rw [if_neg (by omega)]
  congr 2
  rw [Bool.eq_iff_iff]
  simp only [beq_iff_eq, decide_eq_true_eq]
  omega
 | succ m ih =>
  intro i n h1 h2
  have hd := jo (L s) i (by rw [← ed]; omega)
  have hb := uy s i
  generalize (L s).getD i 0 = c at hd hb
  rw [hd, List.foldl_cons]
  refine af.step (G := fun k => dY.l0 k s (uf n c) (s.size : Int) ((i + 1 : Nat) : Int)) (fun k => ?_) (ih (i + 1) (uf n c) (by omega) (by unfold uf; exact wrap_u64_nonneg _))
  conv => lhs; simp only [dY.l0]
  rw [if_pos (by omega), if_pos (by omega), if_pos (by omega), hb, inc i 0 (by omega)]; rfl
theorem FY (s : ByteArray) (hs : s.size ≤ 140737488351232) : af (fun k => dY.f k s) (numOf (L s)) := by
 have hl := FX s hs s.size 0 0 (by omega) (by omega)
 rw [List.drop_zero] at hl
 have hno : long (L s) = false → af (fun k => dY.j0 k s false) (numOf (L s)) := by
  intro h
  refine af.step (G := fun k => dY.l0 k s 0 (s.size : Int) 0) (fun k => ?_) (by unfold numOf; rw [h]; exact hl)
  simp only [dY.j0]
  rw [if_neg (by simp)]
 have hyes : long (L s) = true → af (fun k => dY.j0 k s true) (numOf (L s)) := by
  intro h
  refine af.step (G := fun k => some (0, false)) (fun k => ?_) (by unfold numOf; rw [h]; exact af.now)
  simp only [dY.j0]
  rw [if_pos trivial]
 unfold dY.f
 by_cases h : (s.size : Int) > 19
 ·refine af.pos h (hyes ?_)
  unfold long
  rw [show decide (19 < (L s).length) = true from decide_eq_true (by rw [← ed]; omega)]; rfl
 refine af.neg h ?_
 have d1 : decide (19 < (L s).length) = false := decide_eq_false (by rw [← ed]; omega)
 by_cases h2 : (s.size : Int) > 1
 ·refine af.pos h2 (af.pos (by omega) ?_)
  have d2 : decide (1 < (L s).length) = true := decide_eq_true (by rw [← ed]; omega)
  have d3 : (bt s 0 == 48) = ((L s).head? == some 48) := by
   rcases hl2 : L s with _ | ⟨c, t⟩
   ·rw [ed, hl2] at h2; simp at h2
   rw [bt0 s c t hl2]
   have e1 : ((c.toNat : Int) = 48) ↔ c = 48 := je c 48
   rw [Bool.eq_iff_iff]
   simp only [List.head?_cons, beq_iff_eq, Option.some.injEq, ← e1]
  rw [d3]
  cases h4 : ((L s).head? == some 48) with
  | true => exact hyes (by unfold long; rw [d1, d2, h4]; rfl)
  | false => exact hno (by unfold long; rw [d1, d2, h4]; rfl)
 refine af.neg h2 (hno ?_)
 unfold long
 rw [d1, show decide (1 < (L s).length) = false from decide_eq_false (by rw [← ed]; omega)]; rfl
end Go.Proofs.YtkbhkonenkgfoaaGreat.Lex
end
section
set_option linter.unusedVariables false
set_option linter.unusedSimpArgs false
namespace Go.Proofs.YtkbhkonenkgfoaaGreat.Lex
open Go Go.RowKit Go.Proofs.YtkbhkonenkgfoaaGreatW.PrintWords Go.Proofs.YtkbhkonenkgfoaaGreat.Q
def PB : ByteArray := ⟨#[61, 61, 32, 33, 61, 32, 60, 61, 32, 46, 46, 32]⟩
def SB : ByteArray := ⟨#[40, 41, 123, 125, 91, 93, 44, 59, 46, 47, 61, 60, 43, 45, 42, 37]⟩
theorem AX (c : UInt8) : ∀ l : List UInt8, mX [c] l = l.contains c
 | [] => rfl
 | d :: t => by
  rw [mX, AX c t, List.contains_cons, List.isPrefixOf_cons_cons]
  simp [List.isPrefixOf]
theorem EE (c d : UInt8) : mX [c, d, 32] (L PB) = PAIRS.contains [c, d] := by
 show mX [c, d, 32] [61, 61, 32, 33, 61, 32, 60, 61, 32, 46, 46, 32] = _
 simp only [mX, List.isPrefixOf, PAIRS, List.contains_cons, List.contains_nil]
 rw [Bool.eq_iff_iff]
 simp
theorem take1 (s : ByteArray) : L (s.extract 0 1) = (L s).take 1 := by rw [oh]; rfl
theorem take2 (s : ByteArray) : L (s.extract 0 2) = (L s).take 2 := by rw [oh]; rfl
theorem JP (s : ByteArray) (hs : s.size ≤ 140737488351232) (h1 : 1 ≤ s.size) : af (fun k => gB.f k s) (S (mark (L s))) := by
 rcases hl : L s with _ | ⟨c, t⟩
 ·rw [ed, hl] at h1; simp at h1
 have hno : PAIRS.contains ((L s).take 2) = false → af (fun k => gB.j0 k s false) (S (mark (c :: t))) := by
  intro h
  have hw := vZ SB (s.extract 0 1) (by rw [ed, take1, hl]; simp) (by
   have e1 : (s.extract 0 1).size = 1 := by rw [ed, take1, hl]; simp
   have e2 : SB.size = 16 := rfl
   rw [e1, e2]; omega)
  rw [take1, hl] at hw
  have e : mX [c] (L SB) = nG.contains c := AX c _
  rw [show List.take 1 (c :: t) = [c] from rfl, e] at hw
  refine af.step (G := fun k => (eH.f k SB (s.extract 0 1)).bind fun t118 => (if t118 = true then (some (s.extract 0 1)) else (some (⟨#[]⟩ : ByteArray)))) (fun k => ?_) (af.bind (G := fun _ t118 => (if t118 = true then (some (s.extract 0 1)) else (some (⟨#[]⟩ : ByteArray)))) hw ?_)
  ·conv => lhs; simp only [gB.j0]
   rw [if_neg (by simp), if_pos (by omega), if_pos (by omega)]; rfl
  unfold mark
  rw [← hl, h]
  rw [hl]
  simp only [Bool.false_eq_true, if_false]
  by_cases hc : nG.contains c = true
  ·refine af.jR (fun k => ?_)
   rw [if_pos hc, if_pos hc]
   congr 1
   apply yO
   rw [take1, hl]; rfl
  refine af.jR (fun k => ?_)
  rw [if_neg hc, if_neg hc]; rfl
 unfold gB.f
 by_cases h : (s.size : Int) > 1
 ·obtain ⟨d, u, rfl⟩ : ∃ d u, t = d :: u := by
   cases t with
   | nil => rw [ed, hl] at h; simp at h
   | cons d u => exact ⟨d, u, rfl⟩
  have e1 : (s.extract 0 2).size = 2 := by rw [ed, take2, hl]; simp
  refine af.pos h (af.pos (by omega) (af.pos (by omega) (af.pos (by rw [e1]; omega) ?_)))
  have hw := vZ PB ((s.extract 0 2) ++ (⟨#[32]⟩ : ByteArray)) (by rw [ByteArray.size_append, e1]; omega) (by
   have e2 : PB.size = 12 := rfl
   have e3 : (⟨#[32]⟩ : ByteArray).size = 1 := rfl
   rw [ByteArray.size_append, e1, e2, e3]; omega)
  rw [qU, take2, hl] at hw
  have e : mX [c, d, 32] (L PB) = PAIRS.contains [c, d] := EE c d
  rw [show List.take 2 (c :: d :: u) ++ L (⟨#[32]⟩ : ByteArray) = [c, d, 32] from rfl, e] at hw
  refine af.bind (G := fun k t117 => (if t117 = true then (if 1 < (s.size : Int) then (gB.j0 k s ((bt s 1) != 32)) else (none)) else (gB.j0 k s false))) hw ?_
  cases hp : PAIRS.contains [c, d] with
  | false =>
   refine af.neg (by simp) (hno ?_)
   rw [hl]; exact hp
  | true =>
   refine af.pos rfl (af.pos (by omega) ?_)
   have hd : d ≠ 32 := by
    rintro rfl
    simp [PAIRS] at hp
   have hb : (bt s 1 != 32) = true := by
    have := uy s 1
    rw [hl] at this
    simp only [List.getD_cons_succ, List.getD_cons_zero] at this
    have e1 : ((d.toNat : Int) = 32) ↔ d = 32 := je d 32
    rw [bne_iff_ne]
    intro q
    apply hd
    rw [← e1, ← this]
    exact q
   rw [hb]
   refine af.step (G := fun _ => some (s.extract 0 2)) (fun k => ?_) ?_
   ·conv => lhs; simp only [gB.j0]
    rw [if_pos trivial, if_pos (by omega), if_pos (by omega)]
   have : S (mark (c :: d :: u)) = s.extract 0 2 := by
    apply yO
    rw [take2, hl, L_S]
    unfold mark
    rw [show List.take 2 (c :: d :: u) = [c, d] from rfl, hp]; rfl
   rw [this]
   exact af.now
 refine af.neg h (hno ?_)
 have : t = [] := by
  cases t with
  | nil => rfl
  | cons d u => rw [ed, hl] at h; simp at h; omega
 subst this
 rw [hl]
 simp [PAIRS]
/-! next -/
def BR : Except Int (Int × List UInt8 × Int × Nat) → Int × ByteArray × Int × Int × Int × Int
 | .ok (k, x, n, m) => (k, S x, n, 0, (m : Int), 0)
 | .error e => (0, (⟨#[]⟩ : ByteArray), 0, 0, 0, e)
theorem Ba (s : ByteArray) : lC.f s = some (S ((L s).takeWhile inn)) := by
 unfold lC.f
 rw [← xm mW inn xk, S_L]
theorem Bc (s : ByteArray) : nU.f s = some (S ((L s).takeWhile di)) := by
 unfold nU.f
 rw [← xm lU di yH, S_L]
theorem qN (l : List UInt8) : (S l).size = l.length := by rw [ed, L_S]
theorem xY {α : Type} (q : α → Bool) (l : List α) : (l.takeWhile q).all q = true := by
 induction l with
 | nil => rfl
 | cons a t ih =>
  rw [List.takeWhile_cons]
  split
  ·rename_i h
   simp only [List.all_cons, h, ih, Bool.and_self]
  rfl
theorem Lp (c : UInt8) : wrap32 (c.toNat : Int) = (c.toNat : Int) := IntWalk.wrap32_in _ (by have := c.toNat_lt; omega)
theorem KC (s : ByteArray) (hs : s.size ≤ 140737488351232) (h1 : 1 ≤ s.size) : af (fun k => jK.f k s) (BR (Lex.one (L s))) := by
 rcases hl : L s with _ | ⟨c, t⟩
 ·rw [ed, hl] at h1; simp at h1
 have hlen : (c :: t).length ≤ 140737488351232 := by rw [← hl, ← ed]; exact hs
 unfold jK.f
 refine af.pos (by omega) ?_
 simp only [bt0 s c t hl, Lp, xg, DC, Option.bind_some]
 simp only [Lex.one]
 by_cases c1 : le c = true
 ·refine af.pos c1 ?_
  simp only [Ba, Option.bind_some, hl]
  simp only [c1, if_true]
  have hw : (S ((c :: t).takeWhile inn)).size ≤ 140737488351232 := by
   rw [qN]
   have := jZ inn (c :: t)
   omega
  have hword : isWord ((c :: t).takeWhile inn) = true := by
   have hi : inn c = true := by simp [inn, c1]
   rw [List.takeWhile_cons, if_pos hi]
   simp only [isWord, c1, Bool.true_and, List.all_cons, hi]
   exact xY inn t
  refine af.bind (G := fun k t122 => (if t122 = true then (some (5, S ((c :: t).takeWhile inn), 0, 0, ((S ((c :: t).takeWhile inn)).size : Int), 0)) else ((iH.f k (S ((c :: t).takeWhile inn))).bind fun t123 => (if t123 = true then (some (1, S ((c :: t).takeWhile inn), 0, 0, ((S ((c :: t).takeWhile inn)).size : Int), 0)) else (some (0, (⟨#[]⟩ : ByteArray), 0, 0, 0, 10)))))) (JD _ hw) ?_
  rw [L_S]
  by_cases c2 : isKey ((c :: t).takeWhile inn) = true
  ·refine af.pos c2 ?_
   rw [if_pos c2]
   simp only [BR, qN]
   exact af.now
  refine af.neg c2 ?_
  rw [if_neg c2]
  refine af.bind (G := fun k t123 => (if t123 = true then (some (1, S ((c :: t).takeWhile inn), 0, 0, ((S ((c :: t).takeWhile inn)).size : Int), 0)) else (some (0, (⟨#[]⟩ : ByteArray), 0, 0, 0, 10)))) (CW _ hw) ?_
  rw [L_S]
  have hn : gm ((c :: t).takeWhile inn) = decide (((c :: t).takeWhile inn).length ≤ 16) := by
   unfold gm
   rw [hword, show isKey ((c :: t).takeWhile inn) = false by simpa using c2]
   simp
  rw [hn]
  by_cases c3 : ((c :: t).takeWhile inn).length ≤ 16
  ·refine af.pos (decide_eq_true c3) ?_
   rw [if_pos c3]
   simp only [BR, qN]
   exact af.now
  refine af.neg (by simpa using c3) ?_
  rw [if_neg c3]
  exact af.now
 refine af.neg c1 ?_
 rw [if_neg c1]
 by_cases c2 : di c = true
 ·refine af.pos c2 ?_
  rw [if_pos c2]
  simp only [Bc, Option.bind_some, hl]
  have hw : (S ((c :: t).takeWhile di)).size ≤ 140737488351232 := by
   rw [qN]
   have := jZ di (c :: t)
   omega
  refine af.bind (G := fun k (bt126 : Int × Bool) => (if bt126.2 = true then (some ((2 : Int), S ((c :: t).takeWhile di), bt126.1, 0, ((S ((c :: t).takeWhile di)).size : Int), 0)) else (some (0, (⟨#[]⟩ : ByteArray), 0, 0, 0, 10)))) (FY _ hw) ?_
  rw [L_S]
  by_cases c3 : (numOf ((c :: t).takeWhile di)).2 = true
  ·refine af.pos c3 ?_
   rw [if_pos c3]
   simp only [BR, qN]
   exact af.now
  refine af.neg c3 ?_
  rw [if_neg c3]
  exact af.now
 refine af.neg c2 ?_
 rw [if_neg c2]
 have e1 : ((c.toNat : Int) = 34) ↔ c = 34 := je c 34
 by_cases c3 : c = 34
 ·refine af.pos (e1.2 c3) ?_
  rw [if_pos c3]
  refine af.bind (G := fun k (bt128 : ByteArray × Int) => (if bt128.2 > 0 then (some (3, bt128.1, 0, 0, bt128.2, 0)) else (some (0, (⟨#[]⟩ : ByteArray), 0, 0, 0, 10)))) (FI s hs h1) ?_
  rw [hl]
  simp only [List.drop_succ_cons, List.drop_zero]
  cases hu : unq false t with
  | none =>
   refine af.neg (by simp [lQ]) ?_
   exact af.now
  | some r =>
   obtain ⟨x, r⟩ := r
   have := qW t false x r hu
   have hz : s.size = t.length + 1 := by rw [ed, hl]; rfl
   simp only [lQ, List.nil_append]
   refine af.pos (by omega) ?_
   rw [hz]
   exact af.now
 refine af.neg (fun h => c3 (e1.1 h)) ?_
 rw [if_neg c3]
 refine af.bind (G := fun k (t130 : ByteArray) => (if t130.toList = ([] : List UInt8) then (some (0, (⟨#[]⟩ : ByteArray), 0, 0, 0, 9)) else (some (4, t130, 0, 0, (t130.size : Int), 0)))) (JP s hs h1) ?_
 rw [hl]
 by_cases c4 : mark (c :: t) = []
 ·refine af.pos (by rw [isE, L_S]; exact c4) ?_
  simp only [if_pos c4]
  exact af.now
 refine af.neg (by rw [isE, L_S]; exact c4) ?_
 simp only [if_neg c4, BR, qN]
 exact af.now
/-! Scan -/
def tkS (total : Nat) (t : Tk) : S37 := ⟨t.kind, S t.text, t.n, ((total - t.rem : Nat) : Int)⟩
def rO (total : Nat) (acc : List S37) : Except (Int × Nat) (List Tk) → List S37 × Int × Int
 | .ok ts => (acc ++ ts.map (tkS total), 0, 0)
 | .error (e, r) => ([], e, ((total - r : Nat) : Int))
theorem qQ {l : List UInt8} {e : Int} (h : Lex.one l = .error e) (hl : l ≠ []) : e ≠ 0 := by
 unfold Lex.one at h
 split at h
 ·exact absurd rfl hl
 simp only [] at h
 repeat' split at h
 all_goals cases h
 all_goals decide
theorem JQ (x0 : ByteArray) (h0 : x0.size ≤ 8192) : ∀ (f : Nat) (s : ByteArray) (acc : List S37), s.size < f → s.size ≤ x0.size → acc.length + s.size ≤ x0.size →
 af (fun k => gU.l0 k x0 acc s) (rO x0.size acc (toks f (L s))) := by
 intro f
 induction f with
 | zero => intro s acc h; omega
 | succ f ih =>
  intro s acc h1 h2 h3
  rcases hl : L s with _ | ⟨c, t⟩
  ·refine af.step (G := fun _ => some (rO x0.size acc (toks (f + 1) []))) (fun k => ?_) af.now
   simp only [gU.l0]
   rw [if_pos (by rw [isE]; exact hl)]
   simp [toks, rO]
  have hsz : s.size = t.length + 1 := by rw [ed, hl]; rfl
  have hn := KC s (by omega) (by omega)
  refine af.step (fun k => by
   conv => lhs; simp only [gU.l0]
   rw [if_neg (by rw [isE, hl]; simp)]) (af.bind hn ?_)
  rw [hl]
  simp only [toks]
  cases ho : Lex.one (c :: t) with
  | error e =>
   simp only [BR]
   refine af.neg (qQ ho (by simp)) ?_
   refine af.jR (fun k => ?_)
   rw [w64 _ (by omega)]
   simp only [rO, List.length_cons]
   congr 3
   omega
  | ok r =>
   obtain ⟨kd, x, n, m⟩ := r
   have hm := zl ho
   simp only [List.length_cons] at hm
   simp only [BR]
   refine af.pos trivial (af.pos (by omega) (af.pos (by omega) (af.pos (by omega) ?_)))
   simp only [nP.f, Option.bind_some]
   have e1 : L (o6 (s.extract (m : Int).toNat s.size)) = skp false ((c :: t).drop m) := by
    rw [wQ, oh, hl, Int.toNat_natCast, List.take_of_length_le]
    rw [List.length_drop, hsz]; simp
   have e2 : (o6 (s.extract (m : Int).toNat s.size)).size ≤ s.size - m := by
    rw [ed, e1]
    have := mf ((c :: t).drop m) false
    rw [List.length_drop] at this
    simp only [List.length_cons] at this
    omega
   have := ih (o6 (s.extract (m : Int).toNat s.size)) (acc ++ [(⟨kd, S x, n, wrap64 ((x0.size : Int) - (s.size : Int))⟩ : S37)]) (by omega) (by omega) (by simp only [List.length_append, List.length_cons, List.length_nil]; omega)
   rw [e1] at this
   have e4 : wrap64 ((x0.size : Int) - (s.size : Int)) = ((x0.size - (c :: t).length : Nat) : Int) := by
    rw [w64 _ (by omega)]
    simp only [List.length_cons]
    omega
   rw [e4] at this ⊢
   generalize toks f (skp false ((c :: t).drop m)) = o at this ⊢
   cases o with
   | error e => exact this
   | ok ts => simpa only [rO, List.map_cons, tkS, List.append_assoc, List.singleton_append] using this
/-- What Scan answers. -/
def wH (s : ByteArray) : List S37 × Int × Int := if s.size ≤ 8192 then rO s.size [] (Lex.scan (L s)) else ([], 3, 0)
theorem La (s : ByteArray) : af (fun k => gU.f k s) (wH s) := by
 unfold gU.f wH
 by_cases h : s.size ≤ 8192
 ·refine af.neg (by omega) ?_
  rw [if_pos h]
  simp only [nP.f, Option.bind_some]
  have hl := mf (L s) false
  have e : (o6 s).size ≤ s.size := by rw [ed, wQ, ed]; exact hl
  have := JQ s h (s.size + 1) (o6 s) [] (by omega) e (by simpa using e)
  rw [wQ] at this
  unfold Lex.scan
  rw [← ed]
  exact this
 refine af.pos (by omega) ?_
 rw [if_neg h]
 exact af.now
end Go.Proofs.YtkbhkonenkgfoaaGreat.Lex
end
section
set_option linter.unusedVariables false
set_option linter.unusedSimpArgs false
namespace Go.Proofs.YtkbhkonenkgfoaaGreat.Lex
open Go Go.RowKit Go.Proofs.YtkbhkonenkgfoaaGreatW.PrintWords Go.Proofs.YtkbhkonenkgfoaaGreat.Q
theorem Gt {c : UInt8} (h : le c = true) : inn c = true := by simp [inn, h]
theorem mO : ∀ (l : List UInt8) (b : Bool), skp b l <:+ l
 | [], b => by cases b <;> exact List.suffix_refl _
 | c :: t, false => by
  by_cases h : bl c = true
  ·have e1 : skp false (c :: t) = skp false t := by simp [skp, h]
   rw [e1]
   exact (mO t false).trans (List.suffix_cons c t)
  by_cases h2 : c = 35
  ·have e1 : skp false (c :: t) = skp true t := by simp [skp, h, h2]; intro q; rw [h2] at h; exact absurd q h
   rw [e1]
   exact (mO t true).trans (List.suffix_cons c t)
  have e1 : skp false (c :: t) = c :: t := by simp [skp, h, h2]
  rw [e1]
  exact List.suffix_refl _
 | c :: t, true => by
  by_cases h : c = 10
  ·have e1 : skp true (c :: t) = skp false t := by simp [skp, h]
   rw [e1]
   exact (mO t false).trans (List.suffix_cons c t)
  have e1 : skp true (c :: t) = skp true t := by simp [skp, h]
  rw [e1]
  exact (mO t true).trans (List.suffix_cons c t)
theorem rH {α : Type} (n : Nat) (l : List α) : l.take (l.take n).length = l.take n := by
 rw [List.length_take]
 rcases Nat.le_total n l.length with h | h
 ·rw [Nat.min_eq_left h]
 rw [Nat.min_eq_right h, List.take_of_length_le h, List.take_of_length_le (Nat.le_refl _)]
theorem Ey (l : List UInt8) : l.take (Lex.mark l).length = Lex.mark l := by
 unfold Lex.mark
 by_cases h : PAIRS.contains (l.take 2) = true
 ·rw [if_pos h]; exact rH 2 l
 rw [if_neg h]
 have key : ∀ (b : Bool), l.take (if b = true then l.take 1 else []).length = if b = true then l.take 1 else [] := by
  intro b
  cases b with
  | true => exact rH 1 l
  | false => rfl
 exact key _
end Go.Proofs.YtkbhkonenkgfoaaGreat.Lex
end
section
set_option linter.unusedVariables false
set_option linter.unusedSimpArgs false
namespace Go.Proofs.YtkbhkonenkgfoaaGreat.Lex
open Go Go.RowKit Go.Proofs.YtkbhkonenkgfoaaGreatW.PrintWords Go.Proofs.YtkbhkonenkgfoaaGreat.Q
theorem uC (c : UInt8) : fD.f (c.toNat : Int) = some (le c) := xg c
theorem tH (c : UInt8) : fK.f (c.toNat : Int) = some (di c) := DC c
theorem F6 (c : UInt8) : gY.f (c.toNat : Int) = some (bl c) := by
 have e1 : ((c.toNat : Int) = 32) ↔ c = 32 := je c 32
 have e2 : ((c.toNat : Int) = 9) ↔ c = 9 := je c 9
 have e3 : ((c.toNat : Int) = 10) ↔ c = 10 := je c 10
 have e4 : ((c.toNat : Int) = 13) ↔ c = 13 := je c 13
 unfold gY.f bl
 by_cases c1 : c = 32
 ·rw [if_pos (e1.2 c1), c1]; rfl
 rw [if_neg (fun h => c1 (e1.1 h))]
 by_cases c2 : c = 9
 ·rw [if_pos (e2.2 c2), c2]; rfl
 rw [if_neg (fun h => c2 (e2.1 h))]
 by_cases c3 : c = 10
 ·rw [if_pos (e3.2 c3), c3]; rfl
 rw [if_neg (fun h => c3 (e3.1 h))]
 congr 1
 rw [beq_eq_false_iff_ne.2 c1, beq_eq_false_iff_ne.2 c2, beq_eq_false_iff_ne.2 c3]
 simp only [Bool.false_or]
 rw [Bool.eq_iff_iff, beq_iff_eq, beq_iff_eq]
 exact e4
/-! skip -/
theorem Ik (s : ByteArray) (hs : s.size ≤ 140737488351232) : ∀ (m i : Nat), s.size = m + i →
 af (fun k => aG.l0 k s (i : Int)) ((s.size - (skp false ((L s).drop i)).length : Nat) : Int) ∧ af (fun k => aG.l1 k s (i : Int)) ((s.size - (skp true ((L s).drop i)).length : Nat) : Int) := by
 intro m
 induction m with
 | zero =>
  intro i h1
  have hd : (L s).drop i = [] := List.drop_eq_nil_of_le (by rw [← ed]; omega)
  rw [hd]
  have h0 : af (fun k => aG.l0 k s (i : Int)) ((s.size - (skp false []).length : Nat) : Int) := by
   refine af.step (fun k => by rw [aG.l0]) ?_
   refine af.neg (by omega) ?_
   refine af.step (fun k => by rw [aG.j1]) ?_
   refine af.neg (by simp) (af.jR (fun k => ?_))
   simp only [skp, List.length_nil]
   congr 1
   omega
  refine ⟨h0, ?_⟩
  refine af.step (fun k => by rw [aG.l1]) ?_
  exact af.neg (by omega) h0
 | succ m ih =>
  intro i h1
  obtain ⟨ih0, ih1⟩ := ih (i + 1) (by omega)
  have hd := jo (L s) i (by rw [← ed]; omega)
  have hb := uy s i
  generalize (L s).getD i 0 = c at hd hb
  rw [hd]
  have hinc : wrap64 ((i : Int) + 1) = ((i + 1 : Nat) : Int) := inc i 0 (by omega)
  have e1 : ((c.toNat : Int) = 35) ↔ c = 35 := je c 35
  have e2 : ((c.toNat : Int) = 10) ↔ c = 10 := je c 10
  have hl : (skp false (c :: (L s).drop (i + 1))).length ≤ m + 1 := by
   have := mf (c :: (L s).drop (i + 1)) false
   simp only [List.length_cons, List.length_drop, ← ed] at this
   omega
  have h0 : af (fun k => aG.l0 k s (i : Int)) ((s.size - (skp false (c :: (L s).drop (i + 1))).length : Nat) : Int) := by
   refine af.step (fun k => by rw [aG.l0]) ?_
   refine af.pos (by omega) (af.pos (by omega) ?_)
   simp only [hb, F6, Option.bind_some]
   by_cases c1 : bl c = true
   ·refine af.pos c1 ?_
    refine af.step (fun k => by rw [aG.j1]) ?_
    refine af.pos rfl (af.pos (by omega) (af.pos (by omega) ?_))
    simp only [hb, hinc]
    refine af.neg (fun h => ?_) ?_
    ·rw [e1.1 h] at c1; exact absurd c1 (by decide)
    have : skp false (c :: (L s).drop (i + 1)) = skp false ((L s).drop (i + 1)) := by simp [skp, c1]
    rw [this]
    exact ih0
   refine af.neg c1 ?_
   by_cases c2 : c = 35
   ·rw [show ((c.toNat : Int) == 35) = true from beq_iff_eq.2 (e1.2 c2)]
    refine af.step (fun k => by rw [aG.j1]) ?_
    refine af.pos rfl (af.pos (by omega) (af.pos (by omega) ?_))
    simp only [hb, hinc]
    refine af.pos (e1.2 c2) ?_
    refine af.step (fun k => by rw [aG.l1]) ?_
    refine af.pos (by omega) (af.pos (by omega) ?_)
    simp only [hb, hinc]
    refine af.neg (fun h => ?_) ?_
    ·rw [c2] at h; exact absurd h (by decide)
    have : skp false (c :: (L s).drop (i + 1)) = skp true ((L s).drop (i + 1)) := by subst c2; simp [skp, bl]
    rw [this]
    exact ih1
   rw [show ((c.toNat : Int) == 35) = false from beq_eq_false_iff_ne.2 (fun h => c2 (e1.1 h))]
   refine af.step (fun k => by rw [aG.j1]) ?_
   refine af.neg (by simp) (af.jR (fun k => ?_))
   have : skp false (c :: (L s).drop (i + 1)) = c :: (L s).drop (i + 1) := by simp [skp, c1, c2]
   rw [this, List.length_cons, List.length_drop, ← ed]
   congr 1
   omega
  refine ⟨h0, ?_⟩
  refine af.step (fun k => by rw [aG.l1]) ?_
  refine af.pos (by omega) (af.pos (by omega) ?_)
  simp only [hb, hinc]
  by_cases c1 : c = 10
  ·refine af.pos (e2.2 c1) ?_
   have : skp true (c :: (L s).drop (i + 1)) = skp false (c :: (L s).drop (i + 1)) := by subst c1; simp [skp, bl]
   rw [this]
   exact h0
  refine af.neg (fun h => c1 (e2.1 h)) ?_
  have : skp true (c :: (L s).drop (i + 1)) = skp true ((L s).drop (i + 1)) := by simp [skp, c1]
  rw [this]
  exact ih1
theorem Di (s : ByteArray) (hs : s.size ≤ 140737488351232) (i : Nat) (hi : i ≤ s.size) : af (fun k => aG.f k s (i : Int)) ((s.size - (skp false ((L s).drop i)).length : Nat) : Int) :=
 (Ik s hs (s.size - i) i (by omega)).1
/-! word -/
def vY (l : List UInt8) : Nat := match l with | [] => 0 | c :: _ => if le c then (l.takeWhile inn).length else 0
theorem Ic (s : ByteArray) (hs : s.size ≤ 140737488351232) (at' : Nat) : ∀ (m n : Nat), s.size = m + (at' + n) → 0 < n →
 af (fun k => bu.l0 k s (at' : Int) (n : Int)) ((n + (((L s).drop (at' + n)).takeWhile inn).length : Nat) : Int) := by
 intro m
 induction m with
 | zero =>
  intro n h1 h2
  rw [List.drop_eq_nil_of_le (by rw [← ed]; omega)]
  have hw : wrap64 ((at' : Int) + (n : Int)) = ((at' + n : Nat) : Int) := by rw [w64 _ (by omega)]; omega
  refine af.step (fun k => by rw [bu.l0]) ?_
  simp only [hw]
  exact af.neg (by omega) af.now
 | succ m ih =>
  intro n h1 h2
  have hd := jo (L s) (at' + n) (by rw [← ed]; omega)
  have hb := uy s (at' + n)
  generalize (L s).getD (at' + n) 0 = c at hd hb
  have hw : wrap64 ((at' : Int) + (n : Int)) = ((at' + n : Nat) : Int) := by rw [w64 _ (by omega)]; omega
  have hinc : wrap64 ((n : Int) + 1) = ((n + 1 : Nat) : Int) := inc n 0 (by omega)
  have e1 : ((c.toNat : Int) = 95) ↔ c = 95 := je c 95
  have hnext : inn c = true → af (fun k => bu.l0 k s (at' : Int) ((n + 1 : Nat) : Int)) ((n + (((L s).drop (at' + n)).takeWhile inn).length : Nat) : Int) := by
   intro hi
   have := ih (n + 1) (by omega) (by omega)
   rw [hd, List.takeWhile_cons, if_pos hi, List.length_cons]
   have e : n + ((((L s).drop (at' + n + 1)).takeWhile inn).length + 1) = n + 1 + (((L s).drop (at' + (n + 1))).takeWhile inn).length := by
    rw [show at' + n + 1 = at' + (n + 1) by omega]; omega
   rw [e]
   exact this
  have hstop : inn c = false → (n + (((L s).drop (at' + n)).takeWhile inn).length) = n := by
   intro hi
   rw [hd, List.takeWhile_cons, if_neg (by rw [hi]; simp)]; rfl
  refine af.step (fun k => by rw [bu.l0]) ?_
  simp only [hw, hb, hinc, uC, tH, Option.bind_some]
  refine af.pos (by omega) (af.pos (by omega) ?_)
  by_cases c1 : le c = true
  ·exact af.pos c1 (hnext (Gt c1))
  refine af.neg c1 (af.pos (by omega) ?_)
  by_cases c2 : di c = true
  ·exact af.pos c2 (hnext (by simp [inn, c2]))
  refine af.neg c2 ?_
  by_cases c3 : c = 95
  ·exact af.pos (e1.2 c3) (hnext (by simp [inn, c3]))
  refine af.neg (fun h => c3 (e1.1 h)) ?_
  rw [hstop (by simp [inn, c1, c2, c3])]
  exact af.now
theorem Dh (s : ByteArray) (hs : s.size ≤ 140737488351232) (at' : Nat) (ha : at' ≤ s.size) : af (fun k => bu.f k s (at' : Int)) ((vY ((L s).drop at') : Nat) : Int) := by
 unfold bu.f
 have hw : wrap64 ((at' : Int) + 0) = ((at' : Nat) : Int) := by rw [w64 _ (by omega)]; omega
 have hinc : wrap64 ((0 : Int) + 1) = ((1 : Nat) : Int) := by rw [w64 _ (by omega)]; rfl
 refine af.step (fun k => by rw [bu.l0]) ?_
 simp only [hw, hinc]
 by_cases h : at' < s.size
 ·have hd := jo (L s) at' (by rw [← ed]; omega)
  have hb := uy s at'
  generalize (L s).getD at' 0 = c at hd hb
  simp only [hb, uC, tH, Option.bind_some]
  refine af.pos (by omega) (af.pos (by omega) ?_)
  by_cases c1 : le c = true
  ·refine af.pos c1 ?_
   have := Ic s hs at' (s.size - at' - 1) 1 (by omega) (by omega)
   rw [hd]
   simp only [vY, c1, if_true, List.takeWhile_cons, Gt c1, List.length_cons]
   rw [show (List.takeWhile inn (List.drop (at' + 1) (L s))).length + 1 = 1 + (List.takeWhile inn (List.drop (at' + 1) (L s))).length by omega]
   exact this
  refine af.neg c1 (af.neg (by omega) ?_)
  rw [hd]
  simp only [vY, c1]
  exact af.now
 refine af.neg (by omega) ?_
 rw [List.drop_eq_nil_of_le (by rw [← ed]; omega)]
 exact af.now
end Go.Proofs.YtkbhkonenkgfoaaGreat.Lex
end
section
set_option linter.unusedVariables false
set_option linter.unusedSimpArgs false
namespace Go.Proofs.YtkbhkonenkgfoaaGreat.Lex
open Go Go.RowKit Go.Proofs.YtkbhkonenkgfoaaGreatW.PrintWords Go.Proofs.YtkbhkonenkgfoaaGreat.Q
/-! number -/
theorem Eb (s : ByteArray) (hs : s.size ≤ 140737488351232) : ∀ (m i : Nat) (n : Int), s.size = m + i →
 af (fun k => aV.l0 k s n (i : Int)) (wrap64 (((L s).drop i).foldl uf n), decide (((L s).drop i).foldl uf n < 9223372036854775808)) := by
 intro m
 induction m with
 | zero =>
  intro i n h1
  rw [List.drop_eq_nil_of_le (by rw [← ed]; omega)]
  refine af.step (fun k => by rw [aV.l0]) ?_
  exact af.neg (by omega) af.now
 | succ m ih =>
  intro i n h1
  have hd := jo (L s) i (by rw [← ed]; omega)
  have hb := uy s i
  generalize (L s).getD i 0 = c at hd hb
  rw [hd, List.foldl_cons]
  refine af.step (fun k => by rw [aV.l0]) ?_
  refine af.pos (by omega) (af.pos (by omega) ?_)
  simp only [hb]
  rw [inc i 0 (by omega)]
  exact ih (i + 1) (uf n c) (by omega)
theorem Ec (s : ByteArray) (hs : s.size ≤ 140737488351232) : af (fun k => aV.f k s) (numOf (L s)) := by
 have hl := Eb s hs s.size 0 0 (by omega)
 rw [List.drop_zero] at hl
 have hno : long (L s) = false → af (fun k => aV.j0 k s false) (numOf (L s)) := by
  intro h
  refine af.step (fun k => by rw [aV.j0]) ?_
  refine af.neg (by simp) ?_
  unfold numOf
  rw [h]
  exact hl
 have hyes : long (L s) = true → af (fun k => aV.j0 k s true) (numOf (L s)) := by
  intro h
  refine af.step (fun k => by rw [aV.j0]) ?_
  refine af.pos rfl ?_
  unfold numOf
  rw [h]
  exact af.now
 unfold aV.f
 by_cases h : (s.size : Int) > 19
 ·refine af.pos h (hyes ?_)
  unfold long
  rw [show decide (19 < (L s).length) = true from decide_eq_true (by rw [← ed]; omega)]; rfl
 refine af.neg h ?_
 have d1 : decide (19 < (L s).length) = false := decide_eq_false (by rw [← ed]; omega)
 by_cases h2 : (s.size : Int) > 1
 ·refine af.pos h2 (af.pos (by omega) ?_)
  have d2 : decide (1 < (L s).length) = true := decide_eq_true (by rw [← ed]; omega)
  have d3 : (bt s 0 == 48) = ((L s).head? == some 48) := by
   rcases hl2 : L s with _ | ⟨c, t⟩
   ·rw [ed, hl2] at h2; simp at h2
   rw [bt0 s c t hl2]
   have e1 : ((c.toNat : Int) = 48) ↔ c = 48 := je c 48
   rw [Bool.eq_iff_iff]
   simp only [List.head?_cons, beq_iff_eq, Option.some.injEq, ← e1]
  rw [d3]
  cases h4 : ((L s).head? == some 48) with
  | true => exact hyes (by unfold long; rw [d1, d2, h4]; rfl)
  | false => exact hno (by unfold long; rw [d1, d2, h4]; rfl)
 refine af.neg h2 (hno ?_)
 unfold long
 rw [d1, show decide (1 < (L s).length) = false from decide_eq_false (by rw [← ed]; omega)]; rfl
/-! unquoted -/
def zQ (size at' : Nat) (acc : List UInt8) : Option (List UInt8 × List UInt8) → ByteArray × Int
 | some (x, r) => (S (acc ++ x), ((size - r.length - at' : Nat) : Int))
 | none => ((⟨#[]⟩ : ByteArray), 0)
theorem yf (size at' : Nat) (acc : List UInt8) (c : UInt8) (o : Option (List UInt8 × List UInt8)) : zQ size at' acc (o.map fun r => (c :: r.1, r.2)) = zQ size at' (acc ++ [c]) o := by
 cases o with
 | none => rfl
 | some r => simp [zQ]
theorem JS (s : ByteArray) (hs : s.size ≤ 140737488351232) (at' : Nat) : ∀ (m i : Nat) (acc : List UInt8), s.size ≤ m + i → at' ≤ i → i ≤ s.size → acc.length + (s.size - i) < 140737488355328 →
 af (fun k => ay.l0 k s (at' : Int) (nums acc) (i : Int)) (zQ s.size at' acc (unq false ((L s).drop i))) := by
 intro m
 induction m with
 | zero =>
  intro i acc h1 h2 h3 h4
  rw [List.drop_eq_nil_of_le (by rw [← ed]; omega)]
  refine af.step (fun k => by rw [ay.l0]) ?_
  exact af.neg (by omega) af.now
 | succ m ih =>
  intro i acc h1 h2 h3 h4
  by_cases hlt : i < s.size
  ·have hd := jo (L s) i (by rw [← ed]; omega)
   have hb := uy s i
   generalize (L s).getD i 0 = c at hd hb
   have e1 : ((c.toNat : Int) = 34) ↔ c = 34 := je c 34
   have e2 : ((c.toNat : Int) = 10) ↔ c = 10 := je c 10
   have e3 : ((c.toNat : Int) = 92) ↔ c = 92 := je c 92
   have hinc : wrap64 ((i : Int) + 1) = ((i + 1 : Nat) : Int) := inc i 0 (by omega)
   have hinc2 : wrap64 (((i + 1 : Nat) : Int) + 1) = ((i + 2 : Nat) : Int) := inc (i + 1) 0 (by omega)
   rw [hd]
   refine af.step (fun k => by rw [ay.l0]) ?_
   refine af.pos (by omega) (af.pos (by omega) ?_)
   simp only [hb, hinc, unq]
   by_cases c1 : c = 34
   ·refine af.pos (e1.2 c1) ?_
    rw [if_pos c1]
    refine af.jR (fun k => ?_)
    rw [Hg, w64 _ (by omega)]
    simp only [zQ, List.append_nil, List.length_drop, ← ed]
    congr 2
    omega
   refine af.neg (fun h => c1 (e1.1 h)) ?_
   rw [if_neg c1]
   by_cases c2 : c = 10
   ·refine af.pos (e2.2 c2) ?_
    rw [if_pos c2]
    exact af.now
   refine af.neg (fun h => c2 (e2.1 h)) ?_
   rw [if_neg c2]
   by_cases c3 : c = 92
   ·refine af.pos (e3.2 c3) ?_
    rw [if_pos c3]
    by_cases hlt2 : i + 1 < s.size
    ·have hd2 := jo (L s) (i + 1) (by rw [← ed]; omega)
     have hb2 := uy s (i + 1)
     generalize (L s).getD (i + 1) 0 = d at hd2 hb2
     have f1 : ((d.toNat : Int) = 110) ↔ d = 110 := je d 110
     have f2 : ((d.toNat : Int) = 34) ↔ d = 34 := je d 34
     have f3 : ((d.toNat : Int) = 92) ↔ d = 92 := je d 92
     rw [hd2]
     simp only [hb2, unq]
     refine af.pos (by omega) (af.pos (by omega) ?_)
     have hnext : ∀ x : UInt8, af (fun k => ay.l0 k s (at' : Int) (nums acc ++ [(x.toNat : Int)]) ((i + 2 : Nat) : Int)) (zQ s.size at' acc ((unq false ((L s).drop (i + 1 + 1))).map fun r => (x :: r.1, r.2))) := by
      intro x
      rw [yf]
      have := ih (i + 2) (acc ++ [x]) (by omega) (by omega) (by omega) (by rw [List.length_append]; simp only [List.length_cons, List.length_nil]; omega)
      rw [tZ] at this
      exact this
     by_cases d1 : d = 110
     ·rw [show ((d.toNat : Int) == 110) = true from beq_iff_eq.2 (f1.2 d1)]
      refine af.step (fun k => by rw [ay.j1]) ?_
      refine af.pos rfl (af.pos (by rw [pJ]; omega) ?_)
      simp only [hinc, hinc2]
      have he : esc d = some 10 := by rw [d1]; rfl
      rw [he]
      exact hnext 10
     rw [show ((d.toNat : Int) == 110) = false from beq_eq_false_iff_ne.2 (fun h => d1 (f1.1 h))]
     refine af.step (fun k => by rw [ay.j1]) ?_
     refine af.neg (by simp) ?_
     simp only [hinc, hinc2, hb2]
     refine af.pos (by omega) (af.pos (by omega) ?_)
     by_cases d2 : d = 34
     ·refine af.pos (f2.2 d2) (af.pos (by rw [pJ]; omega) ?_)
      have he : esc d = some 34 := by rw [d2]; rfl
      rw [he, d2]
      exact hnext 34
     refine af.neg (fun h => d2 (f2.1 h)) ?_
     by_cases d3 : d = 92
     ·refine af.pos (f3.2 d3) (af.pos (by rw [pJ]; omega) ?_)
      have he : esc d = some 92 := by rw [d3]; rfl
      rw [he, d3]
      exact hnext 92
     refine af.neg (fun h => d3 (f3.1 h)) ?_
     have he : esc d = none := by simp [esc, d1, d2, d3]
     rw [he]
     exact af.now
    have hnil : (L s).drop (i + 1) = [] := List.drop_eq_nil_of_le (by rw [← ed]; omega)
    rw [hnil]
    refine af.neg (by omega) ?_
    refine af.step (fun k => by rw [ay.j1]) ?_
    refine af.neg (by simp) ?_
    simp only [hinc]
    exact af.neg (by omega) af.now
   refine af.neg (fun h => c3 (e3.1 h)) (af.pos (by rw [pJ]; omega) ?_)
   rw [if_neg c3, yf]
   have := ih (i + 1) (acc ++ [c]) (by omega) (by omega) (by omega) (by rw [List.length_append]; simp only [List.length_cons, List.length_nil]; omega)
   rw [tZ] at this
   exact this
  rw [List.drop_eq_nil_of_le (by rw [← ed]; omega)]
  refine af.step (fun k => by rw [ay.l0]) ?_
  exact af.neg (by omega) af.now
theorem JU (s : ByteArray) (hs : s.size ≤ 140737488351232) (at' : Nat) (ha : at' < s.size) : af (fun k => ay.f k s (at' : Int)) (zQ s.size at' [] (unq false ((L s).drop (at' + 1)))) := by
 unfold ay.f
 have := JS s hs at' (s.size - (at' + 1)) (at' + 1) [] (by omega) (by omega) (by omega) (by simp; omega)
 rw [inc at' 0 (by omega)]
 exact this
/-! lists of words -/
theorem zf (l : List ByteArray) (i : Nat) (h : i < l.length) : lZ ByteArray.empty l (i : Int) = l[i] := by
 simp [lZ, List.getD_eq_getElem?_getD, List.getElem?_eq_getElem h]
theorem Ko (s : ByteArray) (l : List ByteArray) (hl : l.length ≤ 1000) : ∀ (m i : Nat), l.length = m + i →
 af (fun k => cu.l0 k s l (i : Int)) (((l.drop i).map L).contains (L s)) := by
 intro m
 induction m with
 | zero =>
  intro i h1
  rw [List.drop_eq_nil_of_le (by omega)]
  refine af.step (fun k => by rw [cu.l0]) ?_
  exact af.neg (by omega) af.now
 | succ m ih =>
  intro i h1
  have hi : i < l.length := by omega
  refine af.step (fun k => by rw [cu.l0]) ?_
  refine af.pos (by omega) (af.pos (by omega) ?_)
  simp only [zf l i hi]
  rw [List.drop_eq_getElem_cons hi, List.map_cons, List.contains_cons]
  by_cases c : L l[i] = L s
  ·refine af.pos Z41 ?_
   rw [show (L s == L l[i]) = true from beq_iff_eq.2 c.symm]
   exact af.now
  refine af.neg Z41 ?_
  rw [show (L s == L l[i]) = false from beq_eq_false_iff_ne.2 (fun e => c e.symm), Bool.false_or, inc i 0 (by omega)]
  exact ih (i + 1) (by omega)
theorem F8 (s : ByteArray) : af (fun k => cu.f k s) (isKey (L s)) := by
 unfold cu.f
 exact Ko s _ (by simp) 20 0 (by simp)
theorem Iq (s : ByteArray) (hs : s.size ≤ 140737488351232) (at' : Nat) (ha : at' ≤ s.size) (l : List ByteArray) (hl : l.length ≤ 1000) (hw : ∀ w ∈ l, w.size ≤ 1000) : ∀ (m i : Nat), l.length = m + i →
 af (fun k => bZ.l0 k s (at' : Int) l (i : Int)) (((match (((l.drop i).map L).find? (fun w => w.isPrefixOf ((L s).drop at'))) with | some w => w.length | none => 0) : Nat) : Int) := by
 intro m
 induction m with
 | zero =>
  intro i h1
  have hnil : l.drop i = [] := List.drop_eq_nil_of_le (by omega)
  rw [hnil]
  refine af.step (fun k => by rw [bZ.l0]) ?_
  exact af.neg (by omega) af.now
 | succ m ih =>
  intro i h1
  have hi : i < l.length := by omega
  have hz := hw l[i] (List.getElem_mem _)
  have hL := ed l[i]
  have hsL := ed s
  refine af.step (fun k => by rw [bZ.l0]) ?_
  refine af.pos (by omega) (af.pos (by omega) ?_)
  simp only [zf l i hi]
  rw [List.drop_eq_getElem_cons hi, List.map_cons, List.find?_cons]
  have d1 : -9223372036854775808 ≤ (s.size : Int) - (at' : Int) ∧ (s.size : Int) - (at' : Int) ≤ 9223372036854775807 := by omega
  have hnext : af (fun k => bZ.l0 k s (at' : Int) l (wrap64 ((i : Int) + 1))) (((match (((l.drop (i + 1)).map L).find? (fun w => w.isPrefixOf ((L s).drop at'))) with | some w => w.length | none => 0) : Nat) : Int) := by
   rw [inc i 0 (by omega)]
   exact ih (i + 1) (by omega)
  have hp : (L l[i]).isPrefixOf ((L s).drop at') = true ↔ ((L l[i]).length ≤ ((L s).drop at').length ∧ ((L s).drop at').take (L l[i]).length = L l[i]) := lq _ _
  rw [List.length_drop, ← hL, ← hsL] at hp
  by_cases c1 : l[i].size ≤ s.size - at'
  ·have d2 : (s.size : Int) - (at' : Int) ≥ (l[i].size : Int) := by omega
   have d3 : -9223372036854775808 ≤ (at' : Int) + (l[i].size : Int) ∧ (at' : Int) + (l[i].size : Int) ≤ 9223372036854775807 := by omega
   have d4 : (at' : Int) ≤ (at' : Int) + (l[i].size : Int) := by omega
   have d5 : (at' : Int) + (l[i].size : Int) ≤ (s.size : Int) := by omega
   have d6 : ((at' : Int) + (l[i].size : Int)).toNat = at' + l[i].size := by omega
   have d0 : 0 ≤ (at' : Int) := by omega
   simp only [w64 _ d1, w64 _ d3]
   refine af.pos d2 (af.pos d0 (af.pos d4 (af.pos d5 ?_)))
   rw [d6, Int.toNat_natCast]
   by_cases c2 : ((L s).drop at').take l[i].size = L l[i]
   ·refine af.pos (by rw [iM, iM, yP]; exact c2) ?_
    rw [hp.2 ⟨c1, c2⟩, hL]
    exact af.now
   refine af.neg (by rw [iM, iM, yP]; exact c2) ?_
   rw [show (L l[i]).isPrefixOf ((L s).drop at') = false from Bool.eq_false_iff.2 (fun q => c2 (hp.1 q).2)]
   exact hnext
  have d2 : ¬ (s.size : Int) - (at' : Int) ≥ (l[i].size : Int) := by omega
  simp only [w64 _ d1]
  refine af.neg d2 ?_
  rw [show (L l[i]).isPrefixOf ((L s).drop at') = false from Bool.eq_false_iff.2 (fun q => c1 (hp.1 q).1)]
  exact hnext
end Go.Proofs.YtkbhkonenkgfoaaGreat.Lex
end
section
set_option linter.unusedVariables false
set_option linter.unusedSimpArgs false
namespace Go.Proofs.YtkbhkonenkgfoaaGreat.Lex
open Go Go.RowKit Go.Proofs.YtkbhkonenkgfoaaGreatW.PrintWords Go.Proofs.YtkbhkonenkgfoaaGreat.Q
theorem Dk (s : ByteArray) (hs : s.size ≤ 140737488351232) : af (fun k => eY.f k s) (gm (L s)) := by
 unfold eY.f
 have hL := ed s
 by_cases h : (s.size : Int) > 0
 ·refine af.pos h ?_
  by_cases h2 : (s.size : Int) ≤ 16
  ·refine af.pos h2 ?_
   have hw := Dh s hs 0 (by omega)
   rw [List.drop_zero] at hw
   refine af.bind hw ?_
   have hiff : (vY (L s) = (L s).length) ↔ isWord (L s) = true := by
    rcases hl : L s with _ | ⟨c, t⟩
    ·rw [hl, List.length_nil] at hL; omega
    simp only [vY, isWord, Bool.and_eq_true]
    by_cases c1 : le c = true
    ·rw [if_pos c1, rJ]
     exact ⟨fun q => ⟨c1, q⟩, fun q => q.2⟩
    rw [if_neg c1]
    constructor
    ·intro q; simp at q
    intro q; exact absurd q.1 c1
   by_cases h3 : isWord (L s) = true
   ·refine af.pos (by rw [hiff.2 h3, ← hL]) ?_
    have e : gm (L s) = !isKey (L s) := by
     unfold gm
     rw [h3, show decide ((L s).length ≤ 16) = true from decide_eq_true (by omega)]
     rfl
    rw [e]
    exact af.bind (F8 s) af.now
   refine af.neg (fun q => h3 (hiff.1 (by omega))) ?_
   have e : gm (L s) = false := by
    unfold gm
    rw [show isWord (L s) = false by simpa using h3]
    rfl
   rw [e]
   exact af.now
  refine af.neg h2 ?_
  have e : gm (L s) = false := by
   unfold gm
   rw [show decide ((L s).length ≤ 16) = false from decide_eq_false (by omega)]
   simp
  rw [e]
  exact af.now
 refine af.neg h ?_
 have e : L s = [] := List.eq_nil_of_length_eq_zero (by omega)
 rw [e]
 exact af.now
end Go.Proofs.YtkbhkonenkgfoaaGreat.Lex
end
section
set_option linter.unusedVariables false
set_option linter.unusedSimpArgs false
namespace Go.Proofs.YtkbhkonenkgfoaaGreat.Tree
open Go Go.RowKit Go.Proofs.YtkbhkonenkgfoaaGreatW.PrintWords Go.Proofs.YtkbhkonenkgfoaaGreat.Q Go.Proofs.YtkbhkonenkgfoaaGreat.Lex
theorem KY (a b : Int) (n : ByteArray) (v : Int) (t : ByteArray) : eG.f a b n v t = some ((L n).isEmpty && ((L t).isEmpty && v == 0)) := by
 unfold eG.f
 rw [iM, iM]
 cases L n with
 | nil =>
  rw [if_pos rfl]
  cases L t with
  | nil => rw [if_pos rfl]; rfl
  | cons c u => rw [if_neg (by simp)]; rfl
 | cons c u => rw [if_neg (by simp)]; rfl
theorem LQ : (L (⟨#[]⟩ : ByteArray)).isEmpty = true := rfl
theorem fv5 (lo hi : Int) (x : S29) : jB 5 true lo hi x = ((L x.f4).isEmpty && (gm (L x.f2) && decide (lo ≤ x.f3 ∧ x.f3 ≤ hi))) := by
 unfold jB textS pz
 rw [show Go.bits .and .i64 5 2 = 0 from by decide, show Go.bits .and .i64 5 8 = 0 from by decide, show Go.bits .and .i64 5 16 = 0 from by decide, show Go.bits .and .i64 5 32 = 0 from by decide, show Go.bits .and .i64 5 1 = 1 from by decide, show Go.bits .and .i64 5 4 = 4 from by decide]
 cases gm (L x.f2) <;> rfl
theorem fv7 (lo hi : Int) (x : S29) : jB 7 true lo hi x = (gm (L x.f4) && (gm (L x.f2) && decide (lo ≤ x.f3 ∧ x.f3 ≤ hi))) := by
 unfold jB textS pz
 rw [show Go.bits .and .i64 7 2 = 2 from by decide, show Go.bits .and .i64 7 1 = 1 from by decide, show Go.bits .and .i64 7 4 = 4 from by decide]
 cases gm (L x.f2) <;> rfl
theorem fv1 (lo hi : Int) (x : S29) : jB 1 true lo hi x = ((L x.f4).isEmpty && (gm (L x.f2) && x.f3 == 0)) := by
 unfold jB textS pz
 rw [show Go.bits .and .i64 1 2 = 0 from by decide, show Go.bits .and .i64 1 8 = 0 from by decide, show Go.bits .and .i64 1 16 = 0 from by decide, show Go.bits .and .i64 1 32 = 0 from by decide, show Go.bits .and .i64 1 1 = 1 from by decide, show Go.bits .and .i64 1 4 = 0 from by decide]
 cases gm (L x.f2) <;> rfl
theorem wV (s : List UInt8) (b : Bool) : ((false == gm s) && ((false || s.isEmpty) && b)) = (s.isEmpty && b) := by
 cases s with
 | nil => rfl
 | cons c t => simp
theorem fv4 (lo hi : Int) (x : S29) : jB 4 true lo hi x = ((L x.f4).isEmpty && ((L x.f2).isEmpty && decide (lo ≤ x.f3 ∧ x.f3 ≤ hi))) := by
 unfold jB textS pz
 rw [show Go.bits .and .i64 4 2 = 0 from by decide, show Go.bits .and .i64 4 8 = 0 from by decide, show Go.bits .and .i64 4 16 = 0 from by decide, show Go.bits .and .i64 4 32 = 0 from by decide, show Go.bits .and .i64 4 1 = 0 from by decide, show Go.bits .and .i64 4 4 = 4 from by decide]
 rw [show ((0 : Int) != 0) = false from rfl, wV]; rfl
theorem MW (lo hi : Int) (x : S29) : jB 32 true lo hi x = (decide (x.f4.size ≤ 1024) && ((L x.f2).isEmpty && x.f3 == 0)) := by
 unfold jB textS pz
 rw [show Go.bits .and .i64 32 2 = 0 from by decide, show Go.bits .and .i64 32 8 = 0 from by decide, show Go.bits .and .i64 32 16 = 0 from by decide, show Go.bits .and .i64 32 32 = 32 from by decide, show Go.bits .and .i64 32 1 = 0 from by decide, show Go.bits .and .i64 32 4 = 0 from by decide]
 rw [show ((0 : Int) != 0) = false from rfl, wV]; rfl
theorem fv3 (lo hi : Int) (x : S29) : jB 3 true lo hi x = (gm (L x.f4) && (gm (L x.f2) && x.f3 == 0)) := by
 unfold jB textS pz
 rw [show Go.bits .and .i64 3 2 = 2 from by decide, show Go.bits .and .i64 3 1 = 1 from by decide, show Go.bits .and .i64 3 4 = 0 from by decide]
 cases gm (L x.f2) <;> rfl
theorem fv8 (lo hi : Int) (x : S29) : jB 8 true lo hi x = (OPS.contains (L x.f4) && ((L x.f2).isEmpty && x.f3 == 0)) := by
 unfold jB textS pz
 rw [show Go.bits .and .i64 8 2 = 0 from by decide, show Go.bits .and .i64 8 8 = 8 from by decide, show Go.bits .and .i64 8 1 = 0 from by decide, show Go.bits .and .i64 8 4 = 0 from by decide]
 rw [show ((0 : Int) != 0) = false from rfl, wV]; rfl
theorem MX (lo hi : Int) (x : S29) : jB 16 true lo hi x = (UNS.contains (L x.f4) && ((L x.f2).isEmpty && x.f3 == 0)) := by
 unfold jB textS pz
 rw [show Go.bits .and .i64 16 2 = 0 from by decide, show Go.bits .and .i64 16 8 = 0 from by decide, show Go.bits .and .i64 16 16 = 16 from by decide, show Go.bits .and .i64 16 1 = 0 from by decide, show Go.bits .and .i64 16 4 = 0 from by decide]
 rw [show ((0 : Int) != 0) = false from rfl, wV]; rfl
theorem fv0 (ok : Bool) (lo hi : Int) (x : S29) : jB 0 ok lo hi x = (ok && ((L x.f4).isEmpty && ((L x.f2).isEmpty && x.f3 == 0))) := by
 unfold jB textS pz
 rw [show Go.bits .and .i64 0 2 = 0 from by decide, show Go.bits .and .i64 0 8 = 0 from by decide, show Go.bits .and .i64 0 16 = 0 from by decide, show Go.bits .and .i64 0 32 = 0 from by decide, show Go.bits .and .i64 0 1 = 0 from by decide, show Go.bits .and .i64 0 4 = 0 from by decide]
 rw [show ((0 : Int) != 0) = false from rfl, wV]; rfl
theorem oO {F : Nat → Option Bool} {v : Bool} {c : Prop} [Decidable c] (h : c → af F v) : af (fun k => if c then F k else some false) (decide c && v) := by
 by_cases hc : c
 ·rw [decide_eq_true hc, Bool.true_and]; exact af.pos hc (h hc)
 rw [decide_eq_false hc, Bool.false_and]; exact af.neg hc af.now
theorem o8 {F : Nat → Option Bool} {v b : Bool} (h : af F v) : af (fun k => if b = true then F k else some false) (b && v) := by
 cases b
 ·exact af.neg (by simp) af.now
 exact af.pos rfl h
theorem qh (a b : Int) (n : ByteArray) (v : Int) (t : ByteArray) : af (fun _ => (eG.f a b n v t).bind fun t => some t) ((L n).isEmpty && ((L t).isEmpty && v == 0)) :=
 af.jR fun _ => by rw [KY]; rfl
theorem ML (s : ByteArray) (l : List ByteArray) (hl : l.length ≤ 1000) : ∀ (m i : Nat), l.length = m + i → af (fun k => dC.l0 k s l (i : Int)) (((l.drop i).map L).contains (L s)) := by
 intro m
 induction m with
 | zero =>
  intro i h1
  rw [List.drop_eq_nil_of_le (by omega)]
  refine af.step (fun k => by rw [dC.l0]) ?_
  exact af.neg (by omega) af.now
 | succ m ih =>
  intro i h1
  have hi : i < l.length := by omega
  refine af.step (fun k => by rw [dC.l0]) ?_
  refine af.pos (by omega) (af.pos (by omega) ?_)
  simp only [zf l i hi]
  rw [List.drop_eq_getElem_cons hi, List.map_cons, List.contains_cons]
  by_cases c : L l[i] = L s
  ·refine af.pos Z41 ?_
   rw [show (L s == L l[i]) = true from beq_iff_eq.2 c.symm]
   exact af.now
  refine af.neg Z41 ?_
  rw [show (L s == L l[i]) = false from beq_eq_false_iff_ne.2 (fun e => c e.symm), Bool.false_or, Tree.inc i (by omega)]
  exact ih (i + 1) (by omega)
theorem MM (s : ByteArray) : af (fun k => dC.f k s) (OPS.contains (L s)) := by
 unfold dC.f
 exact ML s _ (by simp) 12 0 (by simp)
theorem Ef (x : S29) (h2 : x.f3 ≤ 9223372036854775807) (b : Bool) (hb : b = decide (x.f0 = 3 ∨ x.f0 = 4 ∨ x.f0 = 6 ∨ x.f0 = 7 ∨ x.f0 = 21)) (c1 : x.f0 ≠ 1) (c2 : x.f0 ≠ 2) :
 af (fun k => bz.j0 k (gm (L x.f2)) (gm (L x.f4)) x.f0 b x.f0 x.f1 x.f2 x.f3 x.f4 x.f0 x.f1 x.f2 x.f3 x.f4) (lD x) := by
 refine af.step (fun k => by rw [bz.j0]) ?_
 have hr : rangeS x.f0 = (0, 9223372036854775807) := by unfold rangeS; rw [if_neg c1, if_neg c2]
 unfold lD
 rw [hr]
 by_cases c : x.f0 = 3 ∨ x.f0 = 4 ∨ x.f0 = 6 ∨ x.f0 = 7 ∨ x.f0 = 21
 ·have hs : nI x.f0 = (1, true) := by unfold nI; rw [if_neg c1, if_neg c2, if_pos c]
  rw [hs, fv1, show ((L x.f4).isEmpty && (gm (L x.f2) && x.f3 == 0)) = (gm (L x.f2) && (true && ((L x.f4).isEmpty && x.f3 == 0))) from by cases gm (L x.f2) <;> cases (L x.f4).isEmpty <;> rfl]
  exact af.pos Z32 (o8 (qh _ _ _ _ _))
 refine af.neg (by rw [hb]; simpa using c) ?_
 by_cases c3 : x.f0 = 19
 ·have hs : nI x.f0 = (4, true) := by unfold nI; rw [if_neg c1, if_neg c2, if_neg c, if_pos c3]
  rw [hs, fv4, show ((L x.f4).isEmpty && ((L x.f2).isEmpty && decide (0 ≤ x.f3 ∧ x.f3 ≤ 9223372036854775807))) = (decide (x.f3 ≥ 0) && ((L x.f2).isEmpty && ((L x.f4).isEmpty && true))) from by
   rw [show decide (0 ≤ x.f3 ∧ x.f3 ≤ 9223372036854775807) = decide (x.f3 ≥ 0) from by rw [decide_eq_decide]; omega]
   cases decide (x.f3 ≥ 0) <;> cases (L x.f4).isEmpty <;> cases (L x.f2).isEmpty <;> rfl]
  exact af.pos c3 (oO fun _ => qh _ _ _ _ _)
 refine af.neg c3 ?_
 by_cases c4 : x.f0 = 20
 ·have hs : nI x.f0 = (32, true) := by unfold nI; rw [if_neg c1, if_neg c2, if_neg c, if_neg c3, if_pos c4]
  rw [hs, MW, show (decide (x.f4.size ≤ 1024) && ((L x.f2).isEmpty && x.f3 == 0)) = (decide ((x.f4.size : Int) ≤ 1024) && ((L x.f2).isEmpty && (true && x.f3 == 0))) from by
   rw [show decide (x.f4.size ≤ 1024) = decide ((x.f4.size : Int) ≤ 1024) from by rw [decide_eq_decide]; omega]; rfl]
  exact af.pos c4 (oO fun _ => qh _ _ _ _ _)
 refine af.neg c4 ?_
 by_cases c5 : x.f0 = 23
 ·have hs : nI x.f0 = (3, true) := by unfold nI; rw [if_neg c1, if_neg c2, if_neg c, if_neg c3, if_neg c4, if_pos c5]
  rw [hs, fv3, show (gm (L x.f4) && (gm (L x.f2) && x.f3 == 0)) = (gm (L x.f2) && (gm (L x.f4) && (true && (true && x.f3 == 0)))) from by cases gm (L x.f2) <;> cases gm (L x.f4) <;> rfl]
  exact af.pos c5 (o8 (o8 (qh _ _ _ _ _)))
 refine af.neg c5 ?_
 by_cases c6 : x.f0 = 27
 ·have hs : nI x.f0 = (8, true) := by unfold nI; rw [if_neg c1, if_neg c2, if_neg c, if_neg c3, if_neg c4, if_neg c5, if_pos c6]
  rw [hs, fv8, show (OPS.contains (L x.f4) && ((L x.f2).isEmpty && x.f3 == 0)) = (OPS.contains (L x.f4) && ((L x.f2).isEmpty && (true && x.f3 == 0))) from rfl]
  exact af.pos c6 (af.bind (MM x.f4) (o8 (qh _ _ _ _ _)))
 refine af.neg c6 ?_
 by_cases c7 : x.f0 = 28
 ·have hs : nI x.f0 = (16, true) := by unfold nI; rw [if_neg c1, if_neg c2, if_neg c, if_neg c3, if_neg c4, if_neg c5, if_neg c6, if_pos c7]
  rw [hs, MX]
  refine af.pos c7 ?_
  rw [iM]
  have hu : UNS.contains (L x.f4) = (L x.f4 == [45] || (L x.f4 == [110, 111, 116] || L x.f4 == [108, 101, 110])) := by simp only [UNS, List.contains_cons, List.contains_nil, Bool.or_false]
  have hbr := qh x.f0 x.f1 x.f2 x.f3 (⟨#[]⟩ : ByteArray)
  rw [LQ, Bool.true_and] at hbr
  by_cases d1 : L x.f4 = [45]
  ·rw [hu, show (L x.f4 == [45]) = true from beq_iff_eq.2 d1, Bool.true_or, Bool.true_and]
   exact af.pos d1 hbr
  refine af.neg d1 ?_
  by_cases d2 : L x.f4 = [110, 111, 116]
  ·rw [hu, show (L x.f4 == [110, 111, 116]) = true from beq_iff_eq.2 d2, Bool.true_or, Bool.or_true, Bool.true_and]
   exact af.pos d2 hbr
  refine af.neg d2 ?_
  by_cases d3 : L x.f4 = [108, 101, 110]
  ·rw [hu, show (L x.f4 == [108, 101, 110]) = true from beq_iff_eq.2 d3, Bool.or_true, Bool.or_true, Bool.true_and]
   exact af.pos d3 hbr
  rw [hu, beq_eq_false_iff_ne.2 d1, beq_eq_false_iff_ne.2 d2, beq_eq_false_iff_ne.2 d3]
  exact af.neg d3 af.now
 refine af.neg c7 ?_
 have hs : nI x.f0 = (0, decide (1 ≤ x.f0 ∧ x.f0 ≤ 30)) := by unfold nI; rw [if_neg c1, if_neg c2, if_neg c, if_neg c3, if_neg c4, if_neg c5, if_neg c6, if_neg c7]
 rw [hs, fv0, show (decide (1 ≤ x.f0 ∧ x.f0 ≤ 30) && ((L x.f4).isEmpty && ((L x.f2).isEmpty && x.f3 == 0))) = (decide (x.f0 ≥ 1) && (decide (x.f0 ≤ 30) && ((L x.f2).isEmpty && ((L x.f4).isEmpty && x.f3 == 0)))) from by
  rw [show decide (1 ≤ x.f0 ∧ x.f0 ≤ 30) = (decide (x.f0 ≥ 1) && decide (x.f0 ≤ 30)) from Bool.decide_and _ _]
  cases decide (x.f0 ≥ 1) <;> cases decide (x.f0 ≤ 30) <;> cases (L x.f4).isEmpty <;> cases (L x.f2).isEmpty <;> rfl]
 exact oO fun _ => oO fun _ => qh _ _ _ _ _
theorem Eg (x : S29) (h2 : x.f2.size ≤ 3000) (h4 : x.f4.size ≤ 3000) (h3 : x.f3 ≤ 9223372036854775807) : af (fun k => bz.f k x.f0 x.f1 x.f2 x.f3 x.f4) (lD x) := by
 unfold bz.f
 refine af.bind (Dk x.f2 (by omega)) (af.bind (Dk x.f4 (by omega)) ?_)
 by_cases c1 : x.f0 = 1
 ·have hs : nI x.f0 = (5, true) := by unfold nI; rw [if_pos c1]
  have hr : rangeS x.f0 = (1, 2147483647) := by unfold rangeS; rw [if_pos c1]
  unfold lD
  rw [hs, hr, fv5, show ((L x.f4).isEmpty && (gm (L x.f2) && decide (1 ≤ x.f3 ∧ x.f3 ≤ 2147483647))) = (gm (L x.f2) && (decide (x.f3 ≥ 1) && (decide (x.f3 ≤ 2147483647) && (true && ((L x.f4).isEmpty && true))))) from by
   rw [show decide (1 ≤ x.f3 ∧ x.f3 ≤ 2147483647) = (decide (x.f3 ≥ 1) && decide (x.f3 ≤ 2147483647)) from Bool.decide_and _ _]
   cases gm (L x.f2) <;> cases decide (x.f3 ≥ 1) <;> cases decide (x.f3 ≤ 2147483647) <;> cases (L x.f4).isEmpty <;> rfl]
  exact af.pos c1 (o8 (oO fun _ => oO fun _ => qh _ _ _ _ _))
 refine af.neg c1 ?_
 by_cases c2 : x.f0 = 2
 ·have hs : nI x.f0 = (7, true) := by unfold nI; rw [if_neg c1, if_pos c2]
  have hr : rangeS x.f0 = (0, 8) := by unfold rangeS; rw [if_neg c1, if_pos c2]
  unfold lD
  rw [hs, hr, fv7, show (gm (L x.f4) && (gm (L x.f2) && decide (0 ≤ x.f3 ∧ x.f3 ≤ 8))) = (gm (L x.f2) && (gm (L x.f4) && (decide (x.f3 ≥ 0) && (decide (x.f3 ≤ 8) && (true && (true && true)))))) from by
   rw [show decide (0 ≤ x.f3 ∧ x.f3 ≤ 8) = (decide (x.f3 ≥ 0) && decide (x.f3 ≤ 8)) from Bool.decide_and _ _]
   cases gm (L x.f2) <;> cases gm (L x.f4) <;> cases decide (x.f3 ≥ 0) <;> cases decide (x.f3 ≤ 8) <;> rfl]
  exact af.pos c2 (o8 (o8 (oO fun _ => oO fun _ => qh _ _ _ _ _)))
 refine af.neg c2 ?_
 have go : ∀ b : Bool, b = decide (x.f0 = 3 ∨ x.f0 = 4 ∨ x.f0 = 6 ∨ x.f0 = 7 ∨ x.f0 = 21) → af (fun k => bz.j0 k (gm (L x.f2)) (gm (L x.f4)) x.f0 b x.f0 x.f1 x.f2 x.f3 x.f4 x.f0 x.f1 x.f2 x.f3 x.f4) (lD x) := fun b hb => Ef x h3 b hb c1 c2
 by_cases d1 : x.f0 = 3
 ·exact af.pos d1 (go _ (by simp [d1]))
 refine af.neg d1 ?_
 by_cases d2 : x.f0 = 4
 ·exact af.pos d2 (go _ (by simp [d2]))
 refine af.neg d2 ?_
 by_cases d3 : x.f0 = 6
 ·exact af.pos d3 (go _ (by simp [d3]))
 refine af.neg d3 ?_
 by_cases d4 : x.f0 = 7
 ·exact af.pos d4 (go _ (by simp [d4]))
 exact af.neg d4 (go _ Z29)
/-! Kids. -/
theorem yl (l : List Int) (i : Nat) (h : i < l.length) : rd l (i : Int) = l[i] := by simp [rd, List.getD_eq_getElem?_getD, List.getElem?_eq_getElem h]
theorem IA (a : Int) : iK.f a = some (lF a) := by
 unfold iK.f lF
 by_cases c : a ≥ 6
 ·rw [if_pos c]; congr 1; rw [decide_eq_decide]; omega
 rw [if_neg c]; congr 1; symm; exact decide_eq_false (by omega)
theorem vN (a : Int) : fU.f a = some (kQ a) := by
 unfold fU.f kQ
 by_cases c : a ≥ 18
 ·rw [if_pos c]; congr 1; rw [decide_eq_decide]; omega
 rw [if_neg c]; congr 1; symm; exact decide_eq_false (by omega)
theorem Fj (l : List Int) (hl : l.length ≤ 200000) (lo hi : Nat) : ∀ (m i : Nat), l.length = m + i → af (fun k => bC.l0 k l (lo : Int) (hi : Int) (i : Int)) (decide (lo ≤ l.length ∧ l.length ≤ hi) && (l.drop i).all kQ) := by
 intro m
 induction m with
 | zero =>
  intro i h
  refine af.step (fun k => by rw [bC.l0]) ?_
  rw [List.drop_eq_nil_of_le (by omega), List.all_nil, Bool.and_true]
  refine af.neg (by omega) ?_
  by_cases c : (l.length : Int) ≥ (lo : Int)
  ·refine af.pos c (af.jR fun k => ?_)
   congr 1; rw [decide_eq_decide]; omega
  refine af.neg c ?_
  rw [decide_eq_false (by omega)]
  exact af.now
 | succ m ih =>
  intro i h
  have hi : i < l.length := by omega
  refine af.step (fun k => by rw [bC.l0]) ?_
  refine af.pos (by omega) (af.pos (by omega) ?_)
  simp only [yl l i hi, vN, Option.bind_some]
  rw [inc i (by omega), List.drop_eq_getElem_cons hi, List.all_cons]
  cases kQ l[i] with
  | true =>
   rw [Bool.true_and]
   exact af.pos rfl (ih (i + 1) (by omega))
  | false =>
   rw [Bool.false_and, Bool.and_false]
   exact af.neg (by simp) af.now
theorem pG (l : List Int) (hl : l.length ≤ 200000) (lo hi : Nat) : af (fun k => (bC.f k l (lo : Int) (hi : Int)).bind fun t => some t) (exS l lo hi) := by
 refine rP ?_
 have := Fj l hl lo hi l.length 0 (by omega)
 exact this
theorem JW (l : List Int) (hl : l.length ≤ 200000) : ∀ (m i : Nat) (p : Bool), l.length = m + i → (p = true ↔ 0 < i ∧ rd l ((i - 1 : Nat) : Int) = 3) →
 af (fun k => au.l0 k l (l.length : Int) (i : Int)) (if p then (l.drop i).all (· == 3) else qC (l.drop i)) := by
 intro m
 induction m with
 | zero =>
  intro i p h hp
  refine af.step (fun k => by rw [au.l0]) ?_
  rw [List.drop_eq_nil_of_le (by omega)]
  have : (if p = true then ([] : List Int).all (· == 3) else qC []) = true := by cases p <;> rfl
  rw [this]
  exact af.neg (by omega) af.now
 | succ m ih =>
  intro i p h hp
  have hi : i < l.length := by omega
  refine af.step (fun k => by rw [au.l0]) ?_
  refine af.pos (by omega) (af.pos (by omega) (af.pos (by omega) ?_))
  rw [yl l i hi, inc i (by omega), List.drop_eq_getElem_cons hi]
  have hm2 : ∀ t : List Int, qC (2 :: t) = qC t := fun t => by unfold qC; rw [List.dropWhile_cons, if_pos (by decide)]
  have hm3 : ∀ (c : Int) (t : List Int), c ≠ 2 → qC (c :: t) = (c :: t).all (· == 3) := fun c t hc => by unfold qC; rw [List.dropWhile_cons, if_neg (by simpa using hc)]
  have hback : ∀ q : Bool, (q = true ↔ l[i] = 3) → (q = true ↔ 0 < i + 1 ∧ rd l ((i + 1 - 1 : Nat) : Int) = 3) := fun q hq => by
   rw [Nat.add_sub_cancel, yl l i hi]; exact hq.trans ⟨fun h => ⟨by omega, h⟩, fun h => h.2⟩
  by_cases c2 : l[i] = 2
  ·refine af.pos c2 ?_
   rw [c2]
   have go := ih (i + 1) false (by omega) (hback false (by rw [c2]; decide))
   by_cases c0 : (i : Int) > 0
   ·rw [w64 (n := (i : Int) - 1) (by omega) (by omega), show (i : Int) - 1 = ((i - 1 : Nat) : Int) by omega]
    refine af.pos c0 (af.pos (by omega) (af.pos (by omega) ?_))
    by_cases c3 : rd l ((i - 1 : Nat) : Int) = 3
    ·have : p = true := hp.2 ⟨by omega, c3⟩
     rw [this]
     exact af.pos c3 af.now
    have : p = false := by
     rw [Bool.eq_false_iff]; intro h; exact c3 (hp.1 h).2
    rw [this]
    refine af.neg c3 ?_
    rw [if_neg (by simp), hm2]
    exact go
   have : p = false := by
    rw [Bool.eq_false_iff]; intro h; have := (hp.1 h).1; omega
   rw [this]
   refine af.neg c0 ?_
   rw [if_neg (by simp), hm2]
   exact go
  refine af.neg c2 ?_
  rw [hm3 _ _ c2]
  have : (if p = true then (l[i] :: l.drop (i + 1)).all (· == 3) else (l[i] :: l.drop (i + 1)).all (· == 3)) = (l[i] :: l.drop (i + 1)).all (· == 3) := by cases p <;> rfl
  rw [this]
  by_cases c3 : l[i] = 3
  ·refine af.pos c3 ?_
   have go := ih (i + 1) true (by omega) (hback true (by rw [c3]; decide))
   rw [List.all_cons, c3]
   by_cases c0 : (i : Int) > 0
   ·exact af.pos c0 go
   exact af.neg c0 go
  refine af.neg c3 ?_
  rw [List.all_cons, beq_eq_false_iff_ne.2 c3]
  exact af.now
theorem JX (l : List Int) (hl : l.length ≤ 200000) : ∀ (m i : Nat), l.length - 1 = m + i → af (fun k => aQ.l0 k l (l.length : Int) (i : Int)) (((l.take (l.length - 1)).drop i).all (· == 4)) := by
 intro m
 induction m with
 | zero =>
  intro i h
  refine af.step (fun k => by rw [aQ.l0]) ?_
  rw [List.drop_eq_nil_of_le (by rw [List.length_take]; omega), w64 (by omega) (by omega)]
  exact af.neg (by omega) af.now
 | succ m ih =>
  intro i h
  have hi : i < l.length := by omega
  have hi2 : i < (l.take (l.length - 1)).length := by rw [List.length_take]; omega
  refine af.step (fun k => by rw [aQ.l0]) ?_
  rw [w64 (n := (l.length : Int) - 1) (by omega) (by omega)]
  refine af.pos (by omega) (af.pos (by omega) (af.pos (by omega) ?_))
  rw [yl l i hi, inc i (by omega), List.drop_eq_getElem_cons hi2, List.all_cons, List.getElem_take]
  by_cases c : l[i] = 4
  ·rw [c]
   exact af.pos rfl (ih (i + 1) (by omega))
  rw [beq_eq_false_iff_ne.2 c]
  exact af.neg c af.now
theorem Ah (l : List Int) (hl : l.length ≤ 200000) : af (fun k => (aQ.f k l).bind fun t => some t) (Cj l) := by
 refine rP ?_
 unfold aQ.f Cj
 by_cases c1 : l.length < 1
 ·rw [decide_eq_false (by omega)]
  refine af.pos (by omega) ?_
  refine af.step (fun k => by rw [aQ.j0]) ?_
  exact af.pos rfl af.now
 refine af.neg (by omega) ?_
 by_cases c2 : l.length > 9
 ·rw [decide_eq_false (by omega)]
  refine af.pos (by omega) ?_
  refine af.step (fun k => by rw [aQ.j0]) ?_
  exact af.pos rfl af.now
 refine af.neg (by omega) ?_
 rw [w64 (n := (l.length : Int) - 1) (by omega) (by omega), show (l.length : Int) - 1 = ((l.length - 1 : Nat) : Int) by omega, decide_eq_true (by omega), Bool.true_and]
 refine af.pos (by omega) (af.pos (by omega) ?_)
 refine af.step (fun k => by rw [aQ.j0]) ?_
 by_cases c3 : rd l ((l.length - 1 : Nat) : Int) = 5
 ·rw [c3]
  exact af.neg (by simp) (JX l hl (l.length - 1) 0 (by omega))
 rw [beq_eq_false_iff_ne.2 c3]
 exact af.pos (by simpa using c3) af.now
theorem Ff (l : List Int) (hl : l.length ≤ 200000) : ∀ (m i : Nat), l.length = m + i → af (fun k => au.l1 k l (l.length : Int) (i : Int)) ((l.drop i).all lF) := by
 intro m
 induction m with
 | zero =>
  intro i h
  refine af.step (fun k => by rw [au.l1]) ?_
  rw [List.drop_eq_nil_of_le (by omega)]
  exact af.neg (by omega) af.now
 | succ m ih =>
  intro i h
  have hi : i < l.length := by omega
  refine af.step (fun k => by rw [au.l1]) ?_
  refine af.pos (by omega) (af.pos (by omega) (af.pos (by omega) ?_))
  simp only [yl l i hi, IA, Option.bind_some]
  rw [inc i (by omega), List.drop_eq_getElem_cons hi, List.all_cons]
  cases lF l[i] with
  | true => exact af.pos rfl (ih (i + 1) (by omega))
  | false => exact af.neg (by simp) af.now
theorem Fh (a : Int) (l : List Int) (hl : l.length ≤ 200000) (b : Bool) (hb : b = decide (a = 6 ∨ a = 7 ∨ a = 13 ∨ a = 14 ∨ a = 15 ∨ a = 17 ∨ a = 28 ∨ a = 30)) (h1 : a ≠ 1) (h2 : ¬ (a = 3 ∨ a = 24)) (h3 : a ≠ 5) (h4 : a ≠ 9) (h5 : a ≠ 10) (h6 : a ≠ 8) :
 af (fun k => au.j3 k l (l.length : Int) a b) (jh a l) := by
 unfold jh
 rw [if_neg h1, if_neg h2, if_neg h3, if_neg h4, if_neg h5, if_neg h6]
 refine af.step (fun k => by rw [au.j3]) ?_
 by_cases c : a = 6 ∨ a = 7 ∨ a = 13 ∨ a = 14 ∨ a = 15 ∨ a = 17 ∨ a = 28 ∨ a = 30
 ·rw [if_pos c]
  exact af.pos Z32 (pG l hl 1 1)
 rw [if_neg c]
 refine af.neg (by rw [hb]; simpa using c) ?_
 refine af.both (fun _ => pG l hl 1 9) (fun _ => af.both (fun _ => pG l hl 0 8) (fun _ => ?_))
 by_cases c3 : a = 26
 ·rw [if_pos (Or.inl c3)]; exact af.pos c3 (pG l hl 2 2)
 refine af.neg c3 ?_
 by_cases c4 : a = 27
 ·rw [if_pos (Or.inr c4)]; exact af.pos c4 (pG l hl 2 2)
 rw [if_neg (show ¬ (a = 26 ∨ a = 27) by omega)]
 refine af.neg c4 (af.jR fun k => ?_)
 congr 1
 rw [Bool.eq_iff_iff, beq_iff_eq, decide_eq_true_eq]; omega
theorem Ag (a : Int) (l : List Int) (hl : l.length ≤ 200000) (b : Bool) (hb : b = decide (a = 3 ∨ a = 24)) (h1 : a ≠ 1) : af (fun k => au.j1 k l (l.length : Int) a b) (jh a l) := by
 refine af.step (fun k => by rw [au.j1]) ?_
 by_cases c : a = 3 ∨ a = 24
 ·refine af.pos Z32 ?_
  rw [show jh a l = Cj l from by unfold jh; rw [if_neg h1, if_pos c]]
  exact Ah l hl
 refine af.neg (by rw [hb]; simpa using c) ?_
 by_cases c1 : a = 5
 ·refine af.pos c1 ?_
  rw [show jh a l = l.all lF from by unfold jh; rw [if_neg h1, if_neg c, if_pos c1]]
  exact Ff l hl l.length 0 (by omega)
 refine af.neg c1 ?_
 by_cases c8 : a = 8
 ·refine af.pos c8 ?_
  rw [show jh a l = exS l 3 3 from by unfold jh; rw [if_neg h1, if_neg c, if_neg c1, if_neg (by omega), if_neg (by omega), if_pos c8]]
  exact pG l hl 3 3
 refine af.neg c8 ?_
 have five : ∀ (x y : Int) (t : List Int), (rd (x :: y :: t) 0 = x ∧ rd (x :: y :: t) 1 = y) := fun x y t => ⟨rfl, rfl⟩
 by_cases c9 : a = 9
 ·refine af.pos c9 ?_
  rw [show jh a l = ifS 3 l from by unfold jh; rw [if_neg h1, if_neg c, if_neg c1, if_pos c9]]
  refine af.jR fun k => ?_
  rcases l with _ | ⟨x, _ | ⟨y, _ | ⟨z, _ | ⟨u, t⟩⟩⟩⟩
  ·rfl
  ·rfl
  ·simp only [vN, Option.bind_some, ifS, (five x y []).1, (five x y []).2, List.length_cons, List.length_nil, List.drop_succ_cons, List.drop_zero, List.all_cons, List.all_nil]
   cases kQ x <;> simp
  ·simp only [vN, Option.bind_some, ifS, (five x y [z]).1, (five x y [z]).2, show rd [x, y, z] 2 = z from rfl, List.length_cons, List.length_nil, List.drop_succ_cons, List.drop_zero, List.all_cons, List.all_nil]
   by_cases hz : z = 5
   ·cases kQ x <;> simp [hz]
   cases kQ x <;> simp [hz]
  have : ((x :: y :: z :: u :: t).length : Int) = (t.length : Int) + 4 := by simp only [List.length_cons]; omega
  rw [this, if_neg (by omega), if_neg (by omega)]
  unfold ifS
  rw [decide_eq_false (by simp)]
  rfl
 refine af.neg c9 ?_
 by_cases c10 : a = 10
 ·refine af.pos c10 ?_
  rw [show jh a l = ifS 2 l from by unfold jh; rw [if_neg h1, if_neg c, if_neg c1, if_neg c9, if_pos c10]]
  refine af.jR fun k => ?_
  rcases l with _ | ⟨x, _ | ⟨y, _ | ⟨z, t⟩⟩⟩
  ·rfl
  ·rfl
  ·simp only [vN, Option.bind_some, ifS, (five x y []).1, (five x y []).2, List.length_cons, List.length_nil, List.drop_succ_cons, List.drop_zero, List.all_cons, List.all_nil]
   cases kQ x <;> simp
  have : ((x :: y :: z :: t).length : Int) = (t.length : Int) + 3 := by simp only [List.length_cons]; omega
  rw [this, if_neg (by omega)]
  unfold ifS
  rw [decide_eq_false (by simp)]
  rfl
 refine af.neg c10 ?_
 have go : ∀ b : Bool, b = decide (a = 6 ∨ a = 7 ∨ a = 13 ∨ a = 14 ∨ a = 15 ∨ a = 17 ∨ a = 28 ∨ a = 30) → af (fun k => au.j3 k l (l.length : Int) a b) (jh a l) := fun b hb => Fh a l hl b hb h1 c c1 c9 c10 c8
 by_cases d1 : a = 6
 ·exact af.pos d1 (go _ (by simp [d1]))
 refine af.neg d1 ?_
 by_cases d2 : a = 7
 ·exact af.pos d2 (go _ (by simp [d2]))
 refine af.neg d2 ?_
 by_cases d3 : a = 13
 ·exact af.pos d3 (go _ (by simp [d3]))
 refine af.neg d3 ?_
 by_cases d4 : a = 14
 ·exact af.pos d4 (go _ (by simp [d4]))
 refine af.neg d4 ?_
 by_cases d5 : a = 15
 ·exact af.pos d5 (go _ (by simp [d5]))
 refine af.neg d5 ?_
 by_cases d6 : a = 17
 ·exact af.pos d6 (go _ (by simp [d6]))
 refine af.neg d6 ?_
 by_cases d7 : a = 28
 ·exact af.pos d7 (go _ (by simp [d7]))
 exact af.neg d7 (go _ Z29)
theorem Iu (a : Int) (l : List Int) (hl : l.length ≤ 200000) : af (fun k => au.f k a l) (jh a l) := by
 unfold au.f
 by_cases c : a = 1
 ·refine af.pos c ?_
  rw [show jh a l = qC l from by unfold jh; rw [if_pos c]]
  exact JW l hl l.length 0 false (by omega) ⟨fun h => (by cases h), fun h => (by omega)⟩
 refine af.neg c ?_
 by_cases d1 : a = 3
 ·exact af.pos d1 (Ag a l hl _ (by simp [d1]) c)
 exact af.neg d1 (Ag a l hl _ Z29 c)
/-! Check. -/
theorem En (l : List S29) (hl : l.length ≤ 100000) (hs : short l) (h3 : ∀ x ∈ l, x.f3 ≤ 9223372036854775807) (i : Nat) (hi : i < l.length) (ks : List Int) (hks : ks.length ≤ 100000) (hk : ∀ q ∈ ks, 0 ≤ q ∧ q < (l.length : Int)) (v : Int × Int)
 (hnext : af (fun k => aU.l0 k l ((i + 1 : Nat) : Int)) v) : ∀ (m idx : Nat) (acc : List Int), ks.length = m + idx → acc.length = idx →
 af (fun k => aU.l1 k l (i : Int) ks acc (idx : Int))
  (if lD (ax l (i : Int)) && jh (ax l (i : Int)).f0 (acc ++ (ks.drop idx).map fun p => (ax l p).f0) then v else (4, (i : Int))) := by
 obtain ⟨h2, h4⟩ := Ac hs i hi
 have h3i : (ax l (i : Int)).f3 ≤ 9223372036854775807 := by rw [tJ l i hi]; exact h3 _ (List.getElem_mem hi)
 intro m
 induction m with
 | zero =>
  intro idx acc h1 ha
  refine af.step (fun k => by rw [aU.l1]) ?_
  refine af.neg (by omega) (af.pos (by omega) (af.pos (by omega) ?_))
  rw [List.drop_eq_nil_of_le (by omega), List.map_nil, List.append_nil]
  refine af.bind (Eg _ h2 h4 h3i) ?_
  cases lD (ax l (i : Int)) with
  | false => exact af.neg (by simp) af.now
  | true =>
   refine af.pos rfl (af.bind (Iu _ acc (by omega)) ?_)
   rw [Bool.true_and]
   cases jh (ax l (i : Int)).f0 acc with
   | false => exact af.neg (by simp) af.now
   | true =>
    refine af.pos rfl ?_
    rw [inc i (by omega)]
    exact hnext
 | succ m ih =>
  intro idx acc h1 ha
  have hx : idx < ks.length := by omega
  have hq := hk _ (List.getElem_mem hx)
  refine af.step (fun k => by rw [aU.l1]) ?_
  rw [yl ks idx hx, inc idx (by omega)]
  refine af.pos (by omega) (af.pos (by omega) (af.pos hq.1 (af.pos hq.2 (af.pos (by omega) ?_))))
  have := ih (idx + 1) (acc ++ [(ax l ks[idx]).f0]) (by omega) (by simp [ha])
  rw [List.append_assoc] at this
  rw [List.drop_eq_getElem_cons hx, List.map_cons]
  exact this
theorem Au {l : List S29} (hl : l.length ≤ 100000) (h : Tree.jP l.length l 1 = some l.length) (i : Nat) (hi : i < l.length) :
 af (fun k => bF.f k l (i : Int)) (its l (ax l (i : Int)).f1.toNat ((i + 1 : Nat) : Int)) := by
 have := Dl l hl (i : Int)
 obtain ⟨m', _, e⟩ := vS _ _ _ _ i h (Nat.le_refl 1) hi
 have he : kC l (i : Int) = ((i + m' : Nat) : Int) := by
  unfold kC
  rw [if_neg (by omega), Int.toNat_natCast, e]; rfl
 unfold qF at this
 rw [if_neg (by rw [he]; omega)] at this
 exact this
theorem Eo (l : List S29) (hl : l.length ≤ 100000) (hs : short l) (h3 : ∀ x ∈ l, x.f3 ≤ 9223372036854775807) (hw : jP l.length l 1 = some l.length) : ∀ (m i : Nat), l.length = m + i → af (fun k => aU.l0 k l (i : Int)) (Ji l m i) := by
 intro m
 induction m with
 | zero =>
  intro i h1
  refine af.step (fun k => by rw [aU.l0]) ?_
  exact af.neg (by omega) af.now
 | succ m ih =>
  intro i h1
  have hi : i < l.length := by omega
  obtain ⟨_, hK1, hK2⟩ := xP hl hw i hi
  refine af.step (fun k => by rw [aU.l0]) ?_
  refine af.pos (by omega) (af.bind (Au hl hw i hi) ?_)
  have := En l hl hs h3 i hi _ hK1 (fun q hq => by have := hK2 q hq; omega) _ (ih (i + 1) (by omega)) _ 0 [] rfl rfl
  rw [List.drop_zero, List.nil_append] at this
  exact this
theorem FD (l : List S29) (hl : l.length ≤ 100000) (hs : short l) (h3 : ∀ x ∈ l, x.f3 ≤ 9223372036854775807) : af (fun k => aU.f k l) (mJ l) := by
 unfold aU.f mJ
 by_cases c : 2000 < l.length
 ·rw [if_pos c]; exact af.pos (by omega) af.now
 rw [if_neg c]
 refine af.neg (by omega) (af.bind (wM l hl 0) ?_)
 by_cases hw : jP l.length l 1 = some l.length
 ·obtain ⟨he, hne⟩ := qV.2 hw
  have hlen : l.length ≠ 0 := fun h => hne (List.eq_nil_of_length_eq_zero h)
  rw [show wo l = true from decide_eq_true hw, if_neg (by simp)]
  refine af.pos he ?_
  refine af.step (fun k => by rw [aU.j0]) ?_
  refine af.neg (by simp; omega) ?_
  have hwb : oq l l.length = true := yc l l.length (Nat.le_refl _) (fun q hq => by
   obtain ⟨m', _, e⟩ := vS _ _ _ _ q hw (Nat.le_refl 1) hq
   rw [e]; rfl)
  have hd := FC l hl
  rw [hwb, if_pos rfl] at hd
  refine af.bind hd ?_
  by_cases c2 : 60 < uu l [] 0
  ·rw [if_pos c2]; exact af.pos (by omega) af.now
  rw [if_neg c2]
  refine af.neg (by omega) (af.pos (by omega) ?_)
  by_cases c3 : (ax l 0).f0 = 1
  ·rw [if_neg (fun q => q c3)]
   exact af.pos c3 (Eo l hl hs h3 hw l.length 0 (by omega))
  rw [if_pos c3]
  exact af.neg c3 af.now
 rw [show wo l = false from decide_eq_false hw, if_pos rfl]
 refine af.neg (fun e => hw (qV.1 ⟨e, ?_⟩)) ?_
 ·rintro rfl
  simp [kC, jP, qc] at e
 refine af.step (fun k => by rw [aU.j0]) ?_
 exact af.pos rfl af.now
end Go.Proofs.YtkbhkonenkgfoaaGreat.Tree
end
section
set_option linter.unusedVariables false
set_option linter.unusedSimpArgs false
namespace Go.Proofs.YtkbhkonenkgfoaaGreat.Par
open Go Go.RowKit Go.Proofs.YtkbhkonenkgfoaaGreatW.PrintWords Go.Proofs.YtkbhkonenkgfoaaGreat.Q Go.Proofs.YtkbhkonenkgfoaaGreat.Lex Go.Proofs.YtkbhkonenkgfoaaGreat.Tree
variable {ts : List S37} {S : PF} {FF : Nat → iI}
theorem yY (acc : List (List S29)) (q : Int) (nm : ByteArray) (v : Int) (h1 : acc.length ≤ 100000) (h2 : acc.flatten.length ≤ 1000000) : af (fun k => aN.l1 (FF k) k acc nm v ts q true) (nd 1 nm v E acc, q, true) := by
 refine af.step (fun k => by rw [aN.l1, mQ]) ?_
 simp only [Option.bind_some]
 exact af.neg (by simp) (kW (by omega) (by omega) af.now)
theorem tu (acc : List (List S29)) (q : Int) (nm : ByteArray) (v : Int) (h1 : acc.length ≤ 100000) (h2 : acc.flatten.length ≤ 1000000) : af (fun k => aN.l0 (FF k) k acc nm v ts q true) (nd 1 nm v E acc, q, true) := by
 refine af.step (fun k => by rw [aN.l0, mQ]) ?_
 simp only [Option.bind_some]
 exact af.neg (by simp) (yY (FF := fun k => FF (k + 1)) acc q nm v h1 h2)
theorem DV (acc : List (List S29)) (x : S29) (p : Nat) (nm : ByteArray) (v : Int) (h : acc.flatten.length + acc.length + 2 ≤ 2 * p) (hp : p ≤ 50000) :
 ∃ y, sz y ≤ 2 * (p - 0) + 3 ∧ af (fun k => if acc.length < 5864062014805 then aN.l0 (FF (k + 1)) k (acc ++ [[x]]) nm v ts (p : Int) true else none) (y, (p : Int), true) :=
 ⟨nd 1 nm v E (acc ++ [[x]]), by unfold sz; rw [dZ, iG]; simp only [List.length_cons, List.length_nil]; omega, af.pos (by omega) (tu (FF := fun k => FF (k + 1)) _ _ nm v (by rw [jM]; omega) (by rw [iG]; simp only [List.length_cons, List.length_nil]; omega))⟩
theorem Bf {β : Type} (F : PF) (N : Nat) (k : Int) (nm : ByteArray) (f : List S29 → Ps β) (l : List S37) : bnd (lX F N k nm) f l = bnd (EF F N) (fun ks => f (nd k nm 0 E ks)) l := by
 have h := vz F N k nm l
 unfold bnd at h ⊢
 rw [h]
 cases EF F N l <;> rfl
theorem JI {β : Type} (f : List S29 → Ps β) (l : List S37) : bnd DW f l = bnd (Par.need 1) (fun a => bnd (must [46]) fun _ => bnd (Par.need 1) fun b => bnd (must [47]) fun _ => bnd (Par.need 2) fun c => bnd (must [59]) fun _ => f (nd 2 a.f1 c.f2 b.f1 [])) l := by
 have bb : ∀ {α γ : Type} (p : Ps α) (g : α → Ps γ) (h : γ → Ps β) (l : List S37), bnd (bnd p g) h l = bnd p (fun a => bnd (g a) h) l := by
  intro α γ p g h l
  unfold bnd
  cases p l <;> rfl
 have bb' : ∀ {α γ : Type} (p : Ps α) (g : α → Ps γ) (h : γ → Ps β), bnd (bnd p g) h = bnd p (fun a => bnd (g a) h) := fun p g h => funext fun l => bb p g h l
 have re : ∀ {α : Type} (a : α) (h : α → Ps β), bnd (ret a) h = h a := fun a h => rfl
 unfold DW
 simp only [bb', re]
theorem Iw (hts : ts.length ≤ 40000) (N : Nat) (nm : ByteArray) (v : Int) : ∀ (n : Nat) (FF : Nat → iI) (I : IhR S FF) (H : OkR FF) (acc : List (List S29)) (q : Nat), q ≤ ts.length → acc.flatten.length + acc.length + 2 ≤ 2 * (q - 0) →
 ah ts 0 3 sz (fun k => aN.l1 (FF k) k acc nm v ts (q : Int) false) (vw S N nm v n acc (ts.drop q)) := by
 intro n
 induction n with
 | zero => intro FF I H acc q hq hs; trivial
 | succ n ih =>
  intro FF I H acc q hq hs
  unfold vw
  refine ah.step (fun k => by rw [aN.l1]) ?_
  refine ah.jA _ _ (fO _ _ rfl) (by simp) hq hts (fun h1 => ?_) (fun hn => ?_)
  ·refine ah.pos rfl ?_
   dsimp only
   refine ah.qp 1 h1 hts (by omega) (fun t h2 _ => ?_) ?_
   ·dsimp only
    rw [Bf]
    refine ah.bind (uT hts I.shift H.shift N _ h2) (fun ks p g1 g2 g3 => ?_) (fun ks p g1 g2 g3 => ?_)
    ·unfold szK at g3
     dsimp only
     refine ah.evB (uI 3 t.f1 0 E 0 ks (by omega) (by omega)) ?_
     refine ah.pos (by omega) ?_
     exact ih (fun k => FF (k + 1)) I.shift H.shift (acc ++ [nd 3 t.f1 0 E ks]) p g2 (by rw [iG, jM, dZ]; omega)
    unfold szK at g3
    dsimp only
    exact ⟨nd 1 nm v E (acc ++ [nd 3 t.f1 0 E ks]), by omega, by unfold sz; rw [dZ, iG, dZ]; omega, kW (by omega) (by omega) (af.pos (by omega) (yY (FF := fun k => FF (k + 1)) _ _ nm v (by rw [jM]; omega) (by rw [iG, dZ]; omega)))⟩
   dsimp only
   have hl : (nd 3 E 0 E [nd 5 E 0 E []]).length = 2 := rfl
   exact ⟨nd 1 nm v E (acc ++ [nd 3 E 0 E [nd 5 E 0 E []]]), by unfold sz; rw [dZ, iG, hl]; omega, af.bind xU (kW (by simp) (by simp [nd]) (af.pos (by omega) (yY (FF := fun k => FF (k + 1)) _ _ nm v (by rw [jM]; omega) (by rw [iG]; exact (show acc.flatten.length + (nd 3 E 0 E [nd 5 E 0 E []]).length ≤ 1000000 by rw [hl]; omega)))))⟩
  refine ah.neg (by simp) ?_
  exact ah.join (q := 0) (by omega) hq hts (by omega) (by omega)
theorem Ie (hts : ts.length ≤ 40000) (N : Nat) (nm : ByteArray) (v : Int) : ∀ (n : Nat) (FF : Nat → iI) (I : IhR S FF) (H : OkR FF) (acc : List (List S29)) (q : Nat), q ≤ ts.length → acc.flatten.length + acc.length + 2 ≤ 2 * (q - 0) →
 ah ts 0 3 sz (fun k => aN.l0 (FF k) k acc nm v ts (q : Int) false) (uP S N nm v n acc (ts.drop q)) := by
 intro n
 induction n with
 | zero => intro FF I H acc q hq hs; trivial
 | succ n ih =>
  intro FF I H acc q hq hs
  unfold uP
  refine ah.step (fun k => by rw [aN.l0]) ?_
  refine ah.jA _ _ (fO _ _ rfl) (by simp) hq hts (fun h1 => ?_) (fun hn => ?_)
  ·refine ah.pos rfl ?_
   dsimp only
   rw [JI]
   refine ah.qp 1 h1 hts (by omega) (fun a h1 _ => ?_) ?_
   ·dsimp only
    refine ah.lm ⟨#[46]⟩ [46] (fO _ _ rfl) (by simp) h1 hts (by omega) (fun h2 => ?_) ?_
    ·dsimp only
     refine ah.qp 1 h2 hts (by omega) (fun b h3 _ => ?_) ?_
     ·dsimp only
      refine ah.lm ⟨#[47]⟩ [47] (fO _ _ rfl) (by simp) h3 hts (by omega) (fun h4 => ?_) ?_
      ·dsimp only
       refine ah.qp 2 h4 hts (by omega) (fun c h5 _ => ?_) ?_
       ·dsimp only
        refine ah.lm ⟨#[59]⟩ [59] (fO _ _ rfl) (by simp) h5 hts (by omega) (fun h6 => ?_) ?_
        ·dsimp only
         refine ah.pos (by omega) ?_
         have hl : (nd 2 a.f1 c.f2 b.f1 []).length = 1 := rfl
         exact ih (fun k => FF (k + 1)) I.shift H.shift (acc ++ [nd 2 a.f1 c.f2 b.f1 []]) _ h6 (by rw [iG, jM, hl]; omega)
        exact DV acc _ _ nm v (by omega) (by omega)
       dsimp only
       simp only [gV, Option.bind_some]
       exact DV acc _ _ nm v (by omega) (by omega)
      dsimp only
      simp only [gV, lV, Option.bind_some]
      exact DV acc _ _ nm v (by omega) (by omega)
     dsimp only
     simp only [gV, lV, Option.bind_some]
     exact DV acc _ _ nm v (by omega) (by omega)
    dsimp only
    simp only [gV, lV, Option.bind_some]
    exact DV acc _ _ nm v (by omega) (by omega)
   dsimp only
   simp only [gV, lV, Option.bind_some]
   exact DV acc _ _ nm v (by omega) (by omega)
  refine ah.neg (by simp) ?_
  exact Iw hts N nm v N (fun k => FF (k + 1)) I.shift H.shift acc q hq hs
theorem Ee (hts : ts.length ≤ 40000) (I : IhR S FF) (H : OkR FF) (N : Nat) :
 ah ts 0 3 sz (fun k => aN.f (FF k) k ts 0 false) (kS S N ts) := by
 have sB : ∀ (nm : ByteArray) (v : Int), sz (nd 1 nm v E []) = 2 := fun nm v => rfl
 have key : ah ts 0 3 sz (fun k => aN.f (FF k) k ts ((0 : Nat) : Int) false) (kS S N (ts.drop 0)) := by
  unfold aN.f kS
  refine ah.lm ⟨#[109, 111, 100, 117, 108, 101]⟩ [109, 111, 100, 117, 108, 101] (fO _ _ rfl) (by simp) (by omega) hts (by omega) (fun h1 => ?_) ?_
  ·dsimp only
   refine ah.qp 1 h1 hts (by omega) (fun t h2 _ => ?_) ?_
   ·dsimp only
    refine ah.qp 2 h2 hts (by omega) (fun u h3 _ => ?_) ?_
    ·dsimp only
     refine ah.lm ⟨#[59]⟩ [59] (fO _ _ rfl) (by simp) h3 hts (by omega) (fun h4 => ?_) ?_
     ·dsimp only
      exact Ie hts N t.f1 u.f2 N FF I H [] _ h4 Z12
     dsimp only
     exact ⟨_, by rw [sB]; omega, tu [] _ _ _ (by simp) (by simp)⟩
    dsimp only
    simp only [gV, lV, Option.bind_some]
    exact ⟨_, by rw [sB]; omega, tu [] _ _ _ (by simp) (by simp)⟩
   dsimp only
   simp only [gV, lV, Option.bind_some]
   exact ⟨_, by rw [sB]; omega, tu [] _ _ _ (by simp) (by simp)⟩
  dsimp only
  simp only [gV, lV, Option.bind_some]
  exact ⟨_, by rw [sB]; omega, tu [] _ _ _ (by simp) (by simp)⟩
 exact key
theorem AC (ts : List S37) (hp : small ts) (hl : ts.length ≤ 40000) (p : Nat) : rY ts (p : Int) = some (plS ts (ts.drop p)) := by
 have h := zi ts hp hl p false
 have key : ∀ i (hi : i < ts.length), fF ts (i : Int) = ts[i] := by
  intro i hi
  obtain ⟨_, h2, _⟩ := mr ts i _ _ (List.drop_eq_getElem_cons hi)
  exact h2
 unfold rY plS
 by_cases c : p < ts.length
 ·rw [if_pos (by omega), if_pos (by omega), key p c, List.drop_eq_getElem_cons c]
 rw [if_neg (by omega), List.drop_eq_nil_of_le (by omega)]
 by_cases d : 0 < ts.length
 ·have e : (ts.length : Int) - 1 = ((ts.length - 1 : Nat) : Int) := by omega
  have h := hp _ (List.getElem_mem (show ts.length - 1 < ts.length by omega))
  rw [if_pos (by omega), if_pos (by omega), e, key _ (by omega), Tree.w64 (by omega) (by omega), List.getLast?_eq_getElem?, List.getElem?_eq_getElem (by omega)]
 rw [if_neg (by omega), List.length_eq_zero_iff.1 (by omega : ts.length = 0)]; rfl
theorem Ig (ts : List S37) (hts : ts.length ≤ 40000) (hp : small ts) (n : Nat) (hn : Fn KN ts.length (kS (oZ n) n ts)) : af (fun k => l7.f k ts) (Jk ts (kS (oZ n) n ts)) := by
 have hT := Ee hts (KU n) tX n
 match hr : kS (oZ n) n ts, hn, hT with
 | .ok (x, r), ⟨_, _, h3⟩, ⟨p, _, hp2, hd, hs, hE⟩ =>
  unfold sz at hs
  unfold l7.f
  by_cases c : p < ts.length
  ·have h1 := AC ts hp hts p
   cases r with
   | nil => rw [List.drop_eq_nil_iff] at hd; omega
   | cons t u =>
    refine af.bind hE (af.neg (by simp) (af.pos (show (p : Int) < (ts.length : Int) by omega) ?_))
    dsimp only
    rw [h1, hd]
    exact af.now
  rw [List.drop_eq_nil_of_le (by omega)] at hd
  subst hd
  have hC := FD x (by omega) (fun y hy => (h3.1.2 y hy).1) (fun y hy => (h3.1.2 y hy).2)
  show af _ (if (mJ x).1 = 0 then (x, 0, 0) else ([], (mJ x).1, 0))
  by_cases d : (mJ x).1 = 0
  ·rw [if_pos d]
   exact af.bind hE (af.neg (by simp) (af.neg (show ¬ (p : Int) < (ts.length : Int) by omega) (af.bind hC (af.pos d af.now))))
  rw [if_neg d]
  exact af.bind hE (af.neg (by simp) (af.neg (show ¬ (p : Int) < (ts.length : Int) by omega) (af.bind hC (af.neg d af.now))))
 | .error (some r), _, ⟨x, p, _, _, hd, _, hE⟩ =>
  have h1 := AC ts hp hts p
  unfold l7.f
  refine af.bind hE (af.pos rfl ?_)
  dsimp only
  rw [h1, hd]
  exact af.now
end Go.Proofs.YtkbhkonenkgfoaaGreat.Par
end
section
set_option linter.unusedVariables false
set_option linter.unusedSimpArgs false
namespace Go.Proofs.YtkbhkonenkgfoaaGreat.Lex
open Go Go.RowKit Go.Proofs.YtkbhkonenkgfoaaGreatW.PrintWords Go.Proofs.YtkbhkonenkgfoaaGreat.Q
theorem zS : ∀ (f : Nat) (l : List UInt8) (e : Int) (r : Nat), toks f l = .error (e, r) → e ≠ 0 ∧ 1 ≤ r ∧ r ≤ l.length
 | 0, l, e, r, h => by simp [toks] at h
 | f + 1, [], e, r, h => by simp [toks] at h
 | f + 1, c :: u, e, r, h => by
  simp only [toks] at h
  split at h
  ·rename_i e1 ho
   simp only [Except.error.injEq, Prod.mk.injEq] at h
   obtain ⟨rfl, rfl⟩ := h
   exact ⟨qQ ho (by simp), by simp, Nat.le_refl _⟩
  rename_i k x n m ho
  split at h
  ·rename_i e2 h2
   simp only [Except.error.injEq] at h
   subst h
   have := zS f _ e r h2
   have h3 := mf ((c :: u).drop m) false
   rw [List.length_drop] at h3
   exact ⟨this.1, this.2.1, by omega⟩
  cases h
theorem Fa {l : List UInt8} {e : Int} {r : Nat} (h : Lex.scan l = .error (e, r)) : e ≠ 0 ∧ 1 ≤ r ∧ r ≤ l.length := by
 have := zS _ _ e r h
 have h3 := mf l false
 exact ⟨this.1, this.2.1, by omega⟩
theorem vM : ∀ (l : List UInt8) (b : Bool) (x r : List UInt8), unq b l = some (x, r) → x.length ≤ l.length
 | [], b, x, r, h => by cases b <;> simp [unq] at h
 | c :: t, true, x, r, h => by
  simp only [unq] at h
  split at h
  ·cases h
  simp only [Option.map_eq_some_iff, Prod.mk.injEq] at h
  obtain ⟨⟨y, s⟩, h1, h2, h3⟩ := h
  have := vM t false y s h1
  subst h2
  simp only [List.length_cons]
  omega
 | c :: t, false, x, r, h => by
  simp only [unq] at h
  split at h
  ·simp only [Option.some.injEq, Prod.mk.injEq] at h
   rw [← h.1]; simp
  split at h
  ·cases h
  split at h
  ·have := vM t true x r h
   simp only [List.length_cons]; omega
  simp only [Option.map_eq_some_iff, Prod.mk.injEq] at h
  obtain ⟨⟨y, s⟩, h1, h2, h3⟩ := h
  have := vM t false y s h1
  subst h2
  simp only [List.length_cons]
  omega
theorem IM {l : List UInt8} {k : Int} {x : List UInt8} {n : Int} {m : Nat} (h : Lex.one l = .ok (k, x, n, m)) : x.length ≤ l.length := by
 cases l with
 | nil => simp [Lex.one] at h
 | cons c t =>
  have h1 := jZ inn (c :: t)
  have h2 := jZ di (c :: t)
  have h3 := wY (c :: t)
  simp only [Lex.one] at h
  repeat' split at h
  all_goals first
   | (cases h; done)
   | (simp only [Except.ok.injEq, Prod.mk.injEq] at h; obtain ⟨_, rfl, _, _⟩ := h; first | exact h1 | exact h2 | exact h3 | (have := vM _ _ _ _ ‹unq _ _ = some _›; simp only [List.length_cons]; omega))
theorem zT : ∀ (f : Nat) (l : List UInt8) (ts : List Tk), toks f l = .ok ts → ts.length ≤ l.length ∧ ∀ t ∈ ts, 1 ≤ t.rem ∧ t.rem ≤ l.length ∧ t.text.length ≤ l.length
 | 0, l, ts, h => by
  simp only [toks, Except.ok.injEq] at h
  subst h
  exact ⟨by simp, fun t ht => by cases ht⟩
 | f + 1, [], ts, h => by
  simp only [toks, Except.ok.injEq] at h
  subst h
  exact ⟨by simp, fun t ht => by cases ht⟩
 | f + 1, c :: u, ts, h => by
  simp only [toks] at h
  split at h
  ·cases h
  rename_i k x n j ho
  split at h
  ·cases h
  rename_i us hu
  simp only [Except.ok.injEq] at h
  subst h
  have hj := zl ho
  have hs := mf ((c :: u).drop j) false
  rw [List.length_drop] at hs
  obtain ⟨h1, h2⟩ := zT f _ us hu
  refine ⟨by simp only [List.length_cons] at *; omega, fun t ht => ?_⟩
  rcases List.mem_cons.1 ht with rfl | ht
  ·exact ⟨by simp, Nat.le_refl _, IM ho⟩
  have := h2 t ht
  omega
theorem Fb {l : List UInt8} {ts : List Tk} (h : Lex.scan l = .ok ts) : ts.length ≤ l.length ∧ ∀ t ∈ ts, 1 ≤ t.rem ∧ t.rem ≤ l.length ∧ t.text.length ≤ l.length := by
 obtain ⟨h1, h2⟩ := zT _ _ _ h
 have h3 := mf l false
 exact ⟨by omega, fun t ht => by have := h2 t ht; omega⟩
end Go.Proofs.YtkbhkonenkgfoaaGreat.Lex
end
