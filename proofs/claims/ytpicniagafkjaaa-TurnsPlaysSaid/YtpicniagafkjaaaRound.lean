/- The walk over TurnsRound; no condition. -/
import Derived.Test.YtpicniagafkjaaaRoundPure
import Derived.Laws.AppendOwn
import Derived.OwnWalk
import Derived.IntWalk
set_option linter.unusedVariables false
set_option linter.unusedSimpArgs false
namespace Go.Proofs.Ytpicniagafkjaaa
open Go.RowKit Go.Proofs.YtpicniagafkjaaaW.PrintWords

theorem info3 : (Try.prog.info? 3).map (fun i => (i.zero, i.size, i.bytes)) = some (some (.int .i64 0), 1, 8) := by kernel_rfl

theorem keptBy_cell {w w' : World} {a : Addr} {v : Value} {row : Option Nat} (h : w.cell? a = some v) (hg : w.grownBy w' row) (hlt : a.block < w.heap.size) (hne : some a.block ≠ row) : w'.cell? a = some v :=
  (hg.cell_far a hlt hne).trans h
theorem _root_.Go.Proofs.YtpicniagafkjaaaW.PrintWords.ReadsInt.keptBy {w w' : World} {k : IntKind} {A : Option Addr} {n : Nat} {xs : List Int} (h : ReadsInt w k A n xs) {row : Option Nat} (hg : w.grownBy w' row)
    (hf : ∀ ad, A = some ad → ad.block < w.heap.size ∧ some ad.block ≠ row) : ReadsInt w' k A n xs := by
  refine ⟨h.1, h.2.1, fun hp => ?_⟩
  obtain ⟨ad, e, hc⟩ := h.2.2 hp
  have hb : ∀ j, (ad.add j).block = ad.block := by intro j; unfold Addr.add; split <;> rfl
  refine ⟨ad, e, fun j hj => keptBy_cell (hc j hj) hg (by rw [hb]; exact (hf ad e).1) (by rw [hb]; exact (hf ad e).2)⟩

theorem own_far {w : World} {base g : Nat} {e : TypeId} {size n : Nat} {v : Value} {xs : List Value} (h : w.ownsRow base e size v n xs) (hg : g < base) : v.ownBlock = none ∨ v.ownBlock ≠ some g := by
  cases hv : v.ownBlock with
  | none => exact .inl rfl
  | some k => exact .inr (by intro q; have := own_base h k hv; cases q; omega)

theorem fallsAt_bound (l : List Int) (last : Int) (i : Nat) : fallsAt l last i ≤ i := by
  induction i with
  | zero => simp [fallsAt]
  | succ i ih =>
    unfold fallsAt
    split <;> omega

noncomputable def rRest1 : Code := sndSeq (sndSeq (sndSeq (sndSeq (sndSeq (sndSeq (Try.f3.body.getD .skip))))))
noncomputable def rRest2 : Code := sndSeq (sndSeq (sndSeq rRest1))

def thrBlock : Code → Code | .block _ c => c | c => c
def thrLoop : Code → Code | .loop c => c | c => c
/-- The third loop's round, behind its two tests. -/
noncomputable def rInner0 : Code := sndSeq (sndSeq (thrBlock (fstSeq (sndSeq (thrLoop (thrBlock (sndSeq (fstSeq (sndSeq rRest2)))))))))

/-- What the first loop keeps. -/
def Rel1 (w0 w1 : World) (g : Nat) (k : Nat) (l : List Int) (n : Int) (v : Value) (wr : World) : Prop :=
  l.length = k ∧ Rises l ∧ (∀ y ∈ l, y ≤ n) ∧ 0 ≤ n ∧ n ≤ 256 * k ∧ wr.ownsRow w1.heap.size 3 1 v l.length (l.map (Value.int .i64)) ∧ TW wr g true false 0 ∧ Below w0.heap.size w0 wr ∧ w1.heap.size ≤ wr.heap.size

noncomputable def rLoop1 : Code := thrBlock (sndSeq (fstSeq (sndSeq (sndSeq (sndSeq (sndSeq (sndSeq (Try.f3.body.getD .skip))))))))
set_option maxHeartbeats 1000000 in
set_option maxRecDepth 100000 in
theorem round_loop1 (g : Nat) (A : Option Addr) (cap : Nat) (gs : List Int) (w w1 : World) (hr : ReadsInt w .u8 A gs.length gs) (hg : ∀ x ∈ gs, 0 ≤ x ∧ x ≤ 255)
    (t1 : TW w1 g true false 0) (b1 : Below w.heap.size w w1) (hg0 : w.heap.size ≤ g) (z1 : g < w1.heap.size)
    (Q : Exit → Act → World → Prop) (j1 j2 j3 j4 j5 j9 j10 j11 j12 j13 j14 j15 j16 j17 j18 j19 j20 j21 j22 j23 j24 j25 j26 j27 j28 j29 j30 j31 j32 j33 j34 j35 j36 j37 j38 j39 j40 j41 j42 j43 j44 j45 j46 j47 j48 j49 j50 j51 j52 j53 j54 j55 j56 j57 j58 j59 j60 j61 j62 j63 j64 j65 j66 j67 j68 j69 j70 j71 j72 j73 j74 j75 j76 j77 j78 j79 j80 j81 j82 j83 j84 j85 j86 j87 j88 j89 j90 j91 j92 j93 j94 j95 j96 j97 j98 j99 j100 j101 j102 j103 j104 j105 j106 j107 j108 j109 j110 j111 j112 j113 j114 j115 j116 j117 j118 j119 j120 j121 j122 j123 j124 j125 j126 j127 : Value)
    (hQ : ∀ (w' : World) (l : List Int) (v : Value), Rises l → l.length ≤ 40 → w'.ownsRow w1.heap.size 3 1 v l.length (l.map (Value.int .i64)) → TW w' g true false 0 → Below w.heap.size w w' → w1.heap.size ≤ w'.heap.size →
      ∀ k7 k8 k20 k21 k22 k23 k24 k25 k26 k27 k28 k29 k30 k31 k32 k33 k34 k35 k36 k37 k38 k39 k40 k41, Q (.exit 0) ⟨List.toArray (.slice A gs.length cap :: j1 :: j2 :: j3 :: j4 :: j5 :: v :: k7 :: k8 :: j9 :: j10 :: j11 :: j12 :: j13 :: j14 :: j15 :: j16 :: j17 :: j18 :: j19 :: k20 :: k21 :: k22 :: k23 :: k24 :: k25 :: k26 :: k27 :: k28 :: k29 :: k30 :: k31 :: k32 :: k33 :: k34 :: k35 :: k36 :: k37 :: k38 :: k39 :: k40 :: k41 :: j42 :: j43 :: j44 :: j45 :: j46 :: j47 :: j48 :: j49 :: j50 :: j51 :: j52 :: j53 :: j54 :: j55 :: j56 :: j57 :: j58 :: j59 :: j60 :: j61 :: j62 :: j63 :: j64 :: j65 :: j66 :: j67 :: j68 :: j69 :: j70 :: j71 :: j72 :: j73 :: j74 :: j75 :: j76 :: j77 :: j78 :: j79 :: j80 :: j81 :: j82 :: j83 :: j84 :: j85 :: j86 :: j87 :: j88 :: j89 :: j90 :: j91 :: j92 :: j93 :: j94 :: j95 :: j96 :: j97 :: j98 :: j99 :: j100 :: j101 :: j102 :: j103 :: j104 :: j105 :: j106 :: j107 :: j108 :: j109 :: j110 :: j111 :: j112 :: j113 :: j114 :: j115 :: j116 :: j117 :: j118 :: j119 :: j120 :: j121 :: j122 :: j123 :: j124 :: j125 :: j126 :: j127 :: []), []⟩ w') :
    rLoop1.wp Try.prog Q ⟨List.toArray (.slice A gs.length cap :: j1 :: j2 :: j3 :: j4 :: j5 :: .slice none 0 0 :: .int .i64 (0 : Int) :: .int .i64 (0 : Int) :: j9 :: j10 :: j11 :: j12 :: j13 :: j14 :: j15 :: j16 :: j17 :: j18 :: j19 :: j20 :: j21 :: j22 :: j23 :: j24 :: j25 :: j26 :: j27 :: j28 :: j29 :: j30 :: j31 :: j32 :: j33 :: j34 :: j35 :: j36 :: j37 :: j38 :: j39 :: j40 :: j41 :: j42 :: j43 :: j44 :: j45 :: j46 :: j47 :: j48 :: j49 :: j50 :: j51 :: j52 :: j53 :: j54 :: j55 :: j56 :: j57 :: j58 :: j59 :: j60 :: j61 :: j62 :: j63 :: j64 :: j65 :: j66 :: j67 :: j68 :: j69 :: j70 :: j71 :: j72 :: j73 :: j74 :: j75 :: j76 :: j77 :: j78 :: j79 :: j80 :: j81 :: j82 :: j83 :: j84 :: j85 :: j86 :: j87 :: j88 :: j89 :: j90 :: j91 :: j92 :: j93 :: j94 :: j95 :: j96 :: j97 :: j98 :: j99 :: j100 :: j101 :: j102 :: j103 :: j104 :: j105 :: j106 :: j107 :: j108 :: j109 :: j110 :: j111 :: j112 :: j113 :: j114 :: j115 :: j116 :: j117 :: j118 :: j119 :: j120 :: j121 :: j122 :: j123 :: j124 :: j125 :: j126 :: j127 :: []), []⟩ w1 := by
  conv => arg 2; whnf
  have hm := hr.2.1
  obtain ⟨m, hmm⟩ : ∃ m, m ≤ gs.length ∧ m ≤ 40 ∧ (m = gs.length ∨ m = 40) := ⟨min gs.length 40, by omega, by omega, by omega⟩
  go_loopw [6, 7, 8] (fun v n i wr => ∃ (k : Nat) (l : List Int) (n' : Int), k ≤ m ∧ i = .int .i64 k ∧ n = .int .i64 n' ∧ Rel1 w w1 g k l n' v wr) (fun _ _ i _ => m - (intOf i).toNat)
  case atStart => exact ⟨0, [], 0, Nat.zero_le _, rfl, rfl, rfl, (by intro i j _ h; simp at h), by simp, by omega, by omega, own_nil _ _ _ _, t1, b1, Nat.le_refl _⟩
  case round =>
    obtain ⟨k, l, n, hk, rfl, rfl, hrel⟩ := hrel
    by_cases hlt : k < m
    · have hkl : k < gs.length := by omega
      have hk40 : k < 40 := by omega
      obtain ⟨ad, hA, hc0⟩ := hr.2.2 (by omega)
      subst hA
      have hc := pw_cell_below hrel.2.2.2.2.2.2.2.1 (hc0 k hkl)
      have hx := hg _ (getD_mem gs k hkl)
      generalize gs.getD k 0 = x at hc hx
      clear hc0
      obtain ⟨x0, x1⟩ := hx
      obtain ⟨q1, q2, q3, q4, q5, q6, q7, q8, q9⟩ := hrel
      obtain ⟨i0, hi, hz0, hz1, hz2⟩ := info_parts info3
      have HQ1 := Lib.hid q1
      clear q1
      go_wp2_with (first | (at_builtin; refine wpList_append_own _ rfl _ _ 25 rfl w1.heap.size 3 i0 (.int .i64 0) 1 8 Try.underlying25 hi hz0 hz1 hz2 rfl (by decide) _ _ _ rfl (q6.alloc _) ⟨wr.heap.size, 0, none⟩ 1 1 [.int .i64 (n + 1 + x)] rfl rfl ?c1 ?c2 ?c3 ?c4 ?c5 ?_))
      case c1 =>
        intro j u hj
        rcases j with _ | j
        · simp at hj; subst hj; rw [add_plain]; simp
        · simp at hj
      case c2 => simp [Value.oneCell']
      case c3 => have := HQ1.out; unfold maxLen; omega
      case c4 => have := HQ1.out; omega
      case c5 => simp; omega
      intro v' w2 o2 g2 _
      go_wp2_with fail
      go_roundw
      case rel =>
        refine ⟨k + 1, l ++ [n + 1 + x], n + 1 + x, by omega, by go_num, rfl, ?_⟩
        have e := HQ1.out
        refine ⟨by simp [e], q2.snoc q3 (by omega), ?_, by omega, by omega, ?_, ?_, ?_, ?_⟩
        · intro y hy
          rcases List.mem_append.1 hy with hy | hy
          · have := q3 y hy; omega
          · simp at hy; omega
        · simpa using o2
        · exact (q7.kept (World.grownBy_alloc _ _ none) (by simp)).kept g2 (by intro e; have := own_base q6 g e.symm; omega)
        · exact (q8.alloc q8.size _).grown g2 (by simp; have := q8.size; omega) (fun k e => by have := own_base q6 k e; omega)
        · have := g2.size; simp at this; omega
      case measure => simp [intOf]; omega
    · obtain ⟨q1, q2, q3, q4, q5, q6, q7, q8, q9⟩ := hrel
      have hl40 : l.length ≤ 40 := by omega
      have hkm : k = m := by omega
      have HQ1 := Lib.hid q1
      clear q1
      rcases hmm with ⟨e1, e2, e | e⟩
      · have c1 : gs.length ≤ k := by omega
        have c2 : ¬ k < gs.length := by omega
        have E := Lib.hid e
        have EK := Lib.hid hkm
        clear e hkm
        go_wp2_with fail
        exact hQ _ l _ q2 hl40 q6 q7 q8 q9 _ _ _ _ _ _ _ _ _ _ _ _ _ _ _ _ _ _ _ _ _ _ _ _
      · have c1 : ¬ k < 40 := by omega
        have E := Lib.hid e
        have EK := Lib.hid hkm
        clear e hkm
        by_cases c3 : k < gs.length
        all_goals
          go_wp2_with fail
          exact hQ _ l _ q2 hl40 q6 q7 q8 q9 _ _ _ _ _ _ _ _ _ _ _ _ _ _ _ _ _ _ _ _ _ _ _ _

/-- How often an element stands ahead of a place. -/
def cnt (p kk : Nat) : Nat := if p < kk then 1 else 0
theorem cnt_le (p kk : Nat) : cnt p kk ≤ 1 := by unfold cnt; split <;> omega
theorem cnt_hit (p : Nat) : cnt p (p + 1) = cnt p p + 1 := by unfold cnt; simp
theorem cnt_miss {p kk : Nat} (h : kk ≠ p) : cnt p (kk + 1) = cnt p kk := by
  unfold cnt
  by_cases c : p < kk
  · rw [if_pos c, if_pos (by omega)]
  · rw [if_neg c, if_neg (by omega)]

noncomputable def rInner : Code := thrBlock (sndSeq (fstSeq (sndSeq rInner0)))
set_option maxHeartbeats 2000000 in
set_option maxRecDepth 100000 in
theorem round_inner (l gl : List Int) (wr : World) (al ag : Addr) (cl cg k p : Nat) (yk : Int) (hlt : k < 2 * l.length) (hlen : l.length ≤ 40) (hp : p < l.length)
    (CL : Hid (∀ j, j < l.length → wr.cell? (al.add j) = some (.int .i64 (l.getD j 0)))) (ck : wr.cell? (ag.add k) = some (.int .i64 yk)) (HP : Hid (∀ k, k < l.length → (l.getD k 0 = yk ↔ k = p)))
    (Q : Exit → Act → World → Prop) (j0 j1 j2 j3 j4 j5 j7 j8 j10 j11 j12 j13 j17 j18 j19 j20 j21 j22 j23 j24 j25 j26 j27 j28 j29 j30 j31 j32 j33 j34 j35 j36 j37 j38 j39 j40 j41 j42 j43 j44 j45 j46 j47 j48 j49 j50 j51 j52 j53 j54 j55 j56 j57 j58 j59 j60 j61 j62 j63 j64 j65 j66 j67 j68 j69 j70 j71 j72 j73 j74 j75 j76 j77 j78 j79 j80 j81 j82 j83 j84 j85 j86 j87 j88 j89 j90 j91 j92 j93 j94 j95 j96 j97 j98 j99 j100 j101 j102 j103 j104 j105 j106 j107 j108 j109 j110 j111 j112 j113 j114 j115 j116 j117 j118 j119 j120 j121 j122 j123 j124 j125 j126 j127 : Value)
    (hQ : ∀ n, ∀ k16 k104 k105 k106 k107 k108 k109 k110 k111 k112 k113 k114 k115 k116 k117 k118 k119 k120 k121 k122, Q (.exit 6) ⟨List.toArray (j0 :: j1 :: j2 :: j3 :: j4 :: j5 :: .slice (some al) l.length cl :: j7 :: j8 :: .slice (some ag) (2 * l.length) cg :: j10 :: j11 :: j12 :: j13 :: .int .i64 k :: .int .i64 (1 : Int) :: k16 :: j17 :: j18 :: j19 :: j20 :: j21 :: j22 :: j23 :: j24 :: j25 :: j26 :: j27 :: j28 :: j29 :: j30 :: j31 :: j32 :: j33 :: j34 :: j35 :: j36 :: j37 :: j38 :: j39 :: j40 :: j41 :: j42 :: j43 :: j44 :: j45 :: j46 :: j47 :: j48 :: j49 :: j50 :: j51 :: j52 :: j53 :: j54 :: j55 :: j56 :: j57 :: j58 :: j59 :: j60 :: j61 :: j62 :: j63 :: j64 :: j65 :: j66 :: j67 :: j68 :: j69 :: j70 :: j71 :: j72 :: j73 :: j74 :: j75 :: j76 :: j77 :: j78 :: j79 :: j80 :: j81 :: j82 :: j83 :: j84 :: j85 :: j86 :: j87 :: j88 :: j89 :: j90 :: j91 :: j92 :: j93 :: j94 :: j95 :: j96 :: j97 :: j98 :: j99 :: j100 :: j101 :: j102 :: j103 :: k104 :: k105 :: k106 :: k107 :: k108 :: k109 :: k110 :: k111 :: k112 :: k113 :: k114 :: k115 :: k116 :: k117 :: k118 :: k119 :: k120 :: k121 :: k122 :: j123 :: j124 :: j125 :: j126 :: j127 :: []), []⟩ (wr.drewN n)) (n0 : Nat) :
    rInner.wp Try.prog Q ⟨List.toArray (j0 :: j1 :: j2 :: j3 :: j4 :: j5 :: .slice (some al) l.length cl :: j7 :: j8 :: .slice (some ag) (2 * l.length) cg :: j10 :: j11 :: j12 :: j13 :: .int .i64 k :: .int .i64 (0 : Int) :: .int .i64 (0 : Int) :: j17 :: j18 :: j19 :: j20 :: j21 :: j22 :: j23 :: j24 :: j25 :: j26 :: j27 :: j28 :: j29 :: j30 :: j31 :: j32 :: j33 :: j34 :: j35 :: j36 :: j37 :: j38 :: j39 :: j40 :: j41 :: j42 :: j43 :: j44 :: j45 :: j46 :: j47 :: j48 :: j49 :: j50 :: j51 :: j52 :: j53 :: j54 :: j55 :: j56 :: j57 :: j58 :: j59 :: j60 :: j61 :: j62 :: j63 :: j64 :: j65 :: j66 :: j67 :: j68 :: j69 :: j70 :: j71 :: j72 :: j73 :: j74 :: j75 :: j76 :: j77 :: j78 :: j79 :: j80 :: j81 :: j82 :: j83 :: j84 :: j85 :: j86 :: j87 :: j88 :: j89 :: j90 :: j91 :: j92 :: j93 :: j94 :: j95 :: j96 :: j97 :: j98 :: j99 :: j100 :: j101 :: j102 :: j103 :: j104 :: j105 :: j106 :: j107 :: j108 :: j109 :: j110 :: j111 :: j112 :: j113 :: j114 :: j115 :: j116 :: j117 :: j118 :: j119 :: j120 :: j121 :: j122 :: j123 :: j124 :: j125 :: j126 :: j127 :: []), []⟩ (wr.drewN n0) := by
  conv => arg 2; whnf
  go_loopw [15, 16] (fun c i wx => ∃ (kk nd : Nat), kk ≤ l.length ∧ i = .int .i64 kk ∧ c = .int .i64 (cnt p kk : Nat) ∧ wx = wr.drewN nd) (fun _ i _ => l.length - (intOf i).toNat)
  case atStart => exact ⟨0, n0, Nat.zero_le _, rfl, rfl, rfl⟩
  case round =>
    obtain ⟨kk, nd, hkk, rfl, rfl, rfl⟩ := hrel
    have hc1 := cnt_le p kk
    by_cases hlt2 : kk < l.length
    · have ckk := CL.out kk hlt2
      have hx := HP.out kk hlt2
      generalize l.getD kk 0 = x at ckk hx
      have i1 : (0 : Int) ≤ (k : Int) := by omega
      have i2 : (k : Int) < 2 * (l.length : Int) := by omega
      have i3 : (0 : Int) ≤ (kk : Int) := by omega
      have i4 : (kk : Int) < (l.length : Int) := by omega
      by_cases ce : kk = p
      · have e : x = yk := hx.2 ce
        clear hx
        subst e
        subst ce
        have HC := Lib.hid (cnt_hit kk)
        go_wp2_with fail
        go_quiet (fail)
        go_wp2_with fail
        go_roundw
        case rel => exact ⟨kk + 1, _, by omega, by go_num, by rw [HC.out]; go_num, rfl⟩
        case measure => simp [intOf]; omega
      · have e : (x == yk) = false := beq_eq_false_iff_ne.mpr (fun q => ce (hx.1 q))
        clear hx
        have HC := Lib.hid (cnt_miss ce)
        go_wp2_with fail
        go_quiet (fail)
        go_wp2_with fail
        go_roundw
        case rel => exact ⟨kk + 1, _, by omega, by go_num, by rw [HC.out], rfl⟩
        case measure => simp [intOf]; omega
    · have hc : cnt p kk = 1 := by unfold cnt; rw [if_pos (by omega)]
      rw [hc]
      clear hc hc1
      go_wp2_with fail
      try exact hQ _ _ _ _ _ _ _ _ _ _ _ _ _ _ _ _ _ _ _ _ _

/-- What the third loop keeps. -/
def Rel3 (w0 : World) (l : List Int) (last : Int) (Al Ag : Option Addr) (wr : World) : Prop :=
  ReadsInt wr .i64 Al l.length l ∧ ReadsInt wr .i64 Ag (2 * l.length) (gotAt l last (2 * l.length)) ∧ Below w0.heap.size w0 wr

theorem Rel3.drewN {w0 wr : World} {l : List Int} {last : Int} {Al Ag : Option Addr} (h : Rel3 w0 l last Al Ag wr) (n : Nat) : Rel3 w0 l last Al Ag (wr.drewN n) :=
  ⟨h.1, h.2.1, pw_below_drewN h.2.2 n⟩

noncomputable def rLoop3 : Code := thrBlock (sndSeq (fstSeq (sndSeq rRest2)))
set_option maxHeartbeats 2000000 in
set_option maxRecDepth 100000 in
theorem round_loop3 (last : Int) (l : List Int) (w0 w : World) (hasc : Rises l) (hlen : l.length ≤ 40) (Al Ag : Option Addr) (cl cg : Nat) (hw : Rel3 w0 l last Al Ag w)
    (Q : Exit → Act → World → Prop) (j0 j1 j2 j3 j4 j5 j7 j8 j10 j11 j12 j15 j16 j17 j18 j19 j20 j21 j22 j23 j24 j25 j26 j27 j28 j29 j30 j31 j32 j33 j34 j35 j36 j37 j38 j39 j40 j41 j42 j43 j44 j45 j46 j47 j48 j49 j50 j51 j52 j53 j54 j55 j56 j57 j58 j59 j60 j61 j62 j63 j64 j65 j66 j67 j68 j69 j70 j71 j72 j73 j74 j75 j76 j77 j78 j79 j80 j81 j82 j83 j84 j85 j86 j87 j88 j89 j90 j91 j92 j93 j94 j95 j96 j97 j98 j99 j100 j101 j102 j103 j104 j105 j106 j107 j108 j109 j110 j111 j112 j113 j114 j115 j116 j117 j118 j119 j120 j121 j122 j123 j124 j125 j126 j127 : Value)
    (hQ : ∀ (w' : World) (f : Int), Below w0.heap.size w0 w' → 0 ≤ f → f ≤ 2 → ∀ k4 k14 k15 k16 k64 k65 k66 k67 k68 k69 k70 k71 k72 k73 k74 k75 k76 k77 k78 k79 k80 k81 k82 k83 k84 k85 k86 k87 k88 k89 k90 k91 k92 k93 k94 k95 k96 k97 k98 k99 k100 k101 k102 k103 k104 k105 k106 k107 k108 k109 k110 k111 k112 k113 k114 k115 k116 k117 k118 k119 k120 k121 k122, Q (.exit 4) ⟨List.toArray (j0 :: j1 :: j2 :: j3 :: k4 :: j5 :: .slice Al l.length cl :: j7 :: j8 :: .slice Ag (2 * l.length) cg :: j10 :: j11 :: j12 :: .int .i64 f :: k14 :: k15 :: k16 :: j17 :: j18 :: j19 :: j20 :: j21 :: j22 :: j23 :: j24 :: j25 :: j26 :: j27 :: j28 :: j29 :: j30 :: j31 :: j32 :: j33 :: j34 :: j35 :: j36 :: j37 :: j38 :: j39 :: j40 :: j41 :: j42 :: j43 :: j44 :: j45 :: j46 :: j47 :: j48 :: j49 :: j50 :: j51 :: j52 :: j53 :: j54 :: j55 :: j56 :: j57 :: j58 :: j59 :: j60 :: j61 :: j62 :: j63 :: k64 :: k65 :: k66 :: k67 :: k68 :: k69 :: k70 :: k71 :: k72 :: k73 :: k74 :: k75 :: k76 :: k77 :: k78 :: k79 :: k80 :: k81 :: k82 :: k83 :: k84 :: k85 :: k86 :: k87 :: k88 :: k89 :: k90 :: k91 :: k92 :: k93 :: k94 :: k95 :: k96 :: k97 :: k98 :: k99 :: k100 :: k101 :: k102 :: k103 :: k104 :: k105 :: k106 :: k107 :: k108 :: k109 :: k110 :: k111 :: k112 :: k113 :: k114 :: k115 :: k116 :: k117 :: k118 :: k119 :: k120 :: k121 :: k122 :: j123 :: j124 :: j125 :: j126 :: j127 :: []), []⟩ w') :
    rLoop3.wp Try.prog Q ⟨List.toArray (j0 :: j1 :: j2 :: j3 :: j4 :: j5 :: .slice Al l.length cl :: j7 :: j8 :: .slice Ag (2 * l.length) cg :: j10 :: j11 :: j12 :: .int .i64 (0 : Int) :: .int .i64 (0 : Int) :: j15 :: j16 :: j17 :: j18 :: j19 :: j20 :: j21 :: j22 :: j23 :: j24 :: j25 :: j26 :: j27 :: j28 :: j29 :: j30 :: j31 :: j32 :: j33 :: j34 :: j35 :: j36 :: j37 :: j38 :: j39 :: j40 :: j41 :: j42 :: j43 :: j44 :: j45 :: j46 :: j47 :: j48 :: j49 :: j50 :: j51 :: j52 :: j53 :: j54 :: j55 :: j56 :: j57 :: j58 :: j59 :: j60 :: j61 :: j62 :: j63 :: j64 :: j65 :: j66 :: j67 :: j68 :: j69 :: j70 :: j71 :: j72 :: j73 :: j74 :: j75 :: j76 :: j77 :: j78 :: j79 :: j80 :: j81 :: j82 :: j83 :: j84 :: j85 :: j86 :: j87 :: j88 :: j89 :: j90 :: j91 :: j92 :: j93 :: j94 :: j95 :: j96 :: j97 :: j98 :: j99 :: j100 :: j101 :: j102 :: j103 :: j104 :: j105 :: j106 :: j107 :: j108 :: j109 :: j110 :: j111 :: j112 :: j113 :: j114 :: j115 :: j116 :: j117 :: j118 :: j119 :: j120 :: j121 :: j122 :: j123 :: j124 :: j125 :: j126 :: j127 :: []), []⟩ w := by
  conv => arg 2; whnf
  go_loopw [13, 14] (fun f i wr => ∃ k : Nat, k ≤ 2 * l.length ∧ i = .int .i64 k ∧ f = .int .i64 (fallsAt l last k : Nat) ∧ Rel3 w0 l last Al Ag wr) (fun _ i _ => 2 * l.length - (intOf i).toNat)
  case atStart => exact ⟨0, Nat.zero_le _, rfl, rfl, hw⟩
  case round =>
    obtain ⟨k, hk, rfl, rfl, hrel⟩ := hrel
    by_cases hlt : k < 2 * l.length
    · have hne : l ≠ [] := by intro e; rw [e] at hlt; simp at hlt
      have hpos : 0 < l.length := by omega
      obtain ⟨p, hp, hpk⟩ := lastAt_place hasc last hne k
      obtain ⟨q1, q2, q3⟩ := hrel
      obtain ⟨al, hAl, cl0⟩ := q1.2.2 (by omega)
      subst hAl
      obtain ⟨ag, hAg, cg0⟩ := q2.2.2 (by omega)
      subst hAg
      have ck := cg0 k hlt
      rw [gotAt_getD l last _ k hlt] at ck
      have HF : fallsAt l last (k + 1) = fallsAt l last k + if 0 < k ∧ lastAt l last (k + 1) ≤ lastAt l last k then 1 else 0 := rfl
      have hfk := fallsAt_bound l last k
      generalize fallsAt l last k = F at *
      have ckp : 1 ≤ k → wr.cell? (ag.add (k - 1)) = some (.int .i64 (lastAt l last k)) := by
        intro h1
        have := cg0 (k - 1) (by omega)
        rw [gotAt_getD l last _ (k - 1) (by omega), show k - 1 + 1 = k from by omega] at this
        exact this
      have ckm : l.length ≤ k → wr.cell? (ag.add (k - l.length)) = some (.int .i64 (lastAt l last (k + 1))) := by
        intro h1
        have := cg0 (k - l.length) (by omega)
        rw [gotAt_getD l last _ (k - l.length) (by omega), ← lastAt_round hasc last hne, show k - l.length + l.length = k from by omega] at this
        exact this
      have CL := Lib.hid cl0
      have CG := Lib.hid cg0
      have HP := Lib.hid hpk
      clear cl0 cg0 hpk hne
      generalize lastAt l last (k + 1) = yk at *
      generalize lastAt l last k = yp at *
      by_cases hge : l.length ≤ k
      · skip
        replace ckm := ckm hge
        replace ckp := ckp (by omega)
        have hd1 : decide (0 < k) = true := by simp; omega
        have hd0 : 0 < k := by omega
        have i3 : (0 : Int) ≤ (k : Int) - 1 := by omega
        have i5 : (1 : Int) ≤ (k : Int) := by omega
        have i4 : (k : Int) - 1 < 2 * (l.length : Int) := by omega
        have i6 : ((k : Int) - 1).toNat = k - 1 := by omega
        have i7 : IntKind.i64.wrap ((k : Int) - 1) = (k : Int) - 1 := IntWalk.i64_in _ (by omega)
        have i1 : (0 : Int) ≤ (k : Int) := by omega
        have i2 : (k : Int) < 2 * (l.length : Int) := by omega
        by_cases cf : yk ≤ yp
        · rw [if_pos ⟨hd0, cf⟩] at HF
          have HFALL := Lib.hid HF
          clear HF
          go_wp2_with fail
          go_quiet (fail)
          clear i6 i7
          have hd2 : decide (l.length ≤ k) = true := by simp; omega
          have j3 : (0 : Int) ≤ (k : Int) - (l.length : Int) := by omega
          have j5 : (l.length : Int) ≤ (k : Int) := by omega
          have j4 : (k : Int) - (l.length : Int) < 2 * (l.length : Int) := by omega
          have j6 : ((k : Int) - (l.length : Int)).toNat = k - l.length := by omega
          have j7 : IntKind.i64.wrap ((k : Int) - (l.length : Int)) = (k : Int) - (l.length : Int) := IntWalk.i64_in _ (by omega)
          go_wp2_with fail
          go_quiet (fail)
          clear j6 j7
          go_wp2_with fail
          rw [World.drewN_drewN]
          refine round_inner l [] wr al ag cl cg k p yk hlt hlen hp CL ck HP _ _ _ _ _ _ _ _ _ _ _ _ _ _ _ _ _ _ _ _ _ _ _ _ _ _ _ _ _ _ _ _ _ _ _ _ _ _ _ _ _ _ _ _ _ _ _ _ _ _ _ _ _ _ _ _ _ _ _ _ _ _ _ _ _ _ _ _ _ _ _ _ _ _ _ _ _ _ _ _ _ _ _ _ _ _ _ _ _ _ _ _ _ _ _ _ _ _ _ _ _ _ _ _ _ _ _ _ _ _ _ _ _ _ _ _ _ _ _ _ _ _ _ _ ?_ _
          intro n k16 k104 k105 k106 k107 k108 k109 k110 k111 k112 k113 k114 k115 k116 k117 k118 k119 k120 k121 k122
          go_wp2_with fail
          go_roundw
          case rel => exact ⟨k + 1, by omega, by go_num, by rw [HFALL.out]; go_num, (show Rel3 w0 l last (some al) (some ag) wr from ⟨q1, q2, q3⟩).drewN _⟩
          case measure => simp [intOf]; omega
        · rw [if_neg (fun q => cf q.2)] at HF
          have HFALL := Lib.hid HF
          clear HF
          go_wp2_with fail
          go_quiet (fail)
          clear i6 i7
          have hd2 : decide (l.length ≤ k) = true := by simp; omega
          have j3 : (0 : Int) ≤ (k : Int) - (l.length : Int) := by omega
          have j5 : (l.length : Int) ≤ (k : Int) := by omega
          have j4 : (k : Int) - (l.length : Int) < 2 * (l.length : Int) := by omega
          have j6 : ((k : Int) - (l.length : Int)).toNat = k - l.length := by omega
          have j7 : IntKind.i64.wrap ((k : Int) - (l.length : Int)) = (k : Int) - (l.length : Int) := IntWalk.i64_in _ (by omega)
          go_wp2_with fail
          go_quiet (fail)
          clear j6 j7
          go_wp2_with fail
          rw [World.drewN_drewN]
          refine round_inner l [] wr al ag cl cg k p yk hlt hlen hp CL ck HP _ _ _ _ _ _ _ _ _ _ _ _ _ _ _ _ _ _ _ _ _ _ _ _ _ _ _ _ _ _ _ _ _ _ _ _ _ _ _ _ _ _ _ _ _ _ _ _ _ _ _ _ _ _ _ _ _ _ _ _ _ _ _ _ _ _ _ _ _ _ _ _ _ _ _ _ _ _ _ _ _ _ _ _ _ _ _ _ _ _ _ _ _ _ _ _ _ _ _ _ _ _ _ _ _ _ _ _ _ _ _ _ _ _ _ _ _ _ _ _ _ _ _ _ ?_ _
          intro n k16 k104 k105 k106 k107 k108 k109 k110 k111 k112 k113 k114 k115 k116 k117 k118 k119 k120 k121 k122
          go_wp2_with fail
          go_roundw
          case rel => exact ⟨k + 1, by omega, by go_num, by rw [HFALL.out, Nat.add_zero], (show Rel3 w0 l last (some al) (some ag) wr from ⟨q1, q2, q3⟩).drewN _⟩
          case measure => simp [intOf]; omega
      · clear ckm
        by_cases hk1 : 1 ≤ k
        · replace ckp := ckp hk1
          have hd1 : decide (0 < k) = true := by simp; omega
          have hd0 : 0 < k := by omega
          have i3 : (0 : Int) ≤ (k : Int) - 1 := by omega
          have i5 : (1 : Int) ≤ (k : Int) := by omega
          have i4 : (k : Int) - 1 < 2 * (l.length : Int) := by omega
          have i6 : ((k : Int) - 1).toNat = k - 1 := by omega
          have i7 : IntKind.i64.wrap ((k : Int) - 1) = (k : Int) - 1 := IntWalk.i64_in _ (by omega)
          have i1 : (0 : Int) ≤ (k : Int) := by omega
          have i2 : (k : Int) < 2 * (l.length : Int) := by omega
          by_cases cf : yk ≤ yp
          · rw [if_pos ⟨hd0, cf⟩] at HF
            have HFALL := Lib.hid HF
            clear HF
            go_wp2_with fail
            go_quiet (fail)
            clear i6 i7
            have hd2 : decide (l.length ≤ k) = false := by simp; omega
            go_wp2_with fail
            go_quiet (fail)
            go_wp2_with fail
            rw [World.drewN_drewN]
            refine round_inner l [] wr al ag cl cg k p yk hlt hlen hp CL ck HP _ _ _ _ _ _ _ _ _ _ _ _ _ _ _ _ _ _ _ _ _ _ _ _ _ _ _ _ _ _ _ _ _ _ _ _ _ _ _ _ _ _ _ _ _ _ _ _ _ _ _ _ _ _ _ _ _ _ _ _ _ _ _ _ _ _ _ _ _ _ _ _ _ _ _ _ _ _ _ _ _ _ _ _ _ _ _ _ _ _ _ _ _ _ _ _ _ _ _ _ _ _ _ _ _ _ _ _ _ _ _ _ _ _ _ _ _ _ _ _ _ _ _ _ ?_ _
            intro n k16 k104 k105 k106 k107 k108 k109 k110 k111 k112 k113 k114 k115 k116 k117 k118 k119 k120 k121 k122
            go_wp2_with fail
            go_roundw
            case rel => exact ⟨k + 1, by omega, by go_num, by rw [HFALL.out]; go_num, (show Rel3 w0 l last (some al) (some ag) wr from ⟨q1, q2, q3⟩).drewN _⟩
            case measure => simp [intOf]; omega
          · rw [if_neg (fun q => cf q.2)] at HF
            have HFALL := Lib.hid HF
            clear HF
            go_wp2_with fail
            go_quiet (fail)
            clear i6 i7
            have hd2 : decide (l.length ≤ k) = false := by simp; omega
            go_wp2_with fail
            go_quiet (fail)
            go_wp2_with fail
            rw [World.drewN_drewN]
            refine round_inner l [] wr al ag cl cg k p yk hlt hlen hp CL ck HP _ _ _ _ _ _ _ _ _ _ _ _ _ _ _ _ _ _ _ _ _ _ _ _ _ _ _ _ _ _ _ _ _ _ _ _ _ _ _ _ _ _ _ _ _ _ _ _ _ _ _ _ _ _ _ _ _ _ _ _ _ _ _ _ _ _ _ _ _ _ _ _ _ _ _ _ _ _ _ _ _ _ _ _ _ _ _ _ _ _ _ _ _ _ _ _ _ _ _ _ _ _ _ _ _ _ _ _ _ _ _ _ _ _ _ _ _ _ _ _ _ _ _ _ ?_ _
            intro n k16 k104 k105 k106 k107 k108 k109 k110 k111 k112 k113 k114 k115 k116 k117 k118 k119 k120 k121 k122
            go_wp2_with fail
            go_roundw
            case rel => exact ⟨k + 1, by omega, by go_num, by rw [HFALL.out, Nat.add_zero], (show Rel3 w0 l last (some al) (some ag) wr from ⟨q1, q2, q3⟩).drewN _⟩
            case measure => simp [intOf]; omega
        · clear ckp
          have hd1 : decide (0 < k) = false := by simp; omega
          have hk0 : ¬ 0 < k := by omega
          have i1 : (0 : Int) ≤ (k : Int) := by omega
          have i2 : (k : Int) < 2 * (l.length : Int) := by omega
          rw [if_neg (fun q => by omega)] at HF
          have HFALL := Lib.hid HF
          clear HF
          go_wp2_with fail
          go_quiet (fail)
          have hd2 : decide (l.length ≤ k) = false := by simp; omega
          go_wp2_with fail
          go_quiet (fail)
          go_wp2_with fail
          rw [World.drewN_drewN]
          refine round_inner l [] wr al ag cl cg k p yk hlt hlen hp CL ck HP _ _ _ _ _ _ _ _ _ _ _ _ _ _ _ _ _ _ _ _ _ _ _ _ _ _ _ _ _ _ _ _ _ _ _ _ _ _ _ _ _ _ _ _ _ _ _ _ _ _ _ _ _ _ _ _ _ _ _ _ _ _ _ _ _ _ _ _ _ _ _ _ _ _ _ _ _ _ _ _ _ _ _ _ _ _ _ _ _ _ _ _ _ _ _ _ _ _ _ _ _ _ _ _ _ _ _ _ _ _ _ _ _ _ _ _ _ _ _ _ _ _ _ _ ?_ _
          intro n k16 k104 k105 k106 k107 k108 k109 k110 k111 k112 k113 k114 k115 k116 k117 k118 k119 k120 k121 k122
          go_wp2_with fail
          go_roundw
          case rel => exact ⟨k + 1, by omega, by go_num, by rw [HFALL.out, Nat.add_zero], (show Rel3 w0 l last (some al) (some ag) wr from ⟨q1, q2, q3⟩).drewN _⟩
          case measure => simp [intOf]; omega
    · have hkm : k = 2 * l.length := by omega
      have hf := falls_end hasc last
      rw [← hkm] at hf
      obtain ⟨q1, q2, q3⟩ := hrel
      generalize fallsAt l last k = F at *
      go_wp2_with fail
      exact hQ _ _ q3 (by omega) (by omega) _ _ _ _ _ _ _ _ _ _ _ _ _ _ _ _ _ _ _ _ _ _ _ _ _ _ _ _ _ _ _ _ _ _ _ _ _ _ _ _ _ _ _ _ _ _ _ _ _ _ _ _ _ _ _ _ _ _ _ _ _ _ _

/-- What the second loop keeps. -/
def Rel2 (w0 w3 : World) (g : Nat) (l : List Int) (last : Int) (Al : Option Addr) (j : Nat) (v : Value) (wr : World) : Prop :=
  wr.ownsRow w3.heap.size 3 1 v j ((gotAt l last j).map (Value.int .i64)) ∧ TW wr g true true (lastAt l last j) ∧ ReadsInt wr .i64 Al l.length l ∧ Below w0.heap.size w0 wr ∧ w3.heap.size ≤ wr.heap.size

set_option maxHeartbeats 1000000 in
set_option maxRecDepth 100000 in
theorem round_walk (A : Option Addr) (cap : Nat) (gs : List Int) (last : Int) (w0 : World) (hr : ReadsInt w0 .u8 A gs.length gs) (hg : ∀ x ∈ gs, 0 ≤ x ∧ x ≤ 255) :
    Calls Try.prog 3 #[.slice A gs.length cap, .int .i64 last] w0 fun e w' => e = .returned (.bool true) ∧ Below w0.heap.size w0 w' := by
  go_enter Try.func3, Try.ntmps3
  go_wp2_with fail
  refine (new_any _).mono ?_
  rintro e w1 ⟨rfl, hw⟩
  obtain ⟨g, hgg⟩ : ∃ g, w0.heap.size = g := ⟨_, rfl⟩
  have t1 : TW w1 g true false 0 := by rw [hw, ← hgg]; exact heap_alloc_new _ _
  have b1 : Below w0.heap.size w0 w1 := by rw [hw]; exact (Below.refl _ w0).alloc (Nat.le_refl _) _
  have z1 : g < w1.heap.size := by rw [hw, ← hgg]; simp
  have hg0 : w0.heap.size ≤ g := by omega
  simp only [hgg]
  clear hw hgg
  go_wp2_with fail
  refine round_loop1 g A cap gs w0 w1 hr hg t1 b1 hg0 z1 _ _ _ _ _ _ _ _ _ _ _ _ _ _ _ _ _ _ _ _ _ _ _ _ _ _ _ _ _ _ _ _ _ _ _ _ _ _ _ _ _ _ _ _ _ _ _ _ _ _ _ _ _ _ _ _ _ _ _ _ _ _ _ _ _ _ _ _ _ _ _ _ _ _ _ _ _ _ _ _ _ _ _ _ _ _ _ _ _ _ _ _ _ _ _ _ _ _ _ _ _ _ _ _ _ _ _ _ _ _ _ _ _ _ _ _ _ _ _ _ _ _ _ _ _ ?_
  intro w l v hasc hlen hown ht hb hz k7 k8 k20 k21 k22 k23 k24 k25 k26 k27 k28 k29 k30 k31 k32 k33 k34 k35 k36 k37 k38 k39 k40 k41
  go_wp2_with fail
  refine (took_any g _ _ last _ ht).mono ?_
  rintro e w3 ⟨rfl, t3, g3⟩
  have b3 : Below w0.heap.size w0 w3 := hb.grown g3 hb.size (fun k e => by cases e; exact hg0)
  have o3 := hown.kept g3 (own_far hown z1)
  have z3 : w1.heap.size ≤ w3.heap.size := Nat.le_trans hz g3.size
  obtain ⟨Al, cl, rfl, rl⟩ := own_reads o3
  have hal : ∀ ad, Al = some ad → w1.heap.size ≤ ad.block ∧ ad.block < w3.heap.size := by
    intro ad e
    subst e
    exact ⟨own_base o3 _ rfl, own_lt o3 _ rfl⟩
  go_wp2_with fail
  go_loopw [9, 10] (fun v i wr => ∃ j : Nat, j ≤ 2 * l.length ∧ i = .int .i64 j ∧ Rel2 w0 w3 g l last Al j v wr) (fun _ i _ => 2 * l.length - (intOf i).toNat)
  case atStart => exact ⟨0, Nat.zero_le _, rfl, own_nil _ _ _ _, t3, rl, b3, Nat.le_refl _⟩
  case round =>
    obtain ⟨j, hj, rfl, hrel⟩ := hrel
    obtain ⟨q1, q2, q3, q4, q5⟩ := hrel
    by_cases hlt : j < 2 * l.length
    · have hne : l ≠ [] := by intro e; rw [e] at hlt; simp at hlt
      have hn := nextOf_some (lastAt l last j) l hne
      have HS := Lib.hid (gotAt_succ l last j)
      have hq0 : w3.heap.size ≤ wr.heap.size := q5
      have hstep : (nextOf true (lastAt l last j) l).getD 0 = lastAt l last (j + 1) := rfl
      rw [hstep] at hn
      clear hstep
      generalize lastAt l last (j + 1) = x at hn HS
      have HN := Lib.hid hn
      clear hn hne
      obtain ⟨i0, hi, hz0, hz1, hz2⟩ := info_parts info3
      go_wp2_with fail
      refine (next_some g _ _ _ _ _ _ _ _ q2 q3 HN.out).mono ?_
      rintro e w4 ⟨rfl, t4, g4⟩
      have r4 : ReadsInt w4 .i64 Al l.length l := q3.keptBy g4 (fun ad e => ⟨by have := hal ad e; omega, by intro c; have := hal ad e; cases c; omega⟩)
      have o4 := q1.kept g4 (own_far q1 (by omega))
      have b4 : Below w0.heap.size w0 w4 := q4.grown g4 q4.size (fun k e => by cases e; exact hg0)
      have s4 : w3.heap.size ≤ w4.heap.size := Nat.le_trans q5 g4.size
      clear q1 q2 q3 q4 q5
      go_wp2_with (first | (at_builtin; refine wpList_append_own _ rfl _ _ 25 rfl w3.heap.size 3 i0 (.int .i64 0) 1 8 Try.underlying25 hi hz0 hz1 hz2 rfl (by decide) _ _ _ rfl (o4.alloc _) ⟨w4.heap.size, 0, none⟩ 1 1 [.int .i64 x] rfl rfl ?c1 ?c2 ?c3 ?c4 ?c5 ?_))
      case c1 =>
        intro j u hj
        rcases j with _ | j
        · simp at hj; subst hj; rw [add_plain]; simp
        · simp at hj
      case c2 => simp [Value.oneCell']
      case c3 => unfold maxLen; omega
      case c4 => omega
      case c5 => simp; omega
      intro v' w5 o5 g5 _
      go_wp2_with fail
      go_roundw
      case rel =>
        refine ⟨j + 1, by omega, by go_num, ?_, ?_, ?_, ?_, ?_⟩
        · rw [HS.out]; simpa using o5
        · have e : lastAt l last (j + 1) = x := by have := HN.out; have h2 : (nextOf true (lastAt l last j) l).getD 0 = lastAt l last (j + 1) := rfl; rw [this] at h2; exact h2.symm
          rw [e]
          exact (t4.kept (World.grownBy_alloc _ _ none) (by simp)).kept g5 (by intro e; have := own_base o4 g e.symm; omega)
        · exact (r4.keptBy (World.grownBy_alloc _ _ none) (fun ad e => ⟨by have := hal ad e; omega, by simp⟩)).keptBy g5 (fun ad e => ⟨by have := hal ad e; simp; omega, by intro c; have := hal ad e; have := own_base o4 _ c.symm; omega⟩)
        · exact (b4.alloc b4.size _).grown g5 (by simp; have := b4.size; omega) (fun k e => by have := own_base o4 k e; have := b1.size; omega)
        · have := g5.size; simp at this; omega
      case measure => simp [intOf]; omega
    · have hjm : j = 2 * l.length := by omega
      subst hjm
      obtain ⟨Ag, cg, rfl, rg⟩ := own_reads q1
      have hw : Rel3 w0 l last Al Ag wr := ⟨q3, rg, q4⟩
      go_wp2_with fail
      refine round_loop3 last l w0 wr hasc hlen Al Ag cl cg hw _ _ _ _ _ _ _ _ _ _ _ _ _ _ _ _ _ _ _ _ _ _ _ _ _ _ _ _ _ _ _ _ _ _ _ _ _ _ _ _ _ _ _ _ _ _ _ _ _ _ _ _ _ _ _ _ _ _ _ _ _ _ _ _ _ _ _ _ _ _ _ _ _ _ _ _ _ _ _ _ _ _ _ _ _ _ _ _ _ _ _ _ _ _ _ _ _ _ _ _ _ _ _ _ _ _ _ _ _ _ _ _ _ _ _ _ _ _ _ _ _ _ _ _ _ ?_
      intro w' f hb0 f0 f2 k4 k14 k15 k16 k64 k65 k66 k67 k68 k69 k70 k71 k72 k73 k74 k75 k76 k77 k78 k79 k80 k81 k82 k83 k84 k85 k86 k87 k88 k89 k90 k91 k92 k93 k94 k95 k96 k97 k98 k99 k100 k101 k102 k103 k104 k105 k106 k107 k108 k109 k110 k111 k112 k113 k114 k115 k116 k117 k118 k119 k120 k121 k122
      go_wp2_with fail
      refine (known_any _).mono ?_
      rintro e w'' ⟨rfl, hbk⟩
      go_wp2_with fail
      go_ret
      exact ⟨rfl, hb0.trans (hbk.mono hb0.size)⟩

theorem round_row (A : Option Addr) (len cap : Nat) (z : List Int) (n : Int) (w : World)
    (h : (A = none ∧ len = 0 ∧ cap = 0 ∧ z = []) ∨ ∃ x, A = some x ∧ len ≤ cap ∧ cap ≤ maxLen ∧ z.length = cap ∧ (∀ i, i < z.length → w.cell? (x.add i) = some (.int .u8 (z.getD i 0))) ∧ ∀ n ∈ z, (Lit.int .u8 n).wf = true)
    (y : len * 1 ≤ 140737488351232) (hn : (Lit.int .i64 n).wf = true) : Calls Try.prog 3 #[.slice A len cap, .int .i64 n] w fun e w' => e = .returned (.bool true) ∧ Below w.heap.size w w' := by
  obtain ⟨l, rfl, hr, -, hwf, -⟩ := ReadsInt.ofRowC h
  exact round_walk A cap l n w hr (fun x hx => by
    have := hwf x hx
    simpa [Lit.wf, IntKind.min, IntKind.max, IntKind.signed, IntKind.bits] using this)
end Go.Proofs.Ytpicniagafkjaaa
