/- The walk over TurnsPlays; no condition. -/
import Derived.Test.YtpicniagafkjaaaRef
import Derived.Test.YtpicniagafkjaaaOpen
import Derived.Test.YtpicniagafkjaaaRound
set_option linter.unusedVariables false
set_option linter.unusedSimpArgs false
namespace Go.Proofs.Ytpicniagafkjaaa
open Go.RowKit Go.Proofs.YtpicniagafkjaaaW.PrintWords

/-- An Op. -/
structure OpT where
  kind : Int
  l : List Int
  n : Int
def kop : Kd OpT := Kd.iso (Kd.pair (Kd.int .i64) (Kd.pair (Kd.slice 3 (Kd.int .i64)) (Kd.int .i64))) (fun x : OpT => (x.kind, x.l, x.n))

theorem op_at {w : World} {A : Option Addr} {n : Nat} {xs : List OpT} (h : Kd.C kop w A n xs) (i : Nat) (hi : i < n) :
    ∃ (x : OpT) (ad : Addr) (B : Option Addr) (c : Nat), A = some ad ∧ w.cell? (ad.add (i * 3)) = some (.int .i64 x.kind) ∧ w.cell? ⟨(ad.add (i * 3)).block, (ad.add (i * 3)).off + 1, none⟩ = some (.slice B x.l.length c) ∧ w.cell? ⟨(ad.add (i * 3)).block, (ad.add (i * 3)).off + 2, none⟩ = some (.int .i64 x.n) ∧ ReadsInt w .i64 B x.l.length x.l := by
  obtain ⟨ad, c, e, _, hK, hc⟩ := Kd.C_get h ⟨0, [], 0⟩ (i : Int) (by omega) (by omega)
  have hc : ∀ j u, c[j]? = some u → w.cell? (ad.add (i * 3 + j)) = some u := hc
  generalize xs.getD (i : Int).toNat ⟨0, [], 0⟩ = x at hK
  obtain ⟨_, _, rfl, rfl, ⟨_, _, rfl, ⟨B, cB, rfl, _, hB⟩, rfl⟩⟩ := hK
  exact ⟨x, ad, B, cB, e, hc 0 _ rfl, (by rw [← add_field _ _ 1 (by omega)]; exact hc 1 _ rfl), (by rw [← add_field _ _ 2 (by omega)]; exact hc 2 _ rfl), Kd.reads_of_C (enc := Value.int .i64) (d := (0 : Int)) (h1 := fun _ => rfl) hB⟩

/-- What is carried from round to round. -/
structure PInv (w0 wr : World) (gt gr : Nat) (has : Bool) (last : Int) : Prop where
  t : TW wr gt true has last
  r : RW wr gr last has
  ne : gt ≠ gr
  t0 : w0.heap.size ≤ gt
  r0 : w0.heap.size ≤ gr
  bl : Below w0.heap.size w0 wr

theorem keptR {w1 w2 : World} {k : IntKind} {A : Option Addr} {n N : Nat} {xs : List Int} {row : Option Nat} (h : ReadsInt w1 k A n xs) (hg : w1.grownBy w2 row) (hf : ∀ ad, A = some ad → 0 < n → ad.block < N) (hN : N ≤ w1.heap.size)
    (hr : ∀ k, row = some k → N ≤ k) : ReadsInt w2 k A n xs := by
  refine ⟨h.1, h.2.1, fun hp => ?_⟩
  obtain ⟨ad, e, hc⟩ := h.2.2 hp
  have hb : ∀ j, (ad.add j).block = ad.block := by intro j; unfold Addr.add; split <;> rfl
  have hlt := hf ad e hp
  refine ⟨ad, e, fun j hj => keptBy_cell (hc j hj) hg (by rw [hb]; omega) (by rw [hb]; intro q; have := hr _ q.symm; omega)⟩

theorem PInv.step {w0 w1 w2 : World} {gt gr : Nat} {has : Bool} {last : Int} (h : PInv w0 w1 gt gr has last) {row : Option Nat} (hg : w1.grownBy w2 row) (ht : some gt ≠ row) (hr : some gr ≠ row) (h0 : ∀ k, row = some k → w0.heap.size ≤ k) : PInv w0 w2 gt gr has last :=
  ⟨h.t.kept hg ht, h.r.kept hg hr, h.ne, h.t0, h.r0, h.bl.grown hg h.bl.size h0⟩
theorem PInv.drewN {w0 w1 : World} {gt gr : Nat} {has : Bool} {last : Int} (h : PInv w0 w1 gt gr has last) (n : Nat) : PInv w0 (w1.drewN n) gt gr has last :=
  h.step (grownBy_drewN w1 n none) (by simp) (by simp) (by simp)

/-- An Op's own box. -/
def BoxIs (w : World) (b : Nat) (kd : Int) (B : Option Addr) (l : List Int) (c : Nat) (n : Int) : Prop := w.heap[b]? = some (.cells #[.int .i64 kd, .slice B l.length c, .int .i64 n] 38 (0, 0))
theorem BoxIs.lt {w : World} {b : Nat} {kd : Int} {B : Option Addr} {l : List Int} {c : Nat} {n : Int} (h : BoxIs w b kd B l c n) : b < w.heap.size := (Array.getElem?_eq_some_iff.1 h).1
theorem BoxIs.kept {w w' : World} {b : Nat} {kd : Int} {B : Option Addr} {l : List Int} {c : Nat} {n : Int} (h : BoxIs w b kd B l c n) {row : Option Nat} (hg : w.grownBy w' row) (hne : some b ≠ row) : BoxIs w' b kd B l c n :=
  (hg.block b h.lt hne).trans h
theorem BoxIs.c0 {w : World} {b : Nat} {kd : Int} {B : Option Addr} {l : List Int} {c : Nat} {n : Int} (h : BoxIs w b kd B l c n) : w.cell? ⟨b, 0, none⟩ = some (.int .i64 kd) := by
  unfold BoxIs at h; simp [World.cell?, h]
theorem BoxIs.c1 {w : World} {b : Nat} {kd : Int} {B : Option Addr} {l : List Int} {c : Nat} {n : Int} (h : BoxIs w b kd B l c n) : w.cell? ⟨b, 1, none⟩ = some (.slice B l.length c) := by
  unfold BoxIs at h; simp [World.cell?, h]
theorem BoxIs.c2 {w : World} {b : Nat} {kd : Int} {B : Option Addr} {l : List Int} {c : Nat} {n : Int} (h : BoxIs w b kd B l c n) : w.cell? ⟨b, 2, none⟩ = some (.int .i64 n) := by
  unfold BoxIs at h; simp [World.cell?, h]
theorem box_new (w : World) (kd : Int) (B : Option Addr) (l : List Int) (c : Nat) (n : Int) : BoxIs (w.alloc (.cells #[.int .i64 kd, .slice B l.length c, .int .i64 n] 38 (0, 0))) w.heap.size kd B l c n := heap_alloc_new _ _
theorem BoxIs.drewN {w : World} {b : Nat} {kd : Int} {B : Option Addr} {l : List Int} {c : Nat} {n : Int} (h : BoxIs w b kd B l c n) (m : Nat) : BoxIs (w.drewN m) b kd B l c n := h

theorem rnext_some (g : Nat) (n : Int) (has : Bool) (x : Int) (A : Option Addr) (len cap : Nat) (l : List Int) (w : World) (hw : RW w g n has) (hr : ReadsInt w .i64 A len l) (hn : nextOf has n l = some x) :
    Calls Try.prog 12 #[.pointer (some ⟨g, 0, none⟩), .slice A len cap] w fun e w' => e = .returned (.tuple #[.int .i64 x, .bool true]) ∧ RW w' g x true ∧ w.grownBy w' (some g) := by
  obtain rfl := hr.1
  refine (rnext_any g n has A cap l w hw hr).mono fun e w' h => ?_
  unfold RPost at h
  rw [hn] at h
  exact ⟨h.2.1, h.2.2, h.1⟩
theorem rnext_none (g : Nat) (n : Int) (has : Bool) (A : Option Addr) (len cap : Nat) (l : List Int) (w : World) (hw : RW w g n has) (hr : ReadsInt w .i64 A len l) (hn : nextOf has n l = none) :
    Calls Try.prog 12 #[.pointer (some ⟨g, 0, none⟩), .slice A len cap] w fun e w' => e = .returned (.tuple #[.int .i64 0, .bool false]) ∧ RW w' g n has ∧ w.grownBy w' (some g) := by
  obtain rfl := hr.1
  refine (rnext_any g n has A cap l w hw hr).mono fun e w' h => ?_
  unfold RPost at h
  rw [hn] at h
  exact ⟨h.2.1, h.2.2, h.1⟩

set_option maxHeartbeats 2000000 in
set_option maxRecDepth 100000 in
theorem plays_walk (A : Option Addr) (len cap : Nat) (xs : List OpT) (w : World) (hr : Kd.C kop w A len xs) :
    Calls Try.prog 5 #[.slice A len cap] w fun e w' => e = .returned (.bool true) ∧ Below w.heap.size w w' := by
  have hm := hr.2.1
  go_enter Try.func5, Try.ntmps5
  go_wp2_with fail
  refine (new_any _).mono ?_
  rintro e w1 ⟨rfl, hw⟩
  have t1 : TW w1 w.heap.size true false 0 := by rw [hw]; exact heap_alloc_new _ _
  have b1 : Below w.heap.size w w1 := by rw [hw]; exact (Below.refl _ w).alloc (Nat.le_refl _) _
  have z1 : w.heap.size < w1.heap.size := by rw [hw]; simp
  clear hw
  go_wp2_with fail
  obtain ⟨m, hmm⟩ : ∃ m, m ≤ len ∧ m ≤ 60 ∧ (m = len ∨ m = 60) := ⟨min len 60, by omega, by omega, by omega⟩
  go_loopw [3, 5] (fun p i wr => ∃ (k gt : Nat) (has : Bool) (last : Int), k ≤ m ∧ i = .int .i64 k ∧ p = .pointer (some ⟨gt, 0, none⟩) ∧ PInv w wr gt w1.heap.size has last) (fun _ i _ => m - (intOf i).toNat)
  case atStart =>
    refine ⟨0, w.heap.size, false, 0, Nat.zero_le _, rfl, rfl, t1.kept (World.grownBy_alloc _ _ none) (by simp), ?_, by omega, Nat.le_refl _, by omega, b1.alloc b1.size _⟩
    exact heap_alloc_new _ _
  case round =>
    obtain ⟨k, gt, has, last, hk, rfl, rfl, hinv⟩ := hrel
    by_cases hlt : k < m
    · have hkl : k < len := by omega
      have hk60 : k < 60 := by omega
      obtain ⟨x, ad, B, c, hA, c0', c1', c2', hB'⟩ := op_at hr k hkl
      obtain ⟨kd, l, n⟩ := x
      simp only at c0' c1' c2' hB'
      have hBfar : ∀ ad, B = some ad → 0 < l.length → ad.block < w.heap.size := by
        intro ad e h0
        obtain ⟨ad', e', hc⟩ := hB'.2.2 h0
        rw [e] at e'
        cases e'
        have := World.block_lt_of_cell? w _ (hc 0 h0)
        have hb : (ad.add 0).block = ad.block := by unfold Addr.add; split <;> rfl
        rwa [hb] at this
      have c0 := pw_cell_below hinv.bl c0'
      have c1 := pw_cell_below hinv.bl c1'
      have c2 := pw_cell_below hinv.bl c2'
      have hB := hB'.below hinv.bl
      clear c0' c1' c2' hB'
      subst hA
      have X1 := box_new wr kd B l c n
      have g1 : wr.grownBy (wr.alloc (.cells #[.int .i64 kd, .slice B l.length c, .int .i64 n] 38 (0, 0))) none := World.grownBy_alloc _ _ _
      have I1 := hinv.step g1 (by simp) (by simp) (by simp)
      have rB1 : ReadsInt (wr.alloc (.cells #[.int .i64 kd, .slice B l.length c, .int .i64 n] 38 (0, 0))) .i64 B l.length l := hB.below ((Below.refl _ wr).alloc (Nat.le_refl _) _)
      have hwr : wr.heap.size < (wr.alloc (.cells #[.int .i64 kd, .slice B l.length c, .int .i64 n] 38 (0, 0))).heap.size := by simp
      have hml := rB1.2.1
      have htw := hinv.t.lt
      have hrw := hinv.r.lt
      have hwb := hinv.bl.size
      by_cases hl : 200 < l.length
      · go_wp2_with fail
        go_roundw
        case rel => exact ⟨k + 1, gt, has, last, by omega, by go_num, rfl, I1⟩
        case measure => simp [intOf]; omega
      · have y0 := X1.c0
        have y1 := X1.c1
        have y2 := X1.c2
        go_upto_region 9 with (fail)
        generalize hW1 : wr.alloc (.cells #[.int .i64 kd, .slice B l.length c, .int .i64 n] 38 (0, 0)) = W1 at *
        generalize wr.heap.size = bx at *
        clear hW1 g1
        by_cases k0 : kd = 0
        · subst k0
          cases hn : nextOf has last l with
          | some x =>
            have HN := Lib.hid hn
            clear hn
            go_wp2_with (first | (at_builtin; refine print_append_row (w0 := W1) W1.heap.size rfl _ _ 25 3 .i64 8 rfl Try.underlying25 info3 (by decide) (.slice none 0 0) [] l B l.length c rfl rfl (own_nil _ _ _ _) rB1 (Below.refl _ _) (Nat.le_refl _) (by simp; omega) ?_))
            intro v1 w2 o2 b2 g2 _
            have g2 : W1.grownBy w2 none := ⟨g2.os, g2.tape, g2.output, g2.size, fun i hi _ => b2.block i hi⟩
            have I2 := I1.step g2 (by simp) (by simp) (by simp)
            have X2 := X1.kept g2 (by simp)
            have rB2 := rB1.below b2
            obtain ⟨A1, cc, rfl, r2⟩ := own_reads (xs := l) (by simpa using o2)
            have hA1 : ∀ ad, A1 = some ad → W1.heap.size ≤ ad.block ∧ ad.block < w2.heap.size := by
              intro ad e
              subst e
              exact ⟨own_base o2 _ rfl, own_lt o2 _ rfl⟩
            go_wp2_with fail
            refine (next_some gt has last x _ _ _ _ _ I2.t r2 HN.out).mono ?_
            rintro e w3 ⟨rfl, t3, g3⟩
            have b3 := X2.lt
            have X3 := X2.kept g3 (by intro e; have := Option.some.inj e; have := I1.t.lt; omega)
            have rr3 := I2.r.kept g3 (by intro e; exact I2.ne (Option.some.inj e).symm)
            have rB3 : ReadsInt w3 .i64 B l.length l := keptR rB2 g3 hBfar (by have := I2.bl.size; omega) (by intro k e; cases e; exact I2.t0)
            have r3 : ReadsInt w3 .i64 A1 l.length l := r2.keptBy g3 (fun ad e => ⟨(hA1 ad e).2, by intro q; have := (hA1 ad e).1; have := I1.t.lt; cases q; omega⟩)
            have x1 := X3.c1
            go_wp2_with fail
            refine (rnext_some w1.heap.size last has x _ _ _ _ _ rr3 rB3 HN.out).mono ?_
            rintro e w4 ⟨rfl, r4, g4⟩
            have I4 : PInv w w4 gt w1.heap.size true x := ⟨t3.kept g4 (by intro e; exact I2.ne (Option.some.inj e)), r4, I2.ne, I2.t0, I2.r0, (I2.bl.grown g3 I2.bl.size (by intro k e; cases e; exact I2.t0)).grown g4 (by have := I2.bl.size; have := g3.size; omega) (by intro k e; cases e; exact I2.r0)⟩
            have X4 := X3.kept g4 (by intro e; have := Option.some.inj e; have := I1.r.lt; omega)
            have rB4 : ReadsInt w4 .i64 B l.length l := keptR rB3 g4 hBfar (by have := I2.bl.size; have := g3.size; omega) (by intro k e; cases e; exact I2.r0)
            have rA4 : ReadsInt w4 .i64 A1 l.length l := r3.keptBy g4 (fun ad e => ⟨by have := (hA1 ad e).2; have := g3.size; omega, by intro q; have := (hA1 ad e).1; have := I1.r.lt; have q := Option.some.inj q; omega⟩)
            clear I2 X2 rB2 r2 t3 X3 rr3 rB3 r3 r4 x1
            go_wp2_with fail
            go_loopw [12] (fun i wx => ∃ (q nd : Nat), q ≤ l.length ∧ i = .int .i64 q ∧ wx = w4.drewN nd) (fun i _ => l.length - (intOf i).toNat)
            case atStart => exact ⟨0, 0, Nat.zero_le _, rfl, rfl⟩
            case round =>
              obtain ⟨q, nd, hq, rfl, rfl⟩ := hrel
              by_cases hql : q < l.length
              · have x1 := X4.c1
                obtain ⟨aB, hB1, cB0⟩ := rB4.2.2 (by omega)
                obtain ⟨aA, hA2, cA0⟩ := rA4.2.2 (by omega)
                have cB := cB0 q hql
                have cA := cA0 q hql
                generalize l.getD q 0 = z at cA cB
                clear cB0 cA0
                subst hB1
                subst hA2
                have i1 : (0 : Int) ≤ (q : Int) := by omega
                have i2 : (q : Int) < (l.length : Int) := by omega
                go_wp2_with fail
                go_quiet (fail)
                go_wp2_with fail
                go_roundw
                case rel => exact ⟨q + 1, _, by omega, by go_num, rfl⟩
                case measure => simp [intOf]; omega
              · have I5 := I4.drewN nd
                clear X4 rB4 rA4
                go_wp2_with fail
                refine (last_any gt true x _ I5.t).mono ?_
                rintro e w' ⟨rfl, rfl⟩
                have r0 := I5.r.c0
                have r1 := I5.r.c1
                go_wp2_with fail
                go_roundw
                case rel => exact ⟨k + 1, gt, true, x, by omega, by go_num, rfl, I5⟩
                case measure => simp [intOf]; omega
          | none =>
            have HN := Lib.hid hn
            clear hn
            go_wp2_with (first | (at_builtin; refine print_append_row (w0 := W1) W1.heap.size rfl _ _ 25 3 .i64 8 rfl Try.underlying25 info3 (by decide) (.slice none 0 0) [] l B l.length c rfl rfl (own_nil _ _ _ _) rB1 (Below.refl _ _) (Nat.le_refl _) (by simp; omega) ?_))
            intro v1 w2 o2 b2 g2 _
            have g2 : W1.grownBy w2 none := ⟨g2.os, g2.tape, g2.output, g2.size, fun i hi _ => b2.block i hi⟩
            have I2 := I1.step g2 (by simp) (by simp) (by simp)
            have X2 := X1.kept g2 (by simp)
            have rB2 := rB1.below b2
            obtain ⟨A1, cc, rfl, r2⟩ := own_reads (xs := l) (by simpa using o2)
            have hA1 : ∀ ad, A1 = some ad → W1.heap.size ≤ ad.block ∧ ad.block < w2.heap.size := by
              intro ad e
              subst e
              exact ⟨own_base o2 _ rfl, own_lt o2 _ rfl⟩
            go_wp2_with fail
            refine (next_none gt has last _ _ _ _ _ I2.t r2 HN.out).mono ?_
            rintro e w3 ⟨rfl, t3, g3⟩
            have b3 := X2.lt
            have X3 := X2.kept g3 (by intro e; have := Option.some.inj e; have := I1.t.lt; omega)
            have rr3 := I2.r.kept g3 (by intro e; exact I2.ne (Option.some.inj e).symm)
            have rB3 : ReadsInt w3 .i64 B l.length l := keptR rB2 g3 hBfar (by have := I2.bl.size; omega) (by intro k e; cases e; exact I2.t0)
            have r3 : ReadsInt w3 .i64 A1 l.length l := r2.keptBy g3 (fun ad e => ⟨(hA1 ad e).2, by intro q; have := (hA1 ad e).1; have := I1.t.lt; cases q; omega⟩)
            have x1 := X3.c1
            go_wp2_with fail
            refine (rnext_none w1.heap.size last has _ _ _ _ _ rr3 rB3 HN.out).mono ?_
            rintro e w4 ⟨rfl, r4, g4⟩
            have I4 : PInv w w4 gt w1.heap.size has last := ⟨t3.kept g4 (by intro e; exact I2.ne (Option.some.inj e)), r4, I2.ne, I2.t0, I2.r0, (I2.bl.grown g3 I2.bl.size (by intro k e; cases e; exact I2.t0)).grown g4 (by have := I2.bl.size; have := g3.size; omega) (by intro k e; cases e; exact I2.r0)⟩
            have X4 := X3.kept g4 (by intro e; have := Option.some.inj e; have := I1.r.lt; omega)
            have rB4 : ReadsInt w4 .i64 B l.length l := keptR rB3 g4 hBfar (by have := I2.bl.size; have := g3.size; omega) (by intro k e; cases e; exact I2.r0)
            have rA4 : ReadsInt w4 .i64 A1 l.length l := r3.keptBy g4 (fun ad e => ⟨by have := (hA1 ad e).2; have := g3.size; omega, by intro q; have := (hA1 ad e).1; have := I1.r.lt; have q := Option.some.inj q; omega⟩)
            clear I2 X2 rB2 r2 t3 X3 rr3 rB3 r3 r4 x1
            go_wp2_with fail
            go_loopw [12] (fun i wx => ∃ (q nd : Nat), q ≤ l.length ∧ i = .int .i64 q ∧ wx = w4.drewN nd) (fun i _ => l.length - (intOf i).toNat)
            case atStart => exact ⟨0, 0, Nat.zero_le _, rfl, rfl⟩
            case round =>
              obtain ⟨q, nd, hq, rfl, rfl⟩ := hrel
              by_cases hql : q < l.length
              · have x1 := X4.c1
                obtain ⟨aB, hB1, cB0⟩ := rB4.2.2 (by omega)
                obtain ⟨aA, hA2, cA0⟩ := rA4.2.2 (by omega)
                have cB := cB0 q hql
                have cA := cA0 q hql
                generalize l.getD q 0 = z at cA cB
                clear cB0 cA0
                subst hB1
                subst hA2
                have i1 : (0 : Int) ≤ (q : Int) := by omega
                have i2 : (q : Int) < (l.length : Int) := by omega
                go_wp2_with fail
                go_quiet (fail)
                go_wp2_with fail
                go_roundw
                case rel => exact ⟨q + 1, _, by omega, by go_num, rfl⟩
                case measure => simp [intOf]; omega
              · have I5 := I4.drewN nd
                clear X4 rB4 rA4
                cases has
                all_goals
                  go_wp2_with fail
                  refine (last_any gt _ last _ I5.t).mono ?_
                  rintro e w' ⟨rfl, rfl⟩
                  have r0 := I5.r.c0
                  have r1 := I5.r.c1
                  go_wp2_with fail
                  go_roundw
                  case rel => exact ⟨k + 1, gt, _, last, by omega, by go_num, rfl, I5⟩
                  case measure => simp [intOf]; omega
        · have k0b : (kd == 0) = false := beq_eq_false_iff_ne.mpr k0
          clear k0
          by_cases k1 : kd = 1
          · subst k1
            go_wp2_with fail
            refine (took_any gt _ _ n _ I1.t).mono ?_
            rintro e w2 ⟨rfl, t2, g2⟩
            have X2 := X1.kept g2 (by intro e; have := Option.some.inj e; omega)
            have r2 := I1.r.kept g2 (by intro e; exact I1.ne (Option.some.inj e).symm)
            have b2 := I1.bl.grown g2 I1.bl.size (by intro k e; cases e; exact I1.t0)
            have z2 := X2.c2
            have f0 := r2.fz 0
            have f1 := r2.fz 1
            have q0 := r2.c0
            have q1 := r2.c1
            go_upto_region 30 with (fail)
            have hg3 := (grown_setCell w2 ⟨w1.heap.size, 0, none⟩ (.int .i64 n)).trans (grown_setCell _ ⟨w1.heap.size, 1, none⟩ (.bool true))
            have IX : PInv w ((w2.setCell ⟨w1.heap.size, 0, none⟩ (.int .i64 n)).setCell ⟨w1.heap.size, 1, none⟩ (.bool true)) gt w1.heap.size true n :=
              ⟨t2.kept hg3 (by intro e; exact I1.ne (Option.some.inj e)), r2.take n, I1.ne, I1.t0, I1.r0, b2.grown hg3 b2.size (by intro k e; cases e; exact I1.r0)⟩
            generalize (w2.setCell ⟨w1.heap.size, 0, none⟩ (.int .i64 n)).setCell ⟨w1.heap.size, 1, none⟩ (.bool true) = W3 at *
            clear f0 f1 q0 q1 hg3 z2
            go_wp2_with fail
            refine (last_any gt _ _ _ IX.t).mono ?_
            rintro e w' ⟨rfl, rfl⟩
            have r0 := IX.r.c0
            have r1 := IX.r.c1
            go_wp2_with fail
            go_roundw
            case rel => exact ⟨k + 1, gt, true, n, by omega, by go_num, rfl, IX⟩
            case measure => simp [intOf]; omega
          · have k1b : (kd == 1) = false := beq_eq_false_iff_ne.mpr k1
            clear k1
            go_wp2_with fail
            refine (copy_any gt _ _ _ I1.t).mono ?_
            rintro e w2 ⟨g', rfl, hg', t2, g2⟩
            have X2 := X1.kept g2 (by simp)
            have z2 := X2.c2
            have I2 := I1.step g2 (by simp) (by simp) (by simp)
            go_wp2_with fail
            refine (took_any gt _ _ n _ I2.t).mono ?_
            rintro e w3 ⟨rfl, t3, g3⟩
            have hw1 := I1.t.lt
            have hw1r := I1.r.lt
            have IX : PInv w w3 g' w1.heap.size has last := ⟨t2.kept g3 (by intro e; have := Option.some.inj e; omega), I2.r.kept g3 (by intro e; exact I2.ne (Option.some.inj e).symm), by omega, by have := I1.bl.size; omega, I2.r0, I2.bl.grown g3 I2.bl.size (by intro k e; cases e; exact I2.t0)⟩
            clear z2
            cases has
            all_goals
              go_wp2_with fail
              refine (last_any g' _ _ _ IX.t).mono ?_
              rintro e w' ⟨rfl, rfl⟩
              have r0 := IX.r.c0
              have r1 := IX.r.c1
              go_wp2_with fail
              go_roundw
              case rel => exact ⟨k + 1, g', _, last, by omega, by go_num, rfl, IX⟩
              case measure => simp [intOf]; omega
    · have hex : (k : Nat) < len ∨ ¬ (k : Nat) < len := by omega
      have hx60 : m = len ∨ (m = 60 ∧ k = 60) := by omega
      rcases hx60 with rfl | ⟨rfl, rfl⟩
      · have c1 : ¬ k < m := hlt
        go_wp2_with fail
        refine (known_any _).mono ?_
        rintro e w' ⟨rfl, hb⟩
        go_wp2_with fail
        go_ret
        exact ⟨rfl, hinv.bl.trans (hb.mono hinv.bl.size)⟩
      · rcases hex with hex | hex
        all_goals
          go_wp2_with fail
          refine (known_any _).mono ?_
          rintro e w' ⟨rfl, hb⟩
          go_wp2_with fail
          go_ret
          exact ⟨rfl, hinv.bl.trans (hb.mono hinv.bl.size)⟩

theorem opens_op {H : Type} (enc : TypeId × Value → H) (w : World) : Opens enc Try.prog w 38 kop (fun x => (Lit.int .i64 x.kind).wf = true ∧ (x.l.length ≤ maxLen ∧ ∀ a ∈ x.l, (Lit.int .i64 a).wf = true) ∧ (Lit.int .i64 x.n).wf = true) :=
  Opens.iso (Opens.struct Try.underlying38 (by kernel_rfl) (OpensF.cons rfl (by kernel_rfl) (Opens.int Try.underlying3) (OpensF.cons rfl (by kernel_rfl) (Opens.slice Try.underlying25 (by kernel_rfl) (Opens.int Try.underlying3)) (OpensF.last rfl (by kernel_rfl) (Opens.int Try.underlying3)))))
    (fun x : OpT => (x.kind, x.l, x.n)) (fun t => ⟨t.1, t.2.1, t.2.2⟩) (fun _ => rfl)
def OpsB (l : List OpT) : Prop := l.length ≤ maxLen ∧ ∀ x ∈ l, (Lit.int .i64 x.kind).wf = true ∧ (x.l.length ≤ maxLen ∧ ∀ a ∈ x.l, (Lit.int .i64 a).wf = true) ∧ (Lit.int .i64 x.n).wf = true
theorem opens_ops {H : Type} (enc : TypeId × Value → H) (w : World) : Opens enc Try.prog w 33 (Kd.slice 38 kop) OpsB := Opens.slice (H := H) (enc := enc) (w := w) Try.underlying33 (by kernel_rfl) (opens_op enc w)
theorem plays_row (A : Option Addr) (len cap : Nat) (xs : List OpT) (w : World) (h : Kd.C kop w A len xs) (_ : OpsB xs) :
    Calls Try.prog 5 #[.slice A len cap] w fun e w' => e = .returned (.bool true) ∧ Below w.heap.size w w' := plays_walk A len cap xs w h
end Go.Proofs.Ytpicniagafkjaaa
