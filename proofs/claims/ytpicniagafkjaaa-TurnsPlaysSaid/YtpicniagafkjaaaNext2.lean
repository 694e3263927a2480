/- The walk over turns.Next: the end behind the loop, and the whole, for every object that New made and whatever is ready. -/
import Derived.Test.YtpicniagafkjaaaNext
set_option linter.unusedVariables false
set_option linter.unusedSimpArgs false
namespace Go.Proofs.Ytpicniagafkjaaa
open Go.RowKit Go.Conc Go.Proofs.YtpicniagafkjaaaW.PrintWords

noncomputable def endCode : Code := sndSeq restCode

/-- What Next leaves. -/
def NextPost (has : Bool) (last : Int) (l : List Int) (g : Nat) (w0 : World) (e : Ending) (w' : World) : Prop :=
  w0.grownBy w' (some g) ∧
  match nextOf has last l with
  | none => e = .returned (.tuple #[.int .i64 0, .bool false]) ∧ TW w' g true has last
  | some n => e = .returned (.tuple #[.int .i64 n, .bool true]) ∧ TW w' g true true n

theorem grown_below {w0 w : World} (g : Nat) (hb : Below w0.heap.size w0 w) : w0.grownBy w (some g) :=
  ⟨hb.os, hb.tape, hb.output, hb.size, fun i hi _ => hb.block i hi⟩

set_option maxHeartbeats 400000 in
set_option maxRecDepth 100000 in
theorem end_above (g : Nat) (has : Bool) (last n : Int) (A : Value) (l : List Int) (w0 w : World) (ht : TW w0 g true has last)
    (ca ct : Nat) (hne : ca ≠ ct) (ha : w0.heap.size ≤ ca) (hb : w0.heap.size ≤ ct) (hl : LoopEnd has last l ca ct w0 w) (hn : foldBest (aboveOf has last l) = some n) (j2 j3 j4 j5 j8 j9 j10 j11 j12 j13 j14 j15 j16 : Value)
    (j17 j18 j19 j20 j21 j22 j23 j24 j25 j26 j27 j28 j29 j30 j31 j32 j33 j34 j35 j36 j37 j38 j39 j40 j41 j42 j43 j44 j45 j46 j47 j48 j49 j50 j51 j52 j53 j54 j55 j56 j57 j58 j59 : Value) :
    WpN Try.prog endCode (bodyPost Try.prog Try.f9 (NextPost has last l g w0)) ⟨#[.pointer (some ⟨g, 0, none⟩), A, j2, j3, j4, j5, .chan (some ca), .chan (some ct), j8, j9, j10, j11, j12, j13, j14, j15, j16,
      j17, j18, j19, j20, j21, j22, j23, j24, j25, j26, j27, j28, j29, j30, j31, j32, j33, j34, j35, j36, j37, j38, j39, j40, j41, j42, j43, j44, j45, j46, j47, j48, j49, j50, j51, j52, j53, j54, j55, j56, j57, j58, j59], []⟩ w := by
  conv => arg 2; whnf
  obtain ⟨s, r, hca⟩ := hl.1
  rw [hn] at hca
  change w.heap[ca]? = some (.chan 1 #[.int .i64 n] false s r false) at hca
  refine WpN.seq_k (fun K hK => ?_)
  refine WpN.seq_p (fun K2 hK2 => ?_)
  go_wp2
  refine WpN.seq_k (fun K3 hK3 => ?_)
  refine WpN.of_lone (fun b k cs hk => ?_)
  refine LoneTo.goes (n := 19) ?_
  s_reg
  s_stop
  refine LoneTo.step (step_lone_select_recv_buf (c := ca) (z := .int .i64 0) (cap := 1) (buf := #[.int .i64 n]) (closed := false) (s := s) (r := r) (tm := false) (stepG_comm (cases := #[rcase ca (.int .i64 0)]) (blocking := false) (shape := .select) (w' := w) rfl rfl hk (by simp [go_sem, execOp, rcase, Act.eval])) hca (by simp)) ?_
  rw [Frame.finish_at]
  walk_nrm
  refine LoneTo.goes (n := 19) ?_
  s_in; refine goes_oper_k rfl rfl hk (fun K hK => ?_); go_simp; refine hK _ _ ⟨trivial, ?_⟩; clear hK K
  s_in; refine goes_oper_k rfl rfl hk (fun K hK => ?_); go_simp; refine hK _ _ ⟨trivial, ?_⟩; clear hK K
  s_c stepG_region_end
  s_stop
  refine LoneTo.done ⟨_, rfl, ?_⟩
  simp only [Exit.then]
  refine hK3 _ _ ?_
  clear hK3 K3
  refine WpN.block ?_
  refine WpN.of_wp ?_
  have lg := ht.lt
  have htw : TW (w.setChan ca 1 #[] false s (r + 1) false) g true has last := by
    have : TW w g true has last := (hl.2.2.block g lg).trans ht
    exact this.kept (grownBy_setChan _ _ _ _ _ _ _ _) (by intro e; have := Option.some.inj e; omega)
  have hgw : w0.grownBy (w.setChan ca 1 #[] false s (r + 1) false) (some g) := grown_below g (below_setChan hl.2.2 ha _ _ _ _ _ _)
  have HN := Lib.hid hn
  clear hn
  go_wp2_with (first | (go_at_call 8; refine (took_any g has last n _ htw).mono ?_; rintro e w1 ⟨rfl, q1, q2⟩))
  go_ret2
  unfold NextPost nextOf
  rw [HN.out]
  exact ⟨hgw.trans q2, rfl, q1⟩

set_option maxHeartbeats 400000 in
set_option maxRecDepth 100000 in
theorem end_all (g : Nat) (has : Bool) (last n : Int) (A : Value) (l : List Int) (w0 w : World) (ht : TW w0 g true has last)
    (ca ct : Nat) (hne : ca ≠ ct) (ha : w0.heap.size ≤ ca) (hb : w0.heap.size ≤ ct) (hl : LoopEnd has last l ca ct w0 w) (ha0 : foldBest (aboveOf has last l) = none) (hn : foldBest l = some n) (j2 j3 j4 j5 j8 j9 j10 j11 j12 j13 j14 j15 j16 : Value)
    (j17 j18 j19 j20 j21 j22 j23 j24 j25 j26 j27 j28 j29 j30 j31 j32 j33 j34 j35 j36 j37 j38 j39 j40 j41 j42 j43 j44 j45 j46 j47 j48 j49 j50 j51 j52 j53 j54 j55 j56 j57 j58 j59 : Value) :
    WpN Try.prog endCode (bodyPost Try.prog Try.f9 (NextPost has last l g w0)) ⟨#[.pointer (some ⟨g, 0, none⟩), A, j2, j3, j4, j5, .chan (some ca), .chan (some ct), j8, j9, j10, j11, j12, j13, j14, j15, j16,
      j17, j18, j19, j20, j21, j22, j23, j24, j25, j26, j27, j28, j29, j30, j31, j32, j33, j34, j35, j36, j37, j38, j39, j40, j41, j42, j43, j44, j45, j46, j47, j48, j49, j50, j51, j52, j53, j54, j55, j56, j57, j58, j59], []⟩ w := by
  conv => arg 2; whnf
  have hp := hl.1
  rw [ha0] at hp
  obtain ⟨s, r, hp⟩ := hp
  have hc : w.heap[ca]? = some (.chan 1 #[] false s r false) := hp
  have lg := ht.lt
  have HA := Lib.hid ha0
  clear ha0
  refine WpN.seq_k (fun K hK => ?_)
  refine WpN.seq_p (fun K2 hK2 => ?_)
  go_wp2
  refine WpN.seq_k (fun K3 hK3 => ?_)
  refine WpN.of_lone (fun b k cs hk => ?_)
  refine LoneTo.goes (n := 19) ?_
  s_reg
  s_stop
  refine LoneTo.step (step_lone_select_default (c := ca) (z := .int .i64 0) (cap := 1) (s := s) (r := r) (tm := false) (stepG_comm (cases := #[rcase ca (.int .i64 0)]) (blocking := false) (shape := .select) (w' := w) rfl rfl hk (by simp [go_sem, execOp, rcase, Act.eval])) hc) ?_
  rw [Frame.finish_at]
  walk_nrm
  refine LoneTo.goes (n := 19) ?_
  s_in; refine goes_oper_k rfl rfl hk (fun K hK => ?_); go_simp; refine hK _ _ ⟨trivial, ?_⟩; clear hK K
  s_in; refine goes_oper_k rfl rfl hk (fun K hK => ?_); go_simp; refine hK _ _ ⟨trivial, ?_⟩; clear hK K
  s_c stepG_region_end
  s_stop
  refine LoneTo.done ⟨_, rfl, ?_⟩
  simp only [Exit.then]
  refine hK3 _ _ ?_
  clear hK3 K3
  refine WpN.block ?_
  refine WpN.cond (t := false) rfl ?_
  refine WpN.of_wp ?_
  go_wp2
  clear hc hp s r
  have hp := hl.2.1
  rw [hn] at hp
  obtain ⟨s, r, hp⟩ := hp
  have hc : w.heap[ct]? = some (.chan 1 #[.int .i64 n] false s r false) := hp
  refine WpN.seq_p (fun K2 hK2 => ?_)
  go_wp2
  refine WpN.seq_k (fun K3 hK3 => ?_)
  refine WpN.of_lone (fun b k cs hk => ?_)
  refine LoneTo.goes (n := 19) ?_
  s_reg
  s_stop
  refine LoneTo.step (step_lone_select_recv_buf (c := ct) (z := .int .i64 0) (cap := 1) (buf := #[.int .i64 n]) (closed := false) (s := s) (r := r) (tm := false) (stepG_comm (cases := #[rcase ct (.int .i64 0)]) (blocking := false) (shape := .select) (w' := w) rfl rfl hk (by simp [go_sem, execOp, rcase, Act.eval])) hc (by simp)) ?_
  rw [Frame.finish_at]
  walk_nrm
  refine LoneTo.goes (n := 19) ?_
  s_in; refine goes_oper_k rfl rfl hk (fun K hK => ?_); go_simp; refine hK _ _ ⟨trivial, ?_⟩; clear hK K
  s_in; refine goes_oper_k rfl rfl hk (fun K hK => ?_); go_simp; refine hK _ _ ⟨trivial, ?_⟩; clear hK K
  s_c stepG_region_end
  s_stop
  refine LoneTo.done ⟨_, rfl, ?_⟩
  simp only [Exit.then]
  refine hK3 _ _ ?_
  clear hK3 K3
  refine WpN.block ?_
  refine WpN.of_wp ?_
  have htw : TW (w.setChan ct 1 #[] false s (r + 1) false) g true has last := by
    have : TW w g true has last := (hl.2.2.block g lg).trans ht
    exact this.kept (grownBy_setChan _ _ _ _ _ _ _ _) (by intro e; have := Option.some.inj e; omega)
  have hgw : w0.grownBy (w.setChan ct 1 #[] false s (r + 1) false) (some g) := grown_below g (below_setChan hl.2.2 hb _ _ _ _ _ _)
  have HN := Lib.hid hn
  clear hn
  go_wp2_with (first | (go_at_call 8; refine (took_any g has last n _ htw).mono ?_; rintro e w1 ⟨rfl, q1, q2⟩))
  go_ret2
  unfold NextPost nextOf
  rw [HA.out, HN.out]
  exact ⟨hgw.trans q2, rfl, q1⟩

set_option maxHeartbeats 400000 in
set_option maxRecDepth 100000 in
theorem end_none (g : Nat) (has : Bool) (last : Int) (A : Value) (l : List Int) (w0 w : World) (ht : TW w0 g true has last)
    (ca ct : Nat) (hne : ca ≠ ct) (ha : w0.heap.size ≤ ca) (hb : w0.heap.size ≤ ct) (hl : LoopEnd has last l ca ct w0 w) (ha0 : foldBest (aboveOf has last l) = none) (hn : foldBest l = none) (j2 j3 j4 j5 j8 j9 j10 j11 j12 j13 j14 j15 j16 : Value)
    (j17 j18 j19 j20 j21 j22 j23 j24 j25 j26 j27 j28 j29 j30 j31 j32 j33 j34 j35 j36 j37 j38 j39 j40 j41 j42 j43 j44 j45 j46 j47 j48 j49 j50 j51 j52 j53 j54 j55 j56 j57 j58 j59 : Value) :
    WpN Try.prog endCode (bodyPost Try.prog Try.f9 (NextPost has last l g w0)) ⟨#[.pointer (some ⟨g, 0, none⟩), A, j2, j3, j4, j5, .chan (some ca), .chan (some ct), j8, j9, j10, j11, j12, j13, j14, j15, j16,
      j17, j18, j19, j20, j21, j22, j23, j24, j25, j26, j27, j28, j29, j30, j31, j32, j33, j34, j35, j36, j37, j38, j39, j40, j41, j42, j43, j44, j45, j46, j47, j48, j49, j50, j51, j52, j53, j54, j55, j56, j57, j58, j59], []⟩ w := by
  conv => arg 2; whnf
  have hp := hl.1
  rw [ha0] at hp
  obtain ⟨s, r, hp⟩ := hp
  have hc : w.heap[ca]? = some (.chan 1 #[] false s r false) := hp
  have lg := ht.lt
  have HA := Lib.hid ha0
  clear ha0
  refine WpN.seq_k (fun K hK => ?_)
  refine WpN.seq_p (fun K2 hK2 => ?_)
  go_wp2
  refine WpN.seq_k (fun K3 hK3 => ?_)
  refine WpN.of_lone (fun b k cs hk => ?_)
  refine LoneTo.goes (n := 19) ?_
  s_reg
  s_stop
  refine LoneTo.step (step_lone_select_default (c := ca) (z := .int .i64 0) (cap := 1) (s := s) (r := r) (tm := false) (stepG_comm (cases := #[rcase ca (.int .i64 0)]) (blocking := false) (shape := .select) (w' := w) rfl rfl hk (by simp [go_sem, execOp, rcase, Act.eval])) hc) ?_
  rw [Frame.finish_at]
  walk_nrm
  refine LoneTo.goes (n := 19) ?_
  s_in; refine goes_oper_k rfl rfl hk (fun K hK => ?_); go_simp; refine hK _ _ ⟨trivial, ?_⟩; clear hK K
  s_in; refine goes_oper_k rfl rfl hk (fun K hK => ?_); go_simp; refine hK _ _ ⟨trivial, ?_⟩; clear hK K
  s_c stepG_region_end
  s_stop
  refine LoneTo.done ⟨_, rfl, ?_⟩
  simp only [Exit.then]
  refine hK3 _ _ ?_
  clear hK3 K3
  refine WpN.block ?_
  refine WpN.cond (t := false) rfl ?_
  refine WpN.of_wp ?_
  go_wp2
  clear hc hp s r
  have hp := hl.2.1
  rw [hn] at hp
  obtain ⟨s, r, hp⟩ := hp
  have hc : w.heap[ct]? = some (.chan 1 #[] false s r false) := hp
  refine WpN.seq_p (fun K2 hK2 => ?_)
  go_wp2
  refine WpN.seq_k (fun K3 hK3 => ?_)
  refine WpN.of_lone (fun b k cs hk => ?_)
  refine LoneTo.goes (n := 19) ?_
  s_reg
  s_stop
  refine LoneTo.step (step_lone_select_default (c := ct) (z := .int .i64 0) (cap := 1) (s := s) (r := r) (tm := false) (stepG_comm (cases := #[rcase ct (.int .i64 0)]) (blocking := false) (shape := .select) (w' := w) rfl rfl hk (by simp [go_sem, execOp, rcase, Act.eval])) hc) ?_
  rw [Frame.finish_at]
  walk_nrm
  refine LoneTo.goes (n := 19) ?_
  s_in; refine goes_oper_k rfl rfl hk (fun K hK => ?_); go_simp; refine hK _ _ ⟨trivial, ?_⟩; clear hK K
  s_in; refine goes_oper_k rfl rfl hk (fun K hK => ?_); go_simp; refine hK _ _ ⟨trivial, ?_⟩; clear hK K
  s_c stepG_region_end
  s_stop
  refine LoneTo.done ⟨_, rfl, ?_⟩
  simp only [Exit.then]
  refine hK3 _ _ ?_
  clear hK3 K3
  refine WpN.block ?_
  refine WpN.of_wp ?_
  have htw : TW w g true has last := (hl.2.2.block g lg).trans ht
  have hgw : w0.grownBy w (some g) := grown_below g hl.2.2
  have HN := Lib.hid hn
  clear hn
  go_wp2
  go_ret2
  unfold NextPost nextOf
  rw [HA.out, HN.out]
  exact ⟨hgw, rfl, htw⟩

theorem chan_new (w : World) : ChanIs (w.alloc (.chan 1 #[] false 0 0 false)) w.heap.size none := ⟨0, 0, heap_alloc_new _ _⟩
theorem loop_start (has : Bool) (last : Int) (w : World) :
    LoopEnd has last [] w.heap.size (w.heap.size + 1) w ((w.alloc (.chan 1 #[] false 0 0 false)).alloc (.chan 1 #[] false 0 0 false)).drew ∧
    LoopEnd has last [] (w.heap.size + 1) w.heap.size w ((w.alloc (.chan 1 #[] false 0 0 false)).alloc (.chan 1 #[] false 0 0 false)).drew := by
  have h0 : ChanIs ((w.alloc (.chan 1 #[] false 0 0 false)).alloc (.chan 1 #[] false 0 0 false)).drew w.heap.size none :=
    ⟨0, 0, ((World.grownBy_alloc (w.alloc (.chan 1 #[] false 0 0 false)) (.chan 1 #[] false 0 0 false) none).block w.heap.size (by simp) (by simp)).trans (heap_alloc_new _ _)⟩
  have h1 : ChanIs ((w.alloc (.chan 1 #[] false 0 0 false)).alloc (.chan 1 #[] false 0 0 false)).drew (w.heap.size + 1) none := by
    have := heap_alloc_new (w.alloc (.chan 1 #[] false 0 0 false)) (.chan 1 #[] false 0 0 false)
    rw [World.size_alloc] at this
    exact ⟨0, 0, this⟩
  have hb : Below w.heap.size w ((w.alloc (.chan 1 #[] false 0 0 false)).alloc (.chan 1 #[] false 0 0 false)).drew :=
    (((Below.refl _ w).alloc (Nat.le_refl _) _).alloc (by simp) _).drew
  exact ⟨⟨h0, h1, hb⟩, ⟨h1, h0, hb⟩⟩

theorem rest_any (g : Nat) (has : Bool) (last : Int) (A : Option Addr) (cap : Nat) (l : List Int) (w0 w : World) (ht : TW w0 g true has last) (hr : ReadsInt w0 .i64 A l.length l)
    (ca ct : Nat) (hne : ca ≠ ct) (ha : w0.heap.size ≤ ca) (hb : w0.heap.size ≤ ct) (hl : LoopEnd has last [] ca ct w0 w) (j2 j3 j4 j5 j8 j9 j10 j11 j12 j13 j14 j15 j16 : Value)
    (j17 j18 j19 j20 j21 j22 j23 j24 j25 j26 j27 j28 j29 j30 j31 j32 j33 j34 j35 j36 j37 j38 j39 j40 j41 j42 j43 j44 j45 j46 j47 j48 j49 j50 j51 j52 j53 j54 j55 j56 j57 j58 j59 : Value) :
    WpN Try.prog restCode (bodyPost Try.prog Try.f9 (NextPost has last l g w0)) ⟨#[.pointer (some ⟨g, 0, none⟩), .slice A l.length cap, j2, j3, j4, j5, .chan (some ca), .chan (some ct), j8, j9, j10, j11, j12, j13, j14, j15, j16,
      j17, j18, j19, j20, j21, j22, j23, j24, j25, j26, j27, j28, j29, j30, j31, j32, j33, j34, j35, j36, j37, j38, j39, j40, j41, j42, j43, j44, j45, j46, j47, j48, j49, j50, j51, j52, j53, j54, j55, j56, j57, j58, j59], []⟩ w := by
  have e : restCode = Code.seq loopCode endCode := rfl
  rw [e]
  refine WpN.seq (.of_wp ?_)
  refine loop_any g has last A cap l w0 w ht hr ca ct hne ha hb hl _ j2 j3 j4 j5 j8 j9 j10 j11 j12 j13 j14 j15 j16 j17 j18 j19 j20 j21 j22 j23 j24 j25 j26 j27 j28 j29 j30 j31 j32 j33 j34 j35 j36 j37 j38 j39 j40 j41 j42 j43 j44 j45 j46 j47 j48 j49 j50 j51 j52 j53 j54 j55 j56 j57 j58 j59 ?_
  intro w' hw' k9 k17 k18 k19 k20 k21 k22 k23 k24 k25 k26 k27 k28 k29 k30 k31 k32 k33 k34 k35 k36 k37 k38 k39 k40 k41
  cases ha0 : foldBest (aboveOf has last l) with
  | some n => exact end_above g has last n _ l w0 w' ht ca ct hne ha hb hw' ha0 _ _ _ _ _ _ _ _ _ _ _ _ _ _ _ _ _ _ _ _ _ _ _ _ _ _ _ _ _ _ _ _ _ _ _ _ _ _ _ _ _ _ _ _ _ _ _ _ _ _ _ _ _ _ _ _
  | none =>
    cases hn : foldBest l with
    | some n => exact end_all g has last n _ l w0 w' ht ca ct hne ha hb hw' ha0 hn _ _ _ _ _ _ _ _ _ _ _ _ _ _ _ _ _ _ _ _ _ _ _ _ _ _ _ _ _ _ _ _ _ _ _ _ _ _ _ _ _ _ _ _ _ _ _ _ _ _ _ _ _ _ _ _
    | none => exact end_none g has last _ l w0 w' ht ca ct hne ha hb hw' ha0 hn _ _ _ _ _ _ _ _ _ _ _ _ _ _ _ _ _ _ _ _ _ _ _ _ _ _ _ _ _ _ _ _ _ _ _ _ _ _ _ _ _ _ _ _ _ _ _ _ _ _ _ _ _ _ _ _

set_option maxHeartbeats 400000 in
set_option maxRecDepth 100000 in
/-- Next, of an object that New made. -/
theorem next_any (g : Nat) (has : Bool) (last : Int) (A : Option Addr) (cap : Nat) (l : List Int) (w : World) (ht : TW w g true has last) (hr : ReadsInt w .i64 A l.length l) :
    Calls Try.prog 9 #[.pointer (some ⟨g, 0, none⟩), .slice A l.length cap] w (NextPost has last l g w) := by
  have h0 := ht.c0
  have hmc := mk1
  have hs := loop_start has last w
  refine calls_of_wpN Try.func9 rfl ?_
  simp only [Try.ntmps9, List.size_toArray, List.length_cons, List.length_nil, Nat.reduceAdd, Nat.reduceSub, Array.replicate_succ,
     Array.replicate_zero, List.push_toArray, List.append_toArray, List.nil_append, List.cons_append]
  refine WpN.seq_p (fun K hK => ?_)
  go_wp2
  refine WpN.seq_p (fun K hK => ?_)
  go_wp2_with (first | (go_at_call 14; refine (there_any g true _ h0).mono ?_; rintro e w' ⟨rfl, rfl⟩))
  refine WpN.seq_p (fun K hK => ?_)
  go_region
  · simp only [Exit.then]
    refine hK _ _ ?_
    exact rest_any g has last A cap l w _ ht hr _ _ (by omega) (by omega) (by omega) hs.1 _ _ _ _ _ _ _ _ _ _ _ _ _ _ _ _ _ _ _ _ _ _ _ _ _ _ _ _ _ _ _ _ _ _ _ _ _ _ _ _ _ _ _ _ _ _ _ _ _ _ _ _ _ _ _ _
  · simp only [Exit.then]
    refine hK _ _ ?_
    exact rest_any g has last A cap l w _ ht hr _ _ (by omega) (by omega) (by omega) hs.2 _ _ _ _ _ _ _ _ _ _ _ _ _ _ _ _ _ _ _ _ _ _ _ _ _ _ _ _ _ _ _ _ _ _ _ _ _ _ _ _ _ _ _ _ _ _ _ _ _ _ _ _ _ _ _ _

set_option maxHeartbeats 400000 in
set_option maxRecDepth 100000 in
theorem next_nil (x : Value) (w : World) : Calls Try.prog 9 #[.pointer none, x] w fun e w' => e = .returned (.tuple #[.int .i64 0, .bool false]) ∧ w = w' := by
  go_enter Try.func9, Try.ntmps9
  go_wp2_with (first | (go_at_call 14; refine (there_nil _).mono ?_; rintro e w' ⟨rfl, rfl⟩))
  go_ret2
  exact ⟨rfl, rfl⟩
set_option maxHeartbeats 400000 in
set_option maxRecDepth 100000 in
theorem next_zero (g : Nat) (x : Value) (w : World) (h0 : w.cell? ⟨g, 0, none⟩ = some (.bool false)) : Calls Try.prog 9 #[.pointer (some ⟨g, 0, none⟩), x] w fun e w' => e = .returned (.tuple #[.int .i64 0, .bool false]) ∧ w = w' := by
  go_enter Try.func9, Try.ntmps9
  go_wp2_with (first | (go_at_call 14; refine (there_any g false _ h0).mono ?_; rintro e w' ⟨rfl, rfl⟩))
  go_ret2
  exact ⟨rfl, rfl⟩
end Go.Proofs.Ytpicniagafkjaaa
