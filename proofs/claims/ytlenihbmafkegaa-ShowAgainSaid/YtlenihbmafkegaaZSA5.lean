/- Walks over functions of the program, words for them, and what the functions come to; of each text only what this claim uses; no condition. -/
import Derived.Test.YtlenihbmafkegaaZSA0
import Derived.Test.YtlenihbmafkegaaZSA1
import Derived.Test.YtlenihbmafkegaaZSA2
import Derived.Test.YtlenihbmafkegaaZSA3
import Derived.Test.YtlenihbmafkegaaZSA4
import Derived.Laws.CopyOwn
section
set_option linter.unusedVariables false
set_option linter.unusedSimpArgs false
namespace Go.Proofs.Ytlenihbmafkegaa.Q
open Go Go.RowKit Go.Proofs.YtlenihbmafkegaaW.PrintWords Go.Proofs.YtlenihbmafkegaaW.PrintLast Go.Proofs.YtlenihbmafkegaaW.PrintMore
def ql (F : kz) (k : Nat) (l : List S40) (x0 : Int) (x2 : ByteArray) (x3 : Int) (x4 : ByteArray) (xs : List Int) (out : List S56) : Option (List S56) :=
 (gy.f x0).bind fun s => if s = true then (qc F k l x0 x2 xs out).bind some else (fF.f x0).bind fun e => if e = true then (qo F k l x0 x2 x3 x4 xs out).bind some else (qh F k l x0 x2 x3 x4 xs out).bind some
def rf (F : kz) (k : Nat) (l : List S40) (i : Int) (out : List S56) : Option (List S56) :=
 if 0 ≤ i ∧ i < (l.length : Int) then (bU.f k l i).bind fun xs => ql F k l (au l i).f0 (au l i).f2 (au l i).f3 (au l i).f4 xs out else none
theorem cellW {W : World} {o : Obj} {p : Addr} {v : Value} (h : W.cell? p = some v) : (W.alloc o).cell? p = some v := (World.cell?_alloc_lt W o p (World.block_lt_of_cell? _ _ h)).trans h
theorem RI.ofR {W : World} {base : Nat} {ok : Nat → Prop} {A : Option Addr} {n c : Nat} {xs : List Int} (h : Kd.R (Kd.int .i64) 3 W base ok (.slice A n c) xs) : RI (Kd.int .i64) 3 W A xs := by
 refine ⟨(Kd.aI h).2.2, fun hn => ?_⟩
 obtain ⟨g, cap, e, _, _, cells, hc⟩ := Kd.Ip h hn
 cases e
 exact ⟨_, cells, rfl, hc⟩
/-- A whole node is written into a box of its own. -/
theorem Ws.row {w0 w W : World} {g : Nat} {l : List S40} {out : List S56} {is ss} (h : Ws w0 w W g l out [] is ss) {gb : Nat} {c c' : Array Value} (hb : W.heap[gb]? = some (.cells c 40 (0, 0))) (hge : w.heap.size ≤ gb) : Ws w0 w (W.setRow gb c') g l out [(gb, c', 40)] is ss := by
 obtain ⟨A0, c0, v, hv⟩ := h.wr
 have hgg : g ≠ gb := fun e => by
  rw [← e, hv.1] at hb
  injection hb with hb
  injection hb with _ hb
  exact absurd hb (by decide)
 have key : ∀ {α : Type} {d : Kd α} {e : Nat} {A : Option Addr} {xs : List α}, e ≠ 40 → (∀ x cs, d.K W x cs → d.K (W.setRow gb c') x cs) → RI d e W A xs → RI d e (W.setRow gb c') A xs := by
  intro α d e A xs he hd ⟨⟨h1, h2, h3⟩, h4⟩
  have hne : ∀ ad cells, W.heap[(ad : Addr).block]? = some (.cells cells e (0, 0)) → ad.block ≠ gb := fun ad cells hc e1 => by
   rw [e1, hb] at hc
   injection hc with hc
   injection hc with _ hc
   exact he hc.symm
  refine ⟨⟨h1, h2, fun hn => ?_⟩, fun hn => ?_⟩
  ·obtain ⟨ad, cells, rfl, hc⟩ := h4 hn
   obtain ⟨ad', e', hr⟩ := h3 hn
   cases e'
   refine ⟨ad, rfl, fun j p hj => ?_⟩
   obtain ⟨cc, h5, h6, h7⟩ := hr j p hj
   exact ⟨cc, h5, hd _ _ h6, fun i u hu => (cell_setRow_other W gb c' _ (by rw [show (ad.add (j * d.sz + i)).block = ad.block by unfold Addr.add; split <;> rfl]; exact hne ad cells hc)).trans (h7 i u hu)⟩
  obtain ⟨ad, cells, rfl, hc⟩ := h4 hn
  exact ⟨ad, cells, rfl, (setRow_other W gb _ c' (hne ad cells hc)).trans hc⟩
 refine ⟨h.z, ⟨A0, c0, v, (setRow_other W gb g c' hgg).trans hv.1, hv.2.1, hv.2.2.1, hv.2.2.2.1, ?_⟩, below_setRow h.below (Nat.le_trans h.z hge) c', ⟨by simpa using h.kt.1, fun k hk hg hc => (setRow_other W gb k c' (by omega)).trans (h.kt.2 k hk hg hc)⟩, fun p hp => ?_, fun p hp => key (by decide) (fun _ _ h => h) (h.i p hp), fun p hp => key (by decide) (fun _ _ h => h) (h.s p hp)⟩
 ·refine Kd.fK (Kd.rX (Kd.lq hv.2.2.2.2) (fun k hk _ => setRow_other W gb k c' (fun e => ?_))) (fun _ _ => trivial)
  obtain ⟨_, _, _, q, hq, cells, hc⟩ := hk
  have : q = 56 := by simpa [show k56.E = [] from rfl] using hq
  subst this
  rw [e, hb] at hc
  injection hc with hc
  injection hc with _ hc
  exact absurd hc (by decide)
 rcases List.mem_cons.1 hp with rfl | hp
 ·exact ⟨setRow_heap W gb c c' _ _ hb, show 40 ≠ 56 by decide, show 40 ≠ 52 by decide⟩
 cases hp
set_option maxHeartbeats 8000000 in
set_option maxRecDepth 100000 in
theorem LZ (F : kz) (HF : jP F) (k g : Nat) (l : List S40) (out r : List S56) (i : Int) (x0 x1 : Int) (x2 : ByteArray) (x3 : Int) (x4 : ByteArray) (xs : List Int) (ad : Addr) (c0 : Nat) (w0 w : World) (HL : ae (Kd.C k40 w0 (some ad) l.length l)) (HLC : ae (l.length ≤ c0)) (HKid : ae (bU.f k l i = some xs)) (p3 : (0 ≤ i) = True) (q3 : (i < (l.length : Int)) = True)
 (HS : Ws w0 w w g l out [] [] []) (hHeld0 : w.cell? ⟨g, 0, none⟩ = some (Value.slice (some ad) l.length c0) ∧ w.cell? (ad.add (i.toNat * 5)) = some (Value.int .i64 x0) ∧ w.cell? ⟨(ad.add (i.toNat * 5)).block, (ad.add (i.toNat * 5)).off + 1, none⟩ = some (Value.int .i64 x1) ∧ w.cell? ⟨(ad.add (i.toNat * 5)).block, (ad.add (i.toNat * 5)).off + 2, none⟩ = some (Value.string x2) ∧ w.cell? ⟨(ad.add (i.toNat * 5)).block, (ad.add (i.toNat * 5)).off + 3, none⟩ = some (Value.int .i64 x3) ∧ w.cell? ⟨(ad.add (i.toNat * 5)).block, (ad.add (i.toNat * 5)).off + 4, none⟩ = some (Value.string x4)) (AS : ae (gy.f x0 = some true)) (H : ae ((qc F k l x0 x2 xs out).bind some = some r)) :
 Calls Try.prog 22 #[.pointer (some ⟨g, 0, none⟩), .int .i64 i] w (kC w0 w g l r) := by
 go_enter Try.func22, Try.ntmps22
 go_wp2
 refine mi (n := 16) (S := fun w' => w'.cell? ⟨g, 0, none⟩ = some (Value.slice (some ad) l.length c0) ∧ w'.cell? (ad.add (i.toNat * 5)) = some (Value.int .i64 x0) ∧ w'.cell? ⟨(ad.add (i.toNat * 5)).block, (ad.add (i.toNat * 5)).off + 1, none⟩ = some (Value.int .i64 x1) ∧ w'.cell? ⟨(ad.add (i.toNat * 5)).block, (ad.add (i.toNat * 5)).off + 2, none⟩ = some (Value.string x2) ∧ w'.cell? ⟨(ad.add (i.toNat * 5)).block, (ad.add (i.toNat * 5)).off + 3, none⟩ = some (Value.int .i64 x3) ∧ w'.cell? ⟨(ad.add (i.toNat * 5)).block, (ad.add (i.toNat * 5)).off + 4, none⟩ = some (Value.string x4)) (ds := [14]) (bQ 16 0) (by kernel_rfl) rfl rfl hHeld0 (fun hHeld => ?_)
 have HS1 := HS.drew
 clear HS hHeld0
 have HS := HS1
 clear HS1
 generalize w.drew = w2 at HS hHeld ⊢
 refine pA 0 6 (bQ 16 1) ?_ (by kernel_rfl)
 refine pA 1 7 (bQ 16 3) ?_ (by kernel_rfl)
 refine pA 2 8 (bQ 16 7) ?_ (by kernel_rfl)
 refine lw (i := 3) (N := some 9) (v := ?_) (a' := ?_) (bQ 16 15) rfl rfl (by kernel_rfl) (fun _ _ _ h => h) (Or.inl ⟨by rfl, ?_⟩) hHeld ?_ ?_
 rotate_left
 ·intro w' hS_
  obtain ⟨s0, s1, s2, s3, s4, s5⟩ := hS_
  go_simp
  with_reducible rfl
 rotate_left
 ·simp only [Act.put, List.setIfInBounds_toArray, List.set_cons_zero, List.set_cons_succ]
  rfl
 refine pA 4 10 (bQ 16 31) ?_ (by kernel_rfl)
 refine pA 5 11 (bQ 16 63) ?_ (by kernel_rfl)
 refine lw (i := 6) (N := some 12) (v := ?_) (a' := ?_) (bQ 16 127) rfl rfl (by kernel_rfl) (fun _ _ _ h => h) (Or.inl ⟨by rfl, ?_⟩) hHeld ?_ ?_
 rotate_left
 ·intro w' hS_
  obtain ⟨s0, s1, s2, s3, s4, s5⟩ := hS_
  go_simp
  with_reducible rfl
 rotate_left
 ·simp only [Act.put, List.setIfInBounds_toArray, List.set_cons_zero, List.set_cons_succ]
  rfl
 refine pA 7 13 (bQ 16 255) ?_ (by kernel_rfl)
 refine pA 8 14 (bQ 16 511) ?_ (by kernel_rfl)
 refine pA 9 15 (bQ 16 1023) ?_ (by kernel_rfl)
 refine lw (i := 10) (N := some 16) (v := ?_) (a' := ?_) (bQ 16 2047) rfl rfl (by kernel_rfl) (fun _ _ _ h => h) (Or.inl ⟨by rfl, ?_⟩) hHeld ?_ ?_
 rotate_left
 ·intro w' hS_
  obtain ⟨s0, s1, s2, s3, s4, s5⟩ := hS_
  go_simp
  with_reducible rfl
 rotate_left
 ·simp only [Act.put, List.setIfInBounds_toArray, List.set_cons_zero, List.set_cons_succ]
  rfl
 refine pA 11 17 (bQ 16 4095) ?_ (by kernel_rfl)
 refine Le (i := 12) (j := 13) (Ni := some 18) (Nj := some 4) (bQ 16 8191) (bQ 16 12287) rfl rfl rfl rfl (by kernel_rfl) (by decide) (by decide) (fun K hK => ?_) (fun K hK => ?_)
 ·refine oI Try.func18 (by kernel_rfl) rfl #[.slice (some ad) l.length c0, .int .i64 i] (by rfl) rfl rfl Z6 ((bU.calls k _ _ l i xs _ (Kd.ik HL.out HS.below) HLC.out HKid.out).mono ?_)
  rintro _ w3 ⟨v2, rfl, ho, hb⟩
  obtain ⟨A2, c2, rfl⟩ := Kd.bY ho
  refine ⟨_, rfl, ?_⟩
  have HN := ae.mk (Kd.aI ho).2.1
  have HS3 := (HS.jT hb).int (RI.ofR ho)
  refine hK.out _ _ ⟨aV hb hHeld.1, aV hb hHeld.2.1, aV hb hHeld.2.2.1, aV hb hHeld.2.2.2.1, aV hb hHeld.2.2.2.2.1, aV hb hHeld.2.2.2.2.2⟩ (fun hHeld => ?_)
  clear hK K
  refine kH (a' := ?_) ?_ ?_
  rotate_left
  ·simp only [Act.put, List.setIfInBounds_toArray, List.set_cons_zero, List.set_cons_succ]
   rfl
  clear HS ho hb
  have HS := HS3
  clear HS3
  refine rO (i := 13) (N := some 4) (bQ 16 16383) rfl rfl (by kernel_rfl) (by decide) (fun K hK => ?_)
  refine rG (by rfl) rfl (by first | (go_simp; done) | (go_simp; rfl) | (go_simp; exact ⟨rfl, rfl⟩)) ?_
  obtain ⟨gx, egx⟩ : ∃ gx, gx = w3.heap.size := ⟨_, rfl⟩
  have HGX := ae.mk (show (w3.alloc (.cells #[.int .i64 0, .int .i64 0, .string (⟨#[]⟩ : ByteArray), .int .i64 0, .string (⟨#[]⟩ : ByteArray)] 40)).heap[gx]? = some (.cells #[.int .i64 0, .int .i64 0, .string (⟨#[]⟩ : ByteArray), .int .i64 0, .string (⟨#[]⟩ : ByteArray)] 40 (0, 0)) from Z21)
  have HGE := ae.mk (show w.heap.size ≤ gx from by rw [egx]; exact HS.kt.1)
  have HS4 := HS.alloc (.cells #[.int .i64 0, .int .i64 0, .string (⟨#[]⟩ : ByteArray), .int .i64 0, .string (⟨#[]⟩ : ByteArray)] 40)
  refine hK.out _ _ ⟨cellW hHeld.1, cellW hHeld.2.1, cellW hHeld.2.2.1, cellW hHeld.2.2.2.1, cellW hHeld.2.2.2.2.1, cellW hHeld.2.2.2.2.2⟩ (fun hHeld => ?_)
  clear hK K
  refine kH (a' := ?_) ?_ ?_
  rotate_left
  ·simp only [Act.put, List.setIfInBounds_toArray, List.set_cons_zero, List.set_cons_succ]
   rfl
  rw [← egx]
  clear HS egx
  have HS := HS4
  clear HS4
  refine wF (i := 14) (N := none) (bQ 16 32767) rfl rfl (by kernel_rfl) (by decide) (fun K hK => ?_)
  rw [if_pos (by rfl)]
  refine wp_store_row 40 (.tmp 4) (.tmp 12) rfl gx #[.int .i64 x0, .int .i64 x1, .string x2, .int .i64 x3, .string x4] rfl rfl 40 #[.int .i64 0, .int .i64 0, .string (⟨#[]⟩ : ByteArray), .int .i64 0, .string (⟨#[]⟩ : ByteArray)] HGX.out (by kernel_rfl) rfl (by simp [Value.oneCell']) ?_
  have HS5 := HS.row (c' := #[.int .i64 x0, .int .i64 x1, .string x2, .int .i64 x3, .string x4]) HGX.out HGE.out
  clear HS HGX HGE
  have HS := HS5
  clear HS5
  refine hK.out _ _ ?_
  clear hK K hHeld
  refine pA 15 5 (bQ 16 65535) ?_ (by kernel_rfl)
  refine nR (by kernel_rfl) ?_
  have hx0 : _ = some (Value.int .i64 x0) := HS.cb (bs := [_]) (b := gx) (.head _) 0
  have hx1 : _ = some (Value.int .i64 x1) := HS.cb (bs := [_]) (b := gx) (.head _) 1
  have hx2 : _ = some (Value.string x2) := HS.cb (bs := [_]) (b := gx) (.head _) 2
  have hx3 : _ = some (Value.int .i64 x3) := HS.cb (bs := [_]) (b := gx) (.head _) 3
  have hx4 : _ = some (Value.string x4) := HS.cb (bs := [_]) (b := gx) (.head _) 4
  go_wp2_with (first | (go_at_call 35; refine (gy.calls x0 true _ AS.out).mono ?_; rintro _ w7 ⟨rfl, ⟨nd, rfl⟩⟩) | (go_at_call 40; refine wCc (wsT HS) H (fun q HS => KA F HF k g l _ q x0 x1 x2 x3 x4 _ _ xs w0 _ HS.wr HS.below (HS.i _ (.head _)) HN.out) ?_; clear HS H; intro q w' HS H; (try dsimp only at H)))
  have h_ := H.out
  cases h_
  go_end0
  exact (wsT HS).back
 refine rG (by rfl) rfl (by first | (go_simp; done) | (go_simp; rfl) | (go_simp; exact ⟨rfl, rfl⟩)) ?_
 obtain ⟨gx, egx⟩ : ∃ gx, gx = w2.heap.size := ⟨_, rfl⟩
 have HGX := ae.mk (show (w2.alloc (.cells #[.int .i64 0, .int .i64 0, .string (⟨#[]⟩ : ByteArray), .int .i64 0, .string (⟨#[]⟩ : ByteArray)] 40)).heap[gx]? = some (.cells #[.int .i64 0, .int .i64 0, .string (⟨#[]⟩ : ByteArray), .int .i64 0, .string (⟨#[]⟩ : ByteArray)] 40 (0, 0)) from Z21)
 have HGE := ae.mk (show w.heap.size ≤ gx from by rw [egx]; exact HS.kt.1)
 have HS4 := HS.alloc (.cells #[.int .i64 0, .int .i64 0, .string (⟨#[]⟩ : ByteArray), .int .i64 0, .string (⟨#[]⟩ : ByteArray)] 40)
 refine hK.out _ _ ⟨cellW hHeld.1, cellW hHeld.2.1, cellW hHeld.2.2.1, cellW hHeld.2.2.2.1, cellW hHeld.2.2.2.2.1, cellW hHeld.2.2.2.2.2⟩ (fun hHeld => ?_)
 clear hK K
 refine kH (a' := ?_) ?_ ?_
 rotate_left
 ·simp only [Act.put, List.setIfInBounds_toArray, List.set_cons_zero, List.set_cons_succ]
  rfl
 rw [← egx]
 clear HS egx
 have HS := HS4
 clear HS4
 refine rO (i := 12) (N := some 18) (bQ 16 16383) rfl rfl (by kernel_rfl) (by decide) (fun K hK => ?_)
 refine oI Try.func18 (by kernel_rfl) rfl #[.slice (some ad) l.length c0, .int .i64 i] (by rfl) rfl rfl Z6 ((bU.calls k _ _ l i xs _ (Kd.ik HL.out HS.below) HLC.out HKid.out).mono ?_)
 rintro _ w3 ⟨v2, rfl, ho, hb⟩
 obtain ⟨A2, c2, rfl⟩ := Kd.bY ho
 refine ⟨_, rfl, ?_⟩
 have HN := ae.mk (Kd.aI ho).2.1
 have HS3 := (HS.jT hb).int (RI.ofR ho)
 refine hK.out _ _ ⟨aV hb hHeld.1, aV hb hHeld.2.1, aV hb hHeld.2.2.1, aV hb hHeld.2.2.2.1, aV hb hHeld.2.2.2.2.1, aV hb hHeld.2.2.2.2.2⟩ (fun hHeld => ?_)
 clear hK K
 refine kH (a' := ?_) ?_ ?_
 rotate_left
 ·simp only [Act.put, List.setIfInBounds_toArray, List.set_cons_zero, List.set_cons_succ]
  rfl
 have HGX1 := ae.mk (eH HGX.out hb)
 clear HS ho hb HGX
 have HS := HS3
 have HGX := HGX1
 clear HS3 HGX1
 refine wF (i := 14) (N := none) (bQ 16 32767) rfl rfl (by kernel_rfl) (by decide) (fun K hK => ?_)
 rw [if_pos (by rfl)]
 refine wp_store_row 40 (.tmp 4) (.tmp 12) rfl gx #[.int .i64 x0, .int .i64 x1, .string x2, .int .i64 x3, .string x4] rfl rfl 40 #[.int .i64 0, .int .i64 0, .string (⟨#[]⟩ : ByteArray), .int .i64 0, .string (⟨#[]⟩ : ByteArray)] HGX.out (by kernel_rfl) rfl (by simp [Value.oneCell']) ?_
 have HS5 := HS.row (c' := #[.int .i64 x0, .int .i64 x1, .string x2, .int .i64 x3, .string x4]) HGX.out HGE.out
 clear HS HGX HGE
 have HS := HS5
 clear HS5
 refine hK.out _ _ ?_
 clear hK K hHeld
 refine pA 15 5 (bQ 16 65535) ?_ (by kernel_rfl)
 refine nR (by kernel_rfl) ?_
 have hx0 : _ = some (Value.int .i64 x0) := HS.cb (bs := [_]) (b := gx) (.head _) 0
 have hx1 : _ = some (Value.int .i64 x1) := HS.cb (bs := [_]) (b := gx) (.head _) 1
 have hx2 : _ = some (Value.string x2) := HS.cb (bs := [_]) (b := gx) (.head _) 2
 have hx3 : _ = some (Value.int .i64 x3) := HS.cb (bs := [_]) (b := gx) (.head _) 3
 have hx4 : _ = some (Value.string x4) := HS.cb (bs := [_]) (b := gx) (.head _) 4
 go_wp2_with (first | (go_at_call 35; refine (gy.calls x0 true _ AS.out).mono ?_; rintro _ w7 ⟨rfl, ⟨nd, rfl⟩⟩) | (go_at_call 40; refine wCc (wsT HS) H (fun q HS => KA F HF k g l _ q x0 x1 x2 x3 x4 _ _ xs w0 _ HS.wr HS.below (HS.i _ (.head _)) HN.out) ?_; clear HS H; intro q w' HS H; (try dsimp only at H)))
 have h_ := H.out
 cases h_
 go_end0
 exact (wsT HS).back
set_option maxHeartbeats 8000000 in
set_option maxRecDepth 100000 in
theorem Md (F : kz) (HF : jP F) (k g : Nat) (l : List S40) (out r : List S56) (i : Int) (x0 x1 : Int) (x2 : ByteArray) (x3 : Int) (x4 : ByteArray) (xs : List Int) (ad : Addr) (c0 : Nat) (w0 w : World) (HL : ae (Kd.C k40 w0 (some ad) l.length l)) (HLC : ae (l.length ≤ c0)) (HKid : ae (bU.f k l i = some xs)) (p3 : (0 ≤ i) = True) (q3 : (i < (l.length : Int)) = True)
 (HS : Ws w0 w w g l out [] [] []) (hHeld0 : w.cell? ⟨g, 0, none⟩ = some (Value.slice (some ad) l.length c0) ∧ w.cell? (ad.add (i.toNat * 5)) = some (Value.int .i64 x0) ∧ w.cell? ⟨(ad.add (i.toNat * 5)).block, (ad.add (i.toNat * 5)).off + 1, none⟩ = some (Value.int .i64 x1) ∧ w.cell? ⟨(ad.add (i.toNat * 5)).block, (ad.add (i.toNat * 5)).off + 2, none⟩ = some (Value.string x2) ∧ w.cell? ⟨(ad.add (i.toNat * 5)).block, (ad.add (i.toNat * 5)).off + 3, none⟩ = some (Value.int .i64 x3) ∧ w.cell? ⟨(ad.add (i.toNat * 5)).block, (ad.add (i.toNat * 5)).off + 4, none⟩ = some (Value.string x4)) (AS : ae (gy.f x0 = some false)) (AE : ae (fF.f x0 = some true)) (H : ae ((qo F k l x0 x2 x3 x4 xs out).bind some = some r)) :
 Calls Try.prog 22 #[.pointer (some ⟨g, 0, none⟩), .int .i64 i] w (kC w0 w g l r) := by
 go_enter Try.func22, Try.ntmps22
 go_wp2
 refine mi (n := 16) (S := fun w' => w'.cell? ⟨g, 0, none⟩ = some (Value.slice (some ad) l.length c0) ∧ w'.cell? (ad.add (i.toNat * 5)) = some (Value.int .i64 x0) ∧ w'.cell? ⟨(ad.add (i.toNat * 5)).block, (ad.add (i.toNat * 5)).off + 1, none⟩ = some (Value.int .i64 x1) ∧ w'.cell? ⟨(ad.add (i.toNat * 5)).block, (ad.add (i.toNat * 5)).off + 2, none⟩ = some (Value.string x2) ∧ w'.cell? ⟨(ad.add (i.toNat * 5)).block, (ad.add (i.toNat * 5)).off + 3, none⟩ = some (Value.int .i64 x3) ∧ w'.cell? ⟨(ad.add (i.toNat * 5)).block, (ad.add (i.toNat * 5)).off + 4, none⟩ = some (Value.string x4)) (ds := [14]) (bQ 16 0) (by kernel_rfl) rfl rfl hHeld0 (fun hHeld => ?_)
 have HS1 := HS.drew
 clear HS hHeld0
 have HS := HS1
 clear HS1
 generalize w.drew = w2 at HS hHeld ⊢
 refine pA 0 6 (bQ 16 1) ?_ (by kernel_rfl)
 refine pA 1 7 (bQ 16 3) ?_ (by kernel_rfl)
 refine pA 2 8 (bQ 16 7) ?_ (by kernel_rfl)
 refine lw (i := 3) (N := some 9) (v := ?_) (a' := ?_) (bQ 16 15) rfl rfl (by kernel_rfl) (fun _ _ _ h => h) (Or.inl ⟨by rfl, ?_⟩) hHeld ?_ ?_
 rotate_left
 ·intro w' hS_
  obtain ⟨s0, s1, s2, s3, s4, s5⟩ := hS_
  go_simp
  with_reducible rfl
 rotate_left
 ·simp only [Act.put, List.setIfInBounds_toArray, List.set_cons_zero, List.set_cons_succ]
  rfl
 refine pA 4 10 (bQ 16 31) ?_ (by kernel_rfl)
 refine pA 5 11 (bQ 16 63) ?_ (by kernel_rfl)
 refine lw (i := 6) (N := some 12) (v := ?_) (a' := ?_) (bQ 16 127) rfl rfl (by kernel_rfl) (fun _ _ _ h => h) (Or.inl ⟨by rfl, ?_⟩) hHeld ?_ ?_
 rotate_left
 ·intro w' hS_
  obtain ⟨s0, s1, s2, s3, s4, s5⟩ := hS_
  go_simp
  with_reducible rfl
 rotate_left
 ·simp only [Act.put, List.setIfInBounds_toArray, List.set_cons_zero, List.set_cons_succ]
  rfl
 refine pA 7 13 (bQ 16 255) ?_ (by kernel_rfl)
 refine pA 8 14 (bQ 16 511) ?_ (by kernel_rfl)
 refine pA 9 15 (bQ 16 1023) ?_ (by kernel_rfl)
 refine lw (i := 10) (N := some 16) (v := ?_) (a' := ?_) (bQ 16 2047) rfl rfl (by kernel_rfl) (fun _ _ _ h => h) (Or.inl ⟨by rfl, ?_⟩) hHeld ?_ ?_
 rotate_left
 ·intro w' hS_
  obtain ⟨s0, s1, s2, s3, s4, s5⟩ := hS_
  go_simp
  with_reducible rfl
 rotate_left
 ·simp only [Act.put, List.setIfInBounds_toArray, List.set_cons_zero, List.set_cons_succ]
  rfl
 refine pA 11 17 (bQ 16 4095) ?_ (by kernel_rfl)
 refine Le (i := 12) (j := 13) (Ni := some 18) (Nj := some 4) (bQ 16 8191) (bQ 16 12287) rfl rfl rfl rfl (by kernel_rfl) (by decide) (by decide) (fun K hK => ?_) (fun K hK => ?_)
 ·refine oI Try.func18 (by kernel_rfl) rfl #[.slice (some ad) l.length c0, .int .i64 i] (by rfl) rfl rfl Z6 ((bU.calls k _ _ l i xs _ (Kd.ik HL.out HS.below) HLC.out HKid.out).mono ?_)
  rintro _ w3 ⟨v2, rfl, ho, hb⟩
  obtain ⟨A2, c2, rfl⟩ := Kd.bY ho
  refine ⟨_, rfl, ?_⟩
  have HN := ae.mk (Kd.aI ho).2.1
  have HS3 := (HS.jT hb).int (RI.ofR ho)
  refine hK.out _ _ ⟨aV hb hHeld.1, aV hb hHeld.2.1, aV hb hHeld.2.2.1, aV hb hHeld.2.2.2.1, aV hb hHeld.2.2.2.2.1, aV hb hHeld.2.2.2.2.2⟩ (fun hHeld => ?_)
  clear hK K
  refine kH (a' := ?_) ?_ ?_
  rotate_left
  ·simp only [Act.put, List.setIfInBounds_toArray, List.set_cons_zero, List.set_cons_succ]
   rfl
  clear HS ho hb
  have HS := HS3
  clear HS3
  refine rO (i := 13) (N := some 4) (bQ 16 16383) rfl rfl (by kernel_rfl) (by decide) (fun K hK => ?_)
  refine rG (by rfl) rfl (by first | (go_simp; done) | (go_simp; rfl) | (go_simp; exact ⟨rfl, rfl⟩)) ?_
  obtain ⟨gx, egx⟩ : ∃ gx, gx = w3.heap.size := ⟨_, rfl⟩
  have HGX := ae.mk (show (w3.alloc (.cells #[.int .i64 0, .int .i64 0, .string (⟨#[]⟩ : ByteArray), .int .i64 0, .string (⟨#[]⟩ : ByteArray)] 40)).heap[gx]? = some (.cells #[.int .i64 0, .int .i64 0, .string (⟨#[]⟩ : ByteArray), .int .i64 0, .string (⟨#[]⟩ : ByteArray)] 40 (0, 0)) from Z21)
  have HGE := ae.mk (show w.heap.size ≤ gx from by rw [egx]; exact HS.kt.1)
  have HS4 := HS.alloc (.cells #[.int .i64 0, .int .i64 0, .string (⟨#[]⟩ : ByteArray), .int .i64 0, .string (⟨#[]⟩ : ByteArray)] 40)
  refine hK.out _ _ ⟨cellW hHeld.1, cellW hHeld.2.1, cellW hHeld.2.2.1, cellW hHeld.2.2.2.1, cellW hHeld.2.2.2.2.1, cellW hHeld.2.2.2.2.2⟩ (fun hHeld => ?_)
  clear hK K
  refine kH (a' := ?_) ?_ ?_
  rotate_left
  ·simp only [Act.put, List.setIfInBounds_toArray, List.set_cons_zero, List.set_cons_succ]
   rfl
  rw [← egx]
  clear HS egx
  have HS := HS4
  clear HS4
  refine wF (i := 14) (N := none) (bQ 16 32767) rfl rfl (by kernel_rfl) (by decide) (fun K hK => ?_)
  rw [if_pos (by rfl)]
  refine wp_store_row 40 (.tmp 4) (.tmp 12) rfl gx #[.int .i64 x0, .int .i64 x1, .string x2, .int .i64 x3, .string x4] rfl rfl 40 #[.int .i64 0, .int .i64 0, .string (⟨#[]⟩ : ByteArray), .int .i64 0, .string (⟨#[]⟩ : ByteArray)] HGX.out (by kernel_rfl) rfl (by simp [Value.oneCell']) ?_
  have HS5 := HS.row (c' := #[.int .i64 x0, .int .i64 x1, .string x2, .int .i64 x3, .string x4]) HGX.out HGE.out
  clear HS HGX HGE
  have HS := HS5
  clear HS5
  refine hK.out _ _ ?_
  clear hK K hHeld
  refine pA 15 5 (bQ 16 65535) ?_ (by kernel_rfl)
  refine nR (by kernel_rfl) ?_
  have hx0 : _ = some (Value.int .i64 x0) := HS.cb (bs := [_]) (b := gx) (.head _) 0
  have hx1 : _ = some (Value.int .i64 x1) := HS.cb (bs := [_]) (b := gx) (.head _) 1
  have hx2 : _ = some (Value.string x2) := HS.cb (bs := [_]) (b := gx) (.head _) 2
  have hx3 : _ = some (Value.int .i64 x3) := HS.cb (bs := [_]) (b := gx) (.head _) 3
  have hx4 : _ = some (Value.string x4) := HS.cb (bs := [_]) (b := gx) (.head _) 4
  go_wp2_with (first | (go_at_call 35; refine (gy.calls x0 false _ AS.out).mono ?_; rintro _ w7 ⟨rfl, ⟨nd, rfl⟩⟩) | (go_at_call 26; refine (fF.calls x0 true _ AE.out).mono ?_; rintro _ w7 ⟨rfl, ⟨nd, rfl⟩⟩) | (go_at_call 41; refine wCc (wsT HS) H (fun q HS => KI F HF k g l _ q x0 x1 x2 x3 x4 _ _ xs w0 _ HS.wr HS.below (HS.i _ (.head _)) HN.out) ?_; clear HS H; intro q w' HS H; (try dsimp only at H)))
  have h_ := H.out
  cases h_
  go_end0
  exact (wsT HS).back
 refine rG (by rfl) rfl (by first | (go_simp; done) | (go_simp; rfl) | (go_simp; exact ⟨rfl, rfl⟩)) ?_
 obtain ⟨gx, egx⟩ : ∃ gx, gx = w2.heap.size := ⟨_, rfl⟩
 have HGX := ae.mk (show (w2.alloc (.cells #[.int .i64 0, .int .i64 0, .string (⟨#[]⟩ : ByteArray), .int .i64 0, .string (⟨#[]⟩ : ByteArray)] 40)).heap[gx]? = some (.cells #[.int .i64 0, .int .i64 0, .string (⟨#[]⟩ : ByteArray), .int .i64 0, .string (⟨#[]⟩ : ByteArray)] 40 (0, 0)) from Z21)
 have HGE := ae.mk (show w.heap.size ≤ gx from by rw [egx]; exact HS.kt.1)
 have HS4 := HS.alloc (.cells #[.int .i64 0, .int .i64 0, .string (⟨#[]⟩ : ByteArray), .int .i64 0, .string (⟨#[]⟩ : ByteArray)] 40)
 refine hK.out _ _ ⟨cellW hHeld.1, cellW hHeld.2.1, cellW hHeld.2.2.1, cellW hHeld.2.2.2.1, cellW hHeld.2.2.2.2.1, cellW hHeld.2.2.2.2.2⟩ (fun hHeld => ?_)
 clear hK K
 refine kH (a' := ?_) ?_ ?_
 rotate_left
 ·simp only [Act.put, List.setIfInBounds_toArray, List.set_cons_zero, List.set_cons_succ]
  rfl
 rw [← egx]
 clear HS egx
 have HS := HS4
 clear HS4
 refine rO (i := 12) (N := some 18) (bQ 16 16383) rfl rfl (by kernel_rfl) (by decide) (fun K hK => ?_)
 refine oI Try.func18 (by kernel_rfl) rfl #[.slice (some ad) l.length c0, .int .i64 i] (by rfl) rfl rfl Z6 ((bU.calls k _ _ l i xs _ (Kd.ik HL.out HS.below) HLC.out HKid.out).mono ?_)
 rintro _ w3 ⟨v2, rfl, ho, hb⟩
 obtain ⟨A2, c2, rfl⟩ := Kd.bY ho
 refine ⟨_, rfl, ?_⟩
 have HN := ae.mk (Kd.aI ho).2.1
 have HS3 := (HS.jT hb).int (RI.ofR ho)
 refine hK.out _ _ ⟨aV hb hHeld.1, aV hb hHeld.2.1, aV hb hHeld.2.2.1, aV hb hHeld.2.2.2.1, aV hb hHeld.2.2.2.2.1, aV hb hHeld.2.2.2.2.2⟩ (fun hHeld => ?_)
 clear hK K
 refine kH (a' := ?_) ?_ ?_
 rotate_left
 ·simp only [Act.put, List.setIfInBounds_toArray, List.set_cons_zero, List.set_cons_succ]
  rfl
 have HGX1 := ae.mk (eH HGX.out hb)
 clear HS ho hb HGX
 have HS := HS3
 have HGX := HGX1
 clear HS3 HGX1
 refine wF (i := 14) (N := none) (bQ 16 32767) rfl rfl (by kernel_rfl) (by decide) (fun K hK => ?_)
 rw [if_pos (by rfl)]
 refine wp_store_row 40 (.tmp 4) (.tmp 12) rfl gx #[.int .i64 x0, .int .i64 x1, .string x2, .int .i64 x3, .string x4] rfl rfl 40 #[.int .i64 0, .int .i64 0, .string (⟨#[]⟩ : ByteArray), .int .i64 0, .string (⟨#[]⟩ : ByteArray)] HGX.out (by kernel_rfl) rfl (by simp [Value.oneCell']) ?_
 have HS5 := HS.row (c' := #[.int .i64 x0, .int .i64 x1, .string x2, .int .i64 x3, .string x4]) HGX.out HGE.out
 clear HS HGX HGE
 have HS := HS5
 clear HS5
 refine hK.out _ _ ?_
 clear hK K hHeld
 refine pA 15 5 (bQ 16 65535) ?_ (by kernel_rfl)
 refine nR (by kernel_rfl) ?_
 have hx0 : _ = some (Value.int .i64 x0) := HS.cb (bs := [_]) (b := gx) (.head _) 0
 have hx1 : _ = some (Value.int .i64 x1) := HS.cb (bs := [_]) (b := gx) (.head _) 1
 have hx2 : _ = some (Value.string x2) := HS.cb (bs := [_]) (b := gx) (.head _) 2
 have hx3 : _ = some (Value.int .i64 x3) := HS.cb (bs := [_]) (b := gx) (.head _) 3
 have hx4 : _ = some (Value.string x4) := HS.cb (bs := [_]) (b := gx) (.head _) 4
 go_wp2_with (first | (go_at_call 35; refine (gy.calls x0 false _ AS.out).mono ?_; rintro _ w7 ⟨rfl, ⟨nd, rfl⟩⟩) | (go_at_call 26; refine (fF.calls x0 true _ AE.out).mono ?_; rintro _ w7 ⟨rfl, ⟨nd, rfl⟩⟩) | (go_at_call 41; refine wCc (wsT HS) H (fun q HS => KI F HF k g l _ q x0 x1 x2 x3 x4 _ _ xs w0 _ HS.wr HS.below (HS.i _ (.head _)) HN.out) ?_; clear HS H; intro q w' HS H; (try dsimp only at H)))
 have h_ := H.out
 cases h_
 go_end0
 exact (wsT HS).back
set_option maxHeartbeats 8000000 in
set_option maxRecDepth 100000 in
theorem Mc (F : kz) (HF : jP F) (k g : Nat) (l : List S40) (out r : List S56) (i : Int) (x0 x1 : Int) (x2 : ByteArray) (x3 : Int) (x4 : ByteArray) (xs : List Int) (ad : Addr) (c0 : Nat) (w0 w : World) (HL : ae (Kd.C k40 w0 (some ad) l.length l)) (HLC : ae (l.length ≤ c0)) (HKid : ae (bU.f k l i = some xs)) (p3 : (0 ≤ i) = True) (q3 : (i < (l.length : Int)) = True)
 (HS : Ws w0 w w g l out [] [] []) (hHeld0 : w.cell? ⟨g, 0, none⟩ = some (Value.slice (some ad) l.length c0) ∧ w.cell? (ad.add (i.toNat * 5)) = some (Value.int .i64 x0) ∧ w.cell? ⟨(ad.add (i.toNat * 5)).block, (ad.add (i.toNat * 5)).off + 1, none⟩ = some (Value.int .i64 x1) ∧ w.cell? ⟨(ad.add (i.toNat * 5)).block, (ad.add (i.toNat * 5)).off + 2, none⟩ = some (Value.string x2) ∧ w.cell? ⟨(ad.add (i.toNat * 5)).block, (ad.add (i.toNat * 5)).off + 3, none⟩ = some (Value.int .i64 x3) ∧ w.cell? ⟨(ad.add (i.toNat * 5)).block, (ad.add (i.toNat * 5)).off + 4, none⟩ = some (Value.string x4)) (AS : ae (gy.f x0 = some false)) (AE : ae (fF.f x0 = some false)) (H : ae ((qh F k l x0 x2 x3 x4 xs out).bind some = some r)) :
 Calls Try.prog 22 #[.pointer (some ⟨g, 0, none⟩), .int .i64 i] w (kC w0 w g l r) := by
 go_enter Try.func22, Try.ntmps22
 go_wp2
 refine mi (n := 16) (S := fun w' => w'.cell? ⟨g, 0, none⟩ = some (Value.slice (some ad) l.length c0) ∧ w'.cell? (ad.add (i.toNat * 5)) = some (Value.int .i64 x0) ∧ w'.cell? ⟨(ad.add (i.toNat * 5)).block, (ad.add (i.toNat * 5)).off + 1, none⟩ = some (Value.int .i64 x1) ∧ w'.cell? ⟨(ad.add (i.toNat * 5)).block, (ad.add (i.toNat * 5)).off + 2, none⟩ = some (Value.string x2) ∧ w'.cell? ⟨(ad.add (i.toNat * 5)).block, (ad.add (i.toNat * 5)).off + 3, none⟩ = some (Value.int .i64 x3) ∧ w'.cell? ⟨(ad.add (i.toNat * 5)).block, (ad.add (i.toNat * 5)).off + 4, none⟩ = some (Value.string x4)) (ds := [14]) (bQ 16 0) (by kernel_rfl) rfl rfl hHeld0 (fun hHeld => ?_)
 have HS1 := HS.drew
 clear HS hHeld0
 have HS := HS1
 clear HS1
 generalize w.drew = w2 at HS hHeld ⊢
 refine pA 0 6 (bQ 16 1) ?_ (by kernel_rfl)
 refine pA 1 7 (bQ 16 3) ?_ (by kernel_rfl)
 refine pA 2 8 (bQ 16 7) ?_ (by kernel_rfl)
 refine lw (i := 3) (N := some 9) (v := ?_) (a' := ?_) (bQ 16 15) rfl rfl (by kernel_rfl) (fun _ _ _ h => h) (Or.inl ⟨by rfl, ?_⟩) hHeld ?_ ?_
 rotate_left
 ·intro w' hS_
  obtain ⟨s0, s1, s2, s3, s4, s5⟩ := hS_
  go_simp
  with_reducible rfl
 rotate_left
 ·simp only [Act.put, List.setIfInBounds_toArray, List.set_cons_zero, List.set_cons_succ]
  rfl
 refine pA 4 10 (bQ 16 31) ?_ (by kernel_rfl)
 refine pA 5 11 (bQ 16 63) ?_ (by kernel_rfl)
 refine lw (i := 6) (N := some 12) (v := ?_) (a' := ?_) (bQ 16 127) rfl rfl (by kernel_rfl) (fun _ _ _ h => h) (Or.inl ⟨by rfl, ?_⟩) hHeld ?_ ?_
 rotate_left
 ·intro w' hS_
  obtain ⟨s0, s1, s2, s3, s4, s5⟩ := hS_
  go_simp
  with_reducible rfl
 rotate_left
 ·simp only [Act.put, List.setIfInBounds_toArray, List.set_cons_zero, List.set_cons_succ]
  rfl
 refine pA 7 13 (bQ 16 255) ?_ (by kernel_rfl)
 refine pA 8 14 (bQ 16 511) ?_ (by kernel_rfl)
 refine pA 9 15 (bQ 16 1023) ?_ (by kernel_rfl)
 refine lw (i := 10) (N := some 16) (v := ?_) (a' := ?_) (bQ 16 2047) rfl rfl (by kernel_rfl) (fun _ _ _ h => h) (Or.inl ⟨by rfl, ?_⟩) hHeld ?_ ?_
 rotate_left
 ·intro w' hS_
  obtain ⟨s0, s1, s2, s3, s4, s5⟩ := hS_
  go_simp
  with_reducible rfl
 rotate_left
 ·simp only [Act.put, List.setIfInBounds_toArray, List.set_cons_zero, List.set_cons_succ]
  rfl
 refine pA 11 17 (bQ 16 4095) ?_ (by kernel_rfl)
 refine Le (i := 12) (j := 13) (Ni := some 18) (Nj := some 4) (bQ 16 8191) (bQ 16 12287) rfl rfl rfl rfl (by kernel_rfl) (by decide) (by decide) (fun K hK => ?_) (fun K hK => ?_)
 ·refine oI Try.func18 (by kernel_rfl) rfl #[.slice (some ad) l.length c0, .int .i64 i] (by rfl) rfl rfl Z6 ((bU.calls k _ _ l i xs _ (Kd.ik HL.out HS.below) HLC.out HKid.out).mono ?_)
  rintro _ w3 ⟨v2, rfl, ho, hb⟩
  obtain ⟨A2, c2, rfl⟩ := Kd.bY ho
  refine ⟨_, rfl, ?_⟩
  have HN := ae.mk (Kd.aI ho).2.1
  have HS3 := (HS.jT hb).int (RI.ofR ho)
  refine hK.out _ _ ⟨aV hb hHeld.1, aV hb hHeld.2.1, aV hb hHeld.2.2.1, aV hb hHeld.2.2.2.1, aV hb hHeld.2.2.2.2.1, aV hb hHeld.2.2.2.2.2⟩ (fun hHeld => ?_)
  clear hK K
  refine kH (a' := ?_) ?_ ?_
  rotate_left
  ·simp only [Act.put, List.setIfInBounds_toArray, List.set_cons_zero, List.set_cons_succ]
   rfl
  clear HS ho hb
  have HS := HS3
  clear HS3
  refine rO (i := 13) (N := some 4) (bQ 16 16383) rfl rfl (by kernel_rfl) (by decide) (fun K hK => ?_)
  refine rG (by rfl) rfl (by first | (go_simp; done) | (go_simp; rfl) | (go_simp; exact ⟨rfl, rfl⟩)) ?_
  obtain ⟨gx, egx⟩ : ∃ gx, gx = w3.heap.size := ⟨_, rfl⟩
  have HGX := ae.mk (show (w3.alloc (.cells #[.int .i64 0, .int .i64 0, .string (⟨#[]⟩ : ByteArray), .int .i64 0, .string (⟨#[]⟩ : ByteArray)] 40)).heap[gx]? = some (.cells #[.int .i64 0, .int .i64 0, .string (⟨#[]⟩ : ByteArray), .int .i64 0, .string (⟨#[]⟩ : ByteArray)] 40 (0, 0)) from Z21)
  have HGE := ae.mk (show w.heap.size ≤ gx from by rw [egx]; exact HS.kt.1)
  have HS4 := HS.alloc (.cells #[.int .i64 0, .int .i64 0, .string (⟨#[]⟩ : ByteArray), .int .i64 0, .string (⟨#[]⟩ : ByteArray)] 40)
  refine hK.out _ _ ⟨cellW hHeld.1, cellW hHeld.2.1, cellW hHeld.2.2.1, cellW hHeld.2.2.2.1, cellW hHeld.2.2.2.2.1, cellW hHeld.2.2.2.2.2⟩ (fun hHeld => ?_)
  clear hK K
  refine kH (a' := ?_) ?_ ?_
  rotate_left
  ·simp only [Act.put, List.setIfInBounds_toArray, List.set_cons_zero, List.set_cons_succ]
   rfl
  rw [← egx]
  clear HS egx
  have HS := HS4
  clear HS4
  refine wF (i := 14) (N := none) (bQ 16 32767) rfl rfl (by kernel_rfl) (by decide) (fun K hK => ?_)
  rw [if_pos (by rfl)]
  refine wp_store_row 40 (.tmp 4) (.tmp 12) rfl gx #[.int .i64 x0, .int .i64 x1, .string x2, .int .i64 x3, .string x4] rfl rfl 40 #[.int .i64 0, .int .i64 0, .string (⟨#[]⟩ : ByteArray), .int .i64 0, .string (⟨#[]⟩ : ByteArray)] HGX.out (by kernel_rfl) rfl (by simp [Value.oneCell']) ?_
  have HS5 := HS.row (c' := #[.int .i64 x0, .int .i64 x1, .string x2, .int .i64 x3, .string x4]) HGX.out HGE.out
  clear HS HGX HGE
  have HS := HS5
  clear HS5
  refine hK.out _ _ ?_
  clear hK K hHeld
  refine pA 15 5 (bQ 16 65535) ?_ (by kernel_rfl)
  refine nR (by kernel_rfl) ?_
  have hx0 : _ = some (Value.int .i64 x0) := HS.cb (bs := [_]) (b := gx) (.head _) 0
  have hx1 : _ = some (Value.int .i64 x1) := HS.cb (bs := [_]) (b := gx) (.head _) 1
  have hx2 : _ = some (Value.string x2) := HS.cb (bs := [_]) (b := gx) (.head _) 2
  have hx3 : _ = some (Value.int .i64 x3) := HS.cb (bs := [_]) (b := gx) (.head _) 3
  have hx4 : _ = some (Value.string x4) := HS.cb (bs := [_]) (b := gx) (.head _) 4
  go_wp2_with (first | (go_at_call 35; refine (gy.calls x0 false _ AS.out).mono ?_; rintro _ w7 ⟨rfl, ⟨nd, rfl⟩⟩) | (go_at_call 26; refine (fF.calls x0 false _ AE.out).mono ?_; rintro _ w7 ⟨rfl, ⟨nd, rfl⟩⟩) | (go_at_call 42; refine wCc (wsT HS) H (fun q HS => KE F HF k g l _ q x0 x1 x2 x3 x4 _ _ xs w0 _ HS.wr HS.below (HS.i _ (.head _)) HN.out) ?_; clear HS H; intro q w' HS H; (try dsimp only at H)))
  have h_ := H.out
  cases h_
  go_end0
  exact (wsT HS).back
 refine rG (by rfl) rfl (by first | (go_simp; done) | (go_simp; rfl) | (go_simp; exact ⟨rfl, rfl⟩)) ?_
 obtain ⟨gx, egx⟩ : ∃ gx, gx = w2.heap.size := ⟨_, rfl⟩
 have HGX := ae.mk (show (w2.alloc (.cells #[.int .i64 0, .int .i64 0, .string (⟨#[]⟩ : ByteArray), .int .i64 0, .string (⟨#[]⟩ : ByteArray)] 40)).heap[gx]? = some (.cells #[.int .i64 0, .int .i64 0, .string (⟨#[]⟩ : ByteArray), .int .i64 0, .string (⟨#[]⟩ : ByteArray)] 40 (0, 0)) from Z21)
 have HGE := ae.mk (show w.heap.size ≤ gx from by rw [egx]; exact HS.kt.1)
 have HS4 := HS.alloc (.cells #[.int .i64 0, .int .i64 0, .string (⟨#[]⟩ : ByteArray), .int .i64 0, .string (⟨#[]⟩ : ByteArray)] 40)
 refine hK.out _ _ ⟨cellW hHeld.1, cellW hHeld.2.1, cellW hHeld.2.2.1, cellW hHeld.2.2.2.1, cellW hHeld.2.2.2.2.1, cellW hHeld.2.2.2.2.2⟩ (fun hHeld => ?_)
 clear hK K
 refine kH (a' := ?_) ?_ ?_
 rotate_left
 ·simp only [Act.put, List.setIfInBounds_toArray, List.set_cons_zero, List.set_cons_succ]
  rfl
 rw [← egx]
 clear HS egx
 have HS := HS4
 clear HS4
 refine rO (i := 12) (N := some 18) (bQ 16 16383) rfl rfl (by kernel_rfl) (by decide) (fun K hK => ?_)
 refine oI Try.func18 (by kernel_rfl) rfl #[.slice (some ad) l.length c0, .int .i64 i] (by rfl) rfl rfl Z6 ((bU.calls k _ _ l i xs _ (Kd.ik HL.out HS.below) HLC.out HKid.out).mono ?_)
 rintro _ w3 ⟨v2, rfl, ho, hb⟩
 obtain ⟨A2, c2, rfl⟩ := Kd.bY ho
 refine ⟨_, rfl, ?_⟩
 have HN := ae.mk (Kd.aI ho).2.1
 have HS3 := (HS.jT hb).int (RI.ofR ho)
 refine hK.out _ _ ⟨aV hb hHeld.1, aV hb hHeld.2.1, aV hb hHeld.2.2.1, aV hb hHeld.2.2.2.1, aV hb hHeld.2.2.2.2.1, aV hb hHeld.2.2.2.2.2⟩ (fun hHeld => ?_)
 clear hK K
 refine kH (a' := ?_) ?_ ?_
 rotate_left
 ·simp only [Act.put, List.setIfInBounds_toArray, List.set_cons_zero, List.set_cons_succ]
  rfl
 have HGX1 := ae.mk (eH HGX.out hb)
 clear HS ho hb HGX
 have HS := HS3
 have HGX := HGX1
 clear HS3 HGX1
 refine wF (i := 14) (N := none) (bQ 16 32767) rfl rfl (by kernel_rfl) (by decide) (fun K hK => ?_)
 rw [if_pos (by rfl)]
 refine wp_store_row 40 (.tmp 4) (.tmp 12) rfl gx #[.int .i64 x0, .int .i64 x1, .string x2, .int .i64 x3, .string x4] rfl rfl 40 #[.int .i64 0, .int .i64 0, .string (⟨#[]⟩ : ByteArray), .int .i64 0, .string (⟨#[]⟩ : ByteArray)] HGX.out (by kernel_rfl) rfl (by simp [Value.oneCell']) ?_
 have HS5 := HS.row (c' := #[.int .i64 x0, .int .i64 x1, .string x2, .int .i64 x3, .string x4]) HGX.out HGE.out
 clear HS HGX HGE
 have HS := HS5
 clear HS5
 refine hK.out _ _ ?_
 clear hK K hHeld
 refine pA 15 5 (bQ 16 65535) ?_ (by kernel_rfl)
 refine nR (by kernel_rfl) ?_
 have hx0 : _ = some (Value.int .i64 x0) := HS.cb (bs := [_]) (b := gx) (.head _) 0
 have hx1 : _ = some (Value.int .i64 x1) := HS.cb (bs := [_]) (b := gx) (.head _) 1
 have hx2 : _ = some (Value.string x2) := HS.cb (bs := [_]) (b := gx) (.head _) 2
 have hx3 : _ = some (Value.int .i64 x3) := HS.cb (bs := [_]) (b := gx) (.head _) 3
 have hx4 : _ = some (Value.string x4) := HS.cb (bs := [_]) (b := gx) (.head _) 4
 go_wp2_with (first | (go_at_call 35; refine (gy.calls x0 false _ AS.out).mono ?_; rintro _ w7 ⟨rfl, ⟨nd, rfl⟩⟩) | (go_at_call 26; refine (fF.calls x0 false _ AE.out).mono ?_; rintro _ w7 ⟨rfl, ⟨nd, rfl⟩⟩) | (go_at_call 42; refine wCc (wsT HS) H (fun q HS => KE F HF k g l _ q x0 x1 x2 x3 x4 _ _ xs w0 _ HS.wr HS.below (HS.i _ (.head _)) HN.out) ?_; clear HS H; intro q w' HS H; (try dsimp only at H)))
 have h_ := H.out
 cases h_
 go_end0
 exact (wsT HS).back
end Go.Proofs.Ytlenihbmafkegaa.Q
end
section
set_option linter.unusedVariables false
set_option linter.unusedSimpArgs false
namespace Go.Proofs.Ytlenihbmafkegaa.Q
open Go Go.RowKit Go.Proofs.YtlenihbmafkegaaW.PrintWords Go.Proofs.YtlenihbmafkegaaW.PrintLast Go.Proofs.YtlenihbmafkegaaW.PrintMore
/-- What is left of a printed function, parted at its test. -/
theorem qB {β : Type} {b : Bool} {D : Decidable (b = true)} {X Y : Option β} {R : β} {Gl : Prop} (H : ae ((if b = true then X else Y) = some R)) (h1 : b = true → ae (X = some R) → Gl) (h2 : b = false → ae (Y = some R) → Gl) : Gl := by
 have h := H.out
 cases b
 ·rw [if_neg Bool.false_ne_true] at h; exact h2 rfl ⟨h⟩
 rw [if_pos rfl] at h; exact h1 rfl ⟨h⟩
theorem qE {τ β : Type} [BEq τ] [LawfulBEq τ] {a b : τ} {D : Decidable (a = b)} {X Y : Option β} {R : β} {Gl : Prop} (H : ae ((if a = b then X else Y) = some R)) (h1 : (a == b) = true → (a != b) = false → ae (X = some R) → Gl) (h2 : (a == b) = false → (a != b) = true → ae (Y = some R) → Gl) : Gl := by
 by_cases c : a = b
 ·have h := H.out
  rw [if_pos c] at h
  exact h1 (beq_iff_eq.mpr c) (bne_eq_false_iff_eq.mpr c) ⟨h⟩
 have h := H.out
 rw [if_neg c] at h
 exact h2 (beq_eq_false_iff_ne.mpr c) (bne_iff_ne.mpr c) ⟨h⟩
theorem qD {β : Type} {p : Prop} {D : Decidable p} {X Y : Option β} {R : β} {Gl : Prop} (H : ae ((if p then X else Y) = some R)) (h1 : p = True → decide p = true → ae (X = some R) → Gl) (h2 : p = False → decide p = false → ae (Y = some R) → Gl) : Gl := by
 by_cases c : p
 ·have h := H.out
  rw [if_pos c] at h
  exact h1 (eq_true c) (decide_eq_true c) ⟨h⟩
 have h := H.out
 rw [if_neg c] at h
 exact h2 (eq_false c) (decide_eq_false c) ⟨h⟩
section
variable {τ β : Type} [BEq τ] [LawfulBEq τ] {a b : τ} {p : Prop} {c : Bool} {X Y : Option β} {R : β}
theorem qB1 {D : Decidable (c = true)} (H : ae ((if c = true then X else Y) = some R)) (h : c = true) : ae (X = some R) := ⟨by have := H.out; rwa [if_pos h] at this⟩
theorem qB0 {D : Decidable (c = true)} (H : ae ((if c = true then X else Y) = some R)) (h : c = false) : ae (Y = some R) := ⟨by have := H.out; rwa [if_neg (by rw [h]; exact Bool.false_ne_true)] at this⟩
theorem qE1 {D : Decidable (a = b)} (H : ae ((if a = b then X else Y) = some R)) (h : (a == b) = true) : ae (X = some R) := ⟨by have := H.out; rwa [if_pos (beq_iff_eq.mp h)] at this⟩
theorem qE0 {D : Decidable (a = b)} (H : ae ((if a = b then X else Y) = some R)) (h : (a == b) = false) : ae (Y = some R) := ⟨by have := H.out; rwa [if_neg (beq_eq_false_iff_ne.mp h)] at this⟩
theorem qD1 {D : Decidable p} (H : ae ((if p then X else Y) = some R)) (h : p = True) : ae (X = some R) := ⟨by have := H.out; rwa [if_pos (of_eq_true h)] at this⟩
theorem qD0 {D : Decidable p} (H : ae ((if p then X else Y) = some R)) (h : p = False) : ae (Y = some R) := ⟨by have := H.out; rwa [if_neg (of_eq_false h)] at this⟩
end
/-- Since w: nothing that was there was written; boxes of the call's own are known whole. -/
structure PS (w W : World) (bs : List (Nat × Obj)) : Prop where
 below : Below w.heap.size w W
 b : ∀ p ∈ bs, W.heap[p.1]? = some p.2 ∧ w.heap.size ≤ p.1
 d : bs.Pairwise fun p q => p.1 ≠ q.1
theorem PS.new (w : World) : PS w w [] := ⟨Below.refl _ _, fun _ h => (nomatch h), .nil⟩
section
variable {w W W' : World} {bs : List (Nat × Obj)}
theorem PS.step (h : PS w W bs) (hb : Below W.heap.size W W') : PS w W' bs := ⟨aj h.below hb, fun p hp => ⟨eH (h.b p hp).1 hb, (h.b p hp).2⟩, h.d⟩
theorem PS.KC (hb : Below W.heap.size W W') (h : PS w W bs) : PS w W' bs := h.step hb
theorem PS.drewN (h : PS w W bs) (n : Nat) : PS w (W.drewN n) bs := h.step (fH (Below.refl _ _) n)
theorem PS.drew (h : PS w W bs) : PS w W.drew bs := h.step (Below.refl _ _).drew
theorem PS.alloc (h : PS w W bs) (o : Obj) : PS w (W.alloc o) bs := h.step (fB (Below.refl _ _) o)
/-- A store into the box that was made last. -/
theorem PS.setH {g : Nat} {cs : Array Value} {t : TypeId} (h : PS w W ((g, .cells cs t (0, 0)) :: bs)) (i : Nat) (u : Value) : PS w (W.setCell ⟨g, i, none⟩ u) ((g, .cells (cs.setIfInBounds i u) t (0, 0)) :: bs) := by
 obtain ⟨h1, h2⟩ := h.b _ (.head _)
 have hd := List.pairwise_cons.1 h.d
 refine ⟨gQ h.below h2, fun p hp => ?_, List.pairwise_cons.2 ⟨hd.1, hd.2⟩⟩
 rcases List.mem_cons.1 hp with rfl | hp
 ·exact ⟨mP h1 i u, h2⟩
 obtain ⟨h3, h4⟩ := h.b p (.tail _ hp)
 exact ⟨(Below.heap_setCell W ⟨g, i, none⟩ u p.1 (fun e => hd.1 p hp e.symm)).trans h3, h4⟩
/-- A store into the box ahead of it. -/
theorem PS.O7 {g : Nat} {q : Nat × Obj} {cs : Array Value} {t : TypeId} (h : PS w W (q :: (g, .cells cs t (0, 0)) :: bs)) (i : Nat) (u : Value) : PS w (W.setCell ⟨g, i, none⟩ u) (q :: (g, .cells (cs.setIfInBounds i u) t (0, 0)) :: bs) := by
 have hd := List.pairwise_cons.1 h.d
 have hd2 := List.pairwise_cons.1 hd.2
 obtain ⟨h1, h2⟩ := h.b _ (.tail _ (.head _))
 have hq := hd.1 _ (.head _)
 refine ⟨gQ h.below h2, fun p hp => ?_, List.pairwise_cons.2 ⟨fun p hp => ?_, List.pairwise_cons.2 ⟨hd2.1, hd2.2⟩⟩⟩
 ·rcases List.mem_cons.1 hp with rfl | hp
  ·obtain ⟨h3, h4⟩ := h.b p (.head _)
   exact ⟨(Below.heap_setCell W ⟨g, i, none⟩ u p.1 hq).trans h3, h4⟩
  rcases List.mem_cons.1 hp with rfl | hp
  ·exact ⟨mP h1 i u, h2⟩
  obtain ⟨h3, h4⟩ := h.b p (.tail _ (.tail _ hp))
  exact ⟨(Below.heap_setCell W ⟨g, i, none⟩ u p.1 (fun e => hd2.1 p hp e.symm)).trans h3, h4⟩
 rcases List.mem_cons.1 hp with rfl | hp
 ·exact hq
 exact hd.1 p (.tail _ hp)
theorem stP {W0 : World} {bs0 : List (Nat × Obj)} (H : PS w W0 bs0) (f : PS w W0 bs0 → PS w W bs := by (intro h_; repeat (first | (with_reducible exact h_) | apply PS.drewN | apply PS.drew | apply PS.setH | apply PS.O7 | apply PS.alloc))) : PS w W bs := f H
theorem PS.hd {g : Nat} {o : Obj} (h : PS w W ((g, o) :: bs)) : W.heap[g]? = some o := (h.b _ (.head _)).1
theorem PS.tl {p : Nat × Obj} (h : PS w W (p :: bs)) : PS w W bs := ⟨h.below, fun q hq => h.b q (.tail _ hq), (List.pairwise_cons.1 h.d).2⟩
theorem PS.ne {g g' : Nat} {o o' : Obj} (h : PS w W ((g, o) :: (g', o') :: bs)) : g ≠ g' ∧ g' ≠ g := by
 have := (List.pairwise_cons.1 h.d).1 _ (.head _)
 exact ⟨this, Ne.symm this⟩
end
/-- A box of five: its cells. -/
theorem c5 {W : World} {g : Nat} {t : TypeId} {a b c d e : Value} (h : W.heap[g]? = some (.cells #[a, b, c, d, e] t (0, 0))) : W.cell? ⟨g, 0, none⟩ = some a ∧ W.cell? ⟨g, 1, none⟩ = some b ∧ W.cell? ⟨g, 2, none⟩ = some c ∧ W.cell? ⟨g, 3, none⟩ = some d ∧ W.cell? ⟨g, 4, none⟩ = some e ∧ W.frozen? ⟨g, 0, none⟩ = false ∧ W.frozen? ⟨g, 1, none⟩ = false ∧ W.frozen? ⟨g, 2, none⟩ = false ∧ W.frozen? ⟨g, 3, none⟩ = false ∧ W.frozen? ⟨g, 4, none⟩ = false :=
 ⟨ah h 0, ah h 1, ah h 2, ah h 3, ah h 4, af h 0, af h 1, af h 2, af h 3, af h 4⟩
theorem c4 {W : World} {g : Nat} {t : TypeId} {a b c d : Value} (h : W.heap[g]? = some (.cells #[a, b, c, d] t (0, 0))) : W.cell? ⟨g, 0, none⟩ = some a ∧ W.cell? ⟨g, 1, none⟩ = some b ∧ W.cell? ⟨g, 2, none⟩ = some c ∧ W.cell? ⟨g, 3, none⟩ = some d ∧ W.frozen? ⟨g, 0, none⟩ = false ∧ W.frozen? ⟨g, 1, none⟩ = false ∧ W.frozen? ⟨g, 2, none⟩ = false ∧ W.frozen? ⟨g, 3, none⟩ = false :=
 ⟨ah h 0, ah h 1, ah h 2, ah h 3, af h 0, af h 1, af h 2, af h 3⟩
section
variable {P : Program} {ops : Array Oper} {Q : Exit → Act → World → Prop} {w W : World} {bs : List (Nat × Obj)}
 {rest : List Oper} {oi : Oper} {a : Act} {fn : Func} {ar : Array Operand} {ts : Array TypeId} {args : Array Value} {ρ β : Type} {R : β}
theorem OJ {N : Tmp} {cs : Array Value} {t : TypeId} (HS : PS w W bs) (hrun : (execOp a.eval oi).run P W = .ok (.value (.pointer (some ⟨W.heap.size, 0, none⟩))) (W.alloc (.cells cs t (0, 0))))
 (h : ∀ gb w', PS w w' ((gb, .cells cs t (0, 0)) :: bs) → wpList P ops Q rest (a.put (some N) (.pointer (some ⟨gb, 0, none⟩))) w')
 (hd : oi.dst = some N := by rfl) (hg : oi.guard = none := by rfl) : wpList P ops Q (oi :: rest) a W := by
 refine dW hg hd hrun ?_
 intro gb hgb w1 hc hb
 have h1 := HS.step hb
 rw [hd]
 refine h gb w1 ⟨h1.below, fun p hp => ?_, List.pairwise_cons.2 ⟨fun p hp e => ?_, h1.d⟩⟩
 ·rcases List.mem_cons.1 hp with rfl | hp
  ·exact ⟨hc, by rw [hgb]; exact HS.below.size⟩
  exact h1.b p hp
 have := jO (HS.b p hp).1
 dsimp only at e
 omega
/-- A call whose answer is val of what its function says. -/
theorem pV (val : ρ → Value) (f : FuncId) {N : Tmp} (hop : oi.op = .call { callee := .value (.func f), args := ar, argTypes := ts }) (hf : P.funcs[f]? = some fn) {F : Option ρ} {K : ρ → Option β}
 (HS : PS w W bs) (H : ae (F.bind K = some R)) (hC : ∀ t, F = some t → Calls P f args W (fun e w' => e = .returned (val t) ∧ Below W.heap.size W w'))
 (h : ∀ t w', PS w w' bs → ae (K t = some R) → wpList P ops Q rest (a.put (some N) (val t)) w')
 (hd : oi.dst = some N := by rfl) (hg : oi.guard = none := by rfl) (hname : (fn.name == "runtime.NumGoroutine") = false := by kernel_rfl) (hb : fn.body.isSome = true := by rfl)
 (hargs : ar.map a.eval = args := by ((try simp only [List.map_toArray, List.map_cons, List.map_nil]); first | done | rfl)) : wpList P ops Q (oi :: rest) a W := by
 obtain ⟨t, h1, h2⟩ := Option.bind_eq_some_iff.mp H.out
 refine jM (some N) hd hg hf hname hb args hop hargs ((hC t h1).mono ?_)
 rintro _ w' ⟨rfl, hb⟩
 exact ⟨_, rfl, h t w' (HS.step hb) ⟨h2⟩⟩
theorem cT {α : Type} {d : Kd α} {A : Option Addr} {n : Nat} {xs : List α} (H : ae (d.C w A n xs)) (f : d.C w A n xs → d.C W A n xs := by (intro h_; repeat (first | exact h_ | (with_reducible refine Kd.fZ ?_ _) | (with_reducible refine Kd.fV ?_ _) | (with_reducible refine Kd.iq ?_)))) : d.C W A n xs := f H.out
theorem at0 {A : Option Addr} {xs : List Int} {n : Nat} (HR : ae (Kd.C (Kd.int .i64) w A n xs)) (h : (0 < (n : Int)) = True) : ∃ ad, A = some ad ∧ w.cell? ad = some (.int .i64 (rd xs 0)) ∧ (0 < n) = True := by
 have h := of_eq_true h
 obtain ⟨ad, e, hx⟩ := Kd.lK HR.out 0 (by decide) h
 rw [show (0 : Int).toNat = 0 from rfl, Addr.add_zero'] at hx
 exact ⟨ad, e, hx, eq_true (by omega)⟩
theorem ofD {f : FuncId} {e0 : Ending} (h : Calls P f args W fun e w' => e = e0 ∧ dQ W w') : Calls P f args W fun e w' => e = e0 ∧ Below W.heap.size W w' := h.mono fun _ _ ⟨a, b⟩ => ⟨a, b.below⟩
end
end Go.Proofs.Ytlenihbmafkegaa.Q
end
section
namespace Go.Proofs.Ytlenihbmafkegaa.Q
open Go.RowKit Go.Proofs.YtlenihbmafkegaaW.PrintWords Go.Proofs.YtlenihbmafkegaaW.PrintLast Go.Proofs.YtlenihbmafkegaaW.PrintMore
attribute [local go_sem] dC dA dP dO cZ cO dB dw
set_option linter.unusedVariables false
set_option linter.unusedSimpArgs false
/-! ### dn: function 32 -/
def dn.l0 : Nat → List Int → Int → Option (Bool)
 | 0, _, _ => none
 | k + 1, x0, x3 => if x3 < (x0.length : Int) then (if 0 ≤ x3 then (if (rd x0 x3) = 2 then (dn.l0 k x0 (wrap64 (x3 + 1))) else (if x3 ≤ (x0.length : Int) then ((lm.f (x0.drop (x3 : Int).toNat) 3).bind fun t142 => (some t142)) else (none))) else (none)) else (if 0 ≤ x3 then (if x3 ≤ (x0.length : Int) then ((lm.f (x0.drop (x3 : Int).toNat) 3).bind fun t144 => (some t144)) else (none)) else (none))
def dn.f (k : Nat) (l0 : List Int) : Option (Bool) := dn.l0 k l0 0
theorem dn.cu : ∀ k, (∀ y0 y1, LeO (dn.l0 k y0 y1) (dn.l0 (k + 1) y0 y1))
 | 0 => fun _ _ r h => by simp [dn.l0] at h
 | k + 1 => by
  have ih0 := dn.cu k
  intro y0 y1
  unfold dn.l0
  exact yL
theorem dn.mono : ∀ a0 k, LeO (dn.f k a0) (dn.f (k + 1) a0) := by
 intro a0 k
 have ih0 := dn.cu k
 unfold dn.f
 exact yL
set_option maxHeartbeats 8000000 in
set_option maxRecDepth 100000 in
theorem dn.calls (k : Nat) (A0 : Option Addr) (c0 : Nat) (l0 : List Int) (r : Bool) (w : World) (hr0 : Kd.C (Kd.int .i64) w A0 l0.length l0) (hc0 : l0.length ≤ c0) (h : dn.f k l0 = some r) :
 Calls Try.prog 32 #[.slice A0 l0.length c0] w fun e w' => e = .returned (.bool r) ∧ Below w.heap.size w w' := by
 have HR0 := ae.mk hr0
 have HC0 := ae.mk hc0
 clear hr0 hc0
 have HB := ae.mk (Below.refl w.heap.size w)
 have H := h
 clear h
 unfold dn.f at H
 have H' := ae.mk H
 clear H
 go_enter Try.func32, Try.ntmps32
 go_wp2
 go_loopg [3] k (fun kq v3 w' => ∃ (x3_1 : Int), v3 = .int .i64 x3_1 ∧ ae (dn.l0 kq l0 x3_1 = some r) ∧ ae (kq ≤ k) ∧ ae (Below w.heap.size w w'))
 case atStart => exact ⟨(0), fT, H', ⟨Nat.le_refl _⟩, ⟨bT HB⟩⟩
 case round =>
  clear H'
  obtain ⟨x3_1, rfl, HA, HK1, HB⟩ := hrel
  cases gk with
  | zero => exact absurd HA.out (by simp [dn.l0])
  | succ k1 =>
   have H := HA.out
   clear HA
   simp only [dn.l0] at H
   revert H
   refine jU (fun c2b0 H => ?_) fun c2b0 H => ?_
   ·revert H
    refine gY (fun c3b0 H => ?_) fun c3 H => ?_
    ·revert H
     refine bn (fun c4b0 c4b1 H => ?_) fun c4 c4b0 c4b1 H => ?_
     ·have H' := ae.mk H
      clear H
      have p140 : 0 ≤ (x3_1 : Int) := of_decide_eq_true aT
      have q140 : x3_1 < (l0.length : Int) := of_decide_eq_true aT
      obtain ⟨ad140, e140, hx140_0⟩ := Kd.lK HR0.out x3_1 p140 q140
      cases e140
      replace hx140_0 := (HB.out.cell (World.block_lt_of_cell? w _ hx140_0)).trans hx140_0
      replace p140 := eq_true p140
      replace q140 := eq_true q140
      go_wp2
      go_roundg k1
      case measure => have := HK1.out; omega
      case rel => exact ⟨(wrap64 (x3_1 + 1)), fT, H', ⟨by have := HK1.out; omega⟩, ⟨bT HB⟩⟩
     have c5b0 := eq_true (of_decide_eq_true aT : 0 ≤ x3_1)
     revert H
     refine jL (fun c6b0 c6b1 H => ?_) fun c6 H => ?_
     ·revert H
      refine yB1 fun t142 A7 H => ?_
      obtain rfl := Option.some.inj H
      have p140 : 0 ≤ (x3_1 : Int) := of_decide_eq_true aT
      have q140 : x3_1 < (l0.length : Int) := of_decide_eq_true aT
      obtain ⟨ad140, e140, hx140_0⟩ := Kd.lK HR0.out x3_1 p140 q140
      cases e140
      replace hx140_0 := (HB.out.cell (World.block_lt_of_cell? w _ hx140_0)).trans hx140_0
      replace p140 := eq_true p140
      replace q140 := eq_true q140
      try go_wp2
      refine yA1 (iC HB.out) ?_
      clear HB
      intro HB
      obtain ⟨i09, hi09, _, hsz9, _⟩ := info_parts info3
      obtain ⟨A9, hcut9, hA9, hC9⟩ := o6 (P := Try.prog) (Value.int .i64) 0 45 3 .i64 Try.underlying45 hi09 hsz9 (some ad140) c0 l0 x3_1 (of_decide_eq_true aT) (of_decide_eq_true aT) HC0.out
      have HR141 := ae.mk (Kd.lN (h1 := fun _ => rfl) (hA9 _ (Kd.jA HR0.out)))
      have HC141 := ae.mk hC9
      clear hA9 hC9 hi09 hsz9
      refine mi (n := 6) (S := fun w' => True) (ds := []) #[false, false, false, false, false, false] (by kernel_rfl) rfl rfl trivial (fun hHeld => ?_)
      generalize wr.drew = w8 at HB HR141 hHeld ⊢
      refine pA 0 17 (bQ 6 1) ?_
      refine pA 1 18 (bQ 6 3) ?_
      refine pA 2 19 (bQ 6 7) ?_
      refine rO (i := 3) (N := some 20) (bQ 6 15) rfl rfl (by kernel_rfl) (by decide) (fun K hK => ?_)
      refine oI Try.func36 (by kernel_rfl) rfl #[.int .i64 3] (by rfl) rfl rfl Z6 ?_
      with_reducible refine (tC 3 _).mono ?_
      rintro e wIs ⟨gIs, rfl, hbk, hge, hb⟩
      refine ⟨_, rfl, ?_⟩
      have n0_ := ae.mk (aj (bT HB) hb)
      have BKIs := ae.mk hbk
      clear HB
      have HB := n0_
      clear n0_ hbk hge
      (try clear hb)
      refine hK.out _ _ trivial (fun hHeld => ?_)
      clear hK K
      refine kH (a' := ?_) ?_ ?_
      rotate_left
      ·show Act.put _ (some 20) _ = _
       simp only [Act.put, List.setIfInBounds_toArray, List.set_cons_zero, List.set_cons_succ, gB, iP]
       rfl
      refine rO (i := 4) (N := some 21) (bQ 6 31) rfl rfl (by kernel_rfl) (by decide) (fun K hK => ?_)
      refine oI Try.func34 (by kernel_rfl) rfl #[.slice A9 (l0.drop (x3_1 : Int).toNat).length (c0 - x3_1.toNat), .func (.func 55) #[] #[.pointer (some ⟨gIs, 0, none⟩)]] (by rfl) rfl rfl (by (try simp only [List.map_toArray, List.map_cons, List.map_nil]); first | done | (rw [show (l0.drop (x3_1 : Int).toNat).length = (l0.length - x3_1.toNat) from List.length_drop] <;> rfl) | rfl | (simp only [List.length_drop, List.length_take]; rfl)) ?_
      with_reducible refine (lm.calls _ _ (l0.drop (x3_1 : Int).toNat) 3 t142 _ ?side1 ?side2 A7.out (hj := ?side3)).mono ?_
      (case side3 => exact BKIs.out)
      (case side1 => repeat (first | exact (Kd.ik HR141.out HB.out) | (with_reducible refine Kd.fZ ?_ _) | (with_reducible refine Kd.fV ?_ _) | (with_reducible refine Kd.iq ?_)))
      (case side2 => exact HC141.out)
      rintro e w10 ⟨rfl, hb⟩
      refine ⟨_, rfl, ?_⟩
      refine yA1 (aj (bT HB) hb) ?_
      clear HB
      intro HB
      (try clear hb)
      (try clear hb2)
      (try clear hk)
      (try clear hi)
      refine hK.out _ _ trivial (fun hHeld => ?_)
      clear hK K
      refine kH (a' := ?_) ?_ ?_
      rotate_left
      ·show Act.put _ (some 21) _ = _
       simp only [Act.put, List.setIfInBounds_toArray, List.set_cons_zero, List.set_cons_succ, gB, iP]
       rfl
      refine pA 5 2 (bQ 6 63) ?_
      refine nR (by kernel_rfl) ?_
      try go_wp2
      go_ret
      exact ⟨eT, bT HB⟩
     exact absurd H (by simp)
    exact absurd H (by simp)
   revert H
   refine jL (fun c11b0 c11b1 H => ?_) fun c11 H => ?_
   ·revert H
    refine jL (fun c12b0 c12b1 H => ?_) fun c12 H => ?_
    ·revert H
     refine yB1 fun t144 A13 H => ?_
     obtain rfl := Option.some.inj H
     try go_wp2
     refine yA1 (iC HB.out) ?_
     clear HB
     intro HB
     obtain ⟨i015, hi015, _, hsz15, _⟩ := info_parts info3
     obtain ⟨A15, hcut15, hA15, hC15⟩ := o6 (P := Try.prog) (Value.int .i64) 0 45 3 .i64 Try.underlying45 hi015 hsz15 A0 c0 l0 x3_1 (of_decide_eq_true aT) (of_decide_eq_true aT) HC0.out
     have HR143 := ae.mk (Kd.lN (h1 := fun _ => rfl) (hA15 _ (Kd.jA HR0.out)))
     have HC143 := ae.mk hC15
     clear hA15 hC15 hi015 hsz15
     refine mi (n := 6) (S := fun w' => True) (ds := []) #[false, false, false, false, false, false] (by kernel_rfl) rfl rfl trivial (fun hHeld => ?_)
     generalize wr.drew = w14 at HB HR143 hHeld ⊢
     refine pA 0 17 (bQ 6 1) ?_
     refine pA 1 18 (bQ 6 3) ?_
     refine pA 2 19 (bQ 6 7) ?_
     refine rO (i := 3) (N := some 20) (bQ 6 15) rfl rfl (by kernel_rfl) (by decide) (fun K hK => ?_)
     refine oI Try.func36 (by kernel_rfl) rfl #[.int .i64 3] (by rfl) rfl rfl Z6 ?_
     with_reducible refine (tC 3 _).mono ?_
     rintro e wIs ⟨gIs, rfl, hbk, hge, hb⟩
     refine ⟨_, rfl, ?_⟩
     have n0_ := ae.mk (aj (bT HB) hb)
     have BKIs := ae.mk hbk
     clear HB
     have HB := n0_
     clear n0_ hbk hge
     (try clear hb)
     refine hK.out _ _ trivial (fun hHeld => ?_)
     clear hK K
     refine kH (a' := ?_) ?_ ?_
     rotate_left
     ·show Act.put _ (some 20) _ = _
      simp only [Act.put, List.setIfInBounds_toArray, List.set_cons_zero, List.set_cons_succ, gB, iP]
      rfl
     refine rO (i := 4) (N := some 21) (bQ 6 31) rfl rfl (by kernel_rfl) (by decide) (fun K hK => ?_)
     refine oI Try.func34 (by kernel_rfl) rfl #[.slice A15 (l0.drop (x3_1 : Int).toNat).length (c0 - x3_1.toNat), .func (.func 55) #[] #[.pointer (some ⟨gIs, 0, none⟩)]] (by rfl) rfl rfl (by (try simp only [List.map_toArray, List.map_cons, List.map_nil]); first | done | (rw [show (l0.drop (x3_1 : Int).toNat).length = (l0.length - x3_1.toNat) from List.length_drop] <;> rfl) | rfl | (simp only [List.length_drop, List.length_take]; rfl)) ?_
     with_reducible refine (lm.calls _ _ (l0.drop (x3_1 : Int).toNat) 3 t144 _ ?side1 ?side2 A13.out (hj := ?side3)).mono ?_
     (case side3 => exact BKIs.out)
     (case side1 => repeat (first | exact (Kd.ik HR143.out HB.out) | (with_reducible refine Kd.fZ ?_ _) | (with_reducible refine Kd.fV ?_ _) | (with_reducible refine Kd.iq ?_)))
     (case side2 => exact HC143.out)
     rintro e w16 ⟨rfl, hb⟩
     refine ⟨_, rfl, ?_⟩
     refine yA1 (aj (bT HB) hb) ?_
     clear HB
     intro HB
     (try clear hb)
     (try clear hb2)
     (try clear hk)
     (try clear hi)
     refine hK.out _ _ trivial (fun hHeld => ?_)
     clear hK K
     refine kH (a' := ?_) ?_ ?_
     rotate_left
     ·show Act.put _ (some 21) _ = _
      simp only [Act.put, List.setIfInBounds_toArray, List.set_cons_zero, List.set_cons_succ, gB, iP]
      rfl
     refine pA 5 2 (bQ 6 63) ?_
     refine nR (by kernel_rfl) ?_
     try go_wp2
     go_ret
     exact ⟨eT, bT HB⟩
    exact absurd H (by simp)
   exact absurd H (by simp)
end Go.Proofs.Ytlenihbmafkegaa.Q
end
section
namespace Go.Proofs.Ytlenihbmafkegaa.Q
open Go.RowKit Go.Proofs.YtlenihbmafkegaaW.PrintWords Go.Proofs.YtlenihbmafkegaaW.PrintLast Go.Proofs.YtlenihbmafkegaaW.PrintMore
attribute [local go_sem] dC dA dP dO cZ cO dB dw
set_option linter.unusedVariables false
set_option linter.unusedSimpArgs false
/-! ### dH: function 33 -/
def dH.f (l0 : List Int) : Option (Bool) := if (wrap64 ((l0.length : Int) - 1)) ≥ 0 then (if (wrap64 ((l0.length : Int) - 1)) ≤ 8 then (if 0 ≤ (wrap64 ((l0.length : Int) - 1)) then (if (wrap64 ((l0.length : Int) - 1)) < (l0.length : Int) then (if (rd l0 (wrap64 ((l0.length : Int) - 1))) = 5 then (if (wrap64 ((l0.length : Int) - 1)) ≤ (l0.length : Int) then ((lm.f (l0.take ((wrap64 ((l0.length : Int) - 1)) : Int).toNat) 4).bind fun t147 => (some t147)) else (none)) else (some false)) else (none)) else (none)) else (some false)) else (some false)
def dH.T2 : Bool × List (List Nat × List Nat) := (true, [([], []), ([0], [0]), ([1], [1]), ([2], [2]), ([3, 2], [2, 3]), ([2, 4], [2, 4]), ([5, 2], [5]), ([6], [6]), ([6], [6]), ([7, 8, 6], [6, 7, 8]), ([9, 6], [6, 9]), ([10, 6], [6, 10]), ([6, 11], [6, 11]), ([12, 6], [12]), ([13], [13]), ([13], [13]), ([14, 15, 13], [13, 14, 15]), ([13, 13], [13]), ([16, 17, 17, 13], [13, 16, 17]), ([13, 18], [13, 18]), ([19, 18, 0, 1, 2, 3, 4, 5, 6, 7, 8, 9, 10, 11, 12, 13, 14, 15, 16, 17, 18, 19], [19])])
def dH.B2 : List Nat := [0, 1, 3, 7, 15, 31, 63, 127, 127, 511, 1023, 2047, 4095, 8191, 16383, 16383, 65535, 16383, 262143, 524287, 1048575]
theorem dH.FI : nH .any (opsOf Try.f33 2) = dH.T2 := by kernel_rfl
theorem dH.Ba : oM dH.T2.2 dH.B2 = true := by kernel_rfl
set_option maxHeartbeats 8000000 in
set_option maxRecDepth 100000 in
theorem dH.calls (A0 : Option Addr) (c0 : Nat) (l0 : List Int) (r : Bool) (w : World) (hr0 : Kd.C (Kd.int .i64) w A0 l0.length l0) (hc0 : l0.length ≤ c0) (h : dH.f l0 = some r) :
 Calls Try.prog 33 #[.slice A0 l0.length c0] w fun e w' => e = .returned (.bool r) ∧ Below w.heap.size w w' := by
 have HR0 := ae.mk hr0
 have HC0 := ae.mk hc0
 clear hr0 hc0
 have HB := ae.mk (Below.refl w.heap.size w)
 have H := h
 clear h
 unfold dH.f at H
 revert H
 refine gZ (fun c2 H => ?_) fun c2 H => ?_
 ·have c2b0 : decide (0 ≤ (wrap64 ((l0.length : Int) - 1))) = true := decide_eq_true c2
  clear c2
  revert H
  refine jU (fun c3b0 H => ?_) fun c3b0 H => ?_
  ·obtain ⟨ji4, hji4⟩ : ∃ j_ : Int, (wrap64 ((l0.length : Int) - 1)) = j_ := ⟨_, rfl⟩
   replace H : (if 0 ≤ (ji4) then (if (ji4) < (l0.length : Int) then (if (rd l0 (ji4)) = 5 then (if (ji4) ≤ (l0.length : Int) then ((lm.f (l0.take ((ji4) : Int).toNat) 4).bind fun t147 => (some t147)) else (none)) else (some false)) else (none)) else (none)) = some r := by first | (rw [hji4] at H; exact H) | (simp only [hji4] at H ⊢; exact H)
   (try rw [hji4] at c2b0)
   (try rw [hji4] at c3b0)
   have hji4w : (IntKind.i64.wrap ((l0.length : Int) - 1)) = ji4 := (gB _).trans hji4
   revert H
   refine gY (fun c5b0 H => ?_) fun c5 H => ?_
   ·revert H
    refine gY (fun c6b0 H => ?_) fun c6 H => ?_
    ·revert H
     refine bn (fun c7b0 c7b1 H => ?_) fun c7 c7b0 c7b1 H => ?_
     ·have c8b0 := eq_true (of_decide_eq_true aT : 0 ≤ (ji4))
      revert H
      refine jL (fun c9b0 c9b1 H => ?_) fun c9 H => ?_
      ·revert H
       refine yB1 fun t147 A10 H => ?_
       obtain rfl := Option.some.inj H
       go_enter Try.func33, Try.ntmps33
       try go_wp2
       refine yA1 (iC HB.out) ?_
       clear HB
       intro HB
       have p145 : 0 ≤ ((ji4) : Int) := of_decide_eq_true aT
       have q145 : (ji4) < (l0.length : Int) := of_decide_eq_true aT
       obtain ⟨ad145, e145, hx145_0⟩ := Kd.lK HR0.out (ji4) p145 q145
       have hw145_0 := hx145_0
       cases e145
       replace hx145_0 := (HB.out.cell (World.block_lt_of_cell? w _ hx145_0)).trans hx145_0
       replace p145 := eq_true p145
       replace q145 := eq_true q145
       obtain ⟨i012, hi012, _, hsz12, _⟩ := info_parts info3
       obtain ⟨hcut12, hA12, hC12⟩ := qY (P := Try.prog) (Value.int .i64) 0 45 3 .i64 Try.underlying45 hi012 hsz12 (some ad145) c0 l0 (ji4) (of_decide_eq_true aT) (of_decide_eq_true aT) HC0.out
       have HR146 := ae.mk (Kd.lN (h1 := fun _ => rfl) (hA12 _ (Kd.jA HR0.out)))
       have HC146 := ae.mk hC12
       clear hA12 hC12 hi012 hsz12
       refine mi (n := 21) (S := fun w' => w'.cell? (ad145.add ((ji4)).toNat) = some (.int .i64 (rd l0 (ji4)))) (ds := []) #[false, false, false, false, false, false, false, false, false, false, false, false, false, false, false, false, false, false, false, false, false] (by kernel_rfl) rfl rfl (((HB.out.cell (World.block_lt_of_cell? w _ hw145_0)).trans hw145_0)) (fun hHeld => ?_); refine mQ dH.FI dH.Ba (fun HT_ HW_ => ?_)
       generalize w.drew = w11 at HB HR146 hx145_0 hHeld ⊢
       refine pA 0 7 (bQ 21 1) ?_
       refine pA 1 8 (bQ 21 3) ?_
       refine pA 2 9 (bQ 21 7) ?_
       refine pA 3 10 (bQ 21 15) ?_
       refine pA 4 11 (bQ 21 31) ?_
       refine pA 5 12 (bQ 21 63) ?_
       refine pA 6 13 (bQ 21 127) ?_
       refine pA 7 14 (bQ 21 255) ?_
       refine pA 8 15 (bQ 21 511) ?_
       refine pA 9 16 (bQ 21 1023) ?_
       refine lw (i := 10) (N := some 17) (v := ?_) (a' := ?_) #[true, true, true, true, true, true, true, true, true, true, true, false, false, false, false, false, false, false, false, false, false] rfl rfl (vS HT_.out HW_.out (by kernel_rfl)) (fun _ _ _ h => h) (Or.inl ⟨by rfl, ?_⟩) hHeld ?_ ?_
       rotate_left
       ·intro w' s0
        go_simp
        with_reducible rfl
       rotate_left
       ·simp only [Act.put, List.setIfInBounds_toArray, List.set_cons_zero, List.set_cons_succ, gB, iP]
        rfl
       refine pA 11 18 (bQ 21 4095) ?_
       refine pA 12 19 (bQ 21 8191) ?_
       refine pA 13 20 (bQ 21 16383) ?_
       refine pA 14 21 (bQ 21 32767) ?_
       refine pA 15 22 (bQ 21 65535) ?_
       refine pA 16 23 (bQ 21 131071) ?_
       refine rO (i := 17) (N := some 24) (bQ 21 262143) rfl rfl (BJ HT_.out (by kernel_rfl)) (by decide) (fun K hK => ?_)
       refine oI Try.func36 (by kernel_rfl) rfl #[.int .i64 4] (by rfl) rfl rfl Z6 ?_
       with_reducible refine (tC 4 _).mono ?_
       rintro e wIs ⟨gIs, rfl, hbk, hge, hb⟩
       refine ⟨_, rfl, ?_⟩
       have n0_ := ae.mk (aj (bT HB) hb)
       have BKIs := ae.mk hbk
       clear HB
       have HB := n0_
       clear n0_ hbk hge
       (try clear hb)
       refine hK.out _ _ (((HB.out.cell (World.block_lt_of_cell? w _ hw145_0)).trans hw145_0)) (fun hHeld => ?_)
       clear hK K
       refine kH (a' := ?_) ?_ ?_
       rotate_left
       ·show Act.put _ (some 24) _ = _
        simp only [Act.put, List.setIfInBounds_toArray, List.set_cons_zero, List.set_cons_succ, gB, iP]
        rfl
       refine rO (i := 18) (N := some 25) (bQ 21 524287) rfl rfl (BJ HT_.out (by kernel_rfl)) (by decide) (fun K hK => ?_)
       refine oI Try.func34 (by kernel_rfl) rfl #[.slice (some ad145) (l0.take ((ji4) : Int).toNat).length c0, .func (.func 55) #[] #[.pointer (some ⟨gIs, 0, none⟩)]] (by rfl) rfl rfl (by (try simp only [List.map_toArray, List.map_cons, List.map_nil]); first | done | (rw [show (l0.take ((ji4) : Int).toNat).length = (ji4).toNat from (by rw [List.length_take]; have h_ : ((ji4) : Int) ≤ (l0.length : Int) := of_decide_eq_true aT; omega)] <;> rfl) | (simp only [hji4]; rfl) | rfl | (simp only [List.length_drop, List.length_take]; rfl)) ?_
       with_reducible refine (lm.calls _ _ (l0.take ((ji4) : Int).toNat) 4 t147 _ ?side1 ?side2 A10.out (hj := ?side3)).mono ?_
       (case side3 => exact BKIs.out)
       (case side1 => repeat (first | exact (Kd.ik HR146.out HB.out) | (with_reducible refine Kd.fZ ?_ _) | (with_reducible refine Kd.fV ?_ _) | (with_reducible refine Kd.iq ?_)))
       (case side2 => exact HC146.out)
       rintro e w13 ⟨rfl, hb⟩
       refine ⟨_, rfl, ?_⟩
       refine yA1 (aj (bT HB) hb) ?_
       clear HB
       intro HB
       (try clear hb)
       (try clear hb2)
       (try clear hk)
       (try clear hi)
       refine hK.out _ _ (((HB.out.cell (World.block_lt_of_cell? w _ hw145_0)).trans hw145_0)) (fun hHeld => ?_)
       clear hK K
       refine kH (a' := ?_) ?_ ?_
       rotate_left
       ·show Act.put _ (some 25) _ = _
        simp only [Act.put, List.setIfInBounds_toArray, List.set_cons_zero, List.set_cons_succ, gB, iP]
        rfl
       refine pA 19 26 (bQ 21 1048575) ?_
       refine pA 20 2 (bQ 21 2097151) ?_
       refine nR (qP HT_.out (by kernel_rfl)) ?_
       try go_wp2
       go_ret
       exact ⟨by first | rfl | (simp [jl, jk] <;> rfl) | (simp only [← hji4]; first | rfl | (simp [jl, jk] <;> rfl)) | (simp [*, jl, jk] <;> rfl), bT HB⟩
      exact absurd H (by simp)
     obtain rfl := Option.some.inj H
     go_enter Try.func33, Try.ntmps33
     try go_wp2
     refine yA1 (iC HB.out) ?_
     clear HB
     intro HB
     have p145 : 0 ≤ ((ji4) : Int) := of_decide_eq_true aT
     have q145 : (ji4) < (l0.length : Int) := of_decide_eq_true aT
     obtain ⟨ad145, e145, hx145_0⟩ := Kd.lK HR0.out (ji4) p145 q145
     have hw145_0 := hx145_0
     cases e145
     replace hx145_0 := (HB.out.cell (World.block_lt_of_cell? w _ hx145_0)).trans hx145_0
     replace p145 := eq_true p145
     replace q145 := eq_true q145
     refine mi (n := 21) (S := fun w' => w'.cell? (ad145.add ((ji4)).toNat) = some (.int .i64 (rd l0 (ji4)))) (ds := []) #[false, false, false, false, false, false, false, false, false, false, false, false, false, false, false, false, false, false, false, false, false] (by kernel_rfl) rfl rfl (((HB.out.cell (World.block_lt_of_cell? w _ hw145_0)).trans hw145_0)) (fun hHeld => ?_); refine mQ dH.FI dH.Ba (fun HT_ HW_ => ?_)
     generalize w.drew = w14 at HB hx145_0 hHeld ⊢
     refine pA 0 7 (bQ 21 1) ?_
     refine pA 1 8 (bQ 21 3) ?_
     refine pA 2 9 (bQ 21 7) ?_
     refine pA 3 10 (bQ 21 15) ?_
     refine pA 4 11 (bQ 21 31) ?_
     refine pA 5 12 (bQ 21 63) ?_
     refine pA 6 13 (bQ 21 127) ?_
     refine pA 7 14 (bQ 21 255) ?_
     refine pA 8 15 (bQ 21 511) ?_
     refine pA 9 16 (bQ 21 1023) ?_
     refine lw (i := 10) (N := some 17) (v := ?_) (a' := ?_) #[true, true, true, true, true, true, true, true, true, true, true, false, false, false, false, false, false, false, false, false, false] rfl rfl (vS HT_.out HW_.out (by kernel_rfl)) (fun _ _ _ h => h) (Or.inl ⟨by rfl, ?_⟩) hHeld ?_ ?_
     rotate_left
     ·intro w' s0
      go_simp
      with_reducible rfl
     rotate_left
     ·simp only [Act.put, List.setIfInBounds_toArray, List.set_cons_zero, List.set_cons_succ, gB, iP]
      rfl
     refine pA 11 18 (bQ 21 4095) ?_
     refine pA 12 19 (bQ 21 8191) ?_
     refine pA 13 20 (bQ 21 16383) ?_
     refine pU 14 21 (bQ 21 32767) ?_
     refine pU 15 22 (bQ 21 65535) ?_
     refine pU 16 23 (bQ 21 131071) ?_
     refine pU 17 24 (bQ 21 262143) ?_
     refine pU 18 25 (bQ 21 524287) ?_
     refine pA 19 26 (bQ 21 1048575) ?_
     refine pA 20 2 (bQ 21 2097151) ?_
     refine nR (qP HT_.out (by kernel_rfl)) ?_
     try go_wp2
     go_ret
     exact ⟨by first | rfl | (simp [jl, jk] <;> rfl) | (simp only [← hji4]; first | rfl | (simp [jl, jk] <;> rfl)) | (simp [*, jl, jk] <;> rfl), bT HB⟩
    exact absurd H (by simp)
   exact absurd H (by simp)
  obtain rfl := Option.some.inj H
  go_enter Try.func33, Try.ntmps33
  try go_wp2
  refine yA1 (iC HB.out) ?_
  clear HB
  intro HB
  refine mi (n := 21) (S := fun w' => True) (ds := []) #[false, false, false, false, false, false, false, false, false, false, false, false, false, false, false, false, false, false, false, false, false] (by kernel_rfl) rfl rfl trivial (fun hHeld => ?_); refine mQ dH.FI dH.Ba (fun HT_ HW_ => ?_)
  generalize w.drew = w15 at HB hHeld ⊢
  refine pA 0 7 (bQ 21 1) ?_
  refine pA 1 8 (bQ 21 3) ?_
  refine pA 2 9 (bQ 21 7) ?_
  refine pA 3 10 (bQ 21 15) ?_
  refine pA 4 11 (bQ 21 31) ?_
  refine pA 5 12 (bQ 21 63) ?_
  refine pA 6 13 (bQ 21 127) ?_
  refine pU 7 14 (bQ 21 255) ?_
  refine pU 8 15 (bQ 21 511) ?_
  refine pU 9 16 (bQ 21 1023) ?_
  refine pU 10 17 (bQ 21 2047) ?_
  refine pU 11 18 (bQ 21 4095) ?_
  refine pA 12 19 (bQ 21 8191) ?_
  refine pA 13 20 (bQ 21 16383) ?_
  refine pU 14 21 (bQ 21 32767) ?_
  refine pU 15 22 (bQ 21 65535) ?_
  refine pU 16 23 (bQ 21 131071) ?_
  refine pU 17 24 (bQ 21 262143) ?_
  refine pU 18 25 (bQ 21 524287) ?_
  refine pA 19 26 (bQ 21 1048575) ?_
  refine pA 20 2 (bQ 21 2097151) ?_
  refine nR (qP HT_.out (by kernel_rfl)) ?_
  try go_wp2
  go_ret
  exact ⟨eT, bT HB⟩
 have c2b0 : decide (0 ≤ (wrap64 ((l0.length : Int) - 1))) = false := decide_eq_false c2
 clear c2
 obtain rfl := Option.some.inj H
 go_enter Try.func33, Try.ntmps33
 try go_wp2
 refine yA1 (iC HB.out) ?_
 clear HB
 intro HB
 refine mi (n := 21) (S := fun w' => True) (ds := []) #[false, false, false, false, false, false, false, false, false, false, false, false, false, false, false, false, false, false, false, false, false] (by kernel_rfl) rfl rfl trivial (fun hHeld => ?_); refine mQ dH.FI dH.Ba (fun HT_ HW_ => ?_)
 generalize w.drew = w16 at HB hHeld ⊢
 refine pA 0 7 (bQ 21 1) ?_
 refine pA 1 8 (bQ 21 3) ?_
 refine pA 2 9 (bQ 21 7) ?_
 refine pU 3 10 (bQ 21 15) ?_
 refine pU 4 11 (bQ 21 31) ?_
 refine pA 5 12 (bQ 21 63) ?_
 refine pA 6 13 (bQ 21 127) ?_
 refine pU 7 14 (bQ 21 255) ?_
 refine pU 8 15 (bQ 21 511) ?_
 refine pU 9 16 (bQ 21 1023) ?_
 refine pU 10 17 (bQ 21 2047) ?_
 refine pU 11 18 (bQ 21 4095) ?_
 refine pA 12 19 (bQ 21 8191) ?_
 refine pA 13 20 (bQ 21 16383) ?_
 refine pU 14 21 (bQ 21 32767) ?_
 refine pU 15 22 (bQ 21 65535) ?_
 refine pU 16 23 (bQ 21 131071) ?_
 refine pU 17 24 (bQ 21 262143) ?_
 refine pU 18 25 (bQ 21 524287) ?_
 refine pA 19 26 (bQ 21 1048575) ?_
 refine pA 20 2 (bQ 21 2097151) ?_
 refine nR (qP HT_.out (by kernel_rfl)) ?_
 try go_wp2
 go_ret
 exact ⟨eT, bT HB⟩
end Go.Proofs.Ytlenihbmafkegaa.Q
end
section
namespace Go.Proofs.Ytlenihbmafkegaa.Q
open Go.RowKit Go.Proofs.YtlenihbmafkegaaW.PrintWords Go.Proofs.YtlenihbmafkegaaW.PrintLast Go.Proofs.YtlenihbmafkegaaW.PrintMore
attribute [local go_sem] dC dA dP dO cZ cO dB dw
set_option linter.unusedVariables false
set_option linter.unusedSimpArgs false
/-! ### aY: function 20 -/
mutual
def aY.j0 : Nat → Int → List Int → Int → Int → Bool → Option (Bool)
 | 0, _, _, _, _, _ => none
 | k + 1, x0, x1, x5, x9, x14 => if x14 = true then ((dH.f x1).bind fun t150 => (some t150)) else (if x9 = 5 then ((tY.f x1).bind fun t151 => (some t151)) else (if x9 = 9 then (aY.j1 k x0 x1 x5 x9 (x9 == 9)) else (aY.j1 k x0 x1 x5 x9 (x9 == 10))))
def aY.j1 : Nat → Int → List Int → Int → Int → Bool → Option (Bool)
 | 0, _, _, _, _, _ => none
 | k + 1, x0, x1, x5, x9, x23 => if x23 = true then (if x0 = 9 then (if x5 ≥ 2 then (if x5 ≤ 3 then (if 0 < (x1.length : Int) then ((fF.f (rd x1 0)).bind fun t153 => (if t153 = true then (if 1 ≤ (x1.length : Int) then ((lm.f (x1.drop 1) 5).bind fun t155 => (some t155)) else (none)) else (some false))) else (none)) else (some false)) else (some false)) else (if x5 ≥ 2 then (if x5 ≤ 2 then (if 0 < (x1.length : Int) then ((fF.f (rd x1 0)).bind fun t157 => (if t157 = true then (if 1 ≤ (x1.length : Int) then ((lm.f (x1.drop 1) 5).bind fun t159 => (some t159)) else (none)) else (some false))) else (none)) else (some false)) else (some false))) else (if x9 = 8 then ((gK.f x1 3 3).bind fun t160 => (some t160)) else (if x9 = 6 then (aY.j2 k x1 x5 x9 (x9 == 6)) else (if x9 = 7 then (aY.j2 k x1 x5 x9 (x9 == 7)) else (if x9 = 13 then (aY.j2 k x1 x5 x9 (x9 == 13)) else (if x9 = 14 then (aY.j2 k x1 x5 x9 (x9 == 14)) else (if x9 = 15 then (aY.j2 k x1 x5 x9 (x9 == 15)) else (if x9 = 17 then (aY.j2 k x1 x5 x9 (x9 == 17)) else (if x9 = 28 then (aY.j2 k x1 x5 x9 (x9 == 28)) else (aY.j2 k x1 x5 x9 (x9 == 30))))))))))
def aY.j2 : Nat → List Int → Int → Int → Bool → Option (Bool)
 | 0, _, _, _, _ => none
 | k + 1, x1, x5, x9, x51 => if x51 = true then ((gK.f x1 1 1).bind fun t161 => (some t161)) else (if x9 = 22 then ((gK.f x1 1 9).bind fun t162 => (some t162)) else (if x9 = 23 then ((gK.f x1 0 8).bind fun t163 => (some t163)) else (if x9 = 26 then ((gK.f x1 2 2).bind fun t164 => (some t164)) else (if x9 = 27 then ((gK.f x1 2 2).bind fun t165 => (some t165)) else (some (x5 == 0))))))
end
def aY.f (k : Nat) (a0 : Int) (l1 : List Int) : Option (Bool) := if a0 = 1 then ((dn.f k l1).bind fun t149 => (some t149)) else (if a0 = 3 then (aY.j0 k a0 l1 (l1.length : Int) a0 (a0 == 3)) else (aY.j0 k a0 l1 (l1.length : Int) a0 (a0 == 24)))
theorem aY.cu : ∀ k, (∀ y0 y1 y2 y3 y4, LeO (aY.j0 k y0 y1 y2 y3 y4) (aY.j0 (k + 1) y0 y1 y2 y3 y4)) ∧ (∀ y0 y1 y2 y3 y4, LeO (aY.j1 k y0 y1 y2 y3 y4) (aY.j1 (k + 1) y0 y1 y2 y3 y4)) ∧ (∀ y0 y1 y2 y3, LeO (aY.j2 k y0 y1 y2 y3) (aY.j2 (k + 1) y0 y1 y2 y3))
 | 0 => ⟨fun _ _ _ _ _ r h => by simp [aY.j0] at h, fun _ _ _ _ _ r h => by simp [aY.j1] at h, fun _ _ _ _ r h => by simp [aY.j2] at h⟩
 | k + 1 => by
  obtain ⟨ih0, ih1, ih2⟩ := aY.cu k
  refine ⟨?_, ?_, ?_⟩
  ·intro y0 y1 y2 y3 y4
   unfold aY.j0
   have m0 := dn.mono
   exact yL
  ·intro y0 y1 y2 y3 y4
   unfold aY.j1
   have m0 := dn.mono
   exact yL
  intro y0 y1 y2 y3
  unfold aY.j2
  have m0 := dn.mono
  exact yL
theorem aY.mono : ∀ a0 a1 k, LeO (aY.f k a0 a1) (aY.f (k + 1) a0 a1) := by
 intro a0 a1 k
 obtain ⟨ih0, ih1, ih2⟩ := aY.cu k
 unfold aY.f
 have m0 := dn.mono
 exact yL
def aY.T15 : Bool × List (List Nat × List Nat) := (true, [([], []), ([0], [0]), ([1], [1]), ([2], [2]), ([2], [2]), ([3, 4, 2], [2, 3, 4]), ([2, 5], [2, 5]), ([6, 2], [6]), ([7], [7]), ([8, 7], [7, 8]), ([9, 7], [7, 9]), ([10, 7, 7], [7, 10]), ([7, 11], [7, 11]), ([12, 11], [12]), ([13], [13]), ([14, 13], [13, 14]), ([13, 13], [13]), ([15, 16, 16, 13], [13, 15, 16]), ([13, 17], [13, 17]), ([18, 17, 0, 1, 2, 3, 4, 5, 6, 7, 8, 9, 10, 11, 12, 13, 14, 15, 16, 17, 18], [18])])
def aY.B15 : List Nat := [0, 1, 3, 7, 7, 31, 63, 127, 255, 511, 1023, 2047, 4095, 8191, 16383, 32767, 16383, 131071, 262143, 524287]
theorem aY.Kz : nH .any (opsOf Try.f20 15) = aY.T15 := by kernel_rfl
theorem aY.Ib : oM aY.T15.2 aY.B15 = true := by kernel_rfl
end Go.Proofs.Ytlenihbmafkegaa.Q
end
section
set_option linter.unusedVariables false
set_option linter.unusedSimpArgs false
namespace Go.Proofs.Ytlenihbmafkegaa.Q
open Go Go.RowKit Go.Proofs.YtlenihbmafkegaaW.PrintWords Go.Proofs.YtlenihbmafkegaaW.PrintLast Go.Proofs.YtlenihbmafkegaaW.PrintMore
attribute [local go_sem] dC dA dP dO cZ cO dB dw
set_option maxHeartbeats 8000000 in
set_option maxRecDepth 100000 in
theorem aY.calls (k : Nat) (a0 : Int) (A1 : Option Addr) (c1 : Nat) (l1 : List Int) (r : Bool) (w : World) (hr1 : Kd.C (Kd.int .i64) w A1 l1.length l1) (hc1 : l1.length ≤ c1) (h : aY.f k a0 l1 = some r) :
 Calls Try.prog 20 #[.int .i64 a0, .slice A1 l1.length c1] w fun e w' => e = .returned (.bool r) ∧ Below w.heap.size w w' := by
 have HR := ae.mk hr1
 have HC := ae.mk hc1
 unfold aY.f at h
 have HS := PS.new w
 have H := ae.mk h
 clear h hr1 hc1
 (repeat' (first | (with_reducible exact absurd H.out (Option.some_ne_none _).symm) | (first | replace H := qB1 H (by assumption) | replace H := qB0 H (by assumption) | replace H := qE1 H (by assumption) | replace H := qE0 H (by assumption) | replace H := qD1 H (by assumption) | replace H := qD0 H (by assumption)) | (refine qB H ?_ ?_ <;> clear H <;> intro cb_ H <;> (try subst cb_)) | (refine qE H ?_ ?_ <;> clear H <;> intro cb_ cn_ H) | (refine qD H ?_ ?_ <;> clear H <;> intro cp_ cb_ H <;> (try simp only [ge_iff_le, gt_iff_lt] at cp_ cb_)) | (rcases k with _ | k; (simp only [aY.j0] at H; first | exact H.out.elim | exact absurd H.out (Option.some_ne_none _).symm); simp only [aY.j0] at H) | (rcases k with _ | k; (simp only [aY.j1] at H; first | exact H.out.elim | exact absurd H.out (Option.some_ne_none _).symm); simp only [aY.j1] at H) | (rcases k with _ | k; (simp only [aY.j2] at H; first | exact H.out.elim | exact absurd H.out (Option.some_ne_none _).symm); simp only [aY.j2] at H)))
 all_goals
  (try (have e_ := at0 HR (by assumption); obtain ⟨ad, rfl, hx, q0⟩ := e_))
  go_enter Try.func20, Try.ntmps20
  go_wp2_with (first | ((with_reducible refine gC 32 rfl ?_); refine pV .bool 32 rfl Try.func32 (stP HS) H (fun t h => dn.calls _ _ _ _ t _ (cT HR) HC.out h) ?_; clear HS H; intro t w' HS H; (try dsimp only at H)) | ((with_reducible refine gC 33 rfl ?_); refine pV .bool 33 rfl Try.func33 (stP HS) H (fun t h => dH.calls _ _ _ t _ (cT HR) HC.out h) ?_; clear HS H; intro t w' HS H; (try dsimp only at H)) | ((with_reducible refine gC 34 rfl ?_); refine pV .bool 34 rfl Try.func34 (stP HS) H (fun t h => ofD (tY.calls _ _ _ t _ (cT HR) HC.out h)) ?_; clear HS H; intro t w' HS H; (try dsimp only at H)) | ((with_reducible refine gC 37 rfl ?_); refine pV .bool 37 rfl Try.func37 (stP HS) H (fun t h => ofD (gK.calls _ _ _ _ _ t _ (cT HR) HC.out h)) ?_; clear HS H; intro t w' HS H; (try dsimp only at H)))
 all_goals first
  | (obtain rfl := Option.some.inj H.out; go_ret; exact ⟨by first | rfl | (simp; done) | (simp [*]; done), (stP HS).below⟩)
  | ((try simp only [Act.put, List.setIfInBounds_toArray, List.set_cons_zero, List.set_cons_succ]); obtain rfl := Option.some.inj H.out; refine mi (n := 20) (S := fun w' => True) (ds := []) #[false, false, false, false, false, false, false, false, false, false, false, false, false, false, false, false, false, false, false, false] (by kernel_rfl) rfl rfl trivial (fun hHeld => ?_); refine mQ aY.Kz aY.Ib (fun HT_ HW_ => ?_); (first | refine pA 0 28 (bQ 20 1) ?_ | refine pU 0 28 (bQ 20 1) ?_); (first | refine pA 1 29 (bQ 20 3) ?_ | refine pU 1 29 (bQ 20 3) ?_); (first | refine pA 2 30 (bQ 20 7) ?_ | refine pU 2 30 (bQ 20 7) ?_); (first | refine pA 3 31 (bQ 20 15) ?_ | refine pU 3 31 (bQ 20 15) ?_); (first | refine pA 4 32 (bQ 20 31) ?_ | refine pU 4 32 (bQ 20 31) ?_); (first | refine pA 5 33 (bQ 20 63) ?_ | refine pU 5 33 (bQ 20 63) ?_); (first | refine pA 6 34 (bQ 20 127) ?_ | refine pU 6 34 (bQ 20 127) ?_); (first | refine pA 7 35 (bQ 20 255) ?_ | refine pU 7 35 (bQ 20 255) ?_); (first | refine pA 8 36 (bQ 20 511) ?_ | refine pU 8 36 (bQ 20 511) ?_); (first | refine pA 9 37 (bQ 20 1023) ?_ | refine pU 9 37 (bQ 20 1023) ?_); (first | refine pA 10 38 (bQ 20 2047) ?_ | refine pU 10 38 (bQ 20 2047) ?_); (first | refine pA 11 39 (bQ 20 4095) ?_ | refine pU 11 39 (bQ 20 4095) ?_); (first | refine pA 12 40 (bQ 20 8191) ?_ | refine pU 12 40 (bQ 20 8191) ?_); (first | refine pA 13 41 (bQ 20 16383) ?_ | refine pU 13 41 (bQ 20 16383) ?_); (first | refine pA 14 42 (bQ 20 32767) ?_ | refine pU 14 42 (bQ 20 32767) ?_); (first | refine pA 15 43 (bQ 20 65535) ?_ | refine pU 15 43 (bQ 20 65535) ?_); (first | refine pA 16 44 (bQ 20 131071) ?_ | refine pU 16 44 (bQ 20 131071) ?_); (first | refine pA 17 45 (bQ 20 262143) ?_ | refine pU 17 45 (bQ 20 262143) ?_); (first | refine pA 18 46 (bQ 20 524287) ?_ | refine pU 18 46 (bQ 20 524287) ?_); (first | refine pA 19 4 (bQ 20 1048575) ?_ | refine pU 19 4 (bQ 20 1048575) ?_); refine nR (qP HT_.out (by kernel_rfl)) ?_; try go_wp2; go_ret; exact ⟨rfl, (stP HS).below⟩)
  | skip
 all_goals
  obtain ⟨t, ht, h⟩ := Option.bind_eq_some_iff.mp H.out
  replace H := ae.mk h
  (try simp only [Act.put, List.setIfInBounds_toArray, List.set_cons_zero, List.set_cons_succ])
  cases t
 all_goals first
  | (obtain rfl := Option.some.inj H.out; refine mi (n := 20) (S := (fun w' => w'.cell? ad = some (.int .i64 (rd l1 0)))) (ds := []) #[false, false, false, false, false, false, false, false, false, false, false, false, false, false, false, false, false, false, false, false] (by kernel_rfl) rfl rfl hx (fun hHeld => ?_); refine mQ aY.Kz aY.Ib (fun HT_ HW_ => ?_); refine pA 0 28 (bQ 20 1) ?_; refine pA 1 29 (bQ 20 3) ?_; refine pA 2 30 (bQ 20 7) ?_; refine pA 3 31 (bQ 20 15) ?_; refine pA 4 32 (bQ 20 31) ?_; refine pA 5 33 (bQ 20 63) ?_; refine pA 6 34 (bQ 20 127) ?_; refine pA 7 35 (bQ 20 255) ?_; refine pA 8 36 (bQ 20 511) ?_; refine pA 9 37 (bQ 20 1023) ?_; refine lw (i := 10) (N := some 38) (v := ?_) (a' := ?_) #[true, true, true, true, true, true, true, true, true, true, true, false, false, false, false, false, false, false, false, false] rfl rfl (vS HT_.out HW_.out (by kernel_rfl)) (fun _ _ _ h => h) (Or.inl ⟨by rfl, ?_⟩) hHeld ?_ ?_; rotate_left; (intro w' s0; go_simp; with_reducible rfl); rotate_left; (simp only [Act.put, List.setIfInBounds_toArray, List.set_cons_zero, List.set_cons_succ, gB, iP]; rfl); refine rO (i := 11) (N := some 39) (bQ 20 4095) rfl rfl (BJ HT_.out (by kernel_rfl)) (by decide) (fun K hK => ?_); refine oI Try.func26 (by kernel_rfl) rfl #[.int .i64 (rd l1 0)] (by rfl) rfl rfl Z6 ?_; refine (fF.calls _ false _ ht).mono ?_; rintro e w' ⟨rfl, ⟨nd, rfl⟩⟩; refine ⟨_, rfl, ?_⟩; refine hK.out _ _ hx (fun hHeld => ?_); clear hK K; refine kH (a' := ?_) ?_ ?_; rotate_left; (show Act.put _ (some 39) _ = _; simp only [Act.put, List.setIfInBounds_toArray, List.set_cons_zero, List.set_cons_succ, gB, iP]; rfl); refine pA 12 40 (bQ 20 8191) ?_; refine pA 13 41 (bQ 20 16383) ?_; refine pU 14 42 (bQ 20 32767) ?_; refine pU 15 43 (bQ 20 65535) ?_; refine pU 16 44 (bQ 20 131071) ?_; refine pU 17 45 (bQ 20 262143) ?_; refine pA 18 46 (bQ 20 524287) ?_; refine pA 19 4 (bQ 20 1048575) ?_; refine nR (qP HT_.out (by kernel_rfl)) ?_; try go_wp2; go_ret; exact ⟨rfl, (stP HS).below⟩)
  | skip
 all_goals
  have h1 : (1 : Int) ≤ (l1.length : Int) := by have := of_eq_true q0; omega
  replace H := qD1 (qB1 H rfl) (eq_true h1)
  obtain ⟨t2, ht2, h⟩ := Option.bind_eq_some_iff.mp H.out
  obtain rfl := Option.some.inj h
  obtain ⟨i0, hi0, _, hsz, _⟩ := info_parts info3
  obtain ⟨A2, hcut, hA2, hC2⟩ := o6 (P := Try.prog) (Value.int .i64) 0 45 3 .i64 Try.underlying45 hi0 hsz (some ad) c1 l1 1 (by omega) h1 HC.out
  have HR2 := ae.mk (Kd.lN (h1 := fun _ => rfl) (hA2 _ (Kd.jA HR.out)))
  clear hA2 hi0 hsz h H
  go_region_held3 (fun w' => w'.cell? ad = some (.int .i64 (rd l1 0))) (first | exact hx | go_keep) (first | (go_at_call 26; refine (fF.calls _ true _ ht).mono ?_; rintro e w' ⟨rfl, ⟨nd, rfl⟩⟩) | (go_at_call 36; refine (tC 5 _).mono ?_; rintro e w' ⟨gI, rfl, hbk, hge, hb⟩; have hx1 := (hb.cell (World.block_lt_of_cell? _ _ hx)).trans hx; have HS1 := PS.KC hb (stP HS); clear hx HS hge hb; have hx := hx1; have HS := HS1; clear hx1 HS1) | (go_at_call 34; (try rw [show l1.length - 1 = (l1.drop 1).length from List.length_drop.symm]); refine (lm.calls _ _ (l1.drop 1) 5 t2 _ (Kd.ik HR2.out HS.below) hC2 ht2 (hj := hbk)).mono ?_; rintro e w' ⟨rfl, hb⟩; have hx1 := (hb.cell (World.block_lt_of_cell? _ _ hx)).trans hx; have HS1 := PS.KC hb (stP HS); clear hx HS hb; have hx := hx1; have HS := HS1; clear hx1 HS1))
  go_wp2; go_ret; exact ⟨rfl, (stP HS).below⟩
end Go.Proofs.Ytlenihbmafkegaa.Q
end
