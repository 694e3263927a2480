/- Walks over functions of the program, words for them, and what the functions come to; of each text only what this claim uses; no condition. -/
import Derived.Test.YtlenihbmafkegaaZSA0
import Derived.Test.YtlenihbmafkegaaZSA1
import Derived.Test.YtlenihbmafkegaaZSA2
import Derived.Test.YtlenihbmafkegaaZSA3
section
set_option linter.unusedVariables false
set_option linter.unusedSimpArgs false
namespace Go.Proofs.Ytlenihbmafkegaa.Q
open Go Go.RowKit Go.Proofs.YtlenihbmafkegaaW.PrintWords Go.Proofs.YtlenihbmafkegaaW.PrintLast Go.Proofs.YtlenihbmafkegaaW.PrintMore
theorem kN {β : Type} {p : Prop} [Decidable p] {a : Option β} {r : β} (H : ae ((if p then a else none) = some r)) : p := by
 by_cases h : p
 ·exact h
 have := H.out
 rw [if_neg h] at this
 cases this
theorem wI {β : Type} {p : Prop} [Decidable p] {a b : Option β} {r : β} (h : p) (H : ae ((if p then a else b) = some r)) : ae (a = some r) := ⟨by have := H.out; rwa [if_pos h] at this⟩
theorem wE {β : Type} {p : Prop} [Decidable p] {a b : Option β} {r : β} (h : ¬ p) (H : ae ((if p then a else b) = some r)) : ae (b = some r) := ⟨by have := H.out; rwa [if_neg h] at this⟩
def qc (F : kz) (k : Nat) (l : List S40) (x0 : Int) (x2 : ByteArray) (xs : List Int) (out : List S56) : Option (List S56) :=
 if x0 = 6 then if 0 < xs.length then (ig F k l (xs.getD 0 0) [⟨#[108, 101, 116]⟩, x2, ⟨#[61]⟩] out).bind some else none
 else if x0 = 7 then if 0 < xs.length then (ig F k l (xs.getD 0 0) [x2, ⟨#[61]⟩] out).bind some else none
 else if x0 = 8 then if 2 < xs.length then (mD F k l (xs.getD 0 0) (xs.getD 1 0) out).bind fun a => (ig F k l (xs.getD 2 0) [⟨#[61]⟩] a).bind some else none
 else if x0 = 9 then if 1 < xs.length then (fD k [⟨#[105, 102]⟩] out).bind fun a => (F l (xs.getD 0 0) a).bind fun b => (F l (xs.getD 1 0) b).bind fun c => if 2 < xs.length then (fD k [⟨#[101, 108, 115, 101]⟩] c).bind fun d => (F l (xs.getD 2 0) d).bind some else some c else none
 else if x0 = 10 then if 1 < xs.length then (fD k [⟨#[119, 104, 105, 108, 101]⟩] out).bind fun a => (F l (xs.getD 0 0) a).bind fun b => (F l (xs.getD 1 0) b).bind some else none
 else if x0 = 11 then (fD k [⟨#[98, 114, 101, 97, 107]⟩, ⟨#[59]⟩] out).bind some
 else if x0 = 12 then (fD k [⟨#[99, 111, 110, 116, 105, 110, 117, 101]⟩, ⟨#[59]⟩] out).bind some
 else if x0 = 16 then (fD k [⟨#[121, 105, 101, 108, 100]⟩, ⟨#[59]⟩] out).bind some
 else if x0 = 13 then if 0 < xs.length then (ig F k l (xs.getD 0 0) [⟨#[114, 101, 116, 117, 114, 110]⟩] out).bind some else none
 else if x0 = 14 then if 0 < xs.length then (ig F k l (xs.getD 0 0) [⟨#[112, 117, 116]⟩] out).bind some else none
 else if x0 = 15 then if 0 < xs.length then (ig F k l (xs.getD 0 0) [⟨#[101, 109, 105, 116]⟩] out).bind some else none
 else if 0 < xs.length then (ig F k l (xs.getD 0 0) [] out).bind some else none
set_option maxHeartbeats 8000000 in
set_option maxRecDepth 100000 in
theorem KA (F : kz) (HF : jP F) (k g : Nat) (l : List S40) (out r : List S56) (x0 x1 : Int) (x2 : ByteArray) (x3 : Int) (x4 : ByteArray) (A : Option Addr) (c : Nat) (xs : List Int) (w0 w : World) (hI : Wr w0 w g l out) (hB : Below w0.heap.size w0 w) (hs : RI (Kd.int .i64) 3 w A xs) (hc : xs.length ≤ c) (h : qc F k l x0 x2 xs out = some r) :
 Calls Try.prog 40 #[.pointer (some ⟨g, 0, none⟩), .agg #[.int .i64 x0, .int .i64 x1, .string x2, .int .i64 x3, .string x4], .slice A xs.length c] w (kC w0 w g l r) := by
 unfold qc at h
 have HS := (Ws.new hI hB).int hs
 have H := ae.mk h
 clear h hI hB hs
 go_enter Try.func40, Try.ntmps40
 go_upto_region 3 with (first | ((with_reducible refine bI (N := 4) rfl ?_); refine Fv (N := 4) (wsT HS) (by first | (go_simp; done) | (go_simp; rfl)) ?_; clear HS; intro gb w' HS; have hx0 : _ = some (Value.int .i64 x0) := HS.cb (.head _) 0; have hx2 : _ = some (Value.string x2) := HS.cb (.head _) 2))
 by_cases c6 : x0 = 6
 ·replace H := wI c6 H
  have c6b : (x0 == 6) = true := beq_iff_eq.mpr c6
  clear c6
  have hl := kN H
  replace H := wI hl H
  have q1 := eq_true (show 0 < xs.length by omega)
  have p1 := eq_true (show (0 : Int) < (xs.length : Int) by omega)
  obtain ⟨ad, rfl⟩ := (HS.i _ (.head _)).ad (show 0 < xs.length by omega)
  obtain ⟨a, ea⟩ : ∃ x, x = xs.getD 0 0 := ⟨_, rfl⟩
  rw [← ea] at H
  have Ea := ae.mk ea
  have HLN := ae.mk hl
  have hk0 := (HS.i _ (.head _)).k0 (show 0 < xs.length by have := HLN.out; omega); rw [← Ea.out] at hk0; clear ea
  clear hl
  go_wp2
  go_region_held3 (fun w' => w'.cell? ad = some (.int .i64 a) ∧ w'.cell? ⟨gb, 2, none⟩ = some (.string x2)) (first | exact ⟨hk0, hx2⟩ | go_keep) (first | (go_at_call 62; (first | ((with_reducible refine fO ?_); refine nD F HF (wsT HS) H rfl rfl (Nat.le_of_ble_eq_true rfl) rfl ?_) | ((with_reducible refine fP ?_); refine nG F HF (wsT HS) H rfl rfl (Nat.le_of_ble_eq_true rfl) rfl ?_) | refine nC F HF (wsT HS) H ?_); clear hk0; clear hx2; clear HS H; intro q w' HS H; (try dsimp only at H); have hk0 := (HS.i _ (.head _)).k0 (show 0 < xs.length by have := HLN.out; omega); rw [← Ea.out] at hk0; have hx2 : _ = some (Value.string x2) := HS.cb (.head _) 2))
  have h_ := H.out
  cases h_
  go_end0
  exact (wsT HS).back
 replace H := wE c6 H
 have c6b : (x0 == 6) = false := beq_eq_false_iff_ne.mpr c6
 clear c6
 by_cases c7 : x0 = 7
 ·replace H := wI c7 H
  have c7b : (x0 == 7) = true := beq_iff_eq.mpr c7
  clear c7
  have hl := kN H
  replace H := wI hl H
  have q1 := eq_true (show 0 < xs.length by omega)
  have p1 := eq_true (show (0 : Int) < (xs.length : Int) by omega)
  obtain ⟨ad, rfl⟩ := (HS.i _ (.head _)).ad (show 0 < xs.length by omega)
  obtain ⟨a, ea⟩ : ∃ x, x = xs.getD 0 0 := ⟨_, rfl⟩
  rw [← ea] at H
  have Ea := ae.mk ea
  have HLN := ae.mk hl
  have hk0 := (HS.i _ (.head _)).k0 (show 0 < xs.length by have := HLN.out; omega); rw [← Ea.out] at hk0; clear ea
  clear hl
  go_wp2
  go_region_held3 (fun w' => w'.cell? ad = some (.int .i64 a) ∧ w'.cell? ⟨gb, 2, none⟩ = some (.string x2)) (first | exact ⟨hk0, hx2⟩ | go_keep) (first | (go_at_call 62; (first | ((with_reducible refine fO ?_); refine nD F HF (wsT HS) H rfl rfl (Nat.le_of_ble_eq_true rfl) rfl ?_) | ((with_reducible refine fP ?_); refine nG F HF (wsT HS) H rfl rfl (Nat.le_of_ble_eq_true rfl) rfl ?_) | refine nC F HF (wsT HS) H ?_); clear hk0; clear hx2; clear HS H; intro q w' HS H; (try dsimp only at H); have hk0 := (HS.i _ (.head _)).k0 (show 0 < xs.length by have := HLN.out; omega); rw [← Ea.out] at hk0; have hx2 : _ = some (Value.string x2) := HS.cb (.head _) 2))
  have h_ := H.out
  cases h_
  go_end0
  exact (wsT HS).back
 replace H := wE c7 H
 have c7b : (x0 == 7) = false := beq_eq_false_iff_ne.mpr c7
 clear c7
 by_cases c8 : x0 = 8
 ·replace H := wI c8 H
  have c8b : (x0 == 8) = true := beq_iff_eq.mpr c8
  clear c8
  have hl := kN H
  replace H := wI hl H
  have q1 := eq_true (show 0 < xs.length by omega)
  have q2 := eq_true (show 1 < xs.length by omega)
  have q3 := eq_true (show 2 < xs.length by omega)
  have p1 := eq_true (show (0 : Int) < (xs.length : Int) by omega)
  have p2 := eq_true (show (1 : Int) < (xs.length : Int) by omega)
  have p3 := eq_true (show (2 : Int) < (xs.length : Int) by omega)
  obtain ⟨ad, rfl⟩ := (HS.i _ (.head _)).ad (show 0 < xs.length by omega)
  obtain ⟨a, ea⟩ : ∃ x, x = xs.getD 0 0 := ⟨_, rfl⟩
  obtain ⟨b, eb⟩ : ∃ x, x = xs.getD 1 0 := ⟨_, rfl⟩
  obtain ⟨e, ee⟩ : ∃ x, x = xs.getD 2 0 := ⟨_, rfl⟩
  rw [← ea, ← eb, ← ee] at H
  have Ea := ae.mk ea
  have Eb := ae.mk eb
  have Ee := ae.mk ee
  have HLN := ae.mk hl
  have hk0 := (HS.i _ (.head _)).k0 (show 0 < xs.length by have := HLN.out; omega); rw [← Ea.out] at hk0; have hk1 := RI.k 0 (HS.i _ (.head _)) (show 1 < xs.length by have := HLN.out; omega); rw [← Eb.out] at hk1; have hk2 := RI.k 1 (HS.i _ (.head _)) (show 2 < xs.length by have := HLN.out; omega); rw [← Ee.out] at hk2; clear ea eb ee
  clear hl
  go_wp2
  go_region_held3 (fun w' => w'.cell? ad = some (.int .i64 a) ∧ w'.cell? ⟨ad.block, ad.off + 1, none⟩ = some (.int .i64 b)) (first | exact ⟨hk0, hk1⟩ | go_keep) (first | (go_at_call 63; refine wCc (wsT HS) H (fun q HS => Hf F HF k g l _ q _ _ w0 _ HS.wr HS.below) ?_; clear hk0 hk1 hk2; clear hx2; clear HS H; intro q w' HS H; (try dsimp only at H); have hk0 := (HS.i _ (.head _)).k0 (show 0 < xs.length by have := HLN.out; omega); rw [← Ea.out] at hk0; have hk1 := RI.k 0 (HS.i _ (.head _)) (show 1 < xs.length by have := HLN.out; omega); rw [← Eb.out] at hk1; have hk2 := RI.k 1 (HS.i _ (.head _)) (show 2 < xs.length by have := HLN.out; omega); rw [← Ee.out] at hk2; have hx2 : _ = some (Value.string x2) := HS.cb (.head _) 2))
  go_wp2_with (first | (go_at_call 62; (first | ((with_reducible refine fO ?_); refine nD F HF (wsT HS) H rfl rfl (Nat.le_of_ble_eq_true rfl) rfl ?_) | ((with_reducible refine fP ?_); refine nG F HF (wsT HS) H rfl rfl (Nat.le_of_ble_eq_true rfl) rfl ?_) | refine nC F HF (wsT HS) H ?_); clear hk0 hk1 hk2; clear hx2; clear HS H; intro q w' HS H; (try dsimp only at H); have hk0 := (HS.i _ (.head _)).k0 (show 0 < xs.length by have := HLN.out; omega); rw [← Ea.out] at hk0; have hk1 := RI.k 0 (HS.i _ (.head _)) (show 1 < xs.length by have := HLN.out; omega); rw [← Eb.out] at hk1; have hk2 := RI.k 1 (HS.i _ (.head _)) (show 2 < xs.length by have := HLN.out; omega); rw [← Ee.out] at hk2; have hx2 : _ = some (Value.string x2) := HS.cb (.head _) 2))
  have h_ := H.out
  cases h_
  go_end0
  exact (wsT HS).back
 replace H := wE c8 H
 have c8b : (x0 == 8) = false := beq_eq_false_iff_ne.mpr c8
 clear c8
 by_cases c9 : x0 = 9
 ·replace H := wI c9 H
  have c9b : (x0 == 9) = true := beq_iff_eq.mpr c9
  clear c9
  have hl := kN H
  replace H := wI hl H
  have q1 := eq_true (show 0 < xs.length by omega)
  have q2 := eq_true (show 1 < xs.length by omega)
  have p1 := eq_true (show (0 : Int) < (xs.length : Int) by omega)
  have p2 := eq_true (show (1 : Int) < (xs.length : Int) by omega)
  obtain ⟨ad, rfl⟩ := (HS.i _ (.head _)).ad (show 0 < xs.length by omega)
  obtain ⟨a, ea⟩ : ∃ x, x = xs.getD 0 0 := ⟨_, rfl⟩
  obtain ⟨b, eb⟩ : ∃ x, x = xs.getD 1 0 := ⟨_, rfl⟩
  rw [← ea, ← eb] at H
  have Ea := ae.mk ea
  have Eb := ae.mk eb
  have HLN := ae.mk hl
  have hk0 := (HS.i _ (.head _)).k0 (show 0 < xs.length by have := HLN.out; omega); rw [← Ea.out] at hk0; have hk1 := RI.k 0 (HS.i _ (.head _)) (show 1 < xs.length by have := HLN.out; omega); rw [← Eb.out] at hk1; clear ea eb
  clear hl
  by_cases hm : 2 < xs.length
  ·have q3 := eq_true hm
   have p3 := eq_true (show (2 : Int) < (xs.length : Int) by omega)
   have d3 := decide_eq_true (show (2 : Int) < (xs.length : Int) by omega)
   simp only [q3, if_true] at H
   obtain ⟨e, ee⟩ : ∃ x, x = xs.getD 2 0 := ⟨_, rfl⟩
   rw [← ee] at H
   have Ee := ae.mk ee
   replace HLN := ae.mk hm
   have hk2 := RI.k 1 (HS.i _ (.head _)) (show 2 < xs.length by have := HLN.out; omega)
   rw [← ee] at hk2
   clear ee hm
   go_wp2_with (first | (go_at_call 64; (first | ((with_reducible refine fO ?_); refine jw (wsT HS) H rfl rfl (Nat.le_of_ble_eq_true rfl) rfl ?_) | ((with_reducible refine fP ?_); refine jf (wsT HS) H rfl rfl (Nat.le_of_ble_eq_true rfl) rfl ?_)); clear hk0 hk1 hk2; (try clear hx2); clear HS H; intro q w' HS H; (try dsimp only at H); have hk0 := (HS.i _ (.head _)).k0 (show 0 < xs.length by have := HLN.out; omega); rw [← Ea.out] at hk0; have hk1 := RI.k 0 (HS.i _ (.head _)) (show 1 < xs.length by have := HLN.out; omega); rw [← Eb.out] at hk1; have hk2 := RI.k 1 (HS.i _ (.head _)) (show 2 < xs.length by have := HLN.out; omega); rw [← Ee.out] at hk2) | (go_at_call 22; refine wCc (wsT HS) H (fun q HS => HF g l _ _ q w0 _ HS.wr HS.below) ?_; clear hk0 hk1 hk2; (try clear hx2); clear HS H; intro q w' HS H; (try dsimp only at H); have hk0 := (HS.i _ (.head _)).k0 (show 0 < xs.length by have := HLN.out; omega); rw [← Ea.out] at hk0; have hk1 := RI.k 0 (HS.i _ (.head _)) (show 1 < xs.length by have := HLN.out; omega); rw [← Eb.out] at hk1; have hk2 := RI.k 1 (HS.i _ (.head _)) (show 2 < xs.length by have := HLN.out; omega); rw [← Ee.out] at hk2) | ((with_reducible refine gC 22 rfl ?_); refine wC 22 rfl Try.func22 (wsT HS) H (fun q HS => HF g l _ _ q w0 _ HS.wr HS.below) ?_; clear hk0 hk1 hk2; (try clear hx2); clear HS H; intro q w' HS H; (try dsimp only at H); have hk0 := (HS.i _ (.head _)).k0 (show 0 < xs.length by have := HLN.out; omega); rw [← Ea.out] at hk0; have hk1 := RI.k 0 (HS.i _ (.head _)) (show 1 < xs.length by have := HLN.out; omega); rw [← Eb.out] at hk1; have hk2 := RI.k 1 (HS.i _ (.head _)) (show 2 < xs.length by have := HLN.out; omega); rw [← Ee.out] at hk2))
   have h_ := H.out
   cases h_
   go_end0
   exact (wsT HS).back
  have q3 := eq_false hm
  have d3 : decide ((2 : Int) < (xs.length : Int)) = false := decide_eq_false (by omega)
  simp only [q3, if_false] at H
  clear hm
  go_wp2_with (first | (go_at_call 64; (first | ((with_reducible refine fO ?_); refine jw (wsT HS) H rfl rfl (Nat.le_of_ble_eq_true rfl) rfl ?_) | ((with_reducible refine fP ?_); refine jf (wsT HS) H rfl rfl (Nat.le_of_ble_eq_true rfl) rfl ?_)); clear hk0 hk1; (try clear hx2); clear HS H; intro q w' HS H; (try dsimp only at H); have hk0 := (HS.i _ (.head _)).k0 (show 0 < xs.length by have := HLN.out; omega); rw [← Ea.out] at hk0; have hk1 := RI.k 0 (HS.i _ (.head _)) (show 1 < xs.length by have := HLN.out; omega); rw [← Eb.out] at hk1) | (go_at_call 22; refine wCc (wsT HS) H (fun q HS => HF g l _ _ q w0 _ HS.wr HS.below) ?_; clear hk0 hk1; (try clear hx2); clear HS H; intro q w' HS H; (try dsimp only at H); have hk0 := (HS.i _ (.head _)).k0 (show 0 < xs.length by have := HLN.out; omega); rw [← Ea.out] at hk0; have hk1 := RI.k 0 (HS.i _ (.head _)) (show 1 < xs.length by have := HLN.out; omega); rw [← Eb.out] at hk1) | ((with_reducible refine gC 22 rfl ?_); refine wC 22 rfl Try.func22 (wsT HS) H (fun q HS => HF g l _ _ q w0 _ HS.wr HS.below) ?_; clear hk0 hk1; (try clear hx2); clear HS H; intro q w' HS H; (try dsimp only at H); have hk0 := (HS.i _ (.head _)).k0 (show 0 < xs.length by have := HLN.out; omega); rw [← Ea.out] at hk0; have hk1 := RI.k 0 (HS.i _ (.head _)) (show 1 < xs.length by have := HLN.out; omega); rw [← Eb.out] at hk1))
  have h_ := H.out
  cases h_
  go_end0
  exact (wsT HS).back
 replace H := wE c9 H
 have c9b : (x0 == 9) = false := beq_eq_false_iff_ne.mpr c9
 clear c9
 by_cases c10 : x0 = 10
 ·replace H := wI c10 H
  have c10b : (x0 == 10) = true := beq_iff_eq.mpr c10
  clear c10
  have hl := kN H
  replace H := wI hl H
  have q1 := eq_true (show 0 < xs.length by omega)
  have q2 := eq_true (show 1 < xs.length by omega)
  have p1 := eq_true (show (0 : Int) < (xs.length : Int) by omega)
  have p2 := eq_true (show (1 : Int) < (xs.length : Int) by omega)
  obtain ⟨ad, rfl⟩ := (HS.i _ (.head _)).ad (show 0 < xs.length by omega)
  obtain ⟨a, ea⟩ : ∃ x, x = xs.getD 0 0 := ⟨_, rfl⟩
  obtain ⟨b, eb⟩ : ∃ x, x = xs.getD 1 0 := ⟨_, rfl⟩
  rw [← ea, ← eb] at H
  have Ea := ae.mk ea
  have Eb := ae.mk eb
  have HLN := ae.mk hl
  have hk0 := (HS.i _ (.head _)).k0 (show 0 < xs.length by have := HLN.out; omega); rw [← Ea.out] at hk0; have hk1 := RI.k 0 (HS.i _ (.head _)) (show 1 < xs.length by have := HLN.out; omega); rw [← Eb.out] at hk1; clear ea eb
  clear hl
  go_wp2_with (first | (go_at_call 64; (first | ((with_reducible refine fO ?_); refine jw (wsT HS) H rfl rfl (Nat.le_of_ble_eq_true rfl) rfl ?_) | ((with_reducible refine fP ?_); refine jf (wsT HS) H rfl rfl (Nat.le_of_ble_eq_true rfl) rfl ?_)); clear hk0 hk1; (try clear hx2); clear HS H; intro q w' HS H; (try dsimp only at H); have hk0 := (HS.i _ (.head _)).k0 (show 0 < xs.length by have := HLN.out; omega); rw [← Ea.out] at hk0; have hk1 := RI.k 0 (HS.i _ (.head _)) (show 1 < xs.length by have := HLN.out; omega); rw [← Eb.out] at hk1) | (go_at_call 22; refine wCc (wsT HS) H (fun q HS => HF g l _ _ q w0 _ HS.wr HS.below) ?_; clear hk0 hk1; (try clear hx2); clear HS H; intro q w' HS H; (try dsimp only at H); have hk0 := (HS.i _ (.head _)).k0 (show 0 < xs.length by have := HLN.out; omega); rw [← Ea.out] at hk0; have hk1 := RI.k 0 (HS.i _ (.head _)) (show 1 < xs.length by have := HLN.out; omega); rw [← Eb.out] at hk1) | ((with_reducible refine gC 22 rfl ?_); refine wC 22 rfl Try.func22 (wsT HS) H (fun q HS => HF g l _ _ q w0 _ HS.wr HS.below) ?_; clear hk0 hk1; (try clear hx2); clear HS H; intro q w' HS H; (try dsimp only at H); have hk0 := (HS.i _ (.head _)).k0 (show 0 < xs.length by have := HLN.out; omega); rw [← Ea.out] at hk0; have hk1 := RI.k 0 (HS.i _ (.head _)) (show 1 < xs.length by have := HLN.out; omega); rw [← Eb.out] at hk1))
  have h_ := H.out
  cases h_
  go_end0
  exact (wsT HS).back
 replace H := wE c10 H
 have c10b : (x0 == 10) = false := beq_eq_false_iff_ne.mpr c10
 clear c10
 by_cases c11 : x0 = 11
 ·replace H := wI c11 H
  have c11b : (x0 == 11) = true := beq_iff_eq.mpr c11
  clear c11
  go_wp2_with (first | (go_at_call 64; (first | ((with_reducible refine fO ?_); refine jw (wsT HS) H rfl rfl (Nat.le_of_ble_eq_true rfl) rfl ?_) | ((with_reducible refine fP ?_); refine jf (wsT HS) H rfl rfl (Nat.le_of_ble_eq_true rfl) rfl ?_)); (try clear hx2); clear HS H; intro q w' HS H; (try dsimp only at H)))
  have h_ := H.out
  cases h_
  go_end0
  exact (wsT HS).back
 replace H := wE c11 H
 have c11b : (x0 == 11) = false := beq_eq_false_iff_ne.mpr c11
 clear c11
 by_cases c12 : x0 = 12
 ·replace H := wI c12 H
  have c12b : (x0 == 12) = true := beq_iff_eq.mpr c12
  clear c12
  go_wp2_with (first | (go_at_call 64; (first | ((with_reducible refine fO ?_); refine jw (wsT HS) H rfl rfl (Nat.le_of_ble_eq_true rfl) rfl ?_) | ((with_reducible refine fP ?_); refine jf (wsT HS) H rfl rfl (Nat.le_of_ble_eq_true rfl) rfl ?_)); (try clear hx2); clear HS H; intro q w' HS H; (try dsimp only at H)))
  have h_ := H.out
  cases h_
  go_end0
  exact (wsT HS).back
 replace H := wE c12 H
 have c12b : (x0 == 12) = false := beq_eq_false_iff_ne.mpr c12
 clear c12
 by_cases c16 : x0 = 16
 ·replace H := wI c16 H
  have c16b : (x0 == 16) = true := beq_iff_eq.mpr c16
  clear c16
  go_wp2_with (first | (go_at_call 64; (first | ((with_reducible refine fO ?_); refine jw (wsT HS) H rfl rfl (Nat.le_of_ble_eq_true rfl) rfl ?_) | ((with_reducible refine fP ?_); refine jf (wsT HS) H rfl rfl (Nat.le_of_ble_eq_true rfl) rfl ?_)); (try clear hx2); clear HS H; intro q w' HS H; (try dsimp only at H)))
  have h_ := H.out
  cases h_
  go_end0
  exact (wsT HS).back
 replace H := wE c16 H
 have c16b : (x0 == 16) = false := beq_eq_false_iff_ne.mpr c16
 clear c16
 by_cases c13 : x0 = 13
 ·replace H := wI c13 H
  have c13b : (x0 == 13) = true := beq_iff_eq.mpr c13
  clear c13
  have hl := kN H
  replace H := wI hl H
  have q1 := eq_true (show 0 < xs.length by omega)
  have p1 := eq_true (show (0 : Int) < (xs.length : Int) by omega)
  obtain ⟨ad, rfl⟩ := (HS.i _ (.head _)).ad (show 0 < xs.length by omega)
  obtain ⟨a, ea⟩ : ∃ x, x = xs.getD 0 0 := ⟨_, rfl⟩
  rw [← ea] at H
  have Ea := ae.mk ea
  have HLN := ae.mk hl
  have hk0 := (HS.i _ (.head _)).k0 (show 0 < xs.length by have := HLN.out; omega); rw [← Ea.out] at hk0; clear ea
  clear hl
  go_wp2_with (first | (go_at_call 62; (first | ((with_reducible refine fO ?_); refine nD F HF (wsT HS) H rfl rfl (Nat.le_of_ble_eq_true rfl) rfl ?_) | ((with_reducible refine fP ?_); refine nG F HF (wsT HS) H rfl rfl (Nat.le_of_ble_eq_true rfl) rfl ?_) | refine nC F HF (wsT HS) H ?_); clear hk0; clear hx2; clear HS H; intro q w' HS H; (try dsimp only at H); have hk0 := (HS.i _ (.head _)).k0 (show 0 < xs.length by have := HLN.out; omega); rw [← Ea.out] at hk0; have hx2 : _ = some (Value.string x2) := HS.cb (.head _) 2))
  have h_ := H.out
  cases h_
  go_end0
  exact (wsT HS).back
 replace H := wE c13 H
 have c13b : (x0 == 13) = false := beq_eq_false_iff_ne.mpr c13
 clear c13
 by_cases c14 : x0 = 14
 ·replace H := wI c14 H
  have c14b : (x0 == 14) = true := beq_iff_eq.mpr c14
  clear c14
  have hl := kN H
  replace H := wI hl H
  have q1 := eq_true (show 0 < xs.length by omega)
  have p1 := eq_true (show (0 : Int) < (xs.length : Int) by omega)
  obtain ⟨ad, rfl⟩ := (HS.i _ (.head _)).ad (show 0 < xs.length by omega)
  obtain ⟨a, ea⟩ : ∃ x, x = xs.getD 0 0 := ⟨_, rfl⟩
  rw [← ea] at H
  have Ea := ae.mk ea
  have HLN := ae.mk hl
  have hk0 := (HS.i _ (.head _)).k0 (show 0 < xs.length by have := HLN.out; omega); rw [← Ea.out] at hk0; clear ea
  clear hl
  go_wp2_with (first | (go_at_call 62; (first | ((with_reducible refine fO ?_); refine nD F HF (wsT HS) H rfl rfl (Nat.le_of_ble_eq_true rfl) rfl ?_) | ((with_reducible refine fP ?_); refine nG F HF (wsT HS) H rfl rfl (Nat.le_of_ble_eq_true rfl) rfl ?_) | refine nC F HF (wsT HS) H ?_); clear hk0; clear hx2; clear HS H; intro q w' HS H; (try dsimp only at H); have hk0 := (HS.i _ (.head _)).k0 (show 0 < xs.length by have := HLN.out; omega); rw [← Ea.out] at hk0; have hx2 : _ = some (Value.string x2) := HS.cb (.head _) 2))
  have h_ := H.out
  cases h_
  go_end0
  exact (wsT HS).back
 replace H := wE c14 H
 have c14b : (x0 == 14) = false := beq_eq_false_iff_ne.mpr c14
 clear c14
 by_cases c15 : x0 = 15
 ·replace H := wI c15 H
  have c15b : (x0 == 15) = true := beq_iff_eq.mpr c15
  clear c15
  have hl := kN H
  replace H := wI hl H
  have q1 := eq_true (show 0 < xs.length by omega)
  have p1 := eq_true (show (0 : Int) < (xs.length : Int) by omega)
  obtain ⟨ad, rfl⟩ := (HS.i _ (.head _)).ad (show 0 < xs.length by omega)
  obtain ⟨a, ea⟩ : ∃ x, x = xs.getD 0 0 := ⟨_, rfl⟩
  rw [← ea] at H
  have Ea := ae.mk ea
  have HLN := ae.mk hl
  have hk0 := (HS.i _ (.head _)).k0 (show 0 < xs.length by have := HLN.out; omega); rw [← Ea.out] at hk0; clear ea
  clear hl
  go_wp2_with (first | (go_at_call 62; (first | ((with_reducible refine fO ?_); refine nD F HF (wsT HS) H rfl rfl (Nat.le_of_ble_eq_true rfl) rfl ?_) | ((with_reducible refine fP ?_); refine nG F HF (wsT HS) H rfl rfl (Nat.le_of_ble_eq_true rfl) rfl ?_) | refine nC F HF (wsT HS) H ?_); clear hk0; clear hx2; clear HS H; intro q w' HS H; (try dsimp only at H); have hk0 := (HS.i _ (.head _)).k0 (show 0 < xs.length by have := HLN.out; omega); rw [← Ea.out] at hk0; have hx2 : _ = some (Value.string x2) := HS.cb (.head _) 2))
  have h_ := H.out
  cases h_
  go_end0
  exact (wsT HS).back
 replace H := wE c15 H
 have c15b : (x0 == 15) = false := beq_eq_false_iff_ne.mpr c15
 clear c15
 have hl := kN H
 replace H := wI hl H
 have q1 := eq_true (show 0 < xs.length by omega)
 have p1 := eq_true (show (0 : Int) < (xs.length : Int) by omega)
 obtain ⟨ad, rfl⟩ := (HS.i _ (.head _)).ad (show 0 < xs.length by omega)
 obtain ⟨a, ea⟩ : ∃ x, x = xs.getD 0 0 := ⟨_, rfl⟩
 rw [← ea] at H
 have Ea := ae.mk ea
 have HLN := ae.mk hl
 have hk0 := (HS.i _ (.head _)).k0 (show 0 < xs.length by have := HLN.out; omega); rw [← Ea.out] at hk0; clear ea
 clear hl
 go_wp2_with (first | (go_at_call 62; (first | ((with_reducible refine fO ?_); refine nD F HF (wsT HS) H rfl rfl (Nat.le_of_ble_eq_true rfl) rfl ?_) | ((with_reducible refine fP ?_); refine nG F HF (wsT HS) H rfl rfl (Nat.le_of_ble_eq_true rfl) rfl ?_) | refine nC F HF (wsT HS) H ?_); clear hk0; clear hx2; clear HS H; intro q w' HS H; (try dsimp only at H); have hk0 := (HS.i _ (.head _)).k0 (show 0 < xs.length by have := HLN.out; omega); rw [← Ea.out] at hk0; have hx2 : _ = some (Value.string x2) := HS.cb (.head _) 2))
 have h_ := H.out
 cases h_
 go_end0
 exact (wsT HS).back
end Go.Proofs.Ytlenihbmafkegaa.Q
end
section
set_option linter.unusedVariables false
set_option linter.unusedSimpArgs false
namespace Go.Proofs.Ytlenihbmafkegaa.Q
open Go Go.RowKit Go.Proofs.YtlenihbmafkegaaW.PrintWords Go.Proofs.YtlenihbmafkegaaW.PrintLast Go.Proofs.YtlenihbmafkegaaW.PrintMore
def oO (G : List S56 → Option (List S56)) (k : Nat) (out : List S56) : Option (List S56) :=
 (fD k [⟨#[40]⟩] out).bind fun a => (G a).bind fun b => (fD k [⟨#[41]⟩] b).bind some
set_option maxHeartbeats 8000000 in
set_option maxRecDepth 100000 in
theorem BC (G : List S56 → Option (List S56)) (k g : Nat) (l : List S40) (out r : List S56) (f : FuncId) (cs : Array Value) (w0 w : World) (hI : Wr w0 w g l out) (hB : Below w0.heap.size w0 w) (hcf : ∀ (args : Array Value) (w : World), (callFunc f args).run Try.prog w = .ok (.enter f args) w)
 (hG : ∀ out q W, Wr w0 W g l out → Below w0.heap.size w0 W → KT w W g → G out = some q → Calls Try.prog f cs W (kC w0 W g l q)) (h : oO G k out = some r) :
 Calls Try.prog 68 #[.pointer (some ⟨g, 0, none⟩), .func (.func f) #[] cs] w (kC w0 w g l r) := by
 unfold oO at h
 have HS := Ws.new hI hB
 have H := ae.mk h
 have HG := ae.mk hG
 clear h hI hB hG
 go_enter Try.func68, Try.ntmps68
 go_wp2_with (first | (go_at_call 64; (first | ((with_reducible refine fO ?_); refine jw (wsT HS) H rfl rfl (Nat.le_of_ble_eq_true rfl) rfl ?_) | ((with_reducible refine fP ?_); refine jf (wsT HS) H rfl rfl (Nat.le_of_ble_eq_true rfl) rfl ?_)); clear HS H; intro q w' HS H; (try dsimp only at H)) | (refine wCc (f := f) (wsT HS) H (fun q HS => HG.out _ q _ HS.wr HS.below HS.kt) ?_; clear HS H; intro q w' HS H; (try dsimp only at H)))
 have h_ := H.out; cases h_; go_end0; exact (wsT HS).back
set_option maxHeartbeats 8000000 in
set_option maxRecDepth 100000 in
theorem Og (F : kz) (HF : jP F) (k g : Nat) (l : List S40) (out r : List S56) (x0 x1 : Int) (x2 : ByteArray) (x3 : Int) (x4 : ByteArray) (A : Option Addr) (c : Nat) (xs : List Int) (bk bx bw : Nat) (w0 w : World) (hS : Ws w0 w w g l out [(bk, #[.slice A xs.length c], 45), (bx, #[.int .i64 x0, .int .i64 x1, .string x2, .int .i64 x3, .string x4], 40), (bw, #[.pointer (some ⟨g, 0, none⟩)], 50)] [(A, xs)] []) (h : (if 1 < xs.length then (F l (xs.getD 0 0) out).bind fun a => (fD k [x4] a).bind fun b => (F l (xs.getD 1 0) b).bind some else none) = some r) :
 Calls Try.prog 69 #[.pointer (some ⟨bw, 0, none⟩), .pointer (some ⟨bk, 0, none⟩), .pointer (some ⟨bx, 0, none⟩)] w (kC w0 w g l r) := by
 have HS := hS
 have H := ae.mk h
 clear h hS
 have hl := kN H
 replace H := wI hl H
 have q1 := eq_true (show 0 < xs.length by omega)
 have q2 := eq_true (show 1 < xs.length by omega)
 have p1 := eq_true (show (0 : Int) < (xs.length : Int) by omega)
 have p2 := eq_true (show (1 : Int) < (xs.length : Int) by omega)
 obtain ⟨ad, rfl⟩ := (HS.i _ (.head _)).ad (show 0 < xs.length by omega)
 obtain ⟨a, ea⟩ : ∃ x, x = xs.getD 0 0 := ⟨_, rfl⟩
 obtain ⟨b, eb⟩ : ∃ x, x = xs.getD 1 0 := ⟨_, rfl⟩
 rw [← ea, ← eb] at H
 have Ea := ae.mk ea
 have Eb := ae.mk eb
 have HLN := ae.mk hl
 have hk0 := (HS.i _ (.head _)).k0 (show 0 < xs.length by have := HLN.out; omega); rw [← Ea.out] at hk0; have hk1 := RI.k 0 (HS.i _ (.head _)) (show 1 < xs.length by have := HLN.out; omega); rw [← Eb.out] at hk1; clear ea eb
 clear hl
 have hw : _ = some (Value.pointer (some ⟨g, 0, none⟩)) := HS.cb (bs := [_, _, _]) (b := bw) (.tail _ (.tail _ (.head _))) 0; have hv : _ = some (Value.slice (some ad) xs.length c) := HS.cb (bs := [_, _, _]) (b := bk) (.head _) 0; have hx4 : _ = some (Value.string x4) := HS.cb (bs := [_, _, _]) (b := bx) (.tail _ (.head _)) 4
 go_enter Try.func69, Try.ntmps69
 go_wp2
 go_region_held3 (fun w' => w'.cell? ⟨bw, 0, none⟩ = some (.pointer (some ⟨g, 0, none⟩)) ∧ w'.cell? ⟨bk, 0, none⟩ = some (.slice (some ad) xs.length c) ∧ w'.cell? ad = some (.int .i64 a)) (first | exact ⟨hw, hv, hk0⟩ | go_keep) (first | (go_at_call 22; refine wCc (wsT HS) H (fun q HS => HF g l _ _ q w0 _ HS.wr HS.below) ?_; clear hw; clear hv; clear hx4; clear hk0 hk1; clear HS H; intro q w' HS H; (try dsimp only at H); have hw : _ = some (Value.pointer (some ⟨g, 0, none⟩)) := HS.cb (bs := [_, _, _]) (b := bw) (.tail _ (.tail _ (.head _))) 0; have hv : _ = some (Value.slice (some ad) xs.length c) := HS.cb (bs := [_, _, _]) (b := bk) (.head _) 0; have hx4 : _ = some (Value.string x4) := HS.cb (bs := [_, _, _]) (b := bx) (.tail _ (.head _)) 4; have hk0 := (HS.i _ (.head _)).k0 (show 0 < xs.length by have := HLN.out; omega); rw [← Ea.out] at hk0; have hk1 := RI.k 0 (HS.i _ (.head _)) (show 1 < xs.length by have := HLN.out; omega); rw [← Eb.out] at hk1))
 go_wp2_with (first | (go_at_call 64; (first | ((with_reducible refine fO ?_); refine jw (wsT HS) H rfl rfl (Nat.le_of_ble_eq_true rfl) rfl ?_) | ((with_reducible refine fP ?_); refine jf (wsT HS) H rfl rfl (Nat.le_of_ble_eq_true rfl) rfl ?_)); clear hw; clear hv; clear hx4; clear hk0 hk1; clear HS H; intro q w' HS H; (try dsimp only at H); have hw : _ = some (Value.pointer (some ⟨g, 0, none⟩)) := HS.cb (bs := [_, _, _]) (b := bw) (.tail _ (.tail _ (.head _))) 0; have hv : _ = some (Value.slice (some ad) xs.length c) := HS.cb (bs := [_, _, _]) (b := bk) (.head _) 0; have hx4 : _ = some (Value.string x4) := HS.cb (bs := [_, _, _]) (b := bx) (.tail _ (.head _)) 4; have hk0 := (HS.i _ (.head _)).k0 (show 0 < xs.length by have := HLN.out; omega); rw [← Ea.out] at hk0; have hk1 := RI.k 0 (HS.i _ (.head _)) (show 1 < xs.length by have := HLN.out; omega); rw [← Eb.out] at hk1))
 go_region_held3 (fun w' => w'.cell? ⟨bw, 0, none⟩ = some (.pointer (some ⟨g, 0, none⟩)) ∧ w'.cell? ⟨bk, 0, none⟩ = some (.slice (some ad) xs.length c) ∧ w'.cell? ⟨ad.block, ad.off + 1, none⟩ = some (.int .i64 b)) (first | exact ⟨hw, hv, hk1⟩ | go_keep) (first | (go_at_call 22; refine wCc (wsT HS) H (fun q HS => HF g l _ _ q w0 _ HS.wr HS.below) ?_; clear hw; clear hv; clear hx4; clear hk0 hk1; clear HS H; intro q w' HS H; (try dsimp only at H); have hw : _ = some (Value.pointer (some ⟨g, 0, none⟩)) := HS.cb (bs := [_, _, _]) (b := bw) (.tail _ (.tail _ (.head _))) 0; have hv : _ = some (Value.slice (some ad) xs.length c) := HS.cb (bs := [_, _, _]) (b := bk) (.head _) 0; have hx4 : _ = some (Value.string x4) := HS.cb (bs := [_, _, _]) (b := bx) (.tail _ (.head _)) 4; have hk0 := (HS.i _ (.head _)).k0 (show 0 < xs.length by have := HLN.out; omega); rw [← Ea.out] at hk0; have hk1 := RI.k 0 (HS.i _ (.head _)) (show 1 < xs.length by have := HLN.out; omega); rw [← Eb.out] at hk1))
 have h_ := H.out
 cases h_
 go_end0
 exact (wsT HS).back
set_option maxHeartbeats 8000000 in
set_option maxRecDepth 100000 in
theorem O4 (F : kz) (HF : jP F) (k g : Nat) (l : List S40) (out r : List S56) (x0 x1 : Int) (x2 : ByteArray) (x3 : Int) (x4 : ByteArray) (A : Option Addr) (c : Nat) (xs : List Int) (bk bx bw : Nat) (w0 w : World) (hS : Ws w0 w w g l out [(bk, #[.slice A xs.length c], 45), (bx, #[.int .i64 x0, .int .i64 x1, .string x2, .int .i64 x3, .string x4], 40), (bw, #[.pointer (some ⟨g, 0, none⟩)], 50)] [(A, xs)] []) (h : (if 0 < xs.length then (fD k [x4] out).bind fun a => (F l (xs.getD 0 0) a).bind some else none) = some r) :
 Calls Try.prog 70 #[.pointer (some ⟨bw, 0, none⟩), .pointer (some ⟨bx, 0, none⟩), .pointer (some ⟨bk, 0, none⟩)] w (kC w0 w g l r) := by
 have HS := hS
 have H := ae.mk h
 clear h hS
 have hl := kN H
 replace H := wI hl H
 have q1 := eq_true (show 0 < xs.length by omega)
 have p1 := eq_true (show (0 : Int) < (xs.length : Int) by omega)
 obtain ⟨ad, rfl⟩ := (HS.i _ (.head _)).ad (show 0 < xs.length by omega)
 obtain ⟨a, ea⟩ : ∃ x, x = xs.getD 0 0 := ⟨_, rfl⟩
 rw [← ea] at H
 have Ea := ae.mk ea
 have HLN := ae.mk hl
 have hk0 := (HS.i _ (.head _)).k0 (show 0 < xs.length by have := HLN.out; omega); rw [← Ea.out] at hk0; clear ea
 clear hl
 have hw : _ = some (Value.pointer (some ⟨g, 0, none⟩)) := HS.cb (bs := [_, _, _]) (b := bw) (.tail _ (.tail _ (.head _))) 0; have hv : _ = some (Value.slice (some ad) xs.length c) := HS.cb (bs := [_, _, _]) (b := bk) (.head _) 0; have hx4 : _ = some (Value.string x4) := HS.cb (bs := [_, _, _]) (b := bx) (.tail _ (.head _)) 4
 go_enter Try.func70, Try.ntmps70
 go_wp2_with (first | (go_at_call 64; (first | ((with_reducible refine fO ?_); refine jw (wsT HS) H rfl rfl (Nat.le_of_ble_eq_true rfl) rfl ?_) | ((with_reducible refine fP ?_); refine jf (wsT HS) H rfl rfl (Nat.le_of_ble_eq_true rfl) rfl ?_)); clear hw; clear hv; clear hx4; clear hk0; clear HS H; intro q w' HS H; (try dsimp only at H); have hw : _ = some (Value.pointer (some ⟨g, 0, none⟩)) := HS.cb (bs := [_, _, _]) (b := bw) (.tail _ (.tail _ (.head _))) 0; have hv : _ = some (Value.slice (some ad) xs.length c) := HS.cb (bs := [_, _, _]) (b := bk) (.head _) 0; have hx4 : _ = some (Value.string x4) := HS.cb (bs := [_, _, _]) (b := bx) (.tail _ (.head _)) 4; have hk0 := (HS.i _ (.head _)).k0 (show 0 < xs.length by have := HLN.out; omega); rw [← Ea.out] at hk0))
 go_region_held3 (fun w' => w'.cell? ⟨bw, 0, none⟩ = some (.pointer (some ⟨g, 0, none⟩)) ∧ w'.cell? ⟨bk, 0, none⟩ = some (.slice (some ad) xs.length c) ∧ w'.cell? ad = some (.int .i64 a)) (first | exact ⟨hw, hv, hk0⟩ | go_keep) (first | (go_at_call 22; refine wCc (wsT HS) H (fun q HS => HF g l _ _ q w0 _ HS.wr HS.below) ?_; clear hw; clear hv; clear hx4; clear hk0; clear HS H; intro q w' HS H; (try dsimp only at H); have hw : _ = some (Value.pointer (some ⟨g, 0, none⟩)) := HS.cb (bs := [_, _, _]) (b := bw) (.tail _ (.tail _ (.head _))) 0; have hv : _ = some (Value.slice (some ad) xs.length c) := HS.cb (bs := [_, _, _]) (b := bk) (.head _) 0; have hx4 : _ = some (Value.string x4) := HS.cb (bs := [_, _, _]) (b := bx) (.tail _ (.head _)) 4; have hk0 := (HS.i _ (.head _)).k0 (show 0 < xs.length by have := HLN.out; omega); rw [← Ea.out] at hk0))
 have h_ := H.out
 cases h_
 go_end0
 exact (wsT HS).back
set_option maxHeartbeats 8000000 in
set_option maxRecDepth 100000 in
theorem O6 (F : kz) (HF : jP F) (k g : Nat) (l : List S40) (out r : List S56) (x0 x1 : Int) (x2 : ByteArray) (x3 : Int) (x4 : ByteArray) (A : Option Addr) (c : Nat) (xs : List Int) (bk bx bw : Nat) (w0 w : World) (hS : Ws w0 w w g l out [(bk, #[.slice A xs.length c], 45), (bx, #[.int .i64 x0, .int .i64 x1, .string x2, .int .i64 x3, .string x4], 40), (bw, #[.pointer (some ⟨g, 0, none⟩)], 50)] [(A, xs)] []) (h : (if 0 < xs.length then (fD k [⟨#[115, 112, 97, 119, 110]⟩] out).bind fun a => (F l (xs.getD 0 0) a).bind some else none) = some r) :
 Calls Try.prog 71 #[.pointer (some ⟨bw, 0, none⟩), .pointer (some ⟨bk, 0, none⟩)] w (kC w0 w g l r) := by
 have HS := hS
 have H := ae.mk h
 clear h hS
 have hl := kN H
 replace H := wI hl H
 have q1 := eq_true (show 0 < xs.length by omega)
 have p1 := eq_true (show (0 : Int) < (xs.length : Int) by omega)
 obtain ⟨ad, rfl⟩ := (HS.i _ (.head _)).ad (show 0 < xs.length by omega)
 obtain ⟨a, ea⟩ : ∃ x, x = xs.getD 0 0 := ⟨_, rfl⟩
 rw [← ea] at H
 have Ea := ae.mk ea
 have HLN := ae.mk hl
 have hk0 := (HS.i _ (.head _)).k0 (show 0 < xs.length by have := HLN.out; omega); rw [← Ea.out] at hk0; clear ea
 clear hl
 have hw : _ = some (Value.pointer (some ⟨g, 0, none⟩)) := HS.cb (bs := [_, _, _]) (b := bw) (.tail _ (.tail _ (.head _))) 0; have hv : _ = some (Value.slice (some ad) xs.length c) := HS.cb (bs := [_, _, _]) (b := bk) (.head _) 0
 go_enter Try.func71, Try.ntmps71
 go_wp2_with (first | (go_at_call 64; (first | ((with_reducible refine fO ?_); refine jw (wsT HS) H rfl rfl (Nat.le_of_ble_eq_true rfl) rfl ?_) | ((with_reducible refine fP ?_); refine jf (wsT HS) H rfl rfl (Nat.le_of_ble_eq_true rfl) rfl ?_)); clear hw; clear hv; clear hk0; clear HS H; intro q w' HS H; (try dsimp only at H); have hw : _ = some (Value.pointer (some ⟨g, 0, none⟩)) := HS.cb (bs := [_, _, _]) (b := bw) (.tail _ (.tail _ (.head _))) 0; have hv : _ = some (Value.slice (some ad) xs.length c) := HS.cb (bs := [_, _, _]) (b := bk) (.head _) 0; have hk0 := (HS.i _ (.head _)).k0 (show 0 < xs.length by have := HLN.out; omega); rw [← Ea.out] at hk0))
 go_region_held3 (fun w' => w'.cell? ⟨bw, 0, none⟩ = some (.pointer (some ⟨g, 0, none⟩)) ∧ w'.cell? ⟨bk, 0, none⟩ = some (.slice (some ad) xs.length c) ∧ w'.cell? ad = some (.int .i64 a)) (first | exact ⟨hw, hv, hk0⟩ | go_keep) (first | (go_at_call 22; refine wCc (wsT HS) H (fun q HS => HF g l _ _ q w0 _ HS.wr HS.below) ?_; clear hw; clear hv; clear hk0; clear HS H; intro q w' HS H; (try dsimp only at H); have hw : _ = some (Value.pointer (some ⟨g, 0, none⟩)) := HS.cb (bs := [_, _, _]) (b := bw) (.tail _ (.tail _ (.head _))) 0; have hv : _ = some (Value.slice (some ad) xs.length c) := HS.cb (bs := [_, _, _]) (b := bk) (.head _) 0; have hk0 := (HS.i _ (.head _)).k0 (show 0 < xs.length by have := HLN.out; omega); rw [← Ea.out] at hk0))
 have h_ := H.out
 cases h_
 go_end0
 exact (wsT HS).back
end Go.Proofs.Ytlenihbmafkegaa.Q
end
section
set_option linter.unusedVariables false
set_option linter.unusedSimpArgs false
namespace Go.Proofs.Ytlenihbmafkegaa.Q
open Go Go.RowKit Go.Proofs.YtlenihbmafkegaaW.PrintWords Go.Proofs.YtlenihbmafkegaaW.PrintLast Go.Proofs.YtlenihbmafkegaaW.PrintMore
def qo (F : kz) (k : Nat) (l : List S40) (x0 : Int) (x2 : ByteArray) (x3 : Int) (x4 : ByteArray) (xs : List Int) (out : List S56) : Option (List S56) :=
 if x0 = 18 then (fD k [⟨#[110, 105, 108]⟩] out).bind some
 else if x0 = 29 then (fD k [⟨#[115, 116, 97, 116, 101]⟩] out).bind some
 else if x0 = 19 then (BM x3 out).bind some
 else if x0 = 20 then if out.length + 1 ≤ 3000000000000 then some (out ++ [⟨3, x4, 0, 0⟩]) else none
 else if x0 = 21 then (fD k [x2] out).bind some
 else if x0 = 25 then (fD k [⟨#[123]⟩, ⟨#[125]⟩] out).bind some
 else if x0 = 24 then (fD k [⟨#[102, 110]⟩] out).bind fun a => (iQ F k l xs a).bind some
 else if x0 = 26 then if 1 < xs.length then (mD F k l (xs.getD 0 0) (xs.getD 1 0) out).bind some else none
 else if x0 = 22 then if 0 < xs.length then (F l (xs.getD 0 0) out).bind fun a => (rJ F k l (xs.drop 1) a).bind some else none
 else if x0 = 23 then (fD k [x2, ⟨#[46]⟩, x4] out).bind fun a => (rJ F k l xs a).bind some
 else if x0 = 27 then (oO (fun o => if 1 < xs.length then (F l (xs.getD 0 0) o).bind fun a => (fD k [x4] a).bind fun b => (F l (xs.getD 1 0) b).bind some else none) k out).bind some
 else if x0 = 28 then (oO (fun o => if 0 < xs.length then (fD k [x4] o).bind fun a => (F l (xs.getD 0 0) a).bind some else none) k out).bind some
 else if x0 = 30 then (oO (fun o => if 0 < xs.length then (fD k [⟨#[115, 112, 97, 119, 110]⟩] o).bind fun a => (F l (xs.getD 0 0) a).bind some else none) k out).bind some
 else some out
set_option maxHeartbeats 8000000 in
set_option maxRecDepth 100000 in
theorem KI (F : kz) (HF : jP F) (k g : Nat) (l : List S40) (out r : List S56) (x0 x1 : Int) (x2 : ByteArray) (x3 : Int) (x4 : ByteArray) (A : Option Addr) (c : Nat) (xs : List Int) (w0 w : World) (hI : Wr w0 w g l out) (hB : Below w0.heap.size w0 w) (hs : RI (Kd.int .i64) 3 w A xs) (hc : xs.length ≤ c) (h : qo F k l x0 x2 x3 x4 xs out = some r) :
 Calls Try.prog 41 #[.pointer (some ⟨g, 0, none⟩), .agg #[.int .i64 x0, .int .i64 x1, .string x2, .int .i64 x3, .string x4], .slice A xs.length c] w (kC w0 w g l r) := by
 unfold qo at h
 have HS := (Ws.new hI hB).int hs
 have H := ae.mk h
 clear h hI hB hs
 go_enter Try.func41, Try.ntmps41
 go_upto_region 1 with (first | ((with_reducible refine bI (N := 3) rfl ?_); refine Fv (N := 3) (wsT HS) (by first | (go_simp; done) | (go_simp; rfl)) ?_; clear HS; intro bw w' HS) | ((with_reducible refine bI (N := 4) rfl ?_); refine Fv (N := 4) (wsT HS) (by first | (go_simp; done) | (go_simp; rfl)) ?_; clear HS; intro bx w' HS) | ((with_reducible refine bI (N := 5) rfl ?_); refine Fv (N := 5) (wsT HS) (by first | (go_simp; done) | (go_simp; rfl)) ?_; clear HS; intro bk w' HS))
 (try simp only [Act.put, List.setIfInBounds_toArray, List.set_cons_zero, List.set_cons_succ])
 have hw : _ = some (Value.pointer (some ⟨g, 0, none⟩)) := HS.cb (bs := [_, _, _]) (b := bw) (.tail _ (.tail _ (.head _))) 0; have hv : _ = some (Value.slice A xs.length c) := HS.cb (bs := [_, _, _]) (b := bk) (.head _) 0; have hx0 : _ = some (Value.int .i64 x0) := HS.cb (bs := [_, _, _]) (b := bx) (.tail _ (.head _)) 0; have hx2 : _ = some (Value.string x2) := HS.cb (bs := [_, _, _]) (b := bx) (.tail _ (.head _)) 2; have hx3 : _ = some (Value.int .i64 x3) := HS.cb (bs := [_, _, _]) (b := bx) (.tail _ (.head _)) 3; have hx4 : _ = some (Value.string x4) := HS.cb (bs := [_, _, _]) (b := bx) (.tail _ (.head _)) 4
 go_upto_region 2 with (first | fail)
 by_cases c18 : x0 = 18
 ·replace H := wI c18 H
  have c18b : (x0 == 18) = true := beq_iff_eq.mpr c18
  clear c18
  go_wp2_with (first | (go_at_call 64; (first | ((with_reducible refine fO ?_); refine jw (wsT HS) H rfl rfl (Nat.le_of_ble_eq_true rfl) rfl ?_) | ((with_reducible refine fP ?_); refine jf (wsT HS) H rfl rfl (Nat.le_of_ble_eq_true rfl) rfl ?_)); (try clear hx0); clear hw; clear hv; clear hx2; clear hx3; clear hx4; clear HS H; intro q w' HS H; (try dsimp only at H); have hw : _ = some (Value.pointer (some ⟨g, 0, none⟩)) := HS.cb (bs := [_, _, _]) (b := bw) (.tail _ (.tail _ (.head _))) 0; have hv : _ = some (Value.slice A xs.length c) := HS.cb (bs := [_, _, _]) (b := bk) (.head _) 0; have hx2 : _ = some (Value.string x2) := HS.cb (bs := [_, _, _]) (b := bx) (.tail _ (.head _)) 2; have hx3 : _ = some (Value.int .i64 x3) := HS.cb (bs := [_, _, _]) (b := bx) (.tail _ (.head _)) 3; have hx4 : _ = some (Value.string x4) := HS.cb (bs := [_, _, _]) (b := bx) (.tail _ (.head _)) 4))
  have h_ := H.out
  cases h_
  go_end0
  exact (wsT HS).back
 replace H := wE c18 H
 have c18b : (x0 == 18) = false := beq_eq_false_iff_ne.mpr c18
 clear c18
 by_cases c29 : x0 = 29
 ·replace H := wI c29 H
  have c29b : (x0 == 29) = true := beq_iff_eq.mpr c29
  clear c29
  go_wp2_with (first | (go_at_call 64; (first | ((with_reducible refine fO ?_); refine jw (wsT HS) H rfl rfl (Nat.le_of_ble_eq_true rfl) rfl ?_) | ((with_reducible refine fP ?_); refine jf (wsT HS) H rfl rfl (Nat.le_of_ble_eq_true rfl) rfl ?_)); (try clear hx0); clear hw; clear hv; clear hx2; clear hx3; clear hx4; clear HS H; intro q w' HS H; (try dsimp only at H); have hw : _ = some (Value.pointer (some ⟨g, 0, none⟩)) := HS.cb (bs := [_, _, _]) (b := bw) (.tail _ (.tail _ (.head _))) 0; have hv : _ = some (Value.slice A xs.length c) := HS.cb (bs := [_, _, _]) (b := bk) (.head _) 0; have hx2 : _ = some (Value.string x2) := HS.cb (bs := [_, _, _]) (b := bx) (.tail _ (.head _)) 2; have hx3 : _ = some (Value.int .i64 x3) := HS.cb (bs := [_, _, _]) (b := bx) (.tail _ (.head _)) 3; have hx4 : _ = some (Value.string x4) := HS.cb (bs := [_, _, _]) (b := bx) (.tail _ (.head _)) 4))
  have h_ := H.out
  cases h_
  go_end0
  exact (wsT HS).back
 replace H := wE c29 H
 have c29b : (x0 == 29) = false := beq_eq_false_iff_ne.mpr c29
 clear c29
 by_cases c19 : x0 = 19
 ·replace H := wI c19 H
  have c19b : (x0 == 19) = true := beq_iff_eq.mpr c19
  clear c19
  go_wp2_with (first | (go_at_call 65; refine wCc (wsT HS) H (fun q HS => LX g l _ q _ w0 _ HS.wr HS.below) ?_; (try clear hx0); clear hw; clear hv; clear hx2; clear hx3; clear hx4; clear HS H; intro q w' HS H; (try dsimp only at H); have hw : _ = some (Value.pointer (some ⟨g, 0, none⟩)) := HS.cb (bs := [_, _, _]) (b := bw) (.tail _ (.tail _ (.head _))) 0; have hv : _ = some (Value.slice A xs.length c) := HS.cb (bs := [_, _, _]) (b := bk) (.head _) 0; have hx2 : _ = some (Value.string x2) := HS.cb (bs := [_, _, _]) (b := bx) (.tail _ (.head _)) 2; have hx3 : _ = some (Value.int .i64 x3) := HS.cb (bs := [_, _, _]) (b := bx) (.tail _ (.head _)) 3; have hx4 : _ = some (Value.string x4) := HS.cb (bs := [_, _, _]) (b := bx) (.tail _ (.head _)) 4))
  have h_ := H.out
  cases h_
  go_end0
  exact (wsT HS).back
 replace H := wE c19 H
 have c19b : (x0 == 19) = false := beq_eq_false_iff_ne.mpr c19
 clear c19
 by_cases c20 : x0 = 20
 ·replace H := wI c20 H
  have c20b : (x0 == 20) = true := beq_iff_eq.mpr c20
  clear c20
  have HM := ae.mk (kN H)
  replace H := wI HM.out H
  have HS2 := HS.drew
  clear HS hw hv hx2 hx3 hx4
  have HS := HS2
  clear HS2
  have hw : _ = some (Value.pointer (some ⟨g, 0, none⟩)) := HS.cb (bs := [_, _, _]) (b := bw) (.tail _ (.tail _ (.head _))) 0; have hv : _ = some (Value.slice A xs.length c) := HS.cb (bs := [_, _, _]) (b := bk) (.head _) 0; have hx4 : _ = some (Value.string x4) := HS.cb (bs := [_, _, _]) (b := bx) (.tail _ (.head _)) 4
  obtain ⟨A0, c0, v, HV⟩ := HS.wr
  have hc1 := HV.g1
  have HV0 := ae.mk HV
  clear HV
  go_wp2
  refine mi (n := 13) (S := fun w' => w'.cell? ⟨bw, 0, none⟩ = some (Value.pointer (some ⟨g, 0, none⟩)) ∧ w'.cell? ⟨bx, 4, none⟩ = some (Value.string x4) ∧ w'.cell? ⟨g, 1, none⟩ = some v) (ds := [12]) (bQ 13 0) (by kernel_rfl) rfl rfl ⟨hw, hx4, hc1⟩ (fun hHeld => ?_)
  clear hw hv hx4 hc1
  generalize w'.drew = w2 at HS HV0 hHeld ⊢
  refine lw (i := 0) (N := some 26) (v := ?_) (a' := ?_) (bQ 13 1) rfl rfl (by kernel_rfl) (fun _ _ _ h => h) (Or.inl ⟨by rfl, ?_⟩) hHeld ?_ ?_
  rotate_left
  ·intro w' hS_
   obtain ⟨s0, s1, s2⟩ := hS_
   go_simp
   with_reducible rfl
  rotate_left
  ·simp only [Act.put, List.setIfInBounds_toArray, List.set_cons_zero, List.set_cons_succ]
   rfl
  refine lw (i := 1) (N := some 27) (v := ?_) (a' := ?_) (bQ 13 3) rfl rfl (by kernel_rfl) (fun _ _ _ h => h) (Or.inl ⟨by rfl, ?_⟩) hHeld ?_ ?_
  rotate_left
  ·intro w' hS_
   obtain ⟨s0, s1, s2⟩ := hS_
   go_simp
   with_reducible rfl
  rotate_left
  ·simp only [Act.put, List.setIfInBounds_toArray, List.set_cons_zero, List.set_cons_succ]
   rfl
  refine pA 2 28 (bQ 13 7) ?_ (by kernel_rfl)
  refine pA 3 29 (bQ 13 15) ?_ (by kernel_rfl)
  refine lw (i := 4) (N := some 30) (v := ?_) (a' := ?_) (bQ 13 31) rfl rfl (by kernel_rfl) (fun _ _ _ h => h) (Or.inl ⟨by rfl, ?_⟩) hHeld ?_ ?_
  rotate_left
  ·intro w' hS_
   obtain ⟨s0, s1, s2⟩ := hS_
   go_simp
   with_reducible rfl
  rotate_left
  ·simp only [Act.put, List.setIfInBounds_toArray, List.set_cons_zero, List.set_cons_succ]
   rfl
  refine pA 5 31 (bQ 13 63) ?_ (by kernel_rfl)
  refine lw (i := 6) (N := some 32) (v := ?_) (a' := ?_) (bQ 13 127) rfl rfl (by kernel_rfl) (fun _ _ _ h => h) (Or.inl ⟨by rfl, ?_⟩) hHeld ?_ ?_
  rotate_left
  ·intro w' hS_
   obtain ⟨s0, s1, s2⟩ := hS_
   go_simp
   with_reducible rfl
  rotate_left
  ·simp only [Act.put, List.setIfInBounds_toArray, List.set_cons_zero, List.set_cons_succ]
   rfl
  refine pA 7 33 (bQ 13 255) ?_ (by kernel_rfl)
  refine rO (i := 8) (N := some 34) (bQ 13 511) rfl rfl (by kernel_rfl) (by decide) (fun K hK => ?_)
  refine rG (by rfl) rfl (by first | (go_simp; done) | (go_simp; rfl) | (go_simp; exact ⟨rfl, rfl⟩)) ?_
  refine hK.out _ _ ⟨(HS.alloc _).cb (bs := [_, _, _]) (b := bw) (.tail _ (.tail _ (.head _))) 0, (HS.alloc _).cb (bs := [_, _, _]) (b := bx) (.tail _ (.head _)) 4, (HV0.out.alloc _).g1⟩ (fun hHeld => ?_)
  clear hK K
  refine kH (a' := ?_) ?_ ?_
  rotate_left
  ·simp only [Act.put, List.setIfInBounds_toArray, List.set_cons_zero, List.set_cons_succ]
   rfl
  refine rO (i := 9) (N := some 35) (bQ 13 1023) rfl rfl (by kernel_rfl) (by decide) (fun K hK => ?_)
  refine Oi (N := 35) (t := ⟨3, x4, 0, 0⟩) (.tmp 30) (.tmp 34) rfl rfl Try.underlying33 yN HS HV0.out HM.out (by rfl) rfl rfl ?_
  clear HS HV0 hHeld
  intro A' n' c' w3 hc1 hf1 hbs HS
  refine hK.out _ _ ⟨hbs bw _ _ (.tail _ (.tail _ (.head _))) 0, hbs bx _ _ (.tail _ (.head _)) 4, hc1⟩ (fun hHeld => ?_)
  clear hK K hbs
  refine kH (a' := ?_) ?_ ?_
  rotate_left
  ·simp only [Act.put, List.setIfInBounds_toArray, List.set_cons_zero, List.set_cons_succ]
   rfl
  refine pA 10 36 (bQ 13 2047) ?_ (by kernel_rfl)
  refine pA 11 37 (bQ 13 4095) ?_ (by kernel_rfl)
  refine wF (i := 12) (N := none) (bQ 13 8191) rfl rfl (by kernel_rfl) (by decide) (fun K hK => ?_)
  refine NF (by rfl) rfl (by first | (go_simp; done) | (go_simp; rfl)) ?_
  refine hK.out _ _ ?_
  clear hK K
  refine nR (by kernel_rfl) ?_
  go_wp2
  have h_ := H.out
  cases h_
  go_end0
  exact (wsT HS).back
 replace H := wE c20 H
 have c20b : (x0 == 20) = false := beq_eq_false_iff_ne.mpr c20
 clear c20
 by_cases c21 : x0 = 21
 ·replace H := wI c21 H
  have c21b : (x0 == 21) = true := beq_iff_eq.mpr c21
  clear c21
  go_wp2_with (first | (go_at_call 64; (first | ((with_reducible refine fO ?_); refine jw (wsT HS) H rfl rfl (Nat.le_of_ble_eq_true rfl) rfl ?_) | ((with_reducible refine fP ?_); refine jf (wsT HS) H rfl rfl (Nat.le_of_ble_eq_true rfl) rfl ?_)); (try clear hx0); clear hw; clear hv; clear hx2; clear hx3; clear hx4; clear HS H; intro q w' HS H; (try dsimp only at H); have hw : _ = some (Value.pointer (some ⟨g, 0, none⟩)) := HS.cb (bs := [_, _, _]) (b := bw) (.tail _ (.tail _ (.head _))) 0; have hv : _ = some (Value.slice A xs.length c) := HS.cb (bs := [_, _, _]) (b := bk) (.head _) 0; have hx2 : _ = some (Value.string x2) := HS.cb (bs := [_, _, _]) (b := bx) (.tail _ (.head _)) 2; have hx3 : _ = some (Value.int .i64 x3) := HS.cb (bs := [_, _, _]) (b := bx) (.tail _ (.head _)) 3; have hx4 : _ = some (Value.string x4) := HS.cb (bs := [_, _, _]) (b := bx) (.tail _ (.head _)) 4))
  have h_ := H.out
  cases h_
  go_end0
  exact (wsT HS).back
 replace H := wE c21 H
 have c21b : (x0 == 21) = false := beq_eq_false_iff_ne.mpr c21
 clear c21
 by_cases c25 : x0 = 25
 ·replace H := wI c25 H
  have c25b : (x0 == 25) = true := beq_iff_eq.mpr c25
  clear c25
  go_wp2_with (first | (go_at_call 64; (first | ((with_reducible refine fO ?_); refine jw (wsT HS) H rfl rfl (Nat.le_of_ble_eq_true rfl) rfl ?_) | ((with_reducible refine fP ?_); refine jf (wsT HS) H rfl rfl (Nat.le_of_ble_eq_true rfl) rfl ?_)); (try clear hx0); clear hw; clear hv; clear hx2; clear hx3; clear hx4; clear HS H; intro q w' HS H; (try dsimp only at H); have hw : _ = some (Value.pointer (some ⟨g, 0, none⟩)) := HS.cb (bs := [_, _, _]) (b := bw) (.tail _ (.tail _ (.head _))) 0; have hv : _ = some (Value.slice A xs.length c) := HS.cb (bs := [_, _, _]) (b := bk) (.head _) 0; have hx2 : _ = some (Value.string x2) := HS.cb (bs := [_, _, _]) (b := bx) (.tail _ (.head _)) 2; have hx3 : _ = some (Value.int .i64 x3) := HS.cb (bs := [_, _, _]) (b := bx) (.tail _ (.head _)) 3; have hx4 : _ = some (Value.string x4) := HS.cb (bs := [_, _, _]) (b := bx) (.tail _ (.head _)) 4))
  have h_ := H.out
  cases h_
  go_end0
  exact (wsT HS).back
 replace H := wE c25 H
 have c25b : (x0 == 25) = false := beq_eq_false_iff_ne.mpr c25
 clear c25
 by_cases c24 : x0 = 24
 ·replace H := wI c24 H
  have c24b : (x0 == 24) = true := beq_iff_eq.mpr c24
  clear c24
  go_wp2_with (first | (go_at_call 64; (first | ((with_reducible refine fO ?_); refine jw (wsT HS) H rfl rfl (Nat.le_of_ble_eq_true rfl) rfl ?_) | ((with_reducible refine fP ?_); refine jf (wsT HS) H rfl rfl (Nat.le_of_ble_eq_true rfl) rfl ?_)); (try clear hx0); clear hw; clear hv; clear hx2; clear hx3; clear hx4; clear HS H; intro q w' HS H; (try dsimp only at H); have hw : _ = some (Value.pointer (some ⟨g, 0, none⟩)) := HS.cb (bs := [_, _, _]) (b := bw) (.tail _ (.tail _ (.head _))) 0; have hv : _ = some (Value.slice A xs.length c) := HS.cb (bs := [_, _, _]) (b := bk) (.head _) 0; have hx2 : _ = some (Value.string x2) := HS.cb (bs := [_, _, _]) (b := bx) (.tail _ (.head _)) 2; have hx3 : _ = some (Value.int .i64 x3) := HS.cb (bs := [_, _, _]) (b := bx) (.tail _ (.head _)) 3; have hx4 : _ = some (Value.string x4) := HS.cb (bs := [_, _, _]) (b := bx) (.tail _ (.head _)) 4) | (go_at_call 66; refine wCc (wsT HS) H (fun q HS => xP F HF k g l _ q _ _ _ w0 _ HS.wr HS.below (HS.i _ (.head _)) hc) ?_; (try clear hx0); clear hw; clear hv; clear hx2; clear hx3; clear hx4; clear HS H; intro q w' HS H; (try dsimp only at H); have hw : _ = some (Value.pointer (some ⟨g, 0, none⟩)) := HS.cb (bs := [_, _, _]) (b := bw) (.tail _ (.tail _ (.head _))) 0; have hv : _ = some (Value.slice A xs.length c) := HS.cb (bs := [_, _, _]) (b := bk) (.head _) 0; have hx2 : _ = some (Value.string x2) := HS.cb (bs := [_, _, _]) (b := bx) (.tail _ (.head _)) 2; have hx3 : _ = some (Value.int .i64 x3) := HS.cb (bs := [_, _, _]) (b := bx) (.tail _ (.head _)) 3; have hx4 : _ = some (Value.string x4) := HS.cb (bs := [_, _, _]) (b := bx) (.tail _ (.head _)) 4))
  have h_ := H.out
  cases h_
  go_end0
  exact (wsT HS).back
 replace H := wE c24 H
 have c24b : (x0 == 24) = false := beq_eq_false_iff_ne.mpr c24
 clear c24
 by_cases c26 : x0 = 26
 ·replace H := wI c26 H
  have c26b : (x0 == 26) = true := beq_iff_eq.mpr c26
  clear c26
  have hl := kN H
  replace H := wI hl H
  have q1 := eq_true (show 0 < xs.length by omega)
  have q2 := eq_true (show 1 < xs.length by omega)
  have p1 := eq_true (show (0 : Int) < (xs.length : Int) by omega)
  have p2 := eq_true (show (1 : Int) < (xs.length : Int) by omega)
  obtain ⟨ad, rfl⟩ := (HS.i _ (.head _)).ad (show 0 < xs.length by omega)
  obtain ⟨a, ea⟩ : ∃ x, x = xs.getD 0 0 := ⟨_, rfl⟩
  obtain ⟨b, eb⟩ : ∃ x, x = xs.getD 1 0 := ⟨_, rfl⟩
  rw [← ea, ← eb] at H
  have Ea := ae.mk ea
  have Eb := ae.mk eb
  have HLN := ae.mk hl
  have hk0 := (HS.i _ (.head _)).k0 (show 0 < xs.length by have := HLN.out; omega); rw [← Ea.out] at hk0; have hk1 := RI.k 0 (HS.i _ (.head _)) (show 1 < xs.length by have := HLN.out; omega); rw [← Eb.out] at hk1; clear ea eb
  clear hl
  go_wp2
  go_region_held3 (fun w' => w'.cell? ⟨bw, 0, none⟩ = some (.pointer (some ⟨g, 0, none⟩)) ∧ w'.cell? ⟨bk, 0, none⟩ = some (.slice (some ad) xs.length c) ∧ w'.cell? ad = some (.int .i64 a) ∧ w'.cell? ⟨ad.block, ad.off + 1, none⟩ = some (.int .i64 b)) (first | exact ⟨hw, hv, hk0, hk1⟩ | go_keep) (first | (go_at_call 63; refine wCc (wsT HS) H (fun q HS => Hf F HF k g l _ q _ _ w0 _ HS.wr HS.below) ?_; (try clear hx0); clear hw; clear hv; clear hx2; clear hx3; clear hx4; clear hk0 hk1; clear HS H; intro q w' HS H; (try dsimp only at H); have hw : _ = some (Value.pointer (some ⟨g, 0, none⟩)) := HS.cb (bs := [_, _, _]) (b := bw) (.tail _ (.tail _ (.head _))) 0; have hv : _ = some (Value.slice (some ad) xs.length c) := HS.cb (bs := [_, _, _]) (b := bk) (.head _) 0; have hx2 : _ = some (Value.string x2) := HS.cb (bs := [_, _, _]) (b := bx) (.tail _ (.head _)) 2; have hx3 : _ = some (Value.int .i64 x3) := HS.cb (bs := [_, _, _]) (b := bx) (.tail _ (.head _)) 3; have hx4 : _ = some (Value.string x4) := HS.cb (bs := [_, _, _]) (b := bx) (.tail _ (.head _)) 4; have hk0 := (HS.i _ (.head _)).k0 (show 0 < xs.length by have := HLN.out; omega); rw [← Ea.out] at hk0; have hk1 := RI.k 0 (HS.i _ (.head _)) (show 1 < xs.length by have := HLN.out; omega); rw [← Eb.out] at hk1))
  have h_ := H.out
  cases h_
  go_end0
  exact (wsT HS).back
 replace H := wE c26 H
 have c26b : (x0 == 26) = false := beq_eq_false_iff_ne.mpr c26
 clear c26
 by_cases c22 : x0 = 22
 ·replace H := wI c22 H
  have c22b : (x0 == 22) = true := beq_iff_eq.mpr c22
  clear c22
  have hl := kN H
  replace H := wI hl H
  have q1 := eq_true (show 0 < xs.length by omega)
  have p1 := eq_true (show (0 : Int) < (xs.length : Int) by omega)
  obtain ⟨ad, rfl⟩ := (HS.i _ (.head _)).ad (show 0 < xs.length by omega)
  obtain ⟨a, ea⟩ : ∃ x, x = xs.getD 0 0 := ⟨_, rfl⟩
  rw [← ea] at H
  have Ea := ae.mk ea
  have HLN := ae.mk hl
  have hk0 := (HS.i _ (.head _)).k0 (show 0 < xs.length by have := HLN.out; omega); rw [← Ea.out] at hk0; clear ea
  clear hl
  obtain ⟨A2, hcut, hR2⟩ := (HS.i _ (.head _)).OI (show 0 < xs.length from HLN.out) hc
  obtain ⟨ys, ey⟩ : ∃ ys, ys = xs.drop 1 := ⟨_, rfl⟩
  rw [← ey] at hcut hR2 H
  clear ey
  replace HS := HS.int hR2
  clear hR2
  go_wp2
  go_region_held3 (fun w' => w'.cell? ⟨bw, 0, none⟩ = some (.pointer (some ⟨g, 0, none⟩)) ∧ w'.cell? ⟨bk, 0, none⟩ = some (.slice (some ad) xs.length c) ∧ w'.cell? ad = some (.int .i64 a)) (first | exact ⟨hw, hv, hk0⟩ | go_keep) (first | (go_at_call 22; refine wCc (wsT HS) H (fun q HS => HF g l _ _ q w0 _ HS.wr HS.below) ?_; (try clear hx0); clear hw; clear hv; clear hx2; clear hx3; clear hx4; clear hk0; clear HS H; intro q w' HS H; (try dsimp only at H); have hw : _ = some (Value.pointer (some ⟨g, 0, none⟩)) := HS.cb (bs := [_, _, _]) (b := bw) (.tail _ (.tail _ (.head _))) 0; have hv : _ = some (Value.slice (some ad) xs.length c) := HS.cb (bs := [_, _, _]) (b := bk) (.head _) 0; have hx2 : _ = some (Value.string x2) := HS.cb (bs := [_, _, _]) (b := bx) (.tail _ (.head _)) 2; have hx3 : _ = some (Value.int .i64 x3) := HS.cb (bs := [_, _, _]) (b := bx) (.tail _ (.head _)) 3; have hx4 : _ = some (Value.string x4) := HS.cb (bs := [_, _, _]) (b := bx) (.tail _ (.head _)) 4; have hk0 := (HS.i _ (.tail _ (.head _))).k0 (show 0 < xs.length by have := HLN.out; omega); rw [← Ea.out] at hk0))
  go_wp2
  go_region_held3 (fun w' => w'.cell? ⟨bw, 0, none⟩ = some (.pointer (some ⟨g, 0, none⟩)) ∧ w'.cell? ⟨bk, 0, none⟩ = some (.slice (some ad) xs.length c)) (first | exact ⟨hw, hv⟩ | go_keep) (first | (go_at_call 67; refine wCc (wsT HS) H (fun q HS => LG F HF k g l _ q _ _ _ w0 _ HS.wr HS.below (HS.i _ (.head _))) ?_; (try clear hx0); clear hw; clear hv; clear hx2; clear hx3; clear hx4; clear hk0; clear HS H; intro q w' HS H; (try dsimp only at H); have hw : _ = some (Value.pointer (some ⟨g, 0, none⟩)) := HS.cb (bs := [_, _, _]) (b := bw) (.tail _ (.tail _ (.head _))) 0; have hv : _ = some (Value.slice (some ad) xs.length c) := HS.cb (bs := [_, _, _]) (b := bk) (.head _) 0; have hx2 : _ = some (Value.string x2) := HS.cb (bs := [_, _, _]) (b := bx) (.tail _ (.head _)) 2; have hx3 : _ = some (Value.int .i64 x3) := HS.cb (bs := [_, _, _]) (b := bx) (.tail _ (.head _)) 3; have hx4 : _ = some (Value.string x4) := HS.cb (bs := [_, _, _]) (b := bx) (.tail _ (.head _)) 4; have hk0 := (HS.i _ (.tail _ (.head _))).k0 (show 0 < xs.length by have := HLN.out; omega); rw [← Ea.out] at hk0))
  have h_ := H.out
  cases h_
  go_end0
  exact (wsT HS).back
 replace H := wE c22 H
 have c22b : (x0 == 22) = false := beq_eq_false_iff_ne.mpr c22
 clear c22
 by_cases c23 : x0 = 23
 ·replace H := wI c23 H
  have c23b : (x0 == 23) = true := beq_iff_eq.mpr c23
  clear c23
  go_wp2_with (first | (go_at_call 64; (first | ((with_reducible refine fO ?_); refine jw (wsT HS) H rfl rfl (Nat.le_of_ble_eq_true rfl) rfl ?_) | ((with_reducible refine fP ?_); refine jf (wsT HS) H rfl rfl (Nat.le_of_ble_eq_true rfl) rfl ?_)); (try clear hx0); clear hw; clear hv; clear hx2; clear hx3; clear hx4; clear HS H; intro q w' HS H; (try dsimp only at H); have hw : _ = some (Value.pointer (some ⟨g, 0, none⟩)) := HS.cb (bs := [_, _, _]) (b := bw) (.tail _ (.tail _ (.head _))) 0; have hv : _ = some (Value.slice A xs.length c) := HS.cb (bs := [_, _, _]) (b := bk) (.head _) 0; have hx2 : _ = some (Value.string x2) := HS.cb (bs := [_, _, _]) (b := bx) (.tail _ (.head _)) 2; have hx3 : _ = some (Value.int .i64 x3) := HS.cb (bs := [_, _, _]) (b := bx) (.tail _ (.head _)) 3; have hx4 : _ = some (Value.string x4) := HS.cb (bs := [_, _, _]) (b := bx) (.tail _ (.head _)) 4) | (go_at_call 67; refine wCc (wsT HS) H (fun q HS => LG F HF k g l _ q _ _ _ w0 _ HS.wr HS.below (HS.i _ (.head _))) ?_; (try clear hx0); clear hw; clear hv; clear hx2; clear hx3; clear hx4; clear HS H; intro q w' HS H; (try dsimp only at H); have hw : _ = some (Value.pointer (some ⟨g, 0, none⟩)) := HS.cb (bs := [_, _, _]) (b := bw) (.tail _ (.tail _ (.head _))) 0; have hv : _ = some (Value.slice A xs.length c) := HS.cb (bs := [_, _, _]) (b := bk) (.head _) 0; have hx2 : _ = some (Value.string x2) := HS.cb (bs := [_, _, _]) (b := bx) (.tail _ (.head _)) 2; have hx3 : _ = some (Value.int .i64 x3) := HS.cb (bs := [_, _, _]) (b := bx) (.tail _ (.head _)) 3; have hx4 : _ = some (Value.string x4) := HS.cb (bs := [_, _, _]) (b := bx) (.tail _ (.head _)) 4))
  have h_ := H.out
  cases h_
  go_end0
  exact (wsT HS).back
 replace H := wE c23 H
 have c23b : (x0 == 23) = false := beq_eq_false_iff_ne.mpr c23
 clear c23
 by_cases c27 : x0 = 27
 ·replace H := wI c27 H
  have c27b : (x0 == 27) = true := beq_iff_eq.mpr c27
  clear c27
  go_wp2_with (first | (go_at_call 68; refine wCc (wsT HS) H (fun q HS => BC (fun o => if 1 < xs.length then (F l (xs.getD 0 0) o).bind fun a => (fD k [x4] a).bind fun b => (F l (xs.getD 1 0) b).bind some else none) k g l _ q 69 #[.pointer (some ⟨bw, 0, none⟩), .pointer (some ⟨bk, 0, none⟩), .pointer (some ⟨bx, 0, none⟩)] w0 _ HS.wr HS.below (fQ Try.func69 (by decide) rfl) (fun out q W hI hB hk h => Og F HF k g l out q x0 x1 x2 x3 x4 A c xs bk bx bw w0 W (HS.step hk hI hB).renew h)) ?_; (try clear hx0); clear hw; clear hv; clear hx2; clear hx3; clear hx4; clear HS H; intro q w' HS H; (try dsimp only at H); have hw : _ = some (Value.pointer (some ⟨g, 0, none⟩)) := HS.cb (bs := [_, _, _]) (b := bw) (.tail _ (.tail _ (.head _))) 0; have hv : _ = some (Value.slice A xs.length c) := HS.cb (bs := [_, _, _]) (b := bk) (.head _) 0; have hx2 : _ = some (Value.string x2) := HS.cb (bs := [_, _, _]) (b := bx) (.tail _ (.head _)) 2; have hx3 : _ = some (Value.int .i64 x3) := HS.cb (bs := [_, _, _]) (b := bx) (.tail _ (.head _)) 3; have hx4 : _ = some (Value.string x4) := HS.cb (bs := [_, _, _]) (b := bx) (.tail _ (.head _)) 4))
  have h_ := H.out
  cases h_
  go_end0
  exact (wsT HS).back
 replace H := wE c27 H
 have c27b : (x0 == 27) = false := beq_eq_false_iff_ne.mpr c27
 clear c27
 by_cases c28 : x0 = 28
 ·replace H := wI c28 H
  have c28b : (x0 == 28) = true := beq_iff_eq.mpr c28
  clear c28
  go_wp2_with (first | (go_at_call 68; refine wCc (wsT HS) H (fun q HS => BC (fun o => if 0 < xs.length then (fD k [x4] o).bind fun a => (F l (xs.getD 0 0) a).bind some else none) k g l _ q 70 #[.pointer (some ⟨bw, 0, none⟩), .pointer (some ⟨bx, 0, none⟩), .pointer (some ⟨bk, 0, none⟩)] w0 _ HS.wr HS.below (fQ Try.func70 (by decide) rfl) (fun out q W hI hB hk h => O4 F HF k g l out q x0 x1 x2 x3 x4 A c xs bk bx bw w0 W (HS.step hk hI hB).renew h)) ?_; (try clear hx0); clear hw; clear hv; clear hx2; clear hx3; clear hx4; clear HS H; intro q w' HS H; (try dsimp only at H); have hw : _ = some (Value.pointer (some ⟨g, 0, none⟩)) := HS.cb (bs := [_, _, _]) (b := bw) (.tail _ (.tail _ (.head _))) 0; have hv : _ = some (Value.slice A xs.length c) := HS.cb (bs := [_, _, _]) (b := bk) (.head _) 0; have hx2 : _ = some (Value.string x2) := HS.cb (bs := [_, _, _]) (b := bx) (.tail _ (.head _)) 2; have hx3 : _ = some (Value.int .i64 x3) := HS.cb (bs := [_, _, _]) (b := bx) (.tail _ (.head _)) 3; have hx4 : _ = some (Value.string x4) := HS.cb (bs := [_, _, _]) (b := bx) (.tail _ (.head _)) 4))
  have h_ := H.out
  cases h_
  go_end0
  exact (wsT HS).back
 replace H := wE c28 H
 have c28b : (x0 == 28) = false := beq_eq_false_iff_ne.mpr c28
 clear c28
 by_cases c30 : x0 = 30
 ·replace H := wI c30 H
  have c30b : (x0 == 30) = true := beq_iff_eq.mpr c30
  clear c30
  go_wp2_with (first | (go_at_call 68; refine wCc (wsT HS) H (fun q HS => BC (fun o => if 0 < xs.length then (fD k [⟨#[115, 112, 97, 119, 110]⟩] o).bind fun a => (F l (xs.getD 0 0) a).bind some else none) k g l _ q 71 #[.pointer (some ⟨bw, 0, none⟩), .pointer (some ⟨bk, 0, none⟩)] w0 _ HS.wr HS.below (fQ Try.func71 (by decide) rfl) (fun out q W hI hB hk h => O6 F HF k g l out q x0 x1 x2 x3 x4 A c xs bk bx bw w0 W (HS.step hk hI hB).renew h)) ?_; (try clear hx0); clear hw; clear hv; clear hx2; clear hx3; clear hx4; clear HS H; intro q w' HS H; (try dsimp only at H); have hw : _ = some (Value.pointer (some ⟨g, 0, none⟩)) := HS.cb (bs := [_, _, _]) (b := bw) (.tail _ (.tail _ (.head _))) 0; have hv : _ = some (Value.slice A xs.length c) := HS.cb (bs := [_, _, _]) (b := bk) (.head _) 0; have hx2 : _ = some (Value.string x2) := HS.cb (bs := [_, _, _]) (b := bx) (.tail _ (.head _)) 2; have hx3 : _ = some (Value.int .i64 x3) := HS.cb (bs := [_, _, _]) (b := bx) (.tail _ (.head _)) 3; have hx4 : _ = some (Value.string x4) := HS.cb (bs := [_, _, _]) (b := bx) (.tail _ (.head _)) 4))
  have h_ := H.out
  cases h_
  go_end0
  exact (wsT HS).back
 replace H := wE c30 H
 have c30b : (x0 == 30) = false := beq_eq_false_iff_ne.mpr c30
 clear c30
 go_wp2
 have h_ := H.out
 cases h_
 go_end0
 exact (wsT HS).back
end Go.Proofs.Ytlenihbmafkegaa.Q
end
section
set_option linter.unusedVariables false
set_option linter.unusedSimpArgs false
namespace Go.Proofs.Ytlenihbmafkegaa.Q
open Go Go.RowKit Go.Proofs.YtlenihbmafkegaaW.PrintWords Go.Proofs.YtlenihbmafkegaaW.PrintLast Go.Proofs.YtlenihbmafkegaaW.PrintMore
def qh (F : kz) (k : Nat) (l : List S40) (x0 : Int) (x2 : ByteArray) (x3 : Int) (x4 : ByteArray) (xs : List Int) (out : List S56) : Option (List S56) :=
 if x0 = 1 then (fD k [⟨#[109, 111, 100, 117, 108, 101]⟩, x2] out).bind fun a => (BM x3 a).bind fun b => (fD k [⟨#[59]⟩] b).bind fun c => (jW F k l false true xs c).bind some
 else if x0 = 2 then (fD k [⟨#[117, 115, 101]⟩, x2, ⟨#[46]⟩, x4, ⟨#[47]⟩] out).bind fun a => (BM x3 a).bind fun b => (fD k [⟨#[59]⟩] b).bind some
 else if x0 = 3 then (fD k [⟨#[102, 110]⟩, x2] out).bind fun a => (iQ F k l xs a).bind some
 else if x0 = 4 then (fD k [x2] out).bind some
 else if x0 = 5 then (fD k [⟨#[123]⟩] out).bind fun a => (jW F k l false true xs a).bind fun b => (fD k [⟨#[125]⟩] b).bind some
 else some out
theorem xG {F : kz} {k : Nat} {l : List S40} {f : Bool} {xs : List Int} {i : Nat} {out r : List S56} (hi : i < xs.length) (h : jW F k l false f (xs.drop i) out = some r) :
 ((F l (xs.getD i 0) out).bind fun b => jW F k l false false (xs.drop (i + 1)) b) = some r := by
 rw [List.drop_eq_getElem_cons hi, jW] at h
 have e : xs.getD i 0 = xs[i] := by simp [hi]
 rw [e]
 simpa using h
theorem zQ {F : kz} {k : Nat} {l : List S40} (f f' : Bool) (xs : List Int) (out : List S56) : jW F k l false f xs out = jW F k l false f' xs out := by
 cases xs <;> simp [jW]
set_option maxHeartbeats 8000000 in
set_option maxRecDepth 100000 in
theorem KE (F : kz) (HF : jP F) (k g : Nat) (l : List S40) (out r : List S56) (x0 x1 : Int) (x2 : ByteArray) (x3 : Int) (x4 : ByteArray) (A : Option Addr) (c : Nat) (xs : List Int) (w0 w : World) (hI : Wr w0 w g l out) (hB : Below w0.heap.size w0 w) (hs : RI (Kd.int .i64) 3 w A xs) (hc : xs.length ≤ c) (h : qh F k l x0 x2 x3 x4 xs out = some r) :
 Calls Try.prog 42 #[.pointer (some ⟨g, 0, none⟩), .agg #[.int .i64 x0, .int .i64 x1, .string x2, .int .i64 x3, .string x4], .slice A xs.length c] w (kC w0 w g l r) := by
 unfold qh at h
 have HS := (Ws.new hI hB).int hs
 have H := ae.mk h
 clear h hI hB hs
 go_enter Try.func42, Try.ntmps42
 go_upto_region 2 with (first | ((with_reducible refine bI (N := 4) rfl ?_); refine Fv (N := 4) (wsT HS) (by first | (go_simp; done) | (go_simp; rfl)) ?_; clear HS; intro gb w' HS; have hx0 : _ = some (Value.int .i64 x0) := HS.cb (.head _) 0; have hx2 : _ = some (Value.string x2) := HS.cb (.head _) 2; have hx3 : _ = some (Value.int .i64 x3) := HS.cb (.head _) 3; have hx4 : _ = some (Value.string x4) := HS.cb (.head _) 4))
 by_cases c1 : x0 = 1
 ·replace H := wI c1 H
  have c1b : (x0 == 1) = true := beq_iff_eq.mpr c1
  clear c1
  go_wp2_with (first | (go_at_call 64; (first | ((with_reducible refine fO ?_); refine jw (wsT HS) H rfl rfl (Nat.le_of_ble_eq_true rfl) rfl ?_) | ((with_reducible refine fP ?_); refine jf (wsT HS) H rfl rfl (Nat.le_of_ble_eq_true rfl) rfl ?_)); (try clear hx0); clear hx2 hx3 hx4; clear HS H; intro q w' HS H; (try dsimp only at H); have hx2 : _ = some (Value.string x2) := HS.cb (.head _) 2; have hx3 : _ = some (Value.int .i64 x3) := HS.cb (.head _) 3; have hx4 : _ = some (Value.string x4) := HS.cb (.head _) 4) | (go_at_call 65; refine wCc (wsT HS) H (fun q HS => LX g l _ q _ w0 _ HS.wr HS.below) ?_; (try clear hx0); clear hx2 hx3 hx4; clear HS H; intro q w' HS H; (try dsimp only at H); have hx2 : _ = some (Value.string x2) := HS.cb (.head _) 2; have hx3 : _ = some (Value.int .i64 x3) := HS.cb (.head _) 3; have hx4 : _ = some (Value.string x4) := HS.cb (.head _) 4))
  go_loopw [28] (fun v11 w' => ∃ (i : Nat) (q : List S56), v11 = .int .i64 (i : Int) ∧ ae (i ≤ xs.length) ∧ ae (((jW F k l false false (xs.drop i) q).bind fun b => some b) = some r) ∧ Ws w0 w w' g l q [(gb, #[.int .i64 x0, .int .i64 x1, .string x2, .int .i64 x3, .string x4], 40)] [(A, xs)] []) (fun v11 _ => match v11 with | .int _ x => xs.length - x.toNat | _ => 0)
  case atStart => exact ⟨0, q, rfl, ⟨Nat.zero_le _⟩, ⟨by have := H.out; rw [zQ true false] at this; exact this⟩, wsT HS⟩
  case round =>
   clear HS H hx2 hx3 hx4
   obtain ⟨i, q, rfl, HL, H, HS⟩ := hrel
   have h2 : xs.length ≤ 9223372036854775807 := (HS.i _ (.head _)).1.2.1
   by_cases hi : i < xs.length
   ·obtain ⟨b, hb1, hb2⟩ := Option.bind_eq_some_iff.mp H.out
    replace H := ae.mk (xG hi hb1)
    have HB2 := ae.mk hb2
    clear hb1 hb2
    have hd : decide ((i : Int) < (xs.length : Int)) = true := decide_eq_true (by omega)
    have hw1 : IntKind.i64.wrap ((i : Int) + 1) = (i : Int) + 1 := by rw [gB]; unfold wrap64; omega
    obtain ⟨ad, rfl, hx⟩ := (HS.i _ (.head _)).kid i hi
    obtain ⟨x, ex⟩ : ∃ x, x = xs.getD i 0 := ⟨_, rfl⟩
    rw [← ex] at hx H
    clear ex
    have p3 := eq_true (show (0 : Int) ≤ (i : Int) by omega)
    have q3 := eq_true (show (i : Int) < (xs.length : Int) by omega)
    have q4 := eq_true hi
    have HI := ae.mk hi
    clear hi h2
    go_wp2_with (first | (go_at_call 22; refine wCc (wsT HS) H (fun q HS => HF g l _ _ q w0 _ HS.wr HS.below) ?_; clear HS H; intro q w' HS H; (try dsimp only at H)) | ((with_reducible refine gC 22 rfl ?_); refine wC 22 rfl Try.func22 (wsT HS) H (fun q HS => HF g l _ _ q w0 _ HS.wr HS.below) ?_; clear HS H; intro q w' HS H; (try dsimp only at H)))
    go_roundw
    case rel => exact ⟨i + 1, _, by simp, ⟨by have := HI.out; omega⟩, ⟨by rw [H.out]; exact HB2.out⟩, wsT HS⟩
    case measure => have := HI.out; show xs.length - ((i : Int) + 1).toNat < xs.length - ((i : Int)).toNat; omega
   have hd : decide ((i : Int) < (xs.length : Int)) = false := decide_eq_false (by omega)
   have H2 := H.out
   rw [List.drop_eq_nil_of_le (by omega), jW] at H2
   replace H := ae.mk (show some q = some r from H2)
   have q4 := eq_false hi
   clear hi H2 h2
   go_wp2
   have h_ := H.out
   cases h_
   go_end0
   exact (wsT HS).back
 replace H := wE c1 H
 have c1b : (x0 == 1) = false := beq_eq_false_iff_ne.mpr c1
 clear c1
 by_cases c2 : x0 = 2
 ·replace H := wI c2 H
  have c2b : (x0 == 2) = true := beq_iff_eq.mpr c2
  clear c2
  go_wp2_with (first | (go_at_call 64; (first | ((with_reducible refine fO ?_); refine jw (wsT HS) H rfl rfl (Nat.le_of_ble_eq_true rfl) rfl ?_) | ((with_reducible refine fP ?_); refine jf (wsT HS) H rfl rfl (Nat.le_of_ble_eq_true rfl) rfl ?_)); (try clear hx0); clear hx2 hx3 hx4; clear HS H; intro q w' HS H; (try dsimp only at H); have hx2 : _ = some (Value.string x2) := HS.cb (.head _) 2; have hx3 : _ = some (Value.int .i64 x3) := HS.cb (.head _) 3; have hx4 : _ = some (Value.string x4) := HS.cb (.head _) 4) | (go_at_call 65; refine wCc (wsT HS) H (fun q HS => LX g l _ q _ w0 _ HS.wr HS.below) ?_; (try clear hx0); clear hx2 hx3 hx4; clear HS H; intro q w' HS H; (try dsimp only at H); have hx2 : _ = some (Value.string x2) := HS.cb (.head _) 2; have hx3 : _ = some (Value.int .i64 x3) := HS.cb (.head _) 3; have hx4 : _ = some (Value.string x4) := HS.cb (.head _) 4))
  have h_ := H.out
  cases h_
  go_end0
  exact (wsT HS).back
 replace H := wE c2 H
 have c2b : (x0 == 2) = false := beq_eq_false_iff_ne.mpr c2
 clear c2
 by_cases c3 : x0 = 3
 ·replace H := wI c3 H
  have c3b : (x0 == 3) = true := beq_iff_eq.mpr c3
  clear c3
  go_wp2_with (first | (go_at_call 64; (first | ((with_reducible refine fO ?_); refine jw (wsT HS) H rfl rfl (Nat.le_of_ble_eq_true rfl) rfl ?_) | ((with_reducible refine fP ?_); refine jf (wsT HS) H rfl rfl (Nat.le_of_ble_eq_true rfl) rfl ?_)); (try clear hx0); clear hx2 hx3 hx4; clear HS H; intro q w' HS H; (try dsimp only at H); have hx2 : _ = some (Value.string x2) := HS.cb (.head _) 2; have hx3 : _ = some (Value.int .i64 x3) := HS.cb (.head _) 3; have hx4 : _ = some (Value.string x4) := HS.cb (.head _) 4) | (go_at_call 66; refine wCc (wsT HS) H (fun q HS => xP F HF k g l _ q _ _ _ w0 _ HS.wr HS.below (HS.i _ (.head _)) hc) ?_; (try clear hx0); clear hx2 hx3 hx4; clear HS H; intro q w' HS H; (try dsimp only at H); have hx2 : _ = some (Value.string x2) := HS.cb (.head _) 2; have hx3 : _ = some (Value.int .i64 x3) := HS.cb (.head _) 3; have hx4 : _ = some (Value.string x4) := HS.cb (.head _) 4))
  have h_ := H.out
  cases h_
  go_end0
  exact (wsT HS).back
 replace H := wE c3 H
 have c3b : (x0 == 3) = false := beq_eq_false_iff_ne.mpr c3
 clear c3
 by_cases c4 : x0 = 4
 ·replace H := wI c4 H
  have c4b : (x0 == 4) = true := beq_iff_eq.mpr c4
  clear c4
  go_wp2_with (first | (go_at_call 64; (first | ((with_reducible refine fO ?_); refine jw (wsT HS) H rfl rfl (Nat.le_of_ble_eq_true rfl) rfl ?_) | ((with_reducible refine fP ?_); refine jf (wsT HS) H rfl rfl (Nat.le_of_ble_eq_true rfl) rfl ?_)); (try clear hx0); clear hx2 hx3 hx4; clear HS H; intro q w' HS H; (try dsimp only at H); have hx2 : _ = some (Value.string x2) := HS.cb (.head _) 2; have hx3 : _ = some (Value.int .i64 x3) := HS.cb (.head _) 3; have hx4 : _ = some (Value.string x4) := HS.cb (.head _) 4))
  have h_ := H.out
  cases h_
  go_end0
  exact (wsT HS).back
 replace H := wE c4 H
 have c4b : (x0 == 4) = false := beq_eq_false_iff_ne.mpr c4
 clear c4
 by_cases c5 : x0 = 5
 ·replace H := wI c5 H
  have c5b : (x0 == 5) = true := beq_iff_eq.mpr c5
  clear c5
  go_wp2_with (first | (go_at_call 64; (first | ((with_reducible refine fO ?_); refine jw (wsT HS) H rfl rfl (Nat.le_of_ble_eq_true rfl) rfl ?_) | ((with_reducible refine fP ?_); refine jf (wsT HS) H rfl rfl (Nat.le_of_ble_eq_true rfl) rfl ?_)); (try clear hx0); clear hx2 hx3 hx4; clear HS H; intro q w' HS H; (try dsimp only at H); have hx2 : _ = some (Value.string x2) := HS.cb (.head _) 2; have hx3 : _ = some (Value.int .i64 x3) := HS.cb (.head _) 3; have hx4 : _ = some (Value.string x4) := HS.cb (.head _) 4))
  go_loopw [76] (fun v11 w' => ∃ (i : Nat) (q : List S56), v11 = .int .i64 (i : Int) ∧ ae (i ≤ xs.length) ∧ ae (((jW F k l false false (xs.drop i) q).bind fun b => (fD k [⟨#[125]⟩] b).bind some) = some r) ∧ Ws w0 w w' g l q [(gb, #[.int .i64 x0, .int .i64 x1, .string x2, .int .i64 x3, .string x4], 40)] [(A, xs)] []) (fun v11 _ => match v11 with | .int _ x => xs.length - x.toNat | _ => 0)
  case atStart => exact ⟨0, q, rfl, ⟨Nat.zero_le _⟩, ⟨by have := H.out; rw [zQ true false] at this; exact this⟩, wsT HS⟩
  case round =>
   clear HS H hx2 hx3 hx4
   obtain ⟨i, q, rfl, HL, H, HS⟩ := hrel
   have h2 : xs.length ≤ 9223372036854775807 := (HS.i _ (.head _)).1.2.1
   by_cases hi : i < xs.length
   ·obtain ⟨b, hb1, hb2⟩ := Option.bind_eq_some_iff.mp H.out
    replace H := ae.mk (xG hi hb1)
    have HB2 := ae.mk hb2
    clear hb1 hb2
    have hd : decide ((i : Int) < (xs.length : Int)) = true := decide_eq_true (by omega)
    have hw1 : IntKind.i64.wrap ((i : Int) + 1) = (i : Int) + 1 := by rw [gB]; unfold wrap64; omega
    obtain ⟨ad, rfl, hx⟩ := (HS.i _ (.head _)).kid i hi
    obtain ⟨x, ex⟩ : ∃ x, x = xs.getD i 0 := ⟨_, rfl⟩
    rw [← ex] at hx H
    clear ex
    have p3 := eq_true (show (0 : Int) ≤ (i : Int) by omega)
    have q3 := eq_true (show (i : Int) < (xs.length : Int) by omega)
    have q4 := eq_true hi
    have HI := ae.mk hi
    clear hi h2
    go_wp2_with (first | (go_at_call 22; refine wCc (wsT HS) H (fun q HS => HF g l _ _ q w0 _ HS.wr HS.below) ?_; clear HS H; intro q w' HS H; (try dsimp only at H)) | ((with_reducible refine gC 22 rfl ?_); refine wC 22 rfl Try.func22 (wsT HS) H (fun q HS => HF g l _ _ q w0 _ HS.wr HS.below) ?_; clear HS H; intro q w' HS H; (try dsimp only at H)))
    go_roundw
    case rel => exact ⟨i + 1, _, by simp, ⟨by have := HI.out; omega⟩, ⟨by rw [H.out]; exact HB2.out⟩, wsT HS⟩
    case measure => have := HI.out; show xs.length - ((i : Int) + 1).toNat < xs.length - ((i : Int)).toNat; omega
   have hd : decide ((i : Int) < (xs.length : Int)) = false := decide_eq_false (by omega)
   have H2 := H.out
   rw [List.drop_eq_nil_of_le (by omega), jW] at H2
   replace H := ae.mk (show (fD k [⟨#[125]⟩] q).bind some = some r from H2)
   have q4 := eq_false hi
   clear hi H2 h2
   go_wp2_with (first | (go_at_call 64; (first | ((with_reducible refine fO ?_); refine jw (wsT HS) H rfl rfl (Nat.le_of_ble_eq_true rfl) rfl ?_) | ((with_reducible refine fP ?_); refine jf (wsT HS) H rfl rfl (Nat.le_of_ble_eq_true rfl) rfl ?_)); clear HS H; intro q w' HS H; (try dsimp only at H)))
   have h_ := H.out
   cases h_
   go_end0
   exact (wsT HS).back
 replace H := wE c5 H
 have c5b : (x0 == 5) = false := beq_eq_false_iff_ne.mpr c5
 clear c5
 go_wp2
 have h_ := H.out
 cases h_
 go_end0
 exact (wsT HS).back
end Go.Proofs.Ytlenihbmafkegaa.Q
end
section
namespace Go.Proofs.Ytlenihbmafkegaa.Q
open Go.RowKit Go.Proofs.YtlenihbmafkegaaW.PrintWords Go.Proofs.YtlenihbmafkegaaW.PrintLast Go.Proofs.YtlenihbmafkegaaW.PrintMore
attribute [local go_sem] dC dA dP dO cZ cO dB dw
set_option linter.unusedVariables false
set_option linter.unusedSimpArgs false
/-! ### bK: function 16 -/
mutual
def bK.l0 : Nat → List (S40) → Int → Int → Option (Int)
 | 0, _, _, _ => none
 | k + 1, x0, x1, x5 => if x1 < (x0.length : Int) then (if 0 ≤ x1 then (if ((au x0 x1).f1) < 0 then (bK.j1 k x0 x1 x5 ((au x0 x1).f1) true) else (bK.j1 k x0 x1 x5 ((au x0 x1).f1) (decide (((au x0 x1).f1) > (x0.length : Int))))) else (none)) else (some (-1))
def bK.j1 : Nat → List (S40) → Int → Int → Int → Bool → Option (Int)
 | 0, _, _, _, _, _ => none
 | k + 1, x0, x1, x5, x6, x27 => if x27 = true then (some (-1)) else (if (wrap64 (x5 + (wrap64 (x6 - 1)))) = 0 then (some (wrap64 (x1 + 1))) else (bK.l0 k x0 (wrap64 (x1 + 1)) (wrap64 (x5 + (wrap64 (x6 - 1))))))
end
def bK.f (k : Nat) (l0 : List (S40)) (a1 : Int) : Option (Int) := if a1 < 0 then (some (-1)) else (bK.l0 k l0 a1 1)
theorem bK.cu : ∀ k, (∀ y0 y1 y2, LeO (bK.l0 k y0 y1 y2) (bK.l0 (k + 1) y0 y1 y2)) ∧ (∀ y0 y1 y2 y3 y4, LeO (bK.j1 k y0 y1 y2 y3 y4) (bK.j1 (k + 1) y0 y1 y2 y3 y4))
 | 0 => ⟨fun _ _ _ r h => by simp [bK.l0] at h, fun _ _ _ _ _ r h => by simp [bK.j1] at h⟩
 | k + 1 => by
  obtain ⟨ih0, ih1⟩ := bK.cu k
  refine ⟨?_, ?_⟩
  ·intro y0 y1 y2
   unfold bK.l0
   exact yL
  intro y0 y1 y2 y3 y4
  unfold bK.j1
  exact yL
theorem bK.mono : ∀ a0 a1 k, LeO (bK.f k a0 a1) (bK.f (k + 1) a0 a1) := by
 intro a0 a1 k
 obtain ⟨ih0, ih1⟩ := bK.cu k
 unfold bK.f
 exact yL
set_option maxHeartbeats 8000000 in
set_option maxRecDepth 100000 in
theorem bK.calls (k : Nat) (A0 : Option Addr) (c0 : Nat) (l0 : List (S40)) (a1 : Int) (r : Int) (w : World) (hr0 : Kd.C k40 w A0 l0.length l0) (hc0 : l0.length ≤ c0) (h : bK.f k l0 a1 = some r) :
 Calls Try.prog 16 #[.slice A0 l0.length c0, .int .i64 a1] w fun e w' => e = .returned (.int .i64 r) ∧ dQ w w' := by
 have HR0 := ae.mk hr0
 have HC0 := ae.mk hc0
 clear hr0 hc0
 have H := h
 clear h
 unfold bK.f at H
 revert H
 refine jU (fun c3b0 H => ?_) fun c3b0 H => ?_
 ·obtain rfl := Option.some.inj H
  go_enter Try.func16, Try.ntmps16
  go_wp2
  go_ret
  exact ⟨fT, Z0⟩
 have H' := ae.mk H
 clear H
 go_enter Try.func16, Try.ntmps16
 go_wp2
 go_loopg [1, 5] k (fun kq v1 v5 w' => ∃ (x1_1 : Int) (x5_1 : Int), v1 = .int .i64 x1_1 ∧ v5 = .int .i64 x5_1 ∧ ae (bK.l0 kq l0 x1_1 x5_1 = some r) ∧ ae (kq ≤ k) ∧ dQ w w')
 case atStart => exact ⟨(a1), (1), fT, fT, H', ⟨Nat.le_refl _⟩, Z0⟩
 case round =>
  clear H'
  try clear c1
  try clear p2
  try clear c3
  try clear c3b0
  obtain ⟨x1_1, x5_1, rfl, rfl, HA, HK1, ⟨m1, rfl⟩⟩ := hrel
  cases gk with
  | zero => exact absurd HA.out (by simp [bK.l0])
  | succ k1 =>
   have H := HA.out
   clear HA
   simp only [bK.l0] at H
   revert H
   refine jU (fun c4b0 H => ?_) fun c4b0 H => ?_
   ·revert H
    refine gY (fun c5b0 H => ?_) fun c5 H => ?_
    ·have HC6 := ae.mk H
     clear H
     have p103 : 0 ≤ (x1_1 : Int) := of_decide_eq_true aT
     have q103 : x1_1 < (l0.length : Int) := of_decide_eq_true aT
     obtain ⟨ad103, e103, hx103_0, hx103_1, hx103_2, hx103_3, hx103_4⟩ := kF HR0.out x1_1 p103 q103
     cases e103
     replace p103 := eq_true p103
     replace q103 := eq_true q103
     go_upto_region 7 with (fail)
     go_cut [27] (fun v27 wc => ∃ (kq : Nat) (x27_5 : Bool), v27 = .bool x27_5 ∧ ae (bK.j1 kq l0 x1_1 x5_1 ((au l0 x1_1).f1) x27_5 = some r) ∧ ae (kq ≤ k1) ∧ dQ w wc)
     case first =>
      have H := HC6.out
      clear HC6
      revert H
      refine jU (fun c7b0 H => ?_) fun c7b0 H => ?_
      ·(first | rw [c7b0] | (simp only [gB, iP]; rw [c7b0]) | skip)
       have H' := ae.mk H
       clear H
       go_wp2
       go_meet
       case rel => exact ⟨_, (true), fT, H', ⟨by have := HK1.out; first | omega | exact Nat.le_refl _⟩, Z0⟩
      (first | rw [c7b0] | (simp only [gB, iP]; rw [c7b0]) | skip)
      have H' := ae.mk H
      clear H
      go_wp2
      go_meet
      case rel => exact ⟨_, (decide (((au l0 x1_1).f1) > (l0.length : Int))), fT, H', ⟨by have := HK1.out; first | omega | exact Nat.le_refl _⟩, Z0⟩
     case rest =>
      clear HC6
      try clear c1
      try clear p1
      try clear q1
      try clear hx1
      try clear p2
      try clear c3
      try clear c3b0
      try clear c4
      try clear c4b0
      try clear c5
      try clear c5b0
      try clear c7
      try clear c7b0
      try clear hx103_0
      try clear hx103_1
      try clear hx103_2
      try clear hx103_3
      try clear hx103_4
      try clear p103
      try clear p2
      try clear q103
      obtain ⟨kq, x27_5, rfl, HA, HJ5, ⟨mc5, rfl⟩⟩ := hcut
      cases kq with
      | zero => exact absurd HA.out (by simp [bK.j1])
      | succ kj5 =>
       have H := HA.out
       clear HA
       simp only [bK.j1] at H
       cases x27_5
       rotate_left
       ·replace H := yT H
        obtain rfl := Option.some.inj H
        go_wp2
        go_ret
        exact ⟨fT, Z0⟩
       replace H := yF H
       revert H
       refine bn (fun c9b0 c9b1 H => ?_) fun c9 c9b0 c9b1 H => ?_
       ·obtain rfl := Option.some.inj H
        go_wp2
        go_ret
        exact ⟨fT, Z0⟩
       have H' := ae.mk H
       clear H
       go_wp2
       go_roundg kj5
       case measure => have := HK1.out; have := HJ5.out; omega
       case rel => exact ⟨(wrap64 (x1_1 + 1)), (wrap64 (x5_1 + (wrap64 (((au l0 x1_1).f1) - 1)))), fT, fT, H', ⟨by have := HK1.out; have := HJ5.out; omega⟩, Z0⟩
    exact absurd H (by simp)
   obtain rfl := Option.some.inj H
   go_wp2
   go_ret
   exact ⟨fT, Z0⟩
end Go.Proofs.Ytlenihbmafkegaa.Q
end
section
namespace Go.Proofs.Ytlenihbmafkegaa.Q
open Go.RowKit Go.Proofs.YtlenihbmafkegaaW.PrintWords Go.Proofs.YtlenihbmafkegaaW.PrintLast Go.Proofs.YtlenihbmafkegaaW.PrintMore
attribute [local go_sem] dC dA dP dO cZ cO dB dw
set_option linter.unusedVariables false
set_option linter.unusedSimpArgs false
/-! ### bU: function 18 -/
def bU.l0 : Nat → List (S40) → Int → List Int → Int → Option (List Int)
 | 0, _, _, _, _ => none
 | k + 1, x0, x1, x5, x6 => if 0 ≤ x1 then (if x1 < (x0.length : Int) then (if (x5.length : Int) < ((au x0 x1).f1) then (if x5.length < 17592186044416 then ((bK.f k x0 x6).bind fun t121 => (bU.l0 k x0 x1 (x5 ++ [x6]) t121)) else (none)) else (some x5)) else (none)) else (none)
def bU.f (k : Nat) (l0 : List (S40)) (a1 : Int) : Option (List Int) := (bK.f k l0 a1).bind fun t116 => (if t116 < 0 then (some ([] : List Int)) else (bU.l0 k l0 a1 ([] : List Int) (wrap64 (a1 + 1))))
theorem bU.cu : ∀ k, (∀ y0 y1 y2 y3, LeO (bU.l0 k y0 y1 y2 y3) (bU.l0 (k + 1) y0 y1 y2 y3))
 | 0 => fun _ _ _ _ r h => by simp [bU.l0] at h
 | k + 1 => by
  have ih0 := bU.cu k
  intro y0 y1 y2 y3
  unfold bU.l0
  have m0 := bK.mono
  exact yL
theorem bU.mono : ∀ a0 a1 k, LeO (bU.f k a0 a1) (bU.f (k + 1) a0 a1) := by
 intro a0 a1 k
 have ih0 := bU.cu k
 unfold bU.f
 have m0 := bK.mono
 exact yL
set_option maxHeartbeats 8000000 in
set_option maxRecDepth 100000 in
theorem bU.calls (k : Nat) (A0 : Option Addr) (c0 : Nat) (l0 : List (S40)) (a1 : Int) (r : List Int) (w : World) (hr0 : Kd.C k40 w A0 l0.length l0) (hc0 : l0.length ≤ c0) (h : bU.f k l0 a1 = some r) :
 Calls Try.prog 18 #[.slice A0 l0.length c0, .int .i64 a1] w fun e w' => ∃ v0_ : Value, e = .returned (v0_) ∧ Kd.R (Kd.int .i64) 3 w' w.heap.size (fun _ => True) v0_ r ∧ Below w.heap.size w w' := by
 have HR0 := ae.mk hr0
 have HC0 := ae.mk hc0
 clear hr0 hc0
 have HB := ae.mk (Below.refl w.heap.size w)
 have H := h
 clear h
 unfold bU.f at H
 revert H
 refine yB1 fun t116 A3 H => ?_
 revert H
 refine jU (fun c4b0 H => ?_) fun c4b0 H => ?_
 ·obtain rfl := Option.some.inj H
  go_enter Try.func18, Try.ntmps18
  go_wp2_with (first | ((with_reducible refine gC 16 rfl ?_); refine gM 16 9 rfl Try.func16 (bK.calls k _ _ l0 a1 t116 _ Z7 HC0.out A3.out) ?_; rintro _ w' ⟨rfl, ⟨nd, rfl⟩⟩; refine ⟨_, rfl, ?_⟩))
  go_ret
  exact ⟨_, eT, Z5, bT HB⟩
 have H' := ae.mk H
 clear H
 go_enter Try.func18, Try.ntmps18
 go_wp2_with (first | ((with_reducible refine gC 16 rfl ?_); refine gM 16 9 rfl Try.func16 (bK.calls k _ _ l0 a1 t116 _ Z7 HC0.out A3.out) ?_; rintro _ w' ⟨rfl, ⟨nd, rfl⟩⟩; refine ⟨_, rfl, ?_⟩))
 go_loopg [5, 6] k (fun kq v5 v6 w' => ∃ (x5_1 : List Int) (x6_1 : Int), v6 = .int .i64 x6_1 ∧ ae (bU.l0 kq l0 a1 x5_1 x6_1 = some r) ∧ ae (kq ≤ k) ∧ ae (Kd.R (Kd.int .i64) 3 w' w.heap.size (fun _ => True) v5 x5_1) ∧ ae (Below w.heap.size w w'))
 case atStart => exact ⟨(([] : List Int)), (wrap64 (a1 + 1)), fT, H', ⟨Nat.le_refl _⟩, ⟨Z5⟩, ⟨bT HB⟩⟩
 case round =>
  clear H'
  try clear c1
  try clear p2
  try clear c4
  try clear c4b0
  obtain ⟨x5_1, x6_1, rfl, HA, HK1, HO_5, HB⟩ := hrel
  cases gk with
  | zero => exact absurd HA.out (by simp [bU.l0])
  | succ k1 =>
   have H := HA.out
   clear HA
   simp only [bU.l0] at H
   revert H
   refine gY (fun c5b0 H => ?_) fun c5 H => ?_
   ·revert H
    refine gY (fun c6b0 H => ?_) fun c6 H => ?_
    ·revert H
     refine jU (fun c7b0 H => ?_) fun c7b0 H => ?_
     ·revert H
      refine gZ (fun c8 H => ?_) fun c8 H => ?_
      ·have LMc8 := ae.mk c8
       clear c8
       obtain ⟨y118, hy118⟩ : ∃ y_ : List Int, y_ = (x5_1 ++ [x6_1]) := ⟨_, rfl⟩
       replace H : ((bK.f k1 l0 x6_1).bind fun t121 => (bU.l0 k1 l0 a1 y118 t121)) = some r := by first | (rw [hy118]; with_reducible exact H) | (have H2_ := (Option.bind_some _ _).symm.trans H; rw [hy118]; with_reducible exact H2_) | (have H2_ := (Option.bind_some _ _).symm.trans H; with_reducible exact H2_) | with_reducible exact H | (rw [hy118]; exact H) | exact H
       have Ny118 := ae.mk hy118
       clear hy118
       revert H
       refine yB1 fun t121 A9 H => ?_
       have H' := ae.mk H
       clear H
       obtain ⟨Ao10, co10, eo10⟩ := Kd.bY HO_5.out
       subst eo10
       have p117 : 0 ≤ (a1 : Int) := of_decide_eq_true aT
       have q117 : a1 < (l0.length : Int) := of_decide_eq_true aT
       obtain ⟨ad117, e117, hx117_0, hx117_1, hx117_2, hx117_3, hx117_4⟩ := kF HR0.out a1 p117 q117
       cases e117
       replace hx117_0 := (HB.out.cell (World.block_lt_of_cell? w _ hx117_0)).trans hx117_0
       replace hx117_1 := (HB.out.cell (World.block_lt_of_cell? w _ hx117_1)).trans hx117_1
       replace hx117_2 := (HB.out.cell (World.block_lt_of_cell? w _ hx117_2)).trans hx117_2
       replace hx117_3 := (HB.out.cell (World.block_lt_of_cell? w _ hx117_3)).trans hx117_3
       replace hx117_4 := (HB.out.cell (World.block_lt_of_cell? w _ hx117_4)).trans hx117_4
       replace p117 := eq_true p117
       replace q117 := eq_true q117
       go_wp2_with (first | ((with_reducible refine dR (b := .append) (xs := #[.tmp 24, .tmp 26]) rfl ?_); at_builtin; refine Kd.lZ (Kd.int .i64) (w0 := w) w.heap.size rfl (.tmp 24) (.tmp 26) 45 3 (.int .i64 0) 8 rfl Try.underlying45 info3 rfl (by decide) (by omega) (.slice Ao10 x5_1.length co10) x5_1 x6_1 [.int .i64 x6_1] (fun _ => True) (fun _ => False) rfl rfl ?aP (fun _ hk => hk.elim) ?aF ?aO ?aB ?aS ?aL ?_; (case aP => exact rfl); (case aB => exact (bT HB)); (case aF => exact (fun _ _ => trivial)); (case aO => exact (qR HO_5)); (case aS => exact (aG (bT HB))); (case aL => have := LMc8.out; omega); intro v119 w11 ho hb hg hat; rw [← Ny118.out] at ho; refine yA2 (hb) (ho) ?_; clear HB HO_5; intro HB HO120; clear ho hb hg hat) | ((with_reducible refine gC 16 rfl ?_); refine gM 16 23 rfl Try.func16 (bK.calls k1 _ _ l0 x6_1 t121 _ Z10 HC0.out A9.out) ?_; rintro _ w' ⟨rfl, ⟨nd, rfl⟩⟩; refine ⟨_, rfl, ?_⟩))
       go_roundg k1
       case measure => have := HK1.out; omega
       case rel => exact ⟨(y118), (t121), fT, H', ⟨by have := HK1.out; omega⟩, ⟨qR HO120⟩, ⟨bT HB⟩⟩
      exact absurd H (by simp)
     obtain rfl := Option.some.inj H
     obtain ⟨Ao12, co12, eo12⟩ := Kd.bY HO_5.out
     subst eo12
     have p117 : 0 ≤ (a1 : Int) := of_decide_eq_true aT
     have q117 : a1 < (l0.length : Int) := of_decide_eq_true aT
     obtain ⟨ad117, e117, hx117_0, hx117_1, hx117_2, hx117_3, hx117_4⟩ := kF HR0.out a1 p117 q117
     cases e117
     replace hx117_0 := (HB.out.cell (World.block_lt_of_cell? w _ hx117_0)).trans hx117_0
     replace hx117_1 := (HB.out.cell (World.block_lt_of_cell? w _ hx117_1)).trans hx117_1
     replace hx117_2 := (HB.out.cell (World.block_lt_of_cell? w _ hx117_2)).trans hx117_2
     replace hx117_3 := (HB.out.cell (World.block_lt_of_cell? w _ hx117_3)).trans hx117_3
     replace hx117_4 := (HB.out.cell (World.block_lt_of_cell? w _ hx117_4)).trans hx117_4
     replace p117 := eq_true p117
     replace q117 := eq_true q117
     go_wp2
     go_ret
     exact ⟨_, eT, qR HO_5, bT HB⟩
    exact absurd H (by simp)
   exact absurd H (by simp)
end Go.Proofs.Ytlenihbmafkegaa.Q
end
section
namespace Go.Proofs.Ytlenihbmafkegaa.Q
open Go.RowKit Go.Proofs.YtlenihbmafkegaaW.PrintWords Go.Proofs.YtlenihbmafkegaaW.PrintLast Go.Proofs.YtlenihbmafkegaaW.PrintMore
attribute [local go_sem] dC dA dP dO cZ cO dB dw
set_option linter.unusedVariables false
set_option linter.unusedSimpArgs false
/-! ### gy: function 35 -/
def gy.f (a0 : Int) : Option (Bool) := if a0 ≥ 6 then (some (decide (a0 ≤ 17))) else (some false)
set_option maxHeartbeats 8000000 in
set_option maxRecDepth 100000 in
theorem gy.calls (a0 : Int) (r : Bool) (w : World) (h : gy.f a0 = some r) :
 Calls Try.prog 35 #[.int .i64 a0] w fun e w' => e = .returned (.bool r) ∧ dQ w w' := by
 have H := h
 clear h
 unfold gy.f at H
 revert H
 refine gZ (fun c2 H => ?_) fun c2 H => ?_
 ·have c2b0 : decide (6 ≤ a0) = true := decide_eq_true c2
  clear c2
  obtain rfl := Option.some.inj H
  go_enter Try.func35, Try.ntmps35
  go_wp2
  go_ret
  exact ⟨fT, Z0⟩
 have c2b0 : decide (6 ≤ a0) = false := decide_eq_false c2
 clear c2
 obtain rfl := Option.some.inj H
 go_enter Try.func35, Try.ntmps35
 go_wp2
 go_ret
 exact ⟨fT, Z0⟩
/-! ### gK: function 37 -/
def gK.f (l0 : List Int) (a1 : Int) (a2 : Int) : Option (Bool) := if (l0.length : Int) ≥ a1 then (if (l0.length : Int) ≤ a2 then ((qp.f l0).bind fun t148 => (some t148)) else (some false)) else (some false)
set_option maxHeartbeats 8000000 in
set_option maxRecDepth 100000 in
theorem gK.calls (A0 : Option Addr) (c0 : Nat) (l0 : List Int) (a1 : Int) (a2 : Int) (r : Bool) (w : World) (hr0 : Kd.C (Kd.int .i64) w A0 l0.length l0) (hc0 : l0.length ≤ c0) (h : gK.f l0 a1 a2 = some r) :
 Calls Try.prog 37 #[.slice A0 l0.length c0, .int .i64 a1, .int .i64 a2] w fun e w' => e = .returned (.bool r) ∧ dQ w w' := by
 have HR0 := ae.mk hr0
 have HC0 := ae.mk hc0
 clear hr0 hc0
 have H := h
 clear h
 unfold gK.f at H
 revert H
 refine gZ (fun c4 H => ?_) fun c4 H => ?_
 ·have c4b0 : decide (a1 ≤ (l0.length : Int)) = true := decide_eq_true c4
  clear c4
  revert H
  refine jU (fun c5b0 H => ?_) fun c5b0 H => ?_
  ·revert H
   refine yB1 fun t148 A6 H => ?_
   obtain rfl := Option.some.inj H
   go_enter Try.func37, Try.ntmps37
   go_wp2_with (first | (go_at_call 34; (with_reducible refine (qp.calls _ _ l0 t148 _ ?side1 ?side2 A6.out).mono ?_); (case side1 => exact Z7); (case side2 => exact HC0.out); rintro e w' ⟨rfl, ⟨nd, rfl⟩⟩))
   go_ret
   exact ⟨fT, Z0⟩
  obtain rfl := Option.some.inj H
  go_enter Try.func37, Try.ntmps37
  go_wp2
  go_ret
  exact ⟨fT, Z0⟩
 have c4b0 : decide (a1 ≤ (l0.length : Int)) = false := decide_eq_false c4
 clear c4
 obtain rfl := Option.some.inj H
 go_enter Try.func37, Try.ntmps37
 go_wp2
 go_ret
 exact ⟨fT, Z0⟩
end Go.Proofs.Ytlenihbmafkegaa.Q
end
section
namespace Go.Proofs.Ytlenihbmafkegaa.Q
open Go.RowKit Go.Proofs.YtlenihbmafkegaaW.PrintWords Go.Proofs.YtlenihbmafkegaaW.PrintLast Go.Proofs.YtlenihbmafkegaaW.PrintMore
attribute [local go_sem] dC dA dP dO cZ cO dB dw
set_option linter.unusedVariables false
set_option linter.unusedSimpArgs false
/-! ### fF: function 26 -/
def fF.f (a0 : Int) : Option (Bool) := if a0 ≥ 18 then (some (decide (a0 ≤ 30))) else (some false)
set_option maxHeartbeats 8000000 in
set_option maxRecDepth 100000 in
theorem fF.calls (a0 : Int) (r : Bool) (w : World) (h : fF.f a0 = some r) :
 Calls Try.prog 26 #[.int .i64 a0] w fun e w' => e = .returned (.bool r) ∧ dQ w w' := by
 have H := h
 clear h
 unfold fF.f at H
 revert H
 refine gZ (fun c2 H => ?_) fun c2 H => ?_
 ·have c2b0 : decide (18 ≤ a0) = true := decide_eq_true c2
  clear c2
  obtain rfl := Option.some.inj H
  go_enter Try.func26, Try.ntmps26
  go_wp2
  go_ret
  exact ⟨fT, Z0⟩
 have c2b0 : decide (18 ≤ a0) = false := decide_eq_false c2
 clear c2
 obtain rfl := Option.some.inj H
 go_enter Try.func26, Try.ntmps26
 go_wp2
 go_ret
 exact ⟨fT, Z0⟩
-- BY HAND: function 34 (tree_each)
end Go.Proofs.Ytlenihbmafkegaa.Q
end
