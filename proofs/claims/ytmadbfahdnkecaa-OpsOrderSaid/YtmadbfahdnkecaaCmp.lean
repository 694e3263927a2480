/- Words that make printed walks shorter: steps that stand in them hundreds of times; no condition. -/
import Derived.Test.YtmadbfahdnkecaaWWords
import Derived.Test.YtmadbfahdnkecaaWLast
import Derived.Test.YtmadbfahdnkecaaWTab
import Derived.Test.YtmadbfahdnkecaaWMore
import Derived.ArgAppend
import Derived.Below
import Derived.BigQuiet
import Derived.Deep.AppendLies
import Derived.Deep.CutBlock
import Derived.Deep.DeepCutAuto
import Derived.Deep.Draws
import Derived.Deep.LoopGhost
import Derived.Deep.OwnRows
import Derived.Deep.QuietTactic
import Derived.Deep.RegionHeld3
import Derived.KernelRfl
import Derived.Laws.BitsLemmas
import Derived.Laws.BytesArg
import Derived.Laws.IdiomCopy
import Derived.Laws.MakeOwn
import Derived.Laws.OwnMore
import Derived.Laws.Rows
import Derived.Laws.Slices
import Derived.Lib.AppendStr
import Derived.Lib.ConvBytes
import Derived.Maps.AppendAt
import Derived.OrdersHeld
import Derived.OwnWalk
import Derived.RowKit
import Derived.RowKit3
import Derived.Tactics
import Derived.WalkKit
import Derived.WideLaws
set_option linter.unusedVariables false
namespace Go.Proofs.Ytmadbfahdnkecaa.Q
open Go Go.RowKit Go.Proofs.YtmadbfahdnkecaaW.PrintWords Go.Proofs.YtmadbfahdnkecaaW.PrintLast Go.Proofs.YtmadbfahdnkecaaW.PrintMore
theorem yA1 {G a : Prop} (x0 : a) (h : Aside0 a → G) : G := h ⟨x0⟩
theorem yA2 {G a b : Prop} (x0 : a) (x1 : b) (h : Aside0 a → Aside0 b → G) : G := h ⟨x0⟩ ⟨x1⟩
theorem yA3 {G a b c : Prop} (x0 : a) (x1 : b) (x2 : c) (h : Aside0 a → Aside0 b → Aside0 c → G) : G := h ⟨x0⟩ ⟨x1⟩ ⟨x2⟩
theorem yA4 {G a b c d : Prop} (x0 : a) (x1 : b) (x2 : c) (x3 : d) (h : Aside0 a → Aside0 b → Aside0 c → Aside0 d → G) : G := h ⟨x0⟩ ⟨x1⟩ ⟨x2⟩ ⟨x3⟩
theorem yA5 {G a b c d e : Prop} (x0 : a) (x1 : b) (x2 : c) (x3 : d) (x4 : e) (h : Aside0 a → Aside0 b → Aside0 c → Aside0 d → Aside0 e → G) : G := h ⟨x0⟩ ⟨x1⟩ ⟨x2⟩ ⟨x3⟩ ⟨x4⟩
theorem yA6 {G a b c d e f : Prop} (x0 : a) (x1 : b) (x2 : c) (x3 : d) (x4 : e) (x5 : f) (h : Aside0 a → Aside0 b → Aside0 c → Aside0 d → Aside0 e → Aside0 f → G) : G := h ⟨x0⟩ ⟨x1⟩ ⟨x2⟩ ⟨x3⟩ ⟨x4⟩ ⟨x5⟩
theorem yA7 {G a b c d e f g : Prop} (x0 : a) (x1 : b) (x2 : c) (x3 : d) (x4 : e) (x5 : f) (x6 : g) (h : Aside0 a → Aside0 b → Aside0 c → Aside0 d → Aside0 e → Aside0 f → Aside0 g → G) : G := h ⟨x0⟩ ⟨x1⟩ ⟨x2⟩ ⟨x3⟩ ⟨x4⟩ ⟨x5⟩ ⟨x6⟩
theorem yA8 {G a b c d e f g i : Prop} (x0 : a) (x1 : b) (x2 : c) (x3 : d) (x4 : e) (x5 : f) (x6 : g) (x7 : i) (h : Aside0 a → Aside0 b → Aside0 c → Aside0 d → Aside0 e → Aside0 f → Aside0 g → Aside0 i → G) : G := h ⟨x0⟩ ⟨x1⟩ ⟨x2⟩ ⟨x3⟩ ⟨x4⟩ ⟨x5⟩ ⟨x6⟩ ⟨x7⟩
theorem yA9 {G a b c d e f g i j : Prop} (x0 : a) (x1 : b) (x2 : c) (x3 : d) (x4 : e) (x5 : f) (x6 : g) (x7 : i) (x8 : j) (h : Aside0 a → Aside0 b → Aside0 c → Aside0 d → Aside0 e → Aside0 f → Aside0 g → Aside0 i → Aside0 j → G) : G := h ⟨x0⟩ ⟨x1⟩ ⟨x2⟩ ⟨x3⟩ ⟨x4⟩ ⟨x5⟩ ⟨x6⟩ ⟨x7⟩ ⟨x8⟩
theorem yB1 {α β : Type} {G : Prop} {o : Option (α)} {f : α → Option β} {r : β} (h : ∀ t1, Aside0 (o = some t1) → f t1 = some r → G) : o.bind f = some r → G := by
  cases o with
  | none => intro H; cases H
  | some t => exact h t ⟨rfl⟩
theorem yB2 {α γ β : Type} {G : Prop} {o : Option (α × γ)} {f : (α × γ) → Option β} {r : β} (h : ∀ t1 t2, Aside0 (o = some (t1, t2)) → f (t1, t2) = some r → G) : o.bind f = some r → G := by
  cases o with
  | none => intro H; cases H
  | some t => exact h t.1 t.2 ⟨rfl⟩
theorem yB3 {α γ δ β : Type} {G : Prop} {o : Option (α × γ × δ)} {f : (α × γ × δ) → Option β} {r : β} (h : ∀ t1 t2 t3, Aside0 (o = some (t1, t2, t3)) → f (t1, t2, t3) = some r → G) : o.bind f = some r → G := by
  cases o with
  | none => intro H; cases H
  | some t => exact h t.1 t.2.1 t.2.2 ⟨rfl⟩
theorem yB4 {α γ δ ε β : Type} {G : Prop} {o : Option (α × γ × δ × ε)} {f : (α × γ × δ × ε) → Option β} {r : β} (h : ∀ t1 t2 t3 t4, Aside0 (o = some (t1, t2, t3, t4)) → f (t1, t2, t3, t4) = some r → G) : o.bind f = some r → G := by
  cases o with
  | none => intro H; cases H
  | some t => exact h t.1 t.2.1 t.2.2.1 t.2.2.2 ⟨rfl⟩
theorem yB5 {α γ δ ε ζ β : Type} {G : Prop} {o : Option (α × γ × δ × ε × ζ)} {f : (α × γ × δ × ε × ζ) → Option β} {r : β} (h : ∀ t1 t2 t3 t4 t5, Aside0 (o = some (t1, t2, t3, t4, t5)) → f (t1, t2, t3, t4, t5) = some r → G) : o.bind f = some r → G := by
  cases o with
  | none => intro H; cases H
  | some t => exact h t.1 t.2.1 t.2.2.1 t.2.2.2.1 t.2.2.2.2 ⟨rfl⟩
theorem yB6 {α γ δ ε ζ η β : Type} {G : Prop} {o : Option (α × γ × δ × ε × ζ × η)} {f : (α × γ × δ × ε × ζ × η) → Option β} {r : β} (h : ∀ t1 t2 t3 t4 t5 t6, Aside0 (o = some (t1, t2, t3, t4, t5, t6)) → f (t1, t2, t3, t4, t5, t6) = some r → G) : o.bind f = some r → G := by
  cases o with
  | none => intro H; cases H
  | some t => exact h t.1 t.2.1 t.2.2.1 t.2.2.2.1 t.2.2.2.2.1 t.2.2.2.2.2 ⟨rfl⟩
theorem yB7 {α γ δ ε ζ η θ β : Type} {G : Prop} {o : Option (α × γ × δ × ε × ζ × η × θ)} {f : (α × γ × δ × ε × ζ × η × θ) → Option β} {r : β} (h : ∀ t1 t2 t3 t4 t5 t6 t7, Aside0 (o = some (t1, t2, t3, t4, t5, t6, t7)) → f (t1, t2, t3, t4, t5, t6, t7) = some r → G) : o.bind f = some r → G := by
  cases o with
  | none => intro H; cases H
  | some t => exact h t.1 t.2.1 t.2.2.1 t.2.2.2.1 t.2.2.2.2.1 t.2.2.2.2.2.1 t.2.2.2.2.2.2 ⟨rfl⟩
theorem iebn_bn {τ : Type} [BEq τ] [LawfulBEq τ] {a b : τ} {D : Decidable (a = b)} {β : Type} {X Y Z : β} {G : Prop} (h1 : (a == b) = true → (a != b) = false → X = Z → G) (h2 : (a == b) = false → (a != b) = true → Y = Z → G) : (if a = b then X else Y) = Z → G := by
  intro H
  by_cases q : a = b
  · rw [if_pos q] at H; exact h1 (beq_iff_eq.mpr q) (bne_eq_false_iff_eq.mpr q) H
  · rw [if_neg q] at H; exact h2 (beq_eq_false_iff_ne.mpr q) (bne_iff_ne.mpr q) H
theorem iebn_bnc {τ : Type} [BEq τ] [LawfulBEq τ] {a b : τ} {D : Decidable (a = b)} {β : Type} {X Y Z : β} {G : Prop} (h1 : (a == b) = true → (a != b) = false → X = Z → G) (h2 : ¬(a = b) → (a == b) = false → (a != b) = true → Y = Z → G) : (if a = b then X else Y) = Z → G := by
  intro H
  by_cases q : a = b
  · rw [if_pos q] at H; exact h1 (beq_iff_eq.mpr q) (bne_eq_false_iff_eq.mpr q) H
  · rw [if_neg q] at H; exact h2 q (beq_eq_false_iff_ne.mpr q) (bne_iff_ne.mpr q) H
theorem iebn_c {τ : Type} [BEq τ] [LawfulBEq τ] {a b : τ} {D : Decidable (a = b)} {β : Type} {X Y Z : β} {G : Prop} (h1 : (a == b) = true → (a != b) = false → X = Z → G) (h2 : ¬(a = b) → Y = Z → G) : (if a = b then X else Y) = Z → G := by
  intro H
  by_cases q : a = b
  · rw [if_pos q] at H; exact h1 (beq_iff_eq.mpr q) (bne_eq_false_iff_eq.mpr q) H
  · rw [if_neg q] at H; exact h2 q H
theorem iebnc_bn {τ : Type} [BEq τ] [LawfulBEq τ] {a b : τ} {D : Decidable (a = b)} {β : Type} {X Y Z : β} {G : Prop} (h1 : a = b → (a == b) = true → (a != b) = false → X = Z → G) (h2 : (a == b) = false → (a != b) = true → Y = Z → G) : (if a = b then X else Y) = Z → G := by
  intro H
  by_cases q : a = b
  · rw [if_pos q] at H; exact h1 q (beq_iff_eq.mpr q) (bne_eq_false_iff_eq.mpr q) H
  · rw [if_neg q] at H; exact h2 (beq_eq_false_iff_ne.mpr q) (bne_iff_ne.mpr q) H
theorem iebnc_bnc {τ : Type} [BEq τ] [LawfulBEq τ] {a b : τ} {D : Decidable (a = b)} {β : Type} {X Y Z : β} {G : Prop} (h1 : a = b → (a == b) = true → (a != b) = false → X = Z → G) (h2 : ¬(a = b) → (a == b) = false → (a != b) = true → Y = Z → G) : (if a = b then X else Y) = Z → G := by
  intro H
  by_cases q : a = b
  · rw [if_pos q] at H; exact h1 q (beq_iff_eq.mpr q) (bne_eq_false_iff_eq.mpr q) H
  · rw [if_neg q] at H; exact h2 q (beq_eq_false_iff_ne.mpr q) (bne_iff_ne.mpr q) H
theorem iebnc_c {τ : Type} [BEq τ] [LawfulBEq τ] {a b : τ} {D : Decidable (a = b)} {β : Type} {X Y Z : β} {G : Prop} (h1 : a = b → (a == b) = true → (a != b) = false → X = Z → G) (h2 : ¬(a = b) → Y = Z → G) : (if a = b then X else Y) = Z → G := by
  intro H
  by_cases q : a = b
  · rw [if_pos q] at H; exact h1 q (beq_iff_eq.mpr q) (bne_eq_false_iff_eq.mpr q) H
  · rw [if_neg q] at H; exact h2 q H
theorem iec_bn {τ : Type} [BEq τ] [LawfulBEq τ] {a b : τ} {D : Decidable (a = b)} {β : Type} {X Y Z : β} {G : Prop} (h1 : a = b → X = Z → G) (h2 : (a == b) = false → (a != b) = true → Y = Z → G) : (if a = b then X else Y) = Z → G := by
  intro H
  by_cases q : a = b
  · rw [if_pos q] at H; exact h1 q H
  · rw [if_neg q] at H; exact h2 (beq_eq_false_iff_ne.mpr q) (bne_iff_ne.mpr q) H
theorem iec_bnc {τ : Type} [BEq τ] [LawfulBEq τ] {a b : τ} {D : Decidable (a = b)} {β : Type} {X Y Z : β} {G : Prop} (h1 : a = b → X = Z → G) (h2 : ¬(a = b) → (a == b) = false → (a != b) = true → Y = Z → G) : (if a = b then X else Y) = Z → G := by
  intro H
  by_cases q : a = b
  · rw [if_pos q] at H; exact h1 q H
  · rw [if_neg q] at H; exact h2 q (beq_eq_false_iff_ne.mpr q) (bne_iff_ne.mpr q) H
theorem iec_c {τ : Type} [BEq τ] [LawfulBEq τ] {a b : τ} {D : Decidable (a = b)} {β : Type} {X Y Z : β} {G : Prop} (h1 : a = b → X = Z → G) (h2 : ¬(a = b) → Y = Z → G) : (if a = b then X else Y) = Z → G := by
  intro H
  by_cases q : a = b
  · rw [if_pos q] at H; exact h1 q H
  · rw [if_neg q] at H; exact h2 q H
theorem ilc_c {p : Prop} {D : Decidable p} {β : Type} {X Y Z : β} {G : Prop} (h1 : p → X = Z → G) (h2 : ¬(p) → Y = Z → G) : (if p then X else Y) = Z → G := by
  intro H
  by_cases q : p
  · rw [if_pos q] at H; exact h1 q H
  · rw [if_neg q] at H; exact h2 q H
theorem ilc_d {p : Prop} {D : Decidable p} {β : Type} {X Y Z : β} {G : Prop} (h1 : p → X = Z → G) (h2 : decide p = false → Y = Z → G) : (if p then X else Y) = Z → G := by
  intro H
  by_cases q : p
  · rw [if_pos q] at H; exact h1 q H
  · rw [if_neg q] at H; exact h2 (decide_eq_false q) H
theorem ilc_dc {p : Prop} {D : Decidable p} {β : Type} {X Y Z : β} {G : Prop} (h1 : p → X = Z → G) (h2 : ¬(p) → decide p = false → Y = Z → G) : (if p then X else Y) = Z → G := by
  intro H
  by_cases q : p
  · rw [if_pos q] at H; exact h1 q H
  · rw [if_neg q] at H; exact h2 q (decide_eq_false q) H
theorem ilc_ {p : Prop} {D : Decidable p} {β : Type} {X Y Z : β} {G : Prop} (h1 : p → X = Z → G) (h2 : Y = Z → G) : (if p then X else Y) = Z → G := by
  intro H
  by_cases q : p
  · rw [if_pos q] at H; exact h1 q H
  · rw [if_neg q] at H; exact h2  H
theorem ild_c {p : Prop} {D : Decidable p} {β : Type} {X Y Z : β} {G : Prop} (h1 : decide p = true → X = Z → G) (h2 : ¬(p) → Y = Z → G) : (if p then X else Y) = Z → G := by
  intro H
  by_cases q : p
  · rw [if_pos q] at H; exact h1 (decide_eq_true q) H
  · rw [if_neg q] at H; exact h2 q H
theorem ild_d {p : Prop} {D : Decidable p} {β : Type} {X Y Z : β} {G : Prop} (h1 : decide p = true → X = Z → G) (h2 : decide p = false → Y = Z → G) : (if p then X else Y) = Z → G := by
  intro H
  by_cases q : p
  · rw [if_pos q] at H; exact h1 (decide_eq_true q) H
  · rw [if_neg q] at H; exact h2 (decide_eq_false q) H
theorem ild_dc {p : Prop} {D : Decidable p} {β : Type} {X Y Z : β} {G : Prop} (h1 : decide p = true → X = Z → G) (h2 : ¬(p) → decide p = false → Y = Z → G) : (if p then X else Y) = Z → G := by
  intro H
  by_cases q : p
  · rw [if_pos q] at H; exact h1 (decide_eq_true q) H
  · rw [if_neg q] at H; exact h2 q (decide_eq_false q) H
theorem ild_ {p : Prop} {D : Decidable p} {β : Type} {X Y Z : β} {G : Prop} (h1 : decide p = true → X = Z → G) (h2 : Y = Z → G) : (if p then X else Y) = Z → G := by
  intro H
  by_cases q : p
  · rw [if_pos q] at H; exact h1 (decide_eq_true q) H
  · rw [if_neg q] at H; exact h2  H
theorem ildc_c {p : Prop} {D : Decidable p} {β : Type} {X Y Z : β} {G : Prop} (h1 : p → decide p = true → X = Z → G) (h2 : ¬(p) → Y = Z → G) : (if p then X else Y) = Z → G := by
  intro H
  by_cases q : p
  · rw [if_pos q] at H; exact h1 q (decide_eq_true q) H
  · rw [if_neg q] at H; exact h2 q H
theorem ildc_d {p : Prop} {D : Decidable p} {β : Type} {X Y Z : β} {G : Prop} (h1 : p → decide p = true → X = Z → G) (h2 : decide p = false → Y = Z → G) : (if p then X else Y) = Z → G := by
  intro H
  by_cases q : p
  · rw [if_pos q] at H; exact h1 q (decide_eq_true q) H
  · rw [if_neg q] at H; exact h2 (decide_eq_false q) H
theorem ildc_dc {p : Prop} {D : Decidable p} {β : Type} {X Y Z : β} {G : Prop} (h1 : p → decide p = true → X = Z → G) (h2 : ¬(p) → decide p = false → Y = Z → G) : (if p then X else Y) = Z → G := by
  intro H
  by_cases q : p
  · rw [if_pos q] at H; exact h1 q (decide_eq_true q) H
  · rw [if_neg q] at H; exact h2 q (decide_eq_false q) H
theorem ildc_ {p : Prop} {D : Decidable p} {β : Type} {X Y Z : β} {G : Prop} (h1 : p → decide p = true → X = Z → G) (h2 : Y = Z → G) : (if p then X else Y) = Z → G := by
  intro H
  by_cases q : p
  · rw [if_pos q] at H; exact h1 q (decide_eq_true q) H
  · rw [if_neg q] at H; exact h2  H
theorem iltd_c {p : Prop} {D : Decidable p} {β : Type} {X Y Z : β} {G : Prop} (h1 : (p) = True → decide p = true → X = Z → G) (h2 : ¬(p) → Y = Z → G) : (if p then X else Y) = Z → G := by
  intro H
  by_cases q : p
  · rw [if_pos q] at H; exact h1 (eq_true q) (decide_eq_true q) H
  · rw [if_neg q] at H; exact h2 q H
theorem iltd_d {p : Prop} {D : Decidable p} {β : Type} {X Y Z : β} {G : Prop} (h1 : (p) = True → decide p = true → X = Z → G) (h2 : decide p = false → Y = Z → G) : (if p then X else Y) = Z → G := by
  intro H
  by_cases q : p
  · rw [if_pos q] at H; exact h1 (eq_true q) (decide_eq_true q) H
  · rw [if_neg q] at H; exact h2 (decide_eq_false q) H
theorem iltd_dc {p : Prop} {D : Decidable p} {β : Type} {X Y Z : β} {G : Prop} (h1 : (p) = True → decide p = true → X = Z → G) (h2 : ¬(p) → decide p = false → Y = Z → G) : (if p then X else Y) = Z → G := by
  intro H
  by_cases q : p
  · rw [if_pos q] at H; exact h1 (eq_true q) (decide_eq_true q) H
  · rw [if_neg q] at H; exact h2 q (decide_eq_false q) H
theorem iltd_ {p : Prop} {D : Decidable p} {β : Type} {X Y Z : β} {G : Prop} (h1 : (p) = True → decide p = true → X = Z → G) (h2 : Y = Z → G) : (if p then X else Y) = Z → G := by
  intro H
  by_cases q : p
  · rw [if_pos q] at H; exact h1 (eq_true q) (decide_eq_true q) H
  · rw [if_neg q] at H; exact h2  H
theorem iltdc_c {p : Prop} {D : Decidable p} {β : Type} {X Y Z : β} {G : Prop} (h1 : p → (p) = True → decide p = true → X = Z → G) (h2 : ¬(p) → Y = Z → G) : (if p then X else Y) = Z → G := by
  intro H
  by_cases q : p
  · rw [if_pos q] at H; exact h1 q (eq_true q) (decide_eq_true q) H
  · rw [if_neg q] at H; exact h2 q H
theorem iltdc_d {p : Prop} {D : Decidable p} {β : Type} {X Y Z : β} {G : Prop} (h1 : p → (p) = True → decide p = true → X = Z → G) (h2 : decide p = false → Y = Z → G) : (if p then X else Y) = Z → G := by
  intro H
  by_cases q : p
  · rw [if_pos q] at H; exact h1 q (eq_true q) (decide_eq_true q) H
  · rw [if_neg q] at H; exact h2 (decide_eq_false q) H
theorem iltdc_dc {p : Prop} {D : Decidable p} {β : Type} {X Y Z : β} {G : Prop} (h1 : p → (p) = True → decide p = true → X = Z → G) (h2 : ¬(p) → decide p = false → Y = Z → G) : (if p then X else Y) = Z → G := by
  intro H
  by_cases q : p
  · rw [if_pos q] at H; exact h1 q (eq_true q) (decide_eq_true q) H
  · rw [if_neg q] at H; exact h2 q (decide_eq_false q) H
theorem iltdc_ {p : Prop} {D : Decidable p} {β : Type} {X Y Z : β} {G : Prop} (h1 : p → (p) = True → decide p = true → X = Z → G) (h2 : Y = Z → G) : (if p then X else Y) = Z → G := by
  intro H
  by_cases q : p
  · rw [if_pos q] at H; exact h1 q (eq_true q) (decide_eq_true q) H
  · rw [if_neg q] at H; exact h2  H
theorem ilt_c {p : Prop} {D : Decidable p} {β : Type} {X Y Z : β} {G : Prop} (h1 : (p) = True → X = Z → G) (h2 : ¬(p) → Y = Z → G) : (if p then X else Y) = Z → G := by
  intro H
  by_cases q : p
  · rw [if_pos q] at H; exact h1 (eq_true q) H
  · rw [if_neg q] at H; exact h2 q H
theorem ilt_d {p : Prop} {D : Decidable p} {β : Type} {X Y Z : β} {G : Prop} (h1 : (p) = True → X = Z → G) (h2 : decide p = false → Y = Z → G) : (if p then X else Y) = Z → G := by
  intro H
  by_cases q : p
  · rw [if_pos q] at H; exact h1 (eq_true q) H
  · rw [if_neg q] at H; exact h2 (decide_eq_false q) H
theorem ilt_dc {p : Prop} {D : Decidable p} {β : Type} {X Y Z : β} {G : Prop} (h1 : (p) = True → X = Z → G) (h2 : ¬(p) → decide p = false → Y = Z → G) : (if p then X else Y) = Z → G := by
  intro H
  by_cases q : p
  · rw [if_pos q] at H; exact h1 (eq_true q) H
  · rw [if_neg q] at H; exact h2 q (decide_eq_false q) H
theorem ilt_ {p : Prop} {D : Decidable p} {β : Type} {X Y Z : β} {G : Prop} (h1 : (p) = True → X = Z → G) (h2 : Y = Z → G) : (if p then X else Y) = Z → G := by
  intro H
  by_cases q : p
  · rw [if_pos q] at H; exact h1 (eq_true q) H
  · rw [if_neg q] at H; exact h2  H
theorem iltc_c {p : Prop} {D : Decidable p} {β : Type} {X Y Z : β} {G : Prop} (h1 : p → (p) = True → X = Z → G) (h2 : ¬(p) → Y = Z → G) : (if p then X else Y) = Z → G := by
  intro H
  by_cases q : p
  · rw [if_pos q] at H; exact h1 q (eq_true q) H
  · rw [if_neg q] at H; exact h2 q H
theorem iltc_d {p : Prop} {D : Decidable p} {β : Type} {X Y Z : β} {G : Prop} (h1 : p → (p) = True → X = Z → G) (h2 : decide p = false → Y = Z → G) : (if p then X else Y) = Z → G := by
  intro H
  by_cases q : p
  · rw [if_pos q] at H; exact h1 q (eq_true q) H
  · rw [if_neg q] at H; exact h2 (decide_eq_false q) H
theorem iltc_dc {p : Prop} {D : Decidable p} {β : Type} {X Y Z : β} {G : Prop} (h1 : p → (p) = True → X = Z → G) (h2 : ¬(p) → decide p = false → Y = Z → G) : (if p then X else Y) = Z → G := by
  intro H
  by_cases q : p
  · rw [if_pos q] at H; exact h1 q (eq_true q) H
  · rw [if_neg q] at H; exact h2 q (decide_eq_false q) H
theorem iltc_ {p : Prop} {D : Decidable p} {β : Type} {X Y Z : β} {G : Prop} (h1 : p → (p) = True → X = Z → G) (h2 : Y = Z → G) : (if p then X else Y) = Z → G := by
  intro H
  by_cases q : p
  · rw [if_pos q] at H; exact h1 q (eq_true q) H
  · rw [if_neg q] at H; exact h2  H
theorem il_c {p : Prop} {D : Decidable p} {β : Type} {X Y Z : β} {G : Prop} (h1 : X = Z → G) (h2 : ¬(p) → Y = Z → G) : (if p then X else Y) = Z → G := by
  intro H
  by_cases q : p
  · rw [if_pos q] at H; exact h1  H
  · rw [if_neg q] at H; exact h2 q H
theorem il_d {p : Prop} {D : Decidable p} {β : Type} {X Y Z : β} {G : Prop} (h1 : X = Z → G) (h2 : decide p = false → Y = Z → G) : (if p then X else Y) = Z → G := by
  intro H
  by_cases q : p
  · rw [if_pos q] at H; exact h1  H
  · rw [if_neg q] at H; exact h2 (decide_eq_false q) H
theorem il_dc {p : Prop} {D : Decidable p} {β : Type} {X Y Z : β} {G : Prop} (h1 : X = Z → G) (h2 : ¬(p) → decide p = false → Y = Z → G) : (if p then X else Y) = Z → G := by
  intro H
  by_cases q : p
  · rw [if_pos q] at H; exact h1  H
  · rw [if_neg q] at H; exact h2 q (decide_eq_false q) H
theorem il_ {p : Prop} {D : Decidable p} {β : Type} {X Y Z : β} {G : Prop} (h1 : X = Z → G) (h2 : Y = Z → G) : (if p then X else Y) = Z → G := by
  intro H
  by_cases q : p
  · rw [if_pos q] at H; exact h1  H
  · rw [if_neg q] at H; exact h2  H
theorem yT {β : Type} {X Y Z : β} (H : (if true = true then X else Y) = Z) : X = Z := H
theorem yF {β : Type} {X Y Z : β} (H : (if false = true then X else Y) = Z) : Y = Z := H
theorem yL {P : Prop} (h : P := by repeat' first | (with_reducible apply ih0) | (with_reducible apply ih1) | (with_reducible apply ih2) | (with_reducible apply ih3) | (with_reducible apply ih4) | (with_reducible apply ih5) | (with_reducible apply m0) | (with_reducible apply m1) | (with_reducible apply m2) | (with_reducible apply m3) | (with_reducible apply m4) | (with_reducible apply m5) | (with_reducible apply m6) | (with_reducible apply m7) | (with_reducible apply m8) | (with_reducible apply m9) | (with_reducible apply m10) | (with_reducible apply m11) | (with_reducible apply m12) | (with_reducible apply m13) | (with_reducible apply m14) | (with_reducible apply m15) | (with_reducible exact LeO.refl _) | (with_reducible exact LeO.none _) | (with_reducible refine LeO.ite ?_ ?_) | (with_reducible refine LeO.bind ?_ (fun _ => ?_)) | apply ih0 | apply ih1 | apply ih2 | apply ih3 | apply ih4 | apply ih5 | apply m0 | apply m1 | apply m2 | apply m3 | apply m4 | apply m5 | apply m6 | apply m7 | apply m8 | apply m9 | apply m10 | apply m11 | apply m12 | apply m13 | apply m14 | apply m15 | exact LeO.none _ | refine LeO.ite ?_ ?_ | refine LeO.bind ?_ (fun _ => ?_)) : P := h
def btl : Nat → Nat → List Bool
  | 0, _ => []
  | n + 1, m => (m % 2 == 1) :: btl n (m / 2)
def bQ (n m : Nat) : Array Bool := ⟨btl n m⟩
section
variable {P : Program} {ops : Array Oper} {Q : Exit → Act → World → Prop}
theorem gC (f : FuncId) {rest : List Oper} {oi : Oper} {a : Act} {w : World} {as : Array Operand} {ts : Array TypeId} (_ho : oi.op = .call { callee := .value (.func f), args := as, argTypes := ts }) (h : wpList P ops Q (oi :: rest) a w) : wpList P ops Q (oi :: rest) a w := h
theorem gM (f : FuncId) (N : Tmp) {rest : List Oper} {oi : Oper} {a : Act} {w : World} {fn : Func} {as : Array Operand} {ts : Array TypeId} {args : Array Value} {post : Ending → World → Prop} (hop : oi.op = .call { callee := .value (.func f), args := as, argTypes := ts }) (hf : P.funcs[f]? = some fn)
    (h : Calls P f args w post) (hm : ∀ e w', post e w' → ∃ v, e = .returned v ∧ wpList P ops Q rest (a.put (some N) v) w') (hd : oi.dst = some N := by rfl) (hg : oi.guard = none := by rfl) (hname : (fn.name == "runtime.NumGoroutine") = false := by kernel_rfl) (hb : fn.body.isSome = true := by rfl)
    (hargs : as.map a.eval = args := by ((try simp only [List.map_toArray, List.map_cons, List.map_nil]); first | done | rfl | (simp only [List.length_drop, List.length_take]; rfl))) : wpList P ops Q (oi :: rest) a w :=
  goesL_ (some N) hd hg hf hname hb args hop hargs (h.mono hm)
end
section
variable {P : Program} {md : Region.Mode} {ops : Array Oper} {Q : Exit → Act → World → Prop} {S : World → Prop} {ds : List Nat}
theorem pA (i K : Nat) (l' : Array Bool) {oi : Oper} {v : Value} {fuel : Nat} {l : Array Bool} {a : Act} {w : World} {a' : Act} (h : wpAnyLast P md ops Q S ds fuel l' a' w) (hc : anyB md ops l l' i = true := by (first | exact any_of HT_.out (by kernel_rfl) | kernel_rfl))
    (hi : ops[i]? = some oi := by rfl) (hN : oi.dst = some K := by rfl) (hw : Region.wanted oi (yielded ops a.tmps) = true := by rfl) (hr : ∀ w', (execOp a.eval oi).run P w' = .ok (.value v) w' := by (intro w'; go_simp; with_reducible rfl))
    (ha : a.put (some K) v = a' := by (simp only [Act.put, List.setIfInBounds_toArray, List.set_cons_zero, List.set_cons_succ, i64_w, i32_w]; rfl)) (hQ : ∀ c a w, Q (.panic c) (a.put oi.dst v) w → Q (.panic c) a w := by exact (fun _ _ _ h => h)) : wpAnyLast P md ops Q S ds (fuel + 1) l a w :=
  pure_ l' hi hN hc hQ (Or.inl ⟨hw, hr⟩) ha h
theorem pU (i K : Nat) (l' : Array Bool) {oi : Oper} {fuel : Nat} {l : Array Bool} {a : Act} {w : World} {a' : Act} (h : wpAnyLast P md ops Q S ds fuel l' a' w) (hc : anyB md ops l l' i = true := by (first | exact any_of HT_.out (by kernel_rfl) | kernel_rfl))
    (hi : ops[i]? = some oi := by rfl) (hN : oi.dst = some K := by rfl) (hw : Region.wanted oi (yielded ops a.tmps) = false := by rfl)
    (ha : a.put (some K) undef = a' := by (simp only [Act.put, List.setIfInBounds_toArray, List.set_cons_zero, List.set_cons_succ, i64_w, i32_w]; rfl)) (hQ : ∀ c a w, Q (.panic c) (a.put oi.dst undef) w → Q (.panic c) a w := by exact (fun _ _ _ h => h)) : wpAnyLast P md ops Q S ds (fuel + 1) l a w :=
  pure_ l' hi hN hc hQ (Or.inr ⟨hw, rfl⟩) ha h
end
end Go.Proofs.Ytmadbfahdnkecaa.Q
