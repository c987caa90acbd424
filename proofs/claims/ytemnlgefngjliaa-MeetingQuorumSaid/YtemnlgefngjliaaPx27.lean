/- Contracts of Go functions, printed. Conditions: as each theorem states. -/
import Derived.Test.YtemnlgefngjliaaPx0
import Derived.Test.YtemnlgefngjliaaPx22
namespace Go.Proofs.Ytemnlgefngjliaa.Px
open Go.Proofs.Ytemnlgefngjliaa.Given
open Go.RowKit Go.Proofs.YtemnlgefngjliaaW.PrintWords Go.Proofs.YtemnlgefngjliaaW.PrintLast Go.Proofs.YtemnlgefngjliaaW.PrintMore
attribute [local go_sem] a2f a2g a2r a2s a1x a1y a2h a2i
set_option linter.unusedVariables false
set_option linter.unusedSimpArgs false
def a3l.l0 : Nat → Int → Int → Int → Int → Int → Int → Int → Bool → Int → Int → Int → List ByteArray → List (S43) → List Int → Option (Bool)
 | 0, _, _, _, _, _, _, _, _, _, _, _, _, _, _ => none
 | k + 1, x5, x6, x7, v0, v1, v2, v3, v4, v5, v6, v7, v8, v9, v10 => if x7 < (v9.length : Int) then (if 0 ≤ x7 then ((a4t.f k v5 v6 v7 v8 v9 v10 ((a0a v9 x7).f0) ((a0a v9 x7).f1) ((a0a v9 x7).f2)).bind fun t429 => (if t429 = 0 then (a3l.l0 k (wrap64 (x5 + ((a0a v9 x7).f1))) x6 (wrap64 (x7 + 1)) v0 v1 v2 v3 v4 v5 v6 v7 v8 v9 v10) else (a3l.l0 k (wrap64 (x5 + ((a0a v9 x7).f1))) (wrap64 (x6 + ((a0a v9 x7).f1))) (wrap64 (x7 + 1)) v0 v1 v2 v3 v4 v5 v6 v7 v8 v9 v10))) else (none)) else (some (decide ((wrap64 (x6 * v2)) ≥ (wrap64 (v1 * x5)))))
def a3l.f (k : Nat) (a0_0 a0_1 a0_2 a0_3 : Int) (a0_4 : Bool) (a1_0 a1_1 a1_2 : Int) (l1_3 : List ByteArray) (l1_4 : List (S43)) (l1_5 : List Int) : Option (Bool) := a3l.l0 k 0 0 0 a0_0 a0_1 a0_2 a0_3 a0_4 a1_0 a1_1 a1_2 l1_3 l1_4 l1_5
theorem a3l.a0t : ∀ k, (∀ y0 y1 y2 y3 y4 y5 y6 y7 y8 y9 y10 y11 y12 y13, LeO (a3l.l0 k y0 y1 y2 y3 y4 y5 y6 y7 y8 y9 y10 y11 y12 y13) (a3l.l0 (k + 1) y0 y1 y2 y3 y4 y5 y6 y7 y8 y9 y10 y11 y12 y13))
 | 0 => fun _ _ _ _ _ _ _ _ _ _ _ _ _ _ r h => by simp [a3l.l0] at h
 | k + 1 => by
  have ih0 := a3l.a0t k
  ·intro y0 y1 y2 y3 y4 y5 y6 y7 y8 y9 y10 y11 y12 y13
   unfold a3l.l0
   with_reducible (repeat' first | apply ih0 | apply a4t.mono | apply LeO.refl | apply LeO.none | apply LeO.ite | refine LeO.bind ?_ (fun _ => ?_))
theorem a3l.mono : ∀ a0 a1 a2 a3 a4 a5 a6 a7 a8 a9 a10 k, LeO (a3l.f k a0 a1 a2 a3 a4 a5 a6 a7 a8 a9 a10) (a3l.f (k + 1) a0 a1 a2 a3 a4 a5 a6 a7 a8 a9 a10) := by
 intro a0 a1 a2 a3 a4 a5 a6 a7 a8 a9 a10 k
 have ih0 := a3l.a0t k
 unfold a3l.f
 with_reducible (repeat' first | apply ih0 | apply a4t.mono | apply LeO.refl | apply LeO.none | apply LeO.ite | refine LeO.bind ?_ (fun _ => ?_))
end Go.Proofs.Ytemnlgefngjliaa.Px
/- Contracts of Go functions, written by a program of this session's own (wip/tools/myprint.py) out of the translation: each Go function does what the Lean function of its name says. Conditions: as each theorem states. -/
namespace Go.Proofs.Ytemnlgefngjliaa.Px
open Go.Proofs.Ytemnlgefngjliaa.Given
open Go.RowKit Go.Proofs.YtemnlgefngjliaaW.PrintWords Go.Proofs.YtemnlgefngjliaaW.PrintLast Go.Proofs.YtemnlgefngjliaaW.PrintMore
attribute [local go_sem] a2f a2g a2r a2s a1x a1y a2h a2i
set_option linter.unusedVariables false
set_option linter.unusedSimpArgs false
def a3g.l0 : Nat → Int → Int → Int → Int → Int → Int → List ByteArray → List (S43) → List Int → Option (Int)
 | 0, _, _, _, _, _, _, _, _, _ => none
 | k + 1, x1, x5, x6, v11, v12, v13, v14, v15, v16 => if x6 < (v15.length : Int) then (if 0 ≤ x6 then (if ((a0a v15 x6).f0) = x1 then (a3g.l0 k x1 x5 (wrap64 (x6 + 1)) v11 v12 v13 v14 v15 v16) else ((a4t.f k v11 v12 v13 v14 v15 v16 ((a0a v15 x6).f0) ((a0a v15 x6).f1) ((a0a v15 x6).f2)).bind fun t434 => (if t434 = x1 then (a3g.l0 k x1 (wrap64 (x5 + 1)) (wrap64 (x6 + 1)) v11 v12 v13 v14 v15 v16) else (a3g.l0 k x1 x5 (wrap64 (x6 + 1)) v11 v12 v13 v14 v15 v16)))) else (none)) else (some x5)
def a3g.f (k : Nat) (a0_0 a0_1 a0_2 : Int) (l0_3 : List ByteArray) (l0_4 : List (S43)) (l0_5 : List Int) (a1 : Int) : Option (Int) := a3g.l0 k a1 0 0 a0_0 a0_1 a0_2 l0_3 l0_4 l0_5
theorem a3g.a0t : ∀ k, (∀ y0 y1 y2 y3 y4 y5 y6 y7 y8, LeO (a3g.l0 k y0 y1 y2 y3 y4 y5 y6 y7 y8) (a3g.l0 (k + 1) y0 y1 y2 y3 y4 y5 y6 y7 y8))
 | 0 => fun _ _ _ _ _ _ _ _ _ r h => by simp [a3g.l0] at h
 | k + 1 => by
  have ih0 := a3g.a0t k
  ·intro y0 y1 y2 y3 y4 y5 y6 y7 y8
   unfold a3g.l0
   with_reducible (repeat' first | apply ih0 | apply a4t.mono | apply LeO.refl | apply LeO.none | apply LeO.ite | refine LeO.bind ?_ (fun _ => ?_))
theorem a3g.mono : ∀ a0 a1 a2 a3 a4 a5 a6 k, LeO (a3g.f k a0 a1 a2 a3 a4 a5 a6) (a3g.f (k + 1) a0 a1 a2 a3 a4 a5 a6) := by
 intro a0 a1 a2 a3 a4 a5 a6 k
 have ih0 := a3g.a0t k
 unfold a3g.f
 with_reducible (repeat' first | apply ih0 | apply a4t.mono | apply LeO.refl | apply LeO.none | apply LeO.ite | refine LeO.bind ?_ (fun _ => ?_))
end Go.Proofs.Ytemnlgefngjliaa.Px
