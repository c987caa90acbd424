/- Contracts of Go functions, printed. Conditions: as each theorem states. -/
import Derived.Test.YtheibjkjmkanoaaPx0
import Derived.Test.YtheibjkjmkanoaaPx23
import Derived.Test.YtheibjkjmkanoaaPx26
namespace Go.Proofs.Ytheibjkjmkanoaa.Px
open Go.Proofs.Ytheibjkjmkanoaa.Given
open Go.RowKit Go.Proofs.YtheibjkjmkanoaaW.PrintWords Go.Proofs.YtheibjkjmkanoaaW.PrintLast Go.Proofs.YtheibjkjmkanoaaW.PrintMore
attribute [local go_sem] a3r a3s a4e a4f a3k a3l a3t a3u
set_option linter.unusedVariables false
set_option linter.unusedSimpArgs false
mutual
def a3a.l0 : Nat → List (S51) → List (S58) → Int → List (S42) → Int → Int → Int → Int → Int → List Int → List Int → Option (Int × Int × Int × Int)
 | 0,_,_,_,_,_,_,_,_,_,_,_ => none
 | k + 1,x0,x1,x2,x4,d,b,v0,v1,v2,v3,v4 => if b < (v3.length : Int) then (if 0 ≤ b then ((a1m.f k x0 x2 (rd v3 b)).bind fun a => (if 0 ≤ a then (if a < (x4.length : Int) then (a3a.l0 k x0 x1 x2 x4 (mx d ((a0b x4 a).f2)) (wrap64 (b + 1)) v0 v1 v2 v3 v4) else (none)) else (none))) else (none)) else ((a1v.f k x1 v1).bind fun c => (a3a.l1 k x0 x2 x4 c.1 d v0 v1 v2 v3 v4))
def a3a.l1 : Nat → List (S51) → Int → List (S42) → List (S56) → Int → Int → Int → Int → List Int → List Int → Option (Int × Int × Int × Int)
 | 0,_,_,_,_,_,_,_,_,_,_ => none
 | k + 1,x0,x2,x4,b,a,v0,v1,v2,v3,v4 => if (wrap64 (a + v2)) ≤ 36525 then ((a2b.f k b a (wrap64 (a + v2))).bind fun c => (if c = true then ((a0o.f k x0 x2 a (wrap64 (a + v2)) x4).bind fun d => (if d = true then (a3a.l1 k x0 x2 x4 b (wrap64 (a + 1)) v0 v1 v2 v3 v4) else (some (v0,a,wrap64 (a + v2),0)))) else (a3a.l1 k x0 x2 x4 b (wrap64 (a + 1)) v0 v1 v2 v3 v4))) else (some (0,0,0,20))
end
def a3a.f (k : Nat) (l0 : List (S51)) (l1 : List (S58)) (a2 a3 : Int) (l4 : List (S42)) : Option (Int × Int × Int × Int) := if 0 ≤ a2 then (if a2 < (l0.length : Int) then (a3a.l0 k l0 l1 a2 l4 a3 0 ((a0a l0 a2).f0) ((a0a l0 a2).f1) ((a0a l0 a2).f2) ((a0a l0 a2).f3) ((a0a l0 a2).f4)) else (none)) else (none)
theorem a3a.a1t : ∀ k,(∀ y0 y1 y2 y3 y4 y5 y6 y7 y8 y9 a,LeO (a3a.l0 k y0 y1 y2 y3 y4 y5 y6 y7 y8 y9 a) (a3a.l0 (k + 1) y0 y1 y2 y3 y4 y5 y6 y7 y8 y9 a)) ∧ (∀ y0 y1 y2 y3 y4 y5 y6 y7 y8 y9,LeO (a3a.l1 k y0 y1 y2 y3 y4 y5 y6 y7 y8 y9) (a3a.l1 (k + 1) y0 y1 y2 y3 y4 y5 y6 y7 y8 y9))
 | 0 => ⟨fun _ _ _ _ _ _ _ _ _ _ _ r h => by simp [a3a.l0] at h,fun _ _ _ _ _ _ _ _ _ _ r h => by simp [a3a.l1] at h⟩
 | k + 1 => by
  obtain ⟨b,c⟩ := a3a.a1t k
  refine ⟨?_,?_⟩ <;> intros <;> (first | unfold a3a.l0 | unfold a3a.l1) <;> with_reducible (repeat' first | apply b | apply c | apply a1m.mono | apply a0o.mono | apply a1v.mono | apply a2b.mono | apply LeO.refl | apply LeO.none | apply LeO.ite | refine LeO.bind ?_ (fun _ => ?_))
theorem a3a.mono : ∀ a0 a1 a2 a3 a4 k,LeO (a3a.f k a0 a1 a2 a3 a4) (a3a.f (k + 1) a0 a1 a2 a3 a4) := by
 intro a0 a1 a2 a3 a4 k
 obtain ⟨a,b⟩ := a3a.a1t k
 unfold a3a.f
 with_reducible (repeat' first | apply a | apply b | apply a1m.mono | apply a0o.mono | apply a1v.mono | apply a2b.mono | apply LeO.refl | apply LeO.none | apply LeO.ite | refine LeO.bind ?_ (fun _ => ?_))
end Go.Proofs.Ytheibjkjmkanoaa.Px
