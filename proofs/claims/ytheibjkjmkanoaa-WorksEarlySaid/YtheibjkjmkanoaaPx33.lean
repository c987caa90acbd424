/- Contracts of Go functions, printed. Conditions: as each theorem states. -/
import Derived.Test.YtheibjkjmkanoaaPx0
import Derived.Test.YtheibjkjmkanoaaPx23
import Derived.Test.YtheibjkjmkanoaaPx29
import Derived.Test.YtheibjkjmkanoaaPx21
namespace Go.Proofs.Ytheibjkjmkanoaa.Px
open Go.Proofs.Ytheibjkjmkanoaa.Given
open Go.RowKit Go.Proofs.YtheibjkjmkanoaaW.PrintWords Go.Proofs.YtheibjkjmkanoaaW.PrintLast Go.Proofs.YtheibjkjmkanoaaW.PrintMore
attribute [local go_sem] a3m a3n a3x a3y a3e a3f a3o a3p
set_option linter.unusedVariables false
set_option linter.unusedSimpArgs false
mutual
def a1n.l0 : Nat → List (S51) → List (S42) → Int → List Int → List (S42) → Int → Option ((List (S42)))
 | 0,_,_,_,_,_,_ => none
 | k + 1,x0,x1,x2,x3,x9,a => if a < (x0.length : Int) then (if 0 ≤ a then ((a2w.f k x3 ((a0a x0 a).f0)).bind fun b => (if b = true then (a1n.j1 k x0 x1 x2 x3 x9 a false) else (if a < (x1.length : Int) then (a1n.j1 k x0 x1 x2 x3 x9 a (decide (((a0b x1 a).f1) < x2))) else (none)))) else (none)) else (some x9)
def a1n.j1 : Nat → List (S51) → List (S42) → Int → List Int → List (S42) → Int → Bool → Option ((List (S42)))
 | 0,_,_,_,_,_,_,_ => none
 | k + 1,x0,x1,x2,x3,x9,a,b => a1n.l1 k x0 x1 x2 x3 x9 a b 0
def a1n.l1 : Nat → List (S51) → List (S42) → Int → List Int → List (S42) → Int → Bool → Int → Option ((List (S42)))
 | 0,_,_,_,_,_,_,_,_ => none
 | k + 1,x0,x1,x2,x3,x9,a,d,b => if 0 ≤ a then (if a < (x0.length : Int) then (if b < (((a0a x0 a).f3).length : Int) then (if d = true then (if 0 ≤ b then ((a1b.f k x0 a (rd ((a0a x0 a).f3) b)).bind fun c => (if 0 ≤ c then (if c < (x9.length : Int) then (a1n.l1 k x0 x1 x2 x3 x9 a (decide (((a0b x9 c).f2) > 0)) (wrap64 (b + 1))) else (none)) else (none))) else (none)) else (a1n.l1 k x0 x1 x2 x3 x9 a false (wrap64 (b + 1)))) else (if d = true then (if a < (x1.length : Int) then (if a < (x9.length : Int) then (a1n.l0 k x0 x1 x2 x3 (x9.set (a : Int).toNat (⟨(a0b x1 a).f0,(a0b x1 a).f1,(a0b x1 a).f2⟩ : S42)) (wrap64 (a + 1))) else (none)) else (none)) else (a1n.l0 k x0 x1 x2 x3 x9 (wrap64 (a + 1))))) else (none)) else (none)
end
def a1n.f (k : Nat) (l0 : List (S51)) (l1 : List (S42)) (a2 : Int) (l3 : List Int) : Option ((List (S42))) := if 0 ≤ (l0.length : Int) then (if ((l0.length : Int) : Int).toNat ≤ 11728124029610 then (a1n.l0 k l0 l1 a2 l3 (List.replicate ((l0.length : Int) : Int).toNat z42) 0) else (none)) else (none)
theorem a1n.a1h : ∀ k,(∀ y0 y1 y2 y3 y4 y5,LeO (a1n.l0 k y0 y1 y2 y3 y4 y5) (a1n.l0 (k + 1) y0 y1 y2 y3 y4 y5)) ∧ (∀ y0 y1 y2 y3 y4 y5 y6,LeO (a1n.j1 k y0 y1 y2 y3 y4 y5 y6) (a1n.j1 (k + 1) y0 y1 y2 y3 y4 y5 y6)) ∧ (∀ y0 y1 y2 y3 y4 y5 y6 y7,LeO (a1n.l1 k y0 y1 y2 y3 y4 y5 y6 y7) (a1n.l1 (k + 1) y0 y1 y2 y3 y4 y5 y6 y7))
 | 0 => ⟨fun _ _ _ _ _ _ r h => by simp [a1n.l0] at h,fun _ _ _ _ _ _ _ r h => by simp [a1n.j1] at h,fun _ _ _ _ _ _ _ _ r h => by simp [a1n.l1] at h⟩
 | k + 1 => by
  obtain ⟨a,b,c⟩ := a1n.a1h k
  refine ⟨?_,?_,?_⟩ <;> intros <;> (first | unfold a1n.l0 | unfold a1n.j1 | unfold a1n.l1) <;> with_reducible (repeat' first | apply a | apply b | apply c | apply a1b.mono | apply a2w.mono | apply LeO.refl | apply LeO.none | apply LeO.ite | refine LeO.bind ?_ (fun _ => ?_))
theorem a1n.mono : ∀ a0 a1 a2 a3 k,LeO (a1n.f k a0 a1 a2 a3) (a1n.f (k + 1) a0 a1 a2 a3) := by
 intro a0 a1 a2 a3 k
 obtain ⟨a,b,c⟩ := a1n.a1h k
 unfold a1n.f
 with_reducible (repeat' first | apply a | apply b | apply c | apply a1b.mono | apply a2w.mono | apply LeO.refl | apply LeO.none | apply LeO.ite | refine LeO.bind ?_ (fun _ => ?_))
end Go.Proofs.Ytheibjkjmkanoaa.Px
/- Contracts of Go functions, written by a program of this session's own (wip/tools/myprint.py) out of the translation: each Go function does what the Lean function of its name says. Conditions: as each theorem states. -/
namespace Go.Proofs.Ytheibjkjmkanoaa.Px
open Go.Proofs.Ytheibjkjmkanoaa.Given
open Go.RowKit Go.Proofs.YtheibjkjmkanoaaW.PrintWords Go.Proofs.YtheibjkjmkanoaaW.PrintLast Go.Proofs.YtheibjkjmkanoaaW.PrintMore
attribute [local go_sem] a3m a3n a3x a3y a3e a3f a3o a3p
set_option linter.unusedVariables false
set_option linter.unusedSimpArgs false
mutual
def a2d.j0 : Nat → List (S51) → List (S58) → List (S42) → Int → List Int → Bool → Option ((List (S42)) × Int)
 | 0,_,_,_,_,_,_ => none
 | k + 1,x0,x1,x2,x3,x4,a => if a = true then (some (([] : List (S42)),1)) else (a2d.l0 k x0 x1 x2 x3 x4 0)
def a2d.l0 : Nat → List (S51) → List (S58) → List (S42) → Int → List Int → Int → Option ((List (S42)) × Int)
 | 0,_,_,_,_,_,_ => none
 | k + 1,x0,x1,x2,x3,x4,a => if a < (x4.length : Int) then (if 0 ≤ a then ((a1b.f k x0 (x0.length : Int) (rd x4 a)).bind fun c => (if c < 0 then (some (([] : List (S42)),1)) else (a2d.l0 k x0 x1 x2 x3 x4 (wrap64 (a + 1))))) else (none)) else ((a1n.f k x0 x2 x3 x4).bind fun d => ((a2c.f k x0 x1 x3 d).bind fun b => (some (b.1,b.2))))
end
def a2d.f (k : Nat) (l0 : List (S51)) (l1 : List (S58)) (l2 : List (S42)) (a3 : Int) (l4 : List Int) : Option ((List (S42)) × Int) := (a1a.f k l0 l1 l2).bind fun a => ((a0k.f k l4 1 1000).bind fun b => (if a = 0 then (if a3 < 0 then (a2d.j0 k l0 l1 l2 a3 l4 true) else (if a3 > 36524 then (a2d.j0 k l0 l1 l2 a3 l4 true) else (a2d.j0 k l0 l1 l2 a3 l4 (!b)))) else (a2d.j0 k l0 l1 l2 a3 l4 true)))
theorem a2d.a1h : ∀ k,(∀ y0 y1 y2 y3 y4 y5,LeO (a2d.j0 k y0 y1 y2 y3 y4 y5) (a2d.j0 (k + 1) y0 y1 y2 y3 y4 y5)) ∧ (∀ y0 y1 y2 y3 y4 y5,LeO (a2d.l0 k y0 y1 y2 y3 y4 y5) (a2d.l0 (k + 1) y0 y1 y2 y3 y4 y5))
 | 0 => ⟨fun _ _ _ _ _ _ r h => by simp [a2d.j0] at h,fun _ _ _ _ _ _ r h => by simp [a2d.l0] at h⟩
 | k + 1 => by
  obtain ⟨a,b⟩ := a2d.a1h k
  refine ⟨?_,?_⟩ <;> intros <;> (first | unfold a2d.j0 | unfold a2d.l0) <;> with_reducible (repeat' first | apply a | apply b | apply a1a.mono | apply a1b.mono | apply a1n.mono | apply a2c.mono | apply a0k.mono | apply LeO.refl | apply LeO.none | apply LeO.ite | refine LeO.bind ?_ (fun _ => ?_))
theorem a2d.mono : ∀ a0 a1 a2 a3 a4 k,LeO (a2d.f k a0 a1 a2 a3 a4) (a2d.f (k + 1) a0 a1 a2 a3 a4) := by
 intro a0 a1 a2 a3 a4 k
 obtain ⟨a,b⟩ := a2d.a1h k
 unfold a2d.f
 with_reducible (repeat' first | apply a | apply b | apply a1a.mono | apply a1b.mono | apply a1n.mono | apply a2c.mono | apply a0k.mono | apply LeO.refl | apply LeO.none | apply LeO.ite | refine LeO.bind ?_ (fun _ => ?_))
mutual
def a2j.l0 : Nat → List (S56) → List Bool → Int → Option (List Bool)
 | 0,_,_,_ => none
 | k + 1,x0,x3,x4 => if x4 < (x0.length : Int) then (if 0 ≤ x4 then (a2j.l1 k x0 x3 x4 ((a0h x0 x4).f0)) else (none)) else (some x3)
def a2j.l1 : Nat → List (S56) → List Bool → Int → Int → Option (List Bool)
 | 0,_,_,_,_ => none
 | k + 1,x0,x3,x4,x5 => if 0 ≤ x4 then (if x4 < (x0.length : Int) then (if x5 < ((a0h x0 x4).f1) then (if 0 ≤ x5 then (if x5 < (x3.length : Int) then (a2j.l1 k x0 (x3.set (x5 : Int).toNat true) x4 (wrap64 (x5 + 1))) else (none)) else (none)) else (a2j.l0 k x0 x3 (wrap64 (x4 + 1)))) else (none)) else (none)
end
def a2j.f (k : Nat) (l0 : List (S56)) : Option (List Bool) := if 36525 ≤ 281474976710656 then (a2j.l0 k l0 (List.replicate 36525 false) 0) else (none)
theorem a2j.a1h : ∀ k,(∀ y0 y1 y2,LeO (a2j.l0 k y0 y1 y2) (a2j.l0 (k + 1) y0 y1 y2)) ∧ (∀ y0 y1 y2 y3,LeO (a2j.l1 k y0 y1 y2 y3) (a2j.l1 (k + 1) y0 y1 y2 y3))
 | 0 => ⟨fun _ _ _ r h => by simp [a2j.l0] at h,fun _ _ _ _ r h => by simp [a2j.l1] at h⟩
 | k + 1 => by
  obtain ⟨a,b⟩ := a2j.a1h k
  refine ⟨?_,?_⟩ <;> intros <;> (first | unfold a2j.l0 | unfold a2j.l1) <;> with_reducible (repeat' first | apply a | apply b | apply LeO.refl | apply LeO.none | apply LeO.ite | refine LeO.bind ?_ (fun _ => ?_))
theorem a2j.mono : ∀ a0 k,LeO (a2j.f k a0) (a2j.f (k + 1) a0) := by
 intro a0 k
 obtain ⟨a,b⟩ := a2j.a1h k
 unfold a2j.f
 with_reducible (repeat' first | apply a | apply b | apply LeO.refl | apply LeO.none | apply LeO.ite | refine LeO.bind ?_ (fun _ => ?_))
end Go.Proofs.Ytheibjkjmkanoaa.Px
/- Contracts of Go functions, written by a program of this session's own (wip/tools/myprint.py) out of the translation: each Go function does what the Lean function of its name says. Conditions: as each theorem states. -/
namespace Go.Proofs.Ytheibjkjmkanoaa.Px
open Go.Proofs.Ytheibjkjmkanoaa.Given
open Go.RowKit Go.Proofs.YtheibjkjmkanoaaW.PrintWords Go.Proofs.YtheibjkjmkanoaaW.PrintLast Go.Proofs.YtheibjkjmkanoaaW.PrintMore
attribute [local go_sem] a3m a3n a3x a3y a3e a3f a3o a3p
set_option linter.unusedVariables false
set_option linter.unusedSimpArgs false
def a2y.l0 : Nat → List Bool → List (S56) → Int → Option ((List (S56)) × Int)
 | 0,_,_,_ => none
 | k + 1,x0,x4,x5 => if x5 < (x0.length : Int) then (if 0 ≤ x5 then (if rdOf false x0 x5 = true then (if (x4.length : Int) > 0 then (if 0 ≤ (wrap64 ((x4.length : Int) - 1)) then (if (wrap64 ((x4.length : Int) - 1)) < (x4.length : Int) then (if ((a0h x4 (wrap64 ((x4.length : Int) - 1))).f1) = x5 then (a2y.l0 k x0 (x4.set ((wrap64 ((x4.length : Int) - 1)) : Int).toNat (⟨(a0h x4 (wrap64 ((x4.length : Int) - 1))).f0,wrap64 (x5 + 1)⟩ : S56)) (wrap64 (x5 + 1))) else (if x4.length < 8796093022208 then (a2y.l0 k x0 (x4 ++ [(⟨x5,wrap64 (x5 + 1)⟩ : S56)]) (wrap64 (x5 + 1))) else (none))) else (none)) else (none)) else (if x4.length < 8796093022208 then (a2y.l0 k x0 (x4 ++ [(⟨x5,wrap64 (x5 + 1)⟩ : S56)]) (wrap64 (x5 + 1))) else (none))) else (a2y.l0 k x0 x4 (wrap64 (x5 + 1)))) else (none)) else (if (x4.length : Int) > 1000 then (some (([] : List (S56)),2)) else (some (x4,0)))
def a2y.f (k : Nat) (l0 : List Bool) : Option ((List (S56)) × Int) := a2y.l0 k l0 ([] : List (S56)) 0
theorem a2y.a1h : ∀ k,(∀ y0 y1 y2,LeO (a2y.l0 k y0 y1 y2) (a2y.l0 (k + 1) y0 y1 y2))
 | 0 => fun _ _ _ r h => by simp [a2y.l0] at h
 | k + 1 => by
  have a := a2y.a1h k
  intro y0 y1 y2
  unfold a2y.l0
  with_reducible (repeat' first | apply a | apply LeO.refl | apply LeO.none | apply LeO.ite | refine LeO.bind ?_ (fun _ => ?_))
theorem a2y.mono : ∀ a0 k,LeO (a2y.f k a0) (a2y.f (k + 1) a0) := by
 intro a0 k
 have a := a2y.a1h k
 unfold a2y.f
 with_reducible (repeat' first | apply a | apply LeO.refl | apply LeO.none | apply LeO.ite | refine LeO.bind ?_ (fun _ => ?_))
def a2z.l0 : Nat → List (S56) → Int → Option ((List (S56)) × Int)
 | 0,_,_ => none
 | k + 1,x0,x4 => if x4 < (x0.length : Int) then (if 0 ≤ x4 then ((a4a.f ((a0h x0 x4).f0) ((a0h x0 x4).f1)).bind fun b => (if b = true then (a2z.l0 k x0 (wrap64 (x4 + 1))) else (some (([] : List (S56)),1)))) else (none)) else ((a2j.f k x0).bind fun c => ((a2y.f k c).bind fun a => (some (a.1,a.2))))
def a2z.f (k : Nat) (l0 : List (S56)) : Option ((List (S56)) × Int) := a2z.l0 k l0 0
theorem a2z.a1h : ∀ k,(∀ y0 y1,LeO (a2z.l0 k y0 y1) (a2z.l0 (k + 1) y0 y1))
 | 0 => fun _ _ r h => by simp [a2z.l0] at h
 | k + 1 => by
  have a := a2z.a1h k
  intro y0 y1
  unfold a2z.l0
  with_reducible (repeat' first | apply a | apply a2j.mono | apply a2y.mono | apply LeO.refl | apply LeO.none | apply LeO.ite | refine LeO.bind ?_ (fun _ => ?_))
theorem a2z.mono : ∀ a0 k,LeO (a2z.f k a0) (a2z.f (k + 1) a0) := by
 intro a0 k
 have a := a2z.a1h k
 unfold a2z.f
 with_reducible (repeat' first | apply a | apply a2j.mono | apply a2y.mono | apply LeO.refl | apply LeO.none | apply LeO.ite | refine LeO.bind ?_ (fun _ => ?_))
end Go.Proofs.Ytheibjkjmkanoaa.Px
/- Contracts of Go functions, written by a program of this session's own (wip/tools/myprint.py) out of the translation: each Go function does what the Lean function of its name says. Conditions: as each theorem states. -/
namespace Go.Proofs.Ytheibjkjmkanoaa.Px
open Go.Proofs.Ytheibjkjmkanoaa.Given
open Go.RowKit Go.Proofs.YtheibjkjmkanoaaW.PrintWords Go.Proofs.YtheibjkjmkanoaaW.PrintLast Go.Proofs.YtheibjkjmkanoaaW.PrintMore
attribute [local go_sem] a3m a3n a3x a3y a3e a3f a3o a3p
set_option linter.unusedVariables false
set_option linter.unusedSimpArgs false
mutual
def a2e.j0 : Nat → List (S51) → List (S42) → Int → Bool → Option ((List (S56)) × Int)
 | 0,_,_,_,_ => none
 | k + 1,x0,x1,x2,a => if a = true then (some (([] : List (S56)),1)) else (a2e.l0 k x0 x1 x2 ([] : List (S56)) 0)
def a2e.l0 : Nat → List (S51) → List (S42) → Int → List (S56) → Int → Option ((List (S56)) × Int)
 | 0,_,_,_,_,_ => none
 | k + 1,x0,x1,x2,x9,a => if a < (x1.length : Int) then (if 0 ≤ a then ((a4a.f ((a0b x1 a).f1) ((a0b x1 a).f2)).bind fun c => (if c = true then (if a < (x0.length : Int) then ((a2w.f k ((a0a x0 a).f4) x2).bind fun d => (if d = true then (if x9.length < 8796093022208 then (a2e.l0 k x0 x1 x2 (x9 ++ [(⟨(a0b x1 a).f1,(a0b x1 a).f2⟩ : S56)]) (wrap64 (a + 1))) else (none)) else (a2e.l0 k x0 x1 x2 x9 (wrap64 (a + 1))))) else (none)) else (some (([] : List (S56)),1)))) else (none)) else ((a2z.f k x9).bind fun b => (if b.2 = 0 then (some (b.1,0)) else (some (([] : List (S56)),1))))
end
def a2e.f (k : Nat) (l0 : List (S51)) (l1 : List (S42)) (a2 : Int) : Option ((List (S56)) × Int) := (a2t.f k l0 l1).bind fun a => (if a = true then (if a2 < 1 then (a2e.j0 k l0 l1 a2 true) else (a2e.j0 k l0 l1 a2 (decide (a2 > 64)))) else (a2e.j0 k l0 l1 a2 true))
theorem a2e.a1h : ∀ k,(∀ y0 y1 y2 y3,LeO (a2e.j0 k y0 y1 y2 y3) (a2e.j0 (k + 1) y0 y1 y2 y3)) ∧ (∀ y0 y1 y2 y3 y4,LeO (a2e.l0 k y0 y1 y2 y3 y4) (a2e.l0 (k + 1) y0 y1 y2 y3 y4))
 | 0 => ⟨fun _ _ _ _ r h => by simp [a2e.j0] at h,fun _ _ _ _ _ r h => by simp [a2e.l0] at h⟩
 | k + 1 => by
  obtain ⟨a,b⟩ := a2e.a1h k
  refine ⟨?_,?_⟩ <;> intros <;> (first | unfold a2e.j0 | unfold a2e.l0) <;> with_reducible (repeat' first | apply a | apply b | apply a2z.mono | apply a2w.mono | apply a2t.mono | apply LeO.refl | apply LeO.none | apply LeO.ite | refine LeO.bind ?_ (fun _ => ?_))
theorem a2e.mono : ∀ a0 a1 a2 k,LeO (a2e.f k a0 a1 a2) (a2e.f (k + 1) a0 a1 a2) := by
 intro a0 a1 a2 k
 obtain ⟨a,b⟩ := a2e.a1h k
 unfold a2e.f
 with_reducible (repeat' first | apply a | apply b | apply a2z.mono | apply a2w.mono | apply a2t.mono | apply LeO.refl | apply LeO.none | apply LeO.ite | refine LeO.bind ?_ (fun _ => ?_))
end Go.Proofs.Ytheibjkjmkanoaa.Px
