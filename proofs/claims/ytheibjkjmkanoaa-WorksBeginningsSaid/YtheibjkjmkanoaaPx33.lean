/- Contracts of Go functions, printed. Conditions: as each theorem states. -/
import Derived.Test.YtheibjkjmkanoaaPx0
import Derived.Test.YtheibjkjmkanoaaPx23
import Derived.Test.YtheibjkjmkanoaaPx28
import Derived.Test.YtheibjkjmkanoaaPx29
import Derived.Test.YtheibjkjmkanoaaPx30
import Derived.Test.YtheibjkjmkanoaaPx26
namespace Go.Proofs.Ytheibjkjmkanoaa.Px
open Go.Proofs.Ytheibjkjmkanoaa.Given
open Go.RowKit Go.Proofs.YtheibjkjmkanoaaW.PrintWords Go.Proofs.YtheibjkjmkanoaaW.PrintLast Go.Proofs.YtheibjkjmkanoaaW.PrintMore
attribute [local go_sem] a3r a3s a4e a4f a3k a3l a3t a3u
set_option linter.unusedVariables false
set_option linter.unusedSimpArgs false
mutual
def a2u.j0 : Nat → List (S51) → List (S58) → List (S42) → Int → List Int → Bool → Option ((List (S42)) × Int)
 | 0,_,_,_,_,_,_ => none
 | k + 1,x0,x1,x2,x3,x4,a => if a = true then (some (([] : List (S42)),1)) else (a2u.l0 k x0 x1 x2 x3 x4 0)
def a2u.l0 : Nat → List (S51) → List (S58) → List (S42) → Int → List Int → Int → Option ((List (S42)) × Int)
 | 0,_,_,_,_,_,_ => none
 | k + 1,x0,x1,x2,x3,x4,a => if a < (x4.length : Int) then (if 0 ≤ a then ((a1m.f k x0 (x0.length : Int) (rd x4 a)).bind fun c => (if c < 0 then (some (([] : List (S42)),1)) else (a2u.l0 k x0 x1 x2 x3 x4 (wrap64 (a + 1))))) else (none)) else ((a0u.f k x0 x2 x3 x4).bind fun d => ((a2s.f k x0 x1 x3 d).bind fun b => (some (b.1,b.2))))
end
def a2u.f (k : Nat) (l0 : List (S51)) (l1 : List (S58)) (l2 : List (S42)) (a3 : Int) (l4 : List Int) : Option ((List (S42)) × Int) := (a0d.f k l0 l1 l2).bind fun a => ((a0p.f k l4 1 1000).bind fun b => (if a = 0 then (if a3 < 0 then (a2u.j0 k l0 l1 l2 a3 l4 true) else (if a3 > 36524 then (a2u.j0 k l0 l1 l2 a3 l4 true) else (a2u.j0 k l0 l1 l2 a3 l4 (!b)))) else (a2u.j0 k l0 l1 l2 a3 l4 true)))
theorem a2u.a1t : ∀ k,(∀ y0 y1 y2 y3 y4 y5,LeO (a2u.j0 k y0 y1 y2 y3 y4 y5) (a2u.j0 (k + 1) y0 y1 y2 y3 y4 y5)) ∧ (∀ y0 y1 y2 y3 y4 y5,LeO (a2u.l0 k y0 y1 y2 y3 y4 y5) (a2u.l0 (k + 1) y0 y1 y2 y3 y4 y5))
 | 0 => ⟨fun _ _ _ _ _ _ r h => by simp [a2u.j0] at h,fun _ _ _ _ _ _ r h => by simp [a2u.l0] at h⟩
 | k + 1 => by
  obtain ⟨a,b⟩ := a2u.a1t k
  refine ⟨?_,?_⟩ <;> intros <;> (first | unfold a2u.j0 | unfold a2u.l0) <;> with_reducible (repeat' first | apply a | apply b | apply a0d.mono | apply a1m.mono | apply a0u.mono | apply a2s.mono | apply a0p.mono | apply LeO.refl | apply LeO.none | apply LeO.ite | refine LeO.bind ?_ (fun _ => ?_))
theorem a2u.mono : ∀ a0 a1 a2 a3 a4 k,LeO (a2u.f k a0 a1 a2 a3 a4) (a2u.f (k + 1) a0 a1 a2 a3 a4) := by
 intro a0 a1 a2 a3 a4 k
 obtain ⟨a,b⟩ := a2u.a1t k
 unfold a2u.f
 with_reducible (repeat' first | apply a | apply b | apply a0d.mono | apply a1m.mono | apply a0u.mono | apply a2s.mono | apply a0p.mono | apply LeO.refl | apply LeO.none | apply LeO.ite | refine LeO.bind ?_ (fun _ => ?_))
mutual
def a2z.l0 : Nat → List (S56) → List Bool → Int → Option (List Bool)
 | 0,_,_,_ => none
 | k + 1,x0,x3,x4 => if x4 < (x0.length : Int) then (if 0 ≤ x4 then (a2z.l1 k x0 x3 x4 ((a0h x0 x4).f0)) else (none)) else (some x3)
def a2z.l1 : Nat → List (S56) → List Bool → Int → Int → Option (List Bool)
 | 0,_,_,_,_ => none
 | k + 1,x0,x3,x4,x5 => if 0 ≤ x4 then (if x4 < (x0.length : Int) then (if x5 < ((a0h x0 x4).f1) then (if 0 ≤ x5 then (if x5 < (x3.length : Int) then (a2z.l1 k x0 (x3.set (x5 : Int).toNat true) x4 (wrap64 (x5 + 1))) else (none)) else (none)) else (a2z.l0 k x0 x3 (wrap64 (x4 + 1)))) else (none)) else (none)
end
def a2z.f (k : Nat) (l0 : List (S56)) : Option (List Bool) := if 36525 ≤ 281474976710656 then (a2z.l0 k l0 (List.replicate 36525 false) 0) else (none)
theorem a2z.a1t : ∀ k,(∀ y0 y1 y2,LeO (a2z.l0 k y0 y1 y2) (a2z.l0 (k + 1) y0 y1 y2)) ∧ (∀ y0 y1 y2 y3,LeO (a2z.l1 k y0 y1 y2 y3) (a2z.l1 (k + 1) y0 y1 y2 y3))
 | 0 => ⟨fun _ _ _ r h => by simp [a2z.l0] at h,fun _ _ _ _ r h => by simp [a2z.l1] at h⟩
 | k + 1 => by
  obtain ⟨a,b⟩ := a2z.a1t k
  refine ⟨?_,?_⟩ <;> intros <;> (first | unfold a2z.l0 | unfold a2z.l1) <;> with_reducible (repeat' first | apply a | apply b | apply LeO.refl | apply LeO.none | apply LeO.ite | refine LeO.bind ?_ (fun _ => ?_))
theorem a2z.mono : ∀ a0 k,LeO (a2z.f k a0) (a2z.f (k + 1) a0) := by
 intro a0 k
 obtain ⟨a,b⟩ := a2z.a1t k
 unfold a2z.f
 with_reducible (repeat' first | apply a | apply b | apply LeO.refl | apply LeO.none | apply LeO.ite | refine LeO.bind ?_ (fun _ => ?_))
end Go.Proofs.Ytheibjkjmkanoaa.Px
/- Contracts of Go functions, written by a program of this session's own (wip/tools/myprint.py) out of the translation: each Go function does what the Lean function of its name says. Conditions: as each theorem states. -/
namespace Go.Proofs.Ytheibjkjmkanoaa.Px
open Go.Proofs.Ytheibjkjmkanoaa.Given
open Go.RowKit Go.Proofs.YtheibjkjmkanoaaW.PrintWords Go.Proofs.YtheibjkjmkanoaaW.PrintLast Go.Proofs.YtheibjkjmkanoaaW.PrintMore
attribute [local go_sem] a3r a3s a4e a4f a3k a3l a3t a3u
set_option linter.unusedVariables false
set_option linter.unusedSimpArgs false
def a3h.l0 : Nat → List Bool → List (S56) → Int → Option ((List (S56)) × Int)
 | 0,_,_,_ => none
 | k + 1,x0,x4,x5 => if x5 < (x0.length : Int) then (if 0 ≤ x5 then (if rdOf false x0 x5 = true then (if (x4.length : Int) > 0 then (if 0 ≤ (wrap64 ((x4.length : Int) - 1)) then (if (wrap64 ((x4.length : Int) - 1)) < (x4.length : Int) then (if ((a0h x4 (wrap64 ((x4.length : Int) - 1))).f1) = x5 then (a3h.l0 k x0 (x4.set ((wrap64 ((x4.length : Int) - 1)) : Int).toNat (⟨(a0h x4 (wrap64 ((x4.length : Int) - 1))).f0,wrap64 (x5 + 1)⟩ : S56)) (wrap64 (x5 + 1))) else (if x4.length < 8796093022208 then (a3h.l0 k x0 (x4 ++ [(⟨x5,wrap64 (x5 + 1)⟩ : S56)]) (wrap64 (x5 + 1))) else (none))) else (none)) else (none)) else (if x4.length < 8796093022208 then (a3h.l0 k x0 (x4 ++ [(⟨x5,wrap64 (x5 + 1)⟩ : S56)]) (wrap64 (x5 + 1))) else (none))) else (a3h.l0 k x0 x4 (wrap64 (x5 + 1)))) else (none)) else (if (x4.length : Int) > 1000 then (some (([] : List (S56)),2)) else (some (x4,0)))
def a3h.f (k : Nat) (l0 : List Bool) : Option ((List (S56)) × Int) := a3h.l0 k l0 ([] : List (S56)) 0
theorem a3h.a1t : ∀ k,(∀ y0 y1 y2,LeO (a3h.l0 k y0 y1 y2) (a3h.l0 (k + 1) y0 y1 y2))
 | 0 => fun _ _ _ r h => by simp [a3h.l0] at h
 | k + 1 => by
  have a := a3h.a1t k
  intro y0 y1 y2
  unfold a3h.l0
  with_reducible (repeat' first | apply a | apply LeO.refl | apply LeO.none | apply LeO.ite | refine LeO.bind ?_ (fun _ => ?_))
theorem a3h.mono : ∀ a0 k,LeO (a3h.f k a0) (a3h.f (k + 1) a0) := by
 intro a0 k
 have a := a3h.a1t k
 unfold a3h.f
 with_reducible (repeat' first | apply a | apply LeO.refl | apply LeO.none | apply LeO.ite | refine LeO.bind ?_ (fun _ => ?_))
def a3i.l0 : Nat → List (S56) → Int → Option ((List (S56)) × Int)
 | 0,_,_ => none
 | k + 1,x0,x4 => if x4 < (x0.length : Int) then (if 0 ≤ x4 then ((a4l.f ((a0h x0 x4).f0) ((a0h x0 x4).f1)).bind fun b => (if b = true then (a3i.l0 k x0 (wrap64 (x4 + 1))) else (some (([] : List (S56)),1)))) else (none)) else ((a2z.f k x0).bind fun c => ((a3h.f k c).bind fun a => (some (a.1,a.2))))
def a3i.f (k : Nat) (l0 : List (S56)) : Option ((List (S56)) × Int) := a3i.l0 k l0 0
theorem a3i.a1t : ∀ k,(∀ y0 y1,LeO (a3i.l0 k y0 y1) (a3i.l0 (k + 1) y0 y1))
 | 0 => fun _ _ r h => by simp [a3i.l0] at h
 | k + 1 => by
  have a := a3i.a1t k
  intro y0 y1
  unfold a3i.l0
  with_reducible (repeat' first | apply a | apply a2z.mono | apply a3h.mono | apply LeO.refl | apply LeO.none | apply LeO.ite | refine LeO.bind ?_ (fun _ => ?_))
theorem a3i.mono : ∀ a0 k,LeO (a3i.f k a0) (a3i.f (k + 1) a0) := by
 intro a0 k
 have a := a3i.a1t k
 unfold a3i.f
 with_reducible (repeat' first | apply a | apply a2z.mono | apply a3h.mono | apply LeO.refl | apply LeO.none | apply LeO.ite | refine LeO.bind ?_ (fun _ => ?_))
end Go.Proofs.Ytheibjkjmkanoaa.Px
/- Contracts of Go functions, written by a program of this session's own (wip/tools/myprint.py) out of the translation: each Go function does what the Lean function of its name says. Conditions: as each theorem states. -/
namespace Go.Proofs.Ytheibjkjmkanoaa.Px
open Go.Proofs.Ytheibjkjmkanoaa.Given
open Go.RowKit Go.Proofs.YtheibjkjmkanoaaW.PrintWords Go.Proofs.YtheibjkjmkanoaaW.PrintLast Go.Proofs.YtheibjkjmkanoaaW.PrintMore
attribute [local go_sem] a3r a3s a4e a4f a3k a3l a3t a3u
set_option linter.unusedVariables false
set_option linter.unusedSimpArgs false
mutual
def a2v.j0 : Nat → List (S51) → List (S42) → Int → Bool → Option ((List (S56)) × Int)
 | 0,_,_,_,_ => none
 | k + 1,x0,x1,x2,a => if a = true then (some (([] : List (S56)),1)) else (a2v.l0 k x0 x1 x2 ([] : List (S56)) 0)
def a2v.l0 : Nat → List (S51) → List (S42) → Int → List (S56) → Int → Option ((List (S56)) × Int)
 | 0,_,_,_,_,_ => none
 | k + 1,x0,x1,x2,x9,a => if a < (x1.length : Int) then (if 0 ≤ a then ((a4l.f ((a0b x1 a).f1) ((a0b x1 a).f2)).bind fun c => (if c = true then (if a < (x0.length : Int) then ((a2c.f k ((a0a x0 a).f4) x2).bind fun d => (if d = true then (if x9.length < 8796093022208 then (a2v.l0 k x0 x1 x2 (x9 ++ [(⟨(a0b x1 a).f1,(a0b x1 a).f2⟩ : S56)]) (wrap64 (a + 1))) else (none)) else (a2v.l0 k x0 x1 x2 x9 (wrap64 (a + 1))))) else (none)) else (some (([] : List (S56)),1)))) else (none)) else ((a3i.f k x9).bind fun b => (if b.2 = 0 then (some (b.1,0)) else (some (([] : List (S56)),1))))
end
def a2v.f (k : Nat) (l0 : List (S51)) (l1 : List (S42)) (a2 : Int) : Option ((List (S56)) × Int) := (a2d.f k l0 l1).bind fun a => (if a = true then (if a2 < 1 then (a2v.j0 k l0 l1 a2 true) else (a2v.j0 k l0 l1 a2 (decide (a2 > 64)))) else (a2v.j0 k l0 l1 a2 true))
theorem a2v.a1t : ∀ k,(∀ y0 y1 y2 y3,LeO (a2v.j0 k y0 y1 y2 y3) (a2v.j0 (k + 1) y0 y1 y2 y3)) ∧ (∀ y0 y1 y2 y3 y4,LeO (a2v.l0 k y0 y1 y2 y3 y4) (a2v.l0 (k + 1) y0 y1 y2 y3 y4))
 | 0 => ⟨fun _ _ _ _ r h => by simp [a2v.j0] at h,fun _ _ _ _ _ r h => by simp [a2v.l0] at h⟩
 | k + 1 => by
  obtain ⟨a,b⟩ := a2v.a1t k
  refine ⟨?_,?_⟩ <;> intros <;> (first | unfold a2v.j0 | unfold a2v.l0) <;> with_reducible (repeat' first | apply a | apply b | apply a3i.mono | apply a2c.mono | apply a2d.mono | apply LeO.refl | apply LeO.none | apply LeO.ite | refine LeO.bind ?_ (fun _ => ?_))
theorem a2v.mono : ∀ a0 a1 a2 k,LeO (a2v.f k a0 a1 a2) (a2v.f (k + 1) a0 a1 a2) := by
 intro a0 a1 a2 k
 obtain ⟨a,b⟩ := a2v.a1t k
 unfold a2v.f
 with_reducible (repeat' first | apply a | apply b | apply a3i.mono | apply a2c.mono | apply a2d.mono | apply LeO.refl | apply LeO.none | apply LeO.ite | refine LeO.bind ?_ (fun _ => ?_))
end Go.Proofs.Ytheibjkjmkanoaa.Px
