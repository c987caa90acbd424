/- Contracts of Go functions, printed. Conditions: as each theorem states. -/
import Derived.Test.YtheibjkjmkanoaaPx0
import Derived.Test.YtheibjkjmkanoaaPx22
import Derived.Test.YtheibjkjmkanoaaPx23
import Derived.Test.YtheibjkjmkanoaaPx24
namespace Go.Proofs.Ytheibjkjmkanoaa.Px
open Go.Proofs.Ytheibjkjmkanoaa.Given
open Go.RowKit Go.Proofs.YtheibjkjmkanoaaW.PrintWords Go.Proofs.YtheibjkjmkanoaaW.PrintLast Go.Proofs.YtheibjkjmkanoaaW.PrintMore
attribute [local go_sem] a3m a3n a3x a3y a3e a3f a3o a3p
set_option linter.unusedVariables false
set_option linter.unusedSimpArgs false
def a2r.l0 : Nat → List (S56) → Int → Int → Int → Option (Bool)
 | 0,_,_,_,_ => none
 | k + 1,x0,x1,x2,x7 => if x7 < (x0.length : Int) then (if 0 ≤ x7 then (if ((a0h x0 x7).f0) ≤ x1 then (if x2 ≤ ((a0h x0 x7).f1) then (some true) else (a2r.l0 k x0 x1 x2 (wrap64 (x7 + 1)))) else (a2r.l0 k x0 x1 x2 (wrap64 (x7 + 1)))) else (none)) else (some false)
def a2r.f (k : Nat) (l0 : List (S56)) (a1 a2 : Int) : Option (Bool) := a2r.l0 k l0 a1 a2 0
theorem a2r.a1h : ∀ k,(∀ y0 y1 y2 y3,LeO (a2r.l0 k y0 y1 y2 y3) (a2r.l0 (k + 1) y0 y1 y2 y3))
 | 0 => fun _ _ _ _ r h => by simp [a2r.l0] at h
 | k + 1 => by
  have a := a2r.a1h k
  intro y0 y1 y2 y3
  unfold a2r.l0
  with_reducible (repeat' first | apply a | apply LeO.refl | apply LeO.none | apply LeO.ite | refine LeO.bind ?_ (fun _ => ?_))
theorem a2r.mono : ∀ a0 a1 a2 k,LeO (a2r.f k a0 a1 a2) (a2r.f (k + 1) a0 a1 a2) := by
 intro a0 a1 a2 k
 have a := a2r.a1h k
 unfold a2r.f
 with_reducible (repeat' first | apply a | apply LeO.refl | apply LeO.none | apply LeO.ite | refine LeO.bind ?_ (fun _ => ?_))
def a2w.l0 : Nat → List Int → Int → Int → Option (Bool)
 | 0,_,_,_ => none
 | k + 1,x0,x1,x5 => if x5 < (x0.length : Int) then (if 0 ≤ x5 then (if (rd x0 x5) = x1 then (some true) else (a2w.l0 k x0 x1 (wrap64 (x5 + 1)))) else (none)) else (some false)
def a2w.f (k : Nat) (l0 : List Int) (a1 : Int) : Option (Bool) := a2w.l0 k l0 a1 0
theorem a2w.a1h : ∀ k,(∀ y0 y1 y2,LeO (a2w.l0 k y0 y1 y2) (a2w.l0 (k + 1) y0 y1 y2))
 | 0 => fun _ _ _ r h => by simp [a2w.l0] at h
 | k + 1 => by
  have a := a2w.a1h k
  intro y0 y1 y2
  unfold a2w.l0
  with_reducible (repeat' first | apply a | apply LeO.refl | apply LeO.none | apply LeO.ite | refine LeO.bind ?_ (fun _ => ?_))
theorem a2w.mono : ∀ a0 a1 k,LeO (a2w.f k a0 a1) (a2w.f (k + 1) a0 a1) := by
 intro a0 a1 k
 have a := a2w.a1h k
 unfold a2w.f
 with_reducible (repeat' first | apply a | apply LeO.refl | apply LeO.none | apply LeO.ite | refine LeO.bind ?_ (fun _ => ?_))
def a3g.l0 : Nat → Int → Int → Int → Int → List Int → List Int → Int → Int → Int → List Int → List Int → Option (Bool)
 | 0,_,_,_,_,_,_,_,_,_,_,_ => none
 | k + 1,x5,v0,v1,v2,v3,v4,v5,v6,v7,v8,v9 => if x5 < (v4.length : Int) then (if 0 ≤ x5 then ((a2w.f k v9 (rd v4 x5)).bind fun a => (if a = true then (some true) else (a3g.l0 k (wrap64 (x5 + 1)) v0 v1 v2 v3 v4 v5 v6 v7 v8 v9))) else (none)) else (some false)
def a3g.f (k : Nat) (c a d : Int) (e g : List Int) (h b i : Int) (j l : List Int) : Option (Bool) := if a = b then (some true) else (a3g.l0 k 0 c a d e g h b i j l)
theorem a3g.a1h : ∀ k,(∀ y0 y1 y2 y3 y4 y5 y6 y7 y8 y9 a,LeO (a3g.l0 k y0 y1 y2 y3 y4 y5 y6 y7 y8 y9 a) (a3g.l0 (k + 1) y0 y1 y2 y3 y4 y5 y6 y7 y8 y9 a))
 | 0 => fun _ _ _ _ _ _ _ _ _ _ _ r h => by simp [a3g.l0] at h
 | k + 1 => by
  have b := a3g.a1h k
  intro y0 y1 y2 y3 y4 y5 y6 y7 y8 y9 a
  unfold a3g.l0
  with_reducible (repeat' first | apply b | apply a2w.mono | apply LeO.refl | apply LeO.none | apply LeO.ite | refine LeO.bind ?_ (fun _ => ?_))
theorem a3g.mono : ∀ a0 a1 a2 a3 a4 a5 a6 a7 a8 a9 k,LeO (a3g.f k a0 a1 a2 a3 a4 a5 a6 a7 a8 a9) (a3g.f (k + 1) a0 a1 a2 a3 a4 a5 a6 a7 a8 a9) := by
 intro a0 a1 a2 a3 a4 a5 a6 a7 a8 a9 k
 have a := a3g.a1h k
 unfold a3g.f
 with_reducible (repeat' first | apply a | apply a2w.mono | apply LeO.refl | apply LeO.none | apply LeO.ite | refine LeO.bind ?_ (fun _ => ?_))
end Go.Proofs.Ytheibjkjmkanoaa.Px
/- Contracts of Go functions, written by a program of this session's own (wip/tools/myprint.py) out of the translation: each Go function does what the Lean function of its name says. Conditions: as each theorem states. -/
namespace Go.Proofs.Ytheibjkjmkanoaa.Px
open Go.Proofs.Ytheibjkjmkanoaa.Given
open Go.RowKit Go.Proofs.YtheibjkjmkanoaaW.PrintWords Go.Proofs.YtheibjkjmkanoaaW.PrintLast Go.Proofs.YtheibjkjmkanoaaW.PrintMore
attribute [local go_sem] a3m a3n a3x a3y a3e a3f a3o a3p
set_option linter.unusedVariables false
set_option linter.unusedSimpArgs false
mutual
def a1p.l0 : Nat → List (S51) → Int → Int → Int → List (S42) → Int → Option (Bool)
 | 0,_,_,_,_,_,_ => none
 | k + 1,x0,x1,x2,x3,x4,a => if a < (x4.length : Int) then (if a = x1 then (a1p.j1 k x0 x1 x2 x3 x4 a false) else (if 0 ≤ a then (if ((a0b x4 a).f2) > 0 then (if ((a0b x4 a).f1) < x3 then (a1p.j1 k x0 x1 x2 x3 x4 a (decide (x2 < ((a0b x4 a).f2)))) else (a1p.j1 k x0 x1 x2 x3 x4 a false)) else (a1p.j1 k x0 x1 x2 x3 x4 a false)) else (none))) else (some false)
def a1p.j1 : Nat → List (S51) → Int → Int → Int → List (S42) → Int → Bool → Option (Bool)
 | 0,_,_,_,_,_,_,_ => none
 | k + 1,x0,x1,x2,x3,x4,a,c => if c = true then (if 0 ≤ x1 then (if x1 < (x0.length : Int) then (if 0 ≤ a then (if a < (x0.length : Int) then ((a3g.f k ((a0a x0 x1).f0) ((a0a x0 x1).f1) ((a0a x0 x1).f2) ((a0a x0 x1).f3) ((a0a x0 x1).f4) ((a0a x0 a).f0) ((a0a x0 a).f1) ((a0a x0 a).f2) ((a0a x0 a).f3) ((a0a x0 a).f4)).bind fun b => (if b = true then (some true) else (a1p.l0 k x0 x1 x2 x3 x4 (wrap64 (a + 1))))) else (none)) else (none)) else (none)) else (none)) else (a1p.l0 k x0 x1 x2 x3 x4 (wrap64 (a + 1)))
end
def a1p.f (k : Nat) (l0 : List (S51)) (a1 a2 a3 : Int) (l4 : List (S42)) : Option (Bool) := a1p.l0 k l0 a1 a2 a3 l4 0
theorem a1p.a1h : ∀ k,(∀ y0 y1 y2 y3 y4 y5,LeO (a1p.l0 k y0 y1 y2 y3 y4 y5) (a1p.l0 (k + 1) y0 y1 y2 y3 y4 y5)) ∧ (∀ y0 y1 y2 y3 y4 y5 y6,LeO (a1p.j1 k y0 y1 y2 y3 y4 y5 y6) (a1p.j1 (k + 1) y0 y1 y2 y3 y4 y5 y6))
 | 0 => ⟨fun _ _ _ _ _ _ r h => by simp [a1p.l0] at h,fun _ _ _ _ _ _ _ r h => by simp [a1p.j1] at h⟩
 | k + 1 => by
  obtain ⟨a,b⟩ := a1p.a1h k
  refine ⟨?_,?_⟩ <;> intros <;> (first | unfold a1p.l0 | unfold a1p.j1) <;> with_reducible (repeat' first | apply a | apply b | apply a3g.mono | apply LeO.refl | apply LeO.none | apply LeO.ite | refine LeO.bind ?_ (fun _ => ?_))
theorem a1p.mono : ∀ a0 a1 a2 a3 a4 k,LeO (a1p.f k a0 a1 a2 a3 a4) (a1p.f (k + 1) a0 a1 a2 a3 a4) := by
 intro a0 a1 a2 a3 a4 k
 obtain ⟨a,b⟩ := a1p.a1h k
 unfold a1p.f
 with_reducible (repeat' first | apply a | apply b | apply a3g.mono | apply LeO.refl | apply LeO.none | apply LeO.ite | refine LeO.bind ?_ (fun _ => ?_))
end Go.Proofs.Ytheibjkjmkanoaa.Px
/- Contracts of Go functions, written by a program of this session's own (wip/tools/myprint.py) out of the translation: each Go function does what the Lean function of its name says. Conditions: as each theorem states. -/
namespace Go.Proofs.Ytheibjkjmkanoaa.Px
open Go.Proofs.Ytheibjkjmkanoaa.Given
open Go.RowKit Go.Proofs.YtheibjkjmkanoaaW.PrintWords Go.Proofs.YtheibjkjmkanoaaW.PrintLast Go.Proofs.YtheibjkjmkanoaaW.PrintMore
attribute [local go_sem] a3m a3n a3x a3y a3e a3f a3o a3p
set_option linter.unusedVariables false
set_option linter.unusedSimpArgs false
mutual
def a2k.l0 : Nat → List (S51) → List (S58) → Int → List (S42) → Int → Int → Int → Int → Int → List Int → List Int → Option (Int × Int × Int × Int)
 | 0,_,_,_,_,_,_,_,_,_,_,_ => none
 | k + 1,x0,x1,x2,x4,g,b,h,d,i,c,j => if b < (c.length : Int) then (if 0 ≤ b then ((a1b.f k x0 x2 (rd c b)).bind fun a => (if 0 ≤ a then (if a < (x4.length : Int) then (a2k.l0 k x0 x1 x2 x4 (mx g ((a0b x4 a).f2)) (wrap64 (b + 1)) h d i c j) else (none)) else (none))) else (none)) else ((a1k.f k x1 d).bind fun e => (a2k.l1 k x0 x2 x4 e.1 g h d i c j))
def a2k.l1 : Nat → List (S51) → Int → List (S42) → List (S56) → Int → Int → Int → Int → List Int → List Int → Option (Int × Int × Int × Int)
 | 0,_,_,_,_,_,_,_,_,_,_ => none
 | k + 1,x0,x2,x4,c,a,d,e,b,g,h => if (wrap64 (a + b)) ≤ 36525 then ((a2r.f k c a (wrap64 (a + b))).bind fun i => (if i = true then ((a1p.f k x0 x2 a (wrap64 (a + b)) x4).bind fun j => (if j = true then (a2k.l1 k x0 x2 x4 c (wrap64 (a + 1)) d e b g h) else (some (d,a,wrap64 (a + b),0)))) else (a2k.l1 k x0 x2 x4 c (wrap64 (a + 1)) d e b g h))) else (some (0,0,0,20))
end
def a2k.f (k : Nat) (l0 : List (S51)) (l1 : List (S58)) (a2 a3 : Int) (l4 : List (S42)) : Option (Int × Int × Int × Int) := if 0 ≤ a2 then (if a2 < (l0.length : Int) then (a2k.l0 k l0 l1 a2 l4 a3 0 ((a0a l0 a2).f0) ((a0a l0 a2).f1) ((a0a l0 a2).f2) ((a0a l0 a2).f3) ((a0a l0 a2).f4)) else (none)) else (none)
theorem a2k.a1h : ∀ k,(∀ y0 y1 y2 y3 y4 y5 y6 y7 y8 y9 a,LeO (a2k.l0 k y0 y1 y2 y3 y4 y5 y6 y7 y8 y9 a) (a2k.l0 (k + 1) y0 y1 y2 y3 y4 y5 y6 y7 y8 y9 a)) ∧ (∀ y0 y1 y2 y3 y4 y5 y6 y7 y8 y9,LeO (a2k.l1 k y0 y1 y2 y3 y4 y5 y6 y7 y8 y9) (a2k.l1 (k + 1) y0 y1 y2 y3 y4 y5 y6 y7 y8 y9))
 | 0 => ⟨fun _ _ _ _ _ _ _ _ _ _ _ r h => by simp [a2k.l0] at h,fun _ _ _ _ _ _ _ _ _ _ r h => by simp [a2k.l1] at h⟩
 | k + 1 => by
  obtain ⟨b,c⟩ := a2k.a1h k
  refine ⟨?_,?_⟩ <;> intros <;> (first | unfold a2k.l0 | unfold a2k.l1) <;> with_reducible (repeat' first | apply b | apply c | apply a1b.mono | apply a1p.mono | apply a1k.mono | apply a2r.mono | apply LeO.refl | apply LeO.none | apply LeO.ite | refine LeO.bind ?_ (fun _ => ?_))
theorem a2k.mono : ∀ a0 a1 a2 a3 a4 k,LeO (a2k.f k a0 a1 a2 a3 a4) (a2k.f (k + 1) a0 a1 a2 a3 a4) := by
 intro a0 a1 a2 a3 a4 k
 obtain ⟨a,b⟩ := a2k.a1h k
 unfold a2k.f
 with_reducible (repeat' first | apply a | apply b | apply a1b.mono | apply a1p.mono | apply a1k.mono | apply a2r.mono | apply LeO.refl | apply LeO.none | apply LeO.ite | refine LeO.bind ?_ (fun _ => ?_))
end Go.Proofs.Ytheibjkjmkanoaa.Px
/- Contracts of Go functions, written by a program of this session's own (wip/tools/myprint.py) out of the translation: each Go function does what the Lean function of its name says. Conditions: as each theorem states. -/
namespace Go.Proofs.Ytheibjkjmkanoaa.Px
open Go.Proofs.Ytheibjkjmkanoaa.Given
open Go.RowKit Go.Proofs.YtheibjkjmkanoaaW.PrintWords Go.Proofs.YtheibjkjmkanoaaW.PrintLast Go.Proofs.YtheibjkjmkanoaaW.PrintMore
attribute [local go_sem] a3m a3n a3x a3y a3e a3f a3o a3p
set_option linter.unusedVariables false
set_option linter.unusedSimpArgs false
mutual
def a2c.l0 : Nat → List (S51) → List (S58) → Int → List (S42) → List (S42) → Int → Option ((List (S42)) × Int)
 | 0,_,_,_,_,_,_ => none
 | k + 1,x0,x1,x2,x3,b,a => if a < (x0.length : Int) then (if 0 ≤ a then (if a < (x3.length : Int) then (if a < (b.length : Int) then (a2c.l0 k x0 x1 x2 x3 (b.set (a : Int).toNat (⟨(a0b x3 a).f0,(a0b x3 a).f1,(a0b x3 a).f2⟩ : S42)) (wrap64 (a + 1))) else (none)) else (none)) else (none)) else (a2c.l1 k x0 x1 x2 b 0)
def a2c.l1 : Nat → List (S51) → List (S58) → Int → List (S42) → Int → Option ((List (S42)) × Int)
 | 0,_,_,_,_,_ => none
 | k + 1,x0,x1,x2,c,b => if b < (x0.length : Int) then (if 0 ≤ b then (if b < (c.length : Int) then (if ((a0b c b).f2) > 0 then (a2c.l1 k x0 x1 x2 c (wrap64 (b + 1))) else ((a2k.f k x0 x1 b x2 c).bind fun a => (if a.2.2.2 = 0 then (a2c.l1 k x0 x1 x2 (c.set (b : Int).toNat (⟨a.1,a.2.1,a.2.2.1⟩ : S42)) (wrap64 (b + 1))) else (some (([] : List (S42)),a.2.2.2))))) else (none)) else (none)) else (some (c,0))
end
def a2c.f (k : Nat) (l0 : List (S51)) (l1 : List (S58)) (a2 : Int) (l3 : List (S42)) : Option ((List (S42)) × Int) := if 0 ≤ (l0.length : Int) then (if ((l0.length : Int) : Int).toNat ≤ 11728124029610 then (a2c.l0 k l0 l1 a2 l3 (List.replicate ((l0.length : Int) : Int).toNat z42) 0) else (none)) else (none)
theorem a2c.a1h : ∀ k,(∀ y0 y1 y2 y3 y4 y5,LeO (a2c.l0 k y0 y1 y2 y3 y4 y5) (a2c.l0 (k + 1) y0 y1 y2 y3 y4 y5)) ∧ (∀ y0 y1 y2 y3 y4,LeO (a2c.l1 k y0 y1 y2 y3 y4) (a2c.l1 (k + 1) y0 y1 y2 y3 y4))
 | 0 => ⟨fun _ _ _ _ _ _ r h => by simp [a2c.l0] at h,fun _ _ _ _ _ r h => by simp [a2c.l1] at h⟩
 | k + 1 => by
  obtain ⟨a,b⟩ := a2c.a1h k
  refine ⟨?_,?_⟩ <;> intros <;> (first | unfold a2c.l0 | unfold a2c.l1) <;> with_reducible (repeat' first | apply a | apply b | apply a2k.mono | apply LeO.refl | apply LeO.none | apply LeO.ite | refine LeO.bind ?_ (fun _ => ?_))
theorem a2c.mono : ∀ a0 a1 a2 a3 k,LeO (a2c.f k a0 a1 a2 a3) (a2c.f (k + 1) a0 a1 a2 a3) := by
 intro a0 a1 a2 a3 k
 obtain ⟨a,b⟩ := a2c.a1h k
 unfold a2c.f
 with_reducible (repeat' first | apply a | apply b | apply a2k.mono | apply LeO.refl | apply LeO.none | apply LeO.ite | refine LeO.bind ?_ (fun _ => ?_))
def a3b.j0 : Nat → List (S51) → List (S58) → Int → Bool → Option ((List (S42)) × Int)
 | 0,_,_,_,_ => none
 | k + 1,x0,x1,x2,b => if b = true then (some (([] : List (S42)),1)) else (if 0 ≤ (x0.length : Int) then (if ((x0.length : Int) : Int).toNat ≤ 11728124029610 then ((a2c.f k x0 x1 x2 (List.replicate ((x0.length : Int) : Int).toNat z42)).bind fun a => (some (a.1,a.2))) else (none)) else (none))
def a3b.f (k : Nat) (l0 : List (S51)) (l1 : List (S58)) (a2 : Int) : Option ((List (S42)) × Int) := (a0c.f k l0 l1).bind fun a => (if a = true then (if a2 < 0 then (a3b.j0 k l0 l1 a2 true) else (a3b.j0 k l0 l1 a2 (decide (a2 > 36524)))) else (a3b.j0 k l0 l1 a2 true))
theorem a3b.a1h : ∀ k,(∀ y0 y1 y2 y3,LeO (a3b.j0 k y0 y1 y2 y3) (a3b.j0 (k + 1) y0 y1 y2 y3))
 | 0 => fun _ _ _ _ r h => by simp [a3b.j0] at h
 | k + 1 => by
  have a := a3b.a1h k
  intro y0 y1 y2 y3
  unfold a3b.j0
  with_reducible (repeat' first | apply a | apply a0c.mono | apply a2c.mono | apply LeO.refl | apply LeO.none | apply LeO.ite | refine LeO.bind ?_ (fun _ => ?_))
theorem a3b.mono : ∀ a0 a1 a2 k,LeO (a3b.f k a0 a1 a2) (a3b.f (k + 1) a0 a1 a2) := by
 intro a0 a1 a2 k
 have a := a3b.a1h k
 unfold a3b.f
 with_reducible (repeat' first | apply a | apply a0c.mono | apply a2c.mono | apply LeO.refl | apply LeO.none | apply LeO.ite | refine LeO.bind ?_ (fun _ => ?_))
def a2t.l0 : Nat → List (S51) → List (S42) → Int → Option (Bool)
 | 0,_,_,_ => none
 | k + 1,x0,x1,x5 => if x5 < (x1.length : Int) then (if 0 ≤ x5 then (if x5 < (x0.length : Int) then (if ((a0b x1 x5).f0) = ((a0a x0 x5).f0) then (a2t.l0 k x0 x1 (wrap64 (x5 + 1))) else (some false)) else (none)) else (none)) else (some true)
def a2t.f (k : Nat) (l0 : List (S51)) (l1 : List (S42)) : Option (Bool) := if (l1.length : Int) = (l0.length : Int) then (a2t.l0 k l0 l1 0) else (some false)
theorem a2t.a1h : ∀ k,(∀ y0 y1 y2,LeO (a2t.l0 k y0 y1 y2) (a2t.l0 (k + 1) y0 y1 y2))
 | 0 => fun _ _ _ r h => by simp [a2t.l0] at h
 | k + 1 => by
  have a := a2t.a1h k
  intro y0 y1 y2
  unfold a2t.l0
  with_reducible (repeat' first | apply a | apply LeO.refl | apply LeO.none | apply LeO.ite | refine LeO.bind ?_ (fun _ => ?_))
theorem a2t.mono : ∀ a0 a1 k,LeO (a2t.f k a0 a1) (a2t.f (k + 1) a0 a1) := by
 intro a0 a1 k
 have a := a2t.a1h k
 unfold a2t.f
 with_reducible (repeat' first | apply a | apply LeO.refl | apply LeO.none | apply LeO.ite | refine LeO.bind ?_ (fun _ => ?_))
end Go.Proofs.Ytheibjkjmkanoaa.Px
/- Contracts of Go functions, written by a program of this session's own (wip/tools/myprint.py) out of the translation: each Go function does what the Lean function of its name says. Conditions: as each theorem states. -/
namespace Go.Proofs.Ytheibjkjmkanoaa.Px
open Go.Proofs.Ytheibjkjmkanoaa.Given
open Go.RowKit Go.Proofs.YtheibjkjmkanoaaW.PrintWords Go.Proofs.YtheibjkjmkanoaaW.PrintLast Go.Proofs.YtheibjkjmkanoaaW.PrintMore
attribute [local go_sem] a3m a3n a3x a3y a3e a3f a3o a3p
set_option linter.unusedVariables false
set_option linter.unusedSimpArgs false
mutual
def a1a.j0 : Nat → List (S51) → List (S58) → List (S42) → Bool → Option (Int)
 | 0,_,_,_,_ => none
 | k + 1,x0,x1,x2,a => if a = true then (some 1) else (a1a.l0 k x0 x1 x2 0)
def a1a.l0 : Nat → List (S51) → List (S58) → List (S42) → Int → Option (Int)
 | 0,_,_,_,_ => none
 | k + 1,x0,x1,x2,x9 => if x9 < (x2.length : Int) then (if 0 ≤ x9 then (if x9 < (x0.length : Int) then (if ((a0b x2 x9).f1) < 0 then (a1a.j2 k x0 x1 x2 x9 true ((a0a x0 x9).f0) ((a0a x0 x9).f1) ((a0a x0 x9).f2) ((a0a x0 x9).f3) ((a0a x0 x9).f4) ((a0b x2 x9).f0) ((a0b x2 x9).f1) ((a0b x2 x9).f2)) else (if ((a0b x2 x9).f1) > 36524 then (a1a.j2 k x0 x1 x2 x9 true ((a0a x0 x9).f0) ((a0a x0 x9).f1) ((a0a x0 x9).f2) ((a0a x0 x9).f3) ((a0a x0 x9).f4) ((a0b x2 x9).f0) ((a0b x2 x9).f1) ((a0b x2 x9).f2)) else (a1a.j2 k x0 x1 x2 x9 (((a0b x2 x9).f2) != (wrap64 (((a0b x2 x9).f1) + ((a0a x0 x9).f2)))) ((a0a x0 x9).f0) ((a0a x0 x9).f1) ((a0a x0 x9).f2) ((a0a x0 x9).f3) ((a0a x0 x9).f4) ((a0b x2 x9).f0) ((a0b x2 x9).f1) ((a0b x2 x9).f2)))) else (none)) else (none)) else (some 0)
def a1a.j2 : Nat → List (S51) → List (S58) → List (S42) → Int → Bool → Int → Int → Int → List Int → List Int → Int → Int → Int → Option (Int)
 | 0,_,_,_,_,_,_,_,_,_,_,_,_,_ => none
 | k + 1,x0,x1,x2,x9,g,h,b,i,j,l,m,c,d => if g = true then (some 3) else ((a1k.f k x1 b).bind fun a => ((a2r.f k a.1 c d).bind fun e => (if e = true then (a1a.l1 k x0 x1 x2 x9 0 h b i j l m c d) else (some 6))))
def a1a.l1 : Nat → List (S51) → List (S58) → List (S42) → Int → Int → Int → Int → Int → List Int → List Int → Int → Int → Int → Option (Int)
 | 0,_,_,_,_,_,_,_,_,_,_,_,_,_ => none
 | k + 1,x0,x1,x2,x9,b,h,i,j,c,l,m,d,e => if b < (c.length : Int) then (if 0 ≤ b then ((a1b.f k x0 x9 (rd c b)).bind fun a => (if 0 ≤ a then (if a < (x2.length : Int) then (if d < ((a0b x2 a).f2) then (some 21) else (a1a.l1 k x0 x1 x2 x9 (wrap64 (b + 1)) h i j c l m d e)) else (none)) else (none))) else (none)) else (if 0 ≤ x9 then (if x9 ≤ (x2.length : Int) then ((a1p.f k x0 x9 d e (x2.take (x9 : Int).toNat)).bind fun g => (if g = true then (some 22) else (a1a.l0 k x0 x1 x2 (wrap64 (x9 + 1))))) else (none)) else (none))
end
def a1a.f (k : Nat) (l0 : List (S51)) (l1 : List (S58)) (l2 : List (S42)) : Option (Int) := (a0c.f k l0 l1).bind fun a => ((a2t.f k l0 l2).bind fun b => (if a = true then (a1a.j0 k l0 l1 l2 (!b)) else (a1a.j0 k l0 l1 l2 true)))
theorem a1a.a1h : ∀ k,(∀ y0 y1 y2 y3,LeO (a1a.j0 k y0 y1 y2 y3) (a1a.j0 (k + 1) y0 y1 y2 y3)) ∧ (∀ y0 y1 y2 y3,LeO (a1a.l0 k y0 y1 y2 y3) (a1a.l0 (k + 1) y0 y1 y2 y3)) ∧ (∀ y0 y1 y2 y3 y4 y5 y6 y7 y8 y9 a b c,LeO (a1a.j2 k y0 y1 y2 y3 y4 y5 y6 y7 y8 y9 a b c) (a1a.j2 (k + 1) y0 y1 y2 y3 y4 y5 y6 y7 y8 y9 a b c)) ∧ (∀ y0 y1 y2 y3 y4 y5 y6 y7 y8 y9 a b c,LeO (a1a.l1 k y0 y1 y2 y3 y4 y5 y6 y7 y8 y9 a b c) (a1a.l1 (k + 1) y0 y1 y2 y3 y4 y5 y6 y7 y8 y9 a b c))
 | 0 => ⟨fun _ _ _ _ r h => by simp [a1a.j0] at h,fun _ _ _ _ r h => by simp [a1a.l0] at h,fun _ _ _ _ _ _ _ _ _ _ _ _ _ r h => by simp [a1a.j2] at h,fun _ _ _ _ _ _ _ _ _ _ _ _ _ r h => by simp [a1a.l1] at h⟩
 | k + 1 => by
  obtain ⟨d,e,g,i⟩ := a1a.a1h k
  refine ⟨?_,?_,?_,?_⟩ <;> intros <;> (first | unfold a1a.j0 | unfold a1a.l0 | unfold a1a.j2 | unfold a1a.l1) <;> with_reducible (repeat' first | apply d | apply e | apply g | apply i | apply a1b.mono | apply a0c.mono | apply a1p.mono | apply a1k.mono | apply a2t.mono | apply a2r.mono | apply LeO.refl | apply LeO.none | apply LeO.ite | refine LeO.bind ?_ (fun _ => ?_))
theorem a1a.mono : ∀ a0 a1 a2 k,LeO (a1a.f k a0 a1 a2) (a1a.f (k + 1) a0 a1 a2) := by
 intro a0 a1 a2 k
 obtain ⟨a,b,c,d⟩ := a1a.a1h k
 unfold a1a.f
 with_reducible (repeat' first | apply a | apply b | apply c | apply d | apply a1b.mono | apply a0c.mono | apply a1p.mono | apply a1k.mono | apply a2t.mono | apply a2r.mono | apply LeO.refl | apply LeO.none | apply LeO.ite | refine LeO.bind ?_ (fun _ => ?_))
end Go.Proofs.Ytheibjkjmkanoaa.Px
