/- Contracts of Go functions, printed. Conditions: as each theorem states. -/
import Derived.Test.YtemnlgefngjliaaPx0
import Derived.Test.YtemnlgefngjliaaGFlaws
import Derived.Test.YtemnlgefngjliaaMtD
import Derived.Test.YtemnlgefngjliaaPx31
import Derived.Test.YtemnlgefngjliaaPx17
import Derived.Test.YtemnlgefngjliaaPx19
import Derived.Test.YtemnlgefngjliaaPx21
import Derived.Test.YtemnlgefngjliaaPx1
namespace Go.Proofs.Ytemnlgefngjliaa.Px
open Go.Proofs.Ytemnlgefngjliaa.Given
open Go.RowKit Go.Proofs.YtemnlgefngjliaaW.PrintWords Go.Proofs.YtemnlgefngjliaaW.PrintLast Go.Proofs.YtemnlgefngjliaaW.PrintMore
attribute [local go_sem] a2l a2m a2w a2x a2e a2f a2n a2o
set_option linter.unusedVariables false
set_option linter.unusedSimpArgs false
def a5k.l0 : Nat → Int → Int → List Int → Int → Int → Option (Bool × Bool)
 | 0, _, _, _, _, _ => none
 | k + 1, x4, x13, x24, x25, x26 => if x26 < x25 then (if 0 ≤ x26 then (if x26 < (x24.length : Int) then (if (rd x24 x26) = x4 then (some (true, (x13 == 0))) else (a5k.l0 k x4 x13 x24 x25 (wrap64 (x26 + 1)))) else (none)) else (none)) else (some (false, (x13 == 0)))
def a5k.f (k : Nat) (a0_0 a0_1 a0_2 a0_3 : Int) (a0_4 : Bool) (a1_0 a1_1 a1_2 : Int) (l1_3 : List ByteArray) (l1_4 : List (S43)) (l1_5 : List Int) (a2 : ByteArray) (l3 : List Int) (a4 : Int) : Option (Bool × Bool) := (a3f.f k a0_0 a0_1 a0_2 a0_3 a0_4 a1_0 a1_1 a1_2 l1_3 l1_4 l1_5 a2 l3).bind fun bt584 => (a5k.l0 k a4 bt584.2 bt584.1 (bt584.1.length : Int) 0)
theorem a5k.a0x : ∀ k, (∀ y0 y1 y2 y3 y4, LeO (a5k.l0 k y0 y1 y2 y3 y4) (a5k.l0 (k + 1) y0 y1 y2 y3 y4))
 | 0 => fun _ _ _ _ _ r h => by simp [a5k.l0] at h
 | k + 1 => by
  have ih0 := a5k.a0x k
  ·intro y0 y1 y2 y3 y4
   unfold a5k.l0
   with_reducible (repeat' first | apply ih0 | apply a3f.mono | apply LeO.refl | apply LeO.none | apply LeO.ite | refine LeO.bind ?_ (fun _ => ?_))
theorem a5k.mono : ∀ a0 a1 a2 a3 a4 a5 a6 a7 a8 a9 a10 a11 a12 a13 k, LeO (a5k.f k a0 a1 a2 a3 a4 a5 a6 a7 a8 a9 a10 a11 a12 a13) (a5k.f (k + 1) a0 a1 a2 a3 a4 a5 a6 a7 a8 a9 a10 a11 a12 a13) := by
 intro a0 a1 a2 a3 a4 a5 a6 a7 a8 a9 a10 a11 a12 a13 k
 have ih0 := a5k.a0x k
 unfold a5k.f
 with_reducible (repeat' first | apply ih0 | apply a3f.mono | apply LeO.refl | apply LeO.none | apply LeO.ite | refine LeO.bind ?_ (fun _ => ?_))
end Go.Proofs.Ytemnlgefngjliaa.Px
/- What the laws' own small functions about meetings say: usable, flaw. Conditions: as each theorem states. -/
namespace Go.Proofs.Ytemnlgefngjliaa.Meet
open Go.RowKit Go.Proofs.YtemnlgefngjliaaW.PrintWords Go.Proofs.Ytemnlgefngjliaa.Given Go.Proofs.Ytemnlgefngjliaa.Px
open Go.Proofs.Ytemnlgefngjliaa.Cal
set_option linter.unusedVariables false
set_option linter.unusedSimpArgs false
theorem a7z (l : List Int) (i : Int) (h0 : 0 ≤ i) (h1 : i < l.length) : l.drop i.toNat = rd l i :: l.drop (i + 1).toNat := a7i 0 l i h0 h1
section
variable (t0 t1 t2 t3 : Int) (t4 : Bool) (m0 m1 m2 : Int) (ag : List ByteArray) (vs : List S43) (here : List Int) (act : ByteArray) (hol : List Int)
theorem b4f (hp : -9223372036854775808 ≤ t1) (hp2 : t1 ≤ 9223372036854775807) (hq2 : t2 ≤ 9223372036854775807) :
    ∃ r, (r = true → (Small ag ∧ ag.length ≤ 30 ∧ vs.length ≤ 70 ∧ here.length ≤ 70) ∧ a6c t0 t1 t2 t3 = true ∧ a5q m0 m1 m2 ag vs here = true) ∧ Ev (fun k => a2v.f k t0 t1 t2 t3 t4 m0 m1 m2 ag vs here) r := by
  obtain ⟨r, hr, K, hK⟩ := b6x m0 m1 m2 ag vs here
  obtain ⟨K2, hK2⟩ := b3y (n := t0) (x := t3) t4 hp hp2 hq2
  dsimp only at hK hK2
  cases r with
  | false =>
    refine ⟨false, fun h => by simp at h, K, fun k hk => ?_⟩
    show a2v.f k t0 t1 t2 t3 t4 m0 m1 m2 ag vs here = _
    unfold a2v.f
    rw [hK k hk, Option.bind_some, if_neg (by simp)]
  | true =>
    have q := hr rfl
    obtain ⟨K3, hK3⟩ := b4a m0 m1 m2 ag vs here (by omega) (by omega) (by omega)
    dsimp only at hK3
    refine ⟨a6c t0 t1 t2 t3 && a5q m0 m1 m2 ag vs here, fun h => ?_, K + K2 + K3, fun k hk => ?_⟩
    · rw [Bool.and_eq_true] at h
      exact ⟨q, h⟩
    · show a2v.f k t0 t1 t2 t3 t4 m0 m1 m2 ag vs here = _
      unfold a2v.f
      rw [hK k (by omega), Option.bind_some, if_pos rfl, hK2 k (by omega), Option.bind_some]
      cases a6c t0 t1 t2 t3 with
      | false => rw [if_neg (by simp)]; rfl
      | true => rw [if_pos rfl, hK3 k (by omega), Option.bind_some]; rfl
end
end Go.Proofs.Ytemnlgefngjliaa.Meet
/- Contracts of Go functions, written by a program of this session's own (wip/tools/myprint.py) out of the translation: each Go function does what the Lean function of its name says. Conditions: as each theorem states. -/
namespace Go.Proofs.Ytemnlgefngjliaa.Px
open Go.Proofs.Ytemnlgefngjliaa.Given
open Go.RowKit Go.Proofs.YtemnlgefngjliaaW.PrintWords Go.Proofs.YtemnlgefngjliaaW.PrintLast Go.Proofs.YtemnlgefngjliaaW.PrintMore
attribute [local go_sem] a2l a2m a2w a2x a2e a2f a2n a2o
set_option linter.unusedVariables false
set_option linter.unusedSimpArgs false
mutual
def a3d.j0 : Nat → Bool → Int → Int → Int → Int → Bool → Int → Int → Int → List ByteArray → List (S43) → List Int → Option (List Int × Int)
 | 0, _, _, _, _, _, _, _, _, _, _, _, _ => none
 | k + 1, x16, v0, v1, v2, v3, v4, v5, v6, v7, v8, v9, v10 => if x16 = true then (some (([] : List Int), 1)) else (if 0 ≤ (v9.length : Int) then (if ((v9.length : Int) : Int).toNat ≤ 35184372088832 then (a3d.l0 k (List.replicate ((v9.length : Int) : Int).toNat 0) 0 v0 v1 v2 v3 v4 v5 v6 v7 v8 v9 v10) else (none)) else (none))
def a3d.l0 : Nat → List Int → Int → Int → Int → Int → Int → Bool → Int → Int → Int → List ByteArray → List (S43) → List Int → Option (List Int × Int)
 | 0, _, _, _, _, _, _, _, _, _, _, _, _, _ => none
 | k + 1, x6, x7, v0, v1, v2, v3, v4, v5, v6, v7, v8, v9, v10 => if x7 < (v9.length : Int) then (if 0 ≤ x7 then ((a4v.f k v5 v6 v7 v8 v9 v10 ((a0a v9 x7).f0) ((a0a v9 x7).f1) ((a0a v9 x7).f2)).bind fun t406 => ((a1v.f k v9 t406).bind fun t407 => (if t407 ≥ 0 then (if 0 ≤ t407 then (if t407 < (x6.length : Int) then ((b7l.f v0 v1 v2 v3 v4 ((a0a v9 x7).f0) ((a0a v9 x7).f1) ((a0a v9 x7).f2)).bind fun t410 => (a3d.l0 k (x6.set (t407 : Int).toNat (wrap64 ((rd x6 t407) + t410))) (wrap64 (x7 + 1)) v0 v1 v2 v3 v4 v5 v6 v7 v8 v9 v10)) else (none)) else (none)) else (a3d.l0 k x6 (wrap64 (x7 + 1)) v0 v1 v2 v3 v4 v5 v6 v7 v8 v9 v10)))) else (none)) else (some (x6, 0))
end
def a3d.f (k : Nat) (a0_0 a0_1 a0_2 a0_3 : Int) (a0_4 : Bool) (a1_0 a1_1 a1_2 : Int) (l1_3 : List ByteArray) (l1_4 : List (S43)) (l1_5 : List Int) : Option (List Int × Int) := (a3i.f k a0_0 a0_1 a0_2 a0_3 a0_4).bind fun t400 => (if t400 = true then ((a0n.f k a1_0 a1_1 a1_2 l1_3 l1_4 l1_5).bind fun t401 => (a3d.j0 k (!t401) a0_0 a0_1 a0_2 a0_3 a0_4 a1_0 a1_1 a1_2 l1_3 l1_4 l1_5)) else (a3d.j0 k true a0_0 a0_1 a0_2 a0_3 a0_4 a1_0 a1_1 a1_2 l1_3 l1_4 l1_5))
theorem a3d.a0x : ∀ k, (∀ y0 y1 y2 y3 y4 y5 y6 y7 y8 y9 y10 y11, LeO (a3d.j0 k y0 y1 y2 y3 y4 y5 y6 y7 y8 y9 y10 y11) (a3d.j0 (k + 1) y0 y1 y2 y3 y4 y5 y6 y7 y8 y9 y10 y11)) ∧ (∀ y0 y1 y2 y3 y4 y5 y6 y7 y8 y9 y10 y11 y12, LeO (a3d.l0 k y0 y1 y2 y3 y4 y5 y6 y7 y8 y9 y10 y11 y12) (a3d.l0 (k + 1) y0 y1 y2 y3 y4 y5 y6 y7 y8 y9 y10 y11 y12))
 | 0 => ⟨fun _ _ _ _ _ _ _ _ _ _ _ _ r h => by simp [a3d.j0] at h, fun _ _ _ _ _ _ _ _ _ _ _ _ _ r h => by simp [a3d.l0] at h⟩
 | k + 1 => by
  obtain ⟨ih0, ih1⟩ := a3d.a0x k
  refine ⟨?_, ?_⟩
  ·intro y0 y1 y2 y3 y4 y5 y6 y7 y8 y9 y10 y11
   unfold a3d.j0
   with_reducible (repeat' first | apply ih0 | apply ih1 | apply a3i.mono | apply a0n.mono | apply a4v.mono | apply a1v.mono | apply LeO.refl | apply LeO.none | apply LeO.ite | refine LeO.bind ?_ (fun _ => ?_))
  ·intro y0 y1 y2 y3 y4 y5 y6 y7 y8 y9 y10 y11 y12
   unfold a3d.l0
   with_reducible (repeat' first | apply ih0 | apply ih1 | apply a3i.mono | apply a0n.mono | apply a4v.mono | apply a1v.mono | apply LeO.refl | apply LeO.none | apply LeO.ite | refine LeO.bind ?_ (fun _ => ?_))
theorem a3d.mono : ∀ a0 a1 a2 a3 a4 a5 a6 a7 a8 a9 a10 k, LeO (a3d.f k a0 a1 a2 a3 a4 a5 a6 a7 a8 a9 a10) (a3d.f (k + 1) a0 a1 a2 a3 a4 a5 a6 a7 a8 a9 a10) := by
 intro a0 a1 a2 a3 a4 a5 a6 a7 a8 a9 a10 k
 obtain ⟨ih0, ih1⟩ := a3d.a0x k
 unfold a3d.f
 with_reducible (repeat' first | apply ih0 | apply ih1 | apply a3i.mono | apply a0n.mono | apply a4v.mono | apply a1v.mono | apply LeO.refl | apply LeO.none | apply LeO.ite | refine LeO.bind ?_ (fun _ => ?_))
end Go.Proofs.Ytemnlgefngjliaa.Px
