/- What the laws' own small functions about meetings say: usable, flaw. Conditions: as each theorem states. -/
import Derived.Test.YtemnlgefngjliaaMtD
import Derived.Test.YtemnlgefngjliaaPx35
import Derived.Test.YtemnlgefngjliaaPx31
import Derived.Test.YtemnlgefngjliaaPx0
import Derived.Test.YtemnlgefngjliaaPx17
import Derived.Test.YtemnlgefngjliaaPx19
import Derived.Test.YtemnlgefngjliaaPx21
import Derived.Test.YtemnlgefngjliaaPx22
namespace Go.Proofs.Ytemnlgefngjliaa.Meet
open Go.RowKit Go.Proofs.YtemnlgefngjliaaW.PrintWords Go.Proofs.Ytemnlgefngjliaa.Given Go.Proofs.Ytemnlgefngjliaa.Px
open Go.Proofs.Ytemnlgefngjliaa.Cal
set_option linter.unusedVariables false
set_option linter.unusedSimpArgs false
theorem a6s (l : List Int) (i : Int) (h0 : 0 ≤ i) (h1 : i < l.length) : l.drop i.toNat = rd l i :: l.drop (i + 1).toNat := a7h 0 l i h0 h1
theorem b7a (l : List Int) (hl : l.length ≤ 1000000) (x e : Int) : ∀ (n : Nat) (i : Int), 0 ≤ i → i + n = l.length →
    Ev (fun k => a2k.l0 k x e l (l.length : Int) i) (decide (x ∈ l.drop i.toNat), (e == 0)) := by
  intro n
  induction n with
  | zero =>
    intro i h0 hi
    refine evUp 0 fun k _ => ?_
    rw [a2k.l0, if_neg (by omega), List.drop_eq_nil_of_le (by omega)]
    simp
  | succ n ih =>
    intro i h0 hi
    obtain ⟨K, hK⟩ := ih (i + 1) (by omega) (by omega)
    dsimp only at hK
    refine evUp K fun k hk => ?_
    rw [a2k.l0, if_pos (by omega), if_pos h0, if_pos (by omega), a6s l i h0 (by omega)]
    by_cases c : rd l i = x
    · rw [if_pos c, decide_eq_true (by rw [c]; exact List.mem_cons_self)]
    · rw [if_neg c, w64 (by omega) (by omega), hK k hk]
      congr 2
      rw [decide_eq_decide, List.mem_cons]
      constructor
      · exact .inr
      · rintro (h | h)
        · exact absurd h.symm c
        · exact h
theorem a7i (b : Bool) (n : Int) : (a3j b n).length ≤ 1 := by
  unfold a3j
  split <;> simp
section
variable (t0 t1 t2 t3 : Int) (t4 : Bool) (m0 m1 m2 : Int) (ag : List ByteArray) (vs : List S43) (here : List Int) (act : ByteArray) (hol : List Int)
theorem b2m : (a5p t0 t1 t2 t3 m0 m1 m2 ag vs here act hol).1.length ≤ 4 := by
  unfold a5p
  split
  · simp only [List.length_append]
    have h1 := a7i (a8w t0 m0 m1 m2 hol) 1
    have h2 := a7i (!hasB ag act) 2
    have h3 := a7i (fewB t1 t2 vs here) 3
    have h4 := a7i (a6d t3 (wgt (fun _ => 1) vs here)) 4
    omega
  · simp
theorem b7b (hs : Small ag) (ha : ag.length ≤ 1000000) (hl : vs.length ≤ 1000000) (hh : here.length ≤ 1000000) (hd : hol.length ≤ 1000000) (hc : act.size ≤ 1000000) (x : Int) :
    Ev (fun k => a2k.f k t0 t1 t2 t3 t4 m0 m1 m2 ag vs here act hol x) (decide (x ∈ (a5p t0 t1 t2 t3 m0 m1 m2 ag vs here act hol).1), ((a5p t0 t1 t2 t3 m0 m1 m2 ag vs here act hol).2 == 0)) := by
  obtain ⟨K, hK⟩ := b5s t0 t1 t2 t3 t4 m0 m1 m2 ag vs here act hol hs ha hl hh hd hc
  have hlen := b2m t0 t1 t2 t3 m0 m1 m2 ag vs here act hol
  obtain ⟨K2, hK2⟩ := b7a (a5p t0 t1 t2 t3 m0 m1 m2 ag vs here act hol).1 (by omega) x (a5p t0 t1 t2 t3 m0 m1 m2 ag vs here act hol).2 _ 0 (by omega) (Int.zero_add _)
  dsimp only at hK hK2
  refine ⟨K + K2, fun k hk => ?_⟩
  show a2k.f k t0 t1 t2 t3 t4 m0 m1 m2 ag vs here act hol x = _
  unfold a2k.f
  rw [hK k (by omega), Option.bind_some, hK2 k (by omega)]
  rfl
theorem b4v (hp : -9223372036854775808 ≤ t1) (hp2 : t1 ≤ 9223372036854775807) (hq2 : t2 ≤ 9223372036854775807) :
    ∃ r, (r = true → (Small ag ∧ ag.length ≤ 30 ∧ vs.length ≤ 70 ∧ here.length ≤ 70) ∧ a4r t0 t1 t2 t3 = true ∧ a4v m0 m1 m2 ag vs here = true) ∧ Ev (fun k => a3s.f k t0 t1 t2 t3 t4 m0 m1 m2 ag vs here) r := by
  obtain ⟨r, hr, K, hK⟩ := b8a m0 m1 m2 ag vs here
  obtain ⟨K2, hK2⟩ := b4o (n := t0) (x := t3) t4 hp hp2 hq2
  dsimp only at hK hK2
  cases r with
  | false =>
    refine ⟨false, fun h => by simp at h, K, fun k hk => ?_⟩
    show a3s.f k t0 t1 t2 t3 t4 m0 m1 m2 ag vs here = _
    unfold a3s.f
    rw [hK k hk, Option.bind_some, if_neg (by simp)]
  | true =>
    have q := hr rfl
    obtain ⟨K3, hK3⟩ := b4q m0 m1 m2 ag vs here (by omega) (by omega) (by omega)
    dsimp only at hK3
    refine ⟨a4r t0 t1 t2 t3 && a4v m0 m1 m2 ag vs here, fun h => ?_, K + K2 + K3, fun k hk => ?_⟩
    · rw [Bool.and_eq_true] at h
      exact ⟨q, h⟩
    · show a3s.f k t0 t1 t2 t3 t4 m0 m1 m2 ag vs here = _
      unfold a3s.f
      rw [hK k (by omega), Option.bind_some, if_pos rfl, hK2 k (by omega), Option.bind_some]
      cases a4r t0 t1 t2 t3 with
      | false => rw [if_neg (by simp)]; rfl
      | true => rw [if_pos rfl, hK3 k (by omega), Option.bind_some]; rfl
end
theorem b5t : holB [] = true := by
  rw [a6p]
  exact ⟨by simp, fun j j0 j1 => by simp at j1; omega, fun j j0 j1 => by simp at j1; omega⟩
theorem b2n : (a5w 0 []).2 = 0 := by
  unfold a5w
  rw [if_pos (by decide), b5t, if_pos rfl]
theorem a7j {b : Bool} {n x : Int} : x ∈ a3j b n ↔ b = true ∧ x = n := by
  unfold a3j
  cases b <;> simp
end Go.Proofs.Ytemnlgefngjliaa.Meet
/- Contracts of Go functions, written by a program of this session's own (wip/tools/myprint.py) out of the translation: each Go function does what the Lean function of its name says. Conditions: as each theorem states. -/
namespace Go.Proofs.Ytemnlgefngjliaa.Px
open Go.Proofs.Ytemnlgefngjliaa.Given
open Go.RowKit Go.Proofs.YtemnlgefngjliaaW.PrintWords Go.Proofs.YtemnlgefngjliaaW.PrintLast Go.Proofs.YtemnlgefngjliaaW.PrintMore
attribute [local go_sem] a2f a2g a2r a2s a1x a1y a2h a2i
set_option linter.unusedVariables false
set_option linter.unusedSimpArgs false
mutual
def a2z.j0 : Nat → Bool → Int → Int → Int → Int → Bool → Int → Int → Int → List ByteArray → List (S43) → List Int → Option (List Int × Int)
 | 0, _, _, _, _, _, _, _, _, _, _, _, _ => none
 | k + 1, x16, v0, v1, v2, v3, v4, v5, v6, v7, v8, v9, v10 => if x16 = true then (some (([] : List Int), 1)) else (if 0 ≤ (v9.length : Int) then (if ((v9.length : Int) : Int).toNat ≤ 35184372088832 then (a2z.l0 k (List.replicate ((v9.length : Int) : Int).toNat 0) 0 v0 v1 v2 v3 v4 v5 v6 v7 v8 v9 v10) else (none)) else (none))
def a2z.l0 : Nat → List Int → Int → Int → Int → Int → Int → Bool → Int → Int → Int → List ByteArray → List (S43) → List Int → Option (List Int × Int)
 | 0, _, _, _, _, _, _, _, _, _, _, _, _, _ => none
 | k + 1, x6, x7, v0, v1, v2, v3, v4, v5, v6, v7, v8, v9, v10 => if x7 < (v9.length : Int) then (if 0 ≤ x7 then ((a4t.f k v5 v6 v7 v8 v9 v10 ((a0a v9 x7).f0) ((a0a v9 x7).f1) ((a0a v9 x7).f2)).bind fun t406 => ((a1r.f k v9 t406).bind fun t407 => (if t407 ≥ 0 then (if 0 ≤ t407 then (if t407 < (x6.length : Int) then ((b8q.f v0 v1 v2 v3 v4 ((a0a v9 x7).f0) ((a0a v9 x7).f1) ((a0a v9 x7).f2)).bind fun t410 => (a2z.l0 k (x6.set (t407 : Int).toNat (wrap64 ((rd x6 t407) + t410))) (wrap64 (x7 + 1)) v0 v1 v2 v3 v4 v5 v6 v7 v8 v9 v10)) else (none)) else (none)) else (a2z.l0 k x6 (wrap64 (x7 + 1)) v0 v1 v2 v3 v4 v5 v6 v7 v8 v9 v10)))) else (none)) else (some (x6, 0))
end
def a2z.f (k : Nat) (a0_0 a0_1 a0_2 a0_3 : Int) (a0_4 : Bool) (a1_0 a1_1 a1_2 : Int) (l1_3 : List ByteArray) (l1_4 : List (S43)) (l1_5 : List Int) : Option (List Int × Int) := (a3e.f k a0_0 a0_1 a0_2 a0_3 a0_4).bind fun t400 => (if t400 = true then ((a0g.f k a1_0 a1_1 a1_2 l1_3 l1_4 l1_5).bind fun t401 => (a2z.j0 k (!t401) a0_0 a0_1 a0_2 a0_3 a0_4 a1_0 a1_1 a1_2 l1_3 l1_4 l1_5)) else (a2z.j0 k true a0_0 a0_1 a0_2 a0_3 a0_4 a1_0 a1_1 a1_2 l1_3 l1_4 l1_5))
theorem a2z.a0t : ∀ k, (∀ y0 y1 y2 y3 y4 y5 y6 y7 y8 y9 y10 y11, LeO (a2z.j0 k y0 y1 y2 y3 y4 y5 y6 y7 y8 y9 y10 y11) (a2z.j0 (k + 1) y0 y1 y2 y3 y4 y5 y6 y7 y8 y9 y10 y11)) ∧ (∀ y0 y1 y2 y3 y4 y5 y6 y7 y8 y9 y10 y11 y12, LeO (a2z.l0 k y0 y1 y2 y3 y4 y5 y6 y7 y8 y9 y10 y11 y12) (a2z.l0 (k + 1) y0 y1 y2 y3 y4 y5 y6 y7 y8 y9 y10 y11 y12))
 | 0 => ⟨fun _ _ _ _ _ _ _ _ _ _ _ _ r h => by simp [a2z.j0] at h, fun _ _ _ _ _ _ _ _ _ _ _ _ _ r h => by simp [a2z.l0] at h⟩
 | k + 1 => by
  obtain ⟨ih0, ih1⟩ := a2z.a0t k
  refine ⟨?_, ?_⟩
  ·intro y0 y1 y2 y3 y4 y5 y6 y7 y8 y9 y10 y11
   unfold a2z.j0
   with_reducible (repeat' first | apply ih0 | apply ih1 | apply a3e.mono | apply a0g.mono | apply a4t.mono | apply a1r.mono | apply LeO.refl | apply LeO.none | apply LeO.ite | refine LeO.bind ?_ (fun _ => ?_))
  ·intro y0 y1 y2 y3 y4 y5 y6 y7 y8 y9 y10 y11 y12
   unfold a2z.l0
   with_reducible (repeat' first | apply ih0 | apply ih1 | apply a3e.mono | apply a0g.mono | apply a4t.mono | apply a1r.mono | apply LeO.refl | apply LeO.none | apply LeO.ite | refine LeO.bind ?_ (fun _ => ?_))
theorem a2z.mono : ∀ a0 a1 a2 a3 a4 a5 a6 a7 a8 a9 a10 k, LeO (a2z.f k a0 a1 a2 a3 a4 a5 a6 a7 a8 a9 a10) (a2z.f (k + 1) a0 a1 a2 a3 a4 a5 a6 a7 a8 a9 a10) := by
 intro a0 a1 a2 a3 a4 a5 a6 a7 a8 a9 a10 k
 obtain ⟨ih0, ih1⟩ := a2z.a0t k
 unfold a2z.f
 with_reducible (repeat' first | apply ih0 | apply ih1 | apply a3e.mono | apply a0g.mono | apply a4t.mono | apply a1r.mono | apply LeO.refl | apply LeO.none | apply LeO.ite | refine LeO.bind ?_ (fun _ => ?_))
end Go.Proofs.Ytemnlgefngjliaa.Px
