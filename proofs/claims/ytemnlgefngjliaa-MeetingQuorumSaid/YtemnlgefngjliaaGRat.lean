/- The greatest common divisor of package rational: a contract of its loop. Conditions: the arguments are those of a 64-bit unsigned kind. -/
import Derived.Test.YtemnlgefngjliaaProg
import Derived.Below
import Derived.Tactics
import Derived.WalkKit
import Derived.KernelRfl
import Derived.RowKit3
import Derived.Deep.LoopGhost
import Derived.Deep.QuietTactic
import Derived.BigQuiet
import Derived.WideLaws
import Derived.RowKit
import Derived.RegionTactic
import Derived.WalkMore
import Derived.Outline
import Derived.Test.YtemnlgefngjliaaWWords
import Derived.Test.YtemnlgefngjliaaGLib
namespace Go.Proofs.Ytemnlgefngjliaa.Given
open Go.RowKit Go.Proofs.YtemnlgefngjliaaW.PrintWords
set_option linter.unusedVariables false
set_option linter.unusedSimpArgs false
def a5d.f (a0 a1 : Int) : Option Int :=
 if 0 ≤ a0 ∧ a0 ≤ 18446744073709551615 ∧ 0 ≤ a1 ∧ a1 ≤ 18446744073709551615 then some ((Nat.gcd a0.toNat a1.toNat : Nat) : Int) else none
def InU (a b : Int) : Prop := 0 ≤ a ∧ a ≤ 18446744073709551615 ∧ 0 ≤ b ∧ b ≤ 18446744073709551615
set_option maxHeartbeats 8000000 in
set_option maxRecDepth 100000 in
theorem a5d.calls (a0 a1 : Int) (r : Int) (w : World) (h : a5d.f a0 a1 = some r) :
  Calls Try.prog 78 #[.int .u64 a0, .int .u64 a1] w fun e w' => e = .returned (.int .u64 r) ∧ a1j w w' := by
 have H : Aside0 (InU a0 a1) ∧ Aside0 (((Nat.gcd a0.toNat a1.toNat : Nat) : Int) = r) := by
  unfold a5d.f at h
  split at h
  ·exact ⟨⟨‹_›⟩, ⟨si_ h⟩⟩
  ·exact absurd h (by simp)
 clear h
 obtain ⟨HU, HG⟩ := H
 go_enter Try.func78, Try.ntmps78
 go_wp2
 go_step3
 go_wp2
 go_step3
 go_wp2
 go_loopg [0, 1] (18446744073709551616 : Nat) (fun kq v0 v1 w' => ∃ (a b : Int), v0 = .int .u64 a ∧ v1 = .int .u64 b ∧ Aside0 (InU a b) ∧ Aside0 (((Nat.gcd a.toNat b.toNat : Nat) : Int) = r) ∧ Aside0 (b.toNat < kq) ∧ a1j w w')
 case atStart => exact ⟨a0, a1, rfl, rfl, HU, HG, ⟨by have := HU.out; unfold InU at this; omega⟩, a1j.refl _⟩
 case round =>
  clear HU HG
  obtain ⟨a, b, rfl, rfl, HU, HG, HK, ⟨m1, rfl⟩⟩ := hrel
  by_cases c : b = 0
  ·subst c
   have e : a = r := by
    have h1 := HG.out
    have h2 := HU.out
    unfold InU at h2
    simp at h1
    omega
   subst e
   clear HG
   go_wp2
   rw [Exit.noGoto_ret]
   go_ret
   exact ⟨rfl, by repeat (first | exact a1j.refl _ | apply a1j.step)⟩
  ·have cb : (b == 0) = false := beq_eq_false_iff_ne.mpr c
   have hU := HU.out
   unfold InU at hU
   have HN : Aside0 (InU b (a % b)) := ⟨by
    have h1 := Int.emod_nonneg a c
    have h2 := Int.emod_lt_of_pos a (show 0 < b by omega)
    unfold InU
    omega⟩
   have HG2 : Aside0 (((Nat.gcd b.toNat (a % b).toNat : Nat) : Int) = r) := ⟨by
    have e : Nat.gcd b.toNat (a % b).toNat = Nat.gcd a.toNat b.toNat := by
     rw [Int.toNat_emod (by omega) (by omega), Nat.gcd_comm b.toNat, ← Nat.gcd_rec, Nat.gcd_comm]
    rw [e]
    exact HG.out⟩
   have HK2 : Aside0 ((a % b).toNat < b.toNat) := ⟨by
    have h1 := Int.emod_nonneg a c
    have h2 := Int.emod_lt_of_pos a (show 0 < b by omega)
    omega⟩
   have g1 : 0 ≤ a := hU.1
   have g2 : 0 ≤ b := hU.2.2.1
   clear HU HG hU
   go_wp2
   go_quiet (fail)
   go_wp2
   go_roundg b.toNat
   case measure => have := HK.out; omega
   case rel => exact ⟨b, a % b, rfl, rfl, HN, HG2, HK2, by repeat (first | exact a1j.refl _ | apply a1j.step)⟩
end Go.Proofs.Ytemnlgefngjliaa.Given
