/- Contracts of Go functions, printed. Conditions: as each theorem states. -/
import Derived.Test.YtemnlgefngjliaaPx0
import Derived.Test.YtemnlgefngjliaaProg
import Derived.Below
import Derived.Tactics
import Derived.WalkKit
import Derived.KernelRfl
import Derived.RowKit3
import Derived.Deep.LoopGhost
import Derived.Deep.QuietTactic
import Derived.BigQuiet
import Derived.WideLaws
import Derived.RowKit
import Derived.RegionTactic
import Derived.WalkMore
import Derived.Outline
import Derived.Test.YtemnlgefngjliaaWWords
import Derived.Test.YtemnlgefngjliaaGLib
namespace Go.Proofs.Ytemnlgefngjliaa.Px
open Go.Proofs.Ytemnlgefngjliaa.Given
open Go.RowKit Go.Proofs.YtemnlgefngjliaaW.PrintWords Go.Proofs.YtemnlgefngjliaaW.PrintLast Go.Proofs.YtemnlgefngjliaaW.PrintMore
attribute [local go_sem] a2h a2i a2u a2v a1z a2a a2j a2k
set_option linter.unusedVariables false
set_option linter.unusedSimpArgs false
def a3a.f  : Option (Int × Int × Int × List ByteArray × (List (S43)) × List Int) := some (2, 1, 20, (([(⟨#[98, 117, 100, 103, 101, 116]⟩ : ByteArray)] : List ByteArray)), (([(⟨1, 50, 0⟩ : S43), (⟨2, 30, 1⟩ : S43), (⟨3, 20, 0⟩ : S43)] : List (S43))), (([1] : List Int)))
set_option maxHeartbeats 8000000 in
set_option maxRecDepth 100000 in
theorem a3a.calls  (r1 r2 r3 : Int) (r4 : List ByteArray) (r5 : List (S43)) (r6 : List Int) (w : World) (h : a3a.f  = some (r1, r2, r3, r4, r5, r6)) :
  Calls Try.prog 29 #[] w fun e w' => ∃ v3_ v4_ v5_ : Value, e = .returned (.agg #[.int .i64 r1, .int .i64 r2, .int .i64 r3, v3_, v4_, v5_]) ∧ Kd.R Kd.string 9 w' w.heap.size (fun _ => True) v3_ r4 ∧ Kd.R k43 43 w' w.heap.size (fun _ => True) v4_ r5 ∧ Kd.R (Kd.int .i64) 3 w' w.heap.size (fun _ => True) v5_ r6 ∧ Below w.heap.size w w' := by
 have hu30 := Try.underlying30
 have hu43 := Try.underlying43
 have HB := am_ (Below.refl w.heap.size w)
 have H : (some (2, 1, 20, (([(⟨#[98, 117, 100, 103, 101, 116]⟩ : ByteArray)] : List ByteArray)), (([(⟨1, 50, 0⟩ : S43), (⟨2, 30, 1⟩ : S43), (⟨3, 20, 0⟩ : S43)] : List (S43))), (([1] : List Int)))) = some (r1, r2, r3, r4, r5, r6) := h
 clear h
 obtain ⟨y186, hy186⟩ : ∃ y_ : List ByteArray, y_ = (([(⟨#[98, 117, 100, 103, 101, 116]⟩ : ByteArray)] : List ByteArray)) := ⟨_, rfl⟩
 replace H : (some (2, 1, 20, y186, (([(⟨1, 50, 0⟩ : S43), (⟨2, 30, 1⟩ : S43), (⟨3, 20, 0⟩ : S43)] : List (S43))), (([1] : List Int)))) = some (r1, r2, r3, r4, r5, r6) := by first | (rw [hy186]; with_reducible exact H) | (have H2_ := (Option.bind_some _ _).symm.trans H; rw [hy186]; with_reducible exact H2_) | (have H2_ := (Option.bind_some _ _).symm.trans H; with_reducible exact H2_) | with_reducible exact H | (rw [hy186]; exact H) | exact H
 have Ny186 := am_ hy186
 clear hy186
 obtain ⟨y189, hy189⟩ : ∃ y_ : List (S43), y_ = (([(⟨1, 50, 0⟩ : S43), (⟨2, 30, 1⟩ : S43), (⟨3, 20, 0⟩ : S43)] : List (S43))) := ⟨_, rfl⟩
 replace H : (some (2, 1, 20, y186, y189, (([1] : List Int)))) = some (r1, r2, r3, r4, r5, r6) := by first | (rw [hy189]; with_reducible exact H) | (have H2_ := (Option.bind_some _ _).symm.trans H; rw [hy189]; with_reducible exact H2_) | (have H2_ := (Option.bind_some _ _).symm.trans H; with_reducible exact H2_) | with_reducible exact H | (rw [hy189]; exact H) | exact H
 have Ny189 := am_ hy189
 clear hy189
 obtain ⟨y192, hy192⟩ : ∃ y_ : List Int, y_ = (([1] : List Int)) := ⟨_, rfl⟩
 replace H : (some (2, 1, 20, y186, y189, y192)) = some (r1, r2, r3, r4, r5, r6) := by first | (rw [hy192]; with_reducible exact H) | (have H2_ := (Option.bind_some _ _).symm.trans H; rw [hy192]; with_reducible exact H2_) | (have H2_ := (Option.bind_some _ _).symm.trans H; with_reducible exact H2_) | with_reducible exact H | (rw [hy192]; exact H) | exact H
 have Ny192 := am_ hy192
 clear hy192
 simp only [Option.some.injEq, Prod.mk.injEq] at H
 obtain ⟨rfl, rfl, rfl, rfl, rfl, rfl⟩ := H
 go_enter Try.func29, Try.ntmps29
 go_wp2_with (first | ((with_reducible refine a0e (N := 0) rfl ?_); refine qev_ 0 #[.int .i64 0, .int .i64 0, .int .i64 0, .slice none 0 0, .slice none 0 0, .slice none 0 0] 30 ?_; intro gb185 hg w1 hbox hb; have BK185 := am_ (hbox); have GW185 := qga_ hg; have GE185 := qga_ hg; replace HB := qbs_ hb; clear hb hbox hg) | ((with_reducible refine a0e (N := 1) rfl ?_); refine Kd.a4x Kd.string _ 9 ?hg (N := 1) ?hd (xs := ([(⟨#[98, 117, 100, 103, 101, 116]⟩ : ByteArray)] : List ByteArray)) (inner := [.string (⟨#[98, 117, 100, 103, 101, 116]⟩ : ByteArray)]) (ok := fun _ => True) (okp := fun _ => True) ?hr ?hp (fun _ hk => hk) trivial (Below.refl _ _) (Nat.le_refl _) (by simp) ?_; (case hd => rfl); (case hg => rfl); (case hr => exact qq_); (case hp => exact (Reps.one (show Kd.M Kd.string _ _ _ (⟨#[98, 117, 100, 103, 101, 116]⟩ : ByteArray) [.string (⟨#[98, 117, 100, 103, 101, 116]⟩ : ByteArray)] from rfl) (Reps.none _ _))); intro v187 w2 ho3 hb hg_ hnew_; clear hg_ hnew_; (first | rw [← Ny186.out] at ho3 | (simp only [Int.reduceToNat] at ho3; rw [← Ny186.out] at ho3)); have HO188 := am_ (Kd.a1v ho3 (a0y qb_)); replace BK185 := qkb_ BK185 hb; replace HB := qbs_ hb; clear hb ho3) | ((with_reducible refine a0e (N := 5) rfl ?_); refine Kd.a4x k43 _ 43 ?hg (N := 5) ?hd (xs := ([(⟨1, 50, 0⟩ : S43), (⟨2, 30, 1⟩ : S43), (⟨3, 20, 0⟩ : S43)] : List (S43))) (inner := [.int .i64 1, .int .i64 50, .int .i64 0, .int .i64 2, .int .i64 30, .int .i64 1, .int .i64 3, .int .i64 20, .int .i64 0]) (ok := fun _ => True) (okp := fun _ => True) ?hr ?hp (fun _ hk => hk) trivial (Below.refl _ _) (Nat.le_refl _) (by simp) ?_; (case hd => rfl); (case hg => rfl); (case hr => exact qq_); (case hp => exact (Reps.c3 (show Kd.M k43 _ _ _ (⟨1, 50, 0⟩ : S43) [.int .i64 1, .int .i64 50, .int .i64 0] from (a6m _ _ _ (⟨1, 50, 0⟩ : S43) )) (Reps.c3 (show Kd.M k43 _ _ _ (⟨2, 30, 1⟩ : S43) [.int .i64 2, .int .i64 30, .int .i64 1] from (a6m _ _ _ (⟨2, 30, 1⟩ : S43) )) (Reps.c3 (show Kd.M k43 _ _ _ (⟨3, 20, 0⟩ : S43) [.int .i64 3, .int .i64 20, .int .i64 0] from (a6m _ _ _ (⟨3, 20, 0⟩ : S43) )) (Reps.none _ _))))); intro v190 w4 ho5 hb hg_ hnew_; clear hg_ hnew_; (first | rw [← Ny189.out] at ho5 | (simp only [Int.reduceToNat] at ho5; rw [← Ny189.out] at ho5)); replace HO188 := qrb_ HO188 hb; have HO191 := am_ (Kd.a1v ho5 (a0y qb_)); replace BK185 := qkb_ BK185 hb; replace HB := qbs_ hb; clear hb ho5) | ((with_reducible refine a0e (N := 6) rfl ?_); refine Kd.a4x (Kd.int .i64) _ 3 ?hg (N := 6) ?hd (xs := ([1] : List Int)) (inner := [.int .i64 1]) (ok := fun _ => True) (okp := fun _ => True) ?hr ?hp (fun _ hk => hk) trivial (Below.refl _ _) (Nat.le_refl _) (by simp) ?_; (case hd => rfl); (case hg => rfl); (case hr => exact qq_); (case hp => exact (Reps.one (show Kd.M (Kd.int .i64) _ _ _ 1 [.int .i64 1] from rfl) (Reps.none _ _))); intro v193 w6 ho7 hb hg_ hnew_; clear hg_ hnew_; (first | rw [← Ny192.out] at ho7 | (simp only [Int.reduceToNat] at ho7; rw [← Ny192.out] at ho7)); replace HO188 := qrb_ HO188 hb; replace HO191 := qrb_ HO191 hb; have HO194 := am_ (Kd.a1v ho7 (a0y qb_)); replace BK185 := qkb_ BK185 hb; replace HB := qbs_ hb; clear hb ho7; obtain ⟨Ao8, co8, eo8⟩ := Kd.a1m HO194.out; subst eo8; obtain ⟨Ao9, co9, eo9⟩ := Kd.a1m HO191.out; subst eo9; obtain ⟨Ao10, co10, eo10⟩ := Kd.a1m HO188.out; subst eo10; obtain ⟨z'11_0, z'11_1, z'11_2, z'11_3, z'11_4, z'11_5⟩ := qz6_ BK185; obtain ⟨y'11_0, y'11_1, y'11_2, y'11_3, y'11_4, y'11_5⟩ := qf6_ BK185))
 refine bodyPost_ret (results_cell_row rfl _ _ gb185 30 #[.int .i64 2, .int .i64 1, .int .i64 20, .slice Ao10 y186.length co10, .slice Ao9 y189.length co9, .slice Ao8 y192.length co8] (0, 0) _ rfl (by refine qd_ ?_; refine a0h (cs := #[.int .i64 2, .int .i64 1, .int .i64 20, .slice Ao10 y186.length co10, .slice Ao9 y189.length co9, .slice none 0 0]) ?_ 5 _ rfl; refine qd_ ?_; refine a0h (cs := #[.int .i64 2, .int .i64 1, .int .i64 20, .slice Ao10 y186.length co10, .slice none 0 0, .slice none 0 0]) ?_ 4 _ rfl; refine qd_ ?_; refine a0h (cs := #[.int .i64 2, .int .i64 1, .int .i64 20, .slice none 0 0, .slice none 0 0, .slice none 0 0]) ?_ 3 _ rfl; refine qd_ ?_; refine a0h (cs := #[.int .i64 2, .int .i64 1, .int .i64 0, .slice none 0 0, .slice none 0 0, .slice none 0 0]) ?_ 2 _ rfl; refine qd_ ?_; refine a0h (cs := #[.int .i64 2, .int .i64 0, .int .i64 0, .slice none 0 0, .slice none 0 0, .slice none 0 0]) ?_ 1 _ rfl; refine qd_ ?_; refine a0h (cs := #[.int .i64 0, .int .i64 0, .int .i64 0, .slice none 0 0, .slice none 0 0, .slice none 0 0]) ?_ 0 _ rfl; refine qd_ ?_; exact BK185.out) Try.underlying30 rfl (by kernel_rfl)) rfl ?_
 exact ⟨_, _, _, qx_, by (with_reducible repeat (first | apply Kd.a0s | apply Kd.a0t | apply Kd.a0p)); exact Kd.a2b (Kd.a1j (p := ⟨gb185, 5, none⟩) (Kd.a1j (p := ⟨gb185, 4, none⟩) (Kd.a1j (p := ⟨gb185, 3, none⟩) (Kd.a1j (p := ⟨gb185, 2, none⟩) (Kd.a1j (p := ⟨gb185, 1, none⟩) (Kd.a1j (p := ⟨gb185, 0, none⟩) (Kd.a3n HO188.out BK185.out (by decide)) (fun _ hk => hk.2) (.int .i64 2)) (fun _ hk => hk.2) (.int .i64 1)) (fun _ hk => hk.2) (.int .i64 20)) (fun _ hk => hk.2) (.slice Ao10 y186.length co10)) (fun _ hk => hk.2) (.slice Ao9 y189.length co9)) (fun _ hk => hk.2) (.slice Ao8 y192.length co8)) (fun _ hk => trivial), by (with_reducible repeat (first | apply Kd.a0s | apply Kd.a0t | apply Kd.a0p)); exact Kd.a2b (Kd.a1j (p := ⟨gb185, 5, none⟩) (Kd.a1j (p := ⟨gb185, 4, none⟩) (Kd.a1j (p := ⟨gb185, 3, none⟩) (Kd.a1j (p := ⟨gb185, 2, none⟩) (Kd.a1j (p := ⟨gb185, 1, none⟩) (Kd.a1j (p := ⟨gb185, 0, none⟩) (Kd.a3n HO191.out BK185.out (by decide)) (fun _ hk => hk.2) (.int .i64 2)) (fun _ hk => hk.2) (.int .i64 1)) (fun _ hk => hk.2) (.int .i64 20)) (fun _ hk => hk.2) (.slice Ao10 y186.length co10)) (fun _ hk => hk.2) (.slice Ao9 y189.length co9)) (fun _ hk => hk.2) (.slice Ao8 y192.length co8)) (fun _ hk => trivial), by (with_reducible repeat (first | apply Kd.a0s | apply Kd.a0t | apply Kd.a0p)); exact Kd.a2b (Kd.a1j (p := ⟨gb185, 5, none⟩) (Kd.a1j (p := ⟨gb185, 4, none⟩) (Kd.a1j (p := ⟨gb185, 3, none⟩) (Kd.a1j (p := ⟨gb185, 2, none⟩) (Kd.a1j (p := ⟨gb185, 1, none⟩) (Kd.a1j (p := ⟨gb185, 0, none⟩) (Kd.a3n HO194.out BK185.out (by decide)) (fun _ hk => hk.2) (.int .i64 2)) (fun _ hk => hk.2) (.int .i64 1)) (fun _ hk => hk.2) (.int .i64 20)) (fun _ hk => hk.2) (.slice Ao10 y186.length co10)) (fun _ hk => hk.2) (.slice Ao9 y189.length co9)) (fun _ hk => hk.2) (.slice Ao8 y192.length co8)) (fun _ hk => trivial), qb_⟩
def a0v.f (a0 a1 a2 : Int) : Option (Bool) := if a1 ≤ a0 then (some (decide (a0 ≤ a2))) else (some false)
set_option maxHeartbeats 8000000 in
set_option maxRecDepth 100000 in
theorem a0v.calls (a0 a1 a2 : Int) (r : Bool) (w : World) (h : a0v.f a0 a1 a2 = some r) :
  Calls Try.prog 51 #[.int .i64 a0, .int .i64 a1, .int .i64 a2] w fun e w' => e = .returned (.bool r) ∧ a1h w w' := by
 have H : (if a1 ≤ a0 then (some (decide (a0 ≤ a2))) else (some false)) = some r := h
 clear h
 by_cases c4 : a1 ≤ a0
 ·rw [if_pos c4] at H
  have c4b0 : decide (a1 ≤ a0) = true := decide_eq_true c4
  clear c4
  obtain rfl := si_ H
  go_enter Try.func51, Try.ntmps51
  go_wp2
  go_ret
  exact ⟨qs_, qy_⟩
 ·rw [if_neg c4] at H
  have c4b0 : decide (a1 ≤ a0) = false := decide_eq_false c4
  clear c4
  obtain rfl := si_ H
  go_enter Try.func51, Try.ntmps51
  go_wp2
  go_ret
  exact ⟨qs_, qy_⟩
def a4t.f (a0 : Int) : Option (Int) := if a0 < 0 then (some (IntKind.u64.wrap (-(IntKind.u64.wrap (a0))))) else (some (IntKind.u64.wrap (a0)))
set_option maxHeartbeats 8000000 in
set_option maxRecDepth 100000 in
theorem a4t.calls (a0 r : Int) (w : World) (h : a4t.f a0 = some r) :
  Calls Try.prog 79 #[.int .i64 a0] w fun e w' => e = .returned (.int .u64 r) ∧ a1h w w' := by
 have H : (if a0 < 0 then (some (IntKind.u64.wrap (-(IntKind.u64.wrap (a0))))) else (some (IntKind.u64.wrap (a0)))) = some r := h
 clear h
 by_cases c2 : a0 < 0
 ·rw [if_pos c2] at H
  have c2b0 : decide (a0 < 0) = true := decide_eq_true c2
  clear c2
  obtain rfl := si_ H
  go_enter Try.func79, Try.ntmps79
  go_wp2
  go_ret
  exact ⟨qs_, qy_⟩
 ·rw [if_neg c2] at H
  have c2b0 : decide (a0 < 0) = false := decide_eq_false c2
  clear c2
  obtain rfl := si_ H
  go_enter Try.func79, Try.ntmps79
  go_wp2
  go_ret
  exact ⟨qs_, qy_⟩
end Go.Proofs.Ytemnlgefngjliaa.Px
/- The greatest common divisor of package rational: a contract of its loop. Conditions: the arguments are those of a 64-bit unsigned kind. -/
namespace Go.Proofs.Ytemnlgefngjliaa.Given
open Go.RowKit Go.Proofs.YtemnlgefngjliaaW.PrintWords
set_option linter.unusedVariables false
set_option linter.unusedSimpArgs false
def a4u.f (a0 a1 : Int) : Option Int :=
 if 0 ≤ a0 ∧ a0 ≤ 18446744073709551615 ∧ 0 ≤ a1 ∧ a1 ≤ 18446744073709551615 then some ((Nat.gcd a0.toNat a1.toNat : Nat) : Int) else none
def InU (a b : Int) : Prop := 0 ≤ a ∧ a ≤ 18446744073709551615 ∧ 0 ≤ b ∧ b ≤ 18446744073709551615
set_option maxHeartbeats 8000000 in
set_option maxRecDepth 100000 in
theorem a4u.calls (a0 a1 : Int) (r : Int) (w : World) (h : a4u.f a0 a1 = some r) :
  Calls Try.prog 78 #[.int .u64 a0, .int .u64 a1] w fun e w' => e = .returned (.int .u64 r) ∧ a1h w w' := by
 have H : Aside0 (InU a0 a1) ∧ Aside0 (((Nat.gcd a0.toNat a1.toNat : Nat) : Int) = r) := by
  unfold a4u.f at h
  split at h
  ·exact ⟨⟨‹_›⟩, ⟨si_ h⟩⟩
  ·exact absurd h (by simp)
 clear h
 obtain ⟨HU, HG⟩ := H
 go_enter Try.func78, Try.ntmps78
 go_wp2
 go_step3
 go_wp2
 go_step3
 go_wp2
 go_loopg [0, 1] (18446744073709551616 : Nat) (fun kq v0 v1 w' => ∃ (a b : Int), v0 = .int .u64 a ∧ v1 = .int .u64 b ∧ Aside0 (InU a b) ∧ Aside0 (((Nat.gcd a.toNat b.toNat : Nat) : Int) = r) ∧ Aside0 (b.toNat < kq) ∧ a1h w w')
 case atStart => exact ⟨a0, a1, rfl, rfl, HU, HG, ⟨by have := HU.out; unfold InU at this; omega⟩, a1h.refl _⟩
 case round =>
  clear HU HG
  obtain ⟨a, b, rfl, rfl, HU, HG, HK, ⟨m1, rfl⟩⟩ := hrel
  by_cases c : b = 0
  ·subst c
   have e : a = r := by
    have h1 := HG.out
    have h2 := HU.out
    unfold InU at h2
    simp at h1
    omega
   subst e
   clear HG
   go_wp2
   rw [Exit.noGoto_ret]
   go_ret
   exact ⟨rfl, by repeat (first | exact a1h.refl _ | apply a1h.step)⟩
  ·have cb : (b == 0) = false := beq_eq_false_iff_ne.mpr c
   have hU := HU.out
   unfold InU at hU
   have HN : Aside0 (InU b (a % b)) := ⟨by
    have h1 := Int.emod_nonneg a c
    have h2 := Int.emod_lt_of_pos a (show 0 < b by omega)
    unfold InU
    omega⟩
   have HG2 : Aside0 (((Nat.gcd b.toNat (a % b).toNat : Nat) : Int) = r) := ⟨by
    have e : Nat.gcd b.toNat (a % b).toNat = Nat.gcd a.toNat b.toNat := by
     rw [Int.toNat_emod (by omega) (by omega), Nat.gcd_comm b.toNat, ← Nat.gcd_rec, Nat.gcd_comm]
    rw [e]
    exact HG.out⟩
   have HK2 : Aside0 ((a % b).toNat < b.toNat) := ⟨by
    have h1 := Int.emod_nonneg a c
    have h2 := Int.emod_lt_of_pos a (show 0 < b by omega)
    omega⟩
   have g1 : 0 ≤ a := hU.1
   have g2 : 0 ≤ b := hU.2.2.1
   clear HU HG hU
   go_wp2
   go_quiet (fail)
   go_wp2
   go_roundg b.toNat
   case measure => have := HK.out; omega
   case rel => exact ⟨b, a % b, rfl, rfl, HN, HG2, HK2, by repeat (first | exact a1h.refl _ | apply a1h.step)⟩
end Go.Proofs.Ytemnlgefngjliaa.Given
