/- Contracts of Go functions, printed. Conditions: as each theorem states. -/
import Derived.Test.YtemnlgefngjliaaPx0
namespace Go.Proofs.Ytemnlgefngjliaa.Px
open Go.Proofs.Ytemnlgefngjliaa.Given
open Go.RowKit Go.Proofs.YtemnlgefngjliaaW.PrintWords Go.Proofs.YtemnlgefngjliaaW.PrintLast Go.Proofs.YtemnlgefngjliaaW.PrintMore
attribute [local go_sem] a2f a2g a2r a2s a1x a1y a2h a2i
set_option linter.unusedVariables false
set_option linter.unusedSimpArgs false
def a2y.f  : Option (Int × Int × Int × List ByteArray × (List (S43)) × List Int) := some (2, 1, 20, (([(⟨#[98, 117, 100, 103, 101, 116]⟩ : ByteArray)] : List ByteArray)), (([(⟨1, 50, 0⟩ : S43), (⟨2, 30, 1⟩ : S43), (⟨3, 20, 0⟩ : S43)] : List (S43))), (([1] : List Int)))
set_option maxHeartbeats 8000000 in
set_option maxRecDepth 100000 in
theorem a2y.calls  (r1 r2 r3 : Int) (r4 : List ByteArray) (r5 : List (S43)) (r6 : List Int) (w : World) (h : a2y.f  = some (r1, r2, r3, r4, r5, r6)) :
  Calls Try.prog 29 #[] w fun e w' => ∃ v3_ v4_ v5_ : Value, e = .returned (.agg #[.int .i64 r1, .int .i64 r2, .int .i64 r3, v3_, v4_, v5_]) ∧ Kd.R Kd.string 9 w' w.heap.size (fun _ => True) v3_ r4 ∧ Kd.R k43 43 w' w.heap.size (fun _ => True) v4_ r5 ∧ Kd.R (Kd.int .i64) 3 w' w.heap.size (fun _ => True) v5_ r6 ∧ Below w.heap.size w w' := by
 have hu30 := Try.underlying30
 have hu43 := Try.underlying43
 have HB := am_ (Below.refl w.heap.size w)
 have H : (some (2, 1, 20, (([(⟨#[98, 117, 100, 103, 101, 116]⟩ : ByteArray)] : List ByteArray)), (([(⟨1, 50, 0⟩ : S43), (⟨2, 30, 1⟩ : S43), (⟨3, 20, 0⟩ : S43)] : List (S43))), (([1] : List Int)))) = some (r1, r2, r3, r4, r5, r6) := h
 clear h
 obtain ⟨y186, hy186⟩ : ∃ y_ : List ByteArray, y_ = (([(⟨#[98, 117, 100, 103, 101, 116]⟩ : ByteArray)] : List ByteArray)) := ⟨_, rfl⟩
 replace H : (some (2, 1, 20, y186, (([(⟨1, 50, 0⟩ : S43), (⟨2, 30, 1⟩ : S43), (⟨3, 20, 0⟩ : S43)] : List (S43))), (([1] : List Int)))) = some (r1, r2, r3, r4, r5, r6) := by first | (rw [hy186]; with_reducible exact H) | (have H2_ := (Option.bind_some _ _).symm.trans H; rw [hy186]; with_reducible exact H2_) | (have H2_ := (Option.bind_some _ _).symm.trans H; with_reducible exact H2_) | with_reducible exact H | (rw [hy186]; exact H) | exact H
 have Ny186 := am_ hy186
 clear hy186
 obtain ⟨y189, hy189⟩ : ∃ y_ : List (S43), y_ = (([(⟨1, 50, 0⟩ : S43), (⟨2, 30, 1⟩ : S43), (⟨3, 20, 0⟩ : S43)] : List (S43))) := ⟨_, rfl⟩
 replace H : (some (2, 1, 20, y186, y189, (([1] : List Int)))) = some (r1, r2, r3, r4, r5, r6) := by first | (rw [hy189]; with_reducible exact H) | (have H2_ := (Option.bind_some _ _).symm.trans H; rw [hy189]; with_reducible exact H2_) | (have H2_ := (Option.bind_some _ _).symm.trans H; with_reducible exact H2_) | with_reducible exact H | (rw [hy189]; exact H) | exact H
 have Ny189 := am_ hy189
 clear hy189
 obtain ⟨y192, hy192⟩ : ∃ y_ : List Int, y_ = (([1] : List Int)) := ⟨_, rfl⟩
 replace H : (some (2, 1, 20, y186, y189, y192)) = some (r1, r2, r3, r4, r5, r6) := by first | (rw [hy192]; with_reducible exact H) | (have H2_ := (Option.bind_some _ _).symm.trans H; rw [hy192]; with_reducible exact H2_) | (have H2_ := (Option.bind_some _ _).symm.trans H; with_reducible exact H2_) | with_reducible exact H | (rw [hy192]; exact H) | exact H
 have Ny192 := am_ hy192
 clear hy192
 simp only [Option.some.injEq, Prod.mk.injEq] at H
 obtain ⟨rfl, rfl, rfl, rfl, rfl, rfl⟩ := H
 go_enter Try.func29, Try.ntmps29
 go_wp2_with (first | ((with_reducible refine a0f (N := 0) rfl ?_); refine qev_ 0 #[.int .i64 0, .int .i64 0, .int .i64 0, .slice none 0 0, .slice none 0 0, .slice none 0 0] 30 ?_; intro gb185 hg w1 hbox hb; have BK185 := am_ (hbox); have GW185 := qga_ hg; have GE185 := qga_ hg; replace HB := qbs_ hb; clear hb hbox hg) | ((with_reducible refine a0f (N := 1) rfl ?_); refine Kd.a5l Kd.string _ 9 ?hg (N := 1) ?hd (xs := ([(⟨#[98, 117, 100, 103, 101, 116]⟩ : ByteArray)] : List ByteArray)) (inner := [.string (⟨#[98, 117, 100, 103, 101, 116]⟩ : ByteArray)]) (ok := fun _ => True) (okp := fun _ => True) ?hr ?hp (fun _ hk => hk) trivial (Below.refl _ _) (Nat.le_refl _) (by simp) ?_; (case hd => rfl); (case hg => rfl); (case hr => exact qq_); (case hp => exact (Reps.one (show Kd.M Kd.string _ _ _ (⟨#[98, 117, 100, 103, 101, 116]⟩ : ByteArray) [.string (⟨#[98, 117, 100, 103, 101, 116]⟩ : ByteArray)] from rfl) (Reps.none _ _))); intro v187 w2 ho3 hb hg_ hnew_; clear hg_ hnew_; (first | rw [← Ny186.out] at ho3 | (simp only [Int.reduceToNat] at ho3; rw [← Ny186.out] at ho3)); have HO188 := am_ (Kd.a2d ho3 (a0x qb_)); replace BK185 := qkb_ BK185 hb; replace HB := qbs_ hb; clear hb ho3) | ((with_reducible refine a0f (N := 5) rfl ?_); refine Kd.a5l k43 _ 43 ?hg (N := 5) ?hd (xs := ([(⟨1, 50, 0⟩ : S43), (⟨2, 30, 1⟩ : S43), (⟨3, 20, 0⟩ : S43)] : List (S43))) (inner := [.int .i64 1, .int .i64 50, .int .i64 0, .int .i64 2, .int .i64 30, .int .i64 1, .int .i64 3, .int .i64 20, .int .i64 0]) (ok := fun _ => True) (okp := fun _ => True) ?hr ?hp (fun _ hk => hk) trivial (Below.refl _ _) (Nat.le_refl _) (by simp) ?_; (case hd => rfl); (case hg => rfl); (case hr => exact qq_); (case hp => exact (Reps.c3 (show Kd.M k43 _ _ _ (⟨1, 50, 0⟩ : S43) [.int .i64 1, .int .i64 50, .int .i64 0] from (b0e _ _ _ (⟨1, 50, 0⟩ : S43) )) (Reps.c3 (show Kd.M k43 _ _ _ (⟨2, 30, 1⟩ : S43) [.int .i64 2, .int .i64 30, .int .i64 1] from (b0e _ _ _ (⟨2, 30, 1⟩ : S43) )) (Reps.c3 (show Kd.M k43 _ _ _ (⟨3, 20, 0⟩ : S43) [.int .i64 3, .int .i64 20, .int .i64 0] from (b0e _ _ _ (⟨3, 20, 0⟩ : S43) )) (Reps.none _ _))))); intro v190 w4 ho5 hb hg_ hnew_; clear hg_ hnew_; (first | rw [← Ny189.out] at ho5 | (simp only [Int.reduceToNat] at ho5; rw [← Ny189.out] at ho5)); replace HO188 := qrb_ HO188 hb; have HO191 := am_ (Kd.a2d ho5 (a0x qb_)); replace BK185 := qkb_ BK185 hb; replace HB := qbs_ hb; clear hb ho5) | ((with_reducible refine a0f (N := 6) rfl ?_); refine Kd.a5l (Kd.int .i64) _ 3 ?hg (N := 6) ?hd (xs := ([1] : List Int)) (inner := [.int .i64 1]) (ok := fun _ => True) (okp := fun _ => True) ?hr ?hp (fun _ hk => hk) trivial (Below.refl _ _) (Nat.le_refl _) (by simp) ?_; (case hd => rfl); (case hg => rfl); (case hr => exact qq_); (case hp => exact (Reps.one (show Kd.M (Kd.int .i64) _ _ _ 1 [.int .i64 1] from rfl) (Reps.none _ _))); intro v193 w6 ho7 hb hg_ hnew_; clear hg_ hnew_; (first | rw [← Ny192.out] at ho7 | (simp only [Int.reduceToNat] at ho7; rw [← Ny192.out] at ho7)); replace HO188 := qrb_ HO188 hb; replace HO191 := qrb_ HO191 hb; have HO194 := am_ (Kd.a2d ho7 (a0x qb_)); replace BK185 := qkb_ BK185 hb; replace HB := qbs_ hb; clear hb ho7; obtain ⟨Ao8, co8, eo8⟩ := Kd.a1p HO194.out; subst eo8; obtain ⟨Ao9, co9, eo9⟩ := Kd.a1p HO191.out; subst eo9; obtain ⟨Ao10, co10, eo10⟩ := Kd.a1p HO188.out; subst eo10; obtain ⟨z'11_0, z'11_1, z'11_2, z'11_3, z'11_4, z'11_5⟩ := qz6_ BK185; obtain ⟨y'11_0, y'11_1, y'11_2, y'11_3, y'11_4, y'11_5⟩ := qf6_ BK185))
 refine bodyPost_ret (results_cell_row rfl _ _ gb185 30 #[.int .i64 2, .int .i64 1, .int .i64 20, .slice Ao10 y186.length co10, .slice Ao9 y189.length co9, .slice Ao8 y192.length co8] (0, 0) _ rfl (by refine qd_ ?_; refine a0d (cs := #[.int .i64 2, .int .i64 1, .int .i64 20, .slice Ao10 y186.length co10, .slice Ao9 y189.length co9, .slice none 0 0]) ?_ 5 _ rfl; refine qd_ ?_; refine a0d (cs := #[.int .i64 2, .int .i64 1, .int .i64 20, .slice Ao10 y186.length co10, .slice none 0 0, .slice none 0 0]) ?_ 4 _ rfl; refine qd_ ?_; refine a0d (cs := #[.int .i64 2, .int .i64 1, .int .i64 20, .slice none 0 0, .slice none 0 0, .slice none 0 0]) ?_ 3 _ rfl; refine qd_ ?_; refine a0d (cs := #[.int .i64 2, .int .i64 1, .int .i64 0, .slice none 0 0, .slice none 0 0, .slice none 0 0]) ?_ 2 _ rfl; refine qd_ ?_; refine a0d (cs := #[.int .i64 2, .int .i64 0, .int .i64 0, .slice none 0 0, .slice none 0 0, .slice none 0 0]) ?_ 1 _ rfl; refine qd_ ?_; refine a0d (cs := #[.int .i64 0, .int .i64 0, .int .i64 0, .slice none 0 0, .slice none 0 0, .slice none 0 0]) ?_ 0 _ rfl; refine qd_ ?_; exact BK185.out) Try.underlying30 rfl (by kernel_rfl)) rfl ?_
 exact ⟨_, _, _, qx_, by (with_reducible repeat (first | apply Kd.a1e | apply Kd.a1f | apply Kd.a0y)); exact Kd.a2w (Kd.a1c (p := ⟨gb185, 5, none⟩) (Kd.a1c (p := ⟨gb185, 4, none⟩) (Kd.a1c (p := ⟨gb185, 3, none⟩) (Kd.a1c (p := ⟨gb185, 2, none⟩) (Kd.a1c (p := ⟨gb185, 1, none⟩) (Kd.a1c (p := ⟨gb185, 0, none⟩) (Kd.a3d HO188.out BK185.out (by decide)) (fun _ hk => hk.2) (.int .i64 2)) (fun _ hk => hk.2) (.int .i64 1)) (fun _ hk => hk.2) (.int .i64 20)) (fun _ hk => hk.2) (.slice Ao10 y186.length co10)) (fun _ hk => hk.2) (.slice Ao9 y189.length co9)) (fun _ hk => hk.2) (.slice Ao8 y192.length co8)) (fun _ hk => trivial), by (with_reducible repeat (first | apply Kd.a1e | apply Kd.a1f | apply Kd.a0y)); exact Kd.a2w (Kd.a1c (p := ⟨gb185, 5, none⟩) (Kd.a1c (p := ⟨gb185, 4, none⟩) (Kd.a1c (p := ⟨gb185, 3, none⟩) (Kd.a1c (p := ⟨gb185, 2, none⟩) (Kd.a1c (p := ⟨gb185, 1, none⟩) (Kd.a1c (p := ⟨gb185, 0, none⟩) (Kd.a3d HO191.out BK185.out (by decide)) (fun _ hk => hk.2) (.int .i64 2)) (fun _ hk => hk.2) (.int .i64 1)) (fun _ hk => hk.2) (.int .i64 20)) (fun _ hk => hk.2) (.slice Ao10 y186.length co10)) (fun _ hk => hk.2) (.slice Ao9 y189.length co9)) (fun _ hk => hk.2) (.slice Ao8 y192.length co8)) (fun _ hk => trivial), by (with_reducible repeat (first | apply Kd.a1e | apply Kd.a1f | apply Kd.a0y)); exact Kd.a2w (Kd.a1c (p := ⟨gb185, 5, none⟩) (Kd.a1c (p := ⟨gb185, 4, none⟩) (Kd.a1c (p := ⟨gb185, 3, none⟩) (Kd.a1c (p := ⟨gb185, 2, none⟩) (Kd.a1c (p := ⟨gb185, 1, none⟩) (Kd.a1c (p := ⟨gb185, 0, none⟩) (Kd.a3d HO194.out BK185.out (by decide)) (fun _ hk => hk.2) (.int .i64 2)) (fun _ hk => hk.2) (.int .i64 1)) (fun _ hk => hk.2) (.int .i64 20)) (fun _ hk => hk.2) (.slice Ao10 y186.length co10)) (fun _ hk => hk.2) (.slice Ao9 y189.length co9)) (fun _ hk => hk.2) (.slice Ao8 y192.length co8)) (fun _ hk => trivial), qb_⟩
def a0s.f (a0 a1 a2 : Int) : Option (Bool) := if a1 ≤ a0 then (some (decide (a0 ≤ a2))) else (some false)
set_option maxHeartbeats 8000000 in
set_option maxRecDepth 100000 in
theorem a0s.calls (a0 a1 a2 : Int) (r : Bool) (w : World) (h : a0s.f a0 a1 a2 = some r) :
  Calls Try.prog 51 #[.int .i64 a0, .int .i64 a1, .int .i64 a2] w fun e w' => e = .returned (.bool r) ∧ a1j w w' := by
 have H : (if a1 ≤ a0 then (some (decide (a0 ≤ a2))) else (some false)) = some r := h
 clear h
 by_cases c4 : a1 ≤ a0
 ·rw [if_pos c4] at H
  have c4b0 : decide (a1 ≤ a0) = true := decide_eq_true c4
  clear c4
  obtain rfl := si_ H
  go_enter Try.func51, Try.ntmps51
  go_wp2
  go_ret
  exact ⟨qs_, qy_⟩
 ·rw [if_neg c4] at H
  have c4b0 : decide (a1 ≤ a0) = false := decide_eq_false c4
  clear c4
  obtain rfl := si_ H
  go_enter Try.func51, Try.ntmps51
  go_wp2
  go_ret
  exact ⟨qs_, qy_⟩
def a5c.f (a0 : Int) : Option (Int) := if a0 < 0 then (some (IntKind.u64.wrap (-(IntKind.u64.wrap (a0))))) else (some (IntKind.u64.wrap (a0)))
set_option maxHeartbeats 8000000 in
set_option maxRecDepth 100000 in
theorem a5c.calls (a0 r : Int) (w : World) (h : a5c.f a0 = some r) :
  Calls Try.prog 79 #[.int .i64 a0] w fun e w' => e = .returned (.int .u64 r) ∧ a1j w w' := by
 have H : (if a0 < 0 then (some (IntKind.u64.wrap (-(IntKind.u64.wrap (a0))))) else (some (IntKind.u64.wrap (a0)))) = some r := h
 clear h
 by_cases c2 : a0 < 0
 ·rw [if_pos c2] at H
  have c2b0 : decide (a0 < 0) = true := decide_eq_true c2
  clear c2
  obtain rfl := si_ H
  go_enter Try.func79, Try.ntmps79
  go_wp2
  go_ret
  exact ⟨qs_, qy_⟩
 ·rw [if_neg c2] at H
  have c2b0 : decide (a0 < 0) = false := decide_eq_false c2
  clear c2
  obtain rfl := si_ H
  go_enter Try.func79, Try.ntmps79
  go_wp2
  go_ret
  exact ⟨qs_, qy_⟩
end Go.Proofs.Ytemnlgefngjliaa.Px
