/- Contracts of Go functions, printed. Conditions: as each theorem states. -/
import Derived.Test.YtfbgkcadnmcakaaPx0
import Derived.Test.YtfbgkcadnmcakaaPx2
import Derived.Test.YtfbgkcadnmcakaaPx3
namespace Go.Proofs.Ytfbgkcadnmcakaa.Px
open Go.Proofs.Ytfbgkcadnmcakaa.Given
open Go.RowKit Go.Proofs.YtfbgkcadnmcakaaW.PrintWords Go.Proofs.YtfbgkcadnmcakaaW.PrintLast Go.Proofs.YtfbgkcadnmcakaaW.PrintMore
attribute [local go_sem] a2w a2u a3d a3c a2q a2r a2x a2y
set_option linter.unusedVariables false
set_option linter.unusedSimpArgs false
def a2j.f (k : Nat) (a0_0 a0_1 a0_2 a0_3 a0_4 a0_5 : Int) : Option (Bool) := (a1l.f k (([a0_0, a0_1, a0_2] : List Int))).bind fun t117 => (if t117 = true then (if 1 ≤ a0_3 then (if a0_3 ≤ 1000000000 then ((a1b.f k (([(⟨a0_4, a0_5⟩ : S28)] : List (S28)))).bind fun t121 => (some t121)) else (some false)) else (some false)) else (some false))
theorem a2j.mono : ∀ a0 a1 a2 a3 a4 a5 k, LeO (a2j.f k a0 a1 a2 a3 a4 a5) (a2j.f (k + 1) a0 a1 a2 a3 a4 a5) := by
 intro a0 a1 a2 a3 a4 a5 k
 unfold a2j.f
 with_reducible (repeat' first | apply a1l.mono | apply a1b.mono | apply LeO.refl | apply LeO.none | apply LeO.ite | refine LeO.bind ?_ (fun _ => ?_))
set_option maxHeartbeats 8000000 in
set_option maxRecDepth 100000 in
theorem a2j.calls (k : Nat) (a0_0 a0_1 a0_2 a0_3 a0_4 a0_5 : Int) (r : Bool) (w : World) (h : a2j.f k a0_0 a0_1 a0_2 a0_3 a0_4 a0_5 = some r) :
  Calls Try.prog 22 #[.agg #[.int .i64 a0_0, .int .i64 a0_1, .int .i64 a0_2, .int .i64 a0_3, .int .i64 a0_4, .int .i64 a0_5]] w fun e w' => e = .returned (.bool r) ∧ Below w.heap.size w w' := by
 have hu30 := Try.underlying30
 have hu28 := Try.underlying28
 have HB := am_ (Below.refl w.heap.size w)
 have H : ((a1l.f k (([a0_0, a0_1, a0_2] : List Int))).bind fun t117 => (if t117 = true then (if 1 ≤ a0_3 then (if a0_3 ≤ 1000000000 then ((a1b.f k (([(⟨a0_4, a0_5⟩ : S28)] : List (S28)))).bind fun t121 => (some t121)) else (some false)) else (some false)) else (some false))) = some r := h
 clear h
 obtain ⟨y114, hy114⟩ : ∃ y_ : List Int, y_ = (([a0_0, a0_1, a0_2] : List Int)) := ⟨_, rfl⟩
 replace H : ((a1l.f k y114).bind fun t117 => (if t117 = true then (if 1 ≤ a0_3 then (if a0_3 ≤ 1000000000 then ((a1b.f k (([(⟨a0_4, a0_5⟩ : S28)] : List (S28)))).bind fun t121 => (some t121)) else (some false)) else (some false)) else (some false))) = some r := by first | (rw [hy114]; with_reducible exact H) | (have H2_ := (Option.bind_some _ _).symm.trans H; rw [hy114]; with_reducible exact H2_) | (have H2_ := (Option.bind_some _ _).symm.trans H; with_reducible exact H2_) | with_reducible exact H | (rw [hy114]; exact H) | exact H
 have Ny114 := am_ hy114
 clear hy114
 replace H := bm_ H
 obtain ⟨t117, A20, H⟩ := H
 replace H : (if t117 = true then (if 1 ≤ a0_3 then (if a0_3 ≤ 1000000000 then ((a1b.f k (([(⟨a0_4, a0_5⟩ : S28)] : List (S28)))).bind fun t121 => (some t121)) else (some false)) else (some false)) else (some false)) = some r := H
 have A2 := am_ A20
 clear A20
 by_cases c3 : t117 = true
 ·subst c3
  have H1 : (if 1 ≤ a0_3 then (if a0_3 ≤ 1000000000 then ((a1b.f k (([(⟨a0_4, a0_5⟩ : S28)] : List (S28)))).bind fun t121 => (some t121)) else (some false)) else (some false)) = some r := by rw [if_pos rfl] at H; exact H
  clear H
  have H := H1
  clear H1
  by_cases c4 : 1 ≤ a0_3
  ·rw [if_pos c4] at H
   have c4b0 : decide (1 ≤ a0_3) = true := decide_eq_true c4
   clear c4
   by_cases c5 : a0_3 ≤ 1000000000
   ·rw [if_pos c5] at H
    have c5b0 : decide (a0_3 ≤ 1000000000) = true := decide_eq_true c5
    clear c5
    obtain ⟨y118, hy118⟩ : ∃ y_ : List (S28), y_ = (([(⟨a0_4, a0_5⟩ : S28)] : List (S28))) := ⟨_, rfl⟩
    replace H : ((a1b.f k y118).bind fun t121 => (some t121)) = some r := by first | (rw [hy118]; with_reducible exact H) | (have H2_ := (Option.bind_some _ _).symm.trans H; rw [hy118]; with_reducible exact H2_) | (have H2_ := (Option.bind_some _ _).symm.trans H; with_reducible exact H2_) | with_reducible exact H | (rw [hy118]; exact H) | exact H
    have Ny118 := am_ hy118
    clear hy118
    replace H := bm_ H
    obtain ⟨t121, A60, H⟩ := H
    replace H : (some t121) = some r := H
    have A6 := am_ A60
    clear A60
    obtain rfl := si_ H
    go_enter Try.func22, Try.ntmps22
    go_wp2_with (first | ((with_reducible refine a1g (N := 1) rfl ?_); (try (refine a2a (by rfl) ?_; dsimp only)); refine qev_ 1 #[.int .i64 a0_0, .int .i64 a0_1, .int .i64 a0_2, .int .i64 a0_3, .int .i64 a0_4, .int .i64 a0_5] 30 ?_; intro gb113 hg w7 hbox hb; have BK113 := am_ (hbox); have GW113 := qga_ hg; have GE113 := qga_ hg; replace HB := qbs_ hb; clear hb hbox hg; obtain ⟨z'8_0, z'8_1, z'8_2, z'8_3, z'8_4, z'8_5⟩ := qz6_ BK113; obtain ⟨y'8_0, y'8_1, y'8_2, y'8_3, y'8_4, y'8_5⟩ := qf6_ BK113) | ((with_reducible refine a1g (N := 9) rfl ?_); (try (refine a2a (by rfl) ?_; dsimp only)); refine Kd.a4m (Kd.int .i64) _ 3 ?hg (N := 9) ?hd (xs := ([a0_0, a0_1, a0_2] : List Int)) (inner := [.int .i64 a0_0, .int .i64 a0_1, .int .i64 a0_2]) (ok := fun _ => True) (okp := fun _ => True) ?hr ?hp (fun _ hk => hk) trivial (Below.refl _ _) (Nat.le_refl _) (by simp) ?_; (case hd => rfl); (case hg => rfl); (case hr => exact qq_); (case hp => exact (Reps.one (show Kd.M (Kd.int .i64) _ _ _ a0_0 [.int .i64 a0_0] from rfl) (Reps.one (show Kd.M (Kd.int .i64) _ _ _ a0_1 [.int .i64 a0_1] from rfl) (Reps.one (show Kd.M (Kd.int .i64) _ _ _ a0_2 [.int .i64 a0_2] from rfl) (Reps.none _ _))))); intro v115 w9 ho10 hb hg_ hnew_; clear hg_ hnew_; (first | rw [← Ny114.out] at ho10 | (simp only [Int.reduceToNat] at ho10; rw [← Ny114.out] at ho10)); have HO116 := am_ (Kd.a2k ho10 (a1s qb_)); replace BK113 := qkb_ BK113 hb; replace HB := qbs_ hb; clear hb ho10; obtain ⟨Ao11, co11, eo11⟩ := Kd.a1v HO116.out; subst eo11) | ((with_reducible refine a1c (f := 27) rfl ?_); refine a1y (some 10) rfl rfl Try.func27 (by kernel_rfl) rfl #[.slice Ao11 y114.length co11] rfl ql_ ?_; (with_reducible refine (a1l.calls k _ _ y114 true _ ?s1 ?s2 A2.out).mono ?_); (case s1 => exact qv_ (Kd.a0p HO116.out).2.2); (case s2 => exact (Kd.a0p HO116.out).2.1); rintro e w' ⟨rfl, ⟨nd, rfl⟩⟩; refine ⟨_, rfl, ?_⟩; obtain ⟨z'12_0, z'12_1, z'12_2, z'12_3, z'12_4, z'12_5⟩ := qz6_ BK113; obtain ⟨y'12_0, y'12_1, y'12_2, y'12_3, y'12_4, y'12_5⟩ := qf6_ BK113) | ((with_reducible refine a1g (N := 24) rfl ?_); (try (refine a2a (by rfl) ?_; dsimp only)); refine Kd.a4m k28 _ 28 ?hg (N := 24) ?hd (xs := ([(⟨a0_4, a0_5⟩ : S28)] : List (S28))) (inner := [.int .i64 a0_4, .int .i64 a0_5]) (ok := fun _ => True) (okp := fun _ => True) ?hr ?hp (fun _ hk => hk) trivial (Below.refl _ _) (Nat.le_refl _) (by simp) ?_; (case hd => rfl); (case hg => rfl); (case hr => exact qq_); (case hp => exact (Reps.c2 (show Kd.M k28 _ _ _ (⟨a0_4, a0_5⟩ : S28) [.int .i64 a0_4, .int .i64 a0_5] from (b1a _ _ _ (⟨a0_4, a0_5⟩ : S28) )) (Reps.none _ _))); intro v119 w13 ho14 hb hg_ hnew_; clear hg_ hnew_; (first | rw [← Ny118.out] at ho14 | (simp only [Int.reduceToNat] at ho14; rw [← Ny118.out] at ho14)); replace HO116 := qrb_ HO116 hb; have HO120 := am_ (Kd.a2k ho14 (a1s qb_)); replace BK113 := qkb_ BK113 hb; replace HB := qbs_ hb; clear hb ho14; obtain ⟨Ao15, co15, eo15⟩ := Kd.a1v HO120.out; subst eo15) | (go_at_call 39; (with_reducible refine (a1b.calls k _ _ y118 t121 _ ?s1 ?s2 A6.out).mono ?_); (case s1 => exact qv_ (Kd.a0p HO120.out).2.2); (case s2 => exact (Kd.a0p HO120.out).2.1); rintro e w16 ⟨rfl, hb⟩; replace HO116 := qrb_ HO116 hb; replace HO120 := qrb_ HO120 hb; replace BK113 := qkb_ BK113 hb; replace HB := qbs_ hb; (try clear hb); (try clear hb2); (try clear hk); (try clear hi)))
    go_ret
    exact ⟨qx_, qb_⟩
   ·rw [if_neg c5] at H
    have c5b0 : decide (a0_3 ≤ 1000000000) = false := decide_eq_false c5
    clear c5
    obtain rfl := si_ H
    go_enter Try.func22, Try.ntmps22
    go_wp2_with (first | ((with_reducible refine a1g (N := 1) rfl ?_); (try (refine a2a (by rfl) ?_; dsimp only)); refine qev_ 1 #[.int .i64 a0_0, .int .i64 a0_1, .int .i64 a0_2, .int .i64 a0_3, .int .i64 a0_4, .int .i64 a0_5] 30 ?_; intro gb113 hg w17 hbox hb; have BK113 := am_ (hbox); have GW113 := qga_ hg; have GE113 := qga_ hg; replace HB := qbs_ hb; clear hb hbox hg; obtain ⟨z'18_0, z'18_1, z'18_2, z'18_3, z'18_4, z'18_5⟩ := qz6_ BK113; obtain ⟨y'18_0, y'18_1, y'18_2, y'18_3, y'18_4, y'18_5⟩ := qf6_ BK113) | ((with_reducible refine a1g (N := 9) rfl ?_); (try (refine a2a (by rfl) ?_; dsimp only)); refine Kd.a4m (Kd.int .i64) _ 3 ?hg (N := 9) ?hd (xs := ([a0_0, a0_1, a0_2] : List Int)) (inner := [.int .i64 a0_0, .int .i64 a0_1, .int .i64 a0_2]) (ok := fun _ => True) (okp := fun _ => True) ?hr ?hp (fun _ hk => hk) trivial (Below.refl _ _) (Nat.le_refl _) (by simp) ?_; (case hd => rfl); (case hg => rfl); (case hr => exact qq_); (case hp => exact (Reps.one (show Kd.M (Kd.int .i64) _ _ _ a0_0 [.int .i64 a0_0] from rfl) (Reps.one (show Kd.M (Kd.int .i64) _ _ _ a0_1 [.int .i64 a0_1] from rfl) (Reps.one (show Kd.M (Kd.int .i64) _ _ _ a0_2 [.int .i64 a0_2] from rfl) (Reps.none _ _))))); intro v115 w19 ho20 hb hg_ hnew_; clear hg_ hnew_; (first | rw [← Ny114.out] at ho20 | (simp only [Int.reduceToNat] at ho20; rw [← Ny114.out] at ho20)); have HO116 := am_ (Kd.a2k ho20 (a1s qb_)); replace BK113 := qkb_ BK113 hb; replace HB := qbs_ hb; clear hb ho20; obtain ⟨Ao21, co21, eo21⟩ := Kd.a1v HO116.out; subst eo21) | ((with_reducible refine a1c (f := 27) rfl ?_); refine a1y (some 10) rfl rfl Try.func27 (by kernel_rfl) rfl #[.slice Ao21 y114.length co21] rfl ql_ ?_; (with_reducible refine (a1l.calls k _ _ y114 true _ ?s1 ?s2 A2.out).mono ?_); (case s1 => exact qv_ (Kd.a0p HO116.out).2.2); (case s2 => exact (Kd.a0p HO116.out).2.1); rintro e w' ⟨rfl, ⟨nd, rfl⟩⟩; refine ⟨_, rfl, ?_⟩; obtain ⟨z'22_0, z'22_1, z'22_2, z'22_3, z'22_4, z'22_5⟩ := qz6_ BK113; obtain ⟨y'22_0, y'22_1, y'22_2, y'22_3, y'22_4, y'22_5⟩ := qf6_ BK113))
    go_ret
    exact ⟨qx_, qb_⟩
  ·rw [if_neg c4] at H
   have c4b0 : decide (1 ≤ a0_3) = false := decide_eq_false c4
   clear c4
   obtain rfl := si_ H
   go_enter Try.func22, Try.ntmps22
   go_wp2_with (first | ((with_reducible refine a1g (N := 1) rfl ?_); (try (refine a2a (by rfl) ?_; dsimp only)); refine qev_ 1 #[.int .i64 a0_0, .int .i64 a0_1, .int .i64 a0_2, .int .i64 a0_3, .int .i64 a0_4, .int .i64 a0_5] 30 ?_; intro gb113 hg w23 hbox hb; have BK113 := am_ (hbox); have GW113 := qga_ hg; have GE113 := qga_ hg; replace HB := qbs_ hb; clear hb hbox hg; obtain ⟨z'24_0, z'24_1, z'24_2, z'24_3, z'24_4, z'24_5⟩ := qz6_ BK113; obtain ⟨y'24_0, y'24_1, y'24_2, y'24_3, y'24_4, y'24_5⟩ := qf6_ BK113) | ((with_reducible refine a1g (N := 9) rfl ?_); (try (refine a2a (by rfl) ?_; dsimp only)); refine Kd.a4m (Kd.int .i64) _ 3 ?hg (N := 9) ?hd (xs := ([a0_0, a0_1, a0_2] : List Int)) (inner := [.int .i64 a0_0, .int .i64 a0_1, .int .i64 a0_2]) (ok := fun _ => True) (okp := fun _ => True) ?hr ?hp (fun _ hk => hk) trivial (Below.refl _ _) (Nat.le_refl _) (by simp) ?_; (case hd => rfl); (case hg => rfl); (case hr => exact qq_); (case hp => exact (Reps.one (show Kd.M (Kd.int .i64) _ _ _ a0_0 [.int .i64 a0_0] from rfl) (Reps.one (show Kd.M (Kd.int .i64) _ _ _ a0_1 [.int .i64 a0_1] from rfl) (Reps.one (show Kd.M (Kd.int .i64) _ _ _ a0_2 [.int .i64 a0_2] from rfl) (Reps.none _ _))))); intro v115 w25 ho26 hb hg_ hnew_; clear hg_ hnew_; (first | rw [← Ny114.out] at ho26 | (simp only [Int.reduceToNat] at ho26; rw [← Ny114.out] at ho26)); have HO116 := am_ (Kd.a2k ho26 (a1s qb_)); replace BK113 := qkb_ BK113 hb; replace HB := qbs_ hb; clear hb ho26; obtain ⟨Ao27, co27, eo27⟩ := Kd.a1v HO116.out; subst eo27) | ((with_reducible refine a1c (f := 27) rfl ?_); refine a1y (some 10) rfl rfl Try.func27 (by kernel_rfl) rfl #[.slice Ao27 y114.length co27] rfl ql_ ?_; (with_reducible refine (a1l.calls k _ _ y114 true _ ?s1 ?s2 A2.out).mono ?_); (case s1 => exact qv_ (Kd.a0p HO116.out).2.2); (case s2 => exact (Kd.a0p HO116.out).2.1); rintro e w' ⟨rfl, ⟨nd, rfl⟩⟩; refine ⟨_, rfl, ?_⟩; obtain ⟨z'28_0, z'28_1, z'28_2, z'28_3, z'28_4, z'28_5⟩ := qz6_ BK113; obtain ⟨y'28_0, y'28_1, y'28_2, y'28_3, y'28_4, y'28_5⟩ := qf6_ BK113))
   go_ret
   exact ⟨qx_, qb_⟩
 ·replace c3 := be_ c3
  subst c3
  have H1 : (some false) = some r := by rw [if_neg (show ¬ (false = true) by decide)] at H; exact H
  clear H
  have H := H1
  clear H1
  obtain rfl := si_ H
  go_enter Try.func22, Try.ntmps22
  go_wp2_with (first | ((with_reducible refine a1g (N := 1) rfl ?_); (try (refine a2a (by rfl) ?_; dsimp only)); refine qev_ 1 #[.int .i64 a0_0, .int .i64 a0_1, .int .i64 a0_2, .int .i64 a0_3, .int .i64 a0_4, .int .i64 a0_5] 30 ?_; intro gb113 hg w29 hbox hb; have BK113 := am_ (hbox); have GW113 := qga_ hg; have GE113 := qga_ hg; replace HB := qbs_ hb; clear hb hbox hg; obtain ⟨z'30_0, z'30_1, z'30_2, z'30_3, z'30_4, z'30_5⟩ := qz6_ BK113; obtain ⟨y'30_0, y'30_1, y'30_2, y'30_3, y'30_4, y'30_5⟩ := qf6_ BK113) | ((with_reducible refine a1g (N := 9) rfl ?_); (try (refine a2a (by rfl) ?_; dsimp only)); refine Kd.a4m (Kd.int .i64) _ 3 ?hg (N := 9) ?hd (xs := ([a0_0, a0_1, a0_2] : List Int)) (inner := [.int .i64 a0_0, .int .i64 a0_1, .int .i64 a0_2]) (ok := fun _ => True) (okp := fun _ => True) ?hr ?hp (fun _ hk => hk) trivial (Below.refl _ _) (Nat.le_refl _) (by simp) ?_; (case hd => rfl); (case hg => rfl); (case hr => exact qq_); (case hp => exact (Reps.one (show Kd.M (Kd.int .i64) _ _ _ a0_0 [.int .i64 a0_0] from rfl) (Reps.one (show Kd.M (Kd.int .i64) _ _ _ a0_1 [.int .i64 a0_1] from rfl) (Reps.one (show Kd.M (Kd.int .i64) _ _ _ a0_2 [.int .i64 a0_2] from rfl) (Reps.none _ _))))); intro v115 w31 ho32 hb hg_ hnew_; clear hg_ hnew_; (first | rw [← Ny114.out] at ho32 | (simp only [Int.reduceToNat] at ho32; rw [← Ny114.out] at ho32)); have HO116 := am_ (Kd.a2k ho32 (a1s qb_)); replace BK113 := qkb_ BK113 hb; replace HB := qbs_ hb; clear hb ho32; obtain ⟨Ao33, co33, eo33⟩ := Kd.a1v HO116.out; subst eo33) | ((with_reducible refine a1c (f := 27) rfl ?_); refine a1y (some 10) rfl rfl Try.func27 (by kernel_rfl) rfl #[.slice Ao33 y114.length co33] rfl ql_ ?_; (with_reducible refine (a1l.calls k _ _ y114 false _ ?s1 ?s2 A2.out).mono ?_); (case s1 => exact qv_ (Kd.a0p HO116.out).2.2); (case s2 => exact (Kd.a0p HO116.out).2.1); rintro e w' ⟨rfl, ⟨nd, rfl⟩⟩; refine ⟨_, rfl, ?_⟩))
  go_ret
  exact ⟨qx_, qb_⟩
def a2f.f (a0 : Int) : Option (Bool) := if 0 ≤ a0 then (some (decide (a0 ≤ 36524))) else (some false)
set_option maxHeartbeats 8000000 in
set_option maxRecDepth 100000 in
theorem a2f.calls (a0 : Int) (r : Bool) (w : World) (h : a2f.f a0 = some r) :
  Calls Try.prog 24 #[.int .i64 a0] w fun e w' => e = .returned (.bool r) ∧ a3j w w' := by
 have H : (if 0 ≤ a0 then (some (decide (a0 ≤ 36524))) else (some false)) = some r := h
 clear h
 by_cases c2 : 0 ≤ a0
 ·rw [if_pos c2] at H
  have c2b0 : decide (0 ≤ a0) = true := decide_eq_true c2
  clear c2
  obtain rfl := si_ H
  go_enter Try.func24, Try.ntmps24
  go_wp2
  go_ret
  exact ⟨qs_, qy_⟩
 ·rw [if_neg c2] at H
  have c2b0 : decide (0 ≤ a0) = false := decide_eq_false c2
  clear c2
  obtain rfl := si_ H
  go_enter Try.func24, Try.ntmps24
  go_wp2
  go_ret
  exact ⟨qs_, qy_⟩
def a2z.f (k : Nat) (a0_0 a0_1 a0_2 a0_3 : Int) : Option (Bool) := (a1l.f k (([a0_0, a0_1, a0_2] : List Int))).bind fun t126 => (if t126 = true then ((a2f.f a0_3).bind fun t127 => (some t127)) else (some false))
theorem a2z.mono : ∀ a0 a1 a2 a3 k, LeO (a2z.f k a0 a1 a2 a3) (a2z.f (k + 1) a0 a1 a2 a3) := by
 intro a0 a1 a2 a3 k
 unfold a2z.f
 with_reducible (repeat' first | apply a1l.mono | apply LeO.refl | apply LeO.none | apply LeO.ite | refine LeO.bind ?_ (fun _ => ?_))
set_option maxHeartbeats 8000000 in
set_option maxRecDepth 100000 in
theorem a2z.calls (k : Nat) (a0_0 a0_1 a0_2 a0_3 : Int) (r : Bool) (w : World) (h : a2z.f k a0_0 a0_1 a0_2 a0_3 = some r) :
  Calls Try.prog 41 #[.agg #[.int .i64 a0_0, .int .i64 a0_1, .int .i64 a0_2, .int .i64 a0_3]] w fun e w' => e = .returned (.bool r) ∧ Below w.heap.size w w' := by
 have hu26 := Try.underlying26
 have HB := am_ (Below.refl w.heap.size w)
 have H : ((a1l.f k (([a0_0, a0_1, a0_2] : List Int))).bind fun t126 => (if t126 = true then ((a2f.f a0_3).bind fun t127 => (some t127)) else (some false))) = some r := h
 clear h
 obtain ⟨y123, hy123⟩ : ∃ y_ : List Int, y_ = (([a0_0, a0_1, a0_2] : List Int)) := ⟨_, rfl⟩
 replace H : ((a1l.f k y123).bind fun t126 => (if t126 = true then ((a2f.f a0_3).bind fun t127 => (some t127)) else (some false))) = some r := by first | (rw [hy123]; with_reducible exact H) | (have H2_ := (Option.bind_some _ _).symm.trans H; rw [hy123]; with_reducible exact H2_) | (have H2_ := (Option.bind_some _ _).symm.trans H; with_reducible exact H2_) | with_reducible exact H | (rw [hy123]; exact H) | exact H
 have Ny123 := am_ hy123
 clear hy123
 replace H := bm_ H
 obtain ⟨t126, A20, H⟩ := H
 replace H : (if t126 = true then ((a2f.f a0_3).bind fun t127 => (some t127)) else (some false)) = some r := H
 have A2 := am_ A20
 clear A20
 by_cases c3 : t126 = true
 ·subst c3
  have H1 : ((a2f.f a0_3).bind fun t127 => (some t127)) = some r := by rw [if_pos rfl] at H; exact H
  clear H
  have H := H1
  clear H1
  replace H := bm_ H
  obtain ⟨t127, A40, H⟩ := H
  replace H : (some t127) = some r := H
  have A4 := am_ A40
  clear A40
  obtain rfl := si_ H
  go_enter Try.func41, Try.ntmps41
  go_wp2_with (first | ((with_reducible refine a1g (N := 1) rfl ?_); refine qev_ 1 #[.int .i64 a0_0, .int .i64 a0_1, .int .i64 a0_2, .int .i64 a0_3] 26 ?_; intro gb122 hg w5 hbox hb; have BK122 := am_ (hbox); have GW122 := qga_ hg; have GE122 := qga_ hg; replace HB := qbs_ hb; clear hb hbox hg; obtain ⟨z'6_0, z'6_1, z'6_2, z'6_3⟩ := qz4_ BK122; obtain ⟨y'6_0, y'6_1, y'6_2, y'6_3⟩ := qf4_ BK122) | ((with_reducible refine a1g (N := 9) rfl ?_); refine Kd.a4m (Kd.int .i64) _ 3 ?hg (N := 9) ?hd (xs := ([a0_0, a0_1, a0_2] : List Int)) (inner := [.int .i64 a0_0, .int .i64 a0_1, .int .i64 a0_2]) (ok := fun _ => True) (okp := fun _ => True) ?hr ?hp (fun _ hk => hk) trivial (Below.refl _ _) (Nat.le_refl _) (by simp) ?_; (case hd => rfl); (case hg => rfl); (case hr => exact qq_); (case hp => exact (Reps.one (show Kd.M (Kd.int .i64) _ _ _ a0_0 [.int .i64 a0_0] from rfl) (Reps.one (show Kd.M (Kd.int .i64) _ _ _ a0_1 [.int .i64 a0_1] from rfl) (Reps.one (show Kd.M (Kd.int .i64) _ _ _ a0_2 [.int .i64 a0_2] from rfl) (Reps.none _ _))))); intro v124 w7 ho8 hb hg_ hnew_; clear hg_ hnew_; (first | rw [← Ny123.out] at ho8 | (simp only [Int.reduceToNat] at ho8; rw [← Ny123.out] at ho8)); have HO125 := am_ (Kd.a2k ho8 (a1s qb_)); replace BK122 := qkb_ BK122 hb; replace HB := qbs_ hb; clear hb ho8; obtain ⟨Ao9, co9, eo9⟩ := Kd.a1v HO125.out; subst eo9) | ((with_reducible refine a1c (f := 27) rfl ?_); refine a1y (some 10) rfl rfl Try.func27 (by kernel_rfl) rfl #[.slice Ao9 y123.length co9] rfl ql_ ?_; (with_reducible refine (a1l.calls k _ _ y123 true _ ?s1 ?s2 A2.out).mono ?_); (case s1 => exact qv_ (Kd.a0p HO125.out).2.2); (case s2 => exact (Kd.a0p HO125.out).2.1); rintro e w' ⟨rfl, ⟨nd, rfl⟩⟩; refine ⟨_, rfl, ?_⟩; obtain ⟨z'10_0, z'10_1, z'10_2, z'10_3⟩ := qz4_ BK122; obtain ⟨y'10_0, y'10_1, y'10_2, y'10_3⟩ := qf4_ BK122) | (go_at_call 24; (with_reducible refine (a2f.calls a0_3 t127 _ A4.out).mono ?_); rintro e w' ⟨rfl, ⟨nd, rfl⟩⟩))
  go_ret
  exact ⟨qx_, qb_⟩
 ·replace c3 := be_ c3
  subst c3
  have H1 : (some false) = some r := by rw [if_neg (show ¬ (false = true) by decide)] at H; exact H
  clear H
  have H := H1
  clear H1
  obtain rfl := si_ H
  go_enter Try.func41, Try.ntmps41
  go_wp2_with (first | ((with_reducible refine a1g (N := 1) rfl ?_); refine qev_ 1 #[.int .i64 a0_0, .int .i64 a0_1, .int .i64 a0_2, .int .i64 a0_3] 26 ?_; intro gb122 hg w11 hbox hb; have BK122 := am_ (hbox); have GW122 := qga_ hg; have GE122 := qga_ hg; replace HB := qbs_ hb; clear hb hbox hg; obtain ⟨z'12_0, z'12_1, z'12_2, z'12_3⟩ := qz4_ BK122; obtain ⟨y'12_0, y'12_1, y'12_2, y'12_3⟩ := qf4_ BK122) | ((with_reducible refine a1g (N := 9) rfl ?_); refine Kd.a4m (Kd.int .i64) _ 3 ?hg (N := 9) ?hd (xs := ([a0_0, a0_1, a0_2] : List Int)) (inner := [.int .i64 a0_0, .int .i64 a0_1, .int .i64 a0_2]) (ok := fun _ => True) (okp := fun _ => True) ?hr ?hp (fun _ hk => hk) trivial (Below.refl _ _) (Nat.le_refl _) (by simp) ?_; (case hd => rfl); (case hg => rfl); (case hr => exact qq_); (case hp => exact (Reps.one (show Kd.M (Kd.int .i64) _ _ _ a0_0 [.int .i64 a0_0] from rfl) (Reps.one (show Kd.M (Kd.int .i64) _ _ _ a0_1 [.int .i64 a0_1] from rfl) (Reps.one (show Kd.M (Kd.int .i64) _ _ _ a0_2 [.int .i64 a0_2] from rfl) (Reps.none _ _))))); intro v124 w13 ho14 hb hg_ hnew_; clear hg_ hnew_; (first | rw [← Ny123.out] at ho14 | (simp only [Int.reduceToNat] at ho14; rw [← Ny123.out] at ho14)); have HO125 := am_ (Kd.a2k ho14 (a1s qb_)); replace BK122 := qkb_ BK122 hb; replace HB := qbs_ hb; clear hb ho14; obtain ⟨Ao15, co15, eo15⟩ := Kd.a1v HO125.out; subst eo15) | ((with_reducible refine a1c (f := 27) rfl ?_); refine a1y (some 10) rfl rfl Try.func27 (by kernel_rfl) rfl #[.slice Ao15 y123.length co15] rfl ql_ ?_; (with_reducible refine (a1l.calls k _ _ y123 false _ ?s1 ?s2 A2.out).mono ?_); (case s1 => exact qv_ (Kd.a0p HO125.out).2.2); (case s2 => exact (Kd.a0p HO125.out).2.1); rintro e w' ⟨rfl, ⟨nd, rfl⟩⟩; refine ⟨_, rfl, ?_⟩))
  go_ret
  exact ⟨qx_, qb_⟩
def a0s.l0 : Nat → List (S26) → Int → Int → Option (Bool)
 | 0, _, _, _ => none
 | k + 1, x7, x8, x9 => if x9 < x8 then (if 0 ≤ x9 then (if x9 < (x7.length : Int) then ((a2z.f k ((a0c x7 x9).f0) ((a0c x7 x9).f1) ((a0c x7 x9).f2) ((a0c x7 x9).f3)).bind fun t130 => (if t130 = true then (a0s.l0 k x7 x8 (wrap64 (x9 + 1))) else (some false))) else (none)) else (none)) else (some true)
def a0s.f (k : Nat) (l0 : List (S26))  : Option (Bool) := a0s.l0 k l0 (l0.length : Int) 0
theorem a0s.a1k : ∀ k, (∀ y0 y1 y2, LeO (a0s.l0 k y0 y1 y2) (a0s.l0 (k + 1) y0 y1 y2))
 | 0 => fun _ _ _ r h => by simp [a0s.l0] at h
 | k + 1 => by
  have ih0 := a0s.a1k k
  ·intro y0 y1 y2
   unfold a0s.l0
   with_reducible (repeat' first | apply ih0 | apply a2z.mono | apply LeO.refl | apply LeO.none | apply LeO.ite | refine LeO.bind ?_ (fun _ => ?_))
theorem a0s.mono : ∀ a0 k, LeO (a0s.f k a0) (a0s.f (k + 1) a0) := by
 intro a0 k
 have ih0 := a0s.a1k k
 unfold a0s.f
 with_reducible (repeat' first | apply ih0 | apply a2z.mono | apply LeO.refl | apply LeO.none | apply LeO.ite | refine LeO.bind ?_ (fun _ => ?_))
set_option maxHeartbeats 8000000 in
set_option maxRecDepth 100000 in
theorem a0s.calls (k : Nat) (A0 : Option Addr) (c0 : Nat) (l0 : List (S26))  (r : Bool) (w : World) (hr0 : Kd.C k26 w A0 l0.length l0) (hc0 : l0.length ≤ c0) (h : a0s.f k l0 = some r) :
  Calls Try.prog 40 #[.slice A0 l0.length c0, .func (.func 41) #[] #[]] w fun e w' => e = .returned (.bool r) ∧ Below w.heap.size w w' := by
 have hu26 := Try.underlying26
 have HR0 := am_ hr0
 have HC0 := am_ hc0
 clear hr0 hc0
 have HB := am_ (Below.refl w.heap.size w)
 have H : (a0s.l0 k l0 (l0.length : Int) 0) = some r := h
 clear h
 have H' := am_ H
 clear H
 go_enter Try.func40, Try.ntmps40
 go_wp2
 go_loopg [9] k (fun kq v9 w' => ∃ (x9_1 : Int), v9 = .int .i64 x9_1 ∧ Aside0 (a0s.l0 kq l0 (l0.length : Int) x9_1 = some r) ∧ Aside0 (kq ≤ k) ∧ Aside0 (Below w.heap.size w w'))
 case atStart => exact ⟨(0), qs_, H', ⟨Nat.le_refl _⟩, ⟨qb_⟩⟩
 case round =>
  clear H'
  try clear p2
  obtain ⟨x9_1, rfl, HA, HK1, HB⟩ := hrel
  cases gk with
  | zero => exact absurd HA.out (by simp [a0s.l0])
  | succ k1 =>
   have H := HA.out
   clear HA
   simp only [a0s.l0] at H
   by_cases c3 : x9_1 < (l0.length : Int)
   ·rw [if_pos c3] at H
    have c3b0 : decide (x9_1 < (l0.length : Int)) = true := decide_eq_true c3
    clear c3
    by_cases c4 : 0 ≤ x9_1
    ·rw [if_pos c4] at H
     have c4b0 : decide (0 ≤ x9_1) = true := decide_eq_true c4
     clear c4
     by_cases c5 : x9_1 < (l0.length : Int)
     ·rw [if_pos c5] at H
      have c5b0 : decide (x9_1 < (l0.length : Int)) = true := decide_eq_true c5
      clear c5
      replace H := bm_ H
      obtain ⟨t130, A60, H⟩ := H
      replace H : (if t130 = true then (a0s.l0 k1 l0 (l0.length : Int) (wrap64 (x9_1 + 1))) else (some false)) = some r := H
      have A6 := am_ A60
      clear A60
      by_cases c7 : t130 = true
      ·subst c7
       have H1 : (a0s.l0 k1 l0 (l0.length : Int) (wrap64 (x9_1 + 1))) = some r := by rw [if_pos rfl] at H; exact H
       clear H
       have H := H1
       clear H1
       have H' := am_ H
       clear H
       have p128 : 0 ≤ (x9_1 : Int) := ot_
       have q128 : x9_1 < (l0.length : Int) := ot_
       obtain ⟨ad128, e128, hx128_0, hx128_1, hx128_2, hx128_3⟩ := a3i HR0.out x9_1 p128 q128
       cases e128
       replace hx128_0 := qh_ HB hx128_0
       replace hx128_1 := qh_ HB hx128_1
       replace hx128_2 := qh_ HB hx128_2
       replace hx128_3 := qh_ HB hx128_3
       replace p128 := eq_true p128
       replace q128 := eq_true q128
       go_wp2_with (first | ((with_reducible refine a1g (N := 6) rfl ?_); refine qev_ 6 #[.int .i64 0, .int .i64 0, .int .i64 0, .int .i64 0] 26 ?_; intro gb129 hg w8 hbox hb; have BK129 := am_ (hbox); have GW129 := qga_ hg; have GE129 := qga_ hg; replace HB := qbs_ hb; clear hb hbox hg; obtain ⟨z'9_0, z'9_1, z'9_2, z'9_3⟩ := qz4_ BK129; obtain ⟨y'9_0, y'9_1, y'9_2, y'9_3⟩ := qf4_ BK129) | (go_at_call 41; (with_reducible refine (a2z.calls k1 ((a0c l0 x9_1).f0) ((a0c l0 x9_1).f1) ((a0c l0 x9_1).f2) ((a0c l0 x9_1).f3) true _ A6.out).mono ?_); rintro e w10 ⟨rfl, hb⟩; replace BK129 := am_ (a2v (g := gb129) (o := .cells #[.int .i64 ((a0c l0 x9_1).f0), .int .i64 ((a0c l0 x9_1).f1), .int .i64 ((a0c l0 x9_1).f2), .int .i64 ((a0c l0 x9_1).f3)] 26 (0, 0)) (by refine qd_ ?_; refine a0q (cs := #[.int .i64 ((a0c l0 x9_1).f0), .int .i64 ((a0c l0 x9_1).f1), .int .i64 ((a0c l0 x9_1).f2), .int .i64 0]) ?_ 3 _ rfl; refine qd_ ?_; refine a0q (cs := #[.int .i64 ((a0c l0 x9_1).f0), .int .i64 ((a0c l0 x9_1).f1), .int .i64 0, .int .i64 0]) ?_ 2 _ rfl; refine qd_ ?_; refine a0q (cs := #[.int .i64 ((a0c l0 x9_1).f0), .int .i64 0, .int .i64 0, .int .i64 0]) ?_ 1 _ rfl; refine qd_ ?_; refine a0q (cs := #[.int .i64 0, .int .i64 0, .int .i64 0, .int .i64 0]) ?_ 0 _ rfl; refine qd_ ?_; exact BK129.out) hb); replace HB := qbs_ hb; (try clear hb); (try clear hb2); (try clear hk); (try clear hi)))
       go_roundg k1
       case measure => have := HK1.out; omega
       case rel => exact ⟨(wrap64 (x9_1 + 1)), qs_, H', ⟨by have := HK1.out; omega⟩, ⟨qb_⟩⟩
      ·replace c7 := be_ c7
       subst c7
       have H1 : (some false) = some r := by rw [if_neg (show ¬ (false = true) by decide)] at H; exact H
       clear H
       have H := H1
       clear H1
       obtain rfl := si_ H
       have p128 : 0 ≤ (x9_1 : Int) := ot_
       have q128 : x9_1 < (l0.length : Int) := ot_
       obtain ⟨ad128, e128, hx128_0, hx128_1, hx128_2, hx128_3⟩ := a3i HR0.out x9_1 p128 q128
       cases e128
       replace hx128_0 := qh_ HB hx128_0
       replace hx128_1 := qh_ HB hx128_1
       replace hx128_2 := qh_ HB hx128_2
       replace hx128_3 := qh_ HB hx128_3
       replace p128 := eq_true p128
       replace q128 := eq_true q128
       go_wp2_with (first | ((with_reducible refine a1g (N := 6) rfl ?_); refine qev_ 6 #[.int .i64 0, .int .i64 0, .int .i64 0, .int .i64 0] 26 ?_; intro gb129 hg w11 hbox hb; have BK129 := am_ (hbox); have GW129 := qga_ hg; have GE129 := qga_ hg; replace HB := qbs_ hb; clear hb hbox hg; obtain ⟨z'12_0, z'12_1, z'12_2, z'12_3⟩ := qz4_ BK129; obtain ⟨y'12_0, y'12_1, y'12_2, y'12_3⟩ := qf4_ BK129) | (go_at_call 41; (with_reducible refine (a2z.calls k1 ((a0c l0 x9_1).f0) ((a0c l0 x9_1).f1) ((a0c l0 x9_1).f2) ((a0c l0 x9_1).f3) false _ A6.out).mono ?_); rintro e w13 ⟨rfl, hb⟩; replace BK129 := am_ (a2v (g := gb129) (o := .cells #[.int .i64 ((a0c l0 x9_1).f0), .int .i64 ((a0c l0 x9_1).f1), .int .i64 ((a0c l0 x9_1).f2), .int .i64 ((a0c l0 x9_1).f3)] 26 (0, 0)) (by refine qd_ ?_; refine a0q (cs := #[.int .i64 ((a0c l0 x9_1).f0), .int .i64 ((a0c l0 x9_1).f1), .int .i64 ((a0c l0 x9_1).f2), .int .i64 0]) ?_ 3 _ rfl; refine qd_ ?_; refine a0q (cs := #[.int .i64 ((a0c l0 x9_1).f0), .int .i64 ((a0c l0 x9_1).f1), .int .i64 0, .int .i64 0]) ?_ 2 _ rfl; refine qd_ ?_; refine a0q (cs := #[.int .i64 ((a0c l0 x9_1).f0), .int .i64 0, .int .i64 0, .int .i64 0]) ?_ 1 _ rfl; refine qd_ ?_; refine a0q (cs := #[.int .i64 0, .int .i64 0, .int .i64 0, .int .i64 0]) ?_ 0 _ rfl; refine qd_ ?_; exact BK129.out) hb); replace HB := qbs_ hb; (try clear hb); (try clear hb2); (try clear hk); (try clear hi)))
       go_ret
       exact ⟨qx_, qb_⟩
     ·rw [if_neg c5] at H
      exact absurd H (by simp)
    ·rw [if_neg c4] at H
     exact absurd H (by simp)
   ·rw [if_neg c3] at H
    have c3b0 : decide (x9_1 < (l0.length : Int)) = false := decide_eq_false c3
    clear c3
    obtain rfl := si_ H
    go_wp2
    go_ret
    exact ⟨qx_, qb_⟩
def a1x.f (k : Nat) (l0 : List (S26)) : Option (Bool) := if (l0.length : Int) ≤ 1000 then ((a0s.f k l0).bind fun t131 => (some t131)) else (some false)
theorem a1x.mono : ∀ a0 k, LeO (a1x.f k a0) (a1x.f (k + 1) a0) := by
 intro a0 k
 unfold a1x.f
 with_reducible (repeat' first | apply a0s.mono | apply LeO.refl | apply LeO.none | apply LeO.ite | refine LeO.bind ?_ (fun _ => ?_))
set_option maxHeartbeats 8000000 in
set_option maxRecDepth 100000 in
theorem a1x.calls (k : Nat) (A0 : Option Addr) (c0 : Nat) (l0 : List (S26)) (r : Bool) (w : World) (hr0 : Kd.C k26 w A0 l0.length l0) (hc0 : l0.length ≤ c0) (h : a1x.f k l0 = some r) :
  Calls Try.prog 23 #[.slice A0 l0.length c0] w fun e w' => e = .returned (.bool r) ∧ Below w.heap.size w w' := by
 have HR0 := am_ hr0
 have HC0 := am_ hc0
 clear hr0 hc0
 have HB := am_ (Below.refl w.heap.size w)
 have H : (if (l0.length : Int) ≤ 1000 then ((a0s.f k l0).bind fun t131 => (some t131)) else (some false)) = some r := h
 clear h
 by_cases c2 : (l0.length : Int) ≤ 1000
 ·rw [if_pos c2] at H
  have c2b0 : decide ((l0.length : Int) ≤ 1000) = true := decide_eq_true c2
  have c2b1 : decide (l0.length ≤ 1000) = true := decide_eq_true (by omega)
  clear c2
  replace H := bm_ H
  obtain ⟨t131, A30, H⟩ := H
  replace H : (some t131) = some r := H
  have A3 := am_ A30
  clear A30
  obtain rfl := si_ H
  go_enter Try.func23, Try.ntmps23
  go_wp2_with (first | (go_at_call 40; (with_reducible refine (a0s.calls k _ _ l0  t131 _ ?s1 ?s2 A3.out).mono ?_); (case s1 => repeat (first | exact HR0.out | (with_reducible refine Kd.a5b ?_ _) | (with_reducible refine Kd.a5c ?_ _) | (with_reducible refine Kd.a5p ?_))); (case s2 => exact HC0.out); rintro e w4 ⟨rfl, hb⟩; replace HB := qbs_ hb; (try clear hb); (try clear hb2); (try clear hk); (try clear hi)))
  go_ret
  exact ⟨qx_, qb_⟩
 ·rw [if_neg c2] at H
  have c2b0 : decide ((l0.length : Int) ≤ 1000) = false := decide_eq_false c2
  have c2b1 : decide (l0.length ≤ 1000) = false := decide_eq_false (by omega)
  clear c2
  obtain rfl := si_ H
  go_enter Try.func23, Try.ntmps23
  go_wp2
  go_ret
  exact ⟨qx_, qb_⟩
end Go.Proofs.Ytfbgkcadnmcakaa.Px
