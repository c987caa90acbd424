/- The library's sort (slices.SortFunc) of slices.SortFunc[[]cohousing/api.Claim,cohousing/api.Claim]: the shelf's contract, laid at this program, in the print's words. Conditions: no two elements are alike to the comparison; fewer than 2^62 elements. -/
import Derived.Test.YtfbgkcadnmcakaaProg
import Derived.Test.YtfbgkcadnmcakaaGLib
import Derived.Test.YtfbgkcadnmcakaaGRowK
import Derived.Shelf.SlSortCmp.NoneTotal
import Derived.Ground.SlsfProg
import Derived.Test.YtfbgkcadnmcakaaPx13
import Derived.Test.YtfbgkcadnmcakaaPx0
namespace Go.Proofs.Ytfbgkcadnmcakaa.Given
open Go.Shelf
def b1s : Go.Shelf.Ren := ⟨fun | 6 => 29 | 15 => 49 | 14 => 48 | 28 => 64 | 29 => 65 | 20 => 56 | 21 => 57 | 22 => 58 | 23 => 59 | 24 => 60 | 25 => 61 | 26 => 62 | 27 => 63 | 46 => 68 | 47 => 69 | 48 => 70 | 49 => 71 | 50 => 72 | 57 => 74 | n => n, fun | 22 => 22 | 24 => 30 | 25 => 66 | 3 => 3 | 39 => 80 | 0 => 0 | 53 => 94 | 55 => 96 | 4 => 4 | 46 => 87 | 45 => 86 | 50 => 91 | 5 => 5 | 9 => 9 | 66 => 99 | 70 => 103 | 76 => 105 | 77 => 106 | n => n, fun | n => n⟩
theorem b2w : Go.Proofs.SlLaysF0.n6 Try.prog b1s := {
 mixed := by kernel_rfl
 f6 := ⟨Try.f29.name, by decide, Try.func29.trans (congrArg some (by kernel_rfl))⟩
 f14 := ⟨Try.f48.name, by decide, Try.func48.trans (congrArg some (by kernel_rfl))⟩
 f15 := Try.func49.trans (congrArg some (by kernel_rfl))
 f20 := ⟨Try.f56.name, by decide, Try.func56.trans (congrArg some (by kernel_rfl))⟩
 f21 := ⟨Try.f57.name, by decide, Try.func57.trans (congrArg some (by kernel_rfl))⟩
 f22 := ⟨Try.f58.name, by decide, Try.func58.trans (congrArg some (by kernel_rfl))⟩
 f23 := ⟨Try.f59.name, by decide, Try.func59.trans (congrArg some (by kernel_rfl))⟩
 f24 := ⟨Try.f60.name, by decide, Try.func60.trans (congrArg some (by kernel_rfl))⟩
 f25 := ⟨Try.f61.name, by decide, Try.func61.trans (congrArg some (by kernel_rfl))⟩
 f26 := ⟨Try.f62.name, by decide, Try.func62.trans (congrArg some (by kernel_rfl))⟩
 f27 := ⟨Try.f63.name, by decide, Try.func63.trans (congrArg some (by kernel_rfl))⟩
 f28 := Try.func64.trans (congrArg some (by kernel_rfl))
 f29 := Try.func65.trans (congrArg some (by kernel_rfl))
 f46 := ⟨Try.f68.name, by decide, Try.func68.trans (congrArg some (by kernel_rfl))⟩
 f47 := Try.func69.trans (congrArg some (by kernel_rfl))
 f48 := Try.func70.trans (congrArg some (by kernel_rfl))
 f49 := ⟨Try.f71.name, by decide, Try.func71.trans (congrArg some (by kernel_rfl))⟩
 f50 := ⟨Try.f72.name, by decide, Try.func72.trans (congrArg some (by kernel_rfl))⟩
 f57 := ⟨Try.f74.name, by decide, Try.func74.trans (congrArg some (by kernel_rfl))⟩
 t0 := Try.underlying0
 a0 := Try.isAgg0
 z0 := Try.sizeOf0
 v0 := Try.zeroValue0
 t3 := Try.underlying3
 a3 := Try.isAgg3
 z3 := Try.sizeOf3
 v3 := Try.zeroValue3
 t4 := Try.underlying4
 a4 := Try.isAgg4
 z4 := Try.sizeOf4
 v4 := Try.zeroValue4
 t5 := Try.underlying5
 a5 := Try.isAgg5
 z5 := Try.sizeOf5
 v5 := Try.zeroValue5
 t9 := Try.underlying9
 a9 := Try.isAgg9
 z9 := Try.sizeOf9
 v9 := Try.zeroValue9
 t22 := Try.underlying22
 a22 := Try.isAgg22
 z22 := Try.sizeOf22
 v22 := Try.zeroValue22
 t25 := Try.underlying66
 a25 := Try.isAgg66
 z25 := Try.sizeOf66
 v25 := Try.zeroValue66
 t39 := Try.underlying80
 a39 := Try.isAgg80
 z39 := Try.sizeOf80
 v39 := Try.zeroValue80
 t45 := Try.underlying86
 a45 := Try.isAgg86
 z45 := Try.sizeOf86
 v45 := Try.zeroValue86
 t46 := Try.underlying87
 a46 := Try.isAgg87
 z46 := Try.sizeOf87
 v46 := Try.zeroValue87
 t50 := Try.underlying91
 a50 := Try.isAgg91
 z50 := Try.sizeOf91
 v50 := Try.zeroValue91
 t53 := Try.underlying94
 a53 := Try.isAgg94
 z53 := Try.sizeOf94
 v53 := Try.zeroValue94
 t55 := Try.underlying96
 a55 := Try.isAgg96
 z55 := Try.sizeOf96
 v55 := Try.zeroValue96
 t66 := Try.underlying99
 a66 := Try.isAgg99
 z66 := Try.sizeOf99
 v66 := Try.zeroValue99
 t70 := Try.underlying103
 a70 := Try.isAgg103
 z70 := Try.sizeOf103
 v70 := Try.zeroValue103
 t76 := Try.underlying105
 a76 := Try.isAgg105
 z76 := Try.sizeOf105
 v76 := Try.zeroValue105
 t77 := Try.underlying106
 a77 := Try.isAgg106
 z77 := Try.sizeOf106
 v77 := Try.zeroValue106 }
end Go.Proofs.Ytfbgkcadnmcakaa.Given
namespace Go.Proofs.Ytfbgkcadnmcakaa.Given
open Go.RowKit Go.Sort Go.Proofs.YtfbgkcadnmcakaaW.PrintWords Go.Proofs.YtfbgkcadnmcakaaW.PrintLast Go.Proofs.YtfbgkcadnmcakaaW.PrintMore Go.Proofs.Ytfbgkcadnmcakaa.Px
set_option linter.unusedVariables false
set_option linter.unusedSimpArgs false
set_option maxHeartbeats 8000000 in
set_option maxRecDepth 100000 in
theorem a2i.grows (k : Nat) (a0_0 a0_1 a0_2 a0_3 a0_4 a0_5 a1_0 a1_1 a1_2 a1_3 a1_4 a1_5 r : Int) (w : World) (h : a2i.f k a0_0 a0_1 a0_2 a0_3 a0_4 a0_5 a1_0 a1_1 a1_2 a1_3 a1_4 a1_5 = some r) :
  Calls Try.prog 30 #[.agg #[.int .i64 a0_0, .int .i64 a0_1, .int .i64 a0_2, .int .i64 a0_3, .int .i64 a0_4, .int .i64 a0_5], .agg #[.int .i64 a1_0, .int .i64 a1_1, .int .i64 a1_2, .int .i64 a1_3, .int .i64 a1_4, .int .i64 a1_5]] w fun e w' => e = .returned (.int .i64 r) ∧ Grew w w' := by
 have hu30 := Try.underlying30
 have HB := am_ (Below.refl w.heap.size w)
 have HG := am_ (Grew.refl w)
 have H : ((cmp_Compare_int.f a0_5 a1_5).bind fun t222 => ((cmp_Compare_int.f a0_0 a1_0).bind fun t223 => ((a2c.f k (([t222, t223] : List Int))).bind fun t227 => (some t227)))) = some r := h
 clear h
 replace H := bm_ H
 obtain ⟨t222, A30, H⟩ := H
 replace H : ((cmp_Compare_int.f a0_0 a1_0).bind fun t223 => ((a2c.f k (([t222, t223] : List Int))).bind fun t227 => (some t227))) = some r := H
 have A3 := am_ A30
 clear A30
 replace H := bm_ H
 obtain ⟨t223, A40, H⟩ := H
 replace H : ((a2c.f k (([t222, t223] : List Int))).bind fun t227 => (some t227)) = some r := H
 have A4 := am_ A40
 clear A40
 obtain ⟨y224, hy224⟩ : ∃ y_ : List Int, y_ = (([t222, t223] : List Int)) := ⟨_, rfl⟩
 replace H : ((a2c.f k y224).bind fun t227 => (some t227)) = some r := by first | (rw [hy224]; with_reducible exact H) | (have H2_ := (Option.bind_some _ _).symm.trans H; rw [hy224]; with_reducible exact H2_) | (have H2_ := (Option.bind_some _ _).symm.trans H; with_reducible exact H2_) | with_reducible exact H | (rw [hy224]; exact H) | exact H
 have Ny224 := am_ hy224
 clear hy224
 replace H := bm_ H
 obtain ⟨t227, A50, H⟩ := H
 replace H : (some t227) = some r := H
 have A5 := am_ A50
 clear A50
 obtain rfl := si_ H
 go_enter Try.func30, Try.ntmps30
 try go_wp2_with (first | ((with_reducible refine a1g (N := 2) rfl ?_); refine b3y 2 #[.int .i64 a0_0, .int .i64 a0_1, .int .i64 a0_2, .int .i64 a0_3, .int .i64 a0_4, .int .i64 a0_5] 30 ?_; intro gb220 hg w6 hbox hb heq_; replace HG := am_ (HG.out.alloc heq_); clear heq_; have BK220 := am_ (hbox); have GW220 := qga_ hg; have GE220 := qga_ hg; replace HB := qbs_ hb; clear hb hbox hg) | ((with_reducible refine a1g (N := 3) rfl ?_); refine b3y 3 #[.int .i64 a1_0, .int .i64 a1_1, .int .i64 a1_2, .int .i64 a1_3, .int .i64 a1_4, .int .i64 a1_5] 30 ?_; intro gb221 hg w7 hbox hb heq_; replace HG := am_ (HG.out.alloc heq_); clear heq_; have BK221 := am_ (hbox); have GW221 := qga_ hg; have GE221 := qga_ hg; replace HB := qbs_ hb; have NB220_221 := am_ ((by rw [hg]; exact Nat.ne_of_lt (a2d (qk_ BK220)) : gb220 ≠ gb221)); have NB221_220 := am_ ((by rw [hg]; exact Nat.ne_of_gt (a2d (qk_ BK220)) : gb221 ≠ gb220)); replace BK220 := qkb_ BK220 hb; clear hb hbox hg))
 replace BK220 := am_ (bd_ BK220.out)
 replace BK221 := am_ (bd_ BK221.out)
 replace HB := am_ (ld_ HB.out)
 replace HG := am_ (HG.out.drew)
 refine a3g (n := 15) (S := fun w' => w'.cell? ⟨gb220, 0, none⟩ = some (.int .i64 a0_0) ∧ w'.cell? ⟨gb220, 1, none⟩ = some (.int .i64 a0_1) ∧ w'.cell? ⟨gb220, 2, none⟩ = some (.int .i64 a0_2) ∧ w'.cell? ⟨gb220, 3, none⟩ = some (.int .i64 a0_3) ∧ w'.cell? ⟨gb220, 4, none⟩ = some (.int .i64 a0_4) ∧ w'.cell? ⟨gb220, 5, none⟩ = some (.int .i64 a0_5) ∧ w'.cell? ⟨gb221, 0, none⟩ = some (.int .i64 a1_0) ∧ w'.cell? ⟨gb221, 1, none⟩ = some (.int .i64 a1_1) ∧ w'.cell? ⟨gb221, 2, none⟩ = some (.int .i64 a1_2) ∧ w'.cell? ⟨gb221, 3, none⟩ = some (.int .i64 a1_3) ∧ w'.cell? ⟨gb221, 4, none⟩ = some (.int .i64 a1_4) ∧ w'.cell? ⟨gb221, 5, none⟩ = some (.int .i64 a1_5)) (ds := []) #[i_,i_,i_,i_,i_,i_,i_,i_,i_,i_,i_,i_,i_,i_,i_] (by kernel_rfl) rfl rfl ⟨(bc_ BK220.out 0).trans rfl, (bc_ BK220.out 1).trans rfl, (bc_ BK220.out 2).trans rfl, (bc_ BK220.out 3).trans rfl, (bc_ BK220.out 4).trans rfl, (bc_ BK220.out 5).trans rfl, (bc_ BK221.out 0).trans rfl, (bc_ BK221.out 1).trans rfl, (bc_ BK221.out 2).trans rfl, (bc_ BK221.out 3).trans rfl, (bc_ BK221.out 4).trans rfl, (bc_ BK221.out 5).trans rfl⟩ (fun hHeld => ?_); refine a2l a2i.tab1 a2i.b5r (fun HT_ HW_ => ?_)
 generalize w7.drew = w8 at BK220 BK221 HB HG hHeld ⊢
 refine qpu_ 0 (some 5) #[o_,i_,i_,i_,i_,i_,i_,i_,i_,i_,i_,i_,i_,i_,i_] ?_
 refine qpu_ 1 (some 6) #[o_,o_,i_,i_,i_,i_,i_,i_,i_,i_,i_,i_,i_,i_,i_] ?_
 refine qpu_ 3 (some 8) #[o_,o_,i_,o_,i_,i_,i_,i_,i_,i_,i_,i_,i_,i_,i_] ?_
 refine qpu_ 4 (some 9) #[o_,o_,i_,o_,o_,i_,i_,i_,i_,i_,i_,i_,i_,i_,i_] ?_
 refine qpu_ 7 (some 12) #[o_,o_,i_,o_,o_,i_,i_,o_,i_,i_,i_,i_,i_,i_,i_] ?_
 refine qpu_ 9 (some 14) #[o_,o_,i_,o_,o_,i_,i_,o_,i_,o_,i_,i_,i_,i_,i_] ?_
 refine a2g (i := 2) (N := some 7) (v := ?_) (a' := ?_) #[o_,o_,o_,o_,o_,i_,i_,o_,i_,o_,i_,i_,i_,i_,i_] rfl rfl (a1r HT_.out HW_.out (by kernel_rfl)) (fun _ _ _ h => h) (Or.inl ⟨by rfl, ?_⟩) hHeld ?_ ?_
 rotate_left
 ·rintro w' ⟨s0, s1, s2, s3, s4, s5, s6, s7, s8, s9, s10, s11⟩
  go_simp
  with_reducible rfl
 rotate_left
 ·exact qp_
 refine a2g (i := 5) (N := some 10) (v := ?_) (a' := ?_) #[o_,o_,o_,o_,o_,o_,i_,o_,i_,o_,i_,i_,i_,i_,i_] rfl rfl (a1r HT_.out HW_.out (by kernel_rfl)) (fun _ _ _ h => h) (Or.inl ⟨by rfl, ?_⟩) hHeld ?_ ?_
 rotate_left
 ·rintro w' ⟨s0, s1, s2, s3, s4, s5, s6, s7, s8, s9, s10, s11⟩
  go_simp
  with_reducible rfl
 rotate_left
 ·exact qp_
 refine a2g (i := 8) (N := some 13) (v := ?_) (a' := ?_) #[o_,o_,o_,o_,o_,o_,i_,o_,o_,o_,i_,i_,i_,i_,i_] rfl rfl (a1r HT_.out HW_.out (by kernel_rfl)) (fun _ _ _ h => h) (Or.inl ⟨by rfl, ?_⟩) hHeld ?_ ?_
 rotate_left
 ·rintro w' ⟨s0, s1, s2, s3, s4, s5, s6, s7, s8, s9, s10, s11⟩
  go_simp
  with_reducible rfl
 rotate_left
 ·exact qp_
 refine a2g (i := 10) (N := some 15) (v := ?_) (a' := ?_) #[o_,o_,o_,o_,o_,o_,i_,o_,o_,o_,o_,i_,i_,i_,i_] rfl rfl (a1r HT_.out HW_.out (by kernel_rfl)) (fun _ _ _ h => h) (Or.inl ⟨by rfl, ?_⟩) hHeld ?_ ?_
 rotate_left
 ·rintro w' ⟨s0, s1, s2, s3, s4, s5, s6, s7, s8, s9, s10, s11⟩
  go_simp
  with_reducible rfl
 rotate_left
 ·exact qp_
 refine one_ (i := 6) (N := some 11) #[o_,o_,o_,o_,o_,o_,o_,o_,o_,o_,o_,i_,i_,i_,i_] rfl rfl (a3h HT_.out (by kernel_rfl)) (by decide) (fun K hK => ?_)
 refine a5g Try.func32 (by kernel_rfl) rfl #[.int .i64 a0_5, .int .i64 a1_5] (by rfl) rfl rfl ql_ ?_
 with_reducible refine (cmp_Compare_int.calls a0_5 a1_5 t222 _ A3.out).mono ?_
 rintro e w' ⟨rfl, ⟨nd, rfl⟩⟩
 replace HG := am_ (HG.out.drewN nd)
 refine ⟨_, rfl, ?_⟩
 refine hK.out _ _ ⟨(bc_ BK220.out 0).trans rfl, (bc_ BK220.out 1).trans rfl, (bc_ BK220.out 2).trans rfl, (bc_ BK220.out 3).trans rfl, (bc_ BK220.out 4).trans rfl, (bc_ BK220.out 5).trans rfl, (bc_ BK221.out 0).trans rfl, (bc_ BK221.out 1).trans rfl, (bc_ BK221.out 2).trans rfl, (bc_ BK221.out 3).trans rfl, (bc_ BK221.out 4).trans rfl, (bc_ BK221.out 5).trans rfl⟩ (fun hHeld => ?_)
 clear hK K
 refine a4b (a' := ?_) ?_ ?_
 rotate_left
 ·show Act.put _ (some 11) _ = _
  exact qp_
 refine one_ (i := 11) (N := some 16) #[o_,o_,o_,o_,o_,o_,o_,o_,o_,o_,o_,o_,i_,i_,i_] rfl rfl (a3h HT_.out (by kernel_rfl)) (by decide) (fun K hK => ?_)
 refine a5g Try.func32 (by kernel_rfl) rfl #[.int .i64 a0_0, .int .i64 a1_0] (by rfl) rfl rfl ql_ ?_
 with_reducible refine (cmp_Compare_int.calls a0_0 a1_0 t223 _ A4.out).mono ?_
 rintro e w' ⟨rfl, ⟨nd, rfl⟩⟩
 replace HG := am_ (HG.out.drewN nd)
 refine ⟨_, rfl, ?_⟩
 refine hK.out _ _ ⟨(bc_ BK220.out 0).trans rfl, (bc_ BK220.out 1).trans rfl, (bc_ BK220.out 2).trans rfl, (bc_ BK220.out 3).trans rfl, (bc_ BK220.out 4).trans rfl, (bc_ BK220.out 5).trans rfl, (bc_ BK221.out 0).trans rfl, (bc_ BK221.out 1).trans rfl, (bc_ BK221.out 2).trans rfl, (bc_ BK221.out 3).trans rfl, (bc_ BK221.out 4).trans rfl, (bc_ BK221.out 5).trans rfl⟩ (fun hHeld => ?_)
 clear hK K
 refine a4b (a' := ?_) ?_ ?_
 rotate_left
 ·show Act.put _ (some 16) _ = _
  exact qp_
 refine one_ (i := 12) (N := some 17) #[o_,o_,o_,o_,o_,o_,o_,o_,o_,o_,o_,o_,o_,i_,i_] rfl rfl (a3h HT_.out (by kernel_rfl)) (by decide) (fun K hK => ?_)
 refine b0s (Kd.int .i64) _ 3 ?hg (N := 17) ?hd (xs := ([t222, t223] : List Int)) (inner := [.int .i64 t222, .int .i64 t223]) (ok := fun _ => True) (okp := fun _ => True) ?hr ?hp (fun _ hk => hk) trivial (Nat.le_refl _) (by simp) ?_; (case hd => rfl); (case hg => rfl); (case hr => exact qq_); (case hp => exact (Reps.one (show Kd.M (Kd.int .i64) _ _ _ t222 [.int .i64 t222] from rfl) (Reps.one (show Kd.M (Kd.int .i64) _ _ _ t223 [.int .i64 t223] from rfl) (Reps.none _ _))))
 intro v225 w9 ho10 hb heq_
 replace HG := am_ (HG.out.alloc heq_)
 clear heq_
 (first | rw [← Ny224.out] at ho10 | (simp only [Int.reduceToNat] at ho10; rw [← Ny224.out] at ho10))
 have HO226 := am_ (Kd.a2k ho10 (a1s qb_))
 replace BK220 := qkb_ BK220 hb
 replace BK221 := qkb_ BK221 hb
 replace HB := qbs_ hb
 clear hb ho10
 obtain ⟨Ao11, co11, eo11⟩ := Kd.a1v HO226.out
 (first | subst eo11 | (injection eo11 with f1_ f2_ f3_; have f4_ := f1_.symm; have f5_ := f3_.symm; clear f1_ f2_ f3_; subst f4_; subst f5_))
 refine hK.out _ _ ⟨(bc_ BK220.out 0).trans rfl, (bc_ BK220.out 1).trans rfl, (bc_ BK220.out 2).trans rfl, (bc_ BK220.out 3).trans rfl, (bc_ BK220.out 4).trans rfl, (bc_ BK220.out 5).trans rfl, (bc_ BK221.out 0).trans rfl, (bc_ BK221.out 1).trans rfl, (bc_ BK221.out 2).trans rfl, (bc_ BK221.out 3).trans rfl, (bc_ BK221.out 4).trans rfl, (bc_ BK221.out 5).trans rfl⟩ (fun hHeld => ?_)
 clear hK K
 refine a4b (a' := ?_) ?_ ?_
 rotate_left
 ·show Act.put _ (some 17) _ = _
  exact qp_
 refine one_ (i := 13) (N := some 18) #[o_,o_,o_,o_,o_,o_,o_,o_,o_,o_,o_,o_,o_,o_,i_] rfl rfl (a3h HT_.out (by kernel_rfl)) (by decide) (fun K hK => ?_)
 refine a5g Try.func31 (by kernel_rfl) rfl #[.slice Ao11 y224.length co11] (by rfl) rfl rfl ql_ ?_
 with_reducible refine (a2c.calls k _ _ y224 t227 _ ?s1 ?s2 A5.out).mono ?_
 (case s1 => exact qv_ (Kd.a0p HO226.out).2.2)
 (case s2 => exact (Kd.a0p HO226.out).2.1)
 rintro e w' ⟨rfl, ⟨nd, rfl⟩⟩
 replace HG := am_ (HG.out.drewN nd)
 refine ⟨_, rfl, ?_⟩
 refine hK.out _ _ ⟨(bc_ BK220.out 0).trans rfl, (bc_ BK220.out 1).trans rfl, (bc_ BK220.out 2).trans rfl, (bc_ BK220.out 3).trans rfl, (bc_ BK220.out 4).trans rfl, (bc_ BK220.out 5).trans rfl, (bc_ BK221.out 0).trans rfl, (bc_ BK221.out 1).trans rfl, (bc_ BK221.out 2).trans rfl, (bc_ BK221.out 3).trans rfl, (bc_ BK221.out 4).trans rfl, (bc_ BK221.out 5).trans rfl⟩ (fun hHeld => ?_)
 clear hK K
 refine a4b (a' := ?_) ?_ ?_
 rotate_left
 ·show Act.put _ (some 18) _ = _
  exact qp_
 refine qpu_ 14 (some 4) #[o_,o_,o_,o_,o_,o_,o_,o_,o_,o_,o_,o_,o_,o_,o_] ?_
 refine a3o (a3b HT_.out (by kernel_rfl)) ?_
 try go_wp2
 go_ret
 exact ⟨qx_, HG.out⟩
instance : Inhabited S30 := ⟨z30⟩
def a9t (x : S30) : List Value := [.int .i64 x.f0, .int .i64 x.f1, .int .i64 x.f2, .int .i64 x.f3, .int .i64 x.f4.f0, .int .i64 x.f4.f1]
theorem a9b : Plain k30 a9t := ⟨fun w base ok x => a5e w base ok x, fun h => a7r h, fun _ => rfl, fun x v hv => by
 simp only [a9t, List.mem_cons, List.mem_nil_iff, or_false] at hv
 rcases hv with rfl | rfl | rfl | rfl | rfl | rfl <;> rfl⟩
theorem b1d (a b : Int) : cmp_Compare_int.f a b = some (if a < b then -1 else if a > b then 1 else 0) := by
 have e : ∀ x : Int, cmp_isNaN_int.f x = some false := fun x => by unfold cmp_isNaN_int.f; simp
 unfold cmp_Compare_int.f
 rw [e, e]
 simp only [Option.bind_some]
 rw [if_neg (by decide), if_neg (by decide)]
 split
 ·rfl
 ·split <;> rfl
theorem b4y (a b : Int) : a2c.f 5 [a, b] = some (if a = 0 then b else a) := by
 unfold a2c.f
 have e1 : wrap64 1 = 1 := by unfold wrap64; omega
 have e2 : wrap64 2 = 2 := by unfold wrap64; omega
 by_cases ha : a = 0
 ·subst ha
  by_cases hb : b = 0
  ·subst hb
   simp [a2c.l0, Go.Proofs.YtfbgkcadnmcakaaW.PrintWords.rd, e1, e2]
  ·simp [a2c.l0, Go.Proofs.YtfbgkcadnmcakaaW.PrintWords.rd, e1, e2, hb]
 ·simp [a2c.l0, Go.Proofs.YtfbgkcadnmcakaaW.PrintWords.rd, e1, e2, ha]
def cfS (x y : S30) : Int := if (if x.f4.f1 < y.f4.f1 then (-1 : Int) else if x.f4.f1 > y.f4.f1 then 1 else 0) = 0 then (if x.f0 < y.f0 then (-1 : Int) else if x.f0 > y.f0 then 1 else 0) else (if x.f4.f1 < y.f4.f1 then (-1 : Int) else if x.f4.f1 > y.f4.f1 then 1 else 0)
theorem b4i (x y : S30) : a2i.f 5 x.f0 x.f1 x.f2 x.f3 x.f4.f0 x.f4.f1 y.f0 y.f1 y.f2 y.f3 y.f4.f0 y.f4.f1 = some (cfS x y) := by
 unfold a2i.f
 rw [b1d, b1d]
 simp only [Option.bind_some]
 rw [b4y]
 rfl
theorem b2x (x y : S30) : cfS x y ≤ 0 ↔ x.f4.f1 < y.f4.f1 ∨ (x.f4.f1 = y.f4.f1 ∧ x.f0 ≤ y.f0) := by
 unfold cfS
 (repeat' split) <;> omega
theorem b0i (x y : S30) : cfS x y < 0 ↔ x.f4.f1 < y.f4.f1 ∨ (x.f4.f1 = y.f4.f1 ∧ x.f0 < y.f0) := by
 unfold cfS
 (repeat' split) <;> omega
theorem b2y (x y : S30) : 0 < cfS x y ↔ y.f4.f1 < x.f4.f1 ∨ (x.f4.f1 = y.f4.f1 ∧ y.f0 < x.f0) := by
 unfold cfS
 (repeat' split) <;> omega
theorem a8o : a4o cfS := ⟨fun x y => by rw [b0i, b2y]; omega, fun x y z h1 h2 => by rw [b2x] at *; omega⟩
theorem b3n (blk size : Nat) (w : World) : CmpLays Try.prog 30 #[] a9t 6 cfS blk 0 size w := by
 intro m os dk _ x y
 refine (a2i.grows 5 x.f0 x.f1 x.f2 x.f3 x.f4.f0 x.f4.f1 y.f0 y.f1 y.f2 y.f3 y.f4.f0 y.f4.f1 (cfS x y) _ (b4i x y)).mono ?_
 rintro e w' ⟨he, q, os', hw⟩
 exact ⟨he, q, os', hw⟩
def a1t.f (k : Nat) (l0 : List S30) : Option (List S30) := if (a5f cfS l0 && decide (l0.length < 4611686018427387904)) = true then some (a3v cfS l0) else none
theorem a1t.mono : ∀ a0 k, LeO (a1t.f k a0) (a1t.f (k + 1) a0) := fun a0 k => LeO.refl _
set_option maxHeartbeats 4000000 in
theorem a1t.calls (k : Nat) (P0_ : Nat → Prop) (u9000_ : Value) (l0 : List S30) (r : List S30) (w0 w : World) (hB : Below w0.heap.size w0 w) (ho0 : Kd.R k30 30 w w0.heap.size P0_ u9000_ l0) (h : a1t.f k l0 = some r) :
  Calls Try.prog 29 #[u9000_, .func (.func 30) #[] #[]] w fun e w' => e = .returned (.tuple #[]) ∧ Kd.R k30 30 w' w0.heap.size (fun k_ => (P0_ k_ ∨ w.heap.size ≤ k_)) u9000_ r ∧ Below w0.heap.size w0 w' ∧ Kept w w' (fun k_ => P0_ k_) := by
 unfold a1t.f at h
 split at h
 case isFalse => cases h
 rename_i c
 obtain rfl := si_ h
 rw [Bool.and_eq_true, decide_eq_true_eq] at c
 obtain ⟨c1, c2⟩ := c
 obtain ⟨A, cap, rfl⟩ := Kd.a1v ho0
 cases A with
 | none =>
  have hn : l0 = [] := by
   rcases ho0.2 with ⟨inner, ho, hr⟩
   rcases ho.2 with ⟨_, h0⟩ | ⟨g', cap', cur, hv, _⟩
   ·exact List.length_eq_zero_iff.1 h0
   ·cases hv
  subst hn
  have hcon := AnyF.slices_SortFunc_none b2w none cap (.func (.func 30) #[] #[]) w
  change Calls Try.prog 29 _ _ _ at hcon
  refine hcon.mono ?_
  rintro e w' ⟨rfl, rfl⟩
  exact ⟨rfl, Kd.a0z ho0 (fun k hk => .inl hk), hB, Kept.refl _ _⟩
 | some ad =>
  have hform : ∃ g, ad = ⟨g, 0, none⟩ := by
   rcases ho0.2 with ⟨inner, ho, hr⟩
   rcases ho.2 with ⟨hv, _⟩ | ⟨g', cap', cur, hv, _⟩
   ·cases hv
   ·injection hv with ha _ _
    injection ha with ha
    exact ⟨g', ha⟩
  obtain ⟨g, rfl⟩ := hform
  obtain ⟨hH, hblk⟩ := b2u a9b ho0
  have hbase : w0.heap.size ≤ g := Kd.b2b ho0 g (by simp [Value.ownBlock])
  have hP : P0_ g := ho0.1 g (by simp [Value.ownBlock])
  have eg : ∀ args w, (callFunc 30 args).run Try.prog w = .ok (.enter 30 args) w := enters_of Try.func30 (by kernel_rfl) rfl
  have hcon := AnyQ.slices_SortFunc b2w 6 Try.isAgg30 Try.sizeOf30 a9t (fun _ => rfl) a9b.one cfS a8o.swo 30 #[] g 0 cap l0.toArray w eg (b3n g l0.toArray.size w) hH hblk (by simpa using c2)
  change Calls Try.prog 29 _ _ _ at hcon
  refine hcon.mono ?_
  rintro e w' ⟨rfl, d', m, os, hp, hs, rfl⟩
  obtain rfl := b2v a8o hp hs c1
  exact ⟨rfl, Kd.a0z (b1r a9b ho0 (a7h cfS l0)) (fun k hk => .inl hk), b0h (d := k30) _ hB hbase, b0r (d := k30) _ (.inl hP)⟩
end Go.Proofs.Ytfbgkcadnmcakaa.Given
