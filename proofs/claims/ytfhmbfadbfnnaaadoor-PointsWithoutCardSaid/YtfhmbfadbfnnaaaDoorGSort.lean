/- The library's sort (slices.SortFunc) of slices.SortFunc[[]cohousing/points.place,cohousing/points.place]: the shelf's contract, laid at this program, in the print's words. Conditions: no two elements are alike to the comparison; fewer than 2^62 elements. -/
import Derived.Test.YtfhmbfadbfnnaaaDoorProg
import Derived.Test.YtfhmbfadbfnnaaaDoorGLib
import Derived.Test.YtfhmbfadbfnnaaaDoorGRowK
import Derived.Shelf.SlSortCmp.NoneTotal
import Derived.Ground.SlsfProg
import Derived.Test.YtfhmbfadbfnnaaaDoorPx5
import Derived.Test.YtfhmbfadbfnnaaaDoorPx0
namespace Go.Proofs.YtfhmbfadbfnnaaaDoor.Given
open Go.Shelf
def sortPl_ren : Go.Shelf.Ren := ⟨fun | 6 => 29 | 15 => 45 | 14 => 44 | 28 => 59 | 29 => 60 | 20 => 51 | 21 => 52 | 22 => 53 | 23 => 54 | 24 => 55 | 25 => 56 | 26 => 57 | 27 => 58 | 46 => 61 | 47 => 62 | 48 => 63 | 49 => 64 | 50 => 65 | 57 => 66 | n => n, fun | 22 => 59 | 24 => 63 | 25 => 66 | 3 => 3 | 39 => 74 | 0 => 0 | 53 => 87 | 55 => 89 | 4 => 4 | 46 => 80 | 45 => 79 | 50 => 84 | 5 => 5 | 9 => 9 | 66 => 90 | 70 => 94 | 76 => 96 | 77 => 97 | n => n, fun | n => n⟩
theorem sortPl : Go.Proofs.SlLaysF0.n6 Tryd.prog sortPl_ren := {
  mixed := by kernel_rfl
  f6 := ⟨Tryd.f29.name, by decide, Tryd.func29.trans (congrArg some (by kernel_rfl))⟩
  f14 := ⟨Tryd.f44.name, by decide, Tryd.func44.trans (congrArg some (by kernel_rfl))⟩
  f15 := Tryd.func45.trans (congrArg some (by kernel_rfl))
  f20 := ⟨Tryd.f51.name, by decide, Tryd.func51.trans (congrArg some (by kernel_rfl))⟩
  f21 := ⟨Tryd.f52.name, by decide, Tryd.func52.trans (congrArg some (by kernel_rfl))⟩
  f22 := ⟨Tryd.f53.name, by decide, Tryd.func53.trans (congrArg some (by kernel_rfl))⟩
  f23 := ⟨Tryd.f54.name, by decide, Tryd.func54.trans (congrArg some (by kernel_rfl))⟩
  f24 := ⟨Tryd.f55.name, by decide, Tryd.func55.trans (congrArg some (by kernel_rfl))⟩
  f25 := ⟨Tryd.f56.name, by decide, Tryd.func56.trans (congrArg some (by kernel_rfl))⟩
  f26 := ⟨Tryd.f57.name, by decide, Tryd.func57.trans (congrArg some (by kernel_rfl))⟩
  f27 := ⟨Tryd.f58.name, by decide, Tryd.func58.trans (congrArg some (by kernel_rfl))⟩
  f28 := Tryd.func59.trans (congrArg some (by kernel_rfl))
  f29 := Tryd.func60.trans (congrArg some (by kernel_rfl))
  f46 := ⟨Tryd.f61.name, by decide, Tryd.func61.trans (congrArg some (by kernel_rfl))⟩
  f47 := Tryd.func62.trans (congrArg some (by kernel_rfl))
  f48 := Tryd.func63.trans (congrArg some (by kernel_rfl))
  f49 := ⟨Tryd.f64.name, by decide, Tryd.func64.trans (congrArg some (by kernel_rfl))⟩
  f50 := ⟨Tryd.f65.name, by decide, Tryd.func65.trans (congrArg some (by kernel_rfl))⟩
  f57 := ⟨Tryd.f66.name, by decide, Tryd.func66.trans (congrArg some (by kernel_rfl))⟩
  t0 := Tryd.underlying0
  a0 := Tryd.isAgg0
  z0 := Tryd.sizeOf0
  v0 := Tryd.zeroValue0
  t3 := Tryd.underlying3
  a3 := Tryd.isAgg3
  z3 := Tryd.sizeOf3
  v3 := Tryd.zeroValue3
  t4 := Tryd.underlying4
  a4 := Tryd.isAgg4
  z4 := Tryd.sizeOf4
  v4 := Tryd.zeroValue4
  t5 := Tryd.underlying5
  a5 := Tryd.isAgg5
  z5 := Tryd.sizeOf5
  v5 := Tryd.zeroValue5
  t9 := Tryd.underlying9
  a9 := Tryd.isAgg9
  z9 := Tryd.sizeOf9
  v9 := Tryd.zeroValue9
  t22 := Tryd.underlying59
  a22 := Tryd.isAgg59
  z22 := Tryd.sizeOf59
  v22 := Tryd.zeroValue59
  t25 := Tryd.underlying66
  a25 := Tryd.isAgg66
  z25 := Tryd.sizeOf66
  v25 := Tryd.zeroValue66
  t39 := Tryd.underlying74
  a39 := Tryd.isAgg74
  z39 := Tryd.sizeOf74
  v39 := Tryd.zeroValue74
  t45 := Tryd.underlying79
  a45 := Tryd.isAgg79
  z45 := Tryd.sizeOf79
  v45 := Tryd.zeroValue79
  t46 := Tryd.underlying80
  a46 := Tryd.isAgg80
  z46 := Tryd.sizeOf80
  v46 := Tryd.zeroValue80
  t50 := Tryd.underlying84
  a50 := Tryd.isAgg84
  z50 := Tryd.sizeOf84
  v50 := Tryd.zeroValue84
  t53 := Tryd.underlying87
  a53 := Tryd.isAgg87
  z53 := Tryd.sizeOf87
  v53 := Tryd.zeroValue87
  t55 := Tryd.underlying89
  a55 := Tryd.isAgg89
  z55 := Tryd.sizeOf89
  v55 := Tryd.zeroValue89
  t66 := Tryd.underlying90
  a66 := Tryd.isAgg90
  z66 := Tryd.sizeOf90
  v66 := Tryd.zeroValue90
  t70 := Tryd.underlying94
  a70 := Tryd.isAgg94
  z70 := Tryd.sizeOf94
  v70 := Tryd.zeroValue94
  t76 := Tryd.underlying96
  a76 := Tryd.isAgg96
  z76 := Tryd.sizeOf96
  v76 := Tryd.zeroValue96
  t77 := Tryd.underlying97
  a77 := Tryd.isAgg97
  z77 := Tryd.sizeOf97
  v77 := Tryd.zeroValue97 }

end Go.Proofs.YtfhmbfadbfnnaaaDoor.Given
namespace Go.Proofs.YtfhmbfadbfnnaaaDoor.Given
open Go.RowKit Go.Sort Go.Proofs.YtfhmbfadbfnnaaaDoorW.PrintWords Go.Proofs.YtfhmbfadbfnnaaaDoorW.PrintLast Go.Proofs.YtfhmbfadbfnnaaaDoorW.PrintMore Go.Proofs.YtfhmbfadbfnnaaaDoor.Px
set_option linter.unusedVariables false
set_option linter.unusedSimpArgs false
set_option maxHeartbeats 8000000 in
set_option maxRecDepth 100000 in
theorem points_Order_1.grows (k : Nat) (a0_0 a0_1 a0_2 a0_3 a0_4 a0_5 a0_6 a0_7 a1_0 a1_1 a1_2 a1_3 a1_4 a1_5 a1_6 a1_7 r : Int) (w : World) (h : points_Order_1.f k a0_0 a0_1 a0_2 a0_3 a0_4 a0_5 a0_6 a0_7 a1_0 a1_1 a1_2 a1_3 a1_4 a1_5 a1_6 a1_7 = some r) :
    Calls Tryd.prog 30 #[.agg #[.int .i64 a0_0, .int .i64 a0_1, .int .i64 a0_2, .int .i64 a0_3, .int .i64 a0_4, .int .i64 a0_5, .int .i64 a0_6, .int .i64 a0_7], .agg #[.int .i64 a1_0, .int .i64 a1_1, .int .i64 a1_2, .int .i64 a1_3, .int .i64 a1_4, .int .i64 a1_5, .int .i64 a1_6, .int .i64 a1_7]] w fun e w' => e = .returned (.int .i64 r) ∧ Grew w w' := by
  have hu63 := Tryd.underlying63
  have HB := Aside0.mk (Below.refl w.heap.size w)
  have HG := Aside0.mk (Grew.refl w)
  have H : ((cmp_Compare_int.f a1_6 a0_6).bind fun t163 => ((cmp_Compare_int.f a0_7 a1_7).bind fun t164 => ((cmp_Or_int.f k (([t163, t164] : List Int))).bind fun t168 => (some t168)))) = some r := h
  clear h
  replace H := Option.bind_eq_some_iff.mp H
  obtain ⟨t163, A30, H⟩ := H
  replace H : ((cmp_Compare_int.f a0_7 a1_7).bind fun t164 => ((cmp_Or_int.f k (([t163, t164] : List Int))).bind fun t168 => (some t168))) = some r := H
  have A3 := Aside0.mk A30
  clear A30
  replace H := Option.bind_eq_some_iff.mp H
  obtain ⟨t164, A40, H⟩ := H
  replace H : ((cmp_Or_int.f k (([t163, t164] : List Int))).bind fun t168 => (some t168)) = some r := H
  have A4 := Aside0.mk A40
  clear A40
  obtain ⟨y165, hy165⟩ : ∃ y_ : List Int, y_ = (([t163, t164] : List Int)) := ⟨_, rfl⟩
  replace H : ((cmp_Or_int.f k y165).bind fun t168 => (some t168)) = some r := by first | (rw [hy165]; with_reducible exact H) | (have H2_ := (Option.bind_some _ _).symm.trans H; rw [hy165]; with_reducible exact H2_) | (have H2_ := (Option.bind_some _ _).symm.trans H; with_reducible exact H2_) | with_reducible exact H | (rw [hy165]; exact H) | exact H
  have Ny165 := Aside0.mk hy165
  clear hy165
  replace H := Option.bind_eq_some_iff.mp H
  obtain ⟨t168, A50, H⟩ := H
  replace H : (some t168) = some r := H
  have A5 := Aside0.mk A50
  clear A50
  obtain rfl := Option.some.inj H
  go_enter Tryd.func30, Tryd.ntmps30
  try go_wp2_with (first | ((with_reducible refine gate_dst (N := 2) rfl ?_); refine qevG_ 2 #[.int .i64 a0_0, .int .i64 a0_1, .int .i64 a0_2, .int .i64 a0_3, .int .i64 a0_4, .int .i64 a0_5, .int .i64 a0_6, .int .i64 a0_7] 63 ?_; intro gb161 hg w6 hbox hb heq_; replace HG := Aside0.mk (HG.out.alloc heq_); clear heq_; have BK161 := Aside0.mk (hbox); have GW161 := qga_ hg; have GE161 := qga_ hg; replace HB := qbs_ hb; clear hb hbox hg) | ((with_reducible refine gate_dst (N := 3) rfl ?_); refine qevG_ 3 #[.int .i64 a1_0, .int .i64 a1_1, .int .i64 a1_2, .int .i64 a1_3, .int .i64 a1_4, .int .i64 a1_5, .int .i64 a1_6, .int .i64 a1_7] 63 ?_; intro gb162 hg w7 hbox hb heq_; replace HG := Aside0.mk (HG.out.alloc heq_); clear heq_; have BK162 := Aside0.mk (hbox); have GW162 := qga_ hg; have GE162 := qga_ hg; replace HB := qbs_ hb; have NB161_162 := Aside0.mk ((by rw [hg]; exact Nat.ne_of_lt (blk_lt (qk_ BK161)) : gb161 ≠ gb162)); have NB162_161 := Aside0.mk ((by rw [hg]; exact Nat.ne_of_gt (blk_lt (qk_ BK161)) : gb162 ≠ gb161)); replace BK161 := qkb_ BK161 hb; clear hb hbox hg))
  replace BK161 := Aside0.mk (blk_drew BK161.out)
  replace BK162 := Aside0.mk (blk_drew BK162.out)
  replace HB := Aside0.mk (below_drew1 HB.out)
  replace HG := Aside0.mk (HG.out.drew)
  refine start_ (n := 13) (S := fun w' => w'.cell? ⟨gb162, 0, none⟩ = some (.int .i64 a1_0) ∧ w'.cell? ⟨gb162, 1, none⟩ = some (.int .i64 a1_1) ∧ w'.cell? ⟨gb162, 2, none⟩ = some (.int .i64 a1_2) ∧ w'.cell? ⟨gb162, 3, none⟩ = some (.int .i64 a1_3) ∧ w'.cell? ⟨gb162, 4, none⟩ = some (.int .i64 a1_4) ∧ w'.cell? ⟨gb162, 5, none⟩ = some (.int .i64 a1_5) ∧ w'.cell? ⟨gb162, 6, none⟩ = some (.int .i64 a1_6) ∧ w'.cell? ⟨gb162, 7, none⟩ = some (.int .i64 a1_7) ∧ w'.cell? ⟨gb161, 0, none⟩ = some (.int .i64 a0_0) ∧ w'.cell? ⟨gb161, 1, none⟩ = some (.int .i64 a0_1) ∧ w'.cell? ⟨gb161, 2, none⟩ = some (.int .i64 a0_2) ∧ w'.cell? ⟨gb161, 3, none⟩ = some (.int .i64 a0_3) ∧ w'.cell? ⟨gb161, 4, none⟩ = some (.int .i64 a0_4) ∧ w'.cell? ⟨gb161, 5, none⟩ = some (.int .i64 a0_5) ∧ w'.cell? ⟨gb161, 6, none⟩ = some (.int .i64 a0_6) ∧ w'.cell? ⟨gb161, 7, none⟩ = some (.int .i64 a0_7)) (ds := []) #[i_,i_,i_,i_,i_,i_,i_,i_,i_,i_,i_,i_,i_] (by kernel_rfl) rfl rfl ⟨(blk_cell BK162.out 0).trans rfl, (blk_cell BK162.out 1).trans rfl, (blk_cell BK162.out 2).trans rfl, (blk_cell BK162.out 3).trans rfl, (blk_cell BK162.out 4).trans rfl, (blk_cell BK162.out 5).trans rfl, (blk_cell BK162.out 6).trans rfl, (blk_cell BK162.out 7).trans rfl, (blk_cell BK161.out 0).trans rfl, (blk_cell BK161.out 1).trans rfl, (blk_cell BK161.out 2).trans rfl, (blk_cell BK161.out 3).trans rfl, (blk_cell BK161.out 4).trans rfl, (blk_cell BK161.out 5).trans rfl, (blk_cell BK161.out 6).trans rfl, (blk_cell BK161.out 7).trans rfl⟩ (fun hHeld => ?_); refine with_tabW points_Order_1.tab1 points_Order_1.bits1 (fun HT_ HW_ => ?_)
  generalize w7.drew = w8 at BK161 BK162 HB HG hHeld ⊢
  refine qpu_ 0 (some 5) #[o_,i_,i_,i_,i_,i_,i_,i_,i_,i_,i_,i_,i_] ?_
  refine qpu_ 2 (some 7) #[o_,i_,o_,i_,i_,i_,i_,i_,i_,i_,i_,i_,i_] ?_
  refine qpu_ 5 (some 10) #[o_,i_,o_,i_,i_,o_,i_,i_,i_,i_,i_,i_,i_] ?_
  refine qpu_ 7 (some 12) #[o_,i_,o_,i_,i_,o_,i_,o_,i_,i_,i_,i_,i_] ?_
  refine take_ (i := 1) (N := some 6) (v := ?_) (a' := ?_) #[o_,o_,o_,i_,i_,o_,i_,o_,i_,i_,i_,i_,i_] rfl rfl (take_ofW HT_.out HW_.out (by kernel_rfl)) (fun _ _ _ h => h) (Or.inl ⟨by rfl, ?_⟩) hHeld ?_ ?_
  rotate_left
  · rintro w' ⟨s0, s1, s2, s3, s4, s5, s6, s7, s8, s9, s10, s11, s12, s13, s14, s15⟩
    go_simp
    with_reducible rfl
  rotate_left
  · exact qp_
  refine take_ (i := 3) (N := some 8) (v := ?_) (a' := ?_) #[o_,o_,o_,o_,i_,o_,i_,o_,i_,i_,i_,i_,i_] rfl rfl (take_ofW HT_.out HW_.out (by kernel_rfl)) (fun _ _ _ h => h) (Or.inl ⟨by rfl, ?_⟩) hHeld ?_ ?_
  rotate_left
  · rintro w' ⟨s0, s1, s2, s3, s4, s5, s6, s7, s8, s9, s10, s11, s12, s13, s14, s15⟩
    go_simp
    with_reducible rfl
  rotate_left
  · exact qp_
  refine take_ (i := 6) (N := some 11) (v := ?_) (a' := ?_) #[o_,o_,o_,o_,i_,o_,o_,o_,i_,i_,i_,i_,i_] rfl rfl (take_ofW HT_.out HW_.out (by kernel_rfl)) (fun _ _ _ h => h) (Or.inl ⟨by rfl, ?_⟩) hHeld ?_ ?_
  rotate_left
  · rintro w' ⟨s0, s1, s2, s3, s4, s5, s6, s7, s8, s9, s10, s11, s12, s13, s14, s15⟩
    go_simp
    with_reducible rfl
  rotate_left
  · exact qp_
  refine take_ (i := 8) (N := some 13) (v := ?_) (a' := ?_) #[o_,o_,o_,o_,i_,o_,o_,o_,o_,i_,i_,i_,i_] rfl rfl (take_ofW HT_.out HW_.out (by kernel_rfl)) (fun _ _ _ h => h) (Or.inl ⟨by rfl, ?_⟩) hHeld ?_ ?_
  rotate_left
  · rintro w' ⟨s0, s1, s2, s3, s4, s5, s6, s7, s8, s9, s10, s11, s12, s13, s14, s15⟩
    go_simp
    with_reducible rfl
  rotate_left
  · exact qp_
  refine one_ (i := 4) (N := some 9) #[o_,o_,o_,o_,o_,o_,o_,o_,o_,i_,i_,i_,i_] rfl rfl (one_of HT_.out (by kernel_rfl)) (by decide) (fun K hK => ?_)
  refine goes_ Tryd.func32 (by kernel_rfl) rfl #[.int .i64 a1_6, .int .i64 a0_6] (by rfl) rfl rfl ql_ ?_
  with_reducible refine (cmp_Compare_int.calls a1_6 a0_6 t163 _ A3.out).mono ?_
  rintro e w' ⟨rfl, ⟨nd, rfl⟩⟩
  replace HG := Aside0.mk (HG.out.drewN nd)
  refine ⟨_, rfl, ?_⟩
  refine hK.out _ _ ⟨(blk_cell BK162.out 0).trans rfl, (blk_cell BK162.out 1).trans rfl, (blk_cell BK162.out 2).trans rfl, (blk_cell BK162.out 3).trans rfl, (blk_cell BK162.out 4).trans rfl, (blk_cell BK162.out 5).trans rfl, (blk_cell BK162.out 6).trans rfl, (blk_cell BK162.out 7).trans rfl, (blk_cell BK161.out 0).trans rfl, (blk_cell BK161.out 1).trans rfl, (blk_cell BK161.out 2).trans rfl, (blk_cell BK161.out 3).trans rfl, (blk_cell BK161.out 4).trans rfl, (blk_cell BK161.out 5).trans rfl, (blk_cell BK161.out 6).trans rfl, (blk_cell BK161.out 7).trans rfl⟩ (fun hHeld => ?_)
  clear hK K
  refine norm_ (a' := ?_) ?_ ?_
  rotate_left
  · show Act.put _ (some 9) _ = _
    exact qp_
  refine one_ (i := 9) (N := some 14) #[o_,o_,o_,o_,o_,o_,o_,o_,o_,o_,i_,i_,i_] rfl rfl (one_of HT_.out (by kernel_rfl)) (by decide) (fun K hK => ?_)
  refine goes_ Tryd.func32 (by kernel_rfl) rfl #[.int .i64 a0_7, .int .i64 a1_7] (by rfl) rfl rfl ql_ ?_
  with_reducible refine (cmp_Compare_int.calls a0_7 a1_7 t164 _ A4.out).mono ?_
  rintro e w' ⟨rfl, ⟨nd, rfl⟩⟩
  replace HG := Aside0.mk (HG.out.drewN nd)
  refine ⟨_, rfl, ?_⟩
  refine hK.out _ _ ⟨(blk_cell BK162.out 0).trans rfl, (blk_cell BK162.out 1).trans rfl, (blk_cell BK162.out 2).trans rfl, (blk_cell BK162.out 3).trans rfl, (blk_cell BK162.out 4).trans rfl, (blk_cell BK162.out 5).trans rfl, (blk_cell BK162.out 6).trans rfl, (blk_cell BK162.out 7).trans rfl, (blk_cell BK161.out 0).trans rfl, (blk_cell BK161.out 1).trans rfl, (blk_cell BK161.out 2).trans rfl, (blk_cell BK161.out 3).trans rfl, (blk_cell BK161.out 4).trans rfl, (blk_cell BK161.out 5).trans rfl, (blk_cell BK161.out 6).trans rfl, (blk_cell BK161.out 7).trans rfl⟩ (fun hHeld => ?_)
  clear hK K
  refine norm_ (a' := ?_) ?_ ?_
  rotate_left
  · show Act.put _ (some 14) _ = _
    exact qp_
  refine one_ (i := 10) (N := some 15) #[o_,o_,o_,o_,o_,o_,o_,o_,o_,o_,o_,i_,i_] rfl rfl (one_of HT_.out (by kernel_rfl)) (by decide) (fun K hK => ?_)
  refine R_lit_stepG (Kd.int .i64) _ 3 ?hg (N := 15) ?hd (xs := ([t163, t164] : List Int)) (inner := [.int .i64 t163, .int .i64 t164]) (ok := fun _ => True) (okp := fun _ => True) ?hr ?hp (fun _ hk => hk) trivial (Nat.le_refl _) (by simp) ?_; (case hd => rfl); (case hg => rfl); (case hr => exact qq_); (case hp => exact (Reps.one (show Kd.M (Kd.int .i64) _ _ _ t163 [.int .i64 t163] from rfl) (Reps.one (show Kd.M (Kd.int .i64) _ _ _ t164 [.int .i64 t164] from rfl) (Reps.none _ _))))
  intro v166 w9 ho10 hb heq_
  replace HG := Aside0.mk (HG.out.alloc heq_)
  clear heq_
  (first | rw [← Ny165.out] at ho10 | (simp only [Int.reduceToNat] at ho10; rw [← Ny165.out] at ho10))
  have HO167 := Aside0.mk (Kd.R_lower ho10 (below_size qb_))
  replace BK161 := qkb_ BK161 hb
  replace BK162 := qkb_ BK162 hb
  replace HB := qbs_ hb
  clear hb ho10
  obtain ⟨Ao11, co11, eo11⟩ := Kd.R_slice HO167.out
  (first | subst eo11 | (injection eo11 with f1_ f2_ f3_; have f4_ := f1_.symm; have f5_ := f3_.symm; clear f1_ f2_ f3_; subst f4_; subst f5_))
  refine hK.out _ _ ⟨(blk_cell BK162.out 0).trans rfl, (blk_cell BK162.out 1).trans rfl, (blk_cell BK162.out 2).trans rfl, (blk_cell BK162.out 3).trans rfl, (blk_cell BK162.out 4).trans rfl, (blk_cell BK162.out 5).trans rfl, (blk_cell BK162.out 6).trans rfl, (blk_cell BK162.out 7).trans rfl, (blk_cell BK161.out 0).trans rfl, (blk_cell BK161.out 1).trans rfl, (blk_cell BK161.out 2).trans rfl, (blk_cell BK161.out 3).trans rfl, (blk_cell BK161.out 4).trans rfl, (blk_cell BK161.out 5).trans rfl, (blk_cell BK161.out 6).trans rfl, (blk_cell BK161.out 7).trans rfl⟩ (fun hHeld => ?_)
  clear hK K
  refine norm_ (a' := ?_) ?_ ?_
  rotate_left
  · show Act.put _ (some 15) _ = _
    exact qp_
  refine one_ (i := 11) (N := some 16) #[o_,o_,o_,o_,o_,o_,o_,o_,o_,o_,o_,o_,i_] rfl rfl (one_of HT_.out (by kernel_rfl)) (by decide) (fun K hK => ?_)
  refine goes_ Tryd.func31 (by kernel_rfl) rfl #[.slice Ao11 y165.length co11] (by rfl) rfl rfl ql_ ?_
  with_reducible refine (cmp_Or_int.calls k _ _ y165 t168 _ ?side1 ?side2 A5.out).mono ?_
  (case side1 => exact qv_ (Kd.R_reads' HO167.out).2.2)
  (case side2 => exact (Kd.R_reads' HO167.out).2.1)
  rintro e w' ⟨rfl, ⟨nd, rfl⟩⟩
  replace HG := Aside0.mk (HG.out.drewN nd)
  refine ⟨_, rfl, ?_⟩
  refine hK.out _ _ ⟨(blk_cell BK162.out 0).trans rfl, (blk_cell BK162.out 1).trans rfl, (blk_cell BK162.out 2).trans rfl, (blk_cell BK162.out 3).trans rfl, (blk_cell BK162.out 4).trans rfl, (blk_cell BK162.out 5).trans rfl, (blk_cell BK162.out 6).trans rfl, (blk_cell BK162.out 7).trans rfl, (blk_cell BK161.out 0).trans rfl, (blk_cell BK161.out 1).trans rfl, (blk_cell BK161.out 2).trans rfl, (blk_cell BK161.out 3).trans rfl, (blk_cell BK161.out 4).trans rfl, (blk_cell BK161.out 5).trans rfl, (blk_cell BK161.out 6).trans rfl, (blk_cell BK161.out 7).trans rfl⟩ (fun hHeld => ?_)
  clear hK K
  refine norm_ (a' := ?_) ?_ ?_
  rotate_left
  · show Act.put _ (some 16) _ = _
    exact qp_
  refine qpu_ 12 (some 4) #[o_,o_,o_,o_,o_,o_,o_,o_,o_,o_,o_,o_,o_] ?_
  refine done_ (done_of HT_.out (by kernel_rfl)) ?_
  try go_wp2
  go_ret
  exact ⟨qx_, HG.out⟩

instance : Inhabited S63 := ⟨z63⟩
def enc63 (x : S63) : List Value := [.int .i64 x.f0.f0.f0, .int .i64 x.f0.f0.f1, .int .i64 x.f0.f0.f2, .int .i64 x.f0.f0.f3, .int .i64 x.f0.f0.f4, .int .i64 x.f1, .int .i64 x.f2, .int .i64 x.f3]
theorem plain63 : Plain k63 enc63 := ⟨fun w base ok x => k63_mkM w base ok x, fun h => k63_openM h, fun _ => rfl, fun x v hv => by
  simp only [enc63, List.mem_cons, List.mem_nil_iff, or_false] at hv
  rcases hv with rfl | rfl | rfl | rfl | rfl | rfl | rfl | rfl <;> rfl⟩
theorem cmp_val (a b : Int) : cmp_Compare_int.f a b = some (if a < b then -1 else if a > b then 1 else 0) := by
  have e : ∀ x : Int, cmp_isNaN_int.f x = some false := fun x => by unfold cmp_isNaN_int.f; simp
  unfold cmp_Compare_int.f
  rw [e, e]
  simp only [Option.bind_some]
  rw [if_neg (by decide), if_neg (by decide)]
  split
  · rfl
  · split <;> rfl
theorem or_val (a b : Int) : cmp_Or_int.f 5 [a, b] = some (if a = 0 then b else a) := by
  unfold cmp_Or_int.f
  have e1 : wrap64 1 = 1 := by unfold wrap64; omega
  have e2 : wrap64 2 = 2 := by unfold wrap64; omega
  by_cases ha : a = 0
  · subst ha
    by_cases hb : b = 0
    · subst hb
      simp [cmp_Or_int.l0, Go.Proofs.YtfhmbfadbfnnaaaDoorW.PrintWords.rd, e1, e2]
    · simp [cmp_Or_int.l0, Go.Proofs.YtfhmbfadbfnnaaaDoorW.PrintWords.rd, e1, e2, hb]
  · simp [cmp_Or_int.l0, Go.Proofs.YtfhmbfadbfnnaaaDoorW.PrintWords.rd, e1, e2, ha]
def cfS (x y : S63) : Int := if (if y.f2 < x.f2 then (-1 : Int) else if y.f2 > x.f2 then 1 else 0) = 0 then (if x.f3 < y.f3 then (-1 : Int) else if x.f3 > y.f3 then 1 else 0) else (if y.f2 < x.f2 then (-1 : Int) else if y.f2 > x.f2 then 1 else 0)
theorem cfS_val (x y : S63) : points_Order_1.f 5 x.f0.f0.f0 x.f0.f0.f1 x.f0.f0.f2 x.f0.f0.f3 x.f0.f0.f4 x.f1 x.f2 x.f3 y.f0.f0.f0 y.f0.f0.f1 y.f0.f0.f2 y.f0.f0.f3 y.f0.f0.f4 y.f1 y.f2 y.f3 = some (cfS x y) := by
  unfold points_Order_1.f
  rw [cmp_val, cmp_val]
  simp only [Option.bind_some]
  rw [or_val]
  rfl
theorem cfS_le (x y : S63) : cfS x y ≤ 0 ↔ y.f2 < x.f2 ∨ (y.f2 = x.f2 ∧ x.f3 ≤ y.f3) := by
  unfold cfS
  (repeat' split) <;> omega
theorem cfS_lt (x y : S63) : cfS x y < 0 ↔ y.f2 < x.f2 ∨ (y.f2 = x.f2 ∧ x.f3 < y.f3) := by
  unfold cfS
  (repeat' split) <;> omega
theorem cfS_gt (x y : S63) : 0 < cfS x y ↔ x.f2 < y.f2 ∨ (y.f2 = x.f2 ∧ y.f3 < x.f3) := by
  unfold cfS
  (repeat' split) <;> omega
theorem compS : Compares cfS := ⟨fun x y => by rw [cfS_lt, cfS_gt]; omega, fun x y z h1 h2 => by rw [cfS_le] at *; omega⟩
theorem clos_cmp (blk size : Nat) (w : World) : CmpLays Tryd.prog 30 #[] enc63 8 cfS blk 0 size w := by
  intro m os dk _ x y
  refine (points_Order_1.grows 5 x.f0.f0.f0 x.f0.f0.f1 x.f0.f0.f2 x.f0.f0.f3 x.f0.f0.f4 x.f1 x.f2 x.f3 y.f0.f0.f0 y.f0.f0.f1 y.f0.f0.f2 y.f0.f0.f3 y.f0.f0.f4 y.f1 y.f2 y.f3 (cfS x y) _ (cfS_val x y)).mono ?_
  rintro e w' ⟨he, q, os', hw⟩
  exact ⟨he, q, os', hw⟩
def points_place_29__points_Order_1.f (k : Nat) (l0 : List S63) : Option (List S63) := if (apartBy cfS l0 && decide (l0.length < 4611686018427387904)) = true then some (sortBy cfS l0) else none
theorem points_place_29__points_Order_1.mono : ∀ a0 k, LeO (points_place_29__points_Order_1.f k a0) (points_place_29__points_Order_1.f (k + 1) a0) := fun a0 k => LeO.refl _
set_option maxHeartbeats 4000000 in
theorem points_place_29__points_Order_1.calls (k : Nat) (P0_ : Nat → Prop) (u9000_ : Value) (l0 : List S63) (r : List S63) (w0 w : World) (hB : Below w0.heap.size w0 w) (ho0 : Kd.R k63 63 w w0.heap.size P0_ u9000_ l0) (h : points_place_29__points_Order_1.f k l0 = some r) :
    Calls Tryd.prog 29 #[u9000_, .func (.func 30) #[] #[]] w fun e w' => e = .returned (.tuple #[]) ∧ Kd.R k63 63 w' w0.heap.size (fun k_ => (P0_ k_ ∨ w.heap.size ≤ k_)) u9000_ r ∧ Below w0.heap.size w0 w' ∧ Kept w w' (fun k_ => P0_ k_) := by
  unfold points_place_29__points_Order_1.f at h
  split at h
  case isFalse => cases h
  rename_i c
  obtain rfl := Option.some.inj h
  rw [Bool.and_eq_true, decide_eq_true_eq] at c
  obtain ⟨c1, c2⟩ := c
  obtain ⟨A, cap, rfl⟩ := Kd.R_slice ho0
  cases A with
  | none =>
    have hn : l0 = [] := by
      rcases ho0.2 with ⟨inner, ho, hr⟩
      rcases ho.2 with ⟨_, h0⟩ | ⟨g', cap', cur, hv, _⟩
      · exact List.length_eq_zero_iff.1 h0
      · cases hv
    subst hn
    have hcon := AnyF.slices_SortFunc_none sortPl none cap (.func (.func 30) #[] #[]) w
    change Calls Tryd.prog 29 _ _ _ at hcon
    refine hcon.mono ?_
    rintro e w' ⟨rfl, rfl⟩
    exact ⟨rfl, Kd.R_mono ho0 (fun k hk => .inl hk), hB, Kept.refl _ _⟩
  | some ad =>
    have hform : ∃ g, ad = ⟨g, 0, none⟩ := by
      rcases ho0.2 with ⟨inner, ho, hr⟩
      rcases ho.2 with ⟨hv, _⟩ | ⟨g', cap', cur, hv, _⟩
      · cases hv
      · injection hv with ha _ _
        injection ha with ha
        exact ⟨g', ha⟩
    obtain ⟨g, rfl⟩ := hform
    obtain ⟨hH, hblk⟩ := row_holds plain63 ho0
    have hbase : w0.heap.size ≤ g := Kd.R_base ho0 g (by simp [Value.ownBlock])
    have hP : P0_ g := ho0.1 g (by simp [Value.ownBlock])
    have eg : ∀ args w, (callFunc 30 args).run Tryd.prog w = .ok (.enter 30 args) w := enters_of Tryd.func30 (by kernel_rfl) rfl
    have hcon := AnyQ.slices_SortFunc sortPl 8 Tryd.isAgg63 Tryd.sizeOf63 enc63 (fun _ => rfl) plain63.one cfS compS.swo 30 #[] g 0 cap l0.toArray w eg (clos_cmp g l0.toArray.size w) hH hblk (by simpa using c2)
    change Calls Tryd.prog 29 _ _ _ at hcon
    refine hcon.mono ?_
    rintro e w' ⟨rfl, d', m, os, hp, hs, rfl⟩
    obtain rfl := sorted_is compS hp hs c1
    exact ⟨rfl, Kd.R_mono (row_sorted plain63 ho0 (sortBy_length cfS l0)) (fun k hk => .inl hk), below_sorted (d := k63) _ hB hbase, kept_sorted (d := k63) _ (.inl hP)⟩
end Go.Proofs.YtfhmbfadbfnnaaaDoor.Given
