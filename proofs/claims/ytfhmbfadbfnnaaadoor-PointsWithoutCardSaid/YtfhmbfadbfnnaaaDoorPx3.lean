/- Contracts of Go functions, written by a program of this session's own (wip/tools/myprint.py) out of the translation: each Go function does what the Lean function of its name says. Conditions: as each theorem states. -/
import Derived.Test.YtfhmbfadbfnnaaaDoorPx0
import Derived.Test.YtfhmbfadbfnnaaaDoorPx1
import Derived.Test.YtfhmbfadbfnnaaaDoorPx2
namespace Go.Proofs.YtfhmbfadbfnnaaaDoor.Px
open Go.Proofs.YtfhmbfadbfnnaaaDoor.Given
open Go.RowKit Go.Proofs.YtfhmbfadbfnnaaaDoorW.PrintWords Go.Proofs.YtfhmbfadbfnnaaaDoorW.PrintLast Go.Proofs.YtfhmbfadbfnnaaaDoorW.PrintMore
attribute [local go_sem] max2_int min2_int max_two min_two max_three min_three max_four min_four   -- for this text's walks alone
set_option linter.unusedVariables false
set_option linter.unusedSimpArgs false

/-! ### points_home_count: function 24 -/
def points_home_count.f (k : Nat) (a0_0 a0_1 a0_2 a0_3 a0_4 a1_0 a1_1 a1_2 a1_3 a2 : Int) : Option (Int × Int) := (points_within.f a2 36524).bind fun t137 => (if t137 = true then (if a0_1 > a2 then (some (0, 21)) else ((points_home_months.f k a0_0 a0_1 a0_2 a0_3 a0_4 a2).bind fun t138 => (if (wrap64 ((wrap64 ((wrap64 ((wrap64 (t138 * a1_0)) + (wrap64 (a0_2 * a1_1)))) + (wrap64 (a0_3 * a1_2)))) + (wrap64 (a0_4 * a1_3)))) > 1000000000 then (some (0, 3)) else (some (wrap64 ((wrap64 ((wrap64 ((wrap64 (t138 * a1_0)) + (wrap64 (a0_2 * a1_1)))) + (wrap64 (a0_3 * a1_2)))) + (wrap64 (a0_4 * a1_3))), 0))))) else (some (0, 3)))
theorem points_home_count.mono : ∀ a0 a1 a2 a3 a4 a5 a6 a7 a8 a9 k, LeO (points_home_count.f k a0 a1 a2 a3 a4 a5 a6 a7 a8 a9) (points_home_count.f (k + 1) a0 a1 a2 a3 a4 a5 a6 a7 a8 a9) := by
  intro a0 a1 a2 a3 a4 a5 a6 a7 a8 a9 k
  unfold points_home_count.f
  with_reducible (repeat' first | apply points_home_months.mono | apply LeO.refl | apply LeO.none | apply LeO.ite | refine LeO.bind ?_ (fun _ => ?_))
def points_home_count.T5 : Bool × List (List Nat × List Nat) := (true, [([], []), ([], []), ([0, 1], [0, 1]), ([], []), ([3], [3]), ([2, 4], [2, 4]), ([], []), ([6], [6]), ([7], [7]), ([], []), ([9], [9]), ([8, 10], [8, 10]), ([5, 11], [5, 11]), ([], []), ([13], [13]), ([14], [14]), ([], []), ([16], [16]), ([15, 17], [15, 17]), ([12, 18], [12, 18]), ([], []), ([20], [20]), ([21], [21]), ([], []), ([23], [23]), ([22, 24], [22, 24]), ([19, 25], [19, 25]), ([26, 2, 0, 1, 2, 3, 4, 5, 6, 7, 8, 9, 10, 11, 12, 13, 14, 15, 16, 17, 18, 19, 20, 21, 22, 23, 24, 25, 26], [26])])
def points_home_count.B5 : List Nat := [0, 0, 3, 0, 8, 31, 0, 64, 192, 0, 512, 1984, 4095, 0, 8192, 24576, 0, 65536, 253952, 524287, 0, 1048576, 3145728, 0, 8388608, 32505856, 67108863, 134217727]
theorem points_home_count.tab5 : rtab .any (opsOf Tryd.f24 5) = points_home_count.T5 := by kernel_rfl
theorem points_home_count.bits5 : waitsOk points_home_count.T5.2 points_home_count.B5 = true := by kernel_rfl
set_option maxHeartbeats 8000000 in
set_option maxRecDepth 100000 in
theorem points_home_count.calls (k : Nat) (a0_0 a0_1 a0_2 a0_3 a0_4 a1_0 a1_1 a1_2 a1_3 a2 r1 r2 : Int) (w : World) (HT : TabOK w) (h : points_home_count.f k a0_0 a0_1 a0_2 a0_3 a0_4 a1_0 a1_1 a1_2 a1_3 a2 = some (r1, r2)) :
    Calls Tryd.prog 24 #[.agg #[.int .i64 a0_0, .int .i64 a0_1, .int .i64 a0_2, .int .i64 a0_3, .int .i64 a0_4], .agg #[.int .i64 a1_0, .int .i64 a1_1, .int .i64 a1_2, .int .i64 a1_3], .int .i64 a2] w fun e w' => e = .returned (.tuple #[.int .i64 r1, .int .i64 r2]) ∧ Below w.heap.size w w' := by
  have hu54 := Tryd.underlying54
  have hu23 := Tryd.underlying23
  have HTA := Aside0.mk HT
  clear HT
  have HB := Aside0.mk (Below.refl w.heap.size w)
  have H : ((points_within.f a2 36524).bind fun t137 => (if t137 = true then (if a0_1 > a2 then (some (0, 21)) else ((points_home_months.f k a0_0 a0_1 a0_2 a0_3 a0_4 a2).bind fun t138 => (if (wrap64 ((wrap64 ((wrap64 ((wrap64 (t138 * a1_0)) + (wrap64 (a0_2 * a1_1)))) + (wrap64 (a0_3 * a1_2)))) + (wrap64 (a0_4 * a1_3)))) > 1000000000 then (some (0, 3)) else (some (wrap64 ((wrap64 ((wrap64 ((wrap64 (t138 * a1_0)) + (wrap64 (a0_2 * a1_1)))) + (wrap64 (a0_3 * a1_2)))) + (wrap64 (a0_4 * a1_3))), 0))))) else (some (0, 3)))) = some (r1, r2) := h
  clear h
  replace H := Option.bind_eq_some_iff.mp H
  obtain ⟨t137, A40, H⟩ := H
  replace H : (if t137 = true then (if a0_1 > a2 then (some (0, 21)) else ((points_home_months.f k a0_0 a0_1 a0_2 a0_3 a0_4 a2).bind fun t138 => (if (wrap64 ((wrap64 ((wrap64 ((wrap64 (t138 * a1_0)) + (wrap64 (a0_2 * a1_1)))) + (wrap64 (a0_3 * a1_2)))) + (wrap64 (a0_4 * a1_3)))) > 1000000000 then (some (0, 3)) else (some (wrap64 ((wrap64 ((wrap64 ((wrap64 (t138 * a1_0)) + (wrap64 (a0_2 * a1_1)))) + (wrap64 (a0_3 * a1_2)))) + (wrap64 (a0_4 * a1_3))), 0))))) else (some (0, 3))) = some (r1, r2) := H
  have A4 := Aside0.mk A40
  clear A40
  by_cases c5 : t137 = true
  · subst c5
    have H1 : (if a0_1 > a2 then (some (0, 21)) else ((points_home_months.f k a0_0 a0_1 a0_2 a0_3 a0_4 a2).bind fun t138 => (if (wrap64 ((wrap64 ((wrap64 ((wrap64 (t138 * a1_0)) + (wrap64 (a0_2 * a1_1)))) + (wrap64 (a0_3 * a1_2)))) + (wrap64 (a0_4 * a1_3)))) > 1000000000 then (some (0, 3)) else (some (wrap64 ((wrap64 ((wrap64 ((wrap64 (t138 * a1_0)) + (wrap64 (a0_2 * a1_1)))) + (wrap64 (a0_3 * a1_2)))) + (wrap64 (a0_4 * a1_3))), 0))))) = some (r1, r2) := by rw [if_pos rfl] at H; exact H
    clear H
    have H := H1
    clear H1
    by_cases c6 : a0_1 > a2
    · rw [if_pos c6] at H
      have c6b0 : decide (a2 < a0_1) = true := decide_eq_true c6
      clear c6
      simp only [Option.some.injEq, Prod.mk.injEq] at H
      obtain ⟨rfl, rfl⟩ := H
      go_enter Tryd.func24, Tryd.ntmps24
      go_wp2_with (first | ((with_reducible refine gate_dst (N := 3) rfl ?_); refine qev_ 3 #[.int .i64 a0_0, .int .i64 a0_1, .int .i64 a0_2, .int .i64 a0_3, .int .i64 a0_4] 54 ?_; intro gb135 hg w7 hbox hb; have BK135 := Aside0.mk (hbox); have GW135 := qga_ hg; have GE135 := qga_ hg; replace HB := qbs_ hb; clear hb hbox hg) | ((with_reducible refine gate_dst (N := 4) rfl ?_); refine qev_ 4 #[.int .i64 a1_0, .int .i64 a1_1, .int .i64 a1_2, .int .i64 a1_3] 23 ?_; intro gb136 hg w8 hbox hb; have BK136 := Aside0.mk (hbox); have GW136 := qga_ hg; have GE136 := qga_ hg; replace HB := qbs_ hb; have NB135_136 := Aside0.mk ((by rw [hg]; exact Nat.ne_of_lt (blk_lt (qk_ BK135)) : gb135 ≠ gb136)); have NB136_135 := Aside0.mk ((by rw [hg]; exact Nat.ne_of_gt (blk_lt (qk_ BK135)) : gb136 ≠ gb135)); replace BK135 := qkb_ BK135 hb; clear hb hbox hg) | ((with_reducible refine gate_callee (f := 40) rfl ?_); refine goesL_ (some 10) rfl rfl Tryd.func40 (by kernel_rfl) rfl #[.int .i64 a2, .int .i64 36524] rfl ql_ ?_; (with_reducible refine (points_within.calls a2 36524 true _ A4.out).mono ?_); rintro e w' ⟨rfl, ⟨nd, rfl⟩⟩; refine ⟨_, rfl, ?_⟩; have hnb9 := NB135_136.out; have hnc9 := NB136_135.out; obtain ⟨hcz10_0, hcz10_1, hcz10_2, hcz10_3, hcz10_4⟩ := qz5_ BK135; obtain ⟨hfz10_0, hfz10_1, hfz10_2, hfz10_3, hfz10_4⟩ := qf5_ BK135))
      go_ret2
      exact ⟨qx_, qb_⟩
    · rw [if_neg c6] at H
      have c6b0 : decide (a2 < a0_1) = false := decide_eq_false c6
      clear c6
      replace H := Option.bind_eq_some_iff.mp H
      obtain ⟨t138, A110, H⟩ := H
      replace H : (if (wrap64 ((wrap64 ((wrap64 ((wrap64 (t138 * a1_0)) + (wrap64 (a0_2 * a1_1)))) + (wrap64 (a0_3 * a1_2)))) + (wrap64 (a0_4 * a1_3)))) > 1000000000 then (some (0, 3)) else (some (wrap64 ((wrap64 ((wrap64 ((wrap64 (t138 * a1_0)) + (wrap64 (a0_2 * a1_1)))) + (wrap64 (a0_3 * a1_2)))) + (wrap64 (a0_4 * a1_3))), 0))) = some (r1, r2) := H
      have A11 := Aside0.mk A110
      clear A110
      by_cases c12 : (wrap64 ((wrap64 ((wrap64 ((wrap64 (t138 * a1_0)) + (wrap64 (a0_2 * a1_1)))) + (wrap64 (a0_3 * a1_2)))) + (wrap64 (a0_4 * a1_3)))) > 1000000000
      · rw [if_pos c12] at H
        have c12b0 : decide (1000000000 < (wrap64 ((wrap64 ((wrap64 ((wrap64 (t138 * a1_0)) + (wrap64 (a0_2 * a1_1)))) + (wrap64 (a0_3 * a1_2)))) + (wrap64 (a0_4 * a1_3))))) = true := decide_eq_true c12
        clear c12
        simp only [Option.some.injEq, Prod.mk.injEq] at H
        obtain ⟨rfl, rfl⟩ := H
        go_enter Tryd.func24, Tryd.ntmps24
        try go_wp2_with (first | ((with_reducible refine gate_dst (N := 3) rfl ?_); refine qev_ 3 #[.int .i64 a0_0, .int .i64 a0_1, .int .i64 a0_2, .int .i64 a0_3, .int .i64 a0_4] 54 ?_; intro gb135 hg w13 hbox hb; have BK135 := Aside0.mk (hbox); have GW135 := qga_ hg; have GE135 := qga_ hg; replace HB := qbs_ hb; clear hb hbox hg) | ((with_reducible refine gate_dst (N := 4) rfl ?_); refine qev_ 4 #[.int .i64 a1_0, .int .i64 a1_1, .int .i64 a1_2, .int .i64 a1_3] 23 ?_; intro gb136 hg w14 hbox hb; have BK136 := Aside0.mk (hbox); have GW136 := qga_ hg; have GE136 := qga_ hg; replace HB := qbs_ hb; have NB135_136 := Aside0.mk ((by rw [hg]; exact Nat.ne_of_lt (blk_lt (qk_ BK135)) : gb135 ≠ gb136)); have NB136_135 := Aside0.mk ((by rw [hg]; exact Nat.ne_of_gt (blk_lt (qk_ BK135)) : gb136 ≠ gb135)); replace BK135 := qkb_ BK135 hb; clear hb hbox hg) | ((with_reducible refine gate_callee (f := 40) rfl ?_); refine goesL_ (some 10) rfl rfl Tryd.func40 (by kernel_rfl) rfl #[.int .i64 a2, .int .i64 36524] rfl ql_ ?_; (with_reducible refine (points_within.calls a2 36524 true _ A4.out).mono ?_); rintro e w' ⟨rfl, ⟨nd, rfl⟩⟩; refine ⟨_, rfl, ?_⟩; have hnb15 := NB135_136.out; have hnc15 := NB136_135.out; obtain ⟨hcz16_0, hcz16_1, hcz16_2, hcz16_3, hcz16_4⟩ := qz5_ BK135; obtain ⟨hfz16_0, hfz16_1, hfz16_2, hfz16_3, hfz16_4⟩ := qf5_ BK135))
        (try (rw [drewN_self w14]; generalize hq_ : World.drewN w14 _ = w14; replace BK135 : Aside0 (w14.heap[gb135]? = some (.cells #[.int .i64 a0_0, .int .i64 a0_1, .int .i64 a0_2, .int .i64 a0_3, .int .i64 a0_4] 54 (0, 0))) := ⟨by rw [← hq_]; exact (qk_ BK135)⟩; replace BK136 : Aside0 (w14.heap[gb136]? = some (.cells #[.int .i64 a1_0, .int .i64 a1_1, .int .i64 a1_2, .int .i64 a1_3] 23 (0, 0))) := ⟨by rw [← hq_]; exact (qk_ BK136)⟩; replace HB : Aside0 (Below w.heap.size w w14) := ⟨by rw [← hq_]; exact qb_⟩; clear hq_))
        replace BK135 := Aside0.mk (blk_drew BK135.out)
        replace BK136 := Aside0.mk (blk_drew BK136.out)
        replace HB := Aside0.mk (below_drew1 HB.out)
        refine start_ (n := 28) (S := fun w' => w'.cell? ⟨gb135, 0, none⟩ = some (.int .i64 a0_0) ∧ w'.cell? ⟨gb135, 1, none⟩ = some (.int .i64 a0_1) ∧ w'.cell? ⟨gb135, 2, none⟩ = some (.int .i64 a0_2) ∧ w'.cell? ⟨gb135, 3, none⟩ = some (.int .i64 a0_3) ∧ w'.cell? ⟨gb135, 4, none⟩ = some (.int .i64 a0_4) ∧ w'.cell? ⟨gb136, 0, none⟩ = some (.int .i64 a1_0) ∧ w'.cell? ⟨gb136, 1, none⟩ = some (.int .i64 a1_1) ∧ w'.cell? ⟨gb136, 2, none⟩ = some (.int .i64 a1_2) ∧ w'.cell? ⟨gb136, 3, none⟩ = some (.int .i64 a1_3)) (ds := []) #[i_,i_,i_,i_,i_,i_,i_,i_,i_,i_,i_,i_,i_,i_,i_,i_,i_,i_,i_,i_,i_,i_,i_,i_,i_,i_,i_,i_] (by kernel_rfl) rfl rfl ⟨(blk_cell BK135.out 0).trans rfl, (blk_cell BK135.out 1).trans rfl, (blk_cell BK135.out 2).trans rfl, (blk_cell BK135.out 3).trans rfl, (blk_cell BK135.out 4).trans rfl, (blk_cell BK136.out 0).trans rfl, (blk_cell BK136.out 1).trans rfl, (blk_cell BK136.out 2).trans rfl, (blk_cell BK136.out 3).trans rfl⟩ (fun hHeld => ?_); refine with_tabW points_home_count.tab5 points_home_count.bits5 (fun HT_ HW_ => ?_)
        generalize w14.drew = w17 at BK135 BK136 HB hHeld ⊢
        refine qpu_ 1 (some 18) #[i_,o_,i_,i_,i_,i_,i_,i_,i_,i_,i_,i_,i_,i_,i_,i_,i_,i_,i_,i_,i_,i_,i_,i_,i_,i_,i_,i_] ?_
        refine qpu_ 3 (some 20) #[i_,o_,i_,o_,i_,i_,i_,i_,i_,i_,i_,i_,i_,i_,i_,i_,i_,i_,i_,i_,i_,i_,i_,i_,i_,i_,i_,i_] ?_
        refine qpu_ 6 (some 23) #[i_,o_,i_,o_,i_,i_,o_,i_,i_,i_,i_,i_,i_,i_,i_,i_,i_,i_,i_,i_,i_,i_,i_,i_,i_,i_,i_,i_] ?_
        refine qpu_ 7 (some 24) #[i_,o_,i_,o_,i_,i_,o_,o_,i_,i_,i_,i_,i_,i_,i_,i_,i_,i_,i_,i_,i_,i_,i_,i_,i_,i_,i_,i_] ?_
        refine qpu_ 9 (some 26) #[i_,o_,i_,o_,i_,i_,o_,o_,i_,o_,i_,i_,i_,i_,i_,i_,i_,i_,i_,i_,i_,i_,i_,i_,i_,i_,i_,i_] ?_
        refine qpu_ 13 (some 30) #[i_,o_,i_,o_,i_,i_,o_,o_,i_,o_,i_,i_,i_,o_,i_,i_,i_,i_,i_,i_,i_,i_,i_,i_,i_,i_,i_,i_] ?_
        refine qpu_ 14 (some 31) #[i_,o_,i_,o_,i_,i_,o_,o_,i_,o_,i_,i_,i_,o_,o_,i_,i_,i_,i_,i_,i_,i_,i_,i_,i_,i_,i_,i_] ?_
        refine qpu_ 16 (some 33) #[i_,o_,i_,o_,i_,i_,o_,o_,i_,o_,i_,i_,i_,o_,o_,i_,o_,i_,i_,i_,i_,i_,i_,i_,i_,i_,i_,i_] ?_
        refine qpu_ 20 (some 37) #[i_,o_,i_,o_,i_,i_,o_,o_,i_,o_,i_,i_,i_,o_,o_,i_,o_,i_,i_,i_,o_,i_,i_,i_,i_,i_,i_,i_] ?_
        refine qpu_ 21 (some 38) #[i_,o_,i_,o_,i_,i_,o_,o_,i_,o_,i_,i_,i_,o_,o_,i_,o_,i_,i_,i_,o_,o_,i_,i_,i_,i_,i_,i_] ?_
        refine qpu_ 23 (some 40) #[i_,o_,i_,o_,i_,i_,o_,o_,i_,o_,i_,i_,i_,o_,o_,i_,o_,i_,i_,i_,o_,o_,i_,o_,i_,i_,i_,i_] ?_
        refine take_ (i := 0) (N := some 17) (v := ?_) (a' := ?_) #[o_,o_,i_,o_,i_,i_,o_,o_,i_,o_,i_,i_,i_,o_,o_,i_,o_,i_,i_,i_,o_,o_,i_,o_,i_,i_,i_,i_] rfl rfl (take_ofW HT_.out HW_.out (by kernel_rfl)) (fun _ _ _ h => h) (Or.inl ⟨by rfl, ?_⟩) hHeld ?_ ?_
        rotate_left
        · rintro w' ⟨s0, s1, s2, s3, s4, s5, s6, s7, s8⟩
          go_simp
          with_reducible rfl
        rotate_left
        · exact qp_
        refine take_ (i := 4) (N := some 21) (v := ?_) (a' := ?_) #[o_,o_,i_,o_,o_,i_,o_,o_,i_,o_,i_,i_,i_,o_,o_,i_,o_,i_,i_,i_,o_,o_,i_,o_,i_,i_,i_,i_] rfl rfl (take_ofW HT_.out HW_.out (by kernel_rfl)) (fun _ _ _ h => h) (Or.inl ⟨by rfl, ?_⟩) hHeld ?_ ?_
        rotate_left
        · rintro w' ⟨s0, s1, s2, s3, s4, s5, s6, s7, s8⟩
          go_simp
          with_reducible rfl
        rotate_left
        · exact qp_
        refine take_ (i := 8) (N := some 25) (v := ?_) (a' := ?_) #[o_,o_,i_,o_,o_,i_,o_,o_,o_,o_,i_,i_,i_,o_,o_,i_,o_,i_,i_,i_,o_,o_,i_,o_,i_,i_,i_,i_] rfl rfl (take_ofW HT_.out HW_.out (by kernel_rfl)) (fun _ _ _ h => h) (Or.inl ⟨by rfl, ?_⟩) hHeld ?_ ?_
        rotate_left
        · rintro w' ⟨s0, s1, s2, s3, s4, s5, s6, s7, s8⟩
          go_simp
          with_reducible rfl
        rotate_left
        · exact qp_
        refine take_ (i := 10) (N := some 27) (v := ?_) (a' := ?_) #[o_,o_,i_,o_,o_,i_,o_,o_,o_,o_,o_,i_,i_,o_,o_,i_,o_,i_,i_,i_,o_,o_,i_,o_,i_,i_,i_,i_] rfl rfl (take_ofW HT_.out HW_.out (by kernel_rfl)) (fun _ _ _ h => h) (Or.inl ⟨by rfl, ?_⟩) hHeld ?_ ?_
        rotate_left
        · rintro w' ⟨s0, s1, s2, s3, s4, s5, s6, s7, s8⟩
          go_simp
          with_reducible rfl
        rotate_left
        · exact qp_
        refine qpu_ 11 (some 28) #[o_,o_,i_,o_,o_,i_,o_,o_,o_,o_,o_,o_,i_,o_,o_,i_,o_,i_,i_,i_,o_,o_,i_,o_,i_,i_,i_,i_] ?_
        refine take_ (i := 15) (N := some 32) (v := ?_) (a' := ?_) #[o_,o_,i_,o_,o_,i_,o_,o_,o_,o_,o_,o_,i_,o_,o_,o_,o_,i_,i_,i_,o_,o_,i_,o_,i_,i_,i_,i_] rfl rfl (take_ofW HT_.out HW_.out (by kernel_rfl)) (fun _ _ _ h => h) (Or.inl ⟨by rfl, ?_⟩) hHeld ?_ ?_
        rotate_left
        · rintro w' ⟨s0, s1, s2, s3, s4, s5, s6, s7, s8⟩
          go_simp
          with_reducible rfl
        rotate_left
        · exact qp_
        refine take_ (i := 17) (N := some 34) (v := ?_) (a' := ?_) #[o_,o_,i_,o_,o_,i_,o_,o_,o_,o_,o_,o_,i_,o_,o_,o_,o_,o_,i_,i_,o_,o_,i_,o_,i_,i_,i_,i_] rfl rfl (take_ofW HT_.out HW_.out (by kernel_rfl)) (fun _ _ _ h => h) (Or.inl ⟨by rfl, ?_⟩) hHeld ?_ ?_
        rotate_left
        · rintro w' ⟨s0, s1, s2, s3, s4, s5, s6, s7, s8⟩
          go_simp
          with_reducible rfl
        rotate_left
        · exact qp_
        refine qpu_ 18 (some 35) #[o_,o_,i_,o_,o_,i_,o_,o_,o_,o_,o_,o_,i_,o_,o_,o_,o_,o_,o_,i_,o_,o_,i_,o_,i_,i_,i_,i_] ?_
        refine take_ (i := 22) (N := some 39) (v := ?_) (a' := ?_) #[o_,o_,i_,o_,o_,i_,o_,o_,o_,o_,o_,o_,i_,o_,o_,o_,o_,o_,o_,i_,o_,o_,o_,o_,i_,i_,i_,i_] rfl rfl (take_ofW HT_.out HW_.out (by kernel_rfl)) (fun _ _ _ h => h) (Or.inl ⟨by rfl, ?_⟩) hHeld ?_ ?_
        rotate_left
        · rintro w' ⟨s0, s1, s2, s3, s4, s5, s6, s7, s8⟩
          go_simp
          with_reducible rfl
        rotate_left
        · exact qp_
        refine take_ (i := 24) (N := some 41) (v := ?_) (a' := ?_) #[o_,o_,i_,o_,o_,i_,o_,o_,o_,o_,o_,o_,i_,o_,o_,o_,o_,o_,o_,i_,o_,o_,o_,o_,o_,i_,i_,i_] rfl rfl (take_ofW HT_.out HW_.out (by kernel_rfl)) (fun _ _ _ h => h) (Or.inl ⟨by rfl, ?_⟩) hHeld ?_ ?_
        rotate_left
        · rintro w' ⟨s0, s1, s2, s3, s4, s5, s6, s7, s8⟩
          go_simp
          with_reducible rfl
        rotate_left
        · exact qp_
        refine qpu_ 25 (some 42) #[o_,o_,i_,o_,o_,i_,o_,o_,o_,o_,o_,o_,i_,o_,o_,o_,o_,o_,o_,i_,o_,o_,o_,o_,o_,o_,i_,i_] ?_
        refine one_ (i := 2) (N := some 19) #[o_,o_,o_,o_,o_,i_,o_,o_,o_,o_,o_,o_,i_,o_,o_,o_,o_,o_,o_,i_,o_,o_,o_,o_,o_,o_,i_,i_] rfl rfl (one_of HT_.out (by kernel_rfl)) (by decide) (fun K hK => ?_)
        refine goes_ Tryd.func41 (by kernel_rfl) rfl #[.agg #[.int .i64 a0_0, .int .i64 a0_1, .int .i64 a0_2, .int .i64 a0_3, .int .i64 a0_4], .int .i64 a2] (by rfl) rfl rfl ql_ ?_
        with_reducible refine (points_home_months.calls k a0_0 a0_1 a0_2 a0_3 a0_4 a2 t138 _ ?side1 A11.out).mono ?_
        (case side1 => exact TabOK.below HTA.out qb_)
        rintro e w18 ⟨rfl, hb⟩
        refine ⟨_, rfl, ?_⟩
        replace BK135 := qkb_ BK135 hb
        replace BK136 := qkb_ BK136 hb
        replace HB := qbs_ hb
        (try clear hb)
        (try clear hb2)
        (try clear hk)
        (try clear hi)
        refine hK.out _ _ ⟨(blk_cell BK135.out 0).trans rfl, (blk_cell BK135.out 1).trans rfl, (blk_cell BK135.out 2).trans rfl, (blk_cell BK135.out 3).trans rfl, (blk_cell BK135.out 4).trans rfl, (blk_cell BK136.out 0).trans rfl, (blk_cell BK136.out 1).trans rfl, (blk_cell BK136.out 2).trans rfl, (blk_cell BK136.out 3).trans rfl⟩ (fun hHeld => ?_)
        clear hK K
        refine norm_ (a' := ?_) ?_ ?_
        rotate_left
        · show Act.put _ (some 19) _ = _
          exact qp_
        refine qpu_ 5 (some 22) #[o_,o_,o_,o_,o_,o_,o_,o_,o_,o_,o_,o_,i_,o_,o_,o_,o_,o_,o_,i_,o_,o_,o_,o_,o_,o_,i_,i_] ?_
        refine qpu_ 12 (some 29) #[o_,o_,o_,o_,o_,o_,o_,o_,o_,o_,o_,o_,o_,o_,o_,o_,o_,o_,o_,i_,o_,o_,o_,o_,o_,o_,i_,i_] ?_
        refine qpu_ 19 (some 36) #[o_,o_,o_,o_,o_,o_,o_,o_,o_,o_,o_,o_,o_,o_,o_,o_,o_,o_,o_,o_,o_,o_,o_,o_,o_,o_,i_,i_] ?_
        refine qpu_ 26 (some 43) #[o_,o_,o_,o_,o_,o_,o_,o_,o_,o_,o_,o_,o_,o_,o_,o_,o_,o_,o_,o_,o_,o_,o_,o_,o_,o_,o_,i_] ?_
        refine qpu_ 27 (some 8) #[o_,o_,o_,o_,o_,o_,o_,o_,o_,o_,o_,o_,o_,o_,o_,o_,o_,o_,o_,o_,o_,o_,o_,o_,o_,o_,o_,o_] ?_
        refine done_ (done_of HT_.out (by kernel_rfl)) ?_
        try go_wp2
        go_ret2
        exact ⟨qx_, qb_⟩
      · rw [if_neg c12] at H
        have c12b0 : decide (1000000000 < (wrap64 ((wrap64 ((wrap64 ((wrap64 (t138 * a1_0)) + (wrap64 (a0_2 * a1_1)))) + (wrap64 (a0_3 * a1_2)))) + (wrap64 (a0_4 * a1_3))))) = false := decide_eq_false c12
        clear c12
        simp only [Option.some.injEq, Prod.mk.injEq] at H
        obtain ⟨rfl, rfl⟩ := H
        go_enter Tryd.func24, Tryd.ntmps24
        try go_wp2_with (first | ((with_reducible refine gate_dst (N := 3) rfl ?_); refine qev_ 3 #[.int .i64 a0_0, .int .i64 a0_1, .int .i64 a0_2, .int .i64 a0_3, .int .i64 a0_4] 54 ?_; intro gb135 hg w19 hbox hb; have BK135 := Aside0.mk (hbox); have GW135 := qga_ hg; have GE135 := qga_ hg; replace HB := qbs_ hb; clear hb hbox hg) | ((with_reducible refine gate_dst (N := 4) rfl ?_); refine qev_ 4 #[.int .i64 a1_0, .int .i64 a1_1, .int .i64 a1_2, .int .i64 a1_3] 23 ?_; intro gb136 hg w20 hbox hb; have BK136 := Aside0.mk (hbox); have GW136 := qga_ hg; have GE136 := qga_ hg; replace HB := qbs_ hb; have NB135_136 := Aside0.mk ((by rw [hg]; exact Nat.ne_of_lt (blk_lt (qk_ BK135)) : gb135 ≠ gb136)); have NB136_135 := Aside0.mk ((by rw [hg]; exact Nat.ne_of_gt (blk_lt (qk_ BK135)) : gb136 ≠ gb135)); replace BK135 := qkb_ BK135 hb; clear hb hbox hg) | ((with_reducible refine gate_callee (f := 40) rfl ?_); refine goesL_ (some 10) rfl rfl Tryd.func40 (by kernel_rfl) rfl #[.int .i64 a2, .int .i64 36524] rfl ql_ ?_; (with_reducible refine (points_within.calls a2 36524 true _ A4.out).mono ?_); rintro e w' ⟨rfl, ⟨nd, rfl⟩⟩; refine ⟨_, rfl, ?_⟩; have hnb21 := NB135_136.out; have hnc21 := NB136_135.out; obtain ⟨hcz22_0, hcz22_1, hcz22_2, hcz22_3, hcz22_4⟩ := qz5_ BK135; obtain ⟨hfz22_0, hfz22_1, hfz22_2, hfz22_3, hfz22_4⟩ := qf5_ BK135))
        (try (rw [drewN_self w20]; generalize hq_ : World.drewN w20 _ = w20; replace BK135 : Aside0 (w20.heap[gb135]? = some (.cells #[.int .i64 a0_0, .int .i64 a0_1, .int .i64 a0_2, .int .i64 a0_3, .int .i64 a0_4] 54 (0, 0))) := ⟨by rw [← hq_]; exact (qk_ BK135)⟩; replace BK136 : Aside0 (w20.heap[gb136]? = some (.cells #[.int .i64 a1_0, .int .i64 a1_1, .int .i64 a1_2, .int .i64 a1_3] 23 (0, 0))) := ⟨by rw [← hq_]; exact (qk_ BK136)⟩; replace HB : Aside0 (Below w.heap.size w w20) := ⟨by rw [← hq_]; exact qb_⟩; clear hq_))
        replace BK135 := Aside0.mk (blk_drew BK135.out)
        replace BK136 := Aside0.mk (blk_drew BK136.out)
        replace HB := Aside0.mk (below_drew1 HB.out)
        refine start_ (n := 28) (S := fun w' => w'.cell? ⟨gb135, 0, none⟩ = some (.int .i64 a0_0) ∧ w'.cell? ⟨gb135, 1, none⟩ = some (.int .i64 a0_1) ∧ w'.cell? ⟨gb135, 2, none⟩ = some (.int .i64 a0_2) ∧ w'.cell? ⟨gb135, 3, none⟩ = some (.int .i64 a0_3) ∧ w'.cell? ⟨gb135, 4, none⟩ = some (.int .i64 a0_4) ∧ w'.cell? ⟨gb136, 0, none⟩ = some (.int .i64 a1_0) ∧ w'.cell? ⟨gb136, 1, none⟩ = some (.int .i64 a1_1) ∧ w'.cell? ⟨gb136, 2, none⟩ = some (.int .i64 a1_2) ∧ w'.cell? ⟨gb136, 3, none⟩ = some (.int .i64 a1_3)) (ds := []) #[i_,i_,i_,i_,i_,i_,i_,i_,i_,i_,i_,i_,i_,i_,i_,i_,i_,i_,i_,i_,i_,i_,i_,i_,i_,i_,i_,i_] (by kernel_rfl) rfl rfl ⟨(blk_cell BK135.out 0).trans rfl, (blk_cell BK135.out 1).trans rfl, (blk_cell BK135.out 2).trans rfl, (blk_cell BK135.out 3).trans rfl, (blk_cell BK135.out 4).trans rfl, (blk_cell BK136.out 0).trans rfl, (blk_cell BK136.out 1).trans rfl, (blk_cell BK136.out 2).trans rfl, (blk_cell BK136.out 3).trans rfl⟩ (fun hHeld => ?_); refine with_tabW points_home_count.tab5 points_home_count.bits5 (fun HT_ HW_ => ?_)
        generalize w20.drew = w23 at BK135 BK136 HB hHeld ⊢
        refine qpu_ 1 (some 18) #[i_,o_,i_,i_,i_,i_,i_,i_,i_,i_,i_,i_,i_,i_,i_,i_,i_,i_,i_,i_,i_,i_,i_,i_,i_,i_,i_,i_] ?_
        refine qpu_ 3 (some 20) #[i_,o_,i_,o_,i_,i_,i_,i_,i_,i_,i_,i_,i_,i_,i_,i_,i_,i_,i_,i_,i_,i_,i_,i_,i_,i_,i_,i_] ?_
        refine qpu_ 6 (some 23) #[i_,o_,i_,o_,i_,i_,o_,i_,i_,i_,i_,i_,i_,i_,i_,i_,i_,i_,i_,i_,i_,i_,i_,i_,i_,i_,i_,i_] ?_
        refine qpu_ 7 (some 24) #[i_,o_,i_,o_,i_,i_,o_,o_,i_,i_,i_,i_,i_,i_,i_,i_,i_,i_,i_,i_,i_,i_,i_,i_,i_,i_,i_,i_] ?_
        refine qpu_ 9 (some 26) #[i_,o_,i_,o_,i_,i_,o_,o_,i_,o_,i_,i_,i_,i_,i_,i_,i_,i_,i_,i_,i_,i_,i_,i_,i_,i_,i_,i_] ?_
        refine qpu_ 13 (some 30) #[i_,o_,i_,o_,i_,i_,o_,o_,i_,o_,i_,i_,i_,o_,i_,i_,i_,i_,i_,i_,i_,i_,i_,i_,i_,i_,i_,i_] ?_
        refine qpu_ 14 (some 31) #[i_,o_,i_,o_,i_,i_,o_,o_,i_,o_,i_,i_,i_,o_,o_,i_,i_,i_,i_,i_,i_,i_,i_,i_,i_,i_,i_,i_] ?_
        refine qpu_ 16 (some 33) #[i_,o_,i_,o_,i_,i_,o_,o_,i_,o_,i_,i_,i_,o_,o_,i_,o_,i_,i_,i_,i_,i_,i_,i_,i_,i_,i_,i_] ?_
        refine qpu_ 20 (some 37) #[i_,o_,i_,o_,i_,i_,o_,o_,i_,o_,i_,i_,i_,o_,o_,i_,o_,i_,i_,i_,o_,i_,i_,i_,i_,i_,i_,i_] ?_
        refine qpu_ 21 (some 38) #[i_,o_,i_,o_,i_,i_,o_,o_,i_,o_,i_,i_,i_,o_,o_,i_,o_,i_,i_,i_,o_,o_,i_,i_,i_,i_,i_,i_] ?_
        refine qpu_ 23 (some 40) #[i_,o_,i_,o_,i_,i_,o_,o_,i_,o_,i_,i_,i_,o_,o_,i_,o_,i_,i_,i_,o_,o_,i_,o_,i_,i_,i_,i_] ?_
        refine take_ (i := 0) (N := some 17) (v := ?_) (a' := ?_) #[o_,o_,i_,o_,i_,i_,o_,o_,i_,o_,i_,i_,i_,o_,o_,i_,o_,i_,i_,i_,o_,o_,i_,o_,i_,i_,i_,i_] rfl rfl (take_ofW HT_.out HW_.out (by kernel_rfl)) (fun _ _ _ h => h) (Or.inl ⟨by rfl, ?_⟩) hHeld ?_ ?_
        rotate_left
        · rintro w' ⟨s0, s1, s2, s3, s4, s5, s6, s7, s8⟩
          go_simp
          with_reducible rfl
        rotate_left
        · exact qp_
        refine take_ (i := 4) (N := some 21) (v := ?_) (a' := ?_) #[o_,o_,i_,o_,o_,i_,o_,o_,i_,o_,i_,i_,i_,o_,o_,i_,o_,i_,i_,i_,o_,o_,i_,o_,i_,i_,i_,i_] rfl rfl (take_ofW HT_.out HW_.out (by kernel_rfl)) (fun _ _ _ h => h) (Or.inl ⟨by rfl, ?_⟩) hHeld ?_ ?_
        rotate_left
        · rintro w' ⟨s0, s1, s2, s3, s4, s5, s6, s7, s8⟩
          go_simp
          with_reducible rfl
        rotate_left
        · exact qp_
        refine take_ (i := 8) (N := some 25) (v := ?_) (a' := ?_) #[o_,o_,i_,o_,o_,i_,o_,o_,o_,o_,i_,i_,i_,o_,o_,i_,o_,i_,i_,i_,o_,o_,i_,o_,i_,i_,i_,i_] rfl rfl (take_ofW HT_.out HW_.out (by kernel_rfl)) (fun _ _ _ h => h) (Or.inl ⟨by rfl, ?_⟩) hHeld ?_ ?_
        rotate_left
        · rintro w' ⟨s0, s1, s2, s3, s4, s5, s6, s7, s8⟩
          go_simp
          with_reducible rfl
        rotate_left
        · exact qp_
        refine take_ (i := 10) (N := some 27) (v := ?_) (a' := ?_) #[o_,o_,i_,o_,o_,i_,o_,o_,o_,o_,o_,i_,i_,o_,o_,i_,o_,i_,i_,i_,o_,o_,i_,o_,i_,i_,i_,i_] rfl rfl (take_ofW HT_.out HW_.out (by kernel_rfl)) (fun _ _ _ h => h) (Or.inl ⟨by rfl, ?_⟩) hHeld ?_ ?_
        rotate_left
        · rintro w' ⟨s0, s1, s2, s3, s4, s5, s6, s7, s8⟩
          go_simp
          with_reducible rfl
        rotate_left
        · exact qp_
        refine qpu_ 11 (some 28) #[o_,o_,i_,o_,o_,i_,o_,o_,o_,o_,o_,o_,i_,o_,o_,i_,o_,i_,i_,i_,o_,o_,i_,o_,i_,i_,i_,i_] ?_
        refine take_ (i := 15) (N := some 32) (v := ?_) (a' := ?_) #[o_,o_,i_,o_,o_,i_,o_,o_,o_,o_,o_,o_,i_,o_,o_,o_,o_,i_,i_,i_,o_,o_,i_,o_,i_,i_,i_,i_] rfl rfl (take_ofW HT_.out HW_.out (by kernel_rfl)) (fun _ _ _ h => h) (Or.inl ⟨by rfl, ?_⟩) hHeld ?_ ?_
        rotate_left
        · rintro w' ⟨s0, s1, s2, s3, s4, s5, s6, s7, s8⟩
          go_simp
          with_reducible rfl
        rotate_left
        · exact qp_
        refine take_ (i := 17) (N := some 34) (v := ?_) (a' := ?_) #[o_,o_,i_,o_,o_,i_,o_,o_,o_,o_,o_,o_,i_,o_,o_,o_,o_,o_,i_,i_,o_,o_,i_,o_,i_,i_,i_,i_] rfl rfl (take_ofW HT_.out HW_.out (by kernel_rfl)) (fun _ _ _ h => h) (Or.inl ⟨by rfl, ?_⟩) hHeld ?_ ?_
        rotate_left
        · rintro w' ⟨s0, s1, s2, s3, s4, s5, s6, s7, s8⟩
          go_simp
          with_reducible rfl
        rotate_left
        · exact qp_
        refine qpu_ 18 (some 35) #[o_,o_,i_,o_,o_,i_,o_,o_,o_,o_,o_,o_,i_,o_,o_,o_,o_,o_,o_,i_,o_,o_,i_,o_,i_,i_,i_,i_] ?_
        refine take_ (i := 22) (N := some 39) (v := ?_) (a' := ?_) #[o_,o_,i_,o_,o_,i_,o_,o_,o_,o_,o_,o_,i_,o_,o_,o_,o_,o_,o_,i_,o_,o_,o_,o_,i_,i_,i_,i_] rfl rfl (take_ofW HT_.out HW_.out (by kernel_rfl)) (fun _ _ _ h => h) (Or.inl ⟨by rfl, ?_⟩) hHeld ?_ ?_
        rotate_left
        · rintro w' ⟨s0, s1, s2, s3, s4, s5, s6, s7, s8⟩
          go_simp
          with_reducible rfl
        rotate_left
        · exact qp_
        refine take_ (i := 24) (N := some 41) (v := ?_) (a' := ?_) #[o_,o_,i_,o_,o_,i_,o_,o_,o_,o_,o_,o_,i_,o_,o_,o_,o_,o_,o_,i_,o_,o_,o_,o_,o_,i_,i_,i_] rfl rfl (take_ofW HT_.out HW_.out (by kernel_rfl)) (fun _ _ _ h => h) (Or.inl ⟨by rfl, ?_⟩) hHeld ?_ ?_
        rotate_left
        · rintro w' ⟨s0, s1, s2, s3, s4, s5, s6, s7, s8⟩
          go_simp
          with_reducible rfl
        rotate_left
        · exact qp_
        refine qpu_ 25 (some 42) #[o_,o_,i_,o_,o_,i_,o_,o_,o_,o_,o_,o_,i_,o_,o_,o_,o_,o_,o_,i_,o_,o_,o_,o_,o_,o_,i_,i_] ?_
        refine one_ (i := 2) (N := some 19) #[o_,o_,o_,o_,o_,i_,o_,o_,o_,o_,o_,o_,i_,o_,o_,o_,o_,o_,o_,i_,o_,o_,o_,o_,o_,o_,i_,i_] rfl rfl (one_of HT_.out (by kernel_rfl)) (by decide) (fun K hK => ?_)
        refine goes_ Tryd.func41 (by kernel_rfl) rfl #[.agg #[.int .i64 a0_0, .int .i64 a0_1, .int .i64 a0_2, .int .i64 a0_3, .int .i64 a0_4], .int .i64 a2] (by rfl) rfl rfl ql_ ?_
        with_reducible refine (points_home_months.calls k a0_0 a0_1 a0_2 a0_3 a0_4 a2 t138 _ ?side1 A11.out).mono ?_
        (case side1 => exact TabOK.below HTA.out qb_)
        rintro e w24 ⟨rfl, hb⟩
        refine ⟨_, rfl, ?_⟩
        replace BK135 := qkb_ BK135 hb
        replace BK136 := qkb_ BK136 hb
        replace HB := qbs_ hb
        (try clear hb)
        (try clear hb2)
        (try clear hk)
        (try clear hi)
        refine hK.out _ _ ⟨(blk_cell BK135.out 0).trans rfl, (blk_cell BK135.out 1).trans rfl, (blk_cell BK135.out 2).trans rfl, (blk_cell BK135.out 3).trans rfl, (blk_cell BK135.out 4).trans rfl, (blk_cell BK136.out 0).trans rfl, (blk_cell BK136.out 1).trans rfl, (blk_cell BK136.out 2).trans rfl, (blk_cell BK136.out 3).trans rfl⟩ (fun hHeld => ?_)
        clear hK K
        refine norm_ (a' := ?_) ?_ ?_
        rotate_left
        · show Act.put _ (some 19) _ = _
          exact qp_
        refine qpu_ 5 (some 22) #[o_,o_,o_,o_,o_,o_,o_,o_,o_,o_,o_,o_,i_,o_,o_,o_,o_,o_,o_,i_,o_,o_,o_,o_,o_,o_,i_,i_] ?_
        refine qpu_ 12 (some 29) #[o_,o_,o_,o_,o_,o_,o_,o_,o_,o_,o_,o_,o_,o_,o_,o_,o_,o_,o_,i_,o_,o_,o_,o_,o_,o_,i_,i_] ?_
        refine qpu_ 19 (some 36) #[o_,o_,o_,o_,o_,o_,o_,o_,o_,o_,o_,o_,o_,o_,o_,o_,o_,o_,o_,o_,o_,o_,o_,o_,o_,o_,i_,i_] ?_
        refine qpu_ 26 (some 43) #[o_,o_,o_,o_,o_,o_,o_,o_,o_,o_,o_,o_,o_,o_,o_,o_,o_,o_,o_,o_,o_,o_,o_,o_,o_,o_,o_,i_] ?_
        refine qpu_ 27 (some 8) #[o_,o_,o_,o_,o_,o_,o_,o_,o_,o_,o_,o_,o_,o_,o_,o_,o_,o_,o_,o_,o_,o_,o_,o_,o_,o_,o_,o_] ?_
        refine done_ (done_of HT_.out (by kernel_rfl)) ?_
        try go_wp2
        go_ret2
        exact ⟨qx_, qb_⟩
  · replace c5 := Bool.eq_false_iff.mpr c5
    subst c5
    have H1 : (some (0, 3)) = some (r1, r2) := by rw [if_neg (show ¬ (false = true) by decide)] at H; exact H
    clear H
    have H := H1
    clear H1
    simp only [Option.some.injEq, Prod.mk.injEq] at H
    obtain ⟨rfl, rfl⟩ := H
    go_enter Tryd.func24, Tryd.ntmps24
    go_wp2_with (first | ((with_reducible refine gate_dst (N := 3) rfl ?_); refine qev_ 3 #[.int .i64 a0_0, .int .i64 a0_1, .int .i64 a0_2, .int .i64 a0_3, .int .i64 a0_4] 54 ?_; intro gb135 hg w25 hbox hb; have BK135 := Aside0.mk (hbox); have GW135 := qga_ hg; have GE135 := qga_ hg; replace HB := qbs_ hb; clear hb hbox hg) | ((with_reducible refine gate_dst (N := 4) rfl ?_); refine qev_ 4 #[.int .i64 a1_0, .int .i64 a1_1, .int .i64 a1_2, .int .i64 a1_3] 23 ?_; intro gb136 hg w26 hbox hb; have BK136 := Aside0.mk (hbox); have GW136 := qga_ hg; have GE136 := qga_ hg; replace HB := qbs_ hb; have NB135_136 := Aside0.mk ((by rw [hg]; exact Nat.ne_of_lt (blk_lt (qk_ BK135)) : gb135 ≠ gb136)); have NB136_135 := Aside0.mk ((by rw [hg]; exact Nat.ne_of_gt (blk_lt (qk_ BK135)) : gb136 ≠ gb135)); replace BK135 := qkb_ BK135 hb; clear hb hbox hg) | ((with_reducible refine gate_callee (f := 40) rfl ?_); refine goesL_ (some 10) rfl rfl Tryd.func40 (by kernel_rfl) rfl #[.int .i64 a2, .int .i64 36524] rfl ql_ ?_; (with_reducible refine (points_within.calls a2 36524 false _ A4.out).mono ?_); rintro e w' ⟨rfl, ⟨nd, rfl⟩⟩; refine ⟨_, rfl, ?_⟩))
    go_ret2
    exact ⟨qx_, qb_⟩

/-! ### points_Count: function 11 -/
def points_Count.f (k : Nat) (a0_0 a0_1 a0_2 a0_3 a1_0 a1_1 a1_2 a1_3 a1_4 a2 : Int) : Option (Int × Int) := (points_validWeights.f k a0_0 a0_1 a0_2 a0_3).bind fun t142 => (if t142 = true then ((points_home_valid.f a1_0 a1_1 a1_2 a1_3 a1_4).bind fun t143 => (if t143 = true then ((points_home_count.f k a1_0 a1_1 a1_2 a1_3 a1_4 a0_0 a0_1 a0_2 a0_3 a2).bind fun bt144 => (some (bt144.1, bt144.2))) else (some (0, 1)))) else (some (0, 1)))
theorem points_Count.mono : ∀ a0 a1 a2 a3 a4 a5 a6 a7 a8 a9 k, LeO (points_Count.f k a0 a1 a2 a3 a4 a5 a6 a7 a8 a9) (points_Count.f (k + 1) a0 a1 a2 a3 a4 a5 a6 a7 a8 a9) := by
  intro a0 a1 a2 a3 a4 a5 a6 a7 a8 a9 k
  unfold points_Count.f
  with_reducible (repeat' first | apply points_home_count.mono | apply points_validWeights.mono | apply LeO.refl | apply LeO.none | apply LeO.ite | refine LeO.bind ?_ (fun _ => ?_))
set_option maxHeartbeats 8000000 in
set_option maxRecDepth 100000 in
theorem points_Count.calls (k : Nat) (a0_0 a0_1 a0_2 a0_3 a1_0 a1_1 a1_2 a1_3 a1_4 a2 r1 r2 : Int) (w : World) (HT : TabOK w) (h : points_Count.f k a0_0 a0_1 a0_2 a0_3 a1_0 a1_1 a1_2 a1_3 a1_4 a2 = some (r1, r2)) :
    Calls Tryd.prog 11 #[.agg #[.int .i64 a0_0, .int .i64 a0_1, .int .i64 a0_2, .int .i64 a0_3], .agg #[.int .i64 a1_0, .int .i64 a1_1, .int .i64 a1_2, .int .i64 a1_3, .int .i64 a1_4], .int .i64 a2] w fun e w' => e = .returned (.tuple #[.int .i64 r1, .int .i64 r2]) ∧ Below w.heap.size w w' := by
  have hu23 := Tryd.underlying23
  have hu25 := Tryd.underlying25
  have hu54 := Tryd.underlying54
  have HTA := Aside0.mk HT
  clear HT
  have HB := Aside0.mk (Below.refl w.heap.size w)
  have H : ((points_validWeights.f k a0_0 a0_1 a0_2 a0_3).bind fun t142 => (if t142 = true then ((points_home_valid.f a1_0 a1_1 a1_2 a1_3 a1_4).bind fun t143 => (if t143 = true then ((points_home_count.f k a1_0 a1_1 a1_2 a1_3 a1_4 a0_0 a0_1 a0_2 a0_3 a2).bind fun bt144 => (some (bt144.1, bt144.2))) else (some (0, 1)))) else (some (0, 1)))) = some (r1, r2) := h
  clear h
  replace H := Option.bind_eq_some_iff.mp H
  obtain ⟨t142, A40, H⟩ := H
  replace H : (if t142 = true then ((points_home_valid.f a1_0 a1_1 a1_2 a1_3 a1_4).bind fun t143 => (if t143 = true then ((points_home_count.f k a1_0 a1_1 a1_2 a1_3 a1_4 a0_0 a0_1 a0_2 a0_3 a2).bind fun bt144 => (some (bt144.1, bt144.2))) else (some (0, 1)))) else (some (0, 1))) = some (r1, r2) := H
  have A4 := Aside0.mk A40
  clear A40
  by_cases c5 : t142 = true
  · subst c5
    have H1 : ((points_home_valid.f a1_0 a1_1 a1_2 a1_3 a1_4).bind fun t143 => (if t143 = true then ((points_home_count.f k a1_0 a1_1 a1_2 a1_3 a1_4 a0_0 a0_1 a0_2 a0_3 a2).bind fun bt144 => (some (bt144.1, bt144.2))) else (some (0, 1)))) = some (r1, r2) := by rw [if_pos rfl] at H; exact H
    clear H
    have H := H1
    clear H1
    replace H := Option.bind_eq_some_iff.mp H
    obtain ⟨t143, A60, H⟩ := H
    replace H : (if t143 = true then ((points_home_count.f k a1_0 a1_1 a1_2 a1_3 a1_4 a0_0 a0_1 a0_2 a0_3 a2).bind fun bt144 => (some (bt144.1, bt144.2))) else (some (0, 1))) = some (r1, r2) := H
    have A6 := Aside0.mk A60
    clear A60
    by_cases c7 : t143 = true
    · subst c7
      have H1 : ((points_home_count.f k a1_0 a1_1 a1_2 a1_3 a1_4 a0_0 a0_1 a0_2 a0_3 a2).bind fun bt144 => (some (bt144.1, bt144.2))) = some (r1, r2) := by rw [if_pos rfl] at H; exact H
      clear H
      have H := H1
      clear H1
      replace H := Option.bind_eq_some_iff.mp H
      obtain ⟨⟨t144, t145⟩, A80, H⟩ := H
      replace H : (some (t144, t145)) = some (r1, r2) := H
      have A8 := Aside0.mk A80
      clear A80
      simp only [Option.some.injEq, Prod.mk.injEq] at H
      obtain ⟨rfl, rfl⟩ := H
      go_enter Tryd.func11, Tryd.ntmps11
      go_wp2_with (first | ((with_reducible refine gate_dst (N := 3) rfl ?_); refine qev_ 3 #[.int .i64 a0_0, .int .i64 a0_1, .int .i64 a0_2, .int .i64 a0_3] 23 ?_; intro gb139 hg w9 hbox hb; have BK139 := Aside0.mk (hbox); have GW139 := qga_ hg; have GE139 := qga_ hg; replace HB := qbs_ hb; clear hb hbox hg) | ((with_reducible refine gate_dst (N := 4) rfl ?_); refine qev_ 4 #[.int .i64 a1_0, .int .i64 a1_1, .int .i64 a1_2, .int .i64 a1_3, .int .i64 a1_4] 25 ?_; intro gb140 hg w10 hbox hb; have BK140 := Aside0.mk (hbox); have GW140 := qga_ hg; have GE140 := qga_ hg; replace HB := qbs_ hb; have NB139_140 := Aside0.mk ((by rw [hg]; exact Nat.ne_of_lt (blk_lt (qk_ BK139)) : gb139 ≠ gb140)); have NB140_139 := Aside0.mk ((by rw [hg]; exact Nat.ne_of_gt (blk_lt (qk_ BK139)) : gb140 ≠ gb139)); replace BK139 := qkb_ BK139 hb; clear hb hbox hg; have hnb11 := NB140_139.out; have hnc11 := NB139_140.out; obtain ⟨hcz12_0, hcz12_1, hcz12_2, hcz12_3, hcz12_4⟩ := qz5_ BK140; obtain ⟨hfz12_0, hfz12_1, hfz12_2, hfz12_3, hfz12_4⟩ := qf5_ BK140) | ((with_reducible refine gate_dst (N := 8) rfl ?_); refine qev_ 8 #[.int .i64 0, .int .i64 0, .int .i64 0, .int .i64 0, .int .i64 0] 54 ?_; intro gb141 hg w13 hbox hb; have BK141 := Aside0.mk (hbox); have GW141 := qga_ hg; have GE141 := qga_ hg; replace HB := qbs_ hb; have NB139_141 := Aside0.mk ((by rw [hg]; exact Nat.ne_of_lt (blk_lt (qk_ BK139)) : gb139 ≠ gb141)); have NB141_139 := Aside0.mk ((by rw [hg]; exact Nat.ne_of_gt (blk_lt (qk_ BK139)) : gb141 ≠ gb139)); replace BK139 := qkb_ BK139 hb; have NB140_141 := Aside0.mk ((by rw [hg]; exact Nat.ne_of_lt (blk_lt (qk_ BK140)) : gb140 ≠ gb141)); have NB141_140 := Aside0.mk ((by rw [hg]; exact Nat.ne_of_gt (blk_lt (qk_ BK140)) : gb141 ≠ gb140)); replace BK140 := qkb_ BK140 hb; clear hb hbox hg; have hnb14 := NB141_139.out; have hnc14 := NB139_141.out; have hnb15 := NB141_140.out; have hnc15 := NB140_141.out; obtain ⟨hcz16_0, hcz16_1, hcz16_2, hcz16_3, hcz16_4⟩ := qz5_ BK141; obtain ⟨hfz16_0, hfz16_1, hfz16_2, hfz16_3, hfz16_4⟩ := qf5_ BK141; obtain ⟨hcz17_0, hcz17_1, hcz17_2, hcz17_3⟩ := qz4_ BK139; obtain ⟨hfz17_0, hfz17_1, hfz17_2, hfz17_3⟩ := qf4_ BK139) | ((with_reducible refine gate_callee (f := 22) rfl ?_); refine goesL_ (some 12) rfl rfl Tryd.func22 (by kernel_rfl) rfl #[.agg #[.int .i64 a0_0, .int .i64 a0_1, .int .i64 a0_2, .int .i64 a0_3]] rfl ql_ ?_; (with_reducible refine (points_validWeights.calls k a0_0 a0_1 a0_2 a0_3 true _ A4.out).mono ?_); rintro e w18 ⟨rfl, hb⟩; refine ⟨_, rfl, ?_⟩; replace BK139 := Aside0.mk (blk_below (g := gb139) (o := .cells #[.int .i64 a0_0, .int .i64 a0_1, .int .i64 a0_2, .int .i64 a0_3] 23 (0, 0)) (by refine qd_ ?_; refine blk_far ?_ NB139_141.out _; refine qd_ ?_; refine blk_far ?_ NB139_141.out _; refine qd_ ?_; refine blk_far ?_ NB139_141.out _; refine qd_ ?_; refine blk_far ?_ NB139_141.out _; refine qd_ ?_; refine blk_far ?_ NB139_141.out _; refine qd_ ?_; exact BK139.out) hb); replace BK140 := Aside0.mk (blk_below (g := gb140) (o := .cells #[.int .i64 a1_0, .int .i64 a1_1, .int .i64 a1_2, .int .i64 a1_3, .int .i64 a1_4] 25 (0, 0)) (by refine qd_ ?_; refine blk_far ?_ NB140_141.out _; refine qd_ ?_; refine blk_far ?_ NB140_141.out _; refine qd_ ?_; refine blk_far ?_ NB140_141.out _; refine qd_ ?_; refine blk_far ?_ NB140_141.out _; refine qd_ ?_; refine blk_far ?_ NB140_141.out _; refine qd_ ?_; exact BK140.out) hb); replace BK141 := Aside0.mk (blk_below (g := gb141) (o := .cells #[.int .i64 a1_0, .int .i64 a1_1, .int .i64 a1_2, .int .i64 a1_3, .int .i64 a1_4] 54 (0, 0)) (by refine qd_ ?_; refine blk_put (cs := #[.int .i64 a1_0, .int .i64 a1_1, .int .i64 a1_2, .int .i64 a1_3, .int .i64 0]) ?_ 4 _ rfl; refine qd_ ?_; refine blk_put (cs := #[.int .i64 a1_0, .int .i64 a1_1, .int .i64 a1_2, .int .i64 0, .int .i64 0]) ?_ 3 _ rfl; refine qd_ ?_; refine blk_put (cs := #[.int .i64 a1_0, .int .i64 a1_1, .int .i64 0, .int .i64 0, .int .i64 0]) ?_ 2 _ rfl; refine qd_ ?_; refine blk_put (cs := #[.int .i64 a1_0, .int .i64 0, .int .i64 0, .int .i64 0, .int .i64 0]) ?_ 1 _ rfl; refine qd_ ?_; refine blk_put (cs := #[.int .i64 0, .int .i64 0, .int .i64 0, .int .i64 0, .int .i64 0]) ?_ 0 _ rfl; refine qd_ ?_; exact BK141.out) hb); replace HB := qbs_ hb; (try clear hb); (try clear hb2); (try clear hk); (try clear hi); obtain ⟨hcz19_0, hcz19_1, hcz19_2, hcz19_3, hcz19_4⟩ := qz5_ BK141; obtain ⟨hfz19_0, hfz19_1, hfz19_2, hfz19_3, hfz19_4⟩ := qf5_ BK141) | (go_at_call 23; (with_reducible refine (points_home_valid.calls a1_0 a1_1 a1_2 a1_3 a1_4 true _ A6.out).mono ?_); rintro e w20 ⟨rfl, hb⟩; replace BK139 := qkb_ BK139 hb; replace BK140 := qkb_ BK140 hb; replace BK141 := qkb_ BK141 hb; replace HB := qbs_ hb; (try clear hb); (try clear hb2); (try clear hk); (try clear hi); obtain ⟨hcz21_0, hcz21_1, hcz21_2, hcz21_3, hcz21_4⟩ := qz5_ BK141; obtain ⟨hfz21_0, hfz21_1, hfz21_2, hfz21_3, hfz21_4⟩ := qf5_ BK141; obtain ⟨hcz22_0, hcz22_1, hcz22_2, hcz22_3⟩ := qz4_ BK139; obtain ⟨hfz22_0, hfz22_1, hfz22_2, hfz22_3⟩ := qf4_ BK139) | ((with_reducible refine gate_callee (f := 24) rfl ?_); refine goesL_ (some 22) rfl rfl Tryd.func24 (by kernel_rfl) rfl #[.agg #[.int .i64 a1_0, .int .i64 a1_1, .int .i64 a1_2, .int .i64 a1_3, .int .i64 a1_4], .agg #[.int .i64 a0_0, .int .i64 a0_1, .int .i64 a0_2, .int .i64 a0_3], .int .i64 a2] rfl ql_ ?_; (with_reducible refine (points_home_count.calls k a1_0 a1_1 a1_2 a1_3 a1_4 a0_0 a0_1 a0_2 a0_3 a2 t144 t145 _ ?side1 A8.out).mono ?_); (case side1 => exact TabOK.below HTA.out qb_); rintro e w23 ⟨rfl, hb⟩; refine ⟨_, rfl, ?_⟩; replace BK139 := qkb_ BK139 hb; replace BK140 := qkb_ BK140 hb; replace BK141 := qkb_ BK141 hb; replace HB := qbs_ hb; (try clear hb); (try clear hb2); (try clear hk); (try clear hi)))
      go_ret2
      exact ⟨qx_, qb_⟩
    · replace c7 := Bool.eq_false_iff.mpr c7
      subst c7
      have H1 : (some (0, 1)) = some (r1, r2) := by rw [if_neg (show ¬ (false = true) by decide)] at H; exact H
      clear H
      have H := H1
      clear H1
      simp only [Option.some.injEq, Prod.mk.injEq] at H
      obtain ⟨rfl, rfl⟩ := H
      go_enter Tryd.func11, Tryd.ntmps11
      go_wp2_with (first | ((with_reducible refine gate_dst (N := 3) rfl ?_); refine qev_ 3 #[.int .i64 a0_0, .int .i64 a0_1, .int .i64 a0_2, .int .i64 a0_3] 23 ?_; intro gb139 hg w24 hbox hb; have BK139 := Aside0.mk (hbox); have GW139 := qga_ hg; have GE139 := qga_ hg; replace HB := qbs_ hb; clear hb hbox hg) | ((with_reducible refine gate_dst (N := 4) rfl ?_); refine qev_ 4 #[.int .i64 a1_0, .int .i64 a1_1, .int .i64 a1_2, .int .i64 a1_3, .int .i64 a1_4] 25 ?_; intro gb140 hg w25 hbox hb; have BK140 := Aside0.mk (hbox); have GW140 := qga_ hg; have GE140 := qga_ hg; replace HB := qbs_ hb; have NB139_140 := Aside0.mk ((by rw [hg]; exact Nat.ne_of_lt (blk_lt (qk_ BK139)) : gb139 ≠ gb140)); have NB140_139 := Aside0.mk ((by rw [hg]; exact Nat.ne_of_gt (blk_lt (qk_ BK139)) : gb140 ≠ gb139)); replace BK139 := qkb_ BK139 hb; clear hb hbox hg; have hnb26 := NB140_139.out; have hnc26 := NB139_140.out; obtain ⟨hcz27_0, hcz27_1, hcz27_2, hcz27_3, hcz27_4⟩ := qz5_ BK140; obtain ⟨hfz27_0, hfz27_1, hfz27_2, hfz27_3, hfz27_4⟩ := qf5_ BK140) | ((with_reducible refine gate_dst (N := 8) rfl ?_); refine qev_ 8 #[.int .i64 0, .int .i64 0, .int .i64 0, .int .i64 0, .int .i64 0] 54 ?_; intro gb141 hg w28 hbox hb; have BK141 := Aside0.mk (hbox); have GW141 := qga_ hg; have GE141 := qga_ hg; replace HB := qbs_ hb; have NB139_141 := Aside0.mk ((by rw [hg]; exact Nat.ne_of_lt (blk_lt (qk_ BK139)) : gb139 ≠ gb141)); have NB141_139 := Aside0.mk ((by rw [hg]; exact Nat.ne_of_gt (blk_lt (qk_ BK139)) : gb141 ≠ gb139)); replace BK139 := qkb_ BK139 hb; have NB140_141 := Aside0.mk ((by rw [hg]; exact Nat.ne_of_lt (blk_lt (qk_ BK140)) : gb140 ≠ gb141)); have NB141_140 := Aside0.mk ((by rw [hg]; exact Nat.ne_of_gt (blk_lt (qk_ BK140)) : gb141 ≠ gb140)); replace BK140 := qkb_ BK140 hb; clear hb hbox hg; have hnb29 := NB141_139.out; have hnc29 := NB139_141.out; have hnb30 := NB141_140.out; have hnc30 := NB140_141.out; obtain ⟨hcz31_0, hcz31_1, hcz31_2, hcz31_3, hcz31_4⟩ := qz5_ BK141; obtain ⟨hfz31_0, hfz31_1, hfz31_2, hfz31_3, hfz31_4⟩ := qf5_ BK141; obtain ⟨hcz32_0, hcz32_1, hcz32_2, hcz32_3⟩ := qz4_ BK139; obtain ⟨hfz32_0, hfz32_1, hfz32_2, hfz32_3⟩ := qf4_ BK139) | ((with_reducible refine gate_callee (f := 22) rfl ?_); refine goesL_ (some 12) rfl rfl Tryd.func22 (by kernel_rfl) rfl #[.agg #[.int .i64 a0_0, .int .i64 a0_1, .int .i64 a0_2, .int .i64 a0_3]] rfl ql_ ?_; (with_reducible refine (points_validWeights.calls k a0_0 a0_1 a0_2 a0_3 true _ A4.out).mono ?_); rintro e w33 ⟨rfl, hb⟩; refine ⟨_, rfl, ?_⟩; replace BK139 := Aside0.mk (blk_below (g := gb139) (o := .cells #[.int .i64 a0_0, .int .i64 a0_1, .int .i64 a0_2, .int .i64 a0_3] 23 (0, 0)) (by refine qd_ ?_; refine blk_far ?_ NB139_141.out _; refine qd_ ?_; refine blk_far ?_ NB139_141.out _; refine qd_ ?_; refine blk_far ?_ NB139_141.out _; refine qd_ ?_; refine blk_far ?_ NB139_141.out _; refine qd_ ?_; refine blk_far ?_ NB139_141.out _; refine qd_ ?_; exact BK139.out) hb); replace BK140 := Aside0.mk (blk_below (g := gb140) (o := .cells #[.int .i64 a1_0, .int .i64 a1_1, .int .i64 a1_2, .int .i64 a1_3, .int .i64 a1_4] 25 (0, 0)) (by refine qd_ ?_; refine blk_far ?_ NB140_141.out _; refine qd_ ?_; refine blk_far ?_ NB140_141.out _; refine qd_ ?_; refine blk_far ?_ NB140_141.out _; refine qd_ ?_; refine blk_far ?_ NB140_141.out _; refine qd_ ?_; refine blk_far ?_ NB140_141.out _; refine qd_ ?_; exact BK140.out) hb); replace BK141 := Aside0.mk (blk_below (g := gb141) (o := .cells #[.int .i64 a1_0, .int .i64 a1_1, .int .i64 a1_2, .int .i64 a1_3, .int .i64 a1_4] 54 (0, 0)) (by refine qd_ ?_; refine blk_put (cs := #[.int .i64 a1_0, .int .i64 a1_1, .int .i64 a1_2, .int .i64 a1_3, .int .i64 0]) ?_ 4 _ rfl; refine qd_ ?_; refine blk_put (cs := #[.int .i64 a1_0, .int .i64 a1_1, .int .i64 a1_2, .int .i64 0, .int .i64 0]) ?_ 3 _ rfl; refine qd_ ?_; refine blk_put (cs := #[.int .i64 a1_0, .int .i64 a1_1, .int .i64 0, .int .i64 0, .int .i64 0]) ?_ 2 _ rfl; refine qd_ ?_; refine blk_put (cs := #[.int .i64 a1_0, .int .i64 0, .int .i64 0, .int .i64 0, .int .i64 0]) ?_ 1 _ rfl; refine qd_ ?_; refine blk_put (cs := #[.int .i64 0, .int .i64 0, .int .i64 0, .int .i64 0, .int .i64 0]) ?_ 0 _ rfl; refine qd_ ?_; exact BK141.out) hb); replace HB := qbs_ hb; (try clear hb); (try clear hb2); (try clear hk); (try clear hi); obtain ⟨hcz34_0, hcz34_1, hcz34_2, hcz34_3, hcz34_4⟩ := qz5_ BK141; obtain ⟨hfz34_0, hfz34_1, hfz34_2, hfz34_3, hfz34_4⟩ := qf5_ BK141) | (go_at_call 23; (with_reducible refine (points_home_valid.calls a1_0 a1_1 a1_2 a1_3 a1_4 false _ A6.out).mono ?_); rintro e w35 ⟨rfl, hb⟩; replace BK139 := qkb_ BK139 hb; replace BK140 := qkb_ BK140 hb; replace BK141 := qkb_ BK141 hb; replace HB := qbs_ hb; (try clear hb); (try clear hb2); (try clear hk); (try clear hi)))
      go_ret2
      exact ⟨qx_, qb_⟩
  · replace c5 := Bool.eq_false_iff.mpr c5
    subst c5
    have H1 : (some (0, 1)) = some (r1, r2) := by rw [if_neg (show ¬ (false = true) by decide)] at H; exact H
    clear H
    have H := H1
    clear H1
    simp only [Option.some.injEq, Prod.mk.injEq] at H
    obtain ⟨rfl, rfl⟩ := H
    go_enter Tryd.func11, Tryd.ntmps11
    go_wp2_with (first | ((with_reducible refine gate_dst (N := 3) rfl ?_); refine qev_ 3 #[.int .i64 a0_0, .int .i64 a0_1, .int .i64 a0_2, .int .i64 a0_3] 23 ?_; intro gb139 hg w36 hbox hb; have BK139 := Aside0.mk (hbox); have GW139 := qga_ hg; have GE139 := qga_ hg; replace HB := qbs_ hb; clear hb hbox hg) | ((with_reducible refine gate_dst (N := 4) rfl ?_); refine qev_ 4 #[.int .i64 a1_0, .int .i64 a1_1, .int .i64 a1_2, .int .i64 a1_3, .int .i64 a1_4] 25 ?_; intro gb140 hg w37 hbox hb; have BK140 := Aside0.mk (hbox); have GW140 := qga_ hg; have GE140 := qga_ hg; replace HB := qbs_ hb; have NB139_140 := Aside0.mk ((by rw [hg]; exact Nat.ne_of_lt (blk_lt (qk_ BK139)) : gb139 ≠ gb140)); have NB140_139 := Aside0.mk ((by rw [hg]; exact Nat.ne_of_gt (blk_lt (qk_ BK139)) : gb140 ≠ gb139)); replace BK139 := qkb_ BK139 hb; clear hb hbox hg; have hnb38 := NB140_139.out; have hnc38 := NB139_140.out; obtain ⟨hcz39_0, hcz39_1, hcz39_2, hcz39_3, hcz39_4⟩ := qz5_ BK140; obtain ⟨hfz39_0, hfz39_1, hfz39_2, hfz39_3, hfz39_4⟩ := qf5_ BK140) | ((with_reducible refine gate_dst (N := 8) rfl ?_); refine qev_ 8 #[.int .i64 0, .int .i64 0, .int .i64 0, .int .i64 0, .int .i64 0] 54 ?_; intro gb141 hg w40 hbox hb; have BK141 := Aside0.mk (hbox); have GW141 := qga_ hg; have GE141 := qga_ hg; replace HB := qbs_ hb; have NB139_141 := Aside0.mk ((by rw [hg]; exact Nat.ne_of_lt (blk_lt (qk_ BK139)) : gb139 ≠ gb141)); have NB141_139 := Aside0.mk ((by rw [hg]; exact Nat.ne_of_gt (blk_lt (qk_ BK139)) : gb141 ≠ gb139)); replace BK139 := qkb_ BK139 hb; have NB140_141 := Aside0.mk ((by rw [hg]; exact Nat.ne_of_lt (blk_lt (qk_ BK140)) : gb140 ≠ gb141)); have NB141_140 := Aside0.mk ((by rw [hg]; exact Nat.ne_of_gt (blk_lt (qk_ BK140)) : gb141 ≠ gb140)); replace BK140 := qkb_ BK140 hb; clear hb hbox hg; have hnb41 := NB141_139.out; have hnc41 := NB139_141.out; have hnb42 := NB141_140.out; have hnc42 := NB140_141.out; obtain ⟨hcz43_0, hcz43_1, hcz43_2, hcz43_3, hcz43_4⟩ := qz5_ BK141; obtain ⟨hfz43_0, hfz43_1, hfz43_2, hfz43_3, hfz43_4⟩ := qf5_ BK141; obtain ⟨hcz44_0, hcz44_1, hcz44_2, hcz44_3⟩ := qz4_ BK139; obtain ⟨hfz44_0, hfz44_1, hfz44_2, hfz44_3⟩ := qf4_ BK139) | ((with_reducible refine gate_callee (f := 22) rfl ?_); refine goesL_ (some 12) rfl rfl Tryd.func22 (by kernel_rfl) rfl #[.agg #[.int .i64 a0_0, .int .i64 a0_1, .int .i64 a0_2, .int .i64 a0_3]] rfl ql_ ?_; (with_reducible refine (points_validWeights.calls k a0_0 a0_1 a0_2 a0_3 false _ A4.out).mono ?_); rintro e w45 ⟨rfl, hb⟩; refine ⟨_, rfl, ?_⟩; replace BK139 := Aside0.mk (blk_below (g := gb139) (o := .cells #[.int .i64 a0_0, .int .i64 a0_1, .int .i64 a0_2, .int .i64 a0_3] 23 (0, 0)) (by refine qd_ ?_; refine blk_far ?_ NB139_141.out _; refine qd_ ?_; refine blk_far ?_ NB139_141.out _; refine qd_ ?_; refine blk_far ?_ NB139_141.out _; refine qd_ ?_; refine blk_far ?_ NB139_141.out _; refine qd_ ?_; refine blk_far ?_ NB139_141.out _; refine qd_ ?_; exact BK139.out) hb); replace BK140 := Aside0.mk (blk_below (g := gb140) (o := .cells #[.int .i64 a1_0, .int .i64 a1_1, .int .i64 a1_2, .int .i64 a1_3, .int .i64 a1_4] 25 (0, 0)) (by refine qd_ ?_; refine blk_far ?_ NB140_141.out _; refine qd_ ?_; refine blk_far ?_ NB140_141.out _; refine qd_ ?_; refine blk_far ?_ NB140_141.out _; refine qd_ ?_; refine blk_far ?_ NB140_141.out _; refine qd_ ?_; refine blk_far ?_ NB140_141.out _; refine qd_ ?_; exact BK140.out) hb); replace BK141 := Aside0.mk (blk_below (g := gb141) (o := .cells #[.int .i64 a1_0, .int .i64 a1_1, .int .i64 a1_2, .int .i64 a1_3, .int .i64 a1_4] 54 (0, 0)) (by refine qd_ ?_; refine blk_put (cs := #[.int .i64 a1_0, .int .i64 a1_1, .int .i64 a1_2, .int .i64 a1_3, .int .i64 0]) ?_ 4 _ rfl; refine qd_ ?_; refine blk_put (cs := #[.int .i64 a1_0, .int .i64 a1_1, .int .i64 a1_2, .int .i64 0, .int .i64 0]) ?_ 3 _ rfl; refine qd_ ?_; refine blk_put (cs := #[.int .i64 a1_0, .int .i64 a1_1, .int .i64 0, .int .i64 0, .int .i64 0]) ?_ 2 _ rfl; refine qd_ ?_; refine blk_put (cs := #[.int .i64 a1_0, .int .i64 0, .int .i64 0, .int .i64 0, .int .i64 0]) ?_ 1 _ rfl; refine qd_ ?_; refine blk_put (cs := #[.int .i64 0, .int .i64 0, .int .i64 0, .int .i64 0, .int .i64 0]) ?_ 0 _ rfl; refine qd_ ?_; exact BK141.out) hb); replace HB := qbs_ hb; (try clear hb); (try clear hb2); (try clear hk); (try clear hi)))
    go_ret2
    exact ⟨qx_, qb_⟩

end Go.Proofs.YtfhmbfadbfnnaaaDoor.Px
