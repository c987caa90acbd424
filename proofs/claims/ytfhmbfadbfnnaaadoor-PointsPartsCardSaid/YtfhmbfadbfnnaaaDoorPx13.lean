/- Contracts of Go functions, written by a program of this session's own (wip/tools/myprint.py) out of the translation: each Go function does what the Lean function of its name says. Conditions: as each theorem states. -/
import Derived.Test.YtfhmbfadbfnnaaaDoorPx0
import Derived.Test.YtfhmbfadbfnnaaaDoorPx3
import Derived.Test.YtfhmbfadbfnnaaaDoorPx8
import Derived.Test.YtfhmbfadbfnnaaaDoorGHead
namespace Go.Proofs.YtfhmbfadbfnnaaaDoor.Px
open Go.Proofs.YtfhmbfadbfnnaaaDoor.Given
open Go.RowKit Go.Proofs.YtfhmbfadbfnnaaaDoorW.PrintWords Go.Proofs.YtfhmbfadbfnnaaaDoorW.PrintLast Go.Proofs.YtfhmbfadbfnnaaaDoorW.PrintMore
attribute [local go_sem] max2_int min2_int max_two min_two max_three min_three max_four min_four   -- for this text's walks alone
set_option linter.unusedVariables false
set_option linter.unusedSimpArgs false

/-! ### cohousinglaw21_PointsParts: function 4 -/
mutual
def cohousinglaw21_PointsParts.l0 : Nat → Int → Bool → Int → Int → Int → Int → List (S23) → Int → Int → Int → Int → Int → Int → Int → Int → Int → Int → Int → Option (Bool)
  | 0, _, _, _, _, _, _, _, _, _, _, _, _, _, _, _, _, _, _ => none
  | k + 1, x2, x7, x8, x10, x11, x12, x61, x62, x63, x258000, x258001, x258002, x258003, x259000, x259001, x259002, x259003, x259004 => if x63 < x62 then (if 0 ≤ x63 then (if x63 < (x61.length : Int) then ((points_Count.f k ((rd_T23 x61 x63).f0) ((rd_T23 x61 x63).f1) ((rd_T23 x61 x63).f2) ((rd_T23 x61 x63).f3) x259000 x259001 x259002 x259003 x259004 x2).bind fun bt269 => (if x7 = true then (if bt269.2 = 0 then (cohousinglaw21_PointsParts.l0 k x2 (decide (bt269.1 ≥ 0)) x8 x10 x11 (wrap64 (x12 + bt269.1)) x61 x62 (wrap64 (x63 + 1)) x258000 x258001 x258002 x258003 x259000 x259001 x259002 x259003 x259004) else (cohousinglaw21_PointsParts.l0 k x2 false x8 x10 x11 (wrap64 (x12 + bt269.1)) x61 x62 (wrap64 (x63 + 1)) x258000 x258001 x258002 x258003 x259000 x259001 x259002 x259003 x259004)) else (cohousinglaw21_PointsParts.l0 k x2 false x8 x10 x11 (wrap64 (x12 + bt269.1)) x61 x62 (wrap64 (x63 + 1)) x258000 x258001 x258002 x258003 x259000 x259001 x259002 x259003 x259004))) else (none)) else (none)) else ((some (([(⟨x259000, x259001, x259002, x259003, x259004⟩ : S25), (⟨x259000, x259001, x259002, x259003, x259004⟩ : S25), (⟨x259000, x259001, x259002, x259003, x259004⟩ : S25)] : List (S25)) : List (S25))).bind fun y271 => (if 0 < (y271.length : Int) then ((some (y271.set (0 : Int).toNat (⟨(rd_T25 y271 0).f0, (rd_T25 y271 0).f1, wrap64 (((rd_T25 y271 0).f2) + 1), (rd_T25 y271 0).f3, (rd_T25 y271 0).f4⟩ : S25) : List (S25))).bind fun y275 => (if 1 < (y271.length : Int) then ((some (y275.set (1 : Int).toNat (⟨(rd_T25 y275 1).f0, (rd_T25 y275 1).f1, (rd_T25 y275 1).f2, wrap64 (((rd_T25 y275 1).f3) + 1), (rd_T25 y275 1).f4⟩ : S25) : List (S25))).bind fun y277 => (if 2 < (y271.length : Int) then (cohousinglaw21_PointsParts.l1 k x2 x7 x8 x10 x11 x12 (([x258001, x258002, x258003] : List Int)) (y277.set (2 : Int).toNat (⟨(rd_T25 y277 2).f0, (rd_T25 y277 2).f1, (rd_T25 y277 2).f2, (rd_T25 y277 2).f3, wrap64 (((rd_T25 y277 2).f4) + 1)⟩ : S25)) (y271.length : Int) 0 x258000 x258001 x258002 x258003) else (none))) else (none))) else (none)))
def cohousinglaw21_PointsParts.l1 : Nat → Int → Bool → Int → Int → Int → Int → List Int → List (S25) → Int → Int → Int → Int → Int → Int → Option (Bool)
  | 0, _, _, _, _, _, _, _, _, _, _, _, _, _, _ => none
  | k + 1, x2, x7, x8, x10, x11, x12, x18, x119, x120, x121, x258000, x258001, x258002, x258003 => if x121 < x120 then (if 0 ≤ x121 then (if x121 < (x119.length : Int) then ((points_Count.f k x258000 x258001 x258002 x258003 ((rd_T25 x119 x121).f0) ((rd_T25 x119 x121).f1) ((rd_T25 x119 x121).f2) ((rd_T25 x119 x121).f3) ((rd_T25 x119 x121).f4) x2).bind fun bt285 => (if bt285.2 = 0 then (if x121 < (x18.length : Int) then (if bt285.1 = (wrap64 (x8 + (rd x18 x121))) then (cohousinglaw21_PointsParts.j2 k x2 x7 x8 x10 x11 x12 x18 x119 x120 x121 false x258000 x258001 x258002 x258003) else (cohousinglaw21_PointsParts.j2 k x2 x7 x8 x10 x11 x12 x18 x119 x120 x121 true x258000 x258001 x258002 x258003)) else (none)) else ((cohousingref21_Wait.f ((rd_T25 x119 x121).f0) ((rd_T25 x119 x121).f1) ((rd_T25 x119 x121).f2) ((rd_T25 x119 x121).f3) ((rd_T25 x119 x121).f4)).bind fun t288 => (if t288 = true then (if x121 < (x18.length : Int) then (cohousinglaw21_PointsParts.j2 k x2 x7 x8 x10 x11 x12 x18 x119 x120 x121 (decide ((wrap64 (x8 + (rd x18 x121))) ≤ 1000000000)) x258000 x258001 x258002 x258003) else (none)) else (cohousinglaw21_PointsParts.j2 k x2 x7 x8 x10 x11 x12 x18 x119 x120 x121 false x258000 x258001 x258002 x258003))))) else (none)) else (none)) else (if x7 = true then (if x11 = 0 then (if x10 = 0 then (some (x12 == x8)) else (some false)) else (some false)) else (some false))
def cohousinglaw21_PointsParts.j2 : Nat → Int → Bool → Int → Int → Int → Int → List Int → List (S25) → Int → Int → Bool → Int → Int → Int → Int → Option (Bool)
  | 0, _, _, _, _, _, _, _, _, _, _, _, _, _, _, _ => none
  | k + 1, x2, x7, x8, x10, x11, x12, x18, x119, x120, x121, x161, x258000, x258001, x258002, x258003 => if x161 = true then (some false) else (cohousinglaw21_PointsParts.l1 k x2 x7 x8 x10 x11 x12 x18 x119 x120 (wrap64 (x121 + 1)) x258000 x258001 x258002 x258003)
end
def cohousinglaw21_PointsParts.f (k : Nat) (a0_0 a0_1 a0_2 a0_3 a1_0 a1_1 a1_2 a1_3 a1_4 a2 : Int) : Option (Bool) := (cohousinglaw21_head.f k).bind fun t259 => ((points_Count.f k a0_0 a0_1 a0_2 a0_3 a1_0 a1_1 a1_2 a1_3 a1_4 a2).bind fun bt260 => ((points_Count.f k 0 0 0 0 a1_0 a1_1 a1_2 a1_3 a1_4 a2).bind fun bt262 => (if bt260.2 = 0 then ((some (([(⟨a0_0, 0, 0, 0⟩ : S23), (⟨0, a0_1, 0, 0⟩ : S23), (⟨0, 0, a0_2, 0⟩ : S23), (⟨0, 0, 0, a0_3⟩ : S23)] : List (S23)) : List (S23))).bind fun y264 => (cohousinglaw21_PointsParts.l0 k a2 t259 bt260.1 bt262.1 bt262.2 0 y264 (y264.length : Int) 0 a0_0 a0_1 a0_2 a0_3 a1_0 a1_1 a1_2 a1_3 a1_4)) else (if t259 = true then (if bt262.2 = 0 then (some (bt262.1 == 0)) else (some true)) else (some false)))))
theorem cohousinglaw21_PointsParts.mono_l : ∀ k, (∀ y0 y1 y2 y3 y4 y5 y6 y7 y8 y9 y10 y11 y12 y13 y14 y15 y16 y17, LeO (cohousinglaw21_PointsParts.l0 k y0 y1 y2 y3 y4 y5 y6 y7 y8 y9 y10 y11 y12 y13 y14 y15 y16 y17) (cohousinglaw21_PointsParts.l0 (k + 1) y0 y1 y2 y3 y4 y5 y6 y7 y8 y9 y10 y11 y12 y13 y14 y15 y16 y17)) ∧ (∀ y0 y1 y2 y3 y4 y5 y6 y7 y8 y9 y10 y11 y12 y13, LeO (cohousinglaw21_PointsParts.l1 k y0 y1 y2 y3 y4 y5 y6 y7 y8 y9 y10 y11 y12 y13) (cohousinglaw21_PointsParts.l1 (k + 1) y0 y1 y2 y3 y4 y5 y6 y7 y8 y9 y10 y11 y12 y13)) ∧ (∀ y0 y1 y2 y3 y4 y5 y6 y7 y8 y9 y10 y11 y12 y13 y14, LeO (cohousinglaw21_PointsParts.j2 k y0 y1 y2 y3 y4 y5 y6 y7 y8 y9 y10 y11 y12 y13 y14) (cohousinglaw21_PointsParts.j2 (k + 1) y0 y1 y2 y3 y4 y5 y6 y7 y8 y9 y10 y11 y12 y13 y14))
  | 0 => ⟨fun _ _ _ _ _ _ _ _ _ _ _ _ _ _ _ _ _ _ r h => by simp [cohousinglaw21_PointsParts.l0] at h, fun _ _ _ _ _ _ _ _ _ _ _ _ _ _ r h => by simp [cohousinglaw21_PointsParts.l1] at h, fun _ _ _ _ _ _ _ _ _ _ _ _ _ _ _ r h => by simp [cohousinglaw21_PointsParts.j2] at h⟩
  | k + 1 => by
    obtain ⟨ih0, ih1, ih2⟩ := cohousinglaw21_PointsParts.mono_l k
    refine ⟨?_, ?_, ?_⟩
    · intro y0 y1 y2 y3 y4 y5 y6 y7 y8 y9 y10 y11 y12 y13 y14 y15 y16 y17
      unfold cohousinglaw21_PointsParts.l0
      with_reducible (repeat' first | apply ih0 | apply ih1 | apply ih2 | apply cohousinglaw21_head.mono | apply points_Count.mono | apply LeO.refl | apply LeO.none | apply LeO.ite | refine LeO.bind ?_ (fun _ => ?_))
    · intro y0 y1 y2 y3 y4 y5 y6 y7 y8 y9 y10 y11 y12 y13
      unfold cohousinglaw21_PointsParts.l1
      with_reducible (repeat' first | apply ih0 | apply ih1 | apply ih2 | apply cohousinglaw21_head.mono | apply points_Count.mono | apply LeO.refl | apply LeO.none | apply LeO.ite | refine LeO.bind ?_ (fun _ => ?_))
    · intro y0 y1 y2 y3 y4 y5 y6 y7 y8 y9 y10 y11 y12 y13 y14
      unfold cohousinglaw21_PointsParts.j2
      with_reducible (repeat' first | apply ih0 | apply ih1 | apply ih2 | apply cohousinglaw21_head.mono | apply points_Count.mono | apply LeO.refl | apply LeO.none | apply LeO.ite | refine LeO.bind ?_ (fun _ => ?_))
theorem cohousinglaw21_PointsParts.mono : ∀ a0 a1 a2 a3 a4 a5 a6 a7 a8 a9 k, LeO (cohousinglaw21_PointsParts.f k a0 a1 a2 a3 a4 a5 a6 a7 a8 a9) (cohousinglaw21_PointsParts.f (k + 1) a0 a1 a2 a3 a4 a5 a6 a7 a8 a9) := by
  intro a0 a1 a2 a3 a4 a5 a6 a7 a8 a9 k
  obtain ⟨ih0, ih1, ih2⟩ := cohousinglaw21_PointsParts.mono_l k
  unfold cohousinglaw21_PointsParts.f
  with_reducible (repeat' first | apply ih0 | apply ih1 | apply ih2 | apply cohousinglaw21_head.mono | apply points_Count.mono | apply LeO.refl | apply LeO.none | apply LeO.ite | refine LeO.bind ?_ (fun _ => ?_))
set_option maxHeartbeats 8000000 in
set_option maxRecDepth 100000 in
theorem cohousinglaw21_PointsParts.calls (k : Nat) (a0_0 a0_1 a0_2 a0_3 a1_0 a1_1 a1_2 a1_3 a1_4 a2 : Int) (r : Bool) (w : World) (HT : TabOK w) (h : cohousinglaw21_PointsParts.f k a0_0 a0_1 a0_2 a0_3 a1_0 a1_1 a1_2 a1_3 a1_4 a2 = some r) :
    Calls Tryd.prog 4 #[.agg #[.int .i64 a0_0, .int .i64 a0_1, .int .i64 a0_2, .int .i64 a0_3], .agg #[.int .i64 a1_0, .int .i64 a1_1, .int .i64 a1_2, .int .i64 a1_3, .int .i64 a1_4], .int .i64 a2] w fun e w' => e = .returned (.bool r) ∧ Below w.heap.size w w' := by
  have hu23 := Tryd.underlying23
  have hu25 := Tryd.underlying25
  have HTA := Aside0.mk HT
  clear HT
  have HB := Aside0.mk (Below.refl w.heap.size w)
  have H : ((cohousinglaw21_head.f k).bind fun t259 => ((points_Count.f k a0_0 a0_1 a0_2 a0_3 a1_0 a1_1 a1_2 a1_3 a1_4 a2).bind fun bt260 => ((points_Count.f k 0 0 0 0 a1_0 a1_1 a1_2 a1_3 a1_4 a2).bind fun bt262 => (if bt260.2 = 0 then ((some (([(⟨a0_0, 0, 0, 0⟩ : S23), (⟨0, a0_1, 0, 0⟩ : S23), (⟨0, 0, a0_2, 0⟩ : S23), (⟨0, 0, 0, a0_3⟩ : S23)] : List (S23)) : List (S23))).bind fun y264 => (cohousinglaw21_PointsParts.l0 k a2 t259 bt260.1 bt262.1 bt262.2 0 y264 (y264.length : Int) 0 a0_0 a0_1 a0_2 a0_3 a1_0 a1_1 a1_2 a1_3 a1_4)) else (if t259 = true then (if bt262.2 = 0 then (some (bt262.1 == 0)) else (some true)) else (some false)))))) = some r := h
  clear h
  replace H := Option.bind_eq_some_iff.mp H
  obtain ⟨t259, A40, H⟩ := H
  replace H : ((points_Count.f k a0_0 a0_1 a0_2 a0_3 a1_0 a1_1 a1_2 a1_3 a1_4 a2).bind fun bt260 => ((points_Count.f k 0 0 0 0 a1_0 a1_1 a1_2 a1_3 a1_4 a2).bind fun bt262 => (if bt260.2 = 0 then ((some (([(⟨a0_0, 0, 0, 0⟩ : S23), (⟨0, a0_1, 0, 0⟩ : S23), (⟨0, 0, a0_2, 0⟩ : S23), (⟨0, 0, 0, a0_3⟩ : S23)] : List (S23)) : List (S23))).bind fun y264 => (cohousinglaw21_PointsParts.l0 k a2 t259 bt260.1 bt262.1 bt262.2 0 y264 (y264.length : Int) 0 a0_0 a0_1 a0_2 a0_3 a1_0 a1_1 a1_2 a1_3 a1_4)) else (if t259 = true then (if bt262.2 = 0 then (some (bt262.1 == 0)) else (some true)) else (some false))))) = some r := H
  have A4 := Aside0.mk A40
  clear A40
  replace H := Option.bind_eq_some_iff.mp H
  obtain ⟨⟨t260, t261⟩, A50, H⟩ := H
  replace H : ((points_Count.f k 0 0 0 0 a1_0 a1_1 a1_2 a1_3 a1_4 a2).bind fun bt262 => (if t261 = 0 then ((some (([(⟨a0_0, 0, 0, 0⟩ : S23), (⟨0, a0_1, 0, 0⟩ : S23), (⟨0, 0, a0_2, 0⟩ : S23), (⟨0, 0, 0, a0_3⟩ : S23)] : List (S23)) : List (S23))).bind fun y264 => (cohousinglaw21_PointsParts.l0 k a2 t259 t260 bt262.1 bt262.2 0 y264 (y264.length : Int) 0 a0_0 a0_1 a0_2 a0_3 a1_0 a1_1 a1_2 a1_3 a1_4)) else (if t259 = true then (if bt262.2 = 0 then (some (bt262.1 == 0)) else (some true)) else (some false)))) = some r := H
  have A5 := Aside0.mk A50
  clear A50
  replace H := Option.bind_eq_some_iff.mp H
  obtain ⟨⟨t262, t263⟩, A60, H⟩ := H
  replace H : (if t261 = 0 then ((some (([(⟨a0_0, 0, 0, 0⟩ : S23), (⟨0, a0_1, 0, 0⟩ : S23), (⟨0, 0, a0_2, 0⟩ : S23), (⟨0, 0, 0, a0_3⟩ : S23)] : List (S23)) : List (S23))).bind fun y264 => (cohousinglaw21_PointsParts.l0 k a2 t259 t260 t262 t263 0 y264 (y264.length : Int) 0 a0_0 a0_1 a0_2 a0_3 a1_0 a1_1 a1_2 a1_3 a1_4)) else (if t259 = true then (if t263 = 0 then (some (t262 == 0)) else (some true)) else (some false))) = some r := H
  have A6 := Aside0.mk A60
  clear A60
  by_cases c7 : t261 = 0
  · rw [if_pos c7] at H
    have c7b0 : (t261 == 0) = true := beq_iff_eq.mpr c7
    have c7b1 : (t261 != 0) = false := bne_eq_false_iff_eq.mpr c7
    clear c7
    obtain ⟨y264, hy264⟩ : ∃ y_ : List (S23), y_ = (([(⟨a0_0, 0, 0, 0⟩ : S23), (⟨0, a0_1, 0, 0⟩ : S23), (⟨0, 0, a0_2, 0⟩ : S23), (⟨0, 0, 0, a0_3⟩ : S23)] : List (S23))) := ⟨_, rfl⟩
    replace H : (cohousinglaw21_PointsParts.l0 k a2 t259 t260 t262 t263 0 y264 (y264.length : Int) 0 a0_0 a0_1 a0_2 a0_3 a1_0 a1_1 a1_2 a1_3 a1_4) = some r := by first | (rw [hy264]; with_reducible exact H) | (have H2_ := (Option.bind_some _ _).symm.trans H; rw [hy264]; with_reducible exact H2_) | (have H2_ := (Option.bind_some _ _).symm.trans H; with_reducible exact H2_) | with_reducible exact H | (rw [hy264]; exact H) | exact H
    have Ny264 := Aside0.mk hy264
    clear hy264
    have H' := Aside0.mk H
    clear H
    go_enter Tryd.func4, Tryd.ntmps4
    go_wp2_with (first | ((with_reducible refine gate_dst (N := 3) rfl ?_); refine qev_ 3 #[.int .i64 a0_0, .int .i64 a0_1, .int .i64 a0_2, .int .i64 a0_3] 23 ?_; intro gb257 hg w8 hbox hb; have BK257 := Aside0.mk (hbox); have GW257 := qga_ hg; have GE257 := qga_ hg; replace HB := qbs_ hb; clear hb hbox hg) | ((with_reducible refine gate_dst (N := 4) rfl ?_); refine qev_ 4 #[.int .i64 a1_0, .int .i64 a1_1, .int .i64 a1_2, .int .i64 a1_3, .int .i64 a1_4] 25 ?_; intro gb258 hg w9 hbox hb; have BK258 := Aside0.mk (hbox); have GW258 := qga_ hg; have GE258 := qga_ hg; replace HB := qbs_ hb; have NB257_258 := Aside0.mk ((by rw [hg]; exact Nat.ne_of_lt (blk_lt (qk_ BK257)) : gb257 ≠ gb258)); have NB258_257 := Aside0.mk ((by rw [hg]; exact Nat.ne_of_gt (blk_lt (qk_ BK257)) : gb258 ≠ gb257)); replace BK257 := qkb_ BK257 hb; clear hb hbox hg) | ((with_reducible refine gate_callee (f := 10) rfl ?_); refine goesL_ (some 23) rfl rfl Tryd.func10 (by kernel_rfl) rfl #[] rfl ql_ ?_; (with_reducible refine (cohousinglaw21_head.calls k  t259 _ ?side1 A4.out).mono ?_); (case side1 => exact TabOK.below HTA.out qb_); rintro e w10 ⟨rfl, hb⟩; refine ⟨_, rfl, ?_⟩; replace BK257 := qkb_ BK257 hb; replace BK258 := qkb_ BK258 hb; replace HB := qbs_ hb; (try clear hb); (try clear hb2); (try clear hk); (try clear hi); have hnb11 := NB257_258.out; have hnc11 := NB258_257.out; obtain ⟨hcz12_0, hcz12_1, hcz12_2, hcz12_3⟩ := qz4_ BK257; obtain ⟨hfz12_0, hfz12_1, hfz12_2, hfz12_3⟩ := qf4_ BK257; obtain ⟨hcz13_0, hcz13_1, hcz13_2, hcz13_3, hcz13_4⟩ := qz5_ BK258; obtain ⟨hfz13_0, hfz13_1, hfz13_2, hfz13_3, hfz13_4⟩ := qf5_ BK258) | ((with_reducible refine gate_callee (f := 11) rfl ?_); refine goesL_ (some 28) rfl rfl Tryd.func11 (by kernel_rfl) rfl #[.agg #[.int .i64 a0_0, .int .i64 a0_1, .int .i64 a0_2, .int .i64 a0_3], .agg #[.int .i64 a1_0, .int .i64 a1_1, .int .i64 a1_2, .int .i64 a1_3, .int .i64 a1_4], .int .i64 a2] rfl ql_ ?_; (with_reducible refine (points_Count.calls k a0_0 a0_1 a0_2 a0_3 a1_0 a1_1 a1_2 a1_3 a1_4 a2 t260 t261 _ ?side1 A5.out).mono ?_); (case side1 => exact TabOK.below HTA.out qb_); rintro e w14 ⟨rfl, hb⟩; refine ⟨_, rfl, ?_⟩; replace BK257 := qkb_ BK257 hb; replace BK258 := qkb_ BK258 hb; replace HB := qbs_ hb; (try clear hb); (try clear hb2); (try clear hk); (try clear hi); obtain ⟨hcz15_0, hcz15_1, hcz15_2, hcz15_3, hcz15_4⟩ := qz5_ BK258; obtain ⟨hfz15_0, hfz15_1, hfz15_2, hfz15_3, hfz15_4⟩ := qf5_ BK258) | ((with_reducible refine gate_callee (f := 11) rfl ?_); refine goesL_ (some 35) rfl rfl Tryd.func11 (by kernel_rfl) rfl #[.agg #[.int .i64 0, .int .i64 0, .int .i64 0, .int .i64 0], .agg #[.int .i64 a1_0, .int .i64 a1_1, .int .i64 a1_2, .int .i64 a1_3, .int .i64 a1_4], .int .i64 a2] rfl ql_ ?_; (with_reducible refine (points_Count.calls k 0 0 0 0 a1_0 a1_1 a1_2 a1_3 a1_4 a2 t262 t263 _ ?side1 A6.out).mono ?_); (case side1 => exact TabOK.below HTA.out qb_); rintro e w16 ⟨rfl, hb⟩; refine ⟨_, rfl, ?_⟩; replace BK257 := qkb_ BK257 hb; replace BK258 := qkb_ BK258 hb; replace HB := qbs_ hb; (try clear hb); (try clear hb2); (try clear hk); (try clear hi); obtain ⟨hcz17_0, hcz17_1, hcz17_2, hcz17_3⟩ := qz4_ BK257; obtain ⟨hfz17_0, hfz17_1, hfz17_2, hfz17_3⟩ := qf4_ BK257) | ((with_reducible refine gate_dst (N := 61) rfl ?_); refine Kd.R_lit k23 _ 23 ?hg (N := 61) ?hd (xs := ([(⟨a0_0, 0, 0, 0⟩ : S23), (⟨0, a0_1, 0, 0⟩ : S23), (⟨0, 0, a0_2, 0⟩ : S23), (⟨0, 0, 0, a0_3⟩ : S23)] : List (S23))) (inner := [.int .i64 a0_0, .int .i64 0, .int .i64 0, .int .i64 0, .int .i64 0, .int .i64 a0_1, .int .i64 0, .int .i64 0, .int .i64 0, .int .i64 0, .int .i64 a0_2, .int .i64 0, .int .i64 0, .int .i64 0, .int .i64 0, .int .i64 a0_3]) (ok := fun _ => True) (okp := fun _ => True) ?hr ?hp (fun _ hk => hk) trivial (Below.refl _ _) (Nat.le_refl _) (by simp) ?_; (case hd => rfl); (case hg => rfl); (case hr => exact qq_); (case hp => exact (Reps.c4 (show Kd.M k23 _ _ _ (⟨a0_0, 0, 0, 0⟩ : S23) [.int .i64 a0_0, .int .i64 0, .int .i64 0, .int .i64 0] from (k23_mkM _ _ _ (⟨a0_0, 0, 0, 0⟩ : S23) )) (Reps.c4 (show Kd.M k23 _ _ _ (⟨0, a0_1, 0, 0⟩ : S23) [.int .i64 0, .int .i64 a0_1, .int .i64 0, .int .i64 0] from (k23_mkM _ _ _ (⟨0, a0_1, 0, 0⟩ : S23) )) (Reps.c4 (show Kd.M k23 _ _ _ (⟨0, 0, a0_2, 0⟩ : S23) [.int .i64 0, .int .i64 0, .int .i64 a0_2, .int .i64 0] from (k23_mkM _ _ _ (⟨0, 0, a0_2, 0⟩ : S23) )) (Reps.c4 (show Kd.M k23 _ _ _ (⟨0, 0, 0, a0_3⟩ : S23) [.int .i64 0, .int .i64 0, .int .i64 0, .int .i64 a0_3] from (k23_mkM _ _ _ (⟨0, 0, 0, a0_3⟩ : S23) )) (Reps.none _ _)))))); intro v265 w18 ho19 hb hg_ hnew_; clear hg_ hnew_; (first | rw [← Ny264.out] at ho19 | (simp only [Int.reduceToNat] at ho19; rw [← Ny264.out] at ho19)); have HO266 := Aside0.mk (Kd.R_lower (Kd.R_newB ho19 (g := gb257) (o := .cells #[.int .i64 a0_0, .int .i64 a0_1, .int .i64 a0_2, .int .i64 a0_3] 23 (0, 0)) (qk_ BK257)) (below_size qb_)); replace BK257 := qkb_ BK257 hb; replace BK258 := qkb_ BK258 hb; replace HB := qbs_ hb; clear hb ho19; obtain ⟨Ao20, co20, eo20⟩ := Kd.R_slice HO266.out; subst eo20))
    go_loopg [7, 12, 63] k (fun kq v7 v12 v63 w' => ∃ (x7_1 : Bool) (x12_1 : Int) (x63_1 : Int), v7 = .bool x7_1 ∧ v12 = .int .i64 x12_1 ∧ v63 = .int .i64 x63_1 ∧ Aside0 (cohousinglaw21_PointsParts.l0 kq a2 x7_1 t260 t262 t263 x12_1 y264 (y264.length : Int) x63_1 a0_0 a0_1 a0_2 a0_3 a1_0 a1_1 a1_2 a1_3 a1_4 = some r) ∧ Aside0 (kq ≤ k) ∧ Aside0 (Kd.R k23 23 w' w.heap.size (fun k_ => k_ ≠ gb257) (.slice Ao20 y264.length co20) y264) ∧ Aside0 (w'.heap[gb257]? = some (.cells #[.int .i64 a0_0, .int .i64 a0_1, .int .i64 a0_2, .int .i64 a0_3] 23 (0, 0))) ∧ Aside0 (w'.heap[gb258]? = some (.cells #[.int .i64 a1_0, .int .i64 a1_1, .int .i64 a1_2, .int .i64 a1_3, .int .i64 a1_4] 25 (0, 0))) ∧ Aside0 (Below w.heap.size w w'))
    case atStart => exact ⟨(t259), (0), (0), qs_, qs_, qs_, H', ⟨Nat.le_refl _⟩, ⟨by (with_reducible repeat (first | apply Kd.R_alloc | apply Kd.R_drewN | apply Kd.R_drew)); exact Kd.R_mono HO266.out (fun _ hk => hk.2)⟩, ⟨qk_ BK257⟩, ⟨qk_ BK258⟩, ⟨qb_⟩⟩
    case round =>
      clear H'
      try clear c1
      try clear p2
      try clear c4
      try clear c7
      try clear c7b0
      try clear c7b1
      try clear c10
      try clear c11
      try clear hcz12_0 hcz12_1 hcz12_2 hcz12_3
      try clear hcz13_0 hcz13_1 hcz13_2 hcz13_3 hcz13_4
      try clear hcz15_0 hcz15_1 hcz15_2 hcz15_3 hcz15_4
      try clear hcz17_0 hcz17_1 hcz17_2 hcz17_3
      try clear hfz12_0 hfz12_1 hfz12_2 hfz12_3
      try clear hfz13_0 hfz13_1 hfz13_2 hfz13_3 hfz13_4
      try clear hfz15_0 hfz15_1 hfz15_2 hfz15_3 hfz15_4
      try clear hfz17_0 hfz17_1 hfz17_2 hfz17_3
      obtain ⟨x7_1, x12_1, x63_1, rfl, rfl, rfl, HA, HK1, HO_61, BK257, BK258, HB⟩ := hrel
      cases gk with
      | zero => exact absurd HA.out (by simp [cohousinglaw21_PointsParts.l0])
      | succ k1 =>
        have H := HA.out
        clear HA
        simp only [cohousinglaw21_PointsParts.l0] at H
        by_cases c21 : x63_1 < (y264.length : Int)
        · rw [if_pos c21] at H
          have c21b0 : decide (x63_1 < (y264.length : Int)) = true := decide_eq_true c21
          clear c21
          by_cases c22 : 0 ≤ x63_1
          · rw [if_pos c22] at H
            have c22b0 : decide (0 ≤ x63_1) = true := decide_eq_true c22
            clear c22
            by_cases c23 : x63_1 < (y264.length : Int)
            · rw [if_pos c23] at H
              have c23b0 : decide (x63_1 < (y264.length : Int)) = true := decide_eq_true c23
              clear c23
              replace H := Option.bind_eq_some_iff.mp H
              obtain ⟨⟨t269, t270⟩, A240, H⟩ := H
              replace H : (if x7_1 = true then (if t270 = 0 then (cohousinglaw21_PointsParts.l0 k1 a2 (decide (t269 ≥ 0)) t260 t262 t263 (wrap64 (x12_1 + t269)) y264 (y264.length : Int) (wrap64 (x63_1 + 1)) a0_0 a0_1 a0_2 a0_3 a1_0 a1_1 a1_2 a1_3 a1_4) else (cohousinglaw21_PointsParts.l0 k1 a2 false t260 t262 t263 (wrap64 (x12_1 + t269)) y264 (y264.length : Int) (wrap64 (x63_1 + 1)) a0_0 a0_1 a0_2 a0_3 a1_0 a1_1 a1_2 a1_3 a1_4)) else (cohousinglaw21_PointsParts.l0 k1 a2 false t260 t262 t263 (wrap64 (x12_1 + t269)) y264 (y264.length : Int) (wrap64 (x63_1 + 1)) a0_0 a0_1 a0_2 a0_3 a1_0 a1_1 a1_2 a1_3 a1_4)) = some r := H
              have A24 := Aside0.mk A240
              clear A240
              by_cases c25 : x7_1 = true
              · subst c25
                have H1 : (if t270 = 0 then (cohousinglaw21_PointsParts.l0 k1 a2 (decide (t269 ≥ 0)) t260 t262 t263 (wrap64 (x12_1 + t269)) y264 (y264.length : Int) (wrap64 (x63_1 + 1)) a0_0 a0_1 a0_2 a0_3 a1_0 a1_1 a1_2 a1_3 a1_4) else (cohousinglaw21_PointsParts.l0 k1 a2 false t260 t262 t263 (wrap64 (x12_1 + t269)) y264 (y264.length : Int) (wrap64 (x63_1 + 1)) a0_0 a0_1 a0_2 a0_3 a1_0 a1_1 a1_2 a1_3 a1_4)) = some r := by rw [if_pos rfl] at H; exact H
                clear H
                have H := H1
                clear H1
                by_cases c26 : t270 = 0
                · rw [if_pos c26] at H
                  have c26b0 : (t270 == 0) = true := beq_iff_eq.mpr c26
                  have c26b1 : (t270 != 0) = false := bne_eq_false_iff_eq.mpr c26
                  clear c26
                  have H' := Aside0.mk H
                  clear H
                  have p267 : 0 ≤ (x63_1 : Int) := of_decide_eq_true qa_
                  have q267 : x63_1 < (y264.length : Int) := of_decide_eq_true qa_
                  obtain ⟨ad267, e267, hx267_0, hx267_1, hx267_2, hx267_3⟩ := at_T23 (Kd.R_reads' HO_61.out).2.2 x63_1 p267 q267
                  cases e267
                  replace p267 := eq_true p267
                  replace q267 := eq_true q267
                  go_wp2_with (first | ((with_reducible refine gate_dst (N := 14) rfl ?_); refine qev_ 14 #[.int .i64 0, .int .i64 0, .int .i64 0, .int .i64 0] 23 ?_; intro gb268 hg w27 hbox hb; replace HO_61 := Aside0.mk (Kd.R_below (Kd.R_elderB (qr_ HO_61) gb268 (Nat.le_of_eq hg.symm)) hb); have BK268 := Aside0.mk (hbox); have GW268 := qga_ hg; have GE268 := qga_ hg; replace HB := qbs_ hb; have NB257_268 := Aside0.mk ((by rw [hg]; exact Nat.ne_of_lt (blk_lt (qk_ BK257)) : gb257 ≠ gb268)); have NB268_257 := Aside0.mk ((by rw [hg]; exact Nat.ne_of_gt (blk_lt (qk_ BK257)) : gb268 ≠ gb257)); replace BK257 := qkb_ BK257 hb; have NB258_268 := Aside0.mk ((by rw [hg]; exact Nat.ne_of_lt (blk_lt (qk_ BK258)) : gb258 ≠ gb268)); have NB268_258 := Aside0.mk ((by rw [hg]; exact Nat.ne_of_gt (blk_lt (qk_ BK258)) : gb268 ≠ gb258)); replace BK258 := qkb_ BK258 hb; clear hb hbox hg; have hnb28 := NB268_257.out; have hnc28 := NB257_268.out; have hnb29 := NB268_258.out; have hnc29 := NB258_268.out; obtain ⟨hcz30_0, hcz30_1, hcz30_2, hcz30_3⟩ := qz4_ BK268; obtain ⟨hfz30_0, hfz30_1, hfz30_2, hfz30_3⟩ := qf4_ BK268; have hnb31 := NB258_257.out; have hnc31 := NB257_258.out; obtain ⟨hcz32_0, hcz32_1, hcz32_2, hcz32_3, hcz32_4⟩ := qz5_ BK258; obtain ⟨hfz32_0, hfz32_1, hfz32_2, hfz32_3, hfz32_4⟩ := qf5_ BK258) | ((with_reducible refine gate_callee (f := 11) rfl ?_); refine goesL_ (some 71) rfl rfl Tryd.func11 (by kernel_rfl) rfl #[.agg #[.int .i64 ((rd_T23 y264 x63_1).f0), .int .i64 ((rd_T23 y264 x63_1).f1), .int .i64 ((rd_T23 y264 x63_1).f2), .int .i64 ((rd_T23 y264 x63_1).f3)], .agg #[.int .i64 a1_0, .int .i64 a1_1, .int .i64 a1_2, .int .i64 a1_3, .int .i64 a1_4], .int .i64 a2] rfl ql_ ?_; (with_reducible refine (points_Count.calls k1 ((rd_T23 y264 x63_1).f0) ((rd_T23 y264 x63_1).f1) ((rd_T23 y264 x63_1).f2) ((rd_T23 y264 x63_1).f3) a1_0 a1_1 a1_2 a1_3 a1_4 a2 t269 t270 _ ?side1 A24.out).mono ?_); (case side1 => exact TabOK.below HTA.out qb_); rintro e w33 ⟨rfl, hb⟩; refine ⟨_, rfl, ?_⟩; replace HO_61 := Aside0.mk (Kd.R_below (by (with_reducible repeat (first | apply Kd.R_alloc | apply Kd.R_drewN | apply Kd.R_drew)); exact (Kd.R_mono (Kd.R_far (p := ⟨gb268, 3, none⟩) (Kd.R_far (p := ⟨gb268, 2, none⟩) (Kd.R_far (p := ⟨gb268, 1, none⟩) (Kd.R_far (p := ⟨gb268, 0, none⟩) (Kd.R_mono HO_61.out (fun k_ hk => (⟨hk, hk.2⟩ : _ ∧ k_ ≠ gb268))) (fun _ hk => hk.2) (.int .i64 ((rd_T23 y264 x63_1).f0))) (fun _ hk => hk.2) (.int .i64 ((rd_T23 y264 x63_1).f1))) (fun _ hk => hk.2) (.int .i64 ((rd_T23 y264 x63_1).f2))) (fun _ hk => hk.2) (.int .i64 ((rd_T23 y264 x63_1).f3))) (fun _ h_ => h_.1))) hb); replace BK257 := Aside0.mk (blk_below (g := gb257) (o := .cells #[.int .i64 a0_0, .int .i64 a0_1, .int .i64 a0_2, .int .i64 a0_3] 23 (0, 0)) (by refine qd_ ?_; refine blk_far ?_ NB257_268.out _; refine qd_ ?_; refine blk_far ?_ NB257_268.out _; refine qd_ ?_; refine blk_far ?_ NB257_268.out _; refine qd_ ?_; refine blk_far ?_ NB257_268.out _; refine qd_ ?_; exact BK257.out) hb); replace BK258 := Aside0.mk (blk_below (g := gb258) (o := .cells #[.int .i64 a1_0, .int .i64 a1_1, .int .i64 a1_2, .int .i64 a1_3, .int .i64 a1_4] 25 (0, 0)) (by refine qd_ ?_; refine blk_far ?_ NB258_268.out _; refine qd_ ?_; refine blk_far ?_ NB258_268.out _; refine qd_ ?_; refine blk_far ?_ NB258_268.out _; refine qd_ ?_; refine blk_far ?_ NB258_268.out _; refine qd_ ?_; exact BK258.out) hb); replace BK268 := Aside0.mk (blk_below (g := gb268) (o := .cells #[.int .i64 ((rd_T23 y264 x63_1).f0), .int .i64 ((rd_T23 y264 x63_1).f1), .int .i64 ((rd_T23 y264 x63_1).f2), .int .i64 ((rd_T23 y264 x63_1).f3)] 23 (0, 0)) (by refine qd_ ?_; refine blk_put (cs := #[.int .i64 ((rd_T23 y264 x63_1).f0), .int .i64 ((rd_T23 y264 x63_1).f1), .int .i64 ((rd_T23 y264 x63_1).f2), .int .i64 0]) ?_ 3 _ rfl; refine qd_ ?_; refine blk_put (cs := #[.int .i64 ((rd_T23 y264 x63_1).f0), .int .i64 ((rd_T23 y264 x63_1).f1), .int .i64 0, .int .i64 0]) ?_ 2 _ rfl; refine qd_ ?_; refine blk_put (cs := #[.int .i64 ((rd_T23 y264 x63_1).f0), .int .i64 0, .int .i64 0, .int .i64 0]) ?_ 1 _ rfl; refine qd_ ?_; refine blk_put (cs := #[.int .i64 0, .int .i64 0, .int .i64 0, .int .i64 0]) ?_ 0 _ rfl; refine qd_ ?_; exact BK268.out) hb); replace HB := qbs_ hb; (try clear hb); (try clear hb2); (try clear hk); (try clear hi)))
                  go_roundg k1
                  case measure => have := HK1.out; omega
                  case rel => exact ⟨(decide (t269 ≥ 0)), (wrap64 (x12_1 + t269)), (wrap64 (x63_1 + 1)), qs_, qs_, qs_, H', ⟨by have := HK1.out; omega⟩, ⟨by (with_reducible repeat (first | apply Kd.R_alloc | apply Kd.R_drewN | apply Kd.R_drew)); exact Kd.R_mono HO_61.out (fun _ hk => hk.1)⟩, ⟨qk_ BK257⟩, ⟨qk_ BK258⟩, ⟨qb_⟩⟩
                · rw [if_neg c26] at H
                  have c26b0 : (t270 == 0) = false := beq_eq_false_iff_ne.mpr c26
                  have c26b1 : (t270 != 0) = true := bne_iff_ne.mpr c26
                  have H' := Aside0.mk H
                  clear H
                  have p267 : 0 ≤ (x63_1 : Int) := of_decide_eq_true qa_
                  have q267 : x63_1 < (y264.length : Int) := of_decide_eq_true qa_
                  obtain ⟨ad267, e267, hx267_0, hx267_1, hx267_2, hx267_3⟩ := at_T23 (Kd.R_reads' HO_61.out).2.2 x63_1 p267 q267
                  cases e267
                  replace p267 := eq_true p267
                  replace q267 := eq_true q267
                  go_wp2_with (first | ((with_reducible refine gate_dst (N := 14) rfl ?_); refine qev_ 14 #[.int .i64 0, .int .i64 0, .int .i64 0, .int .i64 0] 23 ?_; intro gb268 hg w34 hbox hb; replace HO_61 := Aside0.mk (Kd.R_below (Kd.R_elderB (qr_ HO_61) gb268 (Nat.le_of_eq hg.symm)) hb); have BK268 := Aside0.mk (hbox); have GW268 := qga_ hg; have GE268 := qga_ hg; replace HB := qbs_ hb; have NB257_268 := Aside0.mk ((by rw [hg]; exact Nat.ne_of_lt (blk_lt (qk_ BK257)) : gb257 ≠ gb268)); have NB268_257 := Aside0.mk ((by rw [hg]; exact Nat.ne_of_gt (blk_lt (qk_ BK257)) : gb268 ≠ gb257)); replace BK257 := qkb_ BK257 hb; have NB258_268 := Aside0.mk ((by rw [hg]; exact Nat.ne_of_lt (blk_lt (qk_ BK258)) : gb258 ≠ gb268)); have NB268_258 := Aside0.mk ((by rw [hg]; exact Nat.ne_of_gt (blk_lt (qk_ BK258)) : gb268 ≠ gb258)); replace BK258 := qkb_ BK258 hb; clear hb hbox hg; have hnb35 := NB268_257.out; have hnc35 := NB257_268.out; have hnb36 := NB268_258.out; have hnc36 := NB258_268.out; obtain ⟨hcz37_0, hcz37_1, hcz37_2, hcz37_3⟩ := qz4_ BK268; obtain ⟨hfz37_0, hfz37_1, hfz37_2, hfz37_3⟩ := qf4_ BK268; have hnb38 := NB258_257.out; have hnc38 := NB257_258.out; obtain ⟨hcz39_0, hcz39_1, hcz39_2, hcz39_3, hcz39_4⟩ := qz5_ BK258; obtain ⟨hfz39_0, hfz39_1, hfz39_2, hfz39_3, hfz39_4⟩ := qf5_ BK258) | ((with_reducible refine gate_callee (f := 11) rfl ?_); refine goesL_ (some 71) rfl rfl Tryd.func11 (by kernel_rfl) rfl #[.agg #[.int .i64 ((rd_T23 y264 x63_1).f0), .int .i64 ((rd_T23 y264 x63_1).f1), .int .i64 ((rd_T23 y264 x63_1).f2), .int .i64 ((rd_T23 y264 x63_1).f3)], .agg #[.int .i64 a1_0, .int .i64 a1_1, .int .i64 a1_2, .int .i64 a1_3, .int .i64 a1_4], .int .i64 a2] rfl ql_ ?_; (with_reducible refine (points_Count.calls k1 ((rd_T23 y264 x63_1).f0) ((rd_T23 y264 x63_1).f1) ((rd_T23 y264 x63_1).f2) ((rd_T23 y264 x63_1).f3) a1_0 a1_1 a1_2 a1_3 a1_4 a2 t269 t270 _ ?side1 A24.out).mono ?_); (case side1 => exact TabOK.below HTA.out qb_); rintro e w40 ⟨rfl, hb⟩; refine ⟨_, rfl, ?_⟩; replace HO_61 := Aside0.mk (Kd.R_below (by (with_reducible repeat (first | apply Kd.R_alloc | apply Kd.R_drewN | apply Kd.R_drew)); exact (Kd.R_mono (Kd.R_far (p := ⟨gb268, 3, none⟩) (Kd.R_far (p := ⟨gb268, 2, none⟩) (Kd.R_far (p := ⟨gb268, 1, none⟩) (Kd.R_far (p := ⟨gb268, 0, none⟩) (Kd.R_mono HO_61.out (fun k_ hk => (⟨hk, hk.2⟩ : _ ∧ k_ ≠ gb268))) (fun _ hk => hk.2) (.int .i64 ((rd_T23 y264 x63_1).f0))) (fun _ hk => hk.2) (.int .i64 ((rd_T23 y264 x63_1).f1))) (fun _ hk => hk.2) (.int .i64 ((rd_T23 y264 x63_1).f2))) (fun _ hk => hk.2) (.int .i64 ((rd_T23 y264 x63_1).f3))) (fun _ h_ => h_.1))) hb); replace BK257 := Aside0.mk (blk_below (g := gb257) (o := .cells #[.int .i64 a0_0, .int .i64 a0_1, .int .i64 a0_2, .int .i64 a0_3] 23 (0, 0)) (by refine qd_ ?_; refine blk_far ?_ NB257_268.out _; refine qd_ ?_; refine blk_far ?_ NB257_268.out _; refine qd_ ?_; refine blk_far ?_ NB257_268.out _; refine qd_ ?_; refine blk_far ?_ NB257_268.out _; refine qd_ ?_; exact BK257.out) hb); replace BK258 := Aside0.mk (blk_below (g := gb258) (o := .cells #[.int .i64 a1_0, .int .i64 a1_1, .int .i64 a1_2, .int .i64 a1_3, .int .i64 a1_4] 25 (0, 0)) (by refine qd_ ?_; refine blk_far ?_ NB258_268.out _; refine qd_ ?_; refine blk_far ?_ NB258_268.out _; refine qd_ ?_; refine blk_far ?_ NB258_268.out _; refine qd_ ?_; refine blk_far ?_ NB258_268.out _; refine qd_ ?_; exact BK258.out) hb); replace BK268 := Aside0.mk (blk_below (g := gb268) (o := .cells #[.int .i64 ((rd_T23 y264 x63_1).f0), .int .i64 ((rd_T23 y264 x63_1).f1), .int .i64 ((rd_T23 y264 x63_1).f2), .int .i64 ((rd_T23 y264 x63_1).f3)] 23 (0, 0)) (by refine qd_ ?_; refine blk_put (cs := #[.int .i64 ((rd_T23 y264 x63_1).f0), .int .i64 ((rd_T23 y264 x63_1).f1), .int .i64 ((rd_T23 y264 x63_1).f2), .int .i64 0]) ?_ 3 _ rfl; refine qd_ ?_; refine blk_put (cs := #[.int .i64 ((rd_T23 y264 x63_1).f0), .int .i64 ((rd_T23 y264 x63_1).f1), .int .i64 0, .int .i64 0]) ?_ 2 _ rfl; refine qd_ ?_; refine blk_put (cs := #[.int .i64 ((rd_T23 y264 x63_1).f0), .int .i64 0, .int .i64 0, .int .i64 0]) ?_ 1 _ rfl; refine qd_ ?_; refine blk_put (cs := #[.int .i64 0, .int .i64 0, .int .i64 0, .int .i64 0]) ?_ 0 _ rfl; refine qd_ ?_; exact BK268.out) hb); replace HB := qbs_ hb; (try clear hb); (try clear hb2); (try clear hk); (try clear hi)))
                  go_roundg k1
                  case measure => have := HK1.out; omega
                  case rel => exact ⟨(false), (wrap64 (x12_1 + t269)), (wrap64 (x63_1 + 1)), qs_, qs_, qs_, H', ⟨by have := HK1.out; omega⟩, ⟨by (with_reducible repeat (first | apply Kd.R_alloc | apply Kd.R_drewN | apply Kd.R_drew)); exact Kd.R_mono HO_61.out (fun _ hk => hk.1)⟩, ⟨qk_ BK257⟩, ⟨qk_ BK258⟩, ⟨qb_⟩⟩
              · replace c25 := Bool.eq_false_iff.mpr c25
                subst c25
                have H1 : (cohousinglaw21_PointsParts.l0 k1 a2 false t260 t262 t263 (wrap64 (x12_1 + t269)) y264 (y264.length : Int) (wrap64 (x63_1 + 1)) a0_0 a0_1 a0_2 a0_3 a1_0 a1_1 a1_2 a1_3 a1_4) = some r := by rw [if_neg (show ¬ (false = true) by decide)] at H; exact H
                clear H
                have H := H1
                clear H1
                have H' := Aside0.mk H
                clear H
                have p267 : 0 ≤ (x63_1 : Int) := of_decide_eq_true qa_
                have q267 : x63_1 < (y264.length : Int) := of_decide_eq_true qa_
                obtain ⟨ad267, e267, hx267_0, hx267_1, hx267_2, hx267_3⟩ := at_T23 (Kd.R_reads' HO_61.out).2.2 x63_1 p267 q267
                cases e267
                replace p267 := eq_true p267
                replace q267 := eq_true q267
                go_wp2_with (first | ((with_reducible refine gate_dst (N := 14) rfl ?_); refine qev_ 14 #[.int .i64 0, .int .i64 0, .int .i64 0, .int .i64 0] 23 ?_; intro gb268 hg w41 hbox hb; replace HO_61 := Aside0.mk (Kd.R_below (Kd.R_elderB (qr_ HO_61) gb268 (Nat.le_of_eq hg.symm)) hb); have BK268 := Aside0.mk (hbox); have GW268 := qga_ hg; have GE268 := qga_ hg; replace HB := qbs_ hb; have NB257_268 := Aside0.mk ((by rw [hg]; exact Nat.ne_of_lt (blk_lt (qk_ BK257)) : gb257 ≠ gb268)); have NB268_257 := Aside0.mk ((by rw [hg]; exact Nat.ne_of_gt (blk_lt (qk_ BK257)) : gb268 ≠ gb257)); replace BK257 := qkb_ BK257 hb; have NB258_268 := Aside0.mk ((by rw [hg]; exact Nat.ne_of_lt (blk_lt (qk_ BK258)) : gb258 ≠ gb268)); have NB268_258 := Aside0.mk ((by rw [hg]; exact Nat.ne_of_gt (blk_lt (qk_ BK258)) : gb268 ≠ gb258)); replace BK258 := qkb_ BK258 hb; clear hb hbox hg; have hnb42 := NB268_257.out; have hnc42 := NB257_268.out; have hnb43 := NB268_258.out; have hnc43 := NB258_268.out; obtain ⟨hcz44_0, hcz44_1, hcz44_2, hcz44_3⟩ := qz4_ BK268; obtain ⟨hfz44_0, hfz44_1, hfz44_2, hfz44_3⟩ := qf4_ BK268; have hnb45 := NB258_257.out; have hnc45 := NB257_258.out; obtain ⟨hcz46_0, hcz46_1, hcz46_2, hcz46_3, hcz46_4⟩ := qz5_ BK258; obtain ⟨hfz46_0, hfz46_1, hfz46_2, hfz46_3, hfz46_4⟩ := qf5_ BK258) | ((with_reducible refine gate_callee (f := 11) rfl ?_); refine goesL_ (some 71) rfl rfl Tryd.func11 (by kernel_rfl) rfl #[.agg #[.int .i64 ((rd_T23 y264 x63_1).f0), .int .i64 ((rd_T23 y264 x63_1).f1), .int .i64 ((rd_T23 y264 x63_1).f2), .int .i64 ((rd_T23 y264 x63_1).f3)], .agg #[.int .i64 a1_0, .int .i64 a1_1, .int .i64 a1_2, .int .i64 a1_3, .int .i64 a1_4], .int .i64 a2] rfl ql_ ?_; (with_reducible refine (points_Count.calls k1 ((rd_T23 y264 x63_1).f0) ((rd_T23 y264 x63_1).f1) ((rd_T23 y264 x63_1).f2) ((rd_T23 y264 x63_1).f3) a1_0 a1_1 a1_2 a1_3 a1_4 a2 t269 t270 _ ?side1 A24.out).mono ?_); (case side1 => exact TabOK.below HTA.out qb_); rintro e w47 ⟨rfl, hb⟩; refine ⟨_, rfl, ?_⟩; replace HO_61 := Aside0.mk (Kd.R_below (by (with_reducible repeat (first | apply Kd.R_alloc | apply Kd.R_drewN | apply Kd.R_drew)); exact (Kd.R_mono (Kd.R_far (p := ⟨gb268, 3, none⟩) (Kd.R_far (p := ⟨gb268, 2, none⟩) (Kd.R_far (p := ⟨gb268, 1, none⟩) (Kd.R_far (p := ⟨gb268, 0, none⟩) (Kd.R_mono HO_61.out (fun k_ hk => (⟨hk, hk.2⟩ : _ ∧ k_ ≠ gb268))) (fun _ hk => hk.2) (.int .i64 ((rd_T23 y264 x63_1).f0))) (fun _ hk => hk.2) (.int .i64 ((rd_T23 y264 x63_1).f1))) (fun _ hk => hk.2) (.int .i64 ((rd_T23 y264 x63_1).f2))) (fun _ hk => hk.2) (.int .i64 ((rd_T23 y264 x63_1).f3))) (fun _ h_ => h_.1))) hb); replace BK257 := Aside0.mk (blk_below (g := gb257) (o := .cells #[.int .i64 a0_0, .int .i64 a0_1, .int .i64 a0_2, .int .i64 a0_3] 23 (0, 0)) (by refine qd_ ?_; refine blk_far ?_ NB257_268.out _; refine qd_ ?_; refine blk_far ?_ NB257_268.out _; refine qd_ ?_; refine blk_far ?_ NB257_268.out _; refine qd_ ?_; refine blk_far ?_ NB257_268.out _; refine qd_ ?_; exact BK257.out) hb); replace BK258 := Aside0.mk (blk_below (g := gb258) (o := .cells #[.int .i64 a1_0, .int .i64 a1_1, .int .i64 a1_2, .int .i64 a1_3, .int .i64 a1_4] 25 (0, 0)) (by refine qd_ ?_; refine blk_far ?_ NB258_268.out _; refine qd_ ?_; refine blk_far ?_ NB258_268.out _; refine qd_ ?_; refine blk_far ?_ NB258_268.out _; refine qd_ ?_; refine blk_far ?_ NB258_268.out _; refine qd_ ?_; exact BK258.out) hb); replace BK268 := Aside0.mk (blk_below (g := gb268) (o := .cells #[.int .i64 ((rd_T23 y264 x63_1).f0), .int .i64 ((rd_T23 y264 x63_1).f1), .int .i64 ((rd_T23 y264 x63_1).f2), .int .i64 ((rd_T23 y264 x63_1).f3)] 23 (0, 0)) (by refine qd_ ?_; refine blk_put (cs := #[.int .i64 ((rd_T23 y264 x63_1).f0), .int .i64 ((rd_T23 y264 x63_1).f1), .int .i64 ((rd_T23 y264 x63_1).f2), .int .i64 0]) ?_ 3 _ rfl; refine qd_ ?_; refine blk_put (cs := #[.int .i64 ((rd_T23 y264 x63_1).f0), .int .i64 ((rd_T23 y264 x63_1).f1), .int .i64 0, .int .i64 0]) ?_ 2 _ rfl; refine qd_ ?_; refine blk_put (cs := #[.int .i64 ((rd_T23 y264 x63_1).f0), .int .i64 0, .int .i64 0, .int .i64 0]) ?_ 1 _ rfl; refine qd_ ?_; refine blk_put (cs := #[.int .i64 0, .int .i64 0, .int .i64 0, .int .i64 0]) ?_ 0 _ rfl; refine qd_ ?_; exact BK268.out) hb); replace HB := qbs_ hb; (try clear hb); (try clear hb2); (try clear hk); (try clear hi)))
                go_roundg k1
                case measure => have := HK1.out; omega
                case rel => exact ⟨(false), (wrap64 (x12_1 + t269)), (wrap64 (x63_1 + 1)), qs_, qs_, qs_, H', ⟨by have := HK1.out; omega⟩, ⟨by (with_reducible repeat (first | apply Kd.R_alloc | apply Kd.R_drewN | apply Kd.R_drew)); exact Kd.R_mono HO_61.out (fun _ hk => hk.1)⟩, ⟨qk_ BK257⟩, ⟨qk_ BK258⟩, ⟨qb_⟩⟩
            · rw [if_neg c23] at H
              exact absurd H (by simp)
          · rw [if_neg c22] at H
            exact absurd H (by simp)
        · rw [if_neg c21] at H
          have c21b0 : decide (x63_1 < (y264.length : Int)) = false := decide_eq_false c21
          clear c21
          obtain ⟨y271, hy271⟩ : ∃ y_ : List (S25), y_ = (([(⟨a1_0, a1_1, a1_2, a1_3, a1_4⟩ : S25), (⟨a1_0, a1_1, a1_2, a1_3, a1_4⟩ : S25), (⟨a1_0, a1_1, a1_2, a1_3, a1_4⟩ : S25)] : List (S25))) := ⟨_, rfl⟩
          replace H : (if 0 < (y271.length : Int) then ((some (y271.set (0 : Int).toNat (⟨(rd_T25 y271 0).f0, (rd_T25 y271 0).f1, wrap64 (((rd_T25 y271 0).f2) + 1), (rd_T25 y271 0).f3, (rd_T25 y271 0).f4⟩ : S25) : List (S25))).bind fun y275 => (if 1 < (y271.length : Int) then ((some (y275.set (1 : Int).toNat (⟨(rd_T25 y275 1).f0, (rd_T25 y275 1).f1, (rd_T25 y275 1).f2, wrap64 (((rd_T25 y275 1).f3) + 1), (rd_T25 y275 1).f4⟩ : S25) : List (S25))).bind fun y277 => (if 2 < (y271.length : Int) then (cohousinglaw21_PointsParts.l1 k1 a2 x7_1 t260 t262 t263 x12_1 (([a0_1, a0_2, a0_3] : List Int)) (y277.set (2 : Int).toNat (⟨(rd_T25 y277 2).f0, (rd_T25 y277 2).f1, (rd_T25 y277 2).f2, (rd_T25 y277 2).f3, wrap64 (((rd_T25 y277 2).f4) + 1)⟩ : S25)) (y271.length : Int) 0 a0_0 a0_1 a0_2 a0_3) else (none))) else (none))) else (none)) = some r := by first | (rw [hy271]; with_reducible exact H) | (have H2_ := (Option.bind_some _ _).symm.trans H; rw [hy271]; with_reducible exact H2_) | (have H2_ := (Option.bind_some _ _).symm.trans H; with_reducible exact H2_) | with_reducible exact H | (rw [hy271]; exact H) | exact H
          have Ny271 := Aside0.mk hy271
          clear hy271
          by_cases c48 : 0 < (y271.length : Int)
          · rw [if_pos c48] at H
            have c48b0 : decide (0 < (y271.length : Int)) = true := decide_eq_true c48
            have c48b1 : decide (0 < y271.length) = true := decide_eq_true (by omega)
            clear c48
            obtain ⟨y275, hy275⟩ : ∃ y_ : List (S25), y_ = (y271.set (0 : Int).toNat (⟨(rd_T25 y271 0).f0, (rd_T25 y271 0).f1, wrap64 (((rd_T25 y271 0).f2) + 1), (rd_T25 y271 0).f3, (rd_T25 y271 0).f4⟩ : S25)) := ⟨_, rfl⟩
            replace H : (if 1 < (y271.length : Int) then ((some (y275.set (1 : Int).toNat (⟨(rd_T25 y275 1).f0, (rd_T25 y275 1).f1, (rd_T25 y275 1).f2, wrap64 (((rd_T25 y275 1).f3) + 1), (rd_T25 y275 1).f4⟩ : S25) : List (S25))).bind fun y277 => (if 2 < (y271.length : Int) then (cohousinglaw21_PointsParts.l1 k1 a2 x7_1 t260 t262 t263 x12_1 (([a0_1, a0_2, a0_3] : List Int)) (y277.set (2 : Int).toNat (⟨(rd_T25 y277 2).f0, (rd_T25 y277 2).f1, (rd_T25 y277 2).f2, (rd_T25 y277 2).f3, wrap64 (((rd_T25 y277 2).f4) + 1)⟩ : S25)) (y271.length : Int) 0 a0_0 a0_1 a0_2 a0_3) else (none))) else (none)) = some r := by first | (rw [hy275]; with_reducible exact H) | (have H2_ := (Option.bind_some _ _).symm.trans H; rw [hy275]; with_reducible exact H2_) | (have H2_ := (Option.bind_some _ _).symm.trans H; with_reducible exact H2_) | with_reducible exact H | (rw [hy275]; exact H) | exact H
            have Ny275 := Aside0.mk hy275
            clear hy275
            by_cases c50 : 1 < (y271.length : Int)
            · rw [if_pos c50] at H
              have c50b0 : decide (1 < (y271.length : Int)) = true := decide_eq_true c50
              have c50b1 : decide (1 < y271.length) = true := decide_eq_true (by omega)
              clear c50
              obtain ⟨y277, hy277⟩ : ∃ y_ : List (S25), y_ = (y275.set (1 : Int).toNat (⟨(rd_T25 y275 1).f0, (rd_T25 y275 1).f1, (rd_T25 y275 1).f2, wrap64 (((rd_T25 y275 1).f3) + 1), (rd_T25 y275 1).f4⟩ : S25)) := ⟨_, rfl⟩
              replace H : (if 2 < (y271.length : Int) then (cohousinglaw21_PointsParts.l1 k1 a2 x7_1 t260 t262 t263 x12_1 (([a0_1, a0_2, a0_3] : List Int)) (y277.set (2 : Int).toNat (⟨(rd_T25 y277 2).f0, (rd_T25 y277 2).f1, (rd_T25 y277 2).f2, (rd_T25 y277 2).f3, wrap64 (((rd_T25 y277 2).f4) + 1)⟩ : S25)) (y271.length : Int) 0 a0_0 a0_1 a0_2 a0_3) else (none)) = some r := by first | (rw [hy277]; with_reducible exact H) | (have H2_ := (Option.bind_some _ _).symm.trans H; rw [hy277]; with_reducible exact H2_) | (have H2_ := (Option.bind_some _ _).symm.trans H; with_reducible exact H2_) | with_reducible exact H | (rw [hy277]; exact H) | exact H
              have Ny277 := Aside0.mk hy277
              clear hy277
              by_cases c52 : 2 < (y271.length : Int)
              · rw [if_pos c52] at H
                have c52b0 : decide (2 < (y271.length : Int)) = true := decide_eq_true c52
                have c52b1 : decide (2 < y271.length) = true := decide_eq_true (by omega)
                clear c52
                obtain ⟨y279, hy279⟩ : ∃ y_ : List (S25), y_ = (y277.set (2 : Int).toNat (⟨(rd_T25 y277 2).f0, (rd_T25 y277 2).f1, (rd_T25 y277 2).f2, (rd_T25 y277 2).f3, wrap64 (((rd_T25 y277 2).f4) + 1)⟩ : S25)) := ⟨_, rfl⟩
                replace H : (cohousinglaw21_PointsParts.l1 k1 a2 x7_1 t260 t262 t263 x12_1 (([a0_1, a0_2, a0_3] : List Int)) y279 (y271.length : Int) 0 a0_0 a0_1 a0_2 a0_3) = some r := by first | (rw [hy279]; with_reducible exact H) | (have H2_ := (Option.bind_some _ _).symm.trans H; rw [hy279]; with_reducible exact H2_) | (have H2_ := (Option.bind_some _ _).symm.trans H; with_reducible exact H2_) | with_reducible exact H | (rw [hy279]; exact H) | exact H
                have Ny279 := Aside0.mk hy279
                clear hy279
                obtain ⟨y280, hy280⟩ : ∃ y_ : List Int, y_ = (([a0_1, a0_2, a0_3] : List Int)) := ⟨_, rfl⟩
                replace H : (cohousinglaw21_PointsParts.l1 k1 a2 x7_1 t260 t262 t263 x12_1 y280 y279 (y271.length : Int) 0 a0_0 a0_1 a0_2 a0_3) = some r := by first | (rw [hy280]; with_reducible exact H) | (have H2_ := (Option.bind_some _ _).symm.trans H; rw [hy280]; with_reducible exact H2_) | (have H2_ := (Option.bind_some _ _).symm.trans H; with_reducible exact H2_) | with_reducible exact H | (rw [hy280]; exact H) | exact H
                have Ny280 := Aside0.mk hy280
                clear hy280
                have H' := Aside0.mk H
                clear H
                have hnb54 := NB258_257.out
                have hnc54 := NB257_258.out
                obtain ⟨hcz55_0, hcz55_1, hcz55_2, hcz55_3, hcz55_4⟩ := qz5_ BK258; obtain ⟨hfz55_0, hfz55_1, hfz55_2, hfz55_3, hfz55_4⟩ := qf5_ BK258
                go_wp2_with (first | ((with_reducible refine gate_dst (N := 90) rfl ?_); refine Kd.R_lit k25 _ 25 ?hg (N := 90) ?hd (xs := ([(⟨a1_0, a1_1, a1_2, a1_3, a1_4⟩ : S25), (⟨a1_0, a1_1, a1_2, a1_3, a1_4⟩ : S25), (⟨a1_0, a1_1, a1_2, a1_3, a1_4⟩ : S25)] : List (S25))) (inner := [.int .i64 a1_0, .int .i64 a1_1, .int .i64 a1_2, .int .i64 a1_3, .int .i64 a1_4, .int .i64 a1_0, .int .i64 a1_1, .int .i64 a1_2, .int .i64 a1_3, .int .i64 a1_4, .int .i64 a1_0, .int .i64 a1_1, .int .i64 a1_2, .int .i64 a1_3, .int .i64 a1_4]) (ok := fun _ => True) (okp := fun _ => True) ?hr ?hp (fun _ hk => hk) trivial (Below.refl _ _) (Nat.le_refl _) (by simp) ?_; (case hd => rfl); (case hg => rfl); (case hr => exact qq_); (case hp => exact (Reps.c5 (show Kd.M k25 _ _ _ (⟨a1_0, a1_1, a1_2, a1_3, a1_4⟩ : S25) [.int .i64 a1_0, .int .i64 a1_1, .int .i64 a1_2, .int .i64 a1_3, .int .i64 a1_4] from (k25_mkM _ _ _ (⟨a1_0, a1_1, a1_2, a1_3, a1_4⟩ : S25) )) (Reps.c5 (show Kd.M k25 _ _ _ (⟨a1_0, a1_1, a1_2, a1_3, a1_4⟩ : S25) [.int .i64 a1_0, .int .i64 a1_1, .int .i64 a1_2, .int .i64 a1_3, .int .i64 a1_4] from (k25_mkM _ _ _ (⟨a1_0, a1_1, a1_2, a1_3, a1_4⟩ : S25) )) (Reps.c5 (show Kd.M k25 _ _ _ (⟨a1_0, a1_1, a1_2, a1_3, a1_4⟩ : S25) [.int .i64 a1_0, .int .i64 a1_1, .int .i64 a1_2, .int .i64 a1_3, .int .i64 a1_4] from (k25_mkM _ _ _ (⟨a1_0, a1_1, a1_2, a1_3, a1_4⟩ : S25) )) (Reps.none _ _))))); intro v272 w56 ho57 hb hg_ hnew_; clear hg_ hnew_; (first | rw [← Ny271.out] at ho57 | (simp only [Int.reduceToNat] at ho57; rw [← Ny271.out] at ho57)); replace HO_61 := qrb_ HO_61 hb; have HO273 := Aside0.mk (Kd.R_lower (Kd.R_newB ho57 (g := gb258) (o := .cells #[.int .i64 a1_0, .int .i64 a1_1, .int .i64 a1_2, .int .i64 a1_3, .int .i64 a1_4] 25 (0, 0)) (qk_ BK258)) (below_size qb_)); replace BK257 := qkb_ BK257 hb; replace BK258 := qkb_ BK258 hb; replace HB := qbs_ hb; clear hb ho57; obtain ⟨Ao58, co58, eo58⟩ := Kd.R_slice HO273.out; subst eo58; have p274 : 0 ≤ (0 : Int) := (by omega); have q274 : 0 < (y271.length : Int) := of_decide_eq_true qa_; obtain ⟨ad274, e274, hx274_0, hx274_1, hx274_2, hx274_3, hx274_4⟩ := at_T25 (Kd.R_reads' HO273.out).2.2 0 p274 q274; cases e274; have qi274 : (0 < y271.length) = True := eq_true (by omega); (try rw [show ((0 : Int)).toNat = 0 from rfl] at hx274_0); (try rw [show 0 * 5 = 0 from rfl] at hx274_0); (try rw [Addr.add_zero'] at hx274_0); (try rw [show ((0 : Int)).toNat = 0 from rfl] at hx274_1); (try rw [show 0 * 5 = 0 from rfl] at hx274_1); (try rw [Addr.add_zero'] at hx274_1); (try rw [show ((0 : Int)).toNat = 0 from rfl] at hx274_2); (try rw [show 0 * 5 = 0 from rfl] at hx274_2); (try rw [Addr.add_zero'] at hx274_2); (try rw [show ((0 : Int)).toNat = 0 from rfl] at hx274_3); (try rw [show 0 * 5 = 0 from rfl] at hx274_3); (try rw [Addr.add_zero'] at hx274_3); (try rw [show ((0 : Int)).toNat = 0 from rfl] at hx274_4); (try rw [show 0 * 5 = 0 from rfl] at hx274_4); (try rw [Addr.add_zero'] at hx274_4); replace p274 := eq_true p274; replace q274 := eq_true q274; have p49 : 0 ≤ (0 : Int) := (by omega); have q49 : (0 : Int) < ((y271.length : Int) : Int) := of_decide_eq_true qa_; have qi49 : (0 < y271.length) = True := eq_true (by omega); obtain ⟨go49, co49, eo49, gb49, gl49, cl49, HG49⟩ := Kd.R_form HO273.out (by omega); (first | cases eo49 | (injection eo49 with ea_ en_ ec_; (first | subst ea_ | (injection ea_ with ea_; subst ea_)); subst ec_; clear en_)); have GB49 := Aside0.mk gb49; have GG49 := Aside0.mk HG49; clear gb49 gl49 HG49; (first | simp only [add_plain] at hx274_0 | skip); (first | simp only [add_plain] at hx274_1 | skip); (first | simp only [add_plain] at hx274_2 | skip); (first | simp only [add_plain] at hx274_3 | skip); (first | simp only [add_plain] at hx274_4 | skip); obtain ⟨ce49, hcl49, hM49, hcc49, hfr49⟩ := Kd.R_elem HO273.out z25 (0 : Int) p49 q49; obtain rfl := k25_openM hM49; have hx49_0 : w56.cell? ⟨go49, (0 : Int).toNat * 5, none⟩ = some (.int .i64 ((rd_T25 y271 0).f0)) := hcc49 0 _ rfl; have hx49_1 : w56.cell? ⟨go49, (0 : Int).toNat * 5 + 1, none⟩ = some (.int .i64 ((rd_T25 y271 0).f1)) := hcc49 1 _ rfl; have hx49_2 : w56.cell? ⟨go49, (0 : Int).toNat * 5 + 2, none⟩ = some (.int .i64 ((rd_T25 y271 0).f2)) := hcc49 2 _ rfl; have hx49_3 : w56.cell? ⟨go49, (0 : Int).toNat * 5 + 3, none⟩ = some (.int .i64 ((rd_T25 y271 0).f3)) := hcc49 3 _ rfl; have hx49_4 : w56.cell? ⟨go49, (0 : Int).toNat * 5 + 4, none⟩ = some (.int .i64 ((rd_T25 y271 0).f4)) := hcc49 4 _ rfl; have hf49_0 : w56.frozen? ⟨go49, (0 : Int).toNat * 5, none⟩ = false := hfr49 0; have hf49_1 : w56.frozen? ⟨go49, (0 : Int).toNat * 5 + 1, none⟩ = false := hfr49 1; have hf49_2 : w56.frozen? ⟨go49, (0 : Int).toNat * 5 + 2, none⟩ = false := hfr49 2; have hf49_3 : w56.frozen? ⟨go49, (0 : Int).toNat * 5 + 3, none⟩ = false := hfr49 3; have hf49_4 : w56.frozen? ⟨go49, (0 : Int).toNat * 5 + 4, none⟩ = false := hfr49 4; clear hcl49 hcc49 hfr49 hM49; (try rw [show ((0 : Int)).toNat = 0 from rfl] at hx49_0); (try simp only [Nat.reduceMul, Nat.zero_mul, Nat.zero_add, Nat.reduceAdd] at hx49_0); (try rw [show ((0 : Int)).toNat = 0 from rfl] at hf49_0); (try simp only [Nat.reduceMul, Nat.zero_mul, Nat.zero_add, Nat.reduceAdd] at hf49_0); (try rw [show ((0 : Int)).toNat = 0 from rfl] at hx49_1); (try simp only [Nat.reduceMul, Nat.zero_mul, Nat.zero_add, Nat.reduceAdd] at hx49_1); (try rw [show ((0 : Int)).toNat = 0 from rfl] at hf49_1); (try simp only [Nat.reduceMul, Nat.zero_mul, Nat.zero_add, Nat.reduceAdd] at hf49_1); (try rw [show ((0 : Int)).toNat = 0 from rfl] at hx49_2); (try simp only [Nat.reduceMul, Nat.zero_mul, Nat.zero_add, Nat.reduceAdd] at hx49_2); (try rw [show ((0 : Int)).toNat = 0 from rfl] at hf49_2); (try simp only [Nat.reduceMul, Nat.zero_mul, Nat.zero_add, Nat.reduceAdd] at hf49_2); (try rw [show ((0 : Int)).toNat = 0 from rfl] at hx49_3); (try simp only [Nat.reduceMul, Nat.zero_mul, Nat.zero_add, Nat.reduceAdd] at hx49_3); (try rw [show ((0 : Int)).toNat = 0 from rfl] at hf49_3); (try simp only [Nat.reduceMul, Nat.zero_mul, Nat.zero_add, Nat.reduceAdd] at hf49_3); (try rw [show ((0 : Int)).toNat = 0 from rfl] at hx49_4); (try simp only [Nat.reduceMul, Nat.zero_mul, Nat.zero_add, Nat.reduceAdd] at hx49_4); (try rw [show ((0 : Int)).toNat = 0 from rfl] at hf49_4); (try simp only [Nat.reduceMul, Nat.zero_mul, Nat.zero_add, Nat.reduceAdd] at hf49_4); replace p49 := eq_true p49; replace q49 := eq_true q49; have n_ := Aside0.mk (Kd.R_mono (ok' := (fun k_ => k_ ≠ gb258)) HO273.out (fun k_ hk => hk.2)); clear HO273; have HO273 := n_; clear n_; have HX59 := Aside0.mk (show Kd.R k25 25 w56 w.heap.size (fun k_ => k_ ≠ gb258) (.slice (some ⟨go49, 0, none⟩) y271.length co58) y271 from (qr_ HO273)); obtain ⟨ce59, hcl59, hM59, hcc59, hfr59⟩ := Kd.R_elem HX59.out z25 (0 : Int) (by omega) (by have h_ : (0 : Int) < ((y271.length : Int) : Int) := of_decide_eq_true qa_; first | exact h_ | (have e_ := (Kd.R_reads' HO273.out).1; omega) | simpa using h_); obtain rfl := k25_openM hM59; have HP59 := Kd.R_seg HX59.out (0 : Int) (by omega) (by have h_ : (0 : Int) < ((y271.length : Int) : Int) := of_decide_eq_true qa_; first | exact h_ | (have e_ := (Kd.R_reads' HO273.out).1; omega) | simpa using h_) (seg := [.int .i64 (wrap64 (((rd_T25 y271 0).f2) + 1))]) (j := 2) hcl59 hcc59 (show 3 ≤ 5 from by decide) (x' := (⟨(rd_T25 y271 0).f0, (rd_T25 y271 0).f1, wrap64 (((rd_T25 y271 0).f2) + 1), (rd_T25 y271 0).f3, (rd_T25 y271 0).f4⟩ : S25)) (k25_mkM _ _ _ (⟨(rd_T25 y271 0).f0, (rd_T25 y271 0).f1, wrap64 (((rd_T25 y271 0).f2) + 1), (rd_T25 y271 0).f3, (rd_T25 y271 0).f4⟩ : S25) ) (fun _ hk => hk); have hx59_2 := hcc59 2 _ rfl; (try simp only [show (k25).sz = 5 from rfl, Nat.mul_one, Nat.add_zero] at hx59_2); (try rw [show ((0 : Int)).toNat = 0 from rfl] at hx59_2); (try simp only [Nat.reduceMul, Nat.zero_mul, Nat.zero_add, Nat.reduceAdd] at hx59_2); have hf59_2 := hfr59 2; (try simp only [show (k25).sz = 5 from rfl, Nat.mul_one, Nat.add_zero] at hf59_2); (try rw [show ((0 : Int)).toNat = 0 from rfl] at hf59_2); (try simp only [Nat.reduceMul, Nat.zero_mul, Nat.zero_add, Nat.reduceAdd] at hf59_2); clear hcl59 hcc59 hfr59 hM59) | ((with_reducible refine gate_store (t := 3) (p := 97) rfl ?_); refine store_event (t := 3) (p := 97) (v := ?vo_w60) (w1 := (w56.setCell ⟨go49, 2, none⟩ (.int .i64 (wrap64 (((rd_T25 y271 0).f2) + 1))))) ?hg ?ho ?hn ?hr ?_; (case ho => rfl); (case hg => rfl); (case hn => rfl); (case hr => exact qq_); intro w60 hw; have hg : w56.grownBy w60 (some go49) := (by rw [hw]; exact HP59.2); have hp_ : Kd.R k25 25 w60 w.heap.size (fun k_ => k_ ≠ gb258) (.slice (some ⟨go49, 0, none⟩) y271.length co58) y275 := (by rw [hw, Ny275.out]; exact HP59.1); clear HP59; replace HO_61 := Aside0.mk (Kd.R_over' (v := (.slice (some ⟨go49, 0, none⟩) y271.length co58)) (qr_ HO_61) (Kd.R_typed HO273.out) (by decide) hg); replace BK257 := Aside0.mk (blk_grown (g := gb257) (o := .cells #[.int .i64 a0_0, .int .i64 a0_1, .int .i64 a0_2, .int .i64 a0_3] 23 (0, 0)) (qk_ BK257) hg (Kd.R_ne HO273.out BK257.out (by decide))); replace BK258 := Aside0.mk (blk_grown (g := gb258) (o := .cells #[.int .i64 a1_0, .int .i64 a1_1, .int .i64 a1_2, .int .i64 a1_3, .int .i64 a1_4] 25 (0, 0)) (qk_ BK258) hg (Kd.R_away HO273.out (fun _ hk => hk))); replace HO273 := Aside0.mk (hp_); replace HB := Aside0.mk ((by rw [hw]; exact below_set (HB.out) GB49.out : Below w.heap.size w w60)); clear hg hw hp_; have p276 : 0 ≤ (1 : Int) := (by omega); have q276 : 1 < (y275.length : Int) := (by have h_ : (1 : Int) < ((y271.length : Int) : Int) := of_decide_eq_true qa_; first | (have e_ := (Kd.R_reads' HO273.out).1; omega) | simpa only [Ny275.out, List.length_set] using h_); have ql276 : ((1 : Int) < ((y271.length : Int) : Int)) = True := eq_true (of_decide_eq_true qa_); (try have qn276 : (1 < y271.length) = True := eq_true (by have h_ : (1 : Int) < ((y271.length : Int) : Int) := of_decide_eq_true qa_; omega)); obtain ⟨ad276, e276, hx276_0, hx276_1, hx276_2, hx276_3, hx276_4⟩ := at_T25 (Kd.R_reads' HO273.out).2.2 1 p276 q276; obtain rfl : (⟨go49, 0, none⟩ : Addr) = ad276 := (by injection e276); (first | simp only [add_plain] at hx276_0 | simp only [add_at] at hx276_0 | simp only [Addr.add, Nat.zero_add] at hx276_0 | skip); (first | simp only [add_plain] at hx276_1 | simp only [add_at] at hx276_1 | simp only [Addr.add, Nat.zero_add] at hx276_1 | skip); (first | simp only [add_plain] at hx276_2 | simp only [add_at] at hx276_2 | simp only [Addr.add, Nat.zero_add] at hx276_2 | skip); (first | simp only [add_plain] at hx276_3 | simp only [add_at] at hx276_3 | simp only [Addr.add, Nat.zero_add] at hx276_3 | skip); (first | simp only [add_plain] at hx276_4 | simp only [add_at] at hx276_4 | simp only [Addr.add, Nat.zero_add] at hx276_4 | skip); have qi276 : (1 < y275.length) = True := eq_true (by omega); (try rw [show ((1 : Int)).toNat = 1 from rfl] at hx276_0); (try rw [show 1 * 5 = 5 from rfl] at hx276_0); (try rw [show ((1 : Int)).toNat = 1 from rfl] at hx276_1); (try rw [show 1 * 5 = 5 from rfl] at hx276_1); (try rw [show ((1 : Int)).toNat = 1 from rfl] at hx276_2); (try rw [show 1 * 5 = 5 from rfl] at hx276_2); (try rw [show ((1 : Int)).toNat = 1 from rfl] at hx276_3); (try rw [show 1 * 5 = 5 from rfl] at hx276_3); (try rw [show ((1 : Int)).toNat = 1 from rfl] at hx276_4); (try rw [show 1 * 5 = 5 from rfl] at hx276_4); replace p276 := eq_true p276; replace q276 := eq_true q276; have p51 : 0 ≤ (1 : Int) := (by omega); have q51 : (1 : Int) < ((y271.length : Int) : Int) := of_decide_eq_true qa_; have qi51 : (1 < y271.length) = True := eq_true (by omega); obtain ⟨ce51, hcl51, hM51, hcc51, hfr51⟩ := Kd.R_elem HO273.out z25 (1 : Int) p51 q51; obtain rfl := k25_openM hM51; have hx51_0 : w60.cell? ⟨go49, (1 : Int).toNat * 5, none⟩ = some (.int .i64 ((rd_T25 y275 1).f0)) := hcc51 0 _ rfl; have hx51_1 : w60.cell? ⟨go49, (1 : Int).toNat * 5 + 1, none⟩ = some (.int .i64 ((rd_T25 y275 1).f1)) := hcc51 1 _ rfl; have hx51_2 : w60.cell? ⟨go49, (1 : Int).toNat * 5 + 2, none⟩ = some (.int .i64 ((rd_T25 y275 1).f2)) := hcc51 2 _ rfl; have hx51_3 : w60.cell? ⟨go49, (1 : Int).toNat * 5 + 3, none⟩ = some (.int .i64 ((rd_T25 y275 1).f3)) := hcc51 3 _ rfl; have hx51_4 : w60.cell? ⟨go49, (1 : Int).toNat * 5 + 4, none⟩ = some (.int .i64 ((rd_T25 y275 1).f4)) := hcc51 4 _ rfl; have hf51_0 : w60.frozen? ⟨go49, (1 : Int).toNat * 5, none⟩ = false := hfr51 0; have hf51_1 : w60.frozen? ⟨go49, (1 : Int).toNat * 5 + 1, none⟩ = false := hfr51 1; have hf51_2 : w60.frozen? ⟨go49, (1 : Int).toNat * 5 + 2, none⟩ = false := hfr51 2; have hf51_3 : w60.frozen? ⟨go49, (1 : Int).toNat * 5 + 3, none⟩ = false := hfr51 3; have hf51_4 : w60.frozen? ⟨go49, (1 : Int).toNat * 5 + 4, none⟩ = false := hfr51 4; clear hcl51 hcc51 hfr51 hM51; (try rw [show ((1 : Int)).toNat = 1 from rfl] at hx51_0); (try simp only [Nat.reduceMul, Nat.zero_mul, Nat.zero_add, Nat.reduceAdd] at hx51_0); (try rw [show ((1 : Int)).toNat = 1 from rfl] at hf51_0); (try simp only [Nat.reduceMul, Nat.zero_mul, Nat.zero_add, Nat.reduceAdd] at hf51_0); (try rw [show ((1 : Int)).toNat = 1 from rfl] at hx51_1); (try simp only [Nat.reduceMul, Nat.zero_mul, Nat.zero_add, Nat.reduceAdd] at hx51_1); (try rw [show ((1 : Int)).toNat = 1 from rfl] at hf51_1); (try simp only [Nat.reduceMul, Nat.zero_mul, Nat.zero_add, Nat.reduceAdd] at hf51_1); (try rw [show ((1 : Int)).toNat = 1 from rfl] at hx51_2); (try simp only [Nat.reduceMul, Nat.zero_mul, Nat.zero_add, Nat.reduceAdd] at hx51_2); (try rw [show ((1 : Int)).toNat = 1 from rfl] at hf51_2); (try simp only [Nat.reduceMul, Nat.zero_mul, Nat.zero_add, Nat.reduceAdd] at hf51_2); (try rw [show ((1 : Int)).toNat = 1 from rfl] at hx51_3); (try simp only [Nat.reduceMul, Nat.zero_mul, Nat.zero_add, Nat.reduceAdd] at hx51_3); (try rw [show ((1 : Int)).toNat = 1 from rfl] at hf51_3); (try simp only [Nat.reduceMul, Nat.zero_mul, Nat.zero_add, Nat.reduceAdd] at hf51_3); (try rw [show ((1 : Int)).toNat = 1 from rfl] at hx51_4); (try simp only [Nat.reduceMul, Nat.zero_mul, Nat.zero_add, Nat.reduceAdd] at hx51_4); (try rw [show ((1 : Int)).toNat = 1 from rfl] at hf51_4); (try simp only [Nat.reduceMul, Nat.zero_mul, Nat.zero_add, Nat.reduceAdd] at hf51_4); replace p51 := eq_true p51; replace q51 := eq_true q51; have HX61 := Aside0.mk (show Kd.R k25 25 w60 w.heap.size (fun k_ => k_ ≠ gb258) (.slice (some ⟨go49, 0, none⟩) y271.length co58) y275 from (qr_ HO273)); obtain ⟨ce61, hcl61, hM61, hcc61, hfr61⟩ := Kd.R_elem HX61.out z25 (1 : Int) (by omega) (by have h_ : (1 : Int) < ((y271.length : Int) : Int) := of_decide_eq_true qa_; first | exact h_ | (have e_ := (Kd.R_reads' HO273.out).1; omega) | simpa using h_); obtain rfl := k25_openM hM61; have HP61 := Kd.R_seg HX61.out (1 : Int) (by omega) (by have h_ : (1 : Int) < ((y271.length : Int) : Int) := of_decide_eq_true qa_; first | exact h_ | (have e_ := (Kd.R_reads' HO273.out).1; omega) | simpa using h_) (seg := [.int .i64 (wrap64 (((rd_T25 y275 1).f3) + 1))]) (j := 3) hcl61 hcc61 (show 4 ≤ 5 from by decide) (x' := (⟨(rd_T25 y275 1).f0, (rd_T25 y275 1).f1, (rd_T25 y275 1).f2, wrap64 (((rd_T25 y275 1).f3) + 1), (rd_T25 y275 1).f4⟩ : S25)) (k25_mkM _ _ _ (⟨(rd_T25 y275 1).f0, (rd_T25 y275 1).f1, (rd_T25 y275 1).f2, wrap64 (((rd_T25 y275 1).f3) + 1), (rd_T25 y275 1).f4⟩ : S25) ) (fun _ hk => hk); have hx61_3 := hcc61 3 _ rfl; (try simp only [show (k25).sz = 5 from rfl, Nat.mul_one, Nat.add_zero] at hx61_3); (try rw [show ((1 : Int)).toNat = 1 from rfl] at hx61_3); (try simp only [Nat.reduceMul, Nat.zero_mul, Nat.zero_add, Nat.reduceAdd] at hx61_3); have hf61_3 := hfr61 3; (try simp only [show (k25).sz = 5 from rfl, Nat.mul_one, Nat.add_zero] at hf61_3); (try rw [show ((1 : Int)).toNat = 1 from rfl] at hf61_3); (try simp only [Nat.reduceMul, Nat.zero_mul, Nat.zero_add, Nat.reduceAdd] at hf61_3); clear hcl61 hcc61 hfr61 hM61) | ((with_reducible refine gate_store (t := 3) (p := 104) rfl ?_); refine store_event (t := 3) (p := 104) (v := ?vo_w62) (w1 := (w60.setCell ⟨go49, 8, none⟩ (.int .i64 (wrap64 (((rd_T25 y275 1).f3) + 1))))) ?hg ?ho ?hn ?hr ?_; (case ho => rfl); (case hg => rfl); (case hn => rfl); (case hr => exact qq_); intro w62 hw; have hg : w60.grownBy w62 (some go49) := (by rw [hw]; exact HP61.2); have hp_ : Kd.R k25 25 w62 w.heap.size (fun k_ => k_ ≠ gb258) (.slice (some ⟨go49, 0, none⟩) y271.length co58) y277 := (by rw [hw, Ny277.out]; exact HP61.1); clear HP61; replace HO_61 := Aside0.mk (Kd.R_over' (v := (.slice (some ⟨go49, 0, none⟩) y271.length co58)) (qr_ HO_61) (Kd.R_typed HO273.out) (by decide) hg); replace BK257 := Aside0.mk (blk_grown (g := gb257) (o := .cells #[.int .i64 a0_0, .int .i64 a0_1, .int .i64 a0_2, .int .i64 a0_3] 23 (0, 0)) (qk_ BK257) hg (Kd.R_ne HO273.out BK257.out (by decide))); replace BK258 := Aside0.mk (blk_grown (g := gb258) (o := .cells #[.int .i64 a1_0, .int .i64 a1_1, .int .i64 a1_2, .int .i64 a1_3, .int .i64 a1_4] 25 (0, 0)) (qk_ BK258) hg (Kd.R_away HO273.out (fun _ hk => hk))); replace HO273 := Aside0.mk (hp_); replace HB := Aside0.mk ((by rw [hw]; exact below_set (HB.out) GB49.out : Below w.heap.size w w62)); clear hg hw hp_; have p278 : 0 ≤ (2 : Int) := (by omega); have q278 : 2 < (y277.length : Int) := (by have h_ : (2 : Int) < ((y271.length : Int) : Int) := of_decide_eq_true qa_; first | (have e_ := (Kd.R_reads' HO273.out).1; omega) | simpa only [Ny275.out, Ny277.out, List.length_set] using h_); have ql278 : ((2 : Int) < ((y271.length : Int) : Int)) = True := eq_true (of_decide_eq_true qa_); (try have qn278 : (2 < y271.length) = True := eq_true (by have h_ : (2 : Int) < ((y271.length : Int) : Int) := of_decide_eq_true qa_; omega)); obtain ⟨ad278, e278, hx278_0, hx278_1, hx278_2, hx278_3, hx278_4⟩ := at_T25 (Kd.R_reads' HO273.out).2.2 2 p278 q278; obtain rfl : (⟨go49, 0, none⟩ : Addr) = ad278 := (by injection e278); (first | simp only [add_plain] at hx278_0 | simp only [add_at] at hx278_0 | simp only [Addr.add, Nat.zero_add] at hx278_0 | skip); (first | simp only [add_plain] at hx278_1 | simp only [add_at] at hx278_1 | simp only [Addr.add, Nat.zero_add] at hx278_1 | skip); (first | simp only [add_plain] at hx278_2 | simp only [add_at] at hx278_2 | simp only [Addr.add, Nat.zero_add] at hx278_2 | skip); (first | simp only [add_plain] at hx278_3 | simp only [add_at] at hx278_3 | simp only [Addr.add, Nat.zero_add] at hx278_3 | skip); (first | simp only [add_plain] at hx278_4 | simp only [add_at] at hx278_4 | simp only [Addr.add, Nat.zero_add] at hx278_4 | skip); have qi278 : (2 < y277.length) = True := eq_true (by omega); (try rw [show ((2 : Int)).toNat = 2 from rfl] at hx278_0); (try rw [show 2 * 5 = 10 from rfl] at hx278_0); (try rw [show ((2 : Int)).toNat = 2 from rfl] at hx278_1); (try rw [show 2 * 5 = 10 from rfl] at hx278_1); (try rw [show ((2 : Int)).toNat = 2 from rfl] at hx278_2); (try rw [show 2 * 5 = 10 from rfl] at hx278_2); (try rw [show ((2 : Int)).toNat = 2 from rfl] at hx278_3); (try rw [show 2 * 5 = 10 from rfl] at hx278_3); (try rw [show ((2 : Int)).toNat = 2 from rfl] at hx278_4); (try rw [show 2 * 5 = 10 from rfl] at hx278_4); replace p278 := eq_true p278; replace q278 := eq_true q278; have p53 : 0 ≤ (2 : Int) := (by omega); have q53 : (2 : Int) < ((y271.length : Int) : Int) := of_decide_eq_true qa_; have qi53 : (2 < y271.length) = True := eq_true (by omega); obtain ⟨ce53, hcl53, hM53, hcc53, hfr53⟩ := Kd.R_elem HO273.out z25 (2 : Int) p53 q53; obtain rfl := k25_openM hM53; have hx53_0 : w62.cell? ⟨go49, (2 : Int).toNat * 5, none⟩ = some (.int .i64 ((rd_T25 y277 2).f0)) := hcc53 0 _ rfl; have hx53_1 : w62.cell? ⟨go49, (2 : Int).toNat * 5 + 1, none⟩ = some (.int .i64 ((rd_T25 y277 2).f1)) := hcc53 1 _ rfl; have hx53_2 : w62.cell? ⟨go49, (2 : Int).toNat * 5 + 2, none⟩ = some (.int .i64 ((rd_T25 y277 2).f2)) := hcc53 2 _ rfl; have hx53_3 : w62.cell? ⟨go49, (2 : Int).toNat * 5 + 3, none⟩ = some (.int .i64 ((rd_T25 y277 2).f3)) := hcc53 3 _ rfl; have hx53_4 : w62.cell? ⟨go49, (2 : Int).toNat * 5 + 4, none⟩ = some (.int .i64 ((rd_T25 y277 2).f4)) := hcc53 4 _ rfl; have hf53_0 : w62.frozen? ⟨go49, (2 : Int).toNat * 5, none⟩ = false := hfr53 0; have hf53_1 : w62.frozen? ⟨go49, (2 : Int).toNat * 5 + 1, none⟩ = false := hfr53 1; have hf53_2 : w62.frozen? ⟨go49, (2 : Int).toNat * 5 + 2, none⟩ = false := hfr53 2; have hf53_3 : w62.frozen? ⟨go49, (2 : Int).toNat * 5 + 3, none⟩ = false := hfr53 3; have hf53_4 : w62.frozen? ⟨go49, (2 : Int).toNat * 5 + 4, none⟩ = false := hfr53 4; clear hcl53 hcc53 hfr53 hM53; (try rw [show ((2 : Int)).toNat = 2 from rfl] at hx53_0); (try simp only [Nat.reduceMul, Nat.zero_mul, Nat.zero_add, Nat.reduceAdd] at hx53_0); (try rw [show ((2 : Int)).toNat = 2 from rfl] at hf53_0); (try simp only [Nat.reduceMul, Nat.zero_mul, Nat.zero_add, Nat.reduceAdd] at hf53_0); (try rw [show ((2 : Int)).toNat = 2 from rfl] at hx53_1); (try simp only [Nat.reduceMul, Nat.zero_mul, Nat.zero_add, Nat.reduceAdd] at hx53_1); (try rw [show ((2 : Int)).toNat = 2 from rfl] at hf53_1); (try simp only [Nat.reduceMul, Nat.zero_mul, Nat.zero_add, Nat.reduceAdd] at hf53_1); (try rw [show ((2 : Int)).toNat = 2 from rfl] at hx53_2); (try simp only [Nat.reduceMul, Nat.zero_mul, Nat.zero_add, Nat.reduceAdd] at hx53_2); (try rw [show ((2 : Int)).toNat = 2 from rfl] at hf53_2); (try simp only [Nat.reduceMul, Nat.zero_mul, Nat.zero_add, Nat.reduceAdd] at hf53_2); (try rw [show ((2 : Int)).toNat = 2 from rfl] at hx53_3); (try simp only [Nat.reduceMul, Nat.zero_mul, Nat.zero_add, Nat.reduceAdd] at hx53_3); (try rw [show ((2 : Int)).toNat = 2 from rfl] at hf53_3); (try simp only [Nat.reduceMul, Nat.zero_mul, Nat.zero_add, Nat.reduceAdd] at hf53_3); (try rw [show ((2 : Int)).toNat = 2 from rfl] at hx53_4); (try simp only [Nat.reduceMul, Nat.zero_mul, Nat.zero_add, Nat.reduceAdd] at hx53_4); (try rw [show ((2 : Int)).toNat = 2 from rfl] at hf53_4); (try simp only [Nat.reduceMul, Nat.zero_mul, Nat.zero_add, Nat.reduceAdd] at hf53_4); replace p53 := eq_true p53; replace q53 := eq_true q53; have HX63 := Aside0.mk (show Kd.R k25 25 w62 w.heap.size (fun k_ => k_ ≠ gb258) (.slice (some ⟨go49, 0, none⟩) y271.length co58) y277 from (qr_ HO273)); obtain ⟨ce63, hcl63, hM63, hcc63, hfr63⟩ := Kd.R_elem HX63.out z25 (2 : Int) (by omega) (by have h_ : (2 : Int) < ((y271.length : Int) : Int) := of_decide_eq_true qa_; first | exact h_ | (have e_ := (Kd.R_reads' HO273.out).1; omega) | simpa using h_); obtain rfl := k25_openM hM63; have HP63 := Kd.R_seg HX63.out (2 : Int) (by omega) (by have h_ : (2 : Int) < ((y271.length : Int) : Int) := of_decide_eq_true qa_; first | exact h_ | (have e_ := (Kd.R_reads' HO273.out).1; omega) | simpa using h_) (seg := [.int .i64 (wrap64 (((rd_T25 y277 2).f4) + 1))]) (j := 4) hcl63 hcc63 (show 5 ≤ 5 from by decide) (x' := (⟨(rd_T25 y277 2).f0, (rd_T25 y277 2).f1, (rd_T25 y277 2).f2, (rd_T25 y277 2).f3, wrap64 (((rd_T25 y277 2).f4) + 1)⟩ : S25)) (k25_mkM _ _ _ (⟨(rd_T25 y277 2).f0, (rd_T25 y277 2).f1, (rd_T25 y277 2).f2, (rd_T25 y277 2).f3, wrap64 (((rd_T25 y277 2).f4) + 1)⟩ : S25) ) (fun _ hk => hk); have hx63_4 := hcc63 4 _ rfl; (try simp only [show (k25).sz = 5 from rfl, Nat.mul_one, Nat.add_zero] at hx63_4); (try rw [show ((2 : Int)).toNat = 2 from rfl] at hx63_4); (try simp only [Nat.reduceMul, Nat.zero_mul, Nat.zero_add, Nat.reduceAdd] at hx63_4); have hf63_4 := hfr63 4; (try simp only [show (k25).sz = 5 from rfl, Nat.mul_one, Nat.add_zero] at hf63_4); (try rw [show ((2 : Int)).toNat = 2 from rfl] at hf63_4); (try simp only [Nat.reduceMul, Nat.zero_mul, Nat.zero_add, Nat.reduceAdd] at hf63_4); clear hcl63 hcc63 hfr63 hM63) | ((with_reducible refine gate_store (t := 3) (p := 111) rfl ?_); refine store_event (t := 3) (p := 111) (v := ?vo_w64) (w1 := (w62.setCell ⟨go49, 14, none⟩ (.int .i64 (wrap64 (((rd_T25 y277 2).f4) + 1))))) ?hg ?ho ?hn ?hr ?_; (case ho => rfl); (case hg => rfl); (case hn => rfl); (case hr => exact qq_); intro w64 hw; have hg : w62.grownBy w64 (some go49) := (by rw [hw]; exact HP63.2); have hp_ : Kd.R k25 25 w64 w.heap.size (fun k_ => k_ ≠ gb258) (.slice (some ⟨go49, 0, none⟩) y271.length co58) y279 := (by rw [hw, Ny279.out]; exact HP63.1); clear HP63; replace HO_61 := Aside0.mk (Kd.R_over' (v := (.slice (some ⟨go49, 0, none⟩) y271.length co58)) (qr_ HO_61) (Kd.R_typed HO273.out) (by decide) hg); replace BK257 := Aside0.mk (blk_grown (g := gb257) (o := .cells #[.int .i64 a0_0, .int .i64 a0_1, .int .i64 a0_2, .int .i64 a0_3] 23 (0, 0)) (qk_ BK257) hg (Kd.R_ne HO273.out BK257.out (by decide))); replace BK258 := Aside0.mk (blk_grown (g := gb258) (o := .cells #[.int .i64 a1_0, .int .i64 a1_1, .int .i64 a1_2, .int .i64 a1_3, .int .i64 a1_4] 25 (0, 0)) (qk_ BK258) hg (Kd.R_away HO273.out (fun _ hk => hk))); replace HO273 := Aside0.mk (hp_); replace HB := Aside0.mk ((by rw [hw]; exact below_set (HB.out) GB49.out : Below w.heap.size w w64)); clear hg hw hp_; obtain ⟨hcz65_0, hcz65_1, hcz65_2, hcz65_3⟩ := qz4_ BK257; obtain ⟨hfz65_0, hfz65_1, hfz65_2, hfz65_3⟩ := qf4_ BK257) | ((with_reducible refine gate_dst (N := 118) rfl ?_); refine Kd.R_lit (Kd.int .i64) _ 3 ?hg (N := 118) ?hd (xs := ([a0_1, a0_2, a0_3] : List Int)) (inner := [.int .i64 a0_1, .int .i64 a0_2, .int .i64 a0_3]) (ok := fun _ => True) (okp := fun _ => True) ?hr ?hp (fun _ hk => hk) trivial (Below.refl _ _) (Nat.le_refl _) (by simp) ?_; (case hd => rfl); (case hg => rfl); (case hr => exact qq_); (case hp => exact (Reps.one (show Kd.M (Kd.int .i64) _ _ _ a0_1 [.int .i64 a0_1] from rfl) (Reps.one (show Kd.M (Kd.int .i64) _ _ _ a0_2 [.int .i64 a0_2] from rfl) (Reps.one (show Kd.M (Kd.int .i64) _ _ _ a0_3 [.int .i64 a0_3] from rfl) (Reps.none _ _))))); intro v281 w66 ho67 hb hg_ hnew_; clear hg_ hnew_; (first | rw [← Ny280.out] at ho67 | (simp only [Int.reduceToNat] at ho67; rw [← Ny280.out] at ho67)); replace HO_61 := qrb_ HO_61 hb; replace HO273 := qrb_ HO273 hb; have HO282 := Aside0.mk (Kd.R_lower ho67 (below_size qb_)); replace BK257 := qkb_ BK257 hb; replace BK258 := qkb_ BK258 hb; replace HB := qbs_ hb; clear hb ho67))
                go_loopg [121] k1 (fun kq v121 w' => ∃ (x121_2 : Int), v121 = .int .i64 x121_2 ∧ Aside0 (cohousinglaw21_PointsParts.l1 kq a2 x7_1 t260 t262 t263 x12_1 y280 y279 (y271.length : Int) x121_2 a0_0 a0_1 a0_2 a0_3 = some r) ∧ Aside0 (kq ≤ k1) ∧ Aside0 (Kd.R (Kd.int .i64) 3 w' w.heap.size (fun _ => True) v281 y280) ∧ Aside0 (Kd.R k25 25 w' w.heap.size (fun k_ => k_ ≠ gb258) (.slice (some ⟨go49, 0, none⟩) y271.length co58) y279) ∧ Aside0 (w'.heap[gb257]? = some (.cells #[.int .i64 a0_0, .int .i64 a0_1, .int .i64 a0_2, .int .i64 a0_3] 23 (0, 0))) ∧ Aside0 (w'.heap[gb258]? = some (.cells #[.int .i64 a1_0, .int .i64 a1_1, .int .i64 a1_2, .int .i64 a1_3, .int .i64 a1_4] 25 (0, 0))) ∧ Aside0 (Below w.heap.size w w'))
                case atStart => exact ⟨(0), qs_, H', ⟨Nat.le_refl _⟩, ⟨by (with_reducible repeat (first | apply Kd.R_alloc | apply Kd.R_drewN | apply Kd.R_drew)); exact HO282.out⟩, ⟨by (with_reducible repeat (first | apply Kd.R_alloc | apply Kd.R_drewN | apply Kd.R_drew)); exact HO273.out⟩, ⟨qk_ BK257⟩, ⟨qk_ BK258⟩, ⟨qb_⟩⟩
                case round =>
                  clear H'
                  try clear c1
                  try clear c2
                  try clear p2
                  try clear q2
                  try clear hx2
                  try clear qi2
                  try clear c3
                  try clear c4
                  try clear p4
                  try clear q4
                  try clear hx4
                  try clear qi4
                  try clear hf4
                  try clear c5
                  try clear p5
                  try clear q5
                  try clear hx5
                  try clear qi5
                  try clear hf5
                  try clear c6
                  try clear p6
                  try clear hx6
                  try clear hf6
                  try clear c7
                  try clear c7b0
                  try clear c7b1
                  try clear c10
                  try clear c11
                  try clear c21
                  try clear c21b0
                  try clear c22
                  try clear c22b0
                  try clear c23
                  try clear c23b0
                  try clear c25
                  try clear c26
                  try clear c26b0
                  try clear c26b1
                  try clear p26
                  try clear q26
                  try clear hx26
                  try clear p27
                  try clear q27
                  try clear hx27
                  try clear qi27
                  try clear c28
                  try clear c29
                  try clear c31
                  try clear c35
                  try clear c36
                  try clear c38
                  try clear c42
                  try clear c43
                  try clear c45
                  try clear c48
                  try clear c48b0
                  try clear c48b1
                  try clear c49
                  try clear p49
                  try clear q49
                  try clear hx49
                  try clear qi49
                  try clear hf49
                  try clear c50
                  try clear c50b0
                  try clear c50b1
                  try clear c51
                  try clear p51
                  try clear q51
                  try clear hx51
                  try clear qi51
                  try clear hf51
                  try clear c52
                  try clear c52b0
                  try clear c52b1
                  try clear c53
                  try clear p53
                  try clear q53
                  try clear hx53
                  try clear qi53
                  try clear hf53
                  try clear c54
                  try clear c59
                  try clear hx59
                  try clear hf59
                  try clear c61
                  try clear hx61
                  try clear hf61
                  try clear c63
                  try clear hx63
                  try clear hf63
                  try clear p64
                  try clear hcz12_0 hcz12_1 hcz12_2 hcz12_3
                  try clear hcz13_0 hcz13_1 hcz13_2 hcz13_3 hcz13_4
                  try clear hcz15_0 hcz15_1 hcz15_2 hcz15_3 hcz15_4
                  try clear hcz17_0 hcz17_1 hcz17_2 hcz17_3
                  try clear hcz30_0 hcz30_1 hcz30_2 hcz30_3
                  try clear hcz32_0 hcz32_1 hcz32_2 hcz32_3 hcz32_4
                  try clear hcz37_0 hcz37_1 hcz37_2 hcz37_3
                  try clear hcz39_0 hcz39_1 hcz39_2 hcz39_3 hcz39_4
                  try clear hcz44_0 hcz44_1 hcz44_2 hcz44_3
                  try clear hcz46_0 hcz46_1 hcz46_2 hcz46_3 hcz46_4
                  try clear hcz55_0 hcz55_1 hcz55_2 hcz55_3 hcz55_4
                  try clear hcz65_0 hcz65_1 hcz65_2 hcz65_3
                  try clear hfz12_0 hfz12_1 hfz12_2 hfz12_3
                  try clear hfz13_0 hfz13_1 hfz13_2 hfz13_3 hfz13_4
                  try clear hfz15_0 hfz15_1 hfz15_2 hfz15_3 hfz15_4
                  try clear hfz17_0 hfz17_1 hfz17_2 hfz17_3
                  try clear hfz30_0 hfz30_1 hfz30_2 hfz30_3
                  try clear hfz32_0 hfz32_1 hfz32_2 hfz32_3 hfz32_4
                  try clear hfz37_0 hfz37_1 hfz37_2 hfz37_3
                  try clear hfz39_0 hfz39_1 hfz39_2 hfz39_3 hfz39_4
                  try clear hfz44_0 hfz44_1 hfz44_2 hfz44_3
                  try clear hfz46_0 hfz46_1 hfz46_2 hfz46_3 hfz46_4
                  try clear hfz55_0 hfz55_1 hfz55_2 hfz55_3 hfz55_4
                  try clear hfz65_0 hfz65_1 hfz65_2 hfz65_3
                  try clear hx267_0
                  try clear hx267_1
                  try clear hx267_2
                  try clear hx267_3
                  try clear hx274_0
                  try clear hx274_1
                  try clear hx274_2
                  try clear hx274_3
                  try clear hx274_4
                  try clear hx276_0
                  try clear hx276_1
                  try clear hx276_2
                  try clear hx276_3
                  try clear hx276_4
                  try clear hx278_0
                  try clear hx278_1
                  try clear hx278_2
                  try clear hx278_3
                  try clear hx278_4
                  try clear hx49_0
                  try clear hx49_1
                  try clear hx49_2
                  try clear hx49_3
                  try clear hx49_4
                  try clear hx51_0
                  try clear hx51_1
                  try clear hx51_2
                  try clear hx51_3
                  try clear hx51_4
                  try clear hx53_0
                  try clear hx53_1
                  try clear hx53_2
                  try clear hx53_3
                  try clear hx53_4
                  try clear hx59_2
                  try clear hx61_3
                  try clear hx63_4
                  try clear p2
                  try clear p267
                  try clear p274
                  try clear p276
                  try clear p278
                  try clear p49
                  try clear p51
                  try clear p53
                  try clear q267
                  try clear q274
                  try clear q276
                  try clear q278
                  try clear q49
                  try clear q51
                  try clear q53
                  obtain ⟨x121_2, rfl, HA, HK2, HO_18, HO_119, BK257, BK258, HB⟩ := hrel
                  have hl119_2 := (Kd.R_reads' HO_119.out).1
                  rw [hl119_2] at HO_119
                  (try simp only [hl119_2])
                  (try simp only [hl119_2] at BK257)
                  (try simp only [hl119_2] at BK258)
                  (try simp only [hl119_2] at HO_18)
                  cases gk with
                  | zero => exact absurd HA.out (by simp [cohousinglaw21_PointsParts.l1])
                  | succ k2 =>
                    have H := HA.out
                    clear HA
                    simp only [cohousinglaw21_PointsParts.l1] at H
                    by_cases c68 : x121_2 < (y271.length : Int)
                    · rw [if_pos c68] at H
                      have c68b0 : decide (x121_2 < (y271.length : Int)) = true := decide_eq_true c68
                      clear c68
                      by_cases c69 : 0 ≤ x121_2
                      · rw [if_pos c69] at H
                        have c69b0 : decide (0 ≤ x121_2) = true := decide_eq_true c69
                        clear c69
                        by_cases c70 : x121_2 < (y279.length : Int)
                        · rw [if_pos c70] at H
                          have c70b0 : decide (x121_2 < (y279.length : Int)) = true := decide_eq_true c70
                          clear c70
                          replace H := Option.bind_eq_some_iff.mp H
                          obtain ⟨⟨t285, t286⟩, A710, H⟩ := H
                          replace H : (if t286 = 0 then (if x121_2 < (y280.length : Int) then (if t285 = (wrap64 (t260 + (rd y280 x121_2))) then (cohousinglaw21_PointsParts.j2 k2 a2 x7_1 t260 t262 t263 x12_1 y280 y279 (y271.length : Int) x121_2 false a0_0 a0_1 a0_2 a0_3) else (cohousinglaw21_PointsParts.j2 k2 a2 x7_1 t260 t262 t263 x12_1 y280 y279 (y271.length : Int) x121_2 true a0_0 a0_1 a0_2 a0_3)) else (none)) else ((cohousingref21_Wait.f ((rd_T25 y279 x121_2).f0) ((rd_T25 y279 x121_2).f1) ((rd_T25 y279 x121_2).f2) ((rd_T25 y279 x121_2).f3) ((rd_T25 y279 x121_2).f4)).bind fun t288 => (if t288 = true then (if x121_2 < (y280.length : Int) then (cohousinglaw21_PointsParts.j2 k2 a2 x7_1 t260 t262 t263 x12_1 y280 y279 (y271.length : Int) x121_2 (decide ((wrap64 (t260 + (rd y280 x121_2))) ≤ 1000000000)) a0_0 a0_1 a0_2 a0_3) else (none)) else (cohousinglaw21_PointsParts.j2 k2 a2 x7_1 t260 t262 t263 x12_1 y280 y279 (y271.length : Int) x121_2 false a0_0 a0_1 a0_2 a0_3)))) = some r := H
                          have A71 := Aside0.mk A710
                          clear A710
                          have HC72 := Aside0.mk H
                          clear H
                          have p283 : 0 ≤ (x121_2 : Int) := of_decide_eq_true qa_
                          have q283 : x121_2 < (y279.length : Int) := of_decide_eq_true qa_
                          obtain ⟨ad283, e283, hx283_0, hx283_1, hx283_2, hx283_3, hx283_4⟩ := at_T25 (Kd.R_reads' HO_119.out).2.2 x121_2 p283 q283
                          obtain rfl : (⟨go49, 0, none⟩ : Addr) = ad283 := (by injection e283)
                          (first | simp only [add_plain] at hx283_0 | simp only [add_at] at hx283_0 | simp only [Addr.add, Nat.zero_add] at hx283_0 | skip)
                          (first | simp only [add_plain] at hx283_1 | simp only [add_at] at hx283_1 | simp only [Addr.add, Nat.zero_add] at hx283_1 | skip)
                          (first | simp only [add_plain] at hx283_2 | simp only [add_at] at hx283_2 | simp only [Addr.add, Nat.zero_add] at hx283_2 | skip)
                          (first | simp only [add_plain] at hx283_3 | simp only [add_at] at hx283_3 | simp only [Addr.add, Nat.zero_add] at hx283_3 | skip)
                          (first | simp only [add_plain] at hx283_4 | simp only [add_at] at hx283_4 | simp only [Addr.add, Nat.zero_add] at hx283_4 | skip)
                          replace p283 := eq_true p283
                          replace q283 := eq_true q283
                          go_upto_region 23 with (first | ((with_reducible refine gate_dst (N := 20) rfl ?_); refine qev_ 20 #[.int .i64 0, .int .i64 0, .int .i64 0, .int .i64 0, .int .i64 0] 25 ?_; intro gb284 hg w73 hbox hb; replace HO_18 := qrb_ HO_18 hb; replace HO_119 := Aside0.mk (Kd.R_below (Kd.R_elderB (qr_ HO_119) gb284 (Nat.le_of_eq hg.symm)) hb); have BK284 := Aside0.mk (hbox); have GW284 := qga_ hg; have GE284 := qga_ hg; replace HB := qbs_ hb; have NB257_284 := Aside0.mk ((by rw [hg]; exact Nat.ne_of_lt (blk_lt (qk_ BK257)) : gb257 ≠ gb284)); have NB284_257 := Aside0.mk ((by rw [hg]; exact Nat.ne_of_gt (blk_lt (qk_ BK257)) : gb284 ≠ gb257)); replace BK257 := qkb_ BK257 hb; have NB258_284 := Aside0.mk ((by rw [hg]; exact Nat.ne_of_lt (blk_lt (qk_ BK258)) : gb258 ≠ gb284)); have NB284_258 := Aside0.mk ((by rw [hg]; exact Nat.ne_of_gt (blk_lt (qk_ BK258)) : gb284 ≠ gb258)); replace BK258 := qkb_ BK258 hb; clear hb hbox hg; have hnb74 := NB284_257.out; have hnc74 := NB257_284.out; have hnb75 := NB284_258.out; have hnc75 := NB258_284.out; obtain ⟨hcz76_0, hcz76_1, hcz76_2, hcz76_3, hcz76_4⟩ := qz5_ BK284; obtain ⟨hfz76_0, hfz76_1, hfz76_2, hfz76_3, hfz76_4⟩ := qf5_ BK284; have hnb77 := NB257_258.out; have hnc77 := NB258_257.out; obtain ⟨hcz78_0, hcz78_1, hcz78_2, hcz78_3⟩ := qz4_ BK257; obtain ⟨hfz78_0, hfz78_1, hfz78_2, hfz78_3⟩ := qf4_ BK257) | ((with_reducible refine gate_callee (f := 11) rfl ?_); refine goesL_ (some 130) rfl rfl Tryd.func11 (by kernel_rfl) rfl #[.agg #[.int .i64 a0_0, .int .i64 a0_1, .int .i64 a0_2, .int .i64 a0_3], .agg #[.int .i64 ((rd_T25 y279 x121_2).f0), .int .i64 ((rd_T25 y279 x121_2).f1), .int .i64 ((rd_T25 y279 x121_2).f2), .int .i64 ((rd_T25 y279 x121_2).f3), .int .i64 ((rd_T25 y279 x121_2).f4)], .int .i64 a2] rfl ql_ ?_; (with_reducible refine (points_Count.calls k2 a0_0 a0_1 a0_2 a0_3 ((rd_T25 y279 x121_2).f0) ((rd_T25 y279 x121_2).f1) ((rd_T25 y279 x121_2).f2) ((rd_T25 y279 x121_2).f3) ((rd_T25 y279 x121_2).f4) a2 t285 t286 _ ?side1 A71.out).mono ?_); (case side1 => exact TabOK.below HTA.out qb_); rintro e w79 ⟨rfl, hb⟩; refine ⟨_, rfl, ?_⟩; replace HO_18 := Aside0.mk (Kd.R_below (by (with_reducible repeat (first | apply Kd.R_alloc | apply Kd.R_drewN | apply Kd.R_drew)); exact (Kd.R_mono (Kd.R_far (p := ⟨gb284, 4, none⟩) (Kd.R_far (p := ⟨gb284, 3, none⟩) (Kd.R_far (p := ⟨gb284, 2, none⟩) (Kd.R_far (p := ⟨gb284, 1, none⟩) (Kd.R_far (p := ⟨gb284, 0, none⟩) (Kd.R_types HO_18.out BK284.out (by decide)) (fun _ hk => hk.2) (.int .i64 ((rd_T25 y279 x121_2).f0))) (fun _ hk => hk.2) (.int .i64 ((rd_T25 y279 x121_2).f1))) (fun _ hk => hk.2) (.int .i64 ((rd_T25 y279 x121_2).f2))) (fun _ hk => hk.2) (.int .i64 ((rd_T25 y279 x121_2).f3))) (fun _ hk => hk.2) (.int .i64 ((rd_T25 y279 x121_2).f4))) (fun _ h_ => h_.1))) hb); replace HO_119 := Aside0.mk (Kd.R_below (by (with_reducible repeat (first | apply Kd.R_alloc | apply Kd.R_drewN | apply Kd.R_drew)); exact (Kd.R_mono (Kd.R_far (p := ⟨gb284, 4, none⟩) (Kd.R_far (p := ⟨gb284, 3, none⟩) (Kd.R_far (p := ⟨gb284, 2, none⟩) (Kd.R_far (p := ⟨gb284, 1, none⟩) (Kd.R_far (p := ⟨gb284, 0, none⟩) (Kd.R_mono HO_119.out (fun k_ hk => (⟨hk, hk.2⟩ : _ ∧ k_ ≠ gb284))) (fun _ hk => hk.2) (.int .i64 ((rd_T25 y279 x121_2).f0))) (fun _ hk => hk.2) (.int .i64 ((rd_T25 y279 x121_2).f1))) (fun _ hk => hk.2) (.int .i64 ((rd_T25 y279 x121_2).f2))) (fun _ hk => hk.2) (.int .i64 ((rd_T25 y279 x121_2).f3))) (fun _ hk => hk.2) (.int .i64 ((rd_T25 y279 x121_2).f4))) (fun _ h_ => h_.1))) hb); replace BK257 := Aside0.mk (blk_below (g := gb257) (o := .cells #[.int .i64 a0_0, .int .i64 a0_1, .int .i64 a0_2, .int .i64 a0_3] 23 (0, 0)) (by refine qd_ ?_; refine blk_far ?_ NB257_284.out _; refine qd_ ?_; refine blk_far ?_ NB257_284.out _; refine qd_ ?_; refine blk_far ?_ NB257_284.out _; refine qd_ ?_; refine blk_far ?_ NB257_284.out _; refine qd_ ?_; refine blk_far ?_ NB257_284.out _; refine qd_ ?_; exact BK257.out) hb); replace BK258 := Aside0.mk (blk_below (g := gb258) (o := .cells #[.int .i64 a1_0, .int .i64 a1_1, .int .i64 a1_2, .int .i64 a1_3, .int .i64 a1_4] 25 (0, 0)) (by refine qd_ ?_; refine blk_far ?_ NB258_284.out _; refine qd_ ?_; refine blk_far ?_ NB258_284.out _; refine qd_ ?_; refine blk_far ?_ NB258_284.out _; refine qd_ ?_; refine blk_far ?_ NB258_284.out _; refine qd_ ?_; refine blk_far ?_ NB258_284.out _; refine qd_ ?_; exact BK258.out) hb); replace BK284 := Aside0.mk (blk_below (g := gb284) (o := .cells #[.int .i64 ((rd_T25 y279 x121_2).f0), .int .i64 ((rd_T25 y279 x121_2).f1), .int .i64 ((rd_T25 y279 x121_2).f2), .int .i64 ((rd_T25 y279 x121_2).f3), .int .i64 ((rd_T25 y279 x121_2).f4)] 25 (0, 0)) (by refine qd_ ?_; refine blk_put (cs := #[.int .i64 ((rd_T25 y279 x121_2).f0), .int .i64 ((rd_T25 y279 x121_2).f1), .int .i64 ((rd_T25 y279 x121_2).f2), .int .i64 ((rd_T25 y279 x121_2).f3), .int .i64 0]) ?_ 4 _ rfl; refine qd_ ?_; refine blk_put (cs := #[.int .i64 ((rd_T25 y279 x121_2).f0), .int .i64 ((rd_T25 y279 x121_2).f1), .int .i64 ((rd_T25 y279 x121_2).f2), .int .i64 0, .int .i64 0]) ?_ 3 _ rfl; refine qd_ ?_; refine blk_put (cs := #[.int .i64 ((rd_T25 y279 x121_2).f0), .int .i64 ((rd_T25 y279 x121_2).f1), .int .i64 0, .int .i64 0, .int .i64 0]) ?_ 2 _ rfl; refine qd_ ?_; refine blk_put (cs := #[.int .i64 ((rd_T25 y279 x121_2).f0), .int .i64 0, .int .i64 0, .int .i64 0, .int .i64 0]) ?_ 1 _ rfl; refine qd_ ?_; refine blk_put (cs := #[.int .i64 0, .int .i64 0, .int .i64 0, .int .i64 0, .int .i64 0]) ?_ 0 _ rfl; refine qd_ ?_; exact BK284.out) hb); replace HB := qbs_ hb; (try clear hb); (try clear hb2); (try clear hk); (try clear hi)))
                          (try simp only [Act.put, List.setIfInBounds_toArray, List.set_cons_zero, List.set_cons_succ])
                          go_cut [161] (fun v161 wc => ∃ (kq : Nat) (x161_71 : Bool), v161 = .bool x161_71 ∧ Aside0 (cohousinglaw21_PointsParts.j2 kq a2 x7_1 t260 t262 t263 x12_1 y280 y279 (y271.length : Int) x121_2 x161_71 a0_0 a0_1 a0_2 a0_3 = some r) ∧ Aside0 (kq ≤ k2) ∧ Aside0 (Kd.R (Kd.int .i64) 3 wc w.heap.size (fun _ => True) v281 y280) ∧ Aside0 (Kd.R k25 25 wc w.heap.size (fun k_ => k_ ≠ gb258 ∧ k_ ≠ gb284) (.slice (some ⟨go49, 0, none⟩) y279.length co58) y279) ∧ Aside0 (wc.heap[gb257]? = some (.cells #[.int .i64 a0_0, .int .i64 a0_1, .int .i64 a0_2, .int .i64 a0_3] 23 (0, 0))) ∧ Aside0 (wc.heap[gb258]? = some (.cells #[.int .i64 a1_0, .int .i64 a1_1, .int .i64 a1_2, .int .i64 a1_3, .int .i64 a1_4] 25 (0, 0))) ∧ Aside0 (wc.heap[gb284]? = some (.cells #[.int .i64 ((rd_T25 y279 x121_2).f0), .int .i64 ((rd_T25 y279 x121_2).f1), .int .i64 ((rd_T25 y279 x121_2).f2), .int .i64 ((rd_T25 y279 x121_2).f3), .int .i64 ((rd_T25 y279 x121_2).f4)] 25 (0, 0))) ∧ Aside0 (Below w.heap.size w wc))
                          case first =>
                            have H := HC72.out
                            clear HC72
                            by_cases c80 : t286 = 0
                            · rw [if_pos c80] at H
                              have c80b0 : (t286 == 0) = true := beq_iff_eq.mpr c80
                              have c80b1 : (t286 != 0) = false := bne_eq_false_iff_eq.mpr c80
                              clear c80
                              (first | rw [c80b0] | (simp only [i64_w, i32_w]; rw [c80b0]) | skip)
                              by_cases c81 : x121_2 < (y280.length : Int)
                              · rw [if_pos c81] at H
                                have c81b0 : decide (x121_2 < (y280.length : Int)) = true := decide_eq_true c81
                                clear c81
                                by_cases c82 : t285 = (wrap64 (t260 + (rd y280 x121_2)))
                                · rw [if_pos c82] at H
                                  have c82b0 : (t285 == (wrap64 (t260 + (rd y280 x121_2)))) = true := beq_iff_eq.mpr c82
                                  have c82b1 : (t285 != (wrap64 (t260 + (rd y280 x121_2)))) = false := bne_eq_false_iff_eq.mpr c82
                                  clear c82
                                  have H' := Aside0.mk H
                                  clear H
                                  obtain ⟨Ao83, co83, eo83⟩ := Kd.R_slice HO_18.out
                                  subst eo83
                                  have p287 : 0 ≤ (x121_2 : Int) := of_decide_eq_true qa_
                                  have q287 : x121_2 < (y280.length : Int) := of_decide_eq_true qa_
                                  obtain ⟨ad287, e287, hx287_0⟩ := Kd.at_int (Kd.R_reads' HO_18.out).2.2 x121_2 p287 q287
                                  cases e287
                                  replace p287 := eq_true p287
                                  replace q287 := eq_true q287
                                  go_wp2
                                  go_meet
                                  case rel => exact ⟨_, (false), qs_, H', ⟨by have := HK1.out; have := HK2.out; first | omega | exact Nat.le_refl _⟩, ⟨by (try simp only [hl119_2]); (with_reducible repeat (first | apply Kd.R_alloc | apply Kd.R_drewN | apply Kd.R_drew)); exact HO_18.out⟩, ⟨by (try simp only [hl119_2]); (with_reducible repeat (first | apply Kd.R_alloc | apply Kd.R_drewN | apply Kd.R_drew)); exact HO_119.out⟩, ⟨by (try simp only [hl119_2]); refine qd_ ?_; exact BK257.out⟩, ⟨by (try simp only [hl119_2]); refine qd_ ?_; exact BK258.out⟩, ⟨by (try simp only [hl119_2]); refine qd_ ?_; exact BK284.out⟩, ⟨qb_⟩⟩
                                · rw [if_neg c82] at H
                                  have c82b0 : (t285 == (wrap64 (t260 + (rd y280 x121_2)))) = false := beq_eq_false_iff_ne.mpr c82
                                  have c82b1 : (t285 != (wrap64 (t260 + (rd y280 x121_2)))) = true := bne_iff_ne.mpr c82
                                  have H' := Aside0.mk H
                                  clear H
                                  obtain ⟨Ao84, co84, eo84⟩ := Kd.R_slice HO_18.out
                                  subst eo84
                                  have p287 : 0 ≤ (x121_2 : Int) := of_decide_eq_true qa_
                                  have q287 : x121_2 < (y280.length : Int) := of_decide_eq_true qa_
                                  obtain ⟨ad287, e287, hx287_0⟩ := Kd.at_int (Kd.R_reads' HO_18.out).2.2 x121_2 p287 q287
                                  cases e287
                                  replace p287 := eq_true p287
                                  replace q287 := eq_true q287
                                  go_wp2
                                  go_meet
                                  case rel => exact ⟨_, (true), qs_, H', ⟨by have := HK1.out; have := HK2.out; first | omega | exact Nat.le_refl _⟩, ⟨by (try simp only [hl119_2]); (with_reducible repeat (first | apply Kd.R_alloc | apply Kd.R_drewN | apply Kd.R_drew)); exact HO_18.out⟩, ⟨by (try simp only [hl119_2]); (with_reducible repeat (first | apply Kd.R_alloc | apply Kd.R_drewN | apply Kd.R_drew)); exact HO_119.out⟩, ⟨by (try simp only [hl119_2]); refine qd_ ?_; exact BK257.out⟩, ⟨by (try simp only [hl119_2]); refine qd_ ?_; exact BK258.out⟩, ⟨by (try simp only [hl119_2]); refine qd_ ?_; exact BK284.out⟩, ⟨qb_⟩⟩
                              · rw [if_neg c81] at H
                                exact absurd H (by simp)
                            · rw [if_neg c80] at H
                              have c80b0 : (t286 == 0) = false := beq_eq_false_iff_ne.mpr c80
                              have c80b1 : (t286 != 0) = true := bne_iff_ne.mpr c80
                              (first | rw [c80b0] | (simp only [i64_w, i32_w]; rw [c80b0]) | skip)
                              replace H := Option.bind_eq_some_iff.mp H
                              obtain ⟨t288, A850, H⟩ := H
                              replace H : (if t288 = true then (if x121_2 < (y280.length : Int) then (cohousinglaw21_PointsParts.j2 k2 a2 x7_1 t260 t262 t263 x12_1 y280 y279 (y271.length : Int) x121_2 (decide ((wrap64 (t260 + (rd y280 x121_2))) ≤ 1000000000)) a0_0 a0_1 a0_2 a0_3) else (none)) else (cohousinglaw21_PointsParts.j2 k2 a2 x7_1 t260 t262 t263 x12_1 y280 y279 (y271.length : Int) x121_2 false a0_0 a0_1 a0_2 a0_3)) = some r := H
                              have A85 := Aside0.mk A850
                              clear A850
                              by_cases c86 : t288 = true
                              · subst c86
                                have H1 : (if x121_2 < (y280.length : Int) then (cohousinglaw21_PointsParts.j2 k2 a2 x7_1 t260 t262 t263 x12_1 y280 y279 (y271.length : Int) x121_2 (decide ((wrap64 (t260 + (rd y280 x121_2))) ≤ 1000000000)) a0_0 a0_1 a0_2 a0_3) else (none)) = some r := by rw [if_pos rfl] at H; exact H
                                clear H
                                have H := H1
                                clear H1
                                by_cases c87 : x121_2 < (y280.length : Int)
                                · rw [if_pos c87] at H
                                  have c87b0 : decide (x121_2 < (y280.length : Int)) = true := decide_eq_true c87
                                  clear c87
                                  have H' := Aside0.mk H
                                  clear H
                                  have hnb88 := NB284_257.out
                                  have hnc88 := NB257_284.out
                                  have hnb89 := NB284_258.out
                                  have hnc89 := NB258_284.out
                                  obtain ⟨hcz90_0, hcz90_1, hcz90_2, hcz90_3, hcz90_4⟩ := qz5_ BK284; obtain ⟨hfz90_0, hfz90_1, hfz90_2, hfz90_3, hfz90_4⟩ := qf5_ BK284
                                  go_wp2_with (first | (go_at_call 16; (with_reducible refine (cohousingref21_Wait.calls ((rd_T25 y279 x121_2).f0) ((rd_T25 y279 x121_2).f1) ((rd_T25 y279 x121_2).f2) ((rd_T25 y279 x121_2).f3) ((rd_T25 y279 x121_2).f4) true _ A85.out).mono ?_); rintro e w91 ⟨rfl, hb⟩; replace HO_18 := qrb_ HO_18 hb; replace HO_119 := qrb_ HO_119 hb; replace BK257 := qkb_ BK257 hb; replace BK258 := qkb_ BK258 hb; replace BK284 := qkb_ BK284 hb; replace HB := qbs_ hb; (try clear hb); (try clear hb2); (try clear hk); (try clear hi); obtain ⟨Ao92, co92, eo92⟩ := Kd.R_slice HO_18.out; subst eo92; have p289 : 0 ≤ (x121_2 : Int) := of_decide_eq_true qa_; have q289 : x121_2 < (y280.length : Int) := of_decide_eq_true qa_; obtain ⟨ad289, e289, hx289_0⟩ := Kd.at_int (Kd.R_reads' HO_18.out).2.2 x121_2 p289 q289; cases e289; replace p289 := eq_true p289; replace q289 := eq_true q289))
                                  go_meet
                                  case rel => exact ⟨_, (decide ((wrap64 (t260 + (rd y280 x121_2))) ≤ 1000000000)), qs_, H', ⟨by have := HK1.out; have := HK2.out; first | omega | exact Nat.le_refl _⟩, ⟨by (try simp only [hl119_2]); (with_reducible repeat (first | apply Kd.R_alloc | apply Kd.R_drewN | apply Kd.R_drew)); exact HO_18.out⟩, ⟨by (try simp only [hl119_2]); (with_reducible repeat (first | apply Kd.R_alloc | apply Kd.R_drewN | apply Kd.R_drew)); exact HO_119.out⟩, ⟨by (try simp only [hl119_2]); refine qd_ ?_; exact BK257.out⟩, ⟨by (try simp only [hl119_2]); refine qd_ ?_; exact BK258.out⟩, ⟨by (try simp only [hl119_2]); refine qd_ ?_; exact BK284.out⟩, ⟨qb_⟩⟩
                                · rw [if_neg c87] at H
                                  exact absurd H (by simp)
                              · replace c86 := Bool.eq_false_iff.mpr c86
                                subst c86
                                have H1 : (cohousinglaw21_PointsParts.j2 k2 a2 x7_1 t260 t262 t263 x12_1 y280 y279 (y271.length : Int) x121_2 false a0_0 a0_1 a0_2 a0_3) = some r := by rw [if_neg (show ¬ (false = true) by decide)] at H; exact H
                                clear H
                                have H := H1
                                clear H1
                                have H' := Aside0.mk H
                                clear H
                                have hnb93 := NB284_257.out
                                have hnc93 := NB257_284.out
                                have hnb94 := NB284_258.out
                                have hnc94 := NB258_284.out
                                obtain ⟨hcz95_0, hcz95_1, hcz95_2, hcz95_3, hcz95_4⟩ := qz5_ BK284; obtain ⟨hfz95_0, hfz95_1, hfz95_2, hfz95_3, hfz95_4⟩ := qf5_ BK284
                                go_wp2_with (first | (go_at_call 16; (with_reducible refine (cohousingref21_Wait.calls ((rd_T25 y279 x121_2).f0) ((rd_T25 y279 x121_2).f1) ((rd_T25 y279 x121_2).f2) ((rd_T25 y279 x121_2).f3) ((rd_T25 y279 x121_2).f4) false _ A85.out).mono ?_); rintro e w96 ⟨rfl, hb⟩; replace HO_18 := qrb_ HO_18 hb; replace HO_119 := qrb_ HO_119 hb; replace BK257 := qkb_ BK257 hb; replace BK258 := qkb_ BK258 hb; replace BK284 := qkb_ BK284 hb; replace HB := qbs_ hb; (try clear hb); (try clear hb2); (try clear hk); (try clear hi)))
                                go_meet
                                case rel => exact ⟨_, (false), qs_, H', ⟨by have := HK1.out; have := HK2.out; first | omega | exact Nat.le_refl _⟩, ⟨by (try simp only [hl119_2]); (with_reducible repeat (first | apply Kd.R_alloc | apply Kd.R_drewN | apply Kd.R_drew)); exact HO_18.out⟩, ⟨by (try simp only [hl119_2]); (with_reducible repeat (first | apply Kd.R_alloc | apply Kd.R_drewN | apply Kd.R_drew)); exact HO_119.out⟩, ⟨by (try simp only [hl119_2]); refine qd_ ?_; exact BK257.out⟩, ⟨by (try simp only [hl119_2]); refine qd_ ?_; exact BK258.out⟩, ⟨by (try simp only [hl119_2]); refine qd_ ?_; exact BK284.out⟩, ⟨qb_⟩⟩
                          case rest =>
                            clear HC72
                            try clear c1
                            try clear c2
                            try clear p2
                            try clear q2
                            try clear hx2
                            try clear qi2
                            try clear c3
                            try clear c4
                            try clear p4
                            try clear q4
                            try clear hx4
                            try clear qi4
                            try clear hf4
                            try clear c5
                            try clear p5
                            try clear q5
                            try clear hx5
                            try clear qi5
                            try clear hf5
                            try clear c6
                            try clear p6
                            try clear hx6
                            try clear hf6
                            try clear c7
                            try clear c7b0
                            try clear c7b1
                            try clear c8
                            try clear c9
                            try clear c10
                            try clear c11
                            try clear c21
                            try clear c21b0
                            try clear c22
                            try clear c22b0
                            try clear c23
                            try clear c23b0
                            try clear c25
                            try clear c26
                            try clear c26b0
                            try clear c26b1
                            try clear p26
                            try clear q26
                            try clear hx26
                            try clear p27
                            try clear q27
                            try clear hx27
                            try clear qi27
                            try clear c28
                            try clear p28
                            try clear q28
                            try clear hx28
                            try clear c29
                            try clear c31
                            try clear c35
                            try clear c36
                            try clear c38
                            try clear c42
                            try clear c43
                            try clear c45
                            try clear c48
                            try clear c48b0
                            try clear c48b1
                            try clear c49
                            try clear p49
                            try clear q49
                            try clear hx49
                            try clear qi49
                            try clear hf49
                            try clear c50
                            try clear c50b0
                            try clear c50b1
                            try clear c51
                            try clear p51
                            try clear q51
                            try clear hx51
                            try clear qi51
                            try clear hf51
                            try clear c52
                            try clear c52b0
                            try clear c52b1
                            try clear c53
                            try clear p53
                            try clear q53
                            try clear hx53
                            try clear qi53
                            try clear hf53
                            try clear c54
                            try clear c59
                            try clear hx59
                            try clear hf59
                            try clear c61
                            try clear hx61
                            try clear hf61
                            try clear c63
                            try clear hx63
                            try clear hf63
                            try clear p64
                            try clear c68
                            try clear c68b0
                            try clear c69
                            try clear c69b0
                            try clear c70
                            try clear c70b0
                            try clear c74
                            try clear c75
                            try clear c77
                            try clear c80
                            try clear c80b0
                            try clear c80b1
                            try clear c81
                            try clear c81b0
                            try clear c82
                            try clear c82b0
                            try clear c82b1
                            try clear c86
                            try clear c87
                            try clear c87b0
                            try clear c88
                            try clear c89
                            try clear c93
                            try clear c94
                            try clear hcz12_0 hcz12_1 hcz12_2 hcz12_3
                            try clear hcz13_0 hcz13_1 hcz13_2 hcz13_3 hcz13_4
                            try clear hcz15_0 hcz15_1 hcz15_2 hcz15_3 hcz15_4
                            try clear hcz17_0 hcz17_1 hcz17_2 hcz17_3
                            try clear hcz30_0 hcz30_1 hcz30_2 hcz30_3
                            try clear hcz32_0 hcz32_1 hcz32_2 hcz32_3 hcz32_4
                            try clear hcz37_0 hcz37_1 hcz37_2 hcz37_3
                            try clear hcz39_0 hcz39_1 hcz39_2 hcz39_3 hcz39_4
                            try clear hcz44_0 hcz44_1 hcz44_2 hcz44_3
                            try clear hcz46_0 hcz46_1 hcz46_2 hcz46_3 hcz46_4
                            try clear hcz55_0 hcz55_1 hcz55_2 hcz55_3 hcz55_4
                            try clear hcz65_0 hcz65_1 hcz65_2 hcz65_3
                            try clear hcz76_0 hcz76_1 hcz76_2 hcz76_3 hcz76_4
                            try clear hcz78_0 hcz78_1 hcz78_2 hcz78_3
                            try clear hcz90_0 hcz90_1 hcz90_2 hcz90_3 hcz90_4
                            try clear hcz95_0 hcz95_1 hcz95_2 hcz95_3 hcz95_4
                            try clear hfz12_0 hfz12_1 hfz12_2 hfz12_3
                            try clear hfz13_0 hfz13_1 hfz13_2 hfz13_3 hfz13_4
                            try clear hfz15_0 hfz15_1 hfz15_2 hfz15_3 hfz15_4
                            try clear hfz17_0 hfz17_1 hfz17_2 hfz17_3
                            try clear hfz30_0 hfz30_1 hfz30_2 hfz30_3
                            try clear hfz32_0 hfz32_1 hfz32_2 hfz32_3 hfz32_4
                            try clear hfz37_0 hfz37_1 hfz37_2 hfz37_3
                            try clear hfz39_0 hfz39_1 hfz39_2 hfz39_3 hfz39_4
                            try clear hfz44_0 hfz44_1 hfz44_2 hfz44_3
                            try clear hfz46_0 hfz46_1 hfz46_2 hfz46_3 hfz46_4
                            try clear hfz55_0 hfz55_1 hfz55_2 hfz55_3 hfz55_4
                            try clear hfz65_0 hfz65_1 hfz65_2 hfz65_3
                            try clear hfz76_0 hfz76_1 hfz76_2 hfz76_3 hfz76_4
                            try clear hfz78_0 hfz78_1 hfz78_2 hfz78_3
                            try clear hfz90_0 hfz90_1 hfz90_2 hfz90_3 hfz90_4
                            try clear hfz95_0 hfz95_1 hfz95_2 hfz95_3 hfz95_4
                            try clear hx267_0
                            try clear hx267_1
                            try clear hx267_2
                            try clear hx267_3
                            try clear hx274_0
                            try clear hx274_1
                            try clear hx274_2
                            try clear hx274_3
                            try clear hx274_4
                            try clear hx276_0
                            try clear hx276_1
                            try clear hx276_2
                            try clear hx276_3
                            try clear hx276_4
                            try clear hx278_0
                            try clear hx278_1
                            try clear hx278_2
                            try clear hx278_3
                            try clear hx278_4
                            try clear hx283_0
                            try clear hx283_1
                            try clear hx283_2
                            try clear hx283_3
                            try clear hx283_4
                            try clear hx287_0
                            try clear hx289_0
                            try clear hx49_0
                            try clear hx49_1
                            try clear hx49_2
                            try clear hx49_3
                            try clear hx49_4
                            try clear hx51_0
                            try clear hx51_1
                            try clear hx51_2
                            try clear hx51_3
                            try clear hx51_4
                            try clear hx53_0
                            try clear hx53_1
                            try clear hx53_2
                            try clear hx53_3
                            try clear hx53_4
                            try clear hx59_2
                            try clear hx61_3
                            try clear hx63_4
                            try clear p2
                            try clear p26
                            try clear p267
                            try clear p27
                            try clear p274
                            try clear p276
                            try clear p278
                            try clear p283
                            try clear p287
                            try clear p289
                            try clear p4
                            try clear p49
                            try clear p5
                            try clear p51
                            try clear p53
                            try clear p6
                            try clear p64
                            try clear q2
                            try clear q26
                            try clear q267
                            try clear q27
                            try clear q274
                            try clear q276
                            try clear q278
                            try clear q283
                            try clear q287
                            try clear q289
                            try clear q4
                            try clear q49
                            try clear q5
                            try clear q51
                            try clear q53
                            obtain ⟨kq, x161_71, rfl, HA, HJ71, HO_18, HO_119, BK257, BK258, BK284, HB⟩ := hcut
                            cases kq with
                            | zero => exact absurd HA.out (by simp [cohousinglaw21_PointsParts.j2])
                            | succ kj71 =>
                              have H := HA.out
                              clear HA
                              simp only [cohousinglaw21_PointsParts.j2] at H
                              by_cases c97 : x161_71 = true
                              · subst c97
                                have H1 : (some false) = some r := by rw [if_pos rfl] at H; exact H
                                clear H
                                have H := H1
                                clear H1
                                obtain rfl := Option.some.inj H
                                go_wp2
                                go_ret
                                exact ⟨qx_, qb_⟩
                              · replace c97 := Bool.eq_false_iff.mpr c97
                                subst c97
                                have H1 : (cohousinglaw21_PointsParts.l1 kj71 a2 x7_1 t260 t262 t263 x12_1 y280 y279 (y271.length : Int) (wrap64 (x121_2 + 1)) a0_0 a0_1 a0_2 a0_3) = some r := by rw [if_neg (show ¬ (false = true) by decide)] at H; exact H
                                clear H
                                have H := H1
                                clear H1
                                have H' := Aside0.mk H
                                clear H
                                go_wp2
                                (try simp only [← hl119_2])
                                go_roundg kj71
                                case measure => have := HK1.out; have := HK2.out; have := HJ71.out; omega
                                case rel => exact ⟨(wrap64 (x121_2 + 1)), qs_, H', ⟨by have := HK1.out; have := HK2.out; have := HJ71.out; omega⟩, ⟨by (try simp only [hl119_2]); (with_reducible repeat (first | apply Kd.R_alloc | apply Kd.R_drewN | apply Kd.R_drew)); exact HO_18.out⟩, ⟨by (try simp only [hl119_2]); (with_reducible repeat (first | apply Kd.R_alloc | apply Kd.R_drewN | apply Kd.R_drew)); exact Kd.R_mono HO_119.out (fun _ hk => hk.1)⟩, ⟨by (try simp only [hl119_2]); refine qd_ ?_; exact BK257.out⟩, ⟨by (try simp only [hl119_2]); refine qd_ ?_; exact BK258.out⟩, ⟨qb_⟩⟩
                        · rw [if_neg c70] at H
                          exact absurd H (by simp)
                      · rw [if_neg c69] at H
                        exact absurd H (by simp)
                    · rw [if_neg c68] at H
                      have c68b0 : decide (x121_2 < (y271.length : Int)) = false := decide_eq_false c68
                      have c68b8 := c68b0
                      try rw [hl119_2] at c68b8
                      clear c68
                      by_cases c98 : x7_1 = true
                      · subst c98
                        have H1 : (if t263 = 0 then (if t262 = 0 then (some (x12_1 == t260)) else (some false)) else (some false)) = some r := by rw [if_pos rfl] at H; exact H
                        clear H
                        have H := H1
                        clear H1
                        by_cases c99 : t263 = 0
                        · rw [if_pos c99] at H
                          have c99b0 : (t263 == 0) = true := beq_iff_eq.mpr c99
                          have c99b1 : (t263 != 0) = false := bne_eq_false_iff_eq.mpr c99
                          clear c99
                          by_cases c100 : t262 = 0
                          · rw [if_pos c100] at H
                            have c100b0 : (t262 == 0) = true := beq_iff_eq.mpr c100
                            have c100b1 : (t262 != 0) = false := bne_eq_false_iff_eq.mpr c100
                            clear c100
                            obtain rfl := Option.some.inj H
                            go_wp2
                            go_ret
                            exact ⟨qx_, qb_⟩
                          · rw [if_neg c100] at H
                            have c100b0 : (t262 == 0) = false := beq_eq_false_iff_ne.mpr c100
                            have c100b1 : (t262 != 0) = true := bne_iff_ne.mpr c100
                            obtain rfl := Option.some.inj H
                            go_wp2
                            go_ret
                            exact ⟨qx_, qb_⟩
                        · rw [if_neg c99] at H
                          have c99b0 : (t263 == 0) = false := beq_eq_false_iff_ne.mpr c99
                          have c99b1 : (t263 != 0) = true := bne_iff_ne.mpr c99
                          obtain rfl := Option.some.inj H
                          go_wp2
                          go_ret
                          exact ⟨qx_, qb_⟩
                      · replace c98 := Bool.eq_false_iff.mpr c98
                        subst c98
                        have H1 : (some false) = some r := by rw [if_neg (show ¬ (false = true) by decide)] at H; exact H
                        clear H
                        have H := H1
                        clear H1
                        obtain rfl := Option.some.inj H
                        go_wp2
                        go_ret
                        exact ⟨qx_, qb_⟩
              · rw [if_neg c52] at H
                exact absurd H (by simp)
            · rw [if_neg c50] at H
              exact absurd H (by simp)
          · rw [if_neg c48] at H
            exact absurd H (by simp)
  · rw [if_neg c7] at H
    have c7b0 : (t261 == 0) = false := beq_eq_false_iff_ne.mpr c7
    have c7b1 : (t261 != 0) = true := bne_iff_ne.mpr c7
    by_cases c101 : t259 = true
    · subst c101
      have H1 : (if t263 = 0 then (some (t262 == 0)) else (some true)) = some r := by rw [if_pos rfl] at H; exact H
      clear H
      have H := H1
      clear H1
      by_cases c102 : t263 = 0
      · rw [if_pos c102] at H
        have c102b0 : (t263 == 0) = true := beq_iff_eq.mpr c102
        have c102b1 : (t263 != 0) = false := bne_eq_false_iff_eq.mpr c102
        clear c102
        obtain rfl := Option.some.inj H
        go_enter Tryd.func4, Tryd.ntmps4
        go_wp2_with (first | ((with_reducible refine gate_dst (N := 3) rfl ?_); refine qev_ 3 #[.int .i64 a0_0, .int .i64 a0_1, .int .i64 a0_2, .int .i64 a0_3] 23 ?_; intro gb257 hg w103 hbox hb; have BK257 := Aside0.mk (hbox); have GW257 := qga_ hg; have GE257 := qga_ hg; replace HB := qbs_ hb; clear hb hbox hg) | ((with_reducible refine gate_dst (N := 4) rfl ?_); refine qev_ 4 #[.int .i64 a1_0, .int .i64 a1_1, .int .i64 a1_2, .int .i64 a1_3, .int .i64 a1_4] 25 ?_; intro gb258 hg w104 hbox hb; have BK258 := Aside0.mk (hbox); have GW258 := qga_ hg; have GE258 := qga_ hg; replace HB := qbs_ hb; have NB257_258 := Aside0.mk ((by rw [hg]; exact Nat.ne_of_lt (blk_lt (qk_ BK257)) : gb257 ≠ gb258)); have NB258_257 := Aside0.mk ((by rw [hg]; exact Nat.ne_of_gt (blk_lt (qk_ BK257)) : gb258 ≠ gb257)); replace BK257 := qkb_ BK257 hb; clear hb hbox hg) | ((with_reducible refine gate_callee (f := 10) rfl ?_); refine goesL_ (some 23) rfl rfl Tryd.func10 (by kernel_rfl) rfl #[] rfl ql_ ?_; (with_reducible refine (cohousinglaw21_head.calls k  true _ ?side1 A4.out).mono ?_); (case side1 => exact TabOK.below HTA.out qb_); rintro e w105 ⟨rfl, hb⟩; refine ⟨_, rfl, ?_⟩; replace BK257 := qkb_ BK257 hb; replace BK258 := qkb_ BK258 hb; replace HB := qbs_ hb; (try clear hb); (try clear hb2); (try clear hk); (try clear hi); have hnb106 := NB257_258.out; have hnc106 := NB258_257.out; obtain ⟨hcz107_0, hcz107_1, hcz107_2, hcz107_3⟩ := qz4_ BK257; obtain ⟨hfz107_0, hfz107_1, hfz107_2, hfz107_3⟩ := qf4_ BK257; obtain ⟨hcz108_0, hcz108_1, hcz108_2, hcz108_3, hcz108_4⟩ := qz5_ BK258; obtain ⟨hfz108_0, hfz108_1, hfz108_2, hfz108_3, hfz108_4⟩ := qf5_ BK258) | ((with_reducible refine gate_callee (f := 11) rfl ?_); refine goesL_ (some 28) rfl rfl Tryd.func11 (by kernel_rfl) rfl #[.agg #[.int .i64 a0_0, .int .i64 a0_1, .int .i64 a0_2, .int .i64 a0_3], .agg #[.int .i64 a1_0, .int .i64 a1_1, .int .i64 a1_2, .int .i64 a1_3, .int .i64 a1_4], .int .i64 a2] rfl ql_ ?_; (with_reducible refine (points_Count.calls k a0_0 a0_1 a0_2 a0_3 a1_0 a1_1 a1_2 a1_3 a1_4 a2 t260 t261 _ ?side1 A5.out).mono ?_); (case side1 => exact TabOK.below HTA.out qb_); rintro e w109 ⟨rfl, hb⟩; refine ⟨_, rfl, ?_⟩; replace BK257 := qkb_ BK257 hb; replace BK258 := qkb_ BK258 hb; replace HB := qbs_ hb; (try clear hb); (try clear hb2); (try clear hk); (try clear hi); obtain ⟨hcz110_0, hcz110_1, hcz110_2, hcz110_3, hcz110_4⟩ := qz5_ BK258; obtain ⟨hfz110_0, hfz110_1, hfz110_2, hfz110_3, hfz110_4⟩ := qf5_ BK258) | ((with_reducible refine gate_callee (f := 11) rfl ?_); refine goesL_ (some 35) rfl rfl Tryd.func11 (by kernel_rfl) rfl #[.agg #[.int .i64 0, .int .i64 0, .int .i64 0, .int .i64 0], .agg #[.int .i64 a1_0, .int .i64 a1_1, .int .i64 a1_2, .int .i64 a1_3, .int .i64 a1_4], .int .i64 a2] rfl ql_ ?_; (with_reducible refine (points_Count.calls k 0 0 0 0 a1_0 a1_1 a1_2 a1_3 a1_4 a2 t262 t263 _ ?side1 A6.out).mono ?_); (case side1 => exact TabOK.below HTA.out qb_); rintro e w111 ⟨rfl, hb⟩; refine ⟨_, rfl, ?_⟩; replace BK257 := qkb_ BK257 hb; replace BK258 := qkb_ BK258 hb; replace HB := qbs_ hb; (try clear hb); (try clear hb2); (try clear hk); (try clear hi)))
        go_ret
        exact ⟨qx_, qb_⟩
      · rw [if_neg c102] at H
        have c102b0 : (t263 == 0) = false := beq_eq_false_iff_ne.mpr c102
        have c102b1 : (t263 != 0) = true := bne_iff_ne.mpr c102
        obtain rfl := Option.some.inj H
        go_enter Tryd.func4, Tryd.ntmps4
        go_wp2_with (first | ((with_reducible refine gate_dst (N := 3) rfl ?_); refine qev_ 3 #[.int .i64 a0_0, .int .i64 a0_1, .int .i64 a0_2, .int .i64 a0_3] 23 ?_; intro gb257 hg w112 hbox hb; have BK257 := Aside0.mk (hbox); have GW257 := qga_ hg; have GE257 := qga_ hg; replace HB := qbs_ hb; clear hb hbox hg) | ((with_reducible refine gate_dst (N := 4) rfl ?_); refine qev_ 4 #[.int .i64 a1_0, .int .i64 a1_1, .int .i64 a1_2, .int .i64 a1_3, .int .i64 a1_4] 25 ?_; intro gb258 hg w113 hbox hb; have BK258 := Aside0.mk (hbox); have GW258 := qga_ hg; have GE258 := qga_ hg; replace HB := qbs_ hb; have NB257_258 := Aside0.mk ((by rw [hg]; exact Nat.ne_of_lt (blk_lt (qk_ BK257)) : gb257 ≠ gb258)); have NB258_257 := Aside0.mk ((by rw [hg]; exact Nat.ne_of_gt (blk_lt (qk_ BK257)) : gb258 ≠ gb257)); replace BK257 := qkb_ BK257 hb; clear hb hbox hg) | ((with_reducible refine gate_callee (f := 10) rfl ?_); refine goesL_ (some 23) rfl rfl Tryd.func10 (by kernel_rfl) rfl #[] rfl ql_ ?_; (with_reducible refine (cohousinglaw21_head.calls k  true _ ?side1 A4.out).mono ?_); (case side1 => exact TabOK.below HTA.out qb_); rintro e w114 ⟨rfl, hb⟩; refine ⟨_, rfl, ?_⟩; replace BK257 := qkb_ BK257 hb; replace BK258 := qkb_ BK258 hb; replace HB := qbs_ hb; (try clear hb); (try clear hb2); (try clear hk); (try clear hi); have hnb115 := NB257_258.out; have hnc115 := NB258_257.out; obtain ⟨hcz116_0, hcz116_1, hcz116_2, hcz116_3⟩ := qz4_ BK257; obtain ⟨hfz116_0, hfz116_1, hfz116_2, hfz116_3⟩ := qf4_ BK257; obtain ⟨hcz117_0, hcz117_1, hcz117_2, hcz117_3, hcz117_4⟩ := qz5_ BK258; obtain ⟨hfz117_0, hfz117_1, hfz117_2, hfz117_3, hfz117_4⟩ := qf5_ BK258) | ((with_reducible refine gate_callee (f := 11) rfl ?_); refine goesL_ (some 28) rfl rfl Tryd.func11 (by kernel_rfl) rfl #[.agg #[.int .i64 a0_0, .int .i64 a0_1, .int .i64 a0_2, .int .i64 a0_3], .agg #[.int .i64 a1_0, .int .i64 a1_1, .int .i64 a1_2, .int .i64 a1_3, .int .i64 a1_4], .int .i64 a2] rfl ql_ ?_; (with_reducible refine (points_Count.calls k a0_0 a0_1 a0_2 a0_3 a1_0 a1_1 a1_2 a1_3 a1_4 a2 t260 t261 _ ?side1 A5.out).mono ?_); (case side1 => exact TabOK.below HTA.out qb_); rintro e w118 ⟨rfl, hb⟩; refine ⟨_, rfl, ?_⟩; replace BK257 := qkb_ BK257 hb; replace BK258 := qkb_ BK258 hb; replace HB := qbs_ hb; (try clear hb); (try clear hb2); (try clear hk); (try clear hi); obtain ⟨hcz119_0, hcz119_1, hcz119_2, hcz119_3, hcz119_4⟩ := qz5_ BK258; obtain ⟨hfz119_0, hfz119_1, hfz119_2, hfz119_3, hfz119_4⟩ := qf5_ BK258) | ((with_reducible refine gate_callee (f := 11) rfl ?_); refine goesL_ (some 35) rfl rfl Tryd.func11 (by kernel_rfl) rfl #[.agg #[.int .i64 0, .int .i64 0, .int .i64 0, .int .i64 0], .agg #[.int .i64 a1_0, .int .i64 a1_1, .int .i64 a1_2, .int .i64 a1_3, .int .i64 a1_4], .int .i64 a2] rfl ql_ ?_; (with_reducible refine (points_Count.calls k 0 0 0 0 a1_0 a1_1 a1_2 a1_3 a1_4 a2 t262 t263 _ ?side1 A6.out).mono ?_); (case side1 => exact TabOK.below HTA.out qb_); rintro e w120 ⟨rfl, hb⟩; refine ⟨_, rfl, ?_⟩; replace BK257 := qkb_ BK257 hb; replace BK258 := qkb_ BK258 hb; replace HB := qbs_ hb; (try clear hb); (try clear hb2); (try clear hk); (try clear hi)))
        go_ret
        exact ⟨qx_, qb_⟩
    · replace c101 := Bool.eq_false_iff.mpr c101
      subst c101
      have H1 : (some false) = some r := by rw [if_neg (show ¬ (false = true) by decide)] at H; exact H
      clear H
      have H := H1
      clear H1
      obtain rfl := Option.some.inj H
      go_enter Tryd.func4, Tryd.ntmps4
      go_wp2_with (first | ((with_reducible refine gate_dst (N := 3) rfl ?_); refine qev_ 3 #[.int .i64 a0_0, .int .i64 a0_1, .int .i64 a0_2, .int .i64 a0_3] 23 ?_; intro gb257 hg w121 hbox hb; have BK257 := Aside0.mk (hbox); have GW257 := qga_ hg; have GE257 := qga_ hg; replace HB := qbs_ hb; clear hb hbox hg) | ((with_reducible refine gate_dst (N := 4) rfl ?_); refine qev_ 4 #[.int .i64 a1_0, .int .i64 a1_1, .int .i64 a1_2, .int .i64 a1_3, .int .i64 a1_4] 25 ?_; intro gb258 hg w122 hbox hb; have BK258 := Aside0.mk (hbox); have GW258 := qga_ hg; have GE258 := qga_ hg; replace HB := qbs_ hb; have NB257_258 := Aside0.mk ((by rw [hg]; exact Nat.ne_of_lt (blk_lt (qk_ BK257)) : gb257 ≠ gb258)); have NB258_257 := Aside0.mk ((by rw [hg]; exact Nat.ne_of_gt (blk_lt (qk_ BK257)) : gb258 ≠ gb257)); replace BK257 := qkb_ BK257 hb; clear hb hbox hg) | ((with_reducible refine gate_callee (f := 10) rfl ?_); refine goesL_ (some 23) rfl rfl Tryd.func10 (by kernel_rfl) rfl #[] rfl ql_ ?_; (with_reducible refine (cohousinglaw21_head.calls k  false _ ?side1 A4.out).mono ?_); (case side1 => exact TabOK.below HTA.out qb_); rintro e w123 ⟨rfl, hb⟩; refine ⟨_, rfl, ?_⟩; replace BK257 := qkb_ BK257 hb; replace BK258 := qkb_ BK258 hb; replace HB := qbs_ hb; (try clear hb); (try clear hb2); (try clear hk); (try clear hi); have hnb124 := NB257_258.out; have hnc124 := NB258_257.out; obtain ⟨hcz125_0, hcz125_1, hcz125_2, hcz125_3⟩ := qz4_ BK257; obtain ⟨hfz125_0, hfz125_1, hfz125_2, hfz125_3⟩ := qf4_ BK257; obtain ⟨hcz126_0, hcz126_1, hcz126_2, hcz126_3, hcz126_4⟩ := qz5_ BK258; obtain ⟨hfz126_0, hfz126_1, hfz126_2, hfz126_3, hfz126_4⟩ := qf5_ BK258) | ((with_reducible refine gate_callee (f := 11) rfl ?_); refine goesL_ (some 28) rfl rfl Tryd.func11 (by kernel_rfl) rfl #[.agg #[.int .i64 a0_0, .int .i64 a0_1, .int .i64 a0_2, .int .i64 a0_3], .agg #[.int .i64 a1_0, .int .i64 a1_1, .int .i64 a1_2, .int .i64 a1_3, .int .i64 a1_4], .int .i64 a2] rfl ql_ ?_; (with_reducible refine (points_Count.calls k a0_0 a0_1 a0_2 a0_3 a1_0 a1_1 a1_2 a1_3 a1_4 a2 t260 t261 _ ?side1 A5.out).mono ?_); (case side1 => exact TabOK.below HTA.out qb_); rintro e w127 ⟨rfl, hb⟩; refine ⟨_, rfl, ?_⟩; replace BK257 := qkb_ BK257 hb; replace BK258 := qkb_ BK258 hb; replace HB := qbs_ hb; (try clear hb); (try clear hb2); (try clear hk); (try clear hi); obtain ⟨hcz128_0, hcz128_1, hcz128_2, hcz128_3, hcz128_4⟩ := qz5_ BK258; obtain ⟨hfz128_0, hfz128_1, hfz128_2, hfz128_3, hfz128_4⟩ := qf5_ BK258) | ((with_reducible refine gate_callee (f := 11) rfl ?_); refine goesL_ (some 35) rfl rfl Tryd.func11 (by kernel_rfl) rfl #[.agg #[.int .i64 0, .int .i64 0, .int .i64 0, .int .i64 0], .agg #[.int .i64 a1_0, .int .i64 a1_1, .int .i64 a1_2, .int .i64 a1_3, .int .i64 a1_4], .int .i64 a2] rfl ql_ ?_; (with_reducible refine (points_Count.calls k 0 0 0 0 a1_0 a1_1 a1_2 a1_3 a1_4 a2 t262 t263 _ ?side1 A6.out).mono ?_); (case side1 => exact TabOK.below HTA.out qb_); rintro e w129 ⟨rfl, hb⟩; refine ⟨_, rfl, ?_⟩; replace BK257 := qkb_ BK257 hb; replace BK258 := qkb_ BK258 hb; replace HB := qbs_ hb; (try clear hb); (try clear hb2); (try clear hk); (try clear hi)))
      go_ret
      exact ⟨qx_, qb_⟩

end Go.Proofs.YtfhmbfadbfnnaaaDoor.Px
