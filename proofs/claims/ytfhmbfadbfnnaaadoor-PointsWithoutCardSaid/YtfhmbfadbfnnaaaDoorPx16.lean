/- Contracts of Go functions, written by a program of this session's own (wip/tools/myprint.py) out of the translation: each Go function does what the Lean function of its name says. Conditions: as each theorem states. -/
import Derived.Test.YtfhmbfadbfnnaaaDoorPx0
import Derived.Test.YtfhmbfadbfnnaaaDoorPx6
import Derived.Test.YtfhmbfadbfnnaaaDoorPx7
import Derived.Test.YtfhmbfadbfnnaaaDoorPx14
import Derived.Test.YtfhmbfadbfnnaaaDoorGHead
namespace Go.Proofs.YtfhmbfadbfnnaaaDoor.Px
open Go.Proofs.YtfhmbfadbfnnaaaDoor.Given
open Go.RowKit Go.Proofs.YtfhmbfadbfnnaaaDoorW.PrintWords Go.Proofs.YtfhmbfadbfnnaaaDoorW.PrintLast Go.Proofs.YtfhmbfadbfnnaaaDoorW.PrintMore
attribute [local go_sem] max2_int min2_int max_two min_two max_three min_three max_four min_four   -- for this text's walks alone
set_option linter.unusedVariables false
set_option linter.unusedSimpArgs false

/-! ### cohousinglaw21_PointsWithout: function 6 -/
mutual
def cohousinglaw21_PointsWithout.j0 : Nat → List (S25) → Int → List Int → Int → Bool → Bool → Int → Int → Int → Int → Option (Bool)
  | 0, _, _, _, _, _, _, _, _, _, _ => none
  | k + 1, x1, x2, x3, x4, x11, x40, x322000, x322001, x322002, x322003 => if x40 = true then (some x11) else (if (x1.length : Int) = 0 then (none) else (cohousinglaw21_PointsWithout.l0 k x1 x2 x3 x11 (Int.tmod (wrap64 (x4)) (x1.length : Int)) ([] : List Int) x3 (x3.length : Int) 0 x322000 x322001 x322002 x322003))
def cohousinglaw21_PointsWithout.l0 : Nat → List (S25) → Int → List Int → Bool → Int → List Int → List Int → Int → Int → Int → Int → Int → Int → Option (Bool)
  | 0, _, _, _, _, _, _, _, _, _, _, _, _, _ => none
  | k + 1, x1, x2, x3, x11, x14, x15, x47, x48, x49, x322000, x322001, x322002, x322003 => if x49 < x48 then (if 0 ≤ x49 then (if x49 < (x47.length : Int) then (if (rd x47 x49) > (wrap64 (x14 + 1)) then (if x15.length < 17592186044416 then (cohousinglaw21_PointsWithout.l0 k x1 x2 x3 x11 x14 (x15 ++ [wrap64 ((rd x47 x49) - 1)]) x47 x48 (wrap64 (x49 + 1)) x322000 x322001 x322002 x322003) else (none)) else (if (rd x47 x49) = (wrap64 (x14 + 1)) then (cohousinglaw21_PointsWithout.l0 k x1 x2 x3 x11 x14 x15 x47 x48 (wrap64 (x49 + 1)) x322000 x322001 x322002 x322003) else (if x15.length < 17592186044416 then (cohousinglaw21_PointsWithout.l0 k x1 x2 x3 x11 x14 (x15 ++ [rd x47 x49]) x47 x48 (wrap64 (x49 + 1)) x322000 x322001 x322002 x322003) else (none)))) else (none)) else (none)) else ((points_Order.f k x322000 x322001 x322002 x322003 x1 x2 x3).bind fun bt334 => ((some (([] : List (S25)) : List (S25))).bind fun y338 => (if 0 ≤ x14 then (if x14 ≤ (x1.length : Int) then ((some (x1.take (x14 : Int).toNat : List (S25))).bind fun y341 => (if y338.length + y341.length < 3518437208883 then ((some (y338 ++ y341 : List (S25))).bind fun y345 => (if 0 ≤ (wrap64 (x14 + 1)) then (if (wrap64 (x14 + 1)) ≤ (x1.length : Int) then ((some (x1.drop ((wrap64 (x14 + 1)) : Int).toNat : List (S25))).bind fun y348 => (if y345.length + y348.length < 3518437208883 then ((points_Order.f k x322000 x322001 x322002 x322003 (y345 ++ y348) x2 x15).bind fun bt355 => (if bt334.2 = 0 then (cohousinglaw21_PointsWithout.j2 k x11 x14 bt334.1 bt355.1 (bt355.2 != 0)) else (cohousinglaw21_PointsWithout.j2 k x11 x14 bt334.1 bt355.1 true))) else (none))) else (none)) else (none))) else (none))) else (none)) else (none))))
def cohousinglaw21_PointsWithout.j2 : Nat → Bool → Int → List Int → List Int → Bool → Option (Bool)
  | 0, _, _, _, _, _ => none
  | k + 1, x11, x14, x18, x20, x98 => if x98 = true then (some false) else (cohousinglaw21_PointsWithout.l1 k x11 x14 x20 ([] : List Int) x18 (x18.length : Int) 0)
def cohousinglaw21_PointsWithout.l1 : Nat → Bool → Int → List Int → List Int → List Int → Int → Int → Option (Bool)
  | 0, _, _, _, _, _, _, _ => none
  | k + 1, x11, x14, x20, x22, x99, x100, x101 => if x101 < x100 then (if 0 ≤ x101 then (if x101 < (x99.length : Int) then (if (rd x99 x101) > x14 then (if x22.length < 17592186044416 then (cohousinglaw21_PointsWithout.l1 k x11 x14 x20 (x22 ++ [wrap64 ((rd x99 x101) - 1)]) x99 x100 (wrap64 (x101 + 1))) else (none)) else (if (rd x99 x101) < x14 then (if x22.length < 17592186044416 then (cohousinglaw21_PointsWithout.l1 k x11 x14 x20 (x22 ++ [rd x99 x101]) x99 x100 (wrap64 (x101 + 1))) else (none)) else (cohousinglaw21_PointsWithout.l1 k x11 x14 x20 x22 x99 x100 (wrap64 (x101 + 1))))) else (none)) else (none)) else (if x11 = true then ((cohousingref21_Same.f k x20 x22).bind fun t359 => (some t359)) else (some false))
end
def cohousinglaw21_PointsWithout.f (k : Nat) (a0_0 a0_1 a0_2 a0_3 : Int) (l1 : List (S25)) (a2 : Int) (l3 : List Int) (a4 : Int) : Option (Bool) := (cohousinglaw21_head.f k).bind fun t322 => ((cohousinglaw21_usable.f k a0_0 a0_1 a0_2 a0_3 l1 a2 l3).bind fun bt323 => (if bt323.2 = true then (cohousinglaw21_PointsWithout.j0 k l1 a2 l3 a4 t322 ((l1.length : Int) == 0) a0_0 a0_1 a0_2 a0_3) else (cohousinglaw21_PointsWithout.j0 k l1 a2 l3 a4 t322 true a0_0 a0_1 a0_2 a0_3)))
theorem cohousinglaw21_PointsWithout.mono_l : ∀ k, (∀ y0 y1 y2 y3 y4 y5 y6 y7 y8 y9, LeO (cohousinglaw21_PointsWithout.j0 k y0 y1 y2 y3 y4 y5 y6 y7 y8 y9) (cohousinglaw21_PointsWithout.j0 (k + 1) y0 y1 y2 y3 y4 y5 y6 y7 y8 y9)) ∧ (∀ y0 y1 y2 y3 y4 y5 y6 y7 y8 y9 y10 y11 y12, LeO (cohousinglaw21_PointsWithout.l0 k y0 y1 y2 y3 y4 y5 y6 y7 y8 y9 y10 y11 y12) (cohousinglaw21_PointsWithout.l0 (k + 1) y0 y1 y2 y3 y4 y5 y6 y7 y8 y9 y10 y11 y12)) ∧ (∀ y0 y1 y2 y3 y4, LeO (cohousinglaw21_PointsWithout.j2 k y0 y1 y2 y3 y4) (cohousinglaw21_PointsWithout.j2 (k + 1) y0 y1 y2 y3 y4)) ∧ (∀ y0 y1 y2 y3 y4 y5 y6, LeO (cohousinglaw21_PointsWithout.l1 k y0 y1 y2 y3 y4 y5 y6) (cohousinglaw21_PointsWithout.l1 (k + 1) y0 y1 y2 y3 y4 y5 y6))
  | 0 => ⟨fun _ _ _ _ _ _ _ _ _ _ r h => by simp [cohousinglaw21_PointsWithout.j0] at h, fun _ _ _ _ _ _ _ _ _ _ _ _ _ r h => by simp [cohousinglaw21_PointsWithout.l0] at h, fun _ _ _ _ _ r h => by simp [cohousinglaw21_PointsWithout.j2] at h, fun _ _ _ _ _ _ _ r h => by simp [cohousinglaw21_PointsWithout.l1] at h⟩
  | k + 1 => by
    obtain ⟨ih0, ih1, ih2, ih3⟩ := cohousinglaw21_PointsWithout.mono_l k
    refine ⟨?_, ?_, ?_, ?_⟩
    · intro y0 y1 y2 y3 y4 y5 y6 y7 y8 y9
      unfold cohousinglaw21_PointsWithout.j0
      with_reducible (repeat' first | apply ih0 | apply ih1 | apply ih2 | apply ih3 | apply cohousinglaw21_head.mono | apply cohousinglaw21_usable.mono | apply cohousingref21_Same.mono | apply points_Order.mono | apply LeO.refl | apply LeO.none | apply LeO.ite | refine LeO.bind ?_ (fun _ => ?_))
    · intro y0 y1 y2 y3 y4 y5 y6 y7 y8 y9 y10 y11 y12
      unfold cohousinglaw21_PointsWithout.l0
      with_reducible (repeat' first | apply ih0 | apply ih1 | apply ih2 | apply ih3 | apply cohousinglaw21_head.mono | apply cohousinglaw21_usable.mono | apply cohousingref21_Same.mono | apply points_Order.mono | apply LeO.refl | apply LeO.none | apply LeO.ite | refine LeO.bind ?_ (fun _ => ?_))
    · intro y0 y1 y2 y3 y4
      unfold cohousinglaw21_PointsWithout.j2
      with_reducible (repeat' first | apply ih0 | apply ih1 | apply ih2 | apply ih3 | apply cohousinglaw21_head.mono | apply cohousinglaw21_usable.mono | apply cohousingref21_Same.mono | apply points_Order.mono | apply LeO.refl | apply LeO.none | apply LeO.ite | refine LeO.bind ?_ (fun _ => ?_))
    · intro y0 y1 y2 y3 y4 y5 y6
      unfold cohousinglaw21_PointsWithout.l1
      with_reducible (repeat' first | apply ih0 | apply ih1 | apply ih2 | apply ih3 | apply cohousinglaw21_head.mono | apply cohousinglaw21_usable.mono | apply cohousingref21_Same.mono | apply points_Order.mono | apply LeO.refl | apply LeO.none | apply LeO.ite | refine LeO.bind ?_ (fun _ => ?_))
theorem cohousinglaw21_PointsWithout.mono : ∀ a0 a1 a2 a3 a4 a5 a6 a7 k, LeO (cohousinglaw21_PointsWithout.f k a0 a1 a2 a3 a4 a5 a6 a7) (cohousinglaw21_PointsWithout.f (k + 1) a0 a1 a2 a3 a4 a5 a6 a7) := by
  intro a0 a1 a2 a3 a4 a5 a6 a7 k
  obtain ⟨ih0, ih1, ih2, ih3⟩ := cohousinglaw21_PointsWithout.mono_l k
  unfold cohousinglaw21_PointsWithout.f
  with_reducible (repeat' first | apply ih0 | apply ih1 | apply ih2 | apply ih3 | apply cohousinglaw21_head.mono | apply cohousinglaw21_usable.mono | apply cohousingref21_Same.mono | apply points_Order.mono | apply LeO.refl | apply LeO.none | apply LeO.ite | refine LeO.bind ?_ (fun _ => ?_))
def cohousinglaw21_PointsWithout.T16 : Bool × List (List Nat × List Nat) := (true, [([], []), ([], []), ([], []), ([], []), ([2, 3], [2, 3]), ([1, 4], [1, 4]), ([], []), ([], []), ([7], [7]), ([6, 8], [6, 8]), ([5, 9, 5], [5, 9]), ([], []), ([], []), ([0, 10, 11, 12, 10], [0, 10, 11, 12]), ([13], [13]), ([14], [14]), ([14], [14]), ([15, 13, 0, 1, 2, 3, 4, 5, 6, 7, 8, 9, 10, 11, 12, 13, 14, 15], [15]), ([16, 17, 0, 1, 2, 3, 4, 5, 6, 7, 8, 9, 10, 11, 12, 13, 14, 15, 16, 17], [16])])
def cohousinglaw21_PointsWithout.B16 : List Nat := [0, 0, 0, 0, 12, 30, 0, 0, 128, 448, 1022, 0, 0, 8191, 16383, 32767, 32767, 65535, 262143]
theorem cohousinglaw21_PointsWithout.tab16 : rtab .any (opsOf Tryd.f6 16) = cohousinglaw21_PointsWithout.T16 := by kernel_rfl
theorem cohousinglaw21_PointsWithout.bits16 : waitsOk cohousinglaw21_PointsWithout.T16.2 cohousinglaw21_PointsWithout.B16 = true := by kernel_rfl
set_option maxHeartbeats 8000000 in
set_option maxRecDepth 100000 in
theorem cohousinglaw21_PointsWithout.calls (k : Nat) (a0_0 a0_1 a0_2 a0_3 : Int) (A1 : Option Addr) (c1 : Nat) (l1 : List (S25)) (a2 : Int) (A3 : Option Addr) (c3 : Nat) (l3 : List Int) (a4 : Int) (r : Bool) (w : World) (hr1 : Kd.C k25 w A1 l1.length l1) (hc1 : l1.length ≤ c1) (hr3 : Kd.C (Kd.int .i64) w A3 l3.length l3) (hc3 : l3.length ≤ c3) (HT : TabOK w) (h : cohousinglaw21_PointsWithout.f k a0_0 a0_1 a0_2 a0_3 l1 a2 l3 a4 = some r) :
    Calls Tryd.prog 6 #[.agg #[.int .i64 a0_0, .int .i64 a0_1, .int .i64 a0_2, .int .i64 a0_3], .slice A1 l1.length c1, .int .i64 a2, .slice A3 l3.length c3, .int .u8 a4] w fun e w' => e = .returned (.bool r) ∧ Below w.heap.size w w' := by
  have hu23 := Tryd.underlying23
  have HTA := Aside0.mk HT
  clear HT
  have HR1 := Aside0.mk hr1
  have HC1 := Aside0.mk hc1
  clear hr1 hc1
  have HR3 := Aside0.mk hr3
  have HC3 := Aside0.mk hc3
  clear hr3 hc3
  have HB := Aside0.mk (Below.refl w.heap.size w)
  have H : ((cohousinglaw21_head.f k).bind fun t322 => ((cohousinglaw21_usable.f k a0_0 a0_1 a0_2 a0_3 l1 a2 l3).bind fun bt323 => (if bt323.2 = true then (cohousinglaw21_PointsWithout.j0 k l1 a2 l3 a4 t322 ((l1.length : Int) == 0) a0_0 a0_1 a0_2 a0_3) else (cohousinglaw21_PointsWithout.j0 k l1 a2 l3 a4 t322 true a0_0 a0_1 a0_2 a0_3)))) = some r := h
  clear h
  replace H := Option.bind_eq_some_iff.mp H
  obtain ⟨t322, A60, H⟩ := H
  replace H : ((cohousinglaw21_usable.f k a0_0 a0_1 a0_2 a0_3 l1 a2 l3).bind fun bt323 => (if bt323.2 = true then (cohousinglaw21_PointsWithout.j0 k l1 a2 l3 a4 t322 ((l1.length : Int) == 0) a0_0 a0_1 a0_2 a0_3) else (cohousinglaw21_PointsWithout.j0 k l1 a2 l3 a4 t322 true a0_0 a0_1 a0_2 a0_3))) = some r := H
  have A6 := Aside0.mk A60
  clear A60
  replace H := Option.bind_eq_some_iff.mp H
  obtain ⟨⟨t323, t326⟩, A70, H⟩ := H
  replace H : (if t326 = true then (cohousinglaw21_PointsWithout.j0 k l1 a2 l3 a4 t322 ((l1.length : Int) == 0) a0_0 a0_1 a0_2 a0_3) else (cohousinglaw21_PointsWithout.j0 k l1 a2 l3 a4 t322 true a0_0 a0_1 a0_2 a0_3)) = some r := H
  have A7 := Aside0.mk A70
  clear A70
  have HC8 := Aside0.mk H
  clear H
  go_enter Tryd.func6, Tryd.ntmps6
  go_upto_region 3 with (first | ((with_reducible refine gate_dst (N := 5) rfl ?_); (try (refine gate_guard (by rfl) ?_; dsimp only)); refine qev_ 5 #[.int .i64 a0_0, .int .i64 a0_1, .int .i64 a0_2, .int .i64 a0_3] 23 ?_; intro gb321 hg w9 hbox hb; have BK321 := Aside0.mk (hbox); have GW321 := qga_ hg; have GE321 := qga_ hg; replace HB := qbs_ hb; clear hb hbox hg) | ((with_reducible refine gate_callee (f := 10) rfl ?_); refine goesL_ (some 25) rfl rfl Tryd.func10 (by kernel_rfl) rfl #[] rfl ql_ ?_; (with_reducible refine (cohousinglaw21_head.calls k  t322 _ ?side1 A6.out).mono ?_); (case side1 => exact TabOK.below HTA.out qb_); rintro e w10 ⟨rfl, hb⟩; refine ⟨_, rfl, ?_⟩; replace BK321 := qkb_ BK321 hb; replace HB := qbs_ hb; (try clear hb); (try clear hb2); (try clear hk); (try clear hi); obtain ⟨hcz11_0, hcz11_1, hcz11_2, hcz11_3⟩ := qz4_ BK321; obtain ⟨hfz11_0, hfz11_1, hfz11_2, hfz11_3⟩ := qf4_ BK321) | ((with_reducible refine gate_callee (f := 17) rfl ?_); refine goesL_ (some 31) rfl rfl Tryd.func17 (by kernel_rfl) rfl #[.agg #[.int .i64 a0_0, .int .i64 a0_1, .int .i64 a0_2, .int .i64 a0_3], .slice A1 l1.length c1, .int .i64 a2, .slice A3 l3.length c3] rfl ql_ ?_; (with_reducible refine (cohousinglaw21_usable.calls k a0_0 a0_1 a0_2 a0_3 _ _ l1 a2 _ _ l3 t323 t326 _ ?side1 ?side2 ?side3 ?side4 ?side5 A7.out).mono ?_); (case side1 => exact qc_ HR1); (case side2 => exact HC1.out); (case side3 => exact qc_ HR3); (case side4 => exact HC3.out); (case side5 => exact TabOK.below HTA.out qb_); rintro e w12 ⟨v324, rfl, ho0, hb⟩; refine ⟨_, rfl, ?_⟩; have HO325 := Aside0.mk (Kd.R_lower ho0 (below_size qb_)); replace BK321 := qkb_ BK321 hb; replace HB := qbs_ hb; (try clear hb); (try clear hb2); (try clear hk); (try clear hi); (try clear ho0)))
  (try simp only [Act.put, List.setIfInBounds_toArray, List.set_cons_zero, List.set_cons_succ])
  go_cut [40] (fun v40 wc => ∃ (kq : Nat) (x40_7 : Bool), v40 = .bool x40_7 ∧ Aside0 (cohousinglaw21_PointsWithout.j0 kq l1 a2 l3 a4 t322 x40_7 a0_0 a0_1 a0_2 a0_3 = some r) ∧ Aside0 (kq ≤ k) ∧ Aside0 (wc.heap[gb321]? = some (.cells #[.int .i64 a0_0, .int .i64 a0_1, .int .i64 a0_2, .int .i64 a0_3] 23 (0, 0))) ∧ Aside0 (Below w.heap.size w wc))
  case first =>
    have H := HC8.out
    clear HC8
    by_cases c13 : t326 = true
    · subst c13
      have H1 : (cohousinglaw21_PointsWithout.j0 k l1 a2 l3 a4 t322 ((l1.length : Int) == 0) a0_0 a0_1 a0_2 a0_3) = some r := by rw [if_pos rfl] at H; exact H
      clear H
      have H := H1
      clear H1
      have H' := Aside0.mk H
      clear H
      go_wp2
      go_meet
      case rel => exact ⟨_, (((l1.length : Int) == 0)), qs_, H', ⟨qo_⟩, ⟨qk_ BK321⟩, ⟨qb_⟩⟩
    · replace c13 := Bool.eq_false_iff.mpr c13
      subst c13
      have H1 : (cohousinglaw21_PointsWithout.j0 k l1 a2 l3 a4 t322 true a0_0 a0_1 a0_2 a0_3) = some r := by rw [if_neg (show ¬ (false = true) by decide)] at H; exact H
      clear H
      have H := H1
      clear H1
      have H' := Aside0.mk H
      clear H
      go_wp2
      go_meet
      case rel => exact ⟨_, (true), qs_, H', ⟨qo_⟩, ⟨qk_ BK321⟩, ⟨qb_⟩⟩
  case rest =>
    clear HC8
    try clear c1
    try clear p2
    try clear c3
    try clear c6
    try clear c10
    try clear c13
    try clear hcz11_0 hcz11_1 hcz11_2 hcz11_3
    try clear hfz11_0 hfz11_1 hfz11_2 hfz11_3
    obtain ⟨kq, x40_7, rfl, HA, HJ7, BK321, HB⟩ := hcut
    cases kq with
    | zero => exact absurd HA.out (by simp [cohousinglaw21_PointsWithout.j0])
    | succ kj7 =>
      have H := HA.out
      clear HA
      simp only [cohousinglaw21_PointsWithout.j0] at H
      by_cases c14 : x40_7 = true
      · subst c14
        have H1 : (some t322) = some r := by rw [if_pos rfl] at H; exact H
        clear H
        have H := H1
        clear H1
        obtain rfl := Option.some.inj H
        go_wp2
        go_ret
        exact ⟨qx_, qb_⟩
      · replace c14 := Bool.eq_false_iff.mpr c14
        subst c14
        have H1 : (if (l1.length : Int) = 0 then (none) else (cohousinglaw21_PointsWithout.l0 kj7 l1 a2 l3 t322 (Int.tmod (wrap64 (a4)) (l1.length : Int)) ([] : List Int) l3 (l3.length : Int) 0 a0_0 a0_1 a0_2 a0_3)) = some r := by rw [if_neg (show ¬ (false = true) by decide)] at H; exact H
        clear H
        have H := H1
        clear H1
        by_cases c15 : (l1.length : Int) = 0
        · rw [if_pos c15] at H
          exact absurd H (by simp)
        · rw [if_neg c15] at H
          have c15b0 : ((l1.length : Int) == 0) = false := beq_eq_false_iff_ne.mpr c15
          have c15b1 : ((l1.length : Int) != 0) = true := bne_iff_ne.mpr c15
          have c15b2 : ¬ (l1 = []) := fun h_ => c15 (by rw [h_]; rfl)
          have H' := Aside0.mk H
          clear H
          go_wp2
          go_loopg [15, 49] kj7 (fun kq v15 v49 w' => ∃ (x15_2 : List Int) (x49_2 : Int), v49 = .int .i64 x49_2 ∧ Aside0 (cohousinglaw21_PointsWithout.l0 kq l1 a2 l3 t322 (Int.tmod (wrap64 (a4)) (l1.length : Int)) x15_2 l3 (l3.length : Int) x49_2 a0_0 a0_1 a0_2 a0_3 = some r) ∧ Aside0 (kq ≤ kj7) ∧ Aside0 (Kd.R (Kd.int .i64) 3 w' w.heap.size (fun _ => True) v15 x15_2) ∧ Aside0 (w'.heap[gb321]? = some (.cells #[.int .i64 a0_0, .int .i64 a0_1, .int .i64 a0_2, .int .i64 a0_3] 23 (0, 0))) ∧ Aside0 (Below w.heap.size w w'))
          case atStart => exact ⟨(([] : List Int)), (0), qs_, H', ⟨Nat.le_refl _⟩, ⟨by first | exact Kd.R_nil _ _ _ _ _ | exact Kd.N_nil _ _ _ _ _ | exact Kd.V_nil _ _ _ _ _ | exact Kd.Q_nil _ _ _ _ _ | exact Kd.S_nil _ _ _ _ _⟩, ⟨qk_ BK321⟩, ⟨qb_⟩⟩
          case round =>
            clear H'
            try clear c1
            try clear p2
            try clear c3
            try clear c6
            try clear p6
            try clear c10
            try clear c13
            try clear c14
            try clear c15
            try clear c15b0
            try clear c15b1
            try clear c15b2
            try clear hcz11_0 hcz11_1 hcz11_2 hcz11_3
            try clear hfz11_0 hfz11_1 hfz11_2 hfz11_3
            try clear p2
            obtain ⟨x15_2, x49_2, rfl, HA, HK2, HO_15, BK321, HB⟩ := hrel
            cases gk with
            | zero => exact absurd HA.out (by simp [cohousinglaw21_PointsWithout.l0])
            | succ k2 =>
              have H := HA.out
              clear HA
              simp only [cohousinglaw21_PointsWithout.l0] at H
              by_cases c16 : x49_2 < (l3.length : Int)
              · rw [if_pos c16] at H
                have c16b0 : decide (x49_2 < (l3.length : Int)) = true := decide_eq_true c16
                clear c16
                by_cases c17 : 0 ≤ x49_2
                · rw [if_pos c17] at H
                  have c17b0 : decide (0 ≤ x49_2) = true := decide_eq_true c17
                  clear c17
                  by_cases c18 : x49_2 < (l3.length : Int)
                  · rw [if_pos c18] at H
                    have c18b0 : decide (x49_2 < (l3.length : Int)) = true := decide_eq_true c18
                    clear c18
                    by_cases c19 : (rd l3 x49_2) > (wrap64 ((Int.tmod (wrap64 (a4)) (l1.length : Int)) + 1))
                    · rw [if_pos c19] at H
                      have c19b0 : decide ((wrap64 ((Int.tmod (wrap64 (a4)) (l1.length : Int)) + 1)) < (rd l3 x49_2)) = true := decide_eq_true c19
                      clear c19
                      by_cases c20 : x15_2.length < 17592186044416
                      · rw [if_pos c20] at H
                        have LMc20 := Aside0.mk c20
                        clear c20
                        obtain ⟨y328, hy328⟩ : ∃ y_ : List Int, y_ = (x15_2 ++ [wrap64 ((rd l3 x49_2) - 1)]) := ⟨_, rfl⟩
                        replace H : (cohousinglaw21_PointsWithout.l0 k2 l1 a2 l3 t322 (Int.tmod (wrap64 (a4)) (l1.length : Int)) y328 l3 (l3.length : Int) (wrap64 (x49_2 + 1)) a0_0 a0_1 a0_2 a0_3) = some r := by first | (rw [hy328]; with_reducible exact H) | (have H2_ := (Option.bind_some _ _).symm.trans H; rw [hy328]; with_reducible exact H2_) | (have H2_ := (Option.bind_some _ _).symm.trans H; with_reducible exact H2_) | with_reducible exact H | (rw [hy328]; exact H) | exact H
                        have Ny328 := Aside0.mk hy328
                        clear hy328
                        have H' := Aside0.mk H
                        clear H
                        have p327 : 0 ≤ (x49_2 : Int) := of_decide_eq_true qa_
                        have q327 : x49_2 < (l3.length : Int) := of_decide_eq_true qa_
                        obtain ⟨ad327, e327, hx327_0⟩ := Kd.at_int HR3.out x49_2 p327 q327
                        cases e327
                        replace hx327_0 := qh_ HB hx327_0
                        replace p327 := eq_true p327
                        replace q327 := eq_true q327
                        go_wp2_with (first | ((with_reducible refine gate_builtin (b := .append) (xs := #[.tmp 63, .tmp 65]) rfl ?_); (try (refine gate_guard (by rfl) ?_; dsimp only)); at_builtin; refine Kd.R_append (Kd.int .i64) (w0 := w) w.heap.size rfl (.tmp 63) (.tmp 65) 27 3 (.int .i64 0) 8 rfl Tryd.underlying27 info3 rfl (by decide) (by omega) u15 x15_2 (wrap64 ((rd l3 x49_2) - 1)) [.int .i64 (wrap64 ((rd l3 x49_2) - 1))] (fun _ => True) (fun _ => False) rfl rfl ?aP (fun _ hk => hk.elim) ?aF ?aO ?aB ?aS ?aL ?_; (case aP => exact rfl); (case aB => exact qb_); (case aF => exact (fun _ _ => trivial)); (case aO => exact (qr_ HO_15)); (case aS => exact (below_size qb_)); (case aL => have := LMc20.out; omega); intro v329 w21 ho hb hg hat; rw [← Ny328.out] at ho; replace BK321 := Aside0.mk (blk_grown (g := gb321) (o := .cells #[.int .i64 a0_0, .int .i64 a0_1, .int .i64 a0_2, .int .i64 a0_3] 23 (0, 0)) (qk_ BK321) hg (Kd.R_ne HO_15.out BK321.out (by decide))); replace HB := Aside0.mk (hb); have HO330 := Aside0.mk (ho); clear HO_15 ho hb hg hat))
                        go_roundg k2
                        case measure => have := HJ7.out; have := HK2.out; omega
                        case rel => exact ⟨(y328), (wrap64 (x49_2 + 1)), qs_, H', ⟨by have := HJ7.out; have := HK2.out; omega⟩, ⟨by (with_reducible repeat (first | apply Kd.R_alloc | apply Kd.R_drewN | apply Kd.R_drew)); exact HO330.out⟩, ⟨qk_ BK321⟩, ⟨qb_⟩⟩
                      · rw [if_neg c20] at H
                        exact absurd H (by simp)
                    · rw [if_neg c19] at H
                      have c19b0 : decide ((wrap64 ((Int.tmod (wrap64 (a4)) (l1.length : Int)) + 1)) < (rd l3 x49_2)) = false := decide_eq_false c19
                      clear c19
                      by_cases c22 : (rd l3 x49_2) = (wrap64 ((Int.tmod (wrap64 (a4)) (l1.length : Int)) + 1))
                      · rw [if_pos c22] at H
                        have c22b0 : ((rd l3 x49_2) == (wrap64 ((Int.tmod (wrap64 (a4)) (l1.length : Int)) + 1))) = true := beq_iff_eq.mpr c22
                        have c22b1 : ((rd l3 x49_2) != (wrap64 ((Int.tmod (wrap64 (a4)) (l1.length : Int)) + 1))) = false := bne_eq_false_iff_eq.mpr c22
                        clear c22
                        have H' := Aside0.mk H
                        clear H
                        have p327 : 0 ≤ (x49_2 : Int) := of_decide_eq_true qa_
                        have q327 : x49_2 < (l3.length : Int) := of_decide_eq_true qa_
                        obtain ⟨ad327, e327, hx327_0⟩ := Kd.at_int HR3.out x49_2 p327 q327
                        cases e327
                        replace hx327_0 := qh_ HB hx327_0
                        replace p327 := eq_true p327
                        replace q327 := eq_true q327
                        go_wp2
                        go_roundg k2
                        case measure => have := HJ7.out; have := HK2.out; omega
                        case rel => exact ⟨(x15_2), (wrap64 (x49_2 + 1)), qs_, H', ⟨by have := HJ7.out; have := HK2.out; omega⟩, ⟨by (with_reducible repeat (first | apply Kd.R_alloc | apply Kd.R_drewN | apply Kd.R_drew)); exact HO_15.out⟩, ⟨qk_ BK321⟩, ⟨qb_⟩⟩
                      · rw [if_neg c22] at H
                        have c22b0 : ((rd l3 x49_2) == (wrap64 ((Int.tmod (wrap64 (a4)) (l1.length : Int)) + 1))) = false := beq_eq_false_iff_ne.mpr c22
                        have c22b1 : ((rd l3 x49_2) != (wrap64 ((Int.tmod (wrap64 (a4)) (l1.length : Int)) + 1))) = true := bne_iff_ne.mpr c22
                        by_cases c23 : x15_2.length < 17592186044416
                        · rw [if_pos c23] at H
                          have LMc23 := Aside0.mk c23
                          clear c23
                          obtain ⟨y331, hy331⟩ : ∃ y_ : List Int, y_ = (x15_2 ++ [rd l3 x49_2]) := ⟨_, rfl⟩
                          replace H : (cohousinglaw21_PointsWithout.l0 k2 l1 a2 l3 t322 (Int.tmod (wrap64 (a4)) (l1.length : Int)) y331 l3 (l3.length : Int) (wrap64 (x49_2 + 1)) a0_0 a0_1 a0_2 a0_3) = some r := by first | (rw [hy331]; with_reducible exact H) | (have H2_ := (Option.bind_some _ _).symm.trans H; rw [hy331]; with_reducible exact H2_) | (have H2_ := (Option.bind_some _ _).symm.trans H; with_reducible exact H2_) | with_reducible exact H | (rw [hy331]; exact H) | exact H
                          have Ny331 := Aside0.mk hy331
                          clear hy331
                          have H' := Aside0.mk H
                          clear H
                          have p327 : 0 ≤ (x49_2 : Int) := of_decide_eq_true qa_
                          have q327 : x49_2 < (l3.length : Int) := of_decide_eq_true qa_
                          obtain ⟨ad327, e327, hx327_0⟩ := Kd.at_int HR3.out x49_2 p327 q327
                          cases e327
                          replace hx327_0 := qh_ HB hx327_0
                          replace p327 := eq_true p327
                          replace q327 := eq_true q327
                          go_wp2_with (first | ((with_reducible refine gate_builtin (b := .append) (xs := #[.tmp 63, .tmp 65]) rfl ?_); (try (refine gate_guard (by rfl) ?_; dsimp only)); at_builtin; refine Kd.R_append (Kd.int .i64) (w0 := w) w.heap.size rfl (.tmp 63) (.tmp 65) 27 3 (.int .i64 0) 8 rfl Tryd.underlying27 info3 rfl (by decide) (by omega) u15 x15_2 (rd l3 x49_2) [.int .i64 (rd l3 x49_2)] (fun _ => True) (fun _ => False) rfl rfl ?aP (fun _ hk => hk.elim) ?aF ?aO ?aB ?aS ?aL ?_; (case aP => exact rfl); (case aB => exact qb_); (case aF => exact (fun _ _ => trivial)); (case aO => exact (qr_ HO_15)); (case aS => exact (below_size qb_)); (case aL => have := LMc23.out; omega); intro v332 w24 ho hb hg hat; rw [← Ny331.out] at ho; replace BK321 := Aside0.mk (blk_grown (g := gb321) (o := .cells #[.int .i64 a0_0, .int .i64 a0_1, .int .i64 a0_2, .int .i64 a0_3] 23 (0, 0)) (qk_ BK321) hg (Kd.R_ne HO_15.out BK321.out (by decide))); replace HB := Aside0.mk (hb); have HO333 := Aside0.mk (ho); clear HO_15 ho hb hg hat))
                          go_roundg k2
                          case measure => have := HJ7.out; have := HK2.out; omega
                          case rel => exact ⟨(y331), (wrap64 (x49_2 + 1)), qs_, H', ⟨by have := HJ7.out; have := HK2.out; omega⟩, ⟨by (with_reducible repeat (first | apply Kd.R_alloc | apply Kd.R_drewN | apply Kd.R_drew)); exact HO333.out⟩, ⟨qk_ BK321⟩, ⟨qb_⟩⟩
                        · rw [if_neg c23] at H
                          exact absurd H (by simp)
                  · rw [if_neg c18] at H
                    exact absurd H (by simp)
                · rw [if_neg c17] at H
                  exact absurd H (by simp)
              · rw [if_neg c16] at H
                have c16b0 : decide (x49_2 < (l3.length : Int)) = false := decide_eq_false c16
                clear c16
                replace H := Option.bind_eq_some_iff.mp H
                obtain ⟨⟨t334, t337⟩, A250, H⟩ := H
                replace H : ((some (([] : List (S25)) : List (S25))).bind fun y338 => (if 0 ≤ (Int.tmod (wrap64 (a4)) (l1.length : Int)) then (if (Int.tmod (wrap64 (a4)) (l1.length : Int)) ≤ (l1.length : Int) then ((some (l1.take ((Int.tmod (wrap64 (a4)) (l1.length : Int)) : Int).toNat : List (S25))).bind fun y341 => (if y338.length + y341.length < 3518437208883 then ((some (y338 ++ y341 : List (S25))).bind fun y345 => (if 0 ≤ (wrap64 ((Int.tmod (wrap64 (a4)) (l1.length : Int)) + 1)) then (if (wrap64 ((Int.tmod (wrap64 (a4)) (l1.length : Int)) + 1)) ≤ (l1.length : Int) then ((some (l1.drop ((wrap64 ((Int.tmod (wrap64 (a4)) (l1.length : Int)) + 1)) : Int).toNat : List (S25))).bind fun y348 => (if y345.length + y348.length < 3518437208883 then ((points_Order.f k2 a0_0 a0_1 a0_2 a0_3 (y345 ++ y348) a2 x15_2).bind fun bt355 => (if t337 = 0 then (cohousinglaw21_PointsWithout.j2 k2 t322 (Int.tmod (wrap64 (a4)) (l1.length : Int)) t334 bt355.1 (bt355.2 != 0)) else (cohousinglaw21_PointsWithout.j2 k2 t322 (Int.tmod (wrap64 (a4)) (l1.length : Int)) t334 bt355.1 true))) else (none))) else (none)) else (none))) else (none))) else (none)) else (none))) = some r := H
                have A25 := Aside0.mk A250
                clear A250
                obtain ⟨y338, hy338⟩ : ∃ y_ : List (S25), y_ = (([] : List (S25))) := ⟨_, rfl⟩
                replace H : (if 0 ≤ (Int.tmod (wrap64 (a4)) (l1.length : Int)) then (if (Int.tmod (wrap64 (a4)) (l1.length : Int)) ≤ (l1.length : Int) then ((some (l1.take ((Int.tmod (wrap64 (a4)) (l1.length : Int)) : Int).toNat : List (S25))).bind fun y341 => (if y338.length + y341.length < 3518437208883 then ((some (y338 ++ y341 : List (S25))).bind fun y345 => (if 0 ≤ (wrap64 ((Int.tmod (wrap64 (a4)) (l1.length : Int)) + 1)) then (if (wrap64 ((Int.tmod (wrap64 (a4)) (l1.length : Int)) + 1)) ≤ (l1.length : Int) then ((some (l1.drop ((wrap64 ((Int.tmod (wrap64 (a4)) (l1.length : Int)) + 1)) : Int).toNat : List (S25))).bind fun y348 => (if y345.length + y348.length < 3518437208883 then ((points_Order.f k2 a0_0 a0_1 a0_2 a0_3 (y345 ++ y348) a2 x15_2).bind fun bt355 => (if t337 = 0 then (cohousinglaw21_PointsWithout.j2 k2 t322 (Int.tmod (wrap64 (a4)) (l1.length : Int)) t334 bt355.1 (bt355.2 != 0)) else (cohousinglaw21_PointsWithout.j2 k2 t322 (Int.tmod (wrap64 (a4)) (l1.length : Int)) t334 bt355.1 true))) else (none))) else (none)) else (none))) else (none))) else (none)) else (none)) = some r := by first | (rw [hy338]; with_reducible exact H) | (have H2_ := (Option.bind_some _ _).symm.trans H; rw [hy338]; with_reducible exact H2_) | (have H2_ := (Option.bind_some _ _).symm.trans H; with_reducible exact H2_) | with_reducible exact H | (rw [hy338]; exact H) | exact H
                have Ny338 := Aside0.mk hy338
                clear hy338
                obtain ⟨ji26, hji26⟩ : ∃ j_ : Int, (Int.tmod (wrap64 (a4)) (l1.length : Int)) = j_ := ⟨_, rfl⟩
                replace H : (if 0 ≤ (ji26) then (if (ji26) ≤ (l1.length : Int) then ((some (l1.take ((ji26) : Int).toNat : List (S25))).bind fun y341 => (if y338.length + y341.length < 3518437208883 then ((some (y338 ++ y341 : List (S25))).bind fun y345 => (if 0 ≤ (wrap64 ((ji26) + 1)) then (if (wrap64 ((ji26) + 1)) ≤ (l1.length : Int) then ((some (l1.drop ((wrap64 ((ji26) + 1)) : Int).toNat : List (S25))).bind fun y348 => (if y345.length + y348.length < 3518437208883 then ((points_Order.f k2 a0_0 a0_1 a0_2 a0_3 (y345 ++ y348) a2 x15_2).bind fun bt355 => (if t337 = 0 then (cohousinglaw21_PointsWithout.j2 k2 t322 (ji26) t334 bt355.1 (bt355.2 != 0)) else (cohousinglaw21_PointsWithout.j2 k2 t322 (ji26) t334 bt355.1 true))) else (none))) else (none)) else (none))) else (none))) else (none)) else (none)) = some r := by first | (rw [hji26] at H; exact H) | (simp only [hji26] at H ⊢; exact H)
                (try rw [hji26] at A25)
                by_cases c27 : 0 ≤ (ji26)
                · rw [if_pos c27] at H
                  have c27b0 := eq_true c27
                  have c27b1 : decide (0 ≤ (ji26)) = true := decide_eq_true c27
                  clear c27
                  by_cases c28 : (ji26) ≤ (l1.length : Int)
                  · rw [if_pos c28] at H
                    have c28b0 := eq_true c28
                    have c28b1 : decide ((ji26) ≤ (l1.length : Int)) = true := decide_eq_true c28
                    clear c28
                    obtain ⟨y341, hy341⟩ : ∃ y_ : List (S25), y_ = (l1.take ((ji26) : Int).toNat) := ⟨_, rfl⟩
                    replace H : (if y338.length + y341.length < 3518437208883 then ((some (y338 ++ y341 : List (S25))).bind fun y345 => (if 0 ≤ (wrap64 ((ji26) + 1)) then (if (wrap64 ((ji26) + 1)) ≤ (l1.length : Int) then ((some (l1.drop ((wrap64 ((ji26) + 1)) : Int).toNat : List (S25))).bind fun y348 => (if y345.length + y348.length < 3518437208883 then ((points_Order.f k2 a0_0 a0_1 a0_2 a0_3 (y345 ++ y348) a2 x15_2).bind fun bt355 => (if t337 = 0 then (cohousinglaw21_PointsWithout.j2 k2 t322 (ji26) t334 bt355.1 (bt355.2 != 0)) else (cohousinglaw21_PointsWithout.j2 k2 t322 (ji26) t334 bt355.1 true))) else (none))) else (none)) else (none))) else (none)) = some r := by first | (rw [hy341]; with_reducible exact H) | (have H2_ := (Option.bind_some _ _).symm.trans H; rw [hy341]; with_reducible exact H2_) | (have H2_ := (Option.bind_some _ _).symm.trans H; with_reducible exact H2_) | with_reducible exact H | (rw [hy341]; exact H) | exact H
                    have Ny341 := Aside0.mk hy341
                    clear hy341
                    by_cases c29 : y338.length + y341.length < 3518437208883
                    · rw [if_pos c29] at H
                      have LMc29 := Aside0.mk c29
                      clear c29
                      obtain ⟨y345, hy345⟩ : ∃ y_ : List (S25), y_ = (y338 ++ y341) := ⟨_, rfl⟩
                      replace H : (if 0 ≤ (wrap64 ((ji26) + 1)) then (if (wrap64 ((ji26) + 1)) ≤ (l1.length : Int) then ((some (l1.drop ((wrap64 ((ji26) + 1)) : Int).toNat : List (S25))).bind fun y348 => (if y345.length + y348.length < 3518437208883 then ((points_Order.f k2 a0_0 a0_1 a0_2 a0_3 (y345 ++ y348) a2 x15_2).bind fun bt355 => (if t337 = 0 then (cohousinglaw21_PointsWithout.j2 k2 t322 (ji26) t334 bt355.1 (bt355.2 != 0)) else (cohousinglaw21_PointsWithout.j2 k2 t322 (ji26) t334 bt355.1 true))) else (none))) else (none)) else (none)) = some r := by first | (rw [hy345]; with_reducible exact H) | (have H2_ := (Option.bind_some _ _).symm.trans H; rw [hy345]; with_reducible exact H2_) | (have H2_ := (Option.bind_some _ _).symm.trans H; with_reducible exact H2_) | with_reducible exact H | (rw [hy345]; exact H) | exact H
                      have Ny345 := Aside0.mk hy345
                      clear hy345
                      obtain ⟨ji30, hji30⟩ : ∃ j_ : Int, (wrap64 ((ji26) + 1)) = j_ := ⟨_, rfl⟩
                      replace H : (if 0 ≤ (ji30) then (if (ji30) ≤ (l1.length : Int) then ((some (l1.drop ((ji30) : Int).toNat : List (S25))).bind fun y348 => (if y345.length + y348.length < 3518437208883 then ((points_Order.f k2 a0_0 a0_1 a0_2 a0_3 (y345 ++ y348) a2 x15_2).bind fun bt355 => (if t337 = 0 then (cohousinglaw21_PointsWithout.j2 k2 t322 (ji26) t334 bt355.1 (bt355.2 != 0)) else (cohousinglaw21_PointsWithout.j2 k2 t322 (ji26) t334 bt355.1 true))) else (none))) else (none)) else (none)) = some r := by first | (rw [hji30] at H; exact H) | (simp only [hji30] at H ⊢; exact H)
                      (try rw [hji30] at A25)
                      have hji30w : (IntKind.i64.wrap ((ji26) + 1)) = ji30 := (i64_w _).trans hji30
                      by_cases c31 : 0 ≤ (ji30)
                      · rw [if_pos c31] at H
                        have c31b0 := eq_true c31
                        have c31b1 : decide (0 ≤ (ji30)) = true := decide_eq_true c31
                        clear c31
                        by_cases c32 : (ji30) ≤ (l1.length : Int)
                        · rw [if_pos c32] at H
                          have c32b0 := eq_true c32
                          have c32b1 : decide ((ji30) ≤ (l1.length : Int)) = true := decide_eq_true c32
                          clear c32
                          obtain ⟨y348, hy348⟩ : ∃ y_ : List (S25), y_ = (l1.drop ((ji30) : Int).toNat) := ⟨_, rfl⟩
                          replace H : (if y345.length + y348.length < 3518437208883 then ((points_Order.f k2 a0_0 a0_1 a0_2 a0_3 (y345 ++ y348) a2 x15_2).bind fun bt355 => (if t337 = 0 then (cohousinglaw21_PointsWithout.j2 k2 t322 (ji26) t334 bt355.1 (bt355.2 != 0)) else (cohousinglaw21_PointsWithout.j2 k2 t322 (ji26) t334 bt355.1 true))) else (none)) = some r := by first | (rw [hy348]; with_reducible exact H) | (have H2_ := (Option.bind_some _ _).symm.trans H; rw [hy348]; with_reducible exact H2_) | (have H2_ := (Option.bind_some _ _).symm.trans H; with_reducible exact H2_) | with_reducible exact H | (rw [hy348]; exact H) | exact H
                          have Ny348 := Aside0.mk hy348
                          clear hy348
                          by_cases c33 : y345.length + y348.length < 3518437208883
                          · rw [if_pos c33] at H
                            have LMc33 := Aside0.mk c33
                            clear c33
                            obtain ⟨y352, hy352⟩ : ∃ y_ : List (S25), y_ = (y345 ++ y348) := ⟨_, rfl⟩
                            replace H : ((points_Order.f k2 a0_0 a0_1 a0_2 a0_3 y352 a2 x15_2).bind fun bt355 => (if t337 = 0 then (cohousinglaw21_PointsWithout.j2 k2 t322 (ji26) t334 bt355.1 (bt355.2 != 0)) else (cohousinglaw21_PointsWithout.j2 k2 t322 (ji26) t334 bt355.1 true))) = some r := by first | (rw [hy352]; with_reducible exact H) | (have H2_ := (Option.bind_some _ _).symm.trans H; rw [hy352]; with_reducible exact H2_) | (have H2_ := (Option.bind_some _ _).symm.trans H; with_reducible exact H2_) | with_reducible exact H | (rw [hy352]; exact H) | exact H
                            have Ny352 := Aside0.mk hy352
                            clear hy352
                            replace H := Option.bind_eq_some_iff.mp H
                            obtain ⟨⟨t355, t358⟩, A340, H⟩ := H
                            replace H : (if t337 = 0 then (cohousinglaw21_PointsWithout.j2 k2 t322 (ji26) t334 t355 (t358 != 0)) else (cohousinglaw21_PointsWithout.j2 k2 t322 (ji26) t334 t355 true)) = some r := H
                            have A34 := Aside0.mk A340
                            clear A340
                            have HC35 := Aside0.mk H
                            clear H
                            obtain ⟨hcz36_0, hcz36_1, hcz36_2, hcz36_3⟩ := qz4_ BK321; obtain ⟨hfz36_0, hfz36_1, hfz36_2, hfz36_3⟩ := qf4_ BK321
                            try go_wp2_with (first | ((with_reducible refine gate_callee (f := 13) rfl ?_); refine goesL_ (some 73) rfl rfl Tryd.func13 (by kernel_rfl) rfl #[.agg #[.int .i64 a0_0, .int .i64 a0_1, .int .i64 a0_2, .int .i64 a0_3], .slice A1 l1.length c1, .int .i64 a2, .slice A3 l3.length c3] rfl ql_ ?_; (with_reducible refine (points_Order.calls k2 a0_0 a0_1 a0_2 a0_3 _ _ l1 a2 _ _ l3 t334 t337 _ ?side1 ?side2 ?side3 ?side4 ?side5 A25.out).mono ?_); (case side1 => exact qc_ HR1); (case side2 => exact HC1.out); (case side3 => exact qc_ HR3); (case side4 => exact HC3.out); (case side5 => exact TabOK.below HTA.out qb_); rintro e w37 ⟨v335, rfl, ho0, hb⟩; refine ⟨_, rfl, ?_⟩; have HO336 := Aside0.mk (Kd.R_lower (Kd.R_new' ho0 (Kd.R_lt (qr_ HO_15))) (below_size qb_)); replace HO_15 := qel_ HO_15 ho0 hb; replace BK321 := qkb_ BK321 hb; replace HB := qbs_ hb; (try clear hb); (try clear hb2); (try clear hk); (try clear hi); (try clear ho0)))
                            replace HO_15 := Aside0.mk (Kd.R_drew HO_15.out)
                            replace HO336 := Aside0.mk (Kd.R_drew HO336.out)
                            replace BK321 := Aside0.mk (blk_drew BK321.out)
                            replace HB := Aside0.mk (below_drew1 HB.out)
                            have q39 : ((ji26) : Int) ≤ ((l1.length : Int) : Int) := of_decide_eq_true qa_
                            obtain ⟨i039, hi039, _, hsz39, _⟩ := info_parts info25
                            have hroom39 : l1.length ≤ c1 := HC1.out
                            have hC39 : Kd.C k25 _ A1 l1.length l1 := HR1.out
                            have hcut39 := cut_to (P := Tryd.prog) 26 25 .i64 Tryd.underlying26 hi039 A1 l1.length c1 (ji26) (of_decide_eq_true qa_) q39 hroom39
                            have hr39 := Kd.C_take (m := ((ji26) : Int).toNat) hC39 (by omega)
                            have hy39 : y341.length = ((ji26) : Int).toNat := (by rw [Ny341.out, List.length_take]; omega)
                            rw [← Ny341.out] at hr39
                            rw [← hy39] at hcut39
                            have HR344 := Aside0.mk hr39
                            have HC344 := Aside0.mk (show y341.length ≤ c1 from by omega)
                            clear hr39 hC39 hroom39 hi039 hsz39
                            have KY39 := Aside0.mk hy39
                            clear hy39
                            replace q39 := eq_true q39
                            have q40 : ((ji30) : Int) ≤ ((l1.length : Int) : Int) := of_decide_eq_true qa_
                            obtain ⟨i040, hi040, _, hsz40, _⟩ := info_parts info25
                            have hroom40 : l1.length ≤ c1 := HC1.out
                            have hC40 : Kd.C k25 _ A1 l1.length l1 := HR1.out
                            have q040 : (0 : Int) ≤ ((ji30) : Int) := of_decide_eq_true qa_
                            have hcut40 := cut_from (P := Tryd.prog) 26 25 .i64 Tryd.underlying26 hi040 5 hsz40 A1 l1.length c1 (ji30) q040 q40
                            have hr40 := Kd.C_drop (m := ((ji30) : Int).toNat) (c := c1) hC40 (by omega) hroom40
                            obtain ⟨A40, hA40⟩ : ∃ A1_, A1_ = (if c1 = ((ji30) : Int).toNat then A1 else (A1 : Option Addr).map (·.add (((ji30) : Int).toNat * 5))) := ⟨_, rfl⟩
                            obtain ⟨c40, hc40⟩ : ∃ c1_, c1_ = c1 - ((ji30) : Int).toNat := ⟨_, rfl⟩
                            have hy40 : y348.length = l1.length - ((ji30) : Int).toNat := (by rw [Ny348.out, List.length_drop] <;> omega)
                            rw [show (l1).drop ((ji30) : Int).toNat = y348 from Ny348.out.symm] at hr40
                            replace hr40 : Kd.C k25 _ A40 y348.length y348 := (by rw [hA40]; exact hr40)
                            rw [← hy40, ← hA40, ← hc40] at hcut40
                            have HR351 := Aside0.mk hr40
                            have HC351 := Aside0.mk (show y348.length ≤ c40 from by rw [hy40, hc40]; exact Nat.sub_le_sub_right hroom40 _)
                            clear hr40 hC40 hroom40 hi040 hsz40 hc40
                            have KY40 := Aside0.mk hy40
                            have KA40 := Aside0.mk hA40
                            clear hy40 hA40
                            replace q40 := eq_true q40
                            refine start_ (n := 19) (S := fun w' => w'.cell? ⟨gb321, 0, none⟩ = some (.int .i64 a0_0) ∧ w'.cell? ⟨gb321, 1, none⟩ = some (.int .i64 a0_1) ∧ w'.cell? ⟨gb321, 2, none⟩ = some (.int .i64 a0_2) ∧ w'.cell? ⟨gb321, 3, none⟩ = some (.int .i64 a0_3)) (ds := []) #[i_,i_,i_,i_,i_,i_,i_,i_,i_,i_,i_,i_,i_,i_,i_,i_,i_,i_,i_] (by kernel_rfl) rfl rfl ⟨(blk_cell BK321.out 0).trans rfl, (blk_cell BK321.out 1).trans rfl, (blk_cell BK321.out 2).trans rfl, (blk_cell BK321.out 3).trans rfl⟩ (fun hHeld => ?_); refine with_tabW cohousinglaw21_PointsWithout.tab16 cohousinglaw21_PointsWithout.bits16 (fun HT_ HW_ => ?_)
                            generalize w37.drew = w38 at HO_15 HO336 BK321 HB HR344 HR351 hHeld ⊢
                            refine qpu_ 2 (some 79) #[i_,i_,o_,i_,i_,i_,i_,i_,i_,i_,i_,i_,i_,i_,i_,i_,i_,i_,i_] ?_
                            refine qpu_ 3 (some 80) #[i_,i_,o_,o_,i_,i_,i_,i_,i_,i_,i_,i_,i_,i_,i_,i_,i_,i_,i_] ?_
                            refine qpu_ 4 (some 81) #[i_,i_,o_,o_,o_,i_,i_,i_,i_,i_,i_,i_,i_,i_,i_,i_,i_,i_,i_] ?_
                            refine qpu_ 6 (some 83) #[i_,i_,o_,o_,o_,i_,o_,i_,i_,i_,i_,i_,i_,i_,i_,i_,i_,i_,i_] ?_
                            refine qpu_ 7 (some 84) #[i_,i_,o_,o_,o_,i_,o_,o_,i_,i_,i_,i_,i_,i_,i_,i_,i_,i_,i_] ?_
                            refine qpu_ 8 (some 85) #[i_,i_,o_,o_,o_,i_,o_,o_,o_,i_,i_,i_,i_,i_,i_,i_,i_,i_,i_] ?_
                            refine qpu_ 9 (some 86) #[i_,i_,o_,o_,o_,i_,o_,o_,o_,o_,i_,i_,i_,i_,i_,i_,i_,i_,i_] ?_
                            refine qpu_ 11 (some 88) #[i_,i_,o_,o_,o_,i_,o_,o_,o_,o_,i_,o_,i_,i_,i_,i_,i_,i_,i_] ?_
                            refine qpu_ 12 (some 89) #[i_,i_,o_,o_,o_,i_,o_,o_,o_,o_,i_,o_,o_,i_,i_,i_,i_,i_,i_] ?_
                            refine take_ (i := 0) (N := some 77) (v := ?_) (a' := ?_) #[o_,i_,o_,o_,o_,i_,o_,o_,o_,o_,i_,o_,o_,i_,i_,i_,i_,i_,i_] rfl rfl (take_ofW HT_.out HW_.out (by kernel_rfl)) (fun _ _ _ h => h) (Or.inl ⟨by rfl, ?_⟩) hHeld ?_ ?_
                            rotate_left
                            · rintro w' ⟨s0, s1, s2, s3⟩
                              go_simp
                              with_reducible rfl
                            rotate_left
                            · exact qp_
                            refine one_ (i := 1) (N := some 78) #[o_,o_,o_,o_,o_,i_,o_,o_,o_,o_,i_,o_,o_,i_,i_,i_,i_,i_,i_] rfl rfl (one_of HT_.out (by kernel_rfl)) (by decide) (fun K hK => ?_)
                            refine Kd.R_lit_step k25 _ 25 ?hg (N := 78) ?hd (xs := ([] : List (S25))) (inner := []) (ok := fun _ => True) (okp := fun _ => True) ?hr ?hp (fun _ hk => hk) trivial (Below.refl _ _) (Nat.le_refl _) (by simp) ?_; (case hd => rfl); (case hg => rfl); (case hr => exact qq_); (case hp => exact (Reps.none _ _))
                            intro v339 w41 ho42 hb hg_ hnew_
                            clear hg_ hnew_
                            (first | rw [← Ny338.out] at ho42 | (simp only [Int.reduceToNat] at ho42; rw [← Ny338.out] at ho42))
                            replace HO_15 := qrb_ HO_15 hb
                            replace HO336 := qrb_ HO336 hb
                            have HO340 := Aside0.mk (Kd.R_lower ho42 (below_size qb_))
                            replace BK321 := qkb_ BK321 hb
                            replace HB := qbs_ hb
                            clear hb ho42
                            refine hK.out _ _ ⟨(blk_cell BK321.out 0).trans rfl, (blk_cell BK321.out 1).trans rfl, (blk_cell BK321.out 2).trans rfl, (blk_cell BK321.out 3).trans rfl⟩ (fun hHeld => ?_)
                            clear hK K
                            refine norm_ (a' := ?_) ?_ ?_
                            rotate_left
                            · show Act.put _ (some 78) _ = _
                              exact qp_
                            refine one_ (i := 5) (N := some 82) #[o_,o_,o_,o_,o_,o_,o_,o_,o_,o_,i_,o_,o_,i_,i_,i_,i_,i_,i_] rfl rfl (one_of HT_.out (by kernel_rfl)) (by decide) (fun K hK => ?_)
                            refine Kd.R_append_rows_step k25 (w0 := w) w.heap.size (by rfl) (.tmp 78) (.tmp 81) 26 25 (.agg #[(.int .i64 0), (.int .i64 0), (.int .i64 0), (.int .i64 0), (.int .i64 0)]) 40 rfl Tryd.underlying26 info25 rfl (by decide) (by omega) v339 y338 y341 _ _ _ (fun _ => True) (fun _ => False) rfl rfl ?aO ?aR (fun _ _ h => h) (fun _ h => h.elim) ?aF ?aB ?aS ?aL ?_
                            (case aR => repeat (first | exact (Kd.C_below HR344.out HB.out) | (with_reducible refine Kd.C_alloc ?_ _) | (with_reducible refine Kd.C_drewN ?_ _) | (with_reducible refine Kd.C_drew ?_)))
                            (case aB => exact qb_)
                            (case aF => exact (fun _ _ => trivial))
                            (case aO => exact (qr_ HO340))
                            (case aS => exact (below_size qb_))
                            (case aL => have := LMc29.out; omega)
                            intro v346 w43 ho hb hg hat
                            rw [← Ny345.out] at ho
                            replace HO_15 := Aside0.mk (Kd.R_over' (qr_ HO_15) (Kd.R_typed (qr_ HO340)) (by decide) hg)
                            replace BK321 := Aside0.mk (blk_grown (g := gb321) (o := .cells #[.int .i64 a0_0, .int .i64 a0_1, .int .i64 a0_2, .int .i64 a0_3] 23 (0, 0)) (qk_ BK321) hg (Kd.R_ne HO340.out BK321.out (by decide)))
                            replace HO336 := Aside0.mk (Kd.R_over' (qr_ HO336) (Kd.R_typed (qr_ HO340)) (by decide) hg)
                            replace HB := Aside0.mk (hb)
                            have HO347 := Aside0.mk (ho)
                            clear HO340 ho hb hg hat
                            refine hK.out _ _ ⟨(blk_cell BK321.out 0).trans rfl, (blk_cell BK321.out 1).trans rfl, (blk_cell BK321.out 2).trans rfl, (blk_cell BK321.out 3).trans rfl⟩ (fun hHeld => ?_)
                            clear hK K
                            refine norm_ (a' := ?_) ?_ ?_
                            rotate_left
                            · show Act.put _ (some 82) _ = _
                              exact qp_
                            refine one_ (i := 10) (N := some 87) #[o_,o_,o_,o_,o_,o_,o_,o_,o_,o_,o_,o_,o_,i_,i_,i_,i_,i_,i_] rfl rfl (one_of HT_.out (by kernel_rfl)) (by decide) (fun K hK => ?_)
                            refine Kd.R_append_rows_step k25 (w0 := w) w.heap.size (by rfl) (.tmp 82) (.tmp 86) 26 25 (.agg #[(.int .i64 0), (.int .i64 0), (.int .i64 0), (.int .i64 0), (.int .i64 0)]) 40 rfl Tryd.underlying26 info25 rfl (by decide) (by omega) v346 y345 y348 _ _ _ (fun _ => True) (fun _ => False) rfl rfl ?aO ?aR (fun _ _ h => h) (fun _ h => h.elim) ?aF ?aB ?aS ?aL ?_
                            (case aR => repeat (first | exact (Kd.C_below HR351.out HB.out) | (with_reducible refine Kd.C_alloc ?_ _) | (with_reducible refine Kd.C_drewN ?_ _) | (with_reducible refine Kd.C_drew ?_)))
                            (case aB => exact qb_)
                            (case aF => exact (fun _ _ => trivial))
                            (case aO => exact (qr_ HO347))
                            (case aS => exact (below_size qb_))
                            (case aL => have := LMc33.out; omega)
                            intro v353 w44 ho hb hg hat
                            rw [← Ny352.out] at ho
                            replace HO_15 := Aside0.mk (Kd.R_over' (qr_ HO_15) (Kd.R_typed (qr_ HO347)) (by decide) hg)
                            replace BK321 := Aside0.mk (blk_grown (g := gb321) (o := .cells #[.int .i64 a0_0, .int .i64 a0_1, .int .i64 a0_2, .int .i64 a0_3] 23 (0, 0)) (qk_ BK321) hg (Kd.R_ne HO347.out BK321.out (by decide)))
                            replace HO336 := Aside0.mk (Kd.R_over' (qr_ HO336) (Kd.R_typed (qr_ HO347)) (by decide) hg)
                            replace HB := Aside0.mk (hb)
                            have HO354 := Aside0.mk (ho)
                            clear HO347 ho hb hg hat
                            obtain ⟨Ao45, co45, eo45⟩ := Kd.R_slice HO354.out
                            (first | subst eo45 | (injection eo45 with f1_ f2_ f3_; have f4_ := f1_.symm; have f5_ := f3_.symm; clear f1_ f2_ f3_; subst f4_; subst f5_))
                            obtain ⟨Ao46, co46, eo46⟩ := Kd.R_slice HO_15.out
                            (first | subst eo46 | (injection eo46 with f1_ f2_ f3_; have f4_ := f1_.symm; have f5_ := f3_.symm; clear f1_ f2_ f3_; subst f4_; subst f5_))
                            refine hK.out _ _ ⟨(blk_cell BK321.out 0).trans rfl, (blk_cell BK321.out 1).trans rfl, (blk_cell BK321.out 2).trans rfl, (blk_cell BK321.out 3).trans rfl⟩ (fun hHeld => ?_)
                            clear hK K
                            refine norm_ (a' := ?_) ?_ ?_
                            rotate_left
                            · show Act.put _ (some 87) _ = _
                              exact qp_
                            refine one_ (i := 13) (N := some 90) #[o_,o_,o_,o_,o_,o_,o_,o_,o_,o_,o_,o_,o_,o_,i_,i_,i_,i_,i_] rfl rfl (one_of HT_.out (by kernel_rfl)) (by decide) (fun K hK => ?_)
                            refine goes_ Tryd.func13 (by kernel_rfl) rfl #[.agg #[.int .i64 a0_0, .int .i64 a0_1, .int .i64 a0_2, .int .i64 a0_3], .slice Ao45 y352.length co45, .int .i64 a2, .slice Ao46 x15_2.length co46] (by rfl) rfl rfl ql_ ?_
                            with_reducible refine (points_Order.calls k2 a0_0 a0_1 a0_2 a0_3 _ _ y352 a2 _ _ x15_2 t355 t358 _ ?side1 ?side2 ?side3 ?side4 ?side5 A34.out).mono ?_
                            (case side1 => exact qv_ (Kd.R_reads' HO354.out).2.2)
                            (case side2 => exact (Kd.R_reads' HO354.out).2.1)
                            (case side3 => exact qv_ (Kd.R_reads' HO_15.out).2.2)
                            (case side4 => exact (Kd.R_reads' HO_15.out).2.1)
                            (case side5 => exact TabOK.below HTA.out qb_)
                            rintro e w47 ⟨v356, rfl, ho0, hb⟩
                            refine ⟨_, rfl, ?_⟩
                            replace HO354 := qrb_ HO354 hb
                            have HO357 := Aside0.mk (Kd.R_lower (Kd.R_new' (Kd.R_new' ho0 (Kd.R_lt (qr_ HO_15))) (Kd.R_lt (qr_ HO336))) (below_size qb_))
                            replace HO_15 := qel_ HO_15 ho0 hb
                            replace HO336 := qel_ HO336 ho0 hb
                            replace BK321 := qkb_ BK321 hb
                            replace HB := qbs_ hb
                            (try clear hb)
                            (try clear hb2)
                            (try clear hk)
                            (try clear hi)
                            (try clear ho0)
                            refine hK.out _ _ ⟨(blk_cell BK321.out 0).trans rfl, (blk_cell BK321.out 1).trans rfl, (blk_cell BK321.out 2).trans rfl, (blk_cell BK321.out 3).trans rfl⟩ (fun hHeld => ?_)
                            clear hK K
                            refine norm_ (a' := ?_) ?_ ?_
                            rotate_left
                            · show Act.put _ (some 90) _ = _
                              exact qp_
                            refine qpu_ 14 (some 76) #[o_,o_,o_,o_,o_,o_,o_,o_,o_,o_,o_,o_,o_,o_,o_,i_,i_,i_,i_] ?_
                            refine qpu_ 15 (some 91) #[o_,o_,o_,o_,o_,o_,o_,o_,o_,o_,o_,o_,o_,o_,o_,o_,i_,i_,i_] ?_
                            refine qpu_ 16 (some 92) #[o_,o_,o_,o_,o_,o_,o_,o_,o_,o_,o_,o_,o_,o_,o_,o_,o_,i_,i_] ?_
                            refine qpu_ 17 (some 20) #[o_,o_,o_,o_,o_,o_,o_,o_,o_,o_,o_,o_,o_,o_,o_,o_,o_,o_,i_] ?_
                            refine qpu_ 18 (some 21) #[o_,o_,o_,o_,o_,o_,o_,o_,o_,o_,o_,o_,o_,o_,o_,o_,o_,o_,o_] ?_
                            refine done_ (done_of HT_.out (by kernel_rfl)) ?_
                            go_upto_region 17 with (fail)
                            go_cut [98] (fun v98 wc => ∃ (kq : Nat) (x98_34 : Bool), v98 = .bool x98_34 ∧ Aside0 (cohousinglaw21_PointsWithout.j2 kq t322 (ji26) t334 t355 x98_34 = some r) ∧ Aside0 (kq ≤ k2) ∧ Aside0 (Kd.R (Kd.int .i64) 3 wc w.heap.size (fun k_ => some k_ ≠ (v356 : Value).ownBlock) v335 t334) ∧ Aside0 (Kd.R (Kd.int .i64) 3 wc w.heap.size (fun k_ => some k_ ≠ (v335 : Value).ownBlock) v356 t355) ∧ Aside0 (wc.heap[gb321]? = some (.cells #[.int .i64 a0_0, .int .i64 a0_1, .int .i64 a0_2, .int .i64 a0_3] 23 (0, 0))) ∧ Aside0 (Below w.heap.size w wc))
                            case first =>
                              have H := HC35.out
                              clear HC35
                              by_cases c48 : t337 = 0
                              · rw [if_pos c48] at H
                                have c48b0 : (t337 == 0) = true := beq_iff_eq.mpr c48
                                have c48b1 : (t337 != 0) = false := bne_eq_false_iff_eq.mpr c48
                                clear c48
                                (first | rw [c48b0] | (simp only [i64_w, i32_w]; rw [c48b0]) | skip)
                                have H' := Aside0.mk H
                                clear H
                                go_wp2
                                go_meet
                                case rel => exact ⟨_, ((t358 != 0)), qs_, H', ⟨by have := HJ7.out; have := HK2.out; first | omega | exact Nat.le_refl _⟩, ⟨by (with_reducible repeat (first | apply Kd.R_alloc | apply Kd.R_drewN | apply Kd.R_drew)); exact Kd.R_mono HO336.out (fun _ hk => hk.2)⟩, ⟨by (with_reducible repeat (first | apply Kd.R_alloc | apply Kd.R_drewN | apply Kd.R_drew)); exact Kd.R_mono HO357.out (fun _ hk => hk.2)⟩, ⟨qk_ BK321⟩, ⟨qb_⟩⟩
                              · rw [if_neg c48] at H
                                have c48b0 : (t337 == 0) = false := beq_eq_false_iff_ne.mpr c48
                                have c48b1 : (t337 != 0) = true := bne_iff_ne.mpr c48
                                (first | rw [c48b0] | (simp only [i64_w, i32_w]; rw [c48b0]) | skip)
                                have H' := Aside0.mk H
                                clear H
                                go_wp2
                                go_meet
                                case rel => exact ⟨_, (true), qs_, H', ⟨by have := HJ7.out; have := HK2.out; first | omega | exact Nat.le_refl _⟩, ⟨by (with_reducible repeat (first | apply Kd.R_alloc | apply Kd.R_drewN | apply Kd.R_drew)); exact Kd.R_mono HO336.out (fun _ hk => hk.2)⟩, ⟨by (with_reducible repeat (first | apply Kd.R_alloc | apply Kd.R_drewN | apply Kd.R_drew)); exact Kd.R_mono HO357.out (fun _ hk => hk.2)⟩, ⟨qk_ BK321⟩, ⟨qb_⟩⟩
                            case rest =>
                              clear HC35
                              try clear c1
                              try clear c2
                              try clear p2
                              try clear c3
                              try clear p3
                              try clear q3
                              try clear hx3
                              try clear c4
                              try clear q4
                              try clear c6
                              try clear p6
                              try clear c10
                              try clear c13
                              try clear c14
                              try clear c15
                              try clear c15b0
                              try clear c15b1
                              try clear c15b2
                              try clear c16
                              try clear c16b0
                              try clear c17
                              try clear c17b0
                              try clear c18
                              try clear c18b0
                              try clear c19
                              try clear c19b0
                              try clear c20
                              try clear c22
                              try clear c22b0
                              try clear c22b1
                              try clear c23
                              try clear c27
                              try clear c27b0
                              try clear c27b1
                              try clear c28
                              try clear c28b0
                              try clear c28b1
                              try clear c29
                              try clear c31
                              try clear c31b0
                              try clear c31b1
                              try clear c32
                              try clear c32b0
                              try clear c32b1
                              try clear p32
                              try clear q32
                              try clear hx32
                              try clear c33
                              try clear q39
                              try clear c40
                              try clear q40
                              try clear c48
                              try clear c48b0
                              try clear c48b1
                              try clear hcz11_0 hcz11_1 hcz11_2 hcz11_3
                              try clear hcz36_0 hcz36_1 hcz36_2 hcz36_3
                              try clear hfz11_0 hfz11_1 hfz11_2 hfz11_3
                              try clear hfz36_0 hfz36_1 hfz36_2 hfz36_3
                              try clear hx327_0
                              try clear p2
                              try clear p327
                              try clear p6
                              try clear q040
                              try clear q327
                              try clear q39
                              try clear q40
                              obtain ⟨kq, x98_34, rfl, HA, HJ34, HO_18, HO_20, BK321, HB⟩ := hcut
                              cases kq with
                              | zero => exact absurd HA.out (by simp [cohousinglaw21_PointsWithout.j2])
                              | succ kj34 =>
                                have H := HA.out
                                clear HA
                                simp only [cohousinglaw21_PointsWithout.j2] at H
                                by_cases c49 : x98_34 = true
                                · subst c49
                                  have H1 : (some false) = some r := by rw [if_pos rfl] at H; exact H
                                  clear H
                                  have H := H1
                                  clear H1
                                  obtain rfl := Option.some.inj H
                                  go_wp2
                                  go_ret
                                  exact ⟨by first | rfl | (simp [errW_none, errW_some] <;> rfl) | (simp only [← hji26, ← hji30]; first | rfl | (simp [errW_none, errW_some] <;> rfl)) | (simp [*, errW_none, errW_some] <;> rfl), qb_⟩
                                · replace c49 := Bool.eq_false_iff.mpr c49
                                  subst c49
                                  have H1 : (cohousinglaw21_PointsWithout.l1 kj34 t322 (ji26) t355 ([] : List Int) t334 (t334.length : Int) 0) = some r := by rw [if_neg (show ¬ (false = true) by decide)] at H; exact H
                                  clear H
                                  have H := H1
                                  clear H1
                                  have H' := Aside0.mk H
                                  clear H
                                  obtain ⟨Ao50, co50, eo50⟩ := Kd.R_slice HO_18.out
                                  subst eo50
                                  go_wp2
                                  go_loopg [22, 101] kj34 (fun kq v22 v101 w' => ∃ (x22_4 : List Int) (x101_4 : Int), v101 = .int .i64 x101_4 ∧ Aside0 (cohousinglaw21_PointsWithout.l1 kq t322 (ji26) t355 x22_4 t334 (t334.length : Int) x101_4 = some r) ∧ Aside0 (kq ≤ kj34) ∧ Aside0 (Kd.R (Kd.int .i64) 3 w' w.heap.size (fun k_ => some k_ ≠ (v22 : Value).ownBlock ∧ some k_ ≠ ((.slice Ao50 t334.length co50) : Value).ownBlock) v356 t355) ∧ Aside0 (Kd.R (Kd.int .i64) 3 w' w.heap.size (fun k_ => some k_ ≠ (v356 : Value).ownBlock ∧ some k_ ≠ ((.slice Ao50 t334.length co50) : Value).ownBlock) v22 x22_4) ∧ Aside0 (Kd.R (Kd.int .i64) 3 w' w.heap.size (fun k_ => some k_ ≠ (v356 : Value).ownBlock ∧ some k_ ≠ (v22 : Value).ownBlock) (.slice Ao50 t334.length co50) t334) ∧ Aside0 (w'.heap[gb321]? = some (.cells #[.int .i64 a0_0, .int .i64 a0_1, .int .i64 a0_2, .int .i64 a0_3] 23 (0, 0))) ∧ Aside0 (Below w.heap.size w w'))
                                  case atStart => exact ⟨(([] : List Int)), (0), qs_, H', ⟨Nat.le_refl _⟩, ⟨by (with_reducible repeat (first | apply Kd.R_alloc | apply Kd.R_drewN | apply Kd.R_drew)); exact Kd.R_mono HO_20.out (fun _ hk => ⟨(by simp [Value.ownBlock]), hk⟩)⟩, ⟨by first | exact Kd.R_nil _ _ _ _ _ | exact Kd.N_nil _ _ _ _ _ | exact Kd.V_nil _ _ _ _ _ | exact Kd.Q_nil _ _ _ _ _ | exact Kd.S_nil _ _ _ _ _⟩, ⟨by (with_reducible repeat (first | apply Kd.R_alloc | apply Kd.R_drewN | apply Kd.R_drew)); exact Kd.R_mono HO_18.out (fun _ hk => ⟨hk, (by simp [Value.ownBlock])⟩)⟩, ⟨qk_ BK321⟩, ⟨qb_⟩⟩
                                  case round =>
                                    clear H'
                                    try clear c1
                                    try clear c2
                                    try clear p2
                                    try clear c3
                                    try clear p3
                                    try clear q3
                                    try clear hx3
                                    try clear c4
                                    try clear q4
                                    try clear c6
                                    try clear p6
                                    try clear c10
                                    try clear c13
                                    try clear c14
                                    try clear c15
                                    try clear c15b0
                                    try clear c15b1
                                    try clear c15b2
                                    try clear c16
                                    try clear c16b0
                                    try clear c17
                                    try clear c17b0
                                    try clear c18
                                    try clear c18b0
                                    try clear c19
                                    try clear c19b0
                                    try clear c20
                                    try clear c22
                                    try clear c22b0
                                    try clear c22b1
                                    try clear c23
                                    try clear c27
                                    try clear c27b0
                                    try clear c27b1
                                    try clear c28
                                    try clear c28b0
                                    try clear c28b1
                                    try clear c29
                                    try clear c31
                                    try clear c31b0
                                    try clear c31b1
                                    try clear c32
                                    try clear c32b0
                                    try clear c32b1
                                    try clear p32
                                    try clear q32
                                    try clear hx32
                                    try clear c33
                                    try clear q39
                                    try clear c40
                                    try clear q40
                                    try clear c48
                                    try clear c48b0
                                    try clear c48b1
                                    try clear c49
                                    try clear hcz11_0 hcz11_1 hcz11_2 hcz11_3
                                    try clear hcz36_0 hcz36_1 hcz36_2 hcz36_3
                                    try clear hfz11_0 hfz11_1 hfz11_2 hfz11_3
                                    try clear hfz36_0 hfz36_1 hfz36_2 hfz36_3
                                    try clear hx327_0
                                    try clear p2
                                    try clear p3
                                    try clear p32
                                    try clear p327
                                    try clear p6
                                    try clear q040
                                    try clear q3
                                    try clear q32
                                    try clear q327
                                    try clear q39
                                    try clear q4
                                    try clear q40
                                    obtain ⟨x22_4, x101_4, rfl, HA, HK4, HO_20, HO_22, HO_99, BK321, HB⟩ := hrel
                                    cases gk with
                                    | zero => exact absurd HA.out (by simp [cohousinglaw21_PointsWithout.l1])
                                    | succ k4 =>
                                      have H := HA.out
                                      clear HA
                                      simp only [cohousinglaw21_PointsWithout.l1] at H
                                      by_cases c51 : x101_4 < (t334.length : Int)
                                      · rw [if_pos c51] at H
                                        have c51b0 : decide (x101_4 < (t334.length : Int)) = true := decide_eq_true c51
                                        clear c51
                                        by_cases c52 : 0 ≤ x101_4
                                        · rw [if_pos c52] at H
                                          have c52b0 : decide (0 ≤ x101_4) = true := decide_eq_true c52
                                          clear c52
                                          by_cases c53 : x101_4 < (t334.length : Int)
                                          · rw [if_pos c53] at H
                                            have c53b0 : decide (x101_4 < (t334.length : Int)) = true := decide_eq_true c53
                                            clear c53
                                            by_cases c54 : (rd t334 x101_4) > (ji26)
                                            · rw [if_pos c54] at H
                                              have c54b0 : decide ((ji26) < (rd t334 x101_4)) = true := decide_eq_true c54
                                              clear c54
                                              by_cases c55 : x22_4.length < 17592186044416
                                              · rw [if_pos c55] at H
                                                have LMc55 := Aside0.mk c55
                                                clear c55
                                                obtain ⟨y361, hy361⟩ : ∃ y_ : List Int, y_ = (x22_4 ++ [wrap64 ((rd t334 x101_4) - 1)]) := ⟨_, rfl⟩
                                                replace H : (cohousinglaw21_PointsWithout.l1 k4 t322 (ji26) t355 y361 t334 (t334.length : Int) (wrap64 (x101_4 + 1))) = some r := by first | (rw [hy361]; with_reducible exact H) | (have H2_ := (Option.bind_some _ _).symm.trans H; rw [hy361]; with_reducible exact H2_) | (have H2_ := (Option.bind_some _ _).symm.trans H; with_reducible exact H2_) | with_reducible exact H | (rw [hy361]; exact H) | exact H
                                                have Ny361 := Aside0.mk hy361
                                                clear hy361
                                                have H' := Aside0.mk H
                                                clear H
                                                have p360 : 0 ≤ (x101_4 : Int) := of_decide_eq_true qa_
                                                have q360 : x101_4 < (t334.length : Int) := of_decide_eq_true qa_
                                                obtain ⟨ad360, e360, hx360_0⟩ := Kd.at_int (Kd.R_reads' HO_99.out).2.2 x101_4 p360 q360
                                                cases e360
                                                replace p360 := eq_true p360
                                                replace q360 := eq_true q360
                                                go_wp2_with (first | ((with_reducible refine gate_builtin (b := .append) (xs := #[.tmp 108, .tmp 111]) rfl ?_); (try (refine gate_guard (by rfl) ?_; dsimp only)); at_builtin; refine Kd.R_append (Kd.int .i64) (w0 := w) w.heap.size rfl (.tmp 108) (.tmp 111) 27 3 (.int .i64 0) 8 rfl Tryd.underlying27 info3 rfl (by decide) (by omega) u22 x22_4 (wrap64 ((rd t334 x101_4) - 1)) [.int .i64 (wrap64 ((rd t334 x101_4) - 1))] (fun k_ => some k_ ≠ (v356 : Value).ownBlock ∧ some k_ ≠ (.slice (some ad360) t334.length co50 : Value).ownBlock) (fun _ => False) rfl rfl ?aP (fun _ hk => hk.elim) ?aF ?aO ?aB ?aS ?aL ?_; (case aP => exact rfl); (case aB => exact qb_); (case aF => exact (fun k_ hk => ⟨Kd.fresh' (Kd.R_lt (qr_ HO_20)) k_ hk, Kd.fresh' (Kd.R_lt (qr_ HO_99)) k_ hk⟩)); (case aO => exact (qr_ HO_22)); (case aS => exact (below_size qb_)); (case aL => have := LMc55.out; omega); intro v362 w56 ho hb hg hat; rw [← Ny361.out] at ho; replace HO_20 := Aside0.mk (Kd.R_after (ok := (fun k_ => some k_ ≠ (.slice (some ad360) t334.length co50 : Value).ownBlock)) (by (with_reducible repeat (first | apply Kd.R_alloc | apply Kd.R_drewN | apply Kd.R_drew)); exact Kd.R_mono HO_20.out (fun _ hk => ⟨hk.2, hk.1⟩)) hg hat); replace HO_99 := Aside0.mk (Kd.R_after (ok := (fun k_ => some k_ ≠ (v356 : Value).ownBlock)) (qr_ HO_99) hg hat); replace BK321 := Aside0.mk (blk_grown (g := gb321) (o := .cells #[.int .i64 a0_0, .int .i64 a0_1, .int .i64 a0_2, .int .i64 a0_3] 23 (0, 0)) (qk_ BK321) hg (Kd.R_ne HO_22.out BK321.out (by decide))); replace HB := Aside0.mk (hb); have HO363 := Aside0.mk (ho); clear HO_22 ho hb hg hat))
                                                go_roundg k4
                                                case measure => have := HJ7.out; have := HK2.out; have := HJ34.out; have := HK4.out; omega
                                                case rel => exact ⟨(y361), (wrap64 (x101_4 + 1)), qs_, H', ⟨by have := HJ7.out; have := HK2.out; have := HJ34.out; have := HK4.out; omega⟩, ⟨by (with_reducible repeat (first | apply Kd.R_alloc | apply Kd.R_drewN | apply Kd.R_drew)); exact Kd.R_mono HO_20.out (fun _ hk => ⟨hk.2, hk.1⟩)⟩, ⟨by (with_reducible repeat (first | apply Kd.R_alloc | apply Kd.R_drewN | apply Kd.R_drew)); exact HO363.out⟩, ⟨by (with_reducible repeat (first | apply Kd.R_alloc | apply Kd.R_drewN | apply Kd.R_drew)); exact HO_99.out⟩, ⟨qk_ BK321⟩, ⟨qb_⟩⟩
                                              · rw [if_neg c55] at H
                                                exact absurd H (by simp)
                                            · rw [if_neg c54] at H
                                              have c54b0 : decide ((ji26) < (rd t334 x101_4)) = false := decide_eq_false c54
                                              clear c54
                                              by_cases c57 : (rd t334 x101_4) < (ji26)
                                              · rw [if_pos c57] at H
                                                have c57b0 : decide ((rd t334 x101_4) < (ji26)) = true := decide_eq_true c57
                                                clear c57
                                                by_cases c58 : x22_4.length < 17592186044416
                                                · rw [if_pos c58] at H
                                                  have LMc58 := Aside0.mk c58
                                                  clear c58
                                                  obtain ⟨y364, hy364⟩ : ∃ y_ : List Int, y_ = (x22_4 ++ [rd t334 x101_4]) := ⟨_, rfl⟩
                                                  replace H : (cohousinglaw21_PointsWithout.l1 k4 t322 (ji26) t355 y364 t334 (t334.length : Int) (wrap64 (x101_4 + 1))) = some r := by first | (rw [hy364]; with_reducible exact H) | (have H2_ := (Option.bind_some _ _).symm.trans H; rw [hy364]; with_reducible exact H2_) | (have H2_ := (Option.bind_some _ _).symm.trans H; with_reducible exact H2_) | with_reducible exact H | (rw [hy364]; exact H) | exact H
                                                  have Ny364 := Aside0.mk hy364
                                                  clear hy364
                                                  have H' := Aside0.mk H
                                                  clear H
                                                  have p360 : 0 ≤ (x101_4 : Int) := of_decide_eq_true qa_
                                                  have q360 : x101_4 < (t334.length : Int) := of_decide_eq_true qa_
                                                  obtain ⟨ad360, e360, hx360_0⟩ := Kd.at_int (Kd.R_reads' HO_99.out).2.2 x101_4 p360 q360
                                                  cases e360
                                                  replace p360 := eq_true p360
                                                  replace q360 := eq_true q360
                                                  go_wp2_with (first | ((with_reducible refine gate_builtin (b := .append) (xs := #[.tmp 116, .tmp 118]) rfl ?_); (try (refine gate_guard (by rfl) ?_; dsimp only)); at_builtin; refine Kd.R_append (Kd.int .i64) (w0 := w) w.heap.size rfl (.tmp 116) (.tmp 118) 27 3 (.int .i64 0) 8 rfl Tryd.underlying27 info3 rfl (by decide) (by omega) u22 x22_4 (rd t334 x101_4) [.int .i64 (rd t334 x101_4)] (fun k_ => some k_ ≠ (v356 : Value).ownBlock ∧ some k_ ≠ (.slice (some ad360) t334.length co50 : Value).ownBlock) (fun _ => False) rfl rfl ?aP (fun _ hk => hk.elim) ?aF ?aO ?aB ?aS ?aL ?_; (case aP => exact rfl); (case aB => exact qb_); (case aF => exact (fun k_ hk => ⟨Kd.fresh' (Kd.R_lt (qr_ HO_20)) k_ hk, Kd.fresh' (Kd.R_lt (qr_ HO_99)) k_ hk⟩)); (case aO => exact (qr_ HO_22)); (case aS => exact (below_size qb_)); (case aL => have := LMc58.out; omega); intro v365 w59 ho hb hg hat; rw [← Ny364.out] at ho; replace HO_20 := Aside0.mk (Kd.R_after (ok := (fun k_ => some k_ ≠ (.slice (some ad360) t334.length co50 : Value).ownBlock)) (by (with_reducible repeat (first | apply Kd.R_alloc | apply Kd.R_drewN | apply Kd.R_drew)); exact Kd.R_mono HO_20.out (fun _ hk => ⟨hk.2, hk.1⟩)) hg hat); replace HO_99 := Aside0.mk (Kd.R_after (ok := (fun k_ => some k_ ≠ (v356 : Value).ownBlock)) (qr_ HO_99) hg hat); replace BK321 := Aside0.mk (blk_grown (g := gb321) (o := .cells #[.int .i64 a0_0, .int .i64 a0_1, .int .i64 a0_2, .int .i64 a0_3] 23 (0, 0)) (qk_ BK321) hg (Kd.R_ne HO_22.out BK321.out (by decide))); replace HB := Aside0.mk (hb); have HO366 := Aside0.mk (ho); clear HO_22 ho hb hg hat))
                                                  go_roundg k4
                                                  case measure => have := HJ7.out; have := HK2.out; have := HJ34.out; have := HK4.out; omega
                                                  case rel => exact ⟨(y364), (wrap64 (x101_4 + 1)), qs_, H', ⟨by have := HJ7.out; have := HK2.out; have := HJ34.out; have := HK4.out; omega⟩, ⟨by (with_reducible repeat (first | apply Kd.R_alloc | apply Kd.R_drewN | apply Kd.R_drew)); exact Kd.R_mono HO_20.out (fun _ hk => ⟨hk.2, hk.1⟩)⟩, ⟨by (with_reducible repeat (first | apply Kd.R_alloc | apply Kd.R_drewN | apply Kd.R_drew)); exact HO366.out⟩, ⟨by (with_reducible repeat (first | apply Kd.R_alloc | apply Kd.R_drewN | apply Kd.R_drew)); exact HO_99.out⟩, ⟨qk_ BK321⟩, ⟨qb_⟩⟩
                                                · rw [if_neg c58] at H
                                                  exact absurd H (by simp)
                                              · rw [if_neg c57] at H
                                                have c57b0 : decide ((rd t334 x101_4) < (ji26)) = false := decide_eq_false c57
                                                clear c57
                                                have H' := Aside0.mk H
                                                clear H
                                                have p360 : 0 ≤ (x101_4 : Int) := of_decide_eq_true qa_
                                                have q360 : x101_4 < (t334.length : Int) := of_decide_eq_true qa_
                                                obtain ⟨ad360, e360, hx360_0⟩ := Kd.at_int (Kd.R_reads' HO_99.out).2.2 x101_4 p360 q360
                                                cases e360
                                                replace p360 := eq_true p360
                                                replace q360 := eq_true q360
                                                go_wp2
                                                go_roundg k4
                                                case measure => have := HJ7.out; have := HK2.out; have := HJ34.out; have := HK4.out; omega
                                                case rel => exact ⟨(x22_4), (wrap64 (x101_4 + 1)), qs_, H', ⟨by have := HJ7.out; have := HK2.out; have := HJ34.out; have := HK4.out; omega⟩, ⟨by (with_reducible repeat (first | apply Kd.R_alloc | apply Kd.R_drewN | apply Kd.R_drew)); exact HO_20.out⟩, ⟨by (with_reducible repeat (first | apply Kd.R_alloc | apply Kd.R_drewN | apply Kd.R_drew)); exact HO_22.out⟩, ⟨by (with_reducible repeat (first | apply Kd.R_alloc | apply Kd.R_drewN | apply Kd.R_drew)); exact HO_99.out⟩, ⟨qk_ BK321⟩, ⟨qb_⟩⟩
                                          · rw [if_neg c53] at H
                                            exact absurd H (by simp)
                                        · rw [if_neg c52] at H
                                          exact absurd H (by simp)
                                      · rw [if_neg c51] at H
                                        have c51b0 : decide (x101_4 < (t334.length : Int)) = false := decide_eq_false c51
                                        clear c51
                                        by_cases c60 : t322 = true
                                        · subst c60
                                          have H1 : ((cohousingref21_Same.f k4 t355 x22_4).bind fun t359 => (some t359)) = some r := by rw [if_pos rfl] at H; exact H
                                          clear H
                                          have H := H1
                                          clear H1
                                          replace H := Option.bind_eq_some_iff.mp H
                                          obtain ⟨t359, A610, H⟩ := H
                                          replace H : (some t359) = some r := H
                                          have A61 := Aside0.mk A610
                                          clear A610
                                          obtain rfl := Option.some.inj H
                                          obtain ⟨Ao62, co62, eo62⟩ := Kd.R_slice HO_20.out
                                          subst eo62
                                          obtain ⟨Ao63, co63, eo63⟩ := Kd.R_slice HO_22.out
                                          subst eo63
                                          go_wp2_with (first | (go_at_call 15; (with_reducible refine (cohousingref21_Same.calls k4 _ _ t355 _ _ x22_4 t359 _ ?side1 ?side2 ?side3 ?side4 A61.out).mono ?_); (case side1 => exact qv_ (Kd.R_reads' HO_20.out).2.2); (case side2 => exact (Kd.R_reads' HO_20.out).2.1); (case side3 => exact qv_ (Kd.R_reads' HO_22.out).2.2); (case side4 => exact (Kd.R_reads' HO_22.out).2.1); rintro e w' ⟨rfl, ⟨nd, rfl⟩⟩))
                                          go_ret
                                          exact ⟨by first | rfl | (simp [errW_none, errW_some] <;> rfl) | (simp only [← hji26, ← hji30]; first | rfl | (simp [errW_none, errW_some] <;> rfl)) | (simp [*, errW_none, errW_some] <;> rfl), qb_⟩
                                        · replace c60 := Bool.eq_false_iff.mpr c60
                                          subst c60
                                          have H1 : (some false) = some r := by rw [if_neg (show ¬ (false = true) by decide)] at H; exact H
                                          clear H
                                          have H := H1
                                          clear H1
                                          obtain rfl := Option.some.inj H
                                          go_wp2
                                          go_ret
                                          exact ⟨by first | rfl | (simp [errW_none, errW_some] <;> rfl) | (simp only [← hji26, ← hji30]; first | rfl | (simp [errW_none, errW_some] <;> rfl)) | (simp [*, errW_none, errW_some] <;> rfl), qb_⟩
                          · rw [if_neg c33] at H
                            exact absurd H (by simp)
                        · rw [if_neg c32] at H
                          exact absurd H (by simp)
                      · rw [if_neg c31] at H
                        exact absurd H (by simp)
                    · rw [if_neg c29] at H
                      exact absurd H (by simp)
                  · rw [if_neg c28] at H
                    exact absurd H (by simp)
                · rw [if_neg c27] at H
                  exact absurd H (by simp)

end Go.Proofs.YtfhmbfadbfnnaaaDoor.Px
