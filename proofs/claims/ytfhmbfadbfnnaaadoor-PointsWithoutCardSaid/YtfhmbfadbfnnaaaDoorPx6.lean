/- Contracts of Go functions, written by a program of this session's own (wip/tools/myprint.py) out of the translation: each Go function does what the Lean function of its name says. Conditions: as each theorem states. -/
import Derived.Test.YtfhmbfadbfnnaaaDoorPx0
import Derived.Test.YtfhmbfadbfnnaaaDoorPx1
import Derived.Test.YtfhmbfadbfnnaaaDoorPx3
import Derived.Test.YtfhmbfadbfnnaaaDoorPx4
import Derived.Test.YtfhmbfadbfnnaaaDoorGSort
namespace Go.Proofs.YtfhmbfadbfnnaaaDoor.Px
open Go.Proofs.YtfhmbfadbfnnaaaDoor.Given
open Go.RowKit Go.Proofs.YtfhmbfadbfnnaaaDoorW.PrintWords Go.Proofs.YtfhmbfadbfnnaaaDoorW.PrintLast Go.Proofs.YtfhmbfadbfnnaaaDoorW.PrintMore
attribute [local go_sem] max2_int min2_int max_two min_two max_three min_three max_four min_four   -- for this text's walks alone
set_option linter.unusedVariables false
set_option linter.unusedSimpArgs false

/-! ### points_Order: function 13 -/
mutual
def points_Order.j0 : Nat → List (S25) → Int → List Int → Bool → Int → Int → Int → Int → Option (List Int × Int)
  | 0, _, _, _, _, _, _, _, _ => none
  | k + 1, x1, x2, x3, x25, x170000, x170001, x170002, x170003 => if x25 = true then (some (([] : List Int), 1)) else ((points_places.f k x1 x3).bind fun bt171 => (if bt171.2 = true then (points_Order.l0 k x2 bt171.1 (bt171.1.length : Int) 0 x170000 x170001 x170002 x170003) else (some (([] : List Int), 1))))
def points_Order.l0 : Nat → Int → List (S63) → Int → Int → Int → Int → Int → Int → Option (List Int × Int)
  | 0, _, _, _, _, _, _, _, _ => none
  | k + 1, x2, x10, x35, x36, x170000, x170001, x170002, x170003 => if x36 < x35 then (if 0 ≤ x36 then (if x36 < (x10.length : Int) then ((points_home_count.f k ((rd_T63 x10 x36).f0.f0.f0) ((rd_T63 x10 x36).f0.f0.f1) ((rd_T63 x10 x36).f0.f0.f2) ((rd_T63 x10 x36).f0.f0.f3) ((rd_T63 x10 x36).f0.f0.f4) x170000 x170001 x170002 x170003 x2).bind fun bt176 => (if bt176.2 = 0 then (points_Order.l0 k x2 (x10.set (x36 : Int).toNat (⟨(⟨(⟨(rd_T63 x10 x36).f0.f0.f0, (rd_T63 x10 x36).f0.f0.f1, (rd_T63 x10 x36).f0.f0.f2, (rd_T63 x10 x36).f0.f0.f3, (rd_T63 x10 x36).f0.f0.f4⟩ : S25)⟩ : S54), (rd_T63 x10 x36).f1, bt176.1, (rd_T63 x10 x36).f3⟩ : S63)) x35 (wrap64 (x36 + 1)) x170000 x170001 x170002 x170003) else (some (([] : List Int), bt176.2)))) else (none)) else (none)) else ((points_place_29__points_Order_1.f k x10).bind fun t179 => (if 0 ≤ (x10.length : Int) then (if ((x10.length : Int) : Int).toNat ≤ 35184372088832 then (points_Order.l1 k (List.replicate ((x10.length : Int) : Int).toNat 0) t179 (x10.length : Int) 0) else (none)) else (none)))
def points_Order.l1 : Nat → List Int → List (S63) → Int → Int → Option (List Int × Int)
  | 0, _, _, _, _ => none
  | k + 1, x15, x64, x65, x66 => if x66 < x65 then (if 0 ≤ x66 then (if x66 < (x64.length : Int) then (if x66 < (x15.length : Int) then (points_Order.l1 k (x15.set (x66 : Int).toNat ((rd_T63 x64 x66).f1)) x64 x65 (wrap64 (x66 + 1))) else (none)) else (none)) else (none)) else (some (x15, 0))
end
def points_Order.f (k : Nat) (a0_0 a0_1 a0_2 a0_3 : Int) (l1 : List (S25)) (a2 : Int) (l3 : List Int) : Option (List Int × Int) := (points_validWeights.f k a0_0 a0_1 a0_2 a0_3).bind fun t170 => (if t170 = true then (points_Order.j0 k l1 a2 l3 (decide ((l1.length : Int) > 64)) a0_0 a0_1 a0_2 a0_3) else (points_Order.j0 k l1 a2 l3 true a0_0 a0_1 a0_2 a0_3))
theorem points_Order.mono_l : ∀ k, (∀ y0 y1 y2 y3 y4 y5 y6 y7, LeO (points_Order.j0 k y0 y1 y2 y3 y4 y5 y6 y7) (points_Order.j0 (k + 1) y0 y1 y2 y3 y4 y5 y6 y7)) ∧ (∀ y0 y1 y2 y3 y4 y5 y6 y7, LeO (points_Order.l0 k y0 y1 y2 y3 y4 y5 y6 y7) (points_Order.l0 (k + 1) y0 y1 y2 y3 y4 y5 y6 y7)) ∧ (∀ y0 y1 y2 y3, LeO (points_Order.l1 k y0 y1 y2 y3) (points_Order.l1 (k + 1) y0 y1 y2 y3))
  | 0 => ⟨fun _ _ _ _ _ _ _ _ r h => by simp [points_Order.j0] at h, fun _ _ _ _ _ _ _ _ r h => by simp [points_Order.l0] at h, fun _ _ _ _ r h => by simp [points_Order.l1] at h⟩
  | k + 1 => by
    obtain ⟨ih0, ih1, ih2⟩ := points_Order.mono_l k
    refine ⟨?_, ?_, ?_⟩
    · intro y0 y1 y2 y3 y4 y5 y6 y7
      unfold points_Order.j0
      with_reducible (repeat' first | apply ih0 | apply ih1 | apply ih2 | apply points_home_count.mono | apply points_place_29__points_Order_1.mono | apply points_places.mono | apply points_validWeights.mono | apply LeO.refl | apply LeO.none | apply LeO.ite | refine LeO.bind ?_ (fun _ => ?_))
    · intro y0 y1 y2 y3 y4 y5 y6 y7
      unfold points_Order.l0
      with_reducible (repeat' first | apply ih0 | apply ih1 | apply ih2 | apply points_home_count.mono | apply points_place_29__points_Order_1.mono | apply points_places.mono | apply points_validWeights.mono | apply LeO.refl | apply LeO.none | apply LeO.ite | refine LeO.bind ?_ (fun _ => ?_))
    · intro y0 y1 y2 y3
      unfold points_Order.l1
      with_reducible (repeat' first | apply ih0 | apply ih1 | apply ih2 | apply points_home_count.mono | apply points_place_29__points_Order_1.mono | apply points_places.mono | apply points_validWeights.mono | apply LeO.refl | apply LeO.none | apply LeO.ite | refine LeO.bind ?_ (fun _ => ?_))
theorem points_Order.mono : ∀ a0 a1 a2 a3 a4 a5 a6 k, LeO (points_Order.f k a0 a1 a2 a3 a4 a5 a6) (points_Order.f (k + 1) a0 a1 a2 a3 a4 a5 a6) := by
  intro a0 a1 a2 a3 a4 a5 a6 k
  obtain ⟨ih0, ih1, ih2⟩ := points_Order.mono_l k
  unfold points_Order.f
  with_reducible (repeat' first | apply ih0 | apply ih1 | apply ih2 | apply points_home_count.mono | apply points_place_29__points_Order_1.mono | apply points_places.mono | apply points_validWeights.mono | apply LeO.refl | apply LeO.none | apply LeO.ite | refine LeO.bind ?_ (fun _ => ?_))
def points_Order.T9 : Bool × List (List Nat × List Nat) := (true, [([], []), ([], []), ([0, 1], [0, 1]), ([2], [2]), ([3], [3]), ([], []), ([], []), ([4, 5, 6], [4, 5, 6]), ([7], [7]), ([8], [8]), ([8], [8]), ([9, 7, 0, 1, 2, 3, 4, 5, 6, 7, 8, 9], [9]), ([10, 11, 0, 1, 2, 3, 4, 5, 6, 7, 8, 9, 10, 11], [10])])
def points_Order.B9 : List Nat := [0, 0, 3, 7, 15, 0, 0, 127, 255, 511, 511, 1023, 4095]
theorem points_Order.tab9 : rtab .any (opsOf Tryd.f13 9) = points_Order.T9 := by kernel_rfl
theorem points_Order.bits9 : waitsOk points_Order.T9.2 points_Order.B9 = true := by kernel_rfl
set_option maxHeartbeats 8000000 in
set_option maxRecDepth 100000 in
theorem points_Order.calls (k : Nat) (a0_0 a0_1 a0_2 a0_3 : Int) (A1 : Option Addr) (c1 : Nat) (l1 : List (S25)) (a2 : Int) (A3 : Option Addr) (c3 : Nat) (l3 r1 : List Int) (r2 : Int) (w : World) (hr1 : Kd.C k25 w A1 l1.length l1) (hc1 : l1.length ≤ c1) (hr3 : Kd.C (Kd.int .i64) w A3 l3.length l3) (hc3 : l3.length ≤ c3) (HT : TabOK w) (h : points_Order.f k a0_0 a0_1 a0_2 a0_3 l1 a2 l3 = some (r1, r2)) :
    Calls Tryd.prog 13 #[.agg #[.int .i64 a0_0, .int .i64 a0_1, .int .i64 a0_2, .int .i64 a0_3], .slice A1 l1.length c1, .int .i64 a2, .slice A3 l3.length c3] w fun e w' => ∃ v0_ : Value, e = .returned (.tuple #[v0_, .int .i64 r2]) ∧ Kd.R (Kd.int .i64) 3 w' w.heap.size (fun _ => True) v0_ r1 ∧ Below w.heap.size w w' := by
  have hu23 := Tryd.underlying23
  have hu54 := Tryd.underlying54
  have hu63 := Tryd.underlying63
  have HTA := Aside0.mk HT
  clear HT
  have HR1 := Aside0.mk hr1
  have HC1 := Aside0.mk hc1
  clear hr1 hc1
  have HR3 := Aside0.mk hr3
  have HC3 := Aside0.mk hc3
  clear hr3 hc3
  have HB := Aside0.mk (Below.refl w.heap.size w)
  have H : ((points_validWeights.f k a0_0 a0_1 a0_2 a0_3).bind fun t170 => (if t170 = true then (points_Order.j0 k l1 a2 l3 (decide ((l1.length : Int) > 64)) a0_0 a0_1 a0_2 a0_3) else (points_Order.j0 k l1 a2 l3 true a0_0 a0_1 a0_2 a0_3))) = some (r1, r2) := h
  clear h
  have HC5 := Aside0.mk H
  clear H
  go_enter Tryd.func13, Tryd.ntmps13
  go_upto_region 1 with (first | ((with_reducible refine gate_dst (N := 4) rfl ?_); (try (refine gate_guard (by rfl) ?_; dsimp only)); refine qev_ 4 #[.int .i64 a0_0, .int .i64 a0_1, .int .i64 a0_2, .int .i64 a0_3] 23 ?_; intro gb169 hg w6 hbox hb; have BK169 := Aside0.mk (hbox); have GW169 := qga_ hg; have GE169 := qga_ hg; replace HB := qbs_ hb; clear hb hbox hg))
  (try simp only [Act.put, List.setIfInBounds_toArray, List.set_cons_zero, List.set_cons_succ])
  go_cut [25] (fun v25 wc => ∃ (kq : Nat) (x25_4 : Bool), v25 = .bool x25_4 ∧ Aside0 (points_Order.j0 kq l1 a2 l3 x25_4 a0_0 a0_1 a0_2 a0_3 = some (r1, r2)) ∧ Aside0 (kq ≤ k) ∧ Aside0 (wc.heap[gb169]? = some (.cells #[.int .i64 a0_0, .int .i64 a0_1, .int .i64 a0_2, .int .i64 a0_3] 23 (0, 0))) ∧ Aside0 (Below w.heap.size w wc))
  case first =>
    have H := HC5.out
    clear HC5
    replace H := Option.bind_eq_some_iff.mp H
    obtain ⟨t170, A70, H⟩ := H
    replace H : (if t170 = true then (points_Order.j0 k l1 a2 l3 (decide ((l1.length : Int) > 64)) a0_0 a0_1 a0_2 a0_3) else (points_Order.j0 k l1 a2 l3 true a0_0 a0_1 a0_2 a0_3)) = some (r1, r2) := H
    have A7 := Aside0.mk A70
    clear A70
    by_cases c8 : t170 = true
    · subst c8
      have H1 : (points_Order.j0 k l1 a2 l3 (decide ((l1.length : Int) > 64)) a0_0 a0_1 a0_2 a0_3) = some (r1, r2) := by rw [if_pos rfl] at H; exact H
      clear H
      have H := H1
      clear H1
      have H' := Aside0.mk H
      clear H
      obtain ⟨hcz9_0, hcz9_1, hcz9_2, hcz9_3⟩ := qz4_ BK169; obtain ⟨hfz9_0, hfz9_1, hfz9_2, hfz9_3⟩ := qf4_ BK169
      go_wp2_with (first | ((with_reducible refine gate_callee (f := 22) rfl ?_); refine goesL_ (some 19) rfl rfl Tryd.func22 (by kernel_rfl) rfl #[.agg #[.int .i64 a0_0, .int .i64 a0_1, .int .i64 a0_2, .int .i64 a0_3]] rfl ql_ ?_; (with_reducible refine (points_validWeights.calls k a0_0 a0_1 a0_2 a0_3 true _ A7.out).mono ?_); rintro e w10 ⟨rfl, hb⟩; refine ⟨_, rfl, ?_⟩; replace BK169 := qkb_ BK169 hb; replace HB := qbs_ hb; (try clear hb); (try clear hb2); (try clear hk); (try clear hi)))
      go_meet
      case rel => exact ⟨_, (decide ((l1.length : Int) > 64)), qs_, H', ⟨qo_⟩, ⟨qk_ BK169⟩, ⟨qb_⟩⟩
    · replace c8 := Bool.eq_false_iff.mpr c8
      subst c8
      have H1 : (points_Order.j0 k l1 a2 l3 true a0_0 a0_1 a0_2 a0_3) = some (r1, r2) := by rw [if_neg (show ¬ (false = true) by decide)] at H; exact H
      clear H
      have H := H1
      clear H1
      have H' := Aside0.mk H
      clear H
      obtain ⟨hcz11_0, hcz11_1, hcz11_2, hcz11_3⟩ := qz4_ BK169; obtain ⟨hfz11_0, hfz11_1, hfz11_2, hfz11_3⟩ := qf4_ BK169
      go_wp2_with (first | ((with_reducible refine gate_callee (f := 22) rfl ?_); refine goesL_ (some 19) rfl rfl Tryd.func22 (by kernel_rfl) rfl #[.agg #[.int .i64 a0_0, .int .i64 a0_1, .int .i64 a0_2, .int .i64 a0_3]] rfl ql_ ?_; (with_reducible refine (points_validWeights.calls k a0_0 a0_1 a0_2 a0_3 false _ A7.out).mono ?_); rintro e w12 ⟨rfl, hb⟩; refine ⟨_, rfl, ?_⟩; replace BK169 := qkb_ BK169 hb; replace HB := qbs_ hb; (try clear hb); (try clear hb2); (try clear hk); (try clear hi)))
      go_meet
      case rel => exact ⟨_, (true), qs_, H', ⟨qo_⟩, ⟨qk_ BK169⟩, ⟨qb_⟩⟩
  case rest =>
    clear HC5
    try clear c1
    try clear c2
    try clear p2
    try clear c3
    try clear c8
    try clear hcz11_0 hcz11_1 hcz11_2 hcz11_3
    try clear hcz9_0 hcz9_1 hcz9_2 hcz9_3
    try clear hfz11_0 hfz11_1 hfz11_2 hfz11_3
    try clear hfz9_0 hfz9_1 hfz9_2 hfz9_3
    obtain ⟨kq, x25_4, rfl, HA, HJ4, BK169, HB⟩ := hcut
    cases kq with
    | zero => exact absurd HA.out (by simp [points_Order.j0])
    | succ kj4 =>
      have H := HA.out
      clear HA
      simp only [points_Order.j0] at H
      by_cases c13 : x25_4 = true
      · subst c13
        have H1 : (some (([] : List Int), 1)) = some (r1, r2) := by rw [if_pos rfl] at H; exact H
        clear H
        have H := H1
        clear H1
        simp only [Option.some.injEq, Prod.mk.injEq] at H
        obtain ⟨rfl, rfl⟩ := H
        go_wp2
        go_ret2
        exact ⟨_, qx_, by first | exact Kd.R_nil _ _ _ _ _ | exact Kd.N_nil _ _ _ _ _ | exact Kd.V_nil _ _ _ _ _ | exact Kd.Q_nil _ _ _ _ _ | exact Kd.S_nil _ _ _ _ _, qb_⟩
      · replace c13 := Bool.eq_false_iff.mpr c13
        subst c13
        have H1 : ((points_places.f kj4 l1 l3).bind fun bt171 => (if bt171.2 = true then (points_Order.l0 kj4 a2 bt171.1 (bt171.1.length : Int) 0 a0_0 a0_1 a0_2 a0_3) else (some (([] : List Int), 1)))) = some (r1, r2) := by rw [if_neg (show ¬ (false = true) by decide)] at H; exact H
        clear H
        have H := H1
        clear H1
        replace H := Option.bind_eq_some_iff.mp H
        obtain ⟨⟨t171, t172⟩, A140, H⟩ := H
        replace H : (if t172 = true then (points_Order.l0 kj4 a2 t171 (t171.length : Int) 0 a0_0 a0_1 a0_2 a0_3) else (some (([] : List Int), 1))) = some (r1, r2) := H
        have A14 := Aside0.mk A140
        clear A140
        by_cases c15 : t172 = true
        · subst c15
          have H1 : (points_Order.l0 kj4 a2 t171 (t171.length : Int) 0 a0_0 a0_1 a0_2 a0_3) = some (r1, r2) := by rw [if_pos rfl] at H; exact H
          clear H
          have H := H1
          clear H1
          have H' := Aside0.mk H
          clear H
          go_wp2_with (first | ((with_reducible refine gate_callee (f := 28) rfl ?_); refine goesL_ (some 29) rfl rfl Tryd.func28 (by kernel_rfl) rfl #[.slice A1 l1.length c1, .slice A3 l3.length c3] rfl ql_ ?_; (with_reducible refine (points_places.calls kj4 _ _ l1 _ _ l3 t171 true _ ?side1 ?side2 ?side3 ?side4 A14.out).mono ?_); (case side1 => exact qc_ HR1); (case side2 => exact HC1.out); (case side3 => exact qc_ HR3); (case side4 => exact HC3.out); rintro e w16 ⟨v173, rfl, ho0, hb⟩; refine ⟨_, rfl, ?_⟩; have HO174 := Aside0.mk (Kd.R_lower ho0 (below_size qb_)); replace BK169 := qkb_ BK169 hb; replace HB := qbs_ hb; (try clear hb); (try clear hb2); (try clear hk); (try clear hi); (try clear ho0); obtain ⟨Ao17, co17, eo17⟩ := Kd.R_slice HO174.out; subst eo17))
          go_loopg [36] kj4 (fun kq v36 w' => ∃ (x10_2 : List (S63)) (x36_2 : Int), v36 = .int .i64 x36_2 ∧ Aside0 (points_Order.l0 kq a2 x10_2 (t171.length : Int) x36_2 a0_0 a0_1 a0_2 a0_3 = some (r1, r2)) ∧ Aside0 (kq ≤ kj4) ∧ Aside0 (Kd.R k63 63 w' w.heap.size (fun _ => True) (.slice Ao17 t171.length co17) x10_2) ∧ Aside0 (w'.heap[gb169]? = some (.cells #[.int .i64 a0_0, .int .i64 a0_1, .int .i64 a0_2, .int .i64 a0_3] 23 (0, 0))) ∧ Aside0 (Below w.heap.size w w'))
          case atStart => exact ⟨(t171), (0), qs_, H', ⟨Nat.le_refl _⟩, ⟨by (with_reducible repeat (first | apply Kd.R_alloc | apply Kd.R_drewN | apply Kd.R_drew)); exact HO174.out⟩, ⟨qk_ BK169⟩, ⟨qb_⟩⟩
          case round =>
            clear H'
            try clear c1
            try clear c2
            try clear p2
            try clear c3
            try clear c8
            try clear c13
            try clear c15
            try clear hcz11_0 hcz11_1 hcz11_2 hcz11_3
            try clear hcz9_0 hcz9_1 hcz9_2 hcz9_3
            try clear hfz11_0 hfz11_1 hfz11_2 hfz11_3
            try clear hfz9_0 hfz9_1 hfz9_2 hfz9_3
            try clear p2
            obtain ⟨x10_2, x36_2, rfl, HA, HK2, HO_10, BK169, HB⟩ := hrel
            have hl10_2 := (Kd.R_reads' HO_10.out).1
            rw [hl10_2] at HO_10
            (try simp only [hl10_2])
            (try simp only [hl10_2] at BK169)
            cases gk with
            | zero => exact absurd HA.out (by simp [points_Order.l0])
            | succ k2 =>
              have H := HA.out
              clear HA
              simp only [points_Order.l0] at H
              by_cases c18 : x36_2 < (t171.length : Int)
              · rw [if_pos c18] at H
                have c18b0 : decide (x36_2 < (t171.length : Int)) = true := decide_eq_true c18
                clear c18
                by_cases c19 : 0 ≤ x36_2
                · rw [if_pos c19] at H
                  have c19b0 : decide (0 ≤ x36_2) = true := decide_eq_true c19
                  clear c19
                  by_cases c20 : x36_2 < (x10_2.length : Int)
                  · rw [if_pos c20] at H
                    have c20b0 : decide (x36_2 < (x10_2.length : Int)) = true := decide_eq_true c20
                    clear c20
                    replace H := Option.bind_eq_some_iff.mp H
                    obtain ⟨⟨t176, t177⟩, A210, H⟩ := H
                    replace H : (if t177 = 0 then (points_Order.l0 k2 a2 (x10_2.set (x36_2 : Int).toNat (⟨(⟨(⟨(rd_T63 x10_2 x36_2).f0.f0.f0, (rd_T63 x10_2 x36_2).f0.f0.f1, (rd_T63 x10_2 x36_2).f0.f0.f2, (rd_T63 x10_2 x36_2).f0.f0.f3, (rd_T63 x10_2 x36_2).f0.f0.f4⟩ : S25)⟩ : S54), (rd_T63 x10_2 x36_2).f1, t176, (rd_T63 x10_2 x36_2).f3⟩ : S63)) (t171.length : Int) (wrap64 (x36_2 + 1)) a0_0 a0_1 a0_2 a0_3) else (some (([] : List Int), t177))) = some (r1, r2) := H
                    have A21 := Aside0.mk A210
                    clear A210
                    by_cases c22 : t177 = 0
                    · rw [if_pos c22] at H
                      have c22b0 : (t177 == 0) = true := beq_iff_eq.mpr c22
                      have c22b1 : (t177 != 0) = false := bne_eq_false_iff_eq.mpr c22
                      clear c22
                      obtain ⟨y178, hy178⟩ : ∃ y_ : List (S63), y_ = (x10_2.set (x36_2 : Int).toNat (⟨(⟨(⟨(rd_T63 x10_2 x36_2).f0.f0.f0, (rd_T63 x10_2 x36_2).f0.f0.f1, (rd_T63 x10_2 x36_2).f0.f0.f2, (rd_T63 x10_2 x36_2).f0.f0.f3, (rd_T63 x10_2 x36_2).f0.f0.f4⟩ : S25)⟩ : S54), (rd_T63 x10_2 x36_2).f1, t176, (rd_T63 x10_2 x36_2).f3⟩ : S63)) := ⟨_, rfl⟩
                      replace H : (points_Order.l0 k2 a2 y178 (t171.length : Int) (wrap64 (x36_2 + 1)) a0_0 a0_1 a0_2 a0_3) = some (r1, r2) := by first | (rw [hy178]; with_reducible exact H) | (have H2_ := (Option.bind_some _ _).symm.trans H; rw [hy178]; with_reducible exact H2_) | (have H2_ := (Option.bind_some _ _).symm.trans H; with_reducible exact H2_) | with_reducible exact H | (rw [hy178]; exact H) | exact H
                      have Ny178 := Aside0.mk hy178
                      clear hy178
                      have H' := Aside0.mk H
                      clear H
                      try go_wp2
                      replace HO_10 := Aside0.mk (Kd.R_drew HO_10.out)
                      replace BK169 := Aside0.mk (blk_drew BK169.out)
                      replace HB := Aside0.mk (below_drew1 HB.out)
                      have p175 : 0 ≤ (x36_2 : Int) := of_decide_eq_true qa_
                      have q175 : x36_2 < (x10_2.length : Int) := of_decide_eq_true qa_
                      obtain ⟨ad175, e175, hx175_0, hx175_1, hx175_2, hx175_3, hx175_4, hx175_5, hx175_6, hx175_7⟩ := at_T63 (Kd.R_reads' HO_10.out).2.2 x36_2 p175 q175
                      cases e175
                      replace p175 := eq_true p175
                      replace q175 := eq_true q175
                      refine start_ (n := 13) (S := fun w' => w'.cell? ⟨gb169, 0, none⟩ = some (.int .i64 a0_0) ∧ w'.cell? ⟨gb169, 1, none⟩ = some (.int .i64 a0_1) ∧ w'.cell? ⟨gb169, 2, none⟩ = some (.int .i64 a0_2) ∧ w'.cell? ⟨gb169, 3, none⟩ = some (.int .i64 a0_3) ∧ w'.cell? (ad175.add ((x36_2).toNat * 8)) = some (.int .i64 ((rd_T63 x10_2 x36_2).f0.f0.f0)) ∧ w'.cell? ⟨(ad175.add ((x36_2).toNat * 8)).block, (ad175.add ((x36_2).toNat * 8)).off + 1, none⟩ = some (.int .i64 ((rd_T63 x10_2 x36_2).f0.f0.f1)) ∧ w'.cell? ⟨(ad175.add ((x36_2).toNat * 8)).block, (ad175.add ((x36_2).toNat * 8)).off + 2, none⟩ = some (.int .i64 ((rd_T63 x10_2 x36_2).f0.f0.f2)) ∧ w'.cell? ⟨(ad175.add ((x36_2).toNat * 8)).block, (ad175.add ((x36_2).toNat * 8)).off + 3, none⟩ = some (.int .i64 ((rd_T63 x10_2 x36_2).f0.f0.f3)) ∧ w'.cell? ⟨(ad175.add ((x36_2).toNat * 8)).block, (ad175.add ((x36_2).toNat * 8)).off + 4, none⟩ = some (.int .i64 ((rd_T63 x10_2 x36_2).f0.f0.f4)) ∧ w'.cell? ⟨(ad175.add ((x36_2).toNat * 8)).block, (ad175.add ((x36_2).toNat * 8)).off + 5, none⟩ = some (.int .i64 ((rd_T63 x10_2 x36_2).f1)) ∧ w'.cell? ⟨(ad175.add ((x36_2).toNat * 8)).block, (ad175.add ((x36_2).toNat * 8)).off + 6, none⟩ = some (.int .i64 ((rd_T63 x10_2 x36_2).f2)) ∧ w'.cell? ⟨(ad175.add ((x36_2).toNat * 8)).block, (ad175.add ((x36_2).toNat * 8)).off + 7, none⟩ = some (.int .i64 ((rd_T63 x10_2 x36_2).f3))) (ds := []) #[i_,i_,i_,i_,i_,i_,i_,i_,i_,i_,i_,i_,i_] (by kernel_rfl) rfl rfl ⟨(blk_cell BK169.out 0).trans rfl, (blk_cell BK169.out 1).trans rfl, (blk_cell BK169.out 2).trans rfl, (blk_cell BK169.out 3).trans rfl, hx175_0, hx175_1, hx175_2, hx175_3, hx175_4, hx175_5, hx175_6, hx175_7⟩ (fun hHeld => ?_); refine with_tabW points_Order.tab9 points_Order.bits9 (fun HT_ HW_ => ?_)
                      generalize wr.drew = w24 at HO_10 BK169 HB hx175_0 hx175_1 hx175_2 hx175_3 hx175_4 hx175_5 hx175_6 hx175_7 hHeld ⊢
                      refine qpu_ 0 (some 40) #[o_,i_,i_,i_,i_,i_,i_,i_,i_,i_,i_,i_,i_] ?_
                      refine qpu_ 1 (some 41) #[o_,o_,i_,i_,i_,i_,i_,i_,i_,i_,i_,i_,i_] ?_
                      refine qpu_ 2 (some 42) #[o_,o_,o_,i_,i_,i_,i_,i_,i_,i_,i_,i_,i_] ?_
                      refine qpu_ 3 (some 43) #[o_,o_,o_,o_,i_,i_,i_,i_,i_,i_,i_,i_,i_] ?_
                      refine qpu_ 6 (some 46) #[o_,o_,o_,o_,i_,i_,o_,i_,i_,i_,i_,i_,i_] ?_
                      refine take_ (i := 4) (N := some 44) (v := ?_) (a' := ?_) #[o_,o_,o_,o_,o_,i_,o_,i_,i_,i_,i_,i_,i_] rfl rfl (take_ofW HT_.out HW_.out (by kernel_rfl)) (fun _ _ _ h => h) (Or.inl ⟨by rfl, ?_⟩) hHeld ?_ ?_
                      rotate_left
                      · rintro w' ⟨s0, s1, s2, s3, s4, s5, s6, s7, s8, s9, s10, s11⟩
                        go_simp
                        with_reducible rfl
                      rotate_left
                      · exact qp_
                      refine take_ (i := 5) (N := some 45) (v := ?_) (a' := ?_) #[o_,o_,o_,o_,o_,o_,o_,i_,i_,i_,i_,i_,i_] rfl rfl (take_ofW HT_.out HW_.out (by kernel_rfl)) (fun _ _ _ h => h) (Or.inl ⟨by rfl, ?_⟩) hHeld ?_ ?_
                      rotate_left
                      · rintro w' ⟨s0, s1, s2, s3, s4, s5, s6, s7, s8, s9, s10, s11⟩
                        go_simp
                        with_reducible rfl
                      rotate_left
                      · exact qp_
                      refine one_ (i := 7) (N := some 47) #[o_,o_,o_,o_,o_,o_,o_,o_,i_,i_,i_,i_,i_] rfl rfl (one_of HT_.out (by kernel_rfl)) (by decide) (fun K hK => ?_)
                      refine goes_ Tryd.func24 (by kernel_rfl) rfl #[.agg #[.int .i64 ((rd_T63 x10_2 x36_2).f0.f0.f0), .int .i64 ((rd_T63 x10_2 x36_2).f0.f0.f1), .int .i64 ((rd_T63 x10_2 x36_2).f0.f0.f2), .int .i64 ((rd_T63 x10_2 x36_2).f0.f0.f3), .int .i64 ((rd_T63 x10_2 x36_2).f0.f0.f4)], .agg #[.int .i64 a0_0, .int .i64 a0_1, .int .i64 a0_2, .int .i64 a0_3], .int .i64 a2] (by rfl) rfl rfl ql_ ?_
                      with_reducible refine (points_home_count.calls k2 ((rd_T63 x10_2 x36_2).f0.f0.f0) ((rd_T63 x10_2 x36_2).f0.f0.f1) ((rd_T63 x10_2 x36_2).f0.f0.f2) ((rd_T63 x10_2 x36_2).f0.f0.f3) ((rd_T63 x10_2 x36_2).f0.f0.f4) a0_0 a0_1 a0_2 a0_3 a2 t176 t177 _ ?side1 A21.out).mono ?_
                      (case side1 => exact TabOK.below HTA.out qb_)
                      rintro e w25 ⟨rfl, hb⟩
                      have HS4_ := (hb.cell (World.block_lt_of_cell? _ _ (hHeld.2.2.2.2.1))).trans (hHeld.2.2.2.2.1)
                      have HS5_ := (hb.cell (World.block_lt_of_cell? _ _ (hHeld.2.2.2.2.2.1))).trans (hHeld.2.2.2.2.2.1)
                      have HS6_ := (hb.cell (World.block_lt_of_cell? _ _ (hHeld.2.2.2.2.2.2.1))).trans (hHeld.2.2.2.2.2.2.1)
                      have HS7_ := (hb.cell (World.block_lt_of_cell? _ _ (hHeld.2.2.2.2.2.2.2.1))).trans (hHeld.2.2.2.2.2.2.2.1)
                      have HS8_ := (hb.cell (World.block_lt_of_cell? _ _ (hHeld.2.2.2.2.2.2.2.2.1))).trans (hHeld.2.2.2.2.2.2.2.2.1)
                      have HS9_ := (hb.cell (World.block_lt_of_cell? _ _ (hHeld.2.2.2.2.2.2.2.2.2.1))).trans (hHeld.2.2.2.2.2.2.2.2.2.1)
                      have HS10_ := (hb.cell (World.block_lt_of_cell? _ _ (hHeld.2.2.2.2.2.2.2.2.2.2.1))).trans (hHeld.2.2.2.2.2.2.2.2.2.2.1)
                      have HS11_ := (hb.cell (World.block_lt_of_cell? _ _ (hHeld.2.2.2.2.2.2.2.2.2.2.2))).trans (hHeld.2.2.2.2.2.2.2.2.2.2.2)
                      refine ⟨_, rfl, ?_⟩
                      replace HO_10 := qrb_ HO_10 hb
                      replace BK169 := qkb_ BK169 hb
                      replace HB := qbs_ hb
                      (try clear hb)
                      (try clear hb2)
                      (try clear hk)
                      (try clear hi)
                      refine hK.out _ _ ⟨(blk_cell BK169.out 0).trans rfl, (blk_cell BK169.out 1).trans rfl, (blk_cell BK169.out 2).trans rfl, (blk_cell BK169.out 3).trans rfl, HS4_, HS5_, HS6_, HS7_, HS8_, HS9_, HS10_, HS11_⟩ (fun hHeld => ?_)
                      clear hK K
                      refine norm_ (a' := ?_) ?_ ?_
                      rotate_left
                      · show Act.put _ (some 47) _ = _
                        exact qp_
                      refine qpu_ 8 (some 39) #[o_,o_,o_,o_,o_,o_,o_,o_,o_,i_,i_,i_,i_] ?_
                      refine qpu_ 9 (some 48) #[o_,o_,o_,o_,o_,o_,o_,o_,o_,o_,i_,i_,i_] ?_
                      refine qpu_ 10 (some 49) #[o_,o_,o_,o_,o_,o_,o_,o_,o_,o_,o_,i_,i_] ?_
                      refine qpu_ 11 (some 13) #[o_,o_,o_,o_,o_,o_,o_,o_,o_,o_,o_,o_,i_] ?_
                      refine qpu_ 12 (some 14) #[o_,o_,o_,o_,o_,o_,o_,o_,o_,o_,o_,o_,o_] ?_
                      refine done_ (done_of HT_.out (by kernel_rfl)) ?_
                      have p23 : 0 ≤ (x36_2 : Int) := of_decide_eq_true qa_
                      have q23 : (x36_2 : Int) < ((x10_2.length : Int) : Int) := of_decide_eq_true qa_
                      obtain ⟨go23, co23, eo23, gb23, gl23, cl23, HG23⟩ := Kd.R_form HO_10.out (by omega)
                      (first | cases eo23 | (injection eo23 with ea_ en_ ec_; (first | subst ea_ | (injection ea_ with ea_; subst ea_)); subst ec_; clear en_))
                      have GB23 := Aside0.mk gb23
                      have GG23 := Aside0.mk HG23
                      clear gb23 gl23 HG23
                      (first | simp only [add_plain] at hx175_0 | skip)
                      (first | simp only [add_plain] at hx175_1 | skip)
                      (first | simp only [add_plain] at hx175_2 | skip)
                      (first | simp only [add_plain] at hx175_3 | skip)
                      (first | simp only [add_plain] at hx175_4 | skip)
                      (first | simp only [add_plain] at hx175_5 | skip)
                      (first | simp only [add_plain] at hx175_6 | skip)
                      (first | simp only [add_plain] at hx175_7 | skip)
                      obtain ⟨ce23, hcl23, hM23, hcc23, hfr23⟩ := Kd.R_elem HO_10.out z63 (x36_2 : Int) p23 q23
                      obtain rfl := k63_openM hM23
                      have hx23_0 : w25.cell? ⟨go23, (x36_2 : Int).toNat * 8, none⟩ = some (.int .i64 ((rd_T63 x10_2 x36_2).f0.f0.f0)) := hcc23 0 _ rfl
                      have hx23_1 : w25.cell? ⟨go23, (x36_2 : Int).toNat * 8 + 1, none⟩ = some (.int .i64 ((rd_T63 x10_2 x36_2).f0.f0.f1)) := hcc23 1 _ rfl
                      have hx23_2 : w25.cell? ⟨go23, (x36_2 : Int).toNat * 8 + 2, none⟩ = some (.int .i64 ((rd_T63 x10_2 x36_2).f0.f0.f2)) := hcc23 2 _ rfl
                      have hx23_3 : w25.cell? ⟨go23, (x36_2 : Int).toNat * 8 + 3, none⟩ = some (.int .i64 ((rd_T63 x10_2 x36_2).f0.f0.f3)) := hcc23 3 _ rfl
                      have hx23_4 : w25.cell? ⟨go23, (x36_2 : Int).toNat * 8 + 4, none⟩ = some (.int .i64 ((rd_T63 x10_2 x36_2).f0.f0.f4)) := hcc23 4 _ rfl
                      have hx23_5 : w25.cell? ⟨go23, (x36_2 : Int).toNat * 8 + 5, none⟩ = some (.int .i64 ((rd_T63 x10_2 x36_2).f1)) := hcc23 5 _ rfl
                      have hx23_6 : w25.cell? ⟨go23, (x36_2 : Int).toNat * 8 + 6, none⟩ = some (.int .i64 ((rd_T63 x10_2 x36_2).f2)) := hcc23 6 _ rfl
                      have hx23_7 : w25.cell? ⟨go23, (x36_2 : Int).toNat * 8 + 7, none⟩ = some (.int .i64 ((rd_T63 x10_2 x36_2).f3)) := hcc23 7 _ rfl
                      have hf23_0 : w25.frozen? ⟨go23, (x36_2 : Int).toNat * 8, none⟩ = false := hfr23 0
                      have hf23_1 : w25.frozen? ⟨go23, (x36_2 : Int).toNat * 8 + 1, none⟩ = false := hfr23 1
                      have hf23_2 : w25.frozen? ⟨go23, (x36_2 : Int).toNat * 8 + 2, none⟩ = false := hfr23 2
                      have hf23_3 : w25.frozen? ⟨go23, (x36_2 : Int).toNat * 8 + 3, none⟩ = false := hfr23 3
                      have hf23_4 : w25.frozen? ⟨go23, (x36_2 : Int).toNat * 8 + 4, none⟩ = false := hfr23 4
                      have hf23_5 : w25.frozen? ⟨go23, (x36_2 : Int).toNat * 8 + 5, none⟩ = false := hfr23 5
                      have hf23_6 : w25.frozen? ⟨go23, (x36_2 : Int).toNat * 8 + 6, none⟩ = false := hfr23 6
                      have hf23_7 : w25.frozen? ⟨go23, (x36_2 : Int).toNat * 8 + 7, none⟩ = false := hfr23 7
                      clear hcl23 hcc23 hfr23 hM23
                      replace p23 := eq_true p23
                      replace q23 := eq_true q23
                      have HX26 := Aside0.mk (show Kd.R k63 63 w25 w.heap.size (fun _ => True) (.slice (some ⟨go23, 0, none⟩) x10_2.length co17) x10_2 from (qr_ HO_10))
                      obtain ⟨ce26, hcl26, hM26, hcc26, hfr26⟩ := Kd.R_elem HX26.out z63 (x36_2 : Int) (of_decide_eq_true qa_) (by have h_ : (x36_2 : Int) < ((x10_2.length : Int) : Int) := of_decide_eq_true qa_; first | exact h_ | (have e_ := (Kd.R_reads' HO_10.out).1; omega) | simpa using h_)
                      obtain rfl := k63_openM hM26
                      have HP26 := Kd.R_seg HX26.out (x36_2 : Int) (of_decide_eq_true qa_) (by have h_ : (x36_2 : Int) < ((x10_2.length : Int) : Int) := of_decide_eq_true qa_; first | exact h_ | (have e_ := (Kd.R_reads' HO_10.out).1; omega) | simpa using h_) (seg := [.int .i64 t176]) (j := 6) hcl26 hcc26 (show 7 ≤ 8 from by decide) (x' := (⟨(⟨(⟨(rd_T63 x10_2 x36_2).f0.f0.f0, (rd_T63 x10_2 x36_2).f0.f0.f1, (rd_T63 x10_2 x36_2).f0.f0.f2, (rd_T63 x10_2 x36_2).f0.f0.f3, (rd_T63 x10_2 x36_2).f0.f0.f4⟩ : S25)⟩ : S54), (rd_T63 x10_2 x36_2).f1, t176, (rd_T63 x10_2 x36_2).f3⟩ : S63)) (k63_mkM _ _ _ (⟨(⟨(⟨(rd_T63 x10_2 x36_2).f0.f0.f0, (rd_T63 x10_2 x36_2).f0.f0.f1, (rd_T63 x10_2 x36_2).f0.f0.f2, (rd_T63 x10_2 x36_2).f0.f0.f3, (rd_T63 x10_2 x36_2).f0.f0.f4⟩ : S25)⟩ : S54), (rd_T63 x10_2 x36_2).f1, t176, (rd_T63 x10_2 x36_2).f3⟩ : S63) ) (fun _ hk => hk)
                      have hx26_6 := hcc26 6 _ rfl
                      (try simp only [show (k63).sz = 8 from rfl, Nat.mul_one, Nat.add_zero] at hx26_6)
                      have hf26_6 := hfr26 6
                      (try simp only [show (k63).sz = 8 from rfl, Nat.mul_one, Nat.add_zero] at hf26_6)
                      clear hcl26 hcc26 hfr26 hM26
                      try go_wp2_with (first | ((with_reducible refine gate_store (t := 3) (p := 57) rfl ?_); refine store_event (t := 3) (p := 57) (v := ?vo_w27) (w1 := (w25.setCell ⟨go23, (x36_2 : Int).toNat * 8 + 6, none⟩ (.int .i64 t176))) ?hg ?ho ?hn ?hr ?_; (case ho => rfl); (case hg => rfl); (case hn => rfl); (case hr => exact qq_); intro w27 hw; have hg : w25.grownBy w27 (some go23) := (by rw [hw]; exact HP26.2); have hp_ : Kd.R k63 63 w27 w.heap.size (fun _ => True) (.slice (some ⟨go23, 0, none⟩) x10_2.length co17) y178 := (by rw [hw, Ny178.out]; exact HP26.1); clear HP26; replace BK169 := Aside0.mk (blk_grown (g := gb169) (o := .cells #[.int .i64 a0_0, .int .i64 a0_1, .int .i64 a0_2, .int .i64 a0_3] 23 (0, 0)) (qk_ BK169) hg (Kd.R_ne HO_10.out BK169.out (by decide))); replace HO_10 := Aside0.mk (hp_); replace HB := Aside0.mk ((by rw [hw]; exact below_set (HB.out) GB23.out : Below w.heap.size w w27)); clear hg hw hp_))
                      (try simp only [← hl10_2])
                      go_roundg k2
                      case measure => have := HJ4.out; have := HK2.out; omega
                      case rel => exact ⟨(y178), (wrap64 (x36_2 + 1)), qs_, H', ⟨by have := HJ4.out; have := HK2.out; omega⟩, ⟨by (try simp only [hl10_2]); (with_reducible repeat (first | apply Kd.R_alloc | apply Kd.R_drewN | apply Kd.R_drew)); exact HO_10.out⟩, ⟨by (try simp only [hl10_2]); refine qd_ ?_; exact BK169.out⟩, ⟨qb_⟩⟩
                    · rw [if_neg c22] at H
                      have c22b0 : (t177 == 0) = false := beq_eq_false_iff_ne.mpr c22
                      have c22b1 : (t177 != 0) = true := bne_iff_ne.mpr c22
                      simp only [Option.some.injEq, Prod.mk.injEq] at H
                      obtain ⟨rfl, rfl⟩ := H
                      try go_wp2
                      replace HO_10 := Aside0.mk (Kd.R_drew HO_10.out)
                      replace BK169 := Aside0.mk (blk_drew BK169.out)
                      replace HB := Aside0.mk (below_drew1 HB.out)
                      have p175 : 0 ≤ (x36_2 : Int) := of_decide_eq_true qa_
                      have q175 : x36_2 < (x10_2.length : Int) := of_decide_eq_true qa_
                      obtain ⟨ad175, e175, hx175_0, hx175_1, hx175_2, hx175_3, hx175_4, hx175_5, hx175_6, hx175_7⟩ := at_T63 (Kd.R_reads' HO_10.out).2.2 x36_2 p175 q175
                      cases e175
                      replace p175 := eq_true p175
                      replace q175 := eq_true q175
                      refine start_ (n := 13) (S := fun w' => w'.cell? ⟨gb169, 0, none⟩ = some (.int .i64 a0_0) ∧ w'.cell? ⟨gb169, 1, none⟩ = some (.int .i64 a0_1) ∧ w'.cell? ⟨gb169, 2, none⟩ = some (.int .i64 a0_2) ∧ w'.cell? ⟨gb169, 3, none⟩ = some (.int .i64 a0_3) ∧ w'.cell? (ad175.add ((x36_2).toNat * 8)) = some (.int .i64 ((rd_T63 x10_2 x36_2).f0.f0.f0)) ∧ w'.cell? ⟨(ad175.add ((x36_2).toNat * 8)).block, (ad175.add ((x36_2).toNat * 8)).off + 1, none⟩ = some (.int .i64 ((rd_T63 x10_2 x36_2).f0.f0.f1)) ∧ w'.cell? ⟨(ad175.add ((x36_2).toNat * 8)).block, (ad175.add ((x36_2).toNat * 8)).off + 2, none⟩ = some (.int .i64 ((rd_T63 x10_2 x36_2).f0.f0.f2)) ∧ w'.cell? ⟨(ad175.add ((x36_2).toNat * 8)).block, (ad175.add ((x36_2).toNat * 8)).off + 3, none⟩ = some (.int .i64 ((rd_T63 x10_2 x36_2).f0.f0.f3)) ∧ w'.cell? ⟨(ad175.add ((x36_2).toNat * 8)).block, (ad175.add ((x36_2).toNat * 8)).off + 4, none⟩ = some (.int .i64 ((rd_T63 x10_2 x36_2).f0.f0.f4)) ∧ w'.cell? ⟨(ad175.add ((x36_2).toNat * 8)).block, (ad175.add ((x36_2).toNat * 8)).off + 5, none⟩ = some (.int .i64 ((rd_T63 x10_2 x36_2).f1)) ∧ w'.cell? ⟨(ad175.add ((x36_2).toNat * 8)).block, (ad175.add ((x36_2).toNat * 8)).off + 6, none⟩ = some (.int .i64 ((rd_T63 x10_2 x36_2).f2)) ∧ w'.cell? ⟨(ad175.add ((x36_2).toNat * 8)).block, (ad175.add ((x36_2).toNat * 8)).off + 7, none⟩ = some (.int .i64 ((rd_T63 x10_2 x36_2).f3))) (ds := []) #[i_,i_,i_,i_,i_,i_,i_,i_,i_,i_,i_,i_,i_] (by kernel_rfl) rfl rfl ⟨(blk_cell BK169.out 0).trans rfl, (blk_cell BK169.out 1).trans rfl, (blk_cell BK169.out 2).trans rfl, (blk_cell BK169.out 3).trans rfl, hx175_0, hx175_1, hx175_2, hx175_3, hx175_4, hx175_5, hx175_6, hx175_7⟩ (fun hHeld => ?_); refine with_tabW points_Order.tab9 points_Order.bits9 (fun HT_ HW_ => ?_)
                      generalize wr.drew = w28 at HO_10 BK169 HB hx175_0 hx175_1 hx175_2 hx175_3 hx175_4 hx175_5 hx175_6 hx175_7 hHeld ⊢
                      refine qpu_ 0 (some 40) #[o_,i_,i_,i_,i_,i_,i_,i_,i_,i_,i_,i_,i_] ?_
                      refine qpu_ 1 (some 41) #[o_,o_,i_,i_,i_,i_,i_,i_,i_,i_,i_,i_,i_] ?_
                      refine qpu_ 2 (some 42) #[o_,o_,o_,i_,i_,i_,i_,i_,i_,i_,i_,i_,i_] ?_
                      refine qpu_ 3 (some 43) #[o_,o_,o_,o_,i_,i_,i_,i_,i_,i_,i_,i_,i_] ?_
                      refine qpu_ 6 (some 46) #[o_,o_,o_,o_,i_,i_,o_,i_,i_,i_,i_,i_,i_] ?_
                      refine take_ (i := 4) (N := some 44) (v := ?_) (a' := ?_) #[o_,o_,o_,o_,o_,i_,o_,i_,i_,i_,i_,i_,i_] rfl rfl (take_ofW HT_.out HW_.out (by kernel_rfl)) (fun _ _ _ h => h) (Or.inl ⟨by rfl, ?_⟩) hHeld ?_ ?_
                      rotate_left
                      · rintro w' ⟨s0, s1, s2, s3, s4, s5, s6, s7, s8, s9, s10, s11⟩
                        go_simp
                        with_reducible rfl
                      rotate_left
                      · exact qp_
                      refine take_ (i := 5) (N := some 45) (v := ?_) (a' := ?_) #[o_,o_,o_,o_,o_,o_,o_,i_,i_,i_,i_,i_,i_] rfl rfl (take_ofW HT_.out HW_.out (by kernel_rfl)) (fun _ _ _ h => h) (Or.inl ⟨by rfl, ?_⟩) hHeld ?_ ?_
                      rotate_left
                      · rintro w' ⟨s0, s1, s2, s3, s4, s5, s6, s7, s8, s9, s10, s11⟩
                        go_simp
                        with_reducible rfl
                      rotate_left
                      · exact qp_
                      refine one_ (i := 7) (N := some 47) #[o_,o_,o_,o_,o_,o_,o_,o_,i_,i_,i_,i_,i_] rfl rfl (one_of HT_.out (by kernel_rfl)) (by decide) (fun K hK => ?_)
                      refine goes_ Tryd.func24 (by kernel_rfl) rfl #[.agg #[.int .i64 ((rd_T63 x10_2 x36_2).f0.f0.f0), .int .i64 ((rd_T63 x10_2 x36_2).f0.f0.f1), .int .i64 ((rd_T63 x10_2 x36_2).f0.f0.f2), .int .i64 ((rd_T63 x10_2 x36_2).f0.f0.f3), .int .i64 ((rd_T63 x10_2 x36_2).f0.f0.f4)], .agg #[.int .i64 a0_0, .int .i64 a0_1, .int .i64 a0_2, .int .i64 a0_3], .int .i64 a2] (by rfl) rfl rfl ql_ ?_
                      with_reducible refine (points_home_count.calls k2 ((rd_T63 x10_2 x36_2).f0.f0.f0) ((rd_T63 x10_2 x36_2).f0.f0.f1) ((rd_T63 x10_2 x36_2).f0.f0.f2) ((rd_T63 x10_2 x36_2).f0.f0.f3) ((rd_T63 x10_2 x36_2).f0.f0.f4) a0_0 a0_1 a0_2 a0_3 a2 t176 t177 _ ?side1 A21.out).mono ?_
                      (case side1 => exact TabOK.below HTA.out qb_)
                      rintro e w29 ⟨rfl, hb⟩
                      have HS4_ := (hb.cell (World.block_lt_of_cell? _ _ (hHeld.2.2.2.2.1))).trans (hHeld.2.2.2.2.1)
                      have HS5_ := (hb.cell (World.block_lt_of_cell? _ _ (hHeld.2.2.2.2.2.1))).trans (hHeld.2.2.2.2.2.1)
                      have HS6_ := (hb.cell (World.block_lt_of_cell? _ _ (hHeld.2.2.2.2.2.2.1))).trans (hHeld.2.2.2.2.2.2.1)
                      have HS7_ := (hb.cell (World.block_lt_of_cell? _ _ (hHeld.2.2.2.2.2.2.2.1))).trans (hHeld.2.2.2.2.2.2.2.1)
                      have HS8_ := (hb.cell (World.block_lt_of_cell? _ _ (hHeld.2.2.2.2.2.2.2.2.1))).trans (hHeld.2.2.2.2.2.2.2.2.1)
                      have HS9_ := (hb.cell (World.block_lt_of_cell? _ _ (hHeld.2.2.2.2.2.2.2.2.2.1))).trans (hHeld.2.2.2.2.2.2.2.2.2.1)
                      have HS10_ := (hb.cell (World.block_lt_of_cell? _ _ (hHeld.2.2.2.2.2.2.2.2.2.2.1))).trans (hHeld.2.2.2.2.2.2.2.2.2.2.1)
                      have HS11_ := (hb.cell (World.block_lt_of_cell? _ _ (hHeld.2.2.2.2.2.2.2.2.2.2.2))).trans (hHeld.2.2.2.2.2.2.2.2.2.2.2)
                      refine ⟨_, rfl, ?_⟩
                      replace HO_10 := qrb_ HO_10 hb
                      replace BK169 := qkb_ BK169 hb
                      replace HB := qbs_ hb
                      (try clear hb)
                      (try clear hb2)
                      (try clear hk)
                      (try clear hi)
                      refine hK.out _ _ ⟨(blk_cell BK169.out 0).trans rfl, (blk_cell BK169.out 1).trans rfl, (blk_cell BK169.out 2).trans rfl, (blk_cell BK169.out 3).trans rfl, HS4_, HS5_, HS6_, HS7_, HS8_, HS9_, HS10_, HS11_⟩ (fun hHeld => ?_)
                      clear hK K
                      refine norm_ (a' := ?_) ?_ ?_
                      rotate_left
                      · show Act.put _ (some 47) _ = _
                        exact qp_
                      refine qpu_ 8 (some 39) #[o_,o_,o_,o_,o_,o_,o_,o_,o_,i_,i_,i_,i_] ?_
                      refine qpu_ 9 (some 48) #[o_,o_,o_,o_,o_,o_,o_,o_,o_,o_,i_,i_,i_] ?_
                      refine qpu_ 10 (some 49) #[o_,o_,o_,o_,o_,o_,o_,o_,o_,o_,o_,i_,i_] ?_
                      refine qpu_ 11 (some 13) #[o_,o_,o_,o_,o_,o_,o_,o_,o_,o_,o_,o_,i_] ?_
                      refine qpu_ 12 (some 14) #[o_,o_,o_,o_,o_,o_,o_,o_,o_,o_,o_,o_,o_] ?_
                      refine done_ (done_of HT_.out (by kernel_rfl)) ?_
                      try go_wp2
                      go_ret2
                      exact ⟨_, qx_, by first | exact Kd.R_nil _ _ _ _ _ | exact Kd.N_nil _ _ _ _ _ | exact Kd.V_nil _ _ _ _ _ | exact Kd.Q_nil _ _ _ _ _ | exact Kd.S_nil _ _ _ _ _, qb_⟩
                  · rw [if_neg c20] at H
                    exact absurd H (by simp)
                · rw [if_neg c19] at H
                  exact absurd H (by simp)
              · rw [if_neg c18] at H
                have c18b0 : decide (x36_2 < (t171.length : Int)) = false := decide_eq_false c18
                have c18b8 := c18b0
                try rw [hl10_2] at c18b8
                clear c18
                replace H := Option.bind_eq_some_iff.mp H
                obtain ⟨t179, A300, H⟩ := H
                replace H : (if 0 ≤ (x10_2.length : Int) then (if ((x10_2.length : Int) : Int).toNat ≤ 35184372088832 then (points_Order.l1 k2 (List.replicate ((x10_2.length : Int) : Int).toNat 0) t179 (x10_2.length : Int) 0) else (none)) else (none)) = some (r1, r2) := H
                have A30 := Aside0.mk A300
                clear A300
                by_cases c31 : 0 ≤ (x10_2.length : Int)
                · rw [if_pos c31] at H
                  have c31b0 := eq_true c31
                  have c31b1 : decide (0 ≤ (x10_2.length : Int)) = true := decide_eq_true c31
                  clear c31
                  by_cases c32 : ((x10_2.length : Int) : Int).toNat ≤ 35184372088832
                  · rw [if_pos c32] at H
                    have c32b0 := eq_true c32
                    have c32b1 : decide (((x10_2.length : Int) : Int).toNat ≤ 35184372088832) = true := decide_eq_true c32
                    clear c32
                    obtain ⟨y180, hy180⟩ : ∃ y_ : List Int, y_ = (List.replicate ((x10_2.length : Int) : Int).toNat 0) := ⟨_, rfl⟩
                    replace H : (points_Order.l1 k2 y180 t179 (x10_2.length : Int) 0) = some (r1, r2) := by first | (rw [hy180]; with_reducible exact H) | (have H2_ := (Option.bind_some _ _).symm.trans H; rw [hy180]; with_reducible exact H2_) | (have H2_ := (Option.bind_some _ _).symm.trans H; with_reducible exact H2_) | with_reducible exact H | (rw [hy180]; exact H) | exact H
                    have Ny180 := Aside0.mk hy180
                    clear hy180
                    have H' := Aside0.mk H
                    clear H
                    go_wp2_with (first | ((with_reducible refine gate_callee (f := 29) rfl ?_); refine goesL_ (some 60) rfl rfl Tryd.func29 (by kernel_rfl) rfl #[.slice Ao17 x10_2.length co17, .func (.func 30) #[] #[]] rfl ql_ ?_; (with_reducible refine (points_place_29__points_Order_1.calls k2 (fun k_ => some k_ = (.slice Ao17 x10_2.length co17 : Value).ownBlock) (.slice Ao17 x10_2.length co17) x10_2  t179 w _ ?side1 ?side2 A30.out).mono ?_); (case side1 => repeat (first | (with_reducible first | exact HB.out | apply below_alloc | apply pw_below_drewN | apply below_drew1 | refine below_set ?_ GE169.out) | exact HB.out)); (case side2 => exact Kd.R_tight rfl HO_10.out); rintro e w33 ⟨rfl, hy0, hb, hkp⟩; refine ⟨_, rfl, ?_⟩; replace BK169 := Aside0.mk (blk_kept (qk_ BK169) hkp (fun hs_ => (fun e_ => (Kd.R_ne HO_10.out BK169.out (by decide)) e_) hs_)); replace HO_10 := Aside0.mk (Kd.R_reok rfl hy0 (fun k_ e_ => HO_10.out.1 k_ e_)); replace HB := Aside0.mk (hb); (try clear hb); (try clear hkp); (try clear hy0)) | ((with_reducible refine gate_dst (N := 63) rfl ?_); (try (refine gate_guard (by rfl) ?_; dsimp only)); refine Kd.R_make (Kd.int .i64) _ 3 rfl (N := 63) rfl 27 _ _ rfl (x10_2.length : Int) rfl rfl Tryd.underlying27 (.int .i64 0) 8 info3 rfl (by decide) (by omega) 0 (ok := fun _ => True) (okp := fun _ => True) rfl (fun _ hk => hk) trivial (of_decide_eq_true qa_) (Nat.le_trans (Nat.mul_le_mul_right _ (of_decide_eq_true qa_ : (x10_2.length : Int).toNat ≤ 35184372088832)) (by omega)) (Below.refl _ _) (Nat.le_refl _) ?_; intro v181 w34 ho35 hb hg_ hnew_; clear hg_ hnew_; (first | rw [← Ny180.out] at ho35 | (simp only [Int.reduceToNat] at ho35; rw [← Ny180.out] at ho35)); replace HO_10 := qrb_ HO_10 hb; have HO182 := Aside0.mk (Kd.R_lower ho35 (below_size qb_)); replace BK169 := qkb_ BK169 hb; replace HB := qbs_ hb; clear hb ho35))
                    go_loopg [66] k2 (fun kq v66 w' => ∃ (x15_3 : List Int) (x66_3 : Int), v66 = .int .i64 x66_3 ∧ Aside0 (points_Order.l1 kq x15_3 t179 (x10_2.length : Int) x66_3 = some (r1, r2)) ∧ Aside0 (kq ≤ k2) ∧ Aside0 (Kd.R (Kd.int .i64) 3 w' w.heap.size (fun _ => True) v181 x15_3) ∧ Aside0 (Kd.R k63 63 w' w.heap.size (fun _ => True) (.slice Ao17 x10_2.length co17) t179) ∧ Aside0 (w'.heap[gb169]? = some (.cells #[.int .i64 a0_0, .int .i64 a0_1, .int .i64 a0_2, .int .i64 a0_3] 23 (0, 0))) ∧ Aside0 (Below w.heap.size w w'))
                    case atStart => exact ⟨(y180), (0), qs_, H', ⟨Nat.le_refl _⟩, ⟨by (try simp only [hl10_2]); (with_reducible repeat (first | apply Kd.R_alloc | apply Kd.R_drewN | apply Kd.R_drew)); exact HO182.out⟩, ⟨by (try simp only [hl10_2]); (with_reducible repeat (first | apply Kd.R_alloc | apply Kd.R_drewN | apply Kd.R_drew)); exact HO_10.out⟩, ⟨by (try simp only [hl10_2]); refine qd_ ?_; exact BK169.out⟩, ⟨qb_⟩⟩
                    case round =>
                      clear H'
                      try clear c1
                      try clear p1
                      try clear q1
                      try clear hx1
                      try clear c2
                      try clear p2
                      try clear q2
                      try clear hx2
                      try clear c3
                      try clear p6
                      try clear c8
                      try clear c9
                      try clear c13
                      try clear c15
                      try clear p17
                      try clear q17
                      try clear hx17
                      try clear c18
                      try clear c18b0
                      try clear c19
                      try clear c19b0
                      try clear c20
                      try clear c20b0
                      try clear c22
                      try clear c22b0
                      try clear c22b1
                      try clear c23
                      try clear p23
                      try clear q23
                      try clear hx23
                      try clear hf23
                      try clear c24
                      try clear c26
                      try clear hx26
                      try clear hf26
                      try clear c28
                      try clear c31
                      try clear c31b0
                      try clear c31b1
                      try clear c32
                      try clear c32b0
                      try clear c32b1
                      try clear hcz11_0 hcz11_1 hcz11_2 hcz11_3
                      try clear hcz9_0 hcz9_1 hcz9_2 hcz9_3
                      try clear hfz11_0 hfz11_1 hfz11_2 hfz11_3
                      try clear hfz9_0 hfz9_1 hfz9_2 hfz9_3
                      try clear hx175_0
                      try clear hx175_1
                      try clear hx175_2
                      try clear hx175_3
                      try clear hx175_4
                      try clear hx175_5
                      try clear hx175_6
                      try clear hx175_7
                      try clear hx23_0
                      try clear hx23_1
                      try clear hx23_2
                      try clear hx23_3
                      try clear hx23_4
                      try clear hx23_5
                      try clear hx23_6
                      try clear hx23_7
                      try clear hx26_6
                      try clear p175
                      try clear p2
                      try clear p23
                      try clear q175
                      try clear q23
                      obtain ⟨x15_3, x66_3, rfl, HA, HK3, HO_15, HO_64, BK169, HB⟩ := hrel
                      have hl64_3 := (Kd.R_reads' HO_64.out).1
                      rw [hl64_3] at HO_64
                      (try simp only [hl64_3])
                      (try simp only [hl64_3] at BK169)
                      (try simp only [hl64_3] at HO_15)
                      cases gk with
                      | zero => exact absurd HA.out (by simp [points_Order.l1])
                      | succ k3 =>
                        have H := HA.out
                        clear HA
                        simp only [points_Order.l1] at H
                        by_cases c36 : x66_3 < (x10_2.length : Int)
                        · rw [if_pos c36] at H
                          have c36b0 : decide (x66_3 < (x10_2.length : Int)) = true := decide_eq_true c36
                          clear c36
                          by_cases c37 : 0 ≤ x66_3
                          · rw [if_pos c37] at H
                            have c37b0 : decide (0 ≤ x66_3) = true := decide_eq_true c37
                            clear c37
                            by_cases c38 : x66_3 < (t179.length : Int)
                            · rw [if_pos c38] at H
                              have c38b0 : decide (x66_3 < (t179.length : Int)) = true := decide_eq_true c38
                              clear c38
                              by_cases c39 : x66_3 < (x15_3.length : Int)
                              · rw [if_pos c39] at H
                                have c39b0 : decide (x66_3 < (x15_3.length : Int)) = true := decide_eq_true c39
                                clear c39
                                obtain ⟨y185, hy185⟩ : ∃ y_ : List Int, y_ = (x15_3.set (x66_3 : Int).toNat ((rd_T63 t179 x66_3).f1)) := ⟨_, rfl⟩
                                replace H : (points_Order.l1 k3 y185 t179 (x10_2.length : Int) (wrap64 (x66_3 + 1))) = some (r1, r2) := by first | (rw [hy185]; with_reducible exact H) | (have H2_ := (Option.bind_some _ _).symm.trans H; rw [hy185]; with_reducible exact H2_) | (have H2_ := (Option.bind_some _ _).symm.trans H; with_reducible exact H2_) | with_reducible exact H | (rw [hy185]; exact H) | exact H
                                have Ny185 := Aside0.mk hy185
                                clear hy185
                                have H' := Aside0.mk H
                                clear H
                                have p183 : 0 ≤ (x66_3 : Int) := of_decide_eq_true qa_
                                have q183 : x66_3 < (t179.length : Int) := of_decide_eq_true qa_
                                obtain ⟨ad183, e183, hx183_0, hx183_1, hx183_2, hx183_3, hx183_4, hx183_5, hx183_6, hx183_7⟩ := at_T63 (Kd.R_reads' HO_64.out).2.2 x66_3 p183 q183
                                cases e183
                                replace p183 := eq_true p183
                                replace q183 := eq_true q183
                                go_wp2_with (first | ((with_reducible refine gate_dst (N := 17) rfl ?_); (try (refine gate_guard (by rfl) ?_; dsimp only)); refine qev_ 17 #[.int .i64 0, .int .i64 0, .int .i64 0, .int .i64 0, .int .i64 0, .int .i64 0, .int .i64 0, .int .i64 0] 63 ?_; intro gb184 hg w41 hbox hb; replace HO_15 := qrb_ HO_15 hb; replace HO_64 := Aside0.mk (Kd.R_below (Kd.R_elderB (qr_ HO_64) gb184 (Nat.le_of_eq hg.symm)) hb); have BK184 := Aside0.mk (hbox); have GW184 := qga_ hg; have GE184 := qga_ hg; replace HB := qbs_ hb; have NB169_184 := Aside0.mk ((by rw [hg]; exact Nat.ne_of_lt (blk_lt (qk_ BK169)) : gb169 ≠ gb184)); have NB184_169 := Aside0.mk ((by rw [hg]; exact Nat.ne_of_gt (blk_lt (qk_ BK169)) : gb184 ≠ gb169)); replace BK169 := qkb_ BK169 hb; clear hb hbox hg; have hnb42 := NB184_169.out; have hnc42 := NB169_184.out; obtain ⟨hcz43_0, hcz43_1, hcz43_2, hcz43_3, hcz43_4, hcz43_5, hcz43_6, hcz43_7⟩ := qz8_ BK184; obtain ⟨hfz43_0, hfz43_1, hfz43_2, hfz43_3, hfz43_4, hfz43_5, hfz43_6, hfz43_7⟩ := qf8_ BK184) | ((with_reducible refine gate_store (t := 63) (p := 17) rfl ?_); refine store_event (t := 63) (p := 17) (v := ?vo_w44) (w1 := ((((((((w41.setCell ⟨gb184, 0, none⟩ (.int .i64 ((rd_T63 t179 x66_3).f0.f0.f0))).setCell ⟨gb184, 1, none⟩ (.int .i64 ((rd_T63 t179 x66_3).f0.f0.f1))).setCell ⟨gb184, 2, none⟩ (.int .i64 ((rd_T63 t179 x66_3).f0.f0.f2))).setCell ⟨gb184, 3, none⟩ (.int .i64 ((rd_T63 t179 x66_3).f0.f0.f3))).setCell ⟨gb184, 4, none⟩ (.int .i64 ((rd_T63 t179 x66_3).f0.f0.f4))).setCell ⟨gb184, 5, none⟩ (.int .i64 ((rd_T63 t179 x66_3).f1))).setCell ⟨gb184, 6, none⟩ (.int .i64 ((rd_T63 t179 x66_3).f2))).setCell ⟨gb184, 7, none⟩ (.int .i64 ((rd_T63 t179 x66_3).f3)))) ?hg ?ho ?hn ?hr ?_; (case ho => rfl); (case hg => rfl); (case hn => rfl); (case hr => exact qq_); intro w44 hw; replace HO_15 : Aside0 (Kd.R (Kd.int .i64) 3 w44 w.heap.size (fun _ => True) v181 x15_3) := ⟨(by rw [hw]; exact (by (with_reducible repeat (first | apply Kd.R_alloc | apply Kd.R_drewN | apply Kd.R_drew)); exact Kd.R_mono (Kd.R_far (p := ⟨gb184, 7, none⟩) (Kd.R_far (p := ⟨gb184, 6, none⟩) (Kd.R_far (p := ⟨gb184, 5, none⟩) (Kd.R_far (p := ⟨gb184, 4, none⟩) (Kd.R_far (p := ⟨gb184, 3, none⟩) (Kd.R_far (p := ⟨gb184, 2, none⟩) (Kd.R_far (p := ⟨gb184, 1, none⟩) (Kd.R_far (p := ⟨gb184, 0, none⟩) (Kd.R_types HO_15.out BK184.out (by decide)) (fun _ hk => hk.2) (.int .i64 ((rd_T63 t179 x66_3).f0.f0.f0))) (fun _ hk => hk.2) (.int .i64 ((rd_T63 t179 x66_3).f0.f0.f1))) (fun _ hk => hk.2) (.int .i64 ((rd_T63 t179 x66_3).f0.f0.f2))) (fun _ hk => hk.2) (.int .i64 ((rd_T63 t179 x66_3).f0.f0.f3))) (fun _ hk => hk.2) (.int .i64 ((rd_T63 t179 x66_3).f0.f0.f4))) (fun _ hk => hk.2) (.int .i64 ((rd_T63 t179 x66_3).f1))) (fun _ hk => hk.2) (.int .i64 ((rd_T63 t179 x66_3).f2))) (fun _ hk => hk.2) (.int .i64 ((rd_T63 t179 x66_3).f3))) (fun _ hk => trivial)))⟩; replace HO_64 : Aside0 (Kd.R k63 63 w44 w.heap.size (fun k_ => k_ ≠ gb184) (.slice (some ad183) t179.length co17) t179) := ⟨(by rw [hw]; exact (by (with_reducible repeat (first | apply Kd.R_alloc | apply Kd.R_drewN | apply Kd.R_drew)); exact Kd.R_mono (Kd.R_far (p := ⟨gb184, 7, none⟩) (Kd.R_far (p := ⟨gb184, 6, none⟩) (Kd.R_far (p := ⟨gb184, 5, none⟩) (Kd.R_far (p := ⟨gb184, 4, none⟩) (Kd.R_far (p := ⟨gb184, 3, none⟩) (Kd.R_far (p := ⟨gb184, 2, none⟩) (Kd.R_far (p := ⟨gb184, 1, none⟩) (Kd.R_far (p := ⟨gb184, 0, none⟩) (Kd.R_mono HO_64.out (fun k_ hk => (⟨hk, hk.2⟩ : _ ∧ k_ ≠ gb184))) (fun _ hk => hk.2) (.int .i64 ((rd_T63 t179 x66_3).f0.f0.f0))) (fun _ hk => hk.2) (.int .i64 ((rd_T63 t179 x66_3).f0.f0.f1))) (fun _ hk => hk.2) (.int .i64 ((rd_T63 t179 x66_3).f0.f0.f2))) (fun _ hk => hk.2) (.int .i64 ((rd_T63 t179 x66_3).f0.f0.f3))) (fun _ hk => hk.2) (.int .i64 ((rd_T63 t179 x66_3).f0.f0.f4))) (fun _ hk => hk.2) (.int .i64 ((rd_T63 t179 x66_3).f1))) (fun _ hk => hk.2) (.int .i64 ((rd_T63 t179 x66_3).f2))) (fun _ hk => hk.2) (.int .i64 ((rd_T63 t179 x66_3).f3))) (fun _ hk => hk.1.2)))⟩; replace BK169 : Aside0 (w44.heap[gb169]? = some (.cells #[.int .i64 a0_0, .int .i64 a0_1, .int .i64 a0_2, .int .i64 a0_3] 23 (0, 0))) := ⟨(by rw [hw]; exact (by refine qd_ ?_; refine blk_far ?_ NB169_184.out _; refine qd_ ?_; refine blk_far ?_ NB169_184.out _; refine qd_ ?_; refine blk_far ?_ NB169_184.out _; refine qd_ ?_; refine blk_far ?_ NB169_184.out _; refine qd_ ?_; refine blk_far ?_ NB169_184.out _; refine qd_ ?_; refine blk_far ?_ NB169_184.out _; refine qd_ ?_; refine blk_far ?_ NB169_184.out _; refine qd_ ?_; refine blk_far ?_ NB169_184.out _; refine qd_ ?_; exact BK169.out))⟩; replace BK184 : Aside0 (w44.heap[gb184]? = some (.cells #[.int .i64 ((rd_T63 t179 x66_3).f0.f0.f0), .int .i64 ((rd_T63 t179 x66_3).f0.f0.f1), .int .i64 ((rd_T63 t179 x66_3).f0.f0.f2), .int .i64 ((rd_T63 t179 x66_3).f0.f0.f3), .int .i64 ((rd_T63 t179 x66_3).f0.f0.f4), .int .i64 ((rd_T63 t179 x66_3).f1), .int .i64 ((rd_T63 t179 x66_3).f2), .int .i64 ((rd_T63 t179 x66_3).f3)] 63 (0, 0))) := ⟨(by rw [hw]; exact (by refine qd_ ?_; refine blk_put (cs := #[.int .i64 ((rd_T63 t179 x66_3).f0.f0.f0), .int .i64 ((rd_T63 t179 x66_3).f0.f0.f1), .int .i64 ((rd_T63 t179 x66_3).f0.f0.f2), .int .i64 ((rd_T63 t179 x66_3).f0.f0.f3), .int .i64 ((rd_T63 t179 x66_3).f0.f0.f4), .int .i64 ((rd_T63 t179 x66_3).f1), .int .i64 ((rd_T63 t179 x66_3).f2), .int .i64 0]) ?_ 7 _ rfl; refine qd_ ?_; refine blk_put (cs := #[.int .i64 ((rd_T63 t179 x66_3).f0.f0.f0), .int .i64 ((rd_T63 t179 x66_3).f0.f0.f1), .int .i64 ((rd_T63 t179 x66_3).f0.f0.f2), .int .i64 ((rd_T63 t179 x66_3).f0.f0.f3), .int .i64 ((rd_T63 t179 x66_3).f0.f0.f4), .int .i64 ((rd_T63 t179 x66_3).f1), .int .i64 0, .int .i64 0]) ?_ 6 _ rfl; refine qd_ ?_; refine blk_put (cs := #[.int .i64 ((rd_T63 t179 x66_3).f0.f0.f0), .int .i64 ((rd_T63 t179 x66_3).f0.f0.f1), .int .i64 ((rd_T63 t179 x66_3).f0.f0.f2), .int .i64 ((rd_T63 t179 x66_3).f0.f0.f3), .int .i64 ((rd_T63 t179 x66_3).f0.f0.f4), .int .i64 0, .int .i64 0, .int .i64 0]) ?_ 5 _ rfl; refine qd_ ?_; refine blk_put (cs := #[.int .i64 ((rd_T63 t179 x66_3).f0.f0.f0), .int .i64 ((rd_T63 t179 x66_3).f0.f0.f1), .int .i64 ((rd_T63 t179 x66_3).f0.f0.f2), .int .i64 ((rd_T63 t179 x66_3).f0.f0.f3), .int .i64 0, .int .i64 0, .int .i64 0, .int .i64 0]) ?_ 4 _ rfl; refine qd_ ?_; refine blk_put (cs := #[.int .i64 ((rd_T63 t179 x66_3).f0.f0.f0), .int .i64 ((rd_T63 t179 x66_3).f0.f0.f1), .int .i64 ((rd_T63 t179 x66_3).f0.f0.f2), .int .i64 0, .int .i64 0, .int .i64 0, .int .i64 0, .int .i64 0]) ?_ 3 _ rfl; refine qd_ ?_; refine blk_put (cs := #[.int .i64 ((rd_T63 t179 x66_3).f0.f0.f0), .int .i64 ((rd_T63 t179 x66_3).f0.f0.f1), .int .i64 0, .int .i64 0, .int .i64 0, .int .i64 0, .int .i64 0, .int .i64 0]) ?_ 2 _ rfl; refine qd_ ?_; refine blk_put (cs := #[.int .i64 ((rd_T63 t179 x66_3).f0.f0.f0), .int .i64 0, .int .i64 0, .int .i64 0, .int .i64 0, .int .i64 0, .int .i64 0, .int .i64 0]) ?_ 1 _ rfl; refine qd_ ?_; refine blk_put (cs := #[.int .i64 0, .int .i64 0, .int .i64 0, .int .i64 0, .int .i64 0, .int .i64 0, .int .i64 0, .int .i64 0]) ?_ 0 _ rfl; refine qd_ ?_; exact BK184.out))⟩; replace HB : Aside0 (Below w.heap.size w w44) := ⟨(by rw [hw]; exact qb_)⟩; clear hw; obtain ⟨hcz45_0, hcz45_1, hcz45_2, hcz45_3, hcz45_4, hcz45_5, hcz45_6, hcz45_7⟩ := qz8_ BK184; obtain ⟨hfz45_0, hfz45_1, hfz45_2, hfz45_3, hfz45_4, hfz45_5, hfz45_6, hfz45_7⟩ := qf8_ BK184; have p40 : 0 ≤ (x66_3 : Int) := of_decide_eq_true qa_; have q40 : (x66_3 : Int) < ((x15_3.length : Int) : Int) := of_decide_eq_true qa_; obtain ⟨go40, co40, eo40, gb40, gl40, cl40, HG40⟩ := Kd.R_form HO_15.out (by omega); (first | cases eo40 | (injection eo40 with ea_ en_ ec_; (first | subst ea_ | (injection ea_ with ea_; subst ea_)); subst ec_; clear en_)); have GB40 := Aside0.mk gb40; have GG40 := Aside0.mk HG40; clear gb40 gl40 HG40; obtain ⟨hx40_0, hf40_0⟩ := Kd.R_celln 0 HO_15.out (x66_3 : Int) p40 q40; replace p40 := eq_true p40; replace q40 := eq_true q40; obtain ⟨hy46_, hz46_⟩ := Kd.R_celln 0 HO_15.out (x66_3 : Int) (of_decide_eq_true qa_) (of_decide_eq_true qa_); have HP46 := Kd.R_putg HO_15.out (x66_3 : Int) ((rd_T63 t179 x66_3).f1)) | ((with_reducible refine gate_store (t := 3) (p := 75) rfl ?_); refine store_event (t := 3) (p := 75) (v := ?vo_w47) (w1 := (w44.setCell ⟨go40, (x66_3 : Int).toNat, none⟩ (.int .i64 ((rd_T63 t179 x66_3).f1)))) ?hg ?ho ?hn ?hr ?_; (case ho => rfl); (case hg => rfl); (case hn => rfl); (case hr => exact qq_); intro w47 hw; have hg : w44.grownBy w47 (some go40) := (by rw [hw]; exact HP46.2); have hp_ : Kd.R (Kd.int .i64) 3 w47 w.heap.size (fun _ => True) (.slice (some ⟨go40, 0, none⟩) x15_3.length co40) y185 := (by rw [hw, Ny185.out]; exact HP46.1); clear HP46; replace HO_64 := Aside0.mk (Kd.R_over' (v := (.slice (some ⟨go40, 0, none⟩) x15_3.length co40)) (qr_ HO_64) (Kd.R_typed HO_15.out) (by decide) hg); replace BK169 := Aside0.mk (blk_grown (g := gb169) (o := .cells #[.int .i64 a0_0, .int .i64 a0_1, .int .i64 a0_2, .int .i64 a0_3] 23 (0, 0)) (qk_ BK169) hg (Kd.R_ne HO_15.out BK169.out (by decide))); replace BK184 := Aside0.mk (blk_grown (g := gb184) (o := .cells #[.int .i64 ((rd_T63 t179 x66_3).f0.f0.f0), .int .i64 ((rd_T63 t179 x66_3).f0.f0.f1), .int .i64 ((rd_T63 t179 x66_3).f0.f0.f2), .int .i64 ((rd_T63 t179 x66_3).f0.f0.f3), .int .i64 ((rd_T63 t179 x66_3).f0.f0.f4), .int .i64 ((rd_T63 t179 x66_3).f1), .int .i64 ((rd_T63 t179 x66_3).f2), .int .i64 ((rd_T63 t179 x66_3).f3)] 63 (0, 0)) (qk_ BK184) hg (Kd.R_ne HO_15.out BK184.out (by decide))); replace HO_15 := Aside0.mk (hp_); replace HB := Aside0.mk ((by rw [hw]; exact below_set (HB.out) GB40.out : Below w.heap.size w w47)); clear hg hw hp_))
                                (try simp only [← hl64_3])
                                go_roundg k3
                                case measure => have := HJ4.out; have := HK2.out; have := HK3.out; omega
                                case rel => exact ⟨(y185), (wrap64 (x66_3 + 1)), qs_, H', ⟨by have := HJ4.out; have := HK2.out; have := HK3.out; omega⟩, ⟨by (try simp only [hl10_2]); (try simp only [hl64_3]); (with_reducible repeat (first | apply Kd.R_alloc | apply Kd.R_drewN | apply Kd.R_drew)); exact HO_15.out⟩, ⟨by (try simp only [hl10_2]); (try simp only [hl64_3]); (with_reducible repeat (first | apply Kd.R_alloc | apply Kd.R_drewN | apply Kd.R_drew)); exact Kd.R_mono HO_64.out (fun _ hk => trivial)⟩, ⟨by (try simp only [hl10_2]); (try simp only [hl64_3]); refine qd_ ?_; exact BK169.out⟩, ⟨qb_⟩⟩
                              · rw [if_neg c39] at H
                                exact absurd H (by simp)
                            · rw [if_neg c38] at H
                              exact absurd H (by simp)
                          · rw [if_neg c37] at H
                            exact absurd H (by simp)
                        · rw [if_neg c36] at H
                          have c36b0 : decide (x66_3 < (x10_2.length : Int)) = false := decide_eq_false c36
                          have c36b8 := c36b0
                          try rw [hl10_2] at c36b8
                          try rw [hl64_3] at c36b8
                          clear c36
                          simp only [Option.some.injEq, Prod.mk.injEq] at H
                          obtain ⟨rfl, rfl⟩ := H
                          go_wp2
                          go_ret2
                          exact ⟨_, qx_, by (with_reducible repeat (first | apply Kd.R_alloc | apply Kd.R_drewN | apply Kd.R_drew)); exact HO_15.out, qb_⟩
                  · rw [if_neg c32] at H
                    exact absurd H (by simp)
                · rw [if_neg c31] at H
                  exact absurd H (by simp)
        · replace c15 := Bool.eq_false_iff.mpr c15
          subst c15
          have H1 : (some (([] : List Int), 1)) = some (r1, r2) := by rw [if_neg (show ¬ (false = true) by decide)] at H; exact H
          clear H
          have H := H1
          clear H1
          simp only [Option.some.injEq, Prod.mk.injEq] at H
          obtain ⟨rfl, rfl⟩ := H
          go_wp2_with (first | ((with_reducible refine gate_callee (f := 28) rfl ?_); refine goesL_ (some 29) rfl rfl Tryd.func28 (by kernel_rfl) rfl #[.slice A1 l1.length c1, .slice A3 l3.length c3] rfl ql_ ?_; (with_reducible refine (points_places.calls kj4 _ _ l1 _ _ l3 t171 false _ ?side1 ?side2 ?side3 ?side4 A14.out).mono ?_); (case side1 => exact qc_ HR1); (case side2 => exact HC1.out); (case side3 => exact qc_ HR3); (case side4 => exact HC3.out); rintro e w48 ⟨v173, rfl, ho0, hb⟩; refine ⟨_, rfl, ?_⟩; have HO174 := Aside0.mk (Kd.R_lower ho0 (below_size qb_)); replace BK169 := qkb_ BK169 hb; replace HB := qbs_ hb; (try clear hb); (try clear hb2); (try clear hk); (try clear hi); (try clear ho0)))
          go_ret2
          exact ⟨_, qx_, by first | exact Kd.R_nil _ _ _ _ _ | exact Kd.N_nil _ _ _ _ _ | exact Kd.V_nil _ _ _ _ _ | exact Kd.Q_nil _ _ _ _ _ | exact Kd.S_nil _ _ _ _ _, qb_⟩

end Go.Proofs.YtfhmbfadbfnnaaaDoor.Px
