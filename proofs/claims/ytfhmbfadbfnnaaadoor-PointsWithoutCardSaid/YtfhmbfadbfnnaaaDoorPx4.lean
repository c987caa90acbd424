/- Contracts of Go functions, written by a program of this session's own (wip/tools/myprint.py) out of the translation: each Go function does what the Lean function of its name says. Conditions: as each theorem states. -/
import Derived.Test.YtfhmbfadbfnnaaaDoorPx0
import Derived.Test.YtfhmbfadbfnnaaaDoorPx1
namespace Go.Proofs.YtfhmbfadbfnnaaaDoor.Px
open Go.Proofs.YtfhmbfadbfnnaaaDoor.Given
open Go.RowKit Go.Proofs.YtfhmbfadbfnnaaaDoorW.PrintWords Go.Proofs.YtfhmbfadbfnnaaaDoorW.PrintLast Go.Proofs.YtfhmbfadbfnnaaaDoorW.PrintMore
attribute [local go_sem] max2_int min2_int max_two min_two max_three min_three max_four min_four   -- for this text's walks alone
set_option linter.unusedVariables false
set_option linter.unusedSimpArgs false

/-! ### points_places: function 28 -/
mutual
def points_places.l0 : Nat → List (S25) → List Int → List (S63) → List (S25) → Int → Int → List (Int × Bool) → Option ((List (S63)) × Bool)
  | 0, _, _, _, _, _, _, _ => none
  | k + 1, x0, x1, x6, x16, x17, x18, x150000 => if x18 < x17 then (if 0 ≤ x18 then (if x18 < (x16.length : Int) then (if x18 < (x6.length : Int) then ((some (x6.set (x18 : Int).toNat (⟨(⟨(⟨(rd_T25 x16 x18).f0, (rd_T25 x16 x18).f1, (rd_T25 x16 x18).f2, (rd_T25 x16 x18).f3, (rd_T25 x16 x18).f4⟩ : S25)⟩ : S54), x18, 0, (-1)⟩ : S63) : List (S63))).bind fun y152 => ((points_home_valid.f ((rd_T63 y152 x18).f0.f0.f0) ((rd_T63 y152 x18).f0.f0.f1) ((rd_T63 y152 x18).f0.f0.f2) ((rd_T63 y152 x18).f0.f0.f3) ((rd_T63 y152 x18).f0.f0.f4)).bind fun t154 => (if t154 = true then (if mgetB x150000 ((rd_T25 x16 x18).f0) = true then (some (([] : List (S63)), false)) else (points_places.l0 k x0 x1 y152 x16 x17 (wrap64 (x18 + 1)) (mput x150000 ((rd_T25 x16 x18).f0) true))) else (some (([] : List (S63)), false))))) else (none)) else (none)) else (none)) else (points_places.l1 k x0 x1 x6 x1 (x1.length : Int) 0)
def points_places.l1 : Nat → List (S25) → List Int → List (S63) → List Int → Int → Int → Option ((List (S63)) × Bool)
  | 0, _, _, _, _, _, _ => none
  | k + 1, x0, x1, x6, x47, x48, x49 => if x49 < x48 then (if 0 ≤ x49 then (if x49 < (x47.length : Int) then (if (rd x47 x49) < 1 then (points_places.j2 k x0 x1 x6 x49 (rd x47 x49) x47 x48 x49 true) else (if (rd x47 x49) > (x0.length : Int) then (points_places.j2 k x0 x1 x6 x49 (rd x47 x49) x47 x48 x49 true) else (if 0 ≤ (wrap64 ((rd x47 x49) - 1)) then (if (wrap64 ((rd x47 x49) - 1)) < (x6.length : Int) then (points_places.j2 k x0 x1 x6 x49 (rd x47 x49) x47 x48 x49 (decide (((rd_T63 x6 (wrap64 ((rd x47 x49) - 1))).f3) ≥ 0))) else (none)) else (none)))) else (none)) else (none)) else (some (x6, ((x1.length : Int) == (x0.length : Int))))
def points_places.j2 : Nat → List (S25) → List Int → List (S63) → Int → Int → List Int → Int → Int → Bool → Option ((List (S63)) × Bool)
  | 0, _, _, _, _, _, _, _, _, _ => none
  | k + 1, x0, x1, x6, x10, x11, x47, x48, x49, x70 => if x70 = true then (some (([] : List (S63)), false)) else (if 0 ≤ (wrap64 (x11 - 1)) then (if (wrap64 (x11 - 1)) < (x6.length : Int) then (points_places.l1 k x0 x1 (x6.set ((wrap64 (x11 - 1)) : Int).toNat (⟨(⟨(⟨(rd_T63 x6 (wrap64 (x11 - 1))).f0.f0.f0, (rd_T63 x6 (wrap64 (x11 - 1))).f0.f0.f1, (rd_T63 x6 (wrap64 (x11 - 1))).f0.f0.f2, (rd_T63 x6 (wrap64 (x11 - 1))).f0.f0.f3, (rd_T63 x6 (wrap64 (x11 - 1))).f0.f0.f4⟩ : S25)⟩ : S54), (rd_T63 x6 (wrap64 (x11 - 1))).f1, (rd_T63 x6 (wrap64 (x11 - 1))).f2, x10⟩ : S63)) x47 x48 (wrap64 (x49 + 1))) else (none)) else (none))
end
def points_places.f (k : Nat) (l0 : List (S25)) (l1 : List Int) : Option ((List (S63)) × Bool) := if 0 ≤ (l0.length : Int) then (if ((l0.length : Int) : Int).toNat ≤ 4398046511104 then (points_places.l0 k l0 l1 (List.replicate ((l0.length : Int) : Int).toNat z63) l0 (l0.length : Int) 0 ([] : List (Int × Bool))) else (none)) else (none)
theorem points_places.mono_l : ∀ k, (∀ y0 y1 y2 y3 y4 y5 y6, LeO (points_places.l0 k y0 y1 y2 y3 y4 y5 y6) (points_places.l0 (k + 1) y0 y1 y2 y3 y4 y5 y6)) ∧ (∀ y0 y1 y2 y3 y4 y5, LeO (points_places.l1 k y0 y1 y2 y3 y4 y5) (points_places.l1 (k + 1) y0 y1 y2 y3 y4 y5)) ∧ (∀ y0 y1 y2 y3 y4 y5 y6 y7 y8, LeO (points_places.j2 k y0 y1 y2 y3 y4 y5 y6 y7 y8) (points_places.j2 (k + 1) y0 y1 y2 y3 y4 y5 y6 y7 y8))
  | 0 => ⟨fun _ _ _ _ _ _ _ r h => by simp [points_places.l0] at h, fun _ _ _ _ _ _ r h => by simp [points_places.l1] at h, fun _ _ _ _ _ _ _ _ _ r h => by simp [points_places.j2] at h⟩
  | k + 1 => by
    obtain ⟨ih0, ih1, ih2⟩ := points_places.mono_l k
    refine ⟨?_, ?_, ?_⟩
    · intro y0 y1 y2 y3 y4 y5 y6
      unfold points_places.l0
      with_reducible (repeat' first | apply ih0 | apply ih1 | apply ih2 | apply LeO.refl | apply LeO.none | apply LeO.ite | refine LeO.bind ?_ (fun _ => ?_))
    · intro y0 y1 y2 y3 y4 y5
      unfold points_places.l1
      with_reducible (repeat' first | apply ih0 | apply ih1 | apply ih2 | apply LeO.refl | apply LeO.none | apply LeO.ite | refine LeO.bind ?_ (fun _ => ?_))
    · intro y0 y1 y2 y3 y4 y5 y6 y7 y8
      unfold points_places.j2
      with_reducible (repeat' first | apply ih0 | apply ih1 | apply ih2 | apply LeO.refl | apply LeO.none | apply LeO.ite | refine LeO.bind ?_ (fun _ => ?_))
theorem points_places.mono : ∀ a0 a1 k, LeO (points_places.f k a0 a1) (points_places.f (k + 1) a0 a1) := by
  intro a0 a1 k
  obtain ⟨ih0, ih1, ih2⟩ := points_places.mono_l k
  unfold points_places.f
  with_reducible (repeat' first | apply ih0 | apply ih1 | apply ih2 | apply LeO.refl | apply LeO.none | apply LeO.ite | refine LeO.bind ?_ (fun _ => ?_))
set_option maxHeartbeats 8000000 in
set_option maxRecDepth 100000 in
theorem points_places.calls (k : Nat) (A0 : Option Addr) (c0 : Nat) (l0 : List (S25)) (A1 : Option Addr) (c1 : Nat) (l1 : List Int) (r1 : List (S63)) (r2 : Bool) (w : World) (hr0 : Kd.C k25 w A0 l0.length l0) (hc0 : l0.length ≤ c0) (hr1 : Kd.C (Kd.int .i64) w A1 l1.length l1) (hc1 : l1.length ≤ c1) (h : points_places.f k l0 l1 = some (r1, r2)) :
    Calls Tryd.prog 28 #[.slice A0 l0.length c0, .slice A1 l1.length c1] w fun e w' => ∃ v0_ : Value, e = .returned (.tuple #[v0_, .bool r2]) ∧ Kd.R k63 63 w' w.heap.size (fun _ => True) v0_ r1 ∧ Below w.heap.size w w' := by
  have hu25 := Tryd.underlying25
  have hu54 := Tryd.underlying54
  have hu63 := Tryd.underlying63
  have HR0 := Aside0.mk hr0
  have HC0 := Aside0.mk hc0
  clear hr0 hc0
  have HR1 := Aside0.mk hr1
  have HC1 := Aside0.mk hc1
  clear hr1 hc1
  have HB := Aside0.mk (Below.refl w.heap.size w)
  have H : (if 0 ≤ (l0.length : Int) then (if ((l0.length : Int) : Int).toNat ≤ 4398046511104 then (points_places.l0 k l0 l1 (List.replicate ((l0.length : Int) : Int).toNat z63) l0 (l0.length : Int) 0 ([] : List (Int × Bool))) else (none)) else (none)) = some (r1, r2) := h
  clear h
  by_cases c3 : 0 ≤ (l0.length : Int)
  · rw [if_pos c3] at H
    have c3b0 := eq_true c3
    have c3b1 : decide (0 ≤ (l0.length : Int)) = true := decide_eq_true c3
    clear c3
    by_cases c4 : ((l0.length : Int) : Int).toNat ≤ 4398046511104
    · rw [if_pos c4] at H
      have c4b0 := eq_true c4
      have c4b1 : decide (((l0.length : Int) : Int).toNat ≤ 4398046511104) = true := decide_eq_true c4
      clear c4
      obtain ⟨y146, hy146⟩ : ∃ y_ : List (S63), y_ = (List.replicate ((l0.length : Int) : Int).toNat z63) := ⟨_, rfl⟩
      replace H : (points_places.l0 k l0 l1 y146 l0 (l0.length : Int) 0 ([] : List (Int × Bool))) = some (r1, r2) := by first | (rw [hy146]; with_reducible exact H) | (have H2_ := (Option.bind_some _ _).symm.trans H; rw [hy146]; with_reducible exact H2_) | (have H2_ := (Option.bind_some _ _).symm.trans H; with_reducible exact H2_) | with_reducible exact H | (rw [hy146]; exact H) | exact H
      have Ny146 := Aside0.mk hy146
      clear hy146
      have H' := Aside0.mk H
      clear H
      go_enter Tryd.func28, Tryd.ntmps28
      go_wp2_with (first | ((with_reducible refine gate_dst (N := 14) rfl ?_); (try (refine gate_guard (by rfl) ?_; dsimp only)); refine Kd.R_make k63 _ 63 rfl (N := 14) rfl 59 _ _ rfl (l0.length : Int) rfl rfl Tryd.underlying59 (.agg #[(.int .i64 0), (.int .i64 0), (.int .i64 0), (.int .i64 0), (.int .i64 0), (.int .i64 0), (.int .i64 0), (.int .i64 0)]) 64 info63 rfl (by decide) (by omega) z63 (ok := fun _ => True) (okp := fun _ => True) (k63_mkM _ _ _ z63 ) (fun _ hk => hk) trivial (of_decide_eq_true qa_) (Nat.le_trans (Nat.mul_le_mul_right _ (of_decide_eq_true qa_ : (l0.length : Int).toNat ≤ 4398046511104)) (by omega)) (Below.refl _ _) (Nat.le_refl _) ?_; intro v147 w5 ho6 hb hg_ hnew_; clear hg_ hnew_; (first | rw [← Ny146.out] at ho6 | (simp only [Int.reduceToNat] at ho6; rw [← Ny146.out] at ho6)); have HO148 := Aside0.mk (Kd.R_lower ho6 (below_size qb_)); replace HB := qbs_ hb; clear hb ho6) | ((with_reducible refine gate_dst (N := 15) rfl ?_); (try (refine gate_guard (by rfl) ?_; dsimp only)); refine map_event (Value.bool) ?hg (N := 15) ?hd (T := 41) ?ho ?_; (case hg => rfl); (case hd => rfl); (case ho => rfl); intro gb149 hg w7 hbox hb; replace HO148 := qrb_ HO148 hb; have BK149 := Aside0.mk (hbox); have GW149 := qga_ hg; have GE149 := qga_ hg; replace HB := qbs_ hb; clear hb hbox hg))
      go_loopg [18] k (fun kq v18 w' => ∃ (x6_1 : List (S63)) (x18_1 : Int) (x150000_1 : List (Int × Bool)), v18 = .int .i64 x18_1 ∧ Aside0 (points_places.l0 kq l0 l1 x6_1 l0 (l0.length : Int) x18_1 x150000_1 = some (r1, r2)) ∧ Aside0 (kq ≤ k) ∧ Aside0 (Kd.R k63 63 w' w.heap.size (fun _ => True) v147 x6_1) ∧ Aside0 (w'.heap[gb149]? = some (mapObj (Value.bool) x150000_1)) ∧ Aside0 (Below w.heap.size w w'))
      case atStart => exact ⟨(y146), (0), (([] : List (Int × Bool))), qs_, H', ⟨Nat.le_refl _⟩, ⟨by (with_reducible repeat (first | apply Kd.R_alloc | apply Kd.R_drewN | apply Kd.R_drew)); exact HO148.out⟩, ⟨qk_ BK149⟩, ⟨qb_⟩⟩
      case round =>
        clear H'
        try clear c1
        try clear c2
        try clear p2
        try clear c3
        try clear c3b0
        try clear c3b1
        try clear c4
        try clear c4b0
        try clear c4b1
        obtain ⟨x6_1, x18_1, x150000_1, rfl, HA, HK1, HO_6, BK149, HB⟩ := hrel
        cases gk with
        | zero => exact absurd HA.out (by simp [points_places.l0])
        | succ k1 =>
          have H := HA.out
          clear HA
          simp only [points_places.l0] at H
          by_cases c8 : x18_1 < (l0.length : Int)
          · rw [if_pos c8] at H
            have c8b0 : decide (x18_1 < (l0.length : Int)) = true := decide_eq_true c8
            clear c8
            by_cases c9 : 0 ≤ x18_1
            · rw [if_pos c9] at H
              have c9b0 : decide (0 ≤ x18_1) = true := decide_eq_true c9
              clear c9
              by_cases c10 : x18_1 < (l0.length : Int)
              · rw [if_pos c10] at H
                have c10b0 : decide (x18_1 < (l0.length : Int)) = true := decide_eq_true c10
                clear c10
                by_cases c11 : x18_1 < (x6_1.length : Int)
                · rw [if_pos c11] at H
                  have c11b0 : decide (x18_1 < (x6_1.length : Int)) = true := decide_eq_true c11
                  clear c11
                  obtain ⟨y152, hy152⟩ : ∃ y_ : List (S63), y_ = (x6_1.set (x18_1 : Int).toNat (⟨(⟨(⟨(rd_T25 l0 x18_1).f0, (rd_T25 l0 x18_1).f1, (rd_T25 l0 x18_1).f2, (rd_T25 l0 x18_1).f3, (rd_T25 l0 x18_1).f4⟩ : S25)⟩ : S54), x18_1, 0, (-1)⟩ : S63)) := ⟨_, rfl⟩
                  replace H : ((points_home_valid.f ((rd_T63 y152 x18_1).f0.f0.f0) ((rd_T63 y152 x18_1).f0.f0.f1) ((rd_T63 y152 x18_1).f0.f0.f2) ((rd_T63 y152 x18_1).f0.f0.f3) ((rd_T63 y152 x18_1).f0.f0.f4)).bind fun t154 => (if t154 = true then (if mgetB x150000_1 ((rd_T25 l0 x18_1).f0) = true then (some (([] : List (S63)), false)) else (points_places.l0 k1 l0 l1 y152 l0 (l0.length : Int) (wrap64 (x18_1 + 1)) (mput x150000_1 ((rd_T25 l0 x18_1).f0) true))) else (some (([] : List (S63)), false)))) = some (r1, r2) := by first | (rw [hy152]; with_reducible exact H) | (have H2_ := (Option.bind_some _ _).symm.trans H; rw [hy152]; with_reducible exact H2_) | (have H2_ := (Option.bind_some _ _).symm.trans H; with_reducible exact H2_) | with_reducible exact H | (rw [hy152]; exact H) | exact H
                  have Ny152 := Aside0.mk hy152
                  clear hy152
                  replace H := Option.bind_eq_some_iff.mp H
                  obtain ⟨t154, A130, H⟩ := H
                  replace H : (if t154 = true then (if mgetB x150000_1 ((rd_T25 l0 x18_1).f0) = true then (some (([] : List (S63)), false)) else (points_places.l0 k1 l0 l1 y152 l0 (l0.length : Int) (wrap64 (x18_1 + 1)) (mput x150000_1 ((rd_T25 l0 x18_1).f0) true))) else (some (([] : List (S63)), false))) = some (r1, r2) := H
                  have A13 := Aside0.mk A130
                  clear A130
                  by_cases c14 : t154 = true
                  · subst c14
                    have H1 : (if mgetB x150000_1 ((rd_T25 l0 x18_1).f0) = true then (some (([] : List (S63)), false)) else (points_places.l0 k1 l0 l1 y152 l0 (l0.length : Int) (wrap64 (x18_1 + 1)) (mput x150000_1 ((rd_T25 l0 x18_1).f0) true))) = some (r1, r2) := by rw [if_pos rfl] at H; exact H
                    clear H
                    have H := H1
                    clear H1
                    by_cases c15 : mgetB x150000_1 ((rd_T25 l0 x18_1).f0) = true
                    · rw [if_pos c15] at H
                      have c15b0 : mgetB x150000_1 ((rd_T25 l0 x18_1).f0) = true := c15
                      clear c15
                      simp only [Option.some.injEq, Prod.mk.injEq] at H
                      obtain ⟨rfl, rfl⟩ := H
                      have p150 : 0 ≤ (x18_1 : Int) := of_decide_eq_true qa_
                      have q150 : x18_1 < (l0.length : Int) := of_decide_eq_true qa_
                      obtain ⟨ad150, e150, hx150_0, hx150_1, hx150_2, hx150_3, hx150_4⟩ := at_T25 HR0.out x18_1 p150 q150
                      cases e150
                      replace hx150_0 := qh_ HB hx150_0
                      replace hx150_1 := qh_ HB hx150_1
                      replace hx150_2 := qh_ HB hx150_2
                      replace hx150_3 := qh_ HB hx150_3
                      replace hx150_4 := qh_ HB hx150_4
                      replace p150 := eq_true p150
                      replace q150 := eq_true q150
                      go_wp2_with (first | ((with_reducible refine gate_dst (N := 9) rfl ?_); (try (refine gate_guard (by rfl) ?_; dsimp only)); refine qev_ 9 #[.int .i64 0, .int .i64 0, .int .i64 0, .int .i64 0, .int .i64 0] 25 ?_; intro gb151 hg w16 hbox hb; replace HO_6 := qrb_ HO_6 hb; have BK151 := Aside0.mk (hbox); have GW151 := qga_ hg; have GE151 := qga_ hg; replace HB := qbs_ hb; have NB149_151 := Aside0.mk ((by rw [hg]; exact Nat.ne_of_lt (blk_lt (g := gb149) (o := mapObj (Value.bool) x150000_1) (qk_ BK149)) : gb149 ≠ gb151)); have NB151_149 := Aside0.mk ((by rw [hg]; exact Nat.ne_of_gt (blk_lt (g := gb149) (o := mapObj (Value.bool) x150000_1) (qk_ BK149)) : gb151 ≠ gb149)); replace BK149 := Aside0.mk (blk_below (g := gb149) (o := mapObj (Value.bool) x150000_1) (qk_ BK149) hb); clear hb hbox hg; have hnb17 := NB151_149.out; have hnc17 := NB149_151.out; obtain ⟨hcz18_0, hcz18_1, hcz18_2, hcz18_3, hcz18_4⟩ := qz5_ BK151; obtain ⟨hfz18_0, hfz18_1, hfz18_2, hfz18_3, hfz18_4⟩ := qf5_ BK151) | ((with_reducible refine gate_store (t := 25) (p := 9) rfl ?_); refine store_event (t := 25) (p := 9) (v := ?vo_w19) (w1 := (((((w16.setCell ⟨gb151, 0, none⟩ (.int .i64 ((rd_T25 l0 x18_1).f0))).setCell ⟨gb151, 1, none⟩ (.int .i64 ((rd_T25 l0 x18_1).f1))).setCell ⟨gb151, 2, none⟩ (.int .i64 ((rd_T25 l0 x18_1).f2))).setCell ⟨gb151, 3, none⟩ (.int .i64 ((rd_T25 l0 x18_1).f3))).setCell ⟨gb151, 4, none⟩ (.int .i64 ((rd_T25 l0 x18_1).f4)))) ?hg ?ho ?hn ?hr ?_; (case ho => rfl); (case hg => rfl); (case hn => rfl); (case hr => exact qq_); intro w19 hw; replace HO_6 : Aside0 (Kd.R k63 63 w19 w.heap.size (fun _ => True) v147 x6_1) := ⟨(by rw [hw]; exact (by (with_reducible repeat (first | apply Kd.R_alloc | apply Kd.R_drewN | apply Kd.R_drew)); exact Kd.R_mono (Kd.R_far (p := ⟨gb151, 4, none⟩) (Kd.R_far (p := ⟨gb151, 3, none⟩) (Kd.R_far (p := ⟨gb151, 2, none⟩) (Kd.R_far (p := ⟨gb151, 1, none⟩) (Kd.R_far (p := ⟨gb151, 0, none⟩) (Kd.R_types HO_6.out BK151.out (by decide)) (fun _ hk => hk.2) (.int .i64 ((rd_T25 l0 x18_1).f0))) (fun _ hk => hk.2) (.int .i64 ((rd_T25 l0 x18_1).f1))) (fun _ hk => hk.2) (.int .i64 ((rd_T25 l0 x18_1).f2))) (fun _ hk => hk.2) (.int .i64 ((rd_T25 l0 x18_1).f3))) (fun _ hk => hk.2) (.int .i64 ((rd_T25 l0 x18_1).f4))) (fun _ hk => trivial)))⟩; replace BK149 : Aside0 (w19.heap[gb149]? = some (mapObj (Value.bool) x150000_1)) := ⟨(by rw [hw]; exact (by refine qd_ ?_; refine blk_farO ?_ NB149_151.out _; refine qd_ ?_; refine blk_farO ?_ NB149_151.out _; refine qd_ ?_; refine blk_farO ?_ NB149_151.out _; refine qd_ ?_; refine blk_farO ?_ NB149_151.out _; refine qd_ ?_; refine blk_farO ?_ NB149_151.out _; refine qd_ ?_; exact BK149.out))⟩; replace BK151 : Aside0 (w19.heap[gb151]? = some (.cells #[.int .i64 ((rd_T25 l0 x18_1).f0), .int .i64 ((rd_T25 l0 x18_1).f1), .int .i64 ((rd_T25 l0 x18_1).f2), .int .i64 ((rd_T25 l0 x18_1).f3), .int .i64 ((rd_T25 l0 x18_1).f4)] 25 (0, 0))) := ⟨(by rw [hw]; exact (by refine qd_ ?_; refine blk_put (cs := #[.int .i64 ((rd_T25 l0 x18_1).f0), .int .i64 ((rd_T25 l0 x18_1).f1), .int .i64 ((rd_T25 l0 x18_1).f2), .int .i64 ((rd_T25 l0 x18_1).f3), .int .i64 0]) ?_ 4 _ rfl; refine qd_ ?_; refine blk_put (cs := #[.int .i64 ((rd_T25 l0 x18_1).f0), .int .i64 ((rd_T25 l0 x18_1).f1), .int .i64 ((rd_T25 l0 x18_1).f2), .int .i64 0, .int .i64 0]) ?_ 3 _ rfl; refine qd_ ?_; refine blk_put (cs := #[.int .i64 ((rd_T25 l0 x18_1).f0), .int .i64 ((rd_T25 l0 x18_1).f1), .int .i64 0, .int .i64 0, .int .i64 0]) ?_ 2 _ rfl; refine qd_ ?_; refine blk_put (cs := #[.int .i64 ((rd_T25 l0 x18_1).f0), .int .i64 0, .int .i64 0, .int .i64 0, .int .i64 0]) ?_ 1 _ rfl; refine qd_ ?_; refine blk_put (cs := #[.int .i64 0, .int .i64 0, .int .i64 0, .int .i64 0, .int .i64 0]) ?_ 0 _ rfl; refine qd_ ?_; exact BK151.out))⟩; replace HB : Aside0 (Below w.heap.size w w19) := ⟨(by rw [hw]; exact qb_)⟩; clear hw; obtain ⟨hcz20_0, hcz20_1, hcz20_2, hcz20_3, hcz20_4⟩ := qz5_ BK151; obtain ⟨hfz20_0, hfz20_1, hfz20_2, hfz20_3, hfz20_4⟩ := qf5_ BK151; have p12 : 0 ≤ (x18_1 : Int) := of_decide_eq_true qa_; have q12 : (x18_1 : Int) < ((x6_1.length : Int) : Int) := of_decide_eq_true qa_; obtain ⟨go12, co12, eo12, gb12, gl12, cl12, HG12⟩ := Kd.R_form HO_6.out (by omega); (first | cases eo12 | (injection eo12 with ea_ en_ ec_; (first | subst ea_ | (injection ea_ with ea_; subst ea_)); subst ec_; clear en_)); have GB12 := Aside0.mk gb12; have GG12 := Aside0.mk HG12; clear gb12 gl12 HG12; obtain ⟨ce12, hcl12, hM12, hcc12, hfr12⟩ := Kd.R_elem HO_6.out z63 (x18_1 : Int) p12 q12; obtain rfl := k63_openM hM12; have hx12_0 : w19.cell? ⟨go12, (x18_1 : Int).toNat * 8, none⟩ = some (.int .i64 ((rd_T63 x6_1 x18_1).f0.f0.f0)) := hcc12 0 _ rfl; have hx12_1 : w19.cell? ⟨go12, (x18_1 : Int).toNat * 8 + 1, none⟩ = some (.int .i64 ((rd_T63 x6_1 x18_1).f0.f0.f1)) := hcc12 1 _ rfl; have hx12_2 : w19.cell? ⟨go12, (x18_1 : Int).toNat * 8 + 2, none⟩ = some (.int .i64 ((rd_T63 x6_1 x18_1).f0.f0.f2)) := hcc12 2 _ rfl; have hx12_3 : w19.cell? ⟨go12, (x18_1 : Int).toNat * 8 + 3, none⟩ = some (.int .i64 ((rd_T63 x6_1 x18_1).f0.f0.f3)) := hcc12 3 _ rfl; have hx12_4 : w19.cell? ⟨go12, (x18_1 : Int).toNat * 8 + 4, none⟩ = some (.int .i64 ((rd_T63 x6_1 x18_1).f0.f0.f4)) := hcc12 4 _ rfl; have hx12_5 : w19.cell? ⟨go12, (x18_1 : Int).toNat * 8 + 5, none⟩ = some (.int .i64 ((rd_T63 x6_1 x18_1).f1)) := hcc12 5 _ rfl; have hx12_6 : w19.cell? ⟨go12, (x18_1 : Int).toNat * 8 + 6, none⟩ = some (.int .i64 ((rd_T63 x6_1 x18_1).f2)) := hcc12 6 _ rfl; have hx12_7 : w19.cell? ⟨go12, (x18_1 : Int).toNat * 8 + 7, none⟩ = some (.int .i64 ((rd_T63 x6_1 x18_1).f3)) := hcc12 7 _ rfl; have hf12_0 : w19.frozen? ⟨go12, (x18_1 : Int).toNat * 8, none⟩ = false := hfr12 0; have hf12_1 : w19.frozen? ⟨go12, (x18_1 : Int).toNat * 8 + 1, none⟩ = false := hfr12 1; have hf12_2 : w19.frozen? ⟨go12, (x18_1 : Int).toNat * 8 + 2, none⟩ = false := hfr12 2; have hf12_3 : w19.frozen? ⟨go12, (x18_1 : Int).toNat * 8 + 3, none⟩ = false := hfr12 3; have hf12_4 : w19.frozen? ⟨go12, (x18_1 : Int).toNat * 8 + 4, none⟩ = false := hfr12 4; have hf12_5 : w19.frozen? ⟨go12, (x18_1 : Int).toNat * 8 + 5, none⟩ = false := hfr12 5; have hf12_6 : w19.frozen? ⟨go12, (x18_1 : Int).toNat * 8 + 6, none⟩ = false := hfr12 6; have hf12_7 : w19.frozen? ⟨go12, (x18_1 : Int).toNat * 8 + 7, none⟩ = false := hfr12 7; clear hcl12 hcc12 hfr12 hM12; replace p12 := eq_true p12; replace q12 := eq_true q12; have HX21 := Aside0.mk (show Kd.R k63 63 w19 w.heap.size (fun _ => True) (.slice (some ⟨go12, 0, none⟩) x6_1.length co12) x6_1 from (qr_ HO_6)); obtain ⟨ce21, hcl21, hM21, hcc21, hfr21⟩ := Kd.R_elem HX21.out z63 (x18_1 : Int) (of_decide_eq_true qa_) (by have h_ : (x18_1 : Int) < ((x6_1.length : Int) : Int) := of_decide_eq_true qa_; first | exact h_ | (have e_ := (Kd.R_reads' HO_6.out).1; omega) | simpa using h_); obtain rfl := k63_openM hM21; have HP21 := Kd.R_seg HX21.out (x18_1 : Int) (of_decide_eq_true qa_) (by have h_ : (x18_1 : Int) < ((x6_1.length : Int) : Int) := of_decide_eq_true qa_; first | exact h_ | (have e_ := (Kd.R_reads' HO_6.out).1; omega) | simpa using h_) (seg := [.int .i64 ((rd_T25 l0 x18_1).f0), .int .i64 ((rd_T25 l0 x18_1).f1), .int .i64 ((rd_T25 l0 x18_1).f2), .int .i64 ((rd_T25 l0 x18_1).f3), .int .i64 ((rd_T25 l0 x18_1).f4), .int .i64 x18_1, .int .i64 0, .int .i64 (-1)]) (j := 0) hcl21 hcc21 (show 8 ≤ 8 from by decide) (x' := (⟨(⟨(⟨(rd_T25 l0 x18_1).f0, (rd_T25 l0 x18_1).f1, (rd_T25 l0 x18_1).f2, (rd_T25 l0 x18_1).f3, (rd_T25 l0 x18_1).f4⟩ : S25)⟩ : S54), x18_1, 0, (-1)⟩ : S63)) (k63_mkM _ _ _ (⟨(⟨(⟨(rd_T25 l0 x18_1).f0, (rd_T25 l0 x18_1).f1, (rd_T25 l0 x18_1).f2, (rd_T25 l0 x18_1).f3, (rd_T25 l0 x18_1).f4⟩ : S25)⟩ : S54), x18_1, 0, (-1)⟩ : S63) ) (fun _ hk => hk); have hx21_0 := hcc21 0 _ rfl; (try simp only [show (k63).sz = 8 from rfl, Nat.mul_one, Nat.add_zero] at hx21_0); have hf21_0 := hfr21 0; (try simp only [show (k63).sz = 8 from rfl, Nat.mul_one, Nat.add_zero] at hf21_0); have hx21_1 := hcc21 1 _ rfl; (try simp only [show (k63).sz = 8 from rfl, Nat.mul_one, Nat.add_zero] at hx21_1); have hf21_1 := hfr21 1; (try simp only [show (k63).sz = 8 from rfl, Nat.mul_one, Nat.add_zero] at hf21_1); have hx21_2 := hcc21 2 _ rfl; (try simp only [show (k63).sz = 8 from rfl, Nat.mul_one, Nat.add_zero] at hx21_2); have hf21_2 := hfr21 2; (try simp only [show (k63).sz = 8 from rfl, Nat.mul_one, Nat.add_zero] at hf21_2); have hx21_3 := hcc21 3 _ rfl; (try simp only [show (k63).sz = 8 from rfl, Nat.mul_one, Nat.add_zero] at hx21_3); have hf21_3 := hfr21 3; (try simp only [show (k63).sz = 8 from rfl, Nat.mul_one, Nat.add_zero] at hf21_3); have hx21_4 := hcc21 4 _ rfl; (try simp only [show (k63).sz = 8 from rfl, Nat.mul_one, Nat.add_zero] at hx21_4); have hf21_4 := hfr21 4; (try simp only [show (k63).sz = 8 from rfl, Nat.mul_one, Nat.add_zero] at hf21_4); have hx21_5 := hcc21 5 _ rfl; (try simp only [show (k63).sz = 8 from rfl, Nat.mul_one, Nat.add_zero] at hx21_5); have hf21_5 := hfr21 5; (try simp only [show (k63).sz = 8 from rfl, Nat.mul_one, Nat.add_zero] at hf21_5); have hx21_6 := hcc21 6 _ rfl; (try simp only [show (k63).sz = 8 from rfl, Nat.mul_one, Nat.add_zero] at hx21_6); have hf21_6 := hfr21 6; (try simp only [show (k63).sz = 8 from rfl, Nat.mul_one, Nat.add_zero] at hf21_6); have hx21_7 := hcc21 7 _ rfl; (try simp only [show (k63).sz = 8 from rfl, Nat.mul_one, Nat.add_zero] at hx21_7); have hf21_7 := hfr21 7; (try simp only [show (k63).sz = 8 from rfl, Nat.mul_one, Nat.add_zero] at hf21_7); clear hcl21 hcc21 hfr21 hM21) | ((with_reducible refine gate_store (t := 63) (p := 29) rfl ?_); refine store_event (t := 63) (p := 29) (v := ?vo_w22) (w1 := ((((((((w19.setCell ⟨go12, (x18_1 : Int).toNat * 8, none⟩ (.int .i64 ((rd_T25 l0 x18_1).f0))).setCell ⟨go12, (x18_1 : Int).toNat * 8 + 1, none⟩ (.int .i64 ((rd_T25 l0 x18_1).f1))).setCell ⟨go12, (x18_1 : Int).toNat * 8 + 2, none⟩ (.int .i64 ((rd_T25 l0 x18_1).f2))).setCell ⟨go12, (x18_1 : Int).toNat * 8 + 3, none⟩ (.int .i64 ((rd_T25 l0 x18_1).f3))).setCell ⟨go12, (x18_1 : Int).toNat * 8 + 4, none⟩ (.int .i64 ((rd_T25 l0 x18_1).f4))).setCell ⟨go12, (x18_1 : Int).toNat * 8 + 5, none⟩ (.int .i64 x18_1)).setCell ⟨go12, (x18_1 : Int).toNat * 8 + 6, none⟩ (.int .i64 0)).setCell ⟨go12, (x18_1 : Int).toNat * 8 + 7, none⟩ (.int .i64 (-1)))) ?hg ?ho ?hn ?hr ?_; (case ho => rfl); (case hg => rfl); (case hn => rfl); (case hr => exact qq_); intro w22 hw; have hg : w19.grownBy w22 (some go12) := (by rw [hw]; exact HP21.2); have hp_ : Kd.R k63 63 w22 w.heap.size (fun _ => True) (.slice (some ⟨go12, 0, none⟩) x6_1.length co12) y152 := (by rw [hw, Ny152.out]; exact HP21.1); clear HP21; replace BK149 := Aside0.mk (blk_grown (g := gb149) (o := mapObj (Value.bool) x150000_1) (qk_ BK149) hg (R_nem HO_6.out BK149.out)); replace BK151 := Aside0.mk (blk_grown (g := gb151) (o := .cells #[.int .i64 ((rd_T25 l0 x18_1).f0), .int .i64 ((rd_T25 l0 x18_1).f1), .int .i64 ((rd_T25 l0 x18_1).f2), .int .i64 ((rd_T25 l0 x18_1).f3), .int .i64 ((rd_T25 l0 x18_1).f4)] 25 (0, 0)) (qk_ BK151) hg (Kd.R_ne HO_6.out BK151.out (by decide))); replace HO_6 := Aside0.mk (hp_); replace HB := Aside0.mk ((by rw [hw]; exact below_set (below_set (below_set (below_set (below_set (below_set (below_set (below_set (HB.out) GB12.out) GB12.out) GB12.out) GB12.out) GB12.out) GB12.out) GB12.out) GB12.out : Below w.heap.size w w22)); clear hg hw hp_; have p153 : 0 ≤ (x18_1 : Int) := of_decide_eq_true qa_; have q153 : x18_1 < (y152.length : Int) := (by have h_ : (x18_1 : Int) < ((x6_1.length : Int) : Int) := of_decide_eq_true qa_; first | (have e_ := (Kd.R_reads' HO_6.out).1; omega) | simpa only [Ny152.out, List.length_set] using h_); have ql153 : ((x18_1 : Int) < ((x6_1.length : Int) : Int)) = True := eq_true (of_decide_eq_true qa_); obtain ⟨ad153, e153, hx153_0, hx153_1, hx153_2, hx153_3, hx153_4, hx153_5, hx153_6, hx153_7⟩ := at_T63 (Kd.R_reads' HO_6.out).2.2 x18_1 p153 q153; obtain rfl : (⟨go12, 0, none⟩ : Addr) = ad153 := (by injection e153); (first | simp only [add_plain] at hx153_0 | simp only [add_at] at hx153_0 | simp only [Addr.add, Nat.zero_add] at hx153_0 | skip); (first | simp only [add_plain] at hx153_1 | simp only [add_at] at hx153_1 | simp only [Addr.add, Nat.zero_add] at hx153_1 | skip); (first | simp only [add_plain] at hx153_2 | simp only [add_at] at hx153_2 | simp only [Addr.add, Nat.zero_add] at hx153_2 | skip); (first | simp only [add_plain] at hx153_3 | simp only [add_at] at hx153_3 | simp only [Addr.add, Nat.zero_add] at hx153_3 | skip); (first | simp only [add_plain] at hx153_4 | simp only [add_at] at hx153_4 | simp only [Addr.add, Nat.zero_add] at hx153_4 | skip); (first | simp only [add_plain] at hx153_5 | simp only [add_at] at hx153_5 | simp only [Addr.add, Nat.zero_add] at hx153_5 | skip); (first | simp only [add_plain] at hx153_6 | simp only [add_at] at hx153_6 | simp only [Addr.add, Nat.zero_add] at hx153_6 | skip); (first | simp only [add_plain] at hx153_7 | simp only [add_at] at hx153_7 | simp only [Addr.add, Nat.zero_add] at hx153_7 | skip); replace p153 := eq_true p153; replace q153 := eq_true q153) | ((with_reducible refine gate_callee (f := 23) rfl ?_); refine goesL_ (some 35) rfl rfl Tryd.func23 (by kernel_rfl) rfl #[.agg #[.int .i64 ((rd_T63 y152 x18_1).f0.f0.f0), .int .i64 ((rd_T63 y152 x18_1).f0.f0.f1), .int .i64 ((rd_T63 y152 x18_1).f0.f0.f2), .int .i64 ((rd_T63 y152 x18_1).f0.f0.f3), .int .i64 ((rd_T63 y152 x18_1).f0.f0.f4)]] rfl ql_ ?_; (with_reducible refine (points_home_valid.calls ((rd_T63 y152 x18_1).f0.f0.f0) ((rd_T63 y152 x18_1).f0.f0.f1) ((rd_T63 y152 x18_1).f0.f0.f2) ((rd_T63 y152 x18_1).f0.f0.f3) ((rd_T63 y152 x18_1).f0.f0.f4) true _ A13.out).mono ?_); rintro e w23 ⟨rfl, hb⟩; refine ⟨_, rfl, ?_⟩; replace HO_6 := qrb_ HO_6 hb; replace BK149 := Aside0.mk (blk_below (g := gb149) (o := mapObj (Value.bool) x150000_1) (qk_ BK149) hb); replace BK151 := qkb_ BK151 hb; replace HB := qbs_ hb; (try clear hb); (try clear hb2); (try clear hk); (try clear hi); obtain ⟨hcz24_0, hcz24_1, hcz24_2, hcz24_3, hcz24_4⟩ := qz5_ BK151; obtain ⟨hfz24_0, hfz24_1, hfz24_2, hfz24_3, hfz24_4⟩ := qf5_ BK151) | ((with_reducible refine gate_dst (N := 41) rfl ?_); (try (refine gate_guard (by rfl) ?_; dsimp only)); refine mlookB_event rfl (N := 41) rfl rfl (M := x150000_1) (k := (rd_T25 l0 x18_1).f0) Tryd.underlying41 Tryd.underlying3 (zero_bool _) (qk_ BK149) rfl ?hx ?_; (case hx => first | rfl | (go_simp; done) | (go_simp; rfl))))
                      go_ret2
                      exact ⟨_, qx_, by first | exact Kd.R_nil _ _ _ _ _ | exact Kd.N_nil _ _ _ _ _ | exact Kd.V_nil _ _ _ _ _ | exact Kd.Q_nil _ _ _ _ _ | exact Kd.S_nil _ _ _ _ _, qb_⟩
                    · rw [if_neg c15] at H
                      have c15b0 : mgetB x150000_1 ((rd_T25 l0 x18_1).f0) = false := by simpa using c15
                      clear c15
                      have H' := Aside0.mk H
                      clear H
                      have p150 : 0 ≤ (x18_1 : Int) := of_decide_eq_true qa_
                      have q150 : x18_1 < (l0.length : Int) := of_decide_eq_true qa_
                      obtain ⟨ad150, e150, hx150_0, hx150_1, hx150_2, hx150_3, hx150_4⟩ := at_T25 HR0.out x18_1 p150 q150
                      cases e150
                      replace hx150_0 := qh_ HB hx150_0
                      replace hx150_1 := qh_ HB hx150_1
                      replace hx150_2 := qh_ HB hx150_2
                      replace hx150_3 := qh_ HB hx150_3
                      replace hx150_4 := qh_ HB hx150_4
                      replace p150 := eq_true p150
                      replace q150 := eq_true q150
                      go_wp2_with (first | ((with_reducible refine gate_dst (N := 9) rfl ?_); (try (refine gate_guard (by rfl) ?_; dsimp only)); refine qev_ 9 #[.int .i64 0, .int .i64 0, .int .i64 0, .int .i64 0, .int .i64 0] 25 ?_; intro gb151 hg w25 hbox hb; replace HO_6 := qrb_ HO_6 hb; have BK151 := Aside0.mk (hbox); have GW151 := qga_ hg; have GE151 := qga_ hg; replace HB := qbs_ hb; have NB149_151 := Aside0.mk ((by rw [hg]; exact Nat.ne_of_lt (blk_lt (g := gb149) (o := mapObj (Value.bool) x150000_1) (qk_ BK149)) : gb149 ≠ gb151)); have NB151_149 := Aside0.mk ((by rw [hg]; exact Nat.ne_of_gt (blk_lt (g := gb149) (o := mapObj (Value.bool) x150000_1) (qk_ BK149)) : gb151 ≠ gb149)); replace BK149 := Aside0.mk (blk_below (g := gb149) (o := mapObj (Value.bool) x150000_1) (qk_ BK149) hb); clear hb hbox hg; have hnb26 := NB151_149.out; have hnc26 := NB149_151.out; obtain ⟨hcz27_0, hcz27_1, hcz27_2, hcz27_3, hcz27_4⟩ := qz5_ BK151; obtain ⟨hfz27_0, hfz27_1, hfz27_2, hfz27_3, hfz27_4⟩ := qf5_ BK151) | ((with_reducible refine gate_store (t := 25) (p := 9) rfl ?_); refine store_event (t := 25) (p := 9) (v := ?vo_w28) (w1 := (((((w25.setCell ⟨gb151, 0, none⟩ (.int .i64 ((rd_T25 l0 x18_1).f0))).setCell ⟨gb151, 1, none⟩ (.int .i64 ((rd_T25 l0 x18_1).f1))).setCell ⟨gb151, 2, none⟩ (.int .i64 ((rd_T25 l0 x18_1).f2))).setCell ⟨gb151, 3, none⟩ (.int .i64 ((rd_T25 l0 x18_1).f3))).setCell ⟨gb151, 4, none⟩ (.int .i64 ((rd_T25 l0 x18_1).f4)))) ?hg ?ho ?hn ?hr ?_; (case ho => rfl); (case hg => rfl); (case hn => rfl); (case hr => exact qq_); intro w28 hw; replace HO_6 : Aside0 (Kd.R k63 63 w28 w.heap.size (fun _ => True) v147 x6_1) := ⟨(by rw [hw]; exact (by (with_reducible repeat (first | apply Kd.R_alloc | apply Kd.R_drewN | apply Kd.R_drew)); exact Kd.R_mono (Kd.R_far (p := ⟨gb151, 4, none⟩) (Kd.R_far (p := ⟨gb151, 3, none⟩) (Kd.R_far (p := ⟨gb151, 2, none⟩) (Kd.R_far (p := ⟨gb151, 1, none⟩) (Kd.R_far (p := ⟨gb151, 0, none⟩) (Kd.R_types HO_6.out BK151.out (by decide)) (fun _ hk => hk.2) (.int .i64 ((rd_T25 l0 x18_1).f0))) (fun _ hk => hk.2) (.int .i64 ((rd_T25 l0 x18_1).f1))) (fun _ hk => hk.2) (.int .i64 ((rd_T25 l0 x18_1).f2))) (fun _ hk => hk.2) (.int .i64 ((rd_T25 l0 x18_1).f3))) (fun _ hk => hk.2) (.int .i64 ((rd_T25 l0 x18_1).f4))) (fun _ hk => trivial)))⟩; replace BK149 : Aside0 (w28.heap[gb149]? = some (mapObj (Value.bool) x150000_1)) := ⟨(by rw [hw]; exact (by refine qd_ ?_; refine blk_farO ?_ NB149_151.out _; refine qd_ ?_; refine blk_farO ?_ NB149_151.out _; refine qd_ ?_; refine blk_farO ?_ NB149_151.out _; refine qd_ ?_; refine blk_farO ?_ NB149_151.out _; refine qd_ ?_; refine blk_farO ?_ NB149_151.out _; refine qd_ ?_; exact BK149.out))⟩; replace BK151 : Aside0 (w28.heap[gb151]? = some (.cells #[.int .i64 ((rd_T25 l0 x18_1).f0), .int .i64 ((rd_T25 l0 x18_1).f1), .int .i64 ((rd_T25 l0 x18_1).f2), .int .i64 ((rd_T25 l0 x18_1).f3), .int .i64 ((rd_T25 l0 x18_1).f4)] 25 (0, 0))) := ⟨(by rw [hw]; exact (by refine qd_ ?_; refine blk_put (cs := #[.int .i64 ((rd_T25 l0 x18_1).f0), .int .i64 ((rd_T25 l0 x18_1).f1), .int .i64 ((rd_T25 l0 x18_1).f2), .int .i64 ((rd_T25 l0 x18_1).f3), .int .i64 0]) ?_ 4 _ rfl; refine qd_ ?_; refine blk_put (cs := #[.int .i64 ((rd_T25 l0 x18_1).f0), .int .i64 ((rd_T25 l0 x18_1).f1), .int .i64 ((rd_T25 l0 x18_1).f2), .int .i64 0, .int .i64 0]) ?_ 3 _ rfl; refine qd_ ?_; refine blk_put (cs := #[.int .i64 ((rd_T25 l0 x18_1).f0), .int .i64 ((rd_T25 l0 x18_1).f1), .int .i64 0, .int .i64 0, .int .i64 0]) ?_ 2 _ rfl; refine qd_ ?_; refine blk_put (cs := #[.int .i64 ((rd_T25 l0 x18_1).f0), .int .i64 0, .int .i64 0, .int .i64 0, .int .i64 0]) ?_ 1 _ rfl; refine qd_ ?_; refine blk_put (cs := #[.int .i64 0, .int .i64 0, .int .i64 0, .int .i64 0, .int .i64 0]) ?_ 0 _ rfl; refine qd_ ?_; exact BK151.out))⟩; replace HB : Aside0 (Below w.heap.size w w28) := ⟨(by rw [hw]; exact qb_)⟩; clear hw; obtain ⟨hcz29_0, hcz29_1, hcz29_2, hcz29_3, hcz29_4⟩ := qz5_ BK151; obtain ⟨hfz29_0, hfz29_1, hfz29_2, hfz29_3, hfz29_4⟩ := qf5_ BK151; have p12 : 0 ≤ (x18_1 : Int) := of_decide_eq_true qa_; have q12 : (x18_1 : Int) < ((x6_1.length : Int) : Int) := of_decide_eq_true qa_; obtain ⟨go12, co12, eo12, gb12, gl12, cl12, HG12⟩ := Kd.R_form HO_6.out (by omega); (first | cases eo12 | (injection eo12 with ea_ en_ ec_; (first | subst ea_ | (injection ea_ with ea_; subst ea_)); subst ec_; clear en_)); have GB12 := Aside0.mk gb12; have GG12 := Aside0.mk HG12; clear gb12 gl12 HG12; obtain ⟨ce12, hcl12, hM12, hcc12, hfr12⟩ := Kd.R_elem HO_6.out z63 (x18_1 : Int) p12 q12; obtain rfl := k63_openM hM12; have hx12_0 : w28.cell? ⟨go12, (x18_1 : Int).toNat * 8, none⟩ = some (.int .i64 ((rd_T63 x6_1 x18_1).f0.f0.f0)) := hcc12 0 _ rfl; have hx12_1 : w28.cell? ⟨go12, (x18_1 : Int).toNat * 8 + 1, none⟩ = some (.int .i64 ((rd_T63 x6_1 x18_1).f0.f0.f1)) := hcc12 1 _ rfl; have hx12_2 : w28.cell? ⟨go12, (x18_1 : Int).toNat * 8 + 2, none⟩ = some (.int .i64 ((rd_T63 x6_1 x18_1).f0.f0.f2)) := hcc12 2 _ rfl; have hx12_3 : w28.cell? ⟨go12, (x18_1 : Int).toNat * 8 + 3, none⟩ = some (.int .i64 ((rd_T63 x6_1 x18_1).f0.f0.f3)) := hcc12 3 _ rfl; have hx12_4 : w28.cell? ⟨go12, (x18_1 : Int).toNat * 8 + 4, none⟩ = some (.int .i64 ((rd_T63 x6_1 x18_1).f0.f0.f4)) := hcc12 4 _ rfl; have hx12_5 : w28.cell? ⟨go12, (x18_1 : Int).toNat * 8 + 5, none⟩ = some (.int .i64 ((rd_T63 x6_1 x18_1).f1)) := hcc12 5 _ rfl; have hx12_6 : w28.cell? ⟨go12, (x18_1 : Int).toNat * 8 + 6, none⟩ = some (.int .i64 ((rd_T63 x6_1 x18_1).f2)) := hcc12 6 _ rfl; have hx12_7 : w28.cell? ⟨go12, (x18_1 : Int).toNat * 8 + 7, none⟩ = some (.int .i64 ((rd_T63 x6_1 x18_1).f3)) := hcc12 7 _ rfl; have hf12_0 : w28.frozen? ⟨go12, (x18_1 : Int).toNat * 8, none⟩ = false := hfr12 0; have hf12_1 : w28.frozen? ⟨go12, (x18_1 : Int).toNat * 8 + 1, none⟩ = false := hfr12 1; have hf12_2 : w28.frozen? ⟨go12, (x18_1 : Int).toNat * 8 + 2, none⟩ = false := hfr12 2; have hf12_3 : w28.frozen? ⟨go12, (x18_1 : Int).toNat * 8 + 3, none⟩ = false := hfr12 3; have hf12_4 : w28.frozen? ⟨go12, (x18_1 : Int).toNat * 8 + 4, none⟩ = false := hfr12 4; have hf12_5 : w28.frozen? ⟨go12, (x18_1 : Int).toNat * 8 + 5, none⟩ = false := hfr12 5; have hf12_6 : w28.frozen? ⟨go12, (x18_1 : Int).toNat * 8 + 6, none⟩ = false := hfr12 6; have hf12_7 : w28.frozen? ⟨go12, (x18_1 : Int).toNat * 8 + 7, none⟩ = false := hfr12 7; clear hcl12 hcc12 hfr12 hM12; replace p12 := eq_true p12; replace q12 := eq_true q12; have HX30 := Aside0.mk (show Kd.R k63 63 w28 w.heap.size (fun _ => True) (.slice (some ⟨go12, 0, none⟩) x6_1.length co12) x6_1 from (qr_ HO_6)); obtain ⟨ce30, hcl30, hM30, hcc30, hfr30⟩ := Kd.R_elem HX30.out z63 (x18_1 : Int) (of_decide_eq_true qa_) (by have h_ : (x18_1 : Int) < ((x6_1.length : Int) : Int) := of_decide_eq_true qa_; first | exact h_ | (have e_ := (Kd.R_reads' HO_6.out).1; omega) | simpa using h_); obtain rfl := k63_openM hM30; have HP30 := Kd.R_seg HX30.out (x18_1 : Int) (of_decide_eq_true qa_) (by have h_ : (x18_1 : Int) < ((x6_1.length : Int) : Int) := of_decide_eq_true qa_; first | exact h_ | (have e_ := (Kd.R_reads' HO_6.out).1; omega) | simpa using h_) (seg := [.int .i64 ((rd_T25 l0 x18_1).f0), .int .i64 ((rd_T25 l0 x18_1).f1), .int .i64 ((rd_T25 l0 x18_1).f2), .int .i64 ((rd_T25 l0 x18_1).f3), .int .i64 ((rd_T25 l0 x18_1).f4), .int .i64 x18_1, .int .i64 0, .int .i64 (-1)]) (j := 0) hcl30 hcc30 (show 8 ≤ 8 from by decide) (x' := (⟨(⟨(⟨(rd_T25 l0 x18_1).f0, (rd_T25 l0 x18_1).f1, (rd_T25 l0 x18_1).f2, (rd_T25 l0 x18_1).f3, (rd_T25 l0 x18_1).f4⟩ : S25)⟩ : S54), x18_1, 0, (-1)⟩ : S63)) (k63_mkM _ _ _ (⟨(⟨(⟨(rd_T25 l0 x18_1).f0, (rd_T25 l0 x18_1).f1, (rd_T25 l0 x18_1).f2, (rd_T25 l0 x18_1).f3, (rd_T25 l0 x18_1).f4⟩ : S25)⟩ : S54), x18_1, 0, (-1)⟩ : S63) ) (fun _ hk => hk); have hx30_0 := hcc30 0 _ rfl; (try simp only [show (k63).sz = 8 from rfl, Nat.mul_one, Nat.add_zero] at hx30_0); have hf30_0 := hfr30 0; (try simp only [show (k63).sz = 8 from rfl, Nat.mul_one, Nat.add_zero] at hf30_0); have hx30_1 := hcc30 1 _ rfl; (try simp only [show (k63).sz = 8 from rfl, Nat.mul_one, Nat.add_zero] at hx30_1); have hf30_1 := hfr30 1; (try simp only [show (k63).sz = 8 from rfl, Nat.mul_one, Nat.add_zero] at hf30_1); have hx30_2 := hcc30 2 _ rfl; (try simp only [show (k63).sz = 8 from rfl, Nat.mul_one, Nat.add_zero] at hx30_2); have hf30_2 := hfr30 2; (try simp only [show (k63).sz = 8 from rfl, Nat.mul_one, Nat.add_zero] at hf30_2); have hx30_3 := hcc30 3 _ rfl; (try simp only [show (k63).sz = 8 from rfl, Nat.mul_one, Nat.add_zero] at hx30_3); have hf30_3 := hfr30 3; (try simp only [show (k63).sz = 8 from rfl, Nat.mul_one, Nat.add_zero] at hf30_3); have hx30_4 := hcc30 4 _ rfl; (try simp only [show (k63).sz = 8 from rfl, Nat.mul_one, Nat.add_zero] at hx30_4); have hf30_4 := hfr30 4; (try simp only [show (k63).sz = 8 from rfl, Nat.mul_one, Nat.add_zero] at hf30_4); have hx30_5 := hcc30 5 _ rfl; (try simp only [show (k63).sz = 8 from rfl, Nat.mul_one, Nat.add_zero] at hx30_5); have hf30_5 := hfr30 5; (try simp only [show (k63).sz = 8 from rfl, Nat.mul_one, Nat.add_zero] at hf30_5); have hx30_6 := hcc30 6 _ rfl; (try simp only [show (k63).sz = 8 from rfl, Nat.mul_one, Nat.add_zero] at hx30_6); have hf30_6 := hfr30 6; (try simp only [show (k63).sz = 8 from rfl, Nat.mul_one, Nat.add_zero] at hf30_6); have hx30_7 := hcc30 7 _ rfl; (try simp only [show (k63).sz = 8 from rfl, Nat.mul_one, Nat.add_zero] at hx30_7); have hf30_7 := hfr30 7; (try simp only [show (k63).sz = 8 from rfl, Nat.mul_one, Nat.add_zero] at hf30_7); clear hcl30 hcc30 hfr30 hM30) | ((with_reducible refine gate_store (t := 63) (p := 29) rfl ?_); refine store_event (t := 63) (p := 29) (v := ?vo_w31) (w1 := ((((((((w28.setCell ⟨go12, (x18_1 : Int).toNat * 8, none⟩ (.int .i64 ((rd_T25 l0 x18_1).f0))).setCell ⟨go12, (x18_1 : Int).toNat * 8 + 1, none⟩ (.int .i64 ((rd_T25 l0 x18_1).f1))).setCell ⟨go12, (x18_1 : Int).toNat * 8 + 2, none⟩ (.int .i64 ((rd_T25 l0 x18_1).f2))).setCell ⟨go12, (x18_1 : Int).toNat * 8 + 3, none⟩ (.int .i64 ((rd_T25 l0 x18_1).f3))).setCell ⟨go12, (x18_1 : Int).toNat * 8 + 4, none⟩ (.int .i64 ((rd_T25 l0 x18_1).f4))).setCell ⟨go12, (x18_1 : Int).toNat * 8 + 5, none⟩ (.int .i64 x18_1)).setCell ⟨go12, (x18_1 : Int).toNat * 8 + 6, none⟩ (.int .i64 0)).setCell ⟨go12, (x18_1 : Int).toNat * 8 + 7, none⟩ (.int .i64 (-1)))) ?hg ?ho ?hn ?hr ?_; (case ho => rfl); (case hg => rfl); (case hn => rfl); (case hr => exact qq_); intro w31 hw; have hg : w28.grownBy w31 (some go12) := (by rw [hw]; exact HP30.2); have hp_ : Kd.R k63 63 w31 w.heap.size (fun _ => True) (.slice (some ⟨go12, 0, none⟩) x6_1.length co12) y152 := (by rw [hw, Ny152.out]; exact HP30.1); clear HP30; replace BK149 := Aside0.mk (blk_grown (g := gb149) (o := mapObj (Value.bool) x150000_1) (qk_ BK149) hg (R_nem HO_6.out BK149.out)); replace BK151 := Aside0.mk (blk_grown (g := gb151) (o := .cells #[.int .i64 ((rd_T25 l0 x18_1).f0), .int .i64 ((rd_T25 l0 x18_1).f1), .int .i64 ((rd_T25 l0 x18_1).f2), .int .i64 ((rd_T25 l0 x18_1).f3), .int .i64 ((rd_T25 l0 x18_1).f4)] 25 (0, 0)) (qk_ BK151) hg (Kd.R_ne HO_6.out BK151.out (by decide))); replace HO_6 := Aside0.mk (hp_); replace HB := Aside0.mk ((by rw [hw]; exact below_set (below_set (below_set (below_set (below_set (below_set (below_set (below_set (HB.out) GB12.out) GB12.out) GB12.out) GB12.out) GB12.out) GB12.out) GB12.out) GB12.out : Below w.heap.size w w31)); clear hg hw hp_; have p153 : 0 ≤ (x18_1 : Int) := of_decide_eq_true qa_; have q153 : x18_1 < (y152.length : Int) := (by have h_ : (x18_1 : Int) < ((x6_1.length : Int) : Int) := of_decide_eq_true qa_; first | (have e_ := (Kd.R_reads' HO_6.out).1; omega) | simpa only [Ny152.out, List.length_set] using h_); have ql153 : ((x18_1 : Int) < ((x6_1.length : Int) : Int)) = True := eq_true (of_decide_eq_true qa_); obtain ⟨ad153, e153, hx153_0, hx153_1, hx153_2, hx153_3, hx153_4, hx153_5, hx153_6, hx153_7⟩ := at_T63 (Kd.R_reads' HO_6.out).2.2 x18_1 p153 q153; obtain rfl : (⟨go12, 0, none⟩ : Addr) = ad153 := (by injection e153); (first | simp only [add_plain] at hx153_0 | simp only [add_at] at hx153_0 | simp only [Addr.add, Nat.zero_add] at hx153_0 | skip); (first | simp only [add_plain] at hx153_1 | simp only [add_at] at hx153_1 | simp only [Addr.add, Nat.zero_add] at hx153_1 | skip); (first | simp only [add_plain] at hx153_2 | simp only [add_at] at hx153_2 | simp only [Addr.add, Nat.zero_add] at hx153_2 | skip); (first | simp only [add_plain] at hx153_3 | simp only [add_at] at hx153_3 | simp only [Addr.add, Nat.zero_add] at hx153_3 | skip); (first | simp only [add_plain] at hx153_4 | simp only [add_at] at hx153_4 | simp only [Addr.add, Nat.zero_add] at hx153_4 | skip); (first | simp only [add_plain] at hx153_5 | simp only [add_at] at hx153_5 | simp only [Addr.add, Nat.zero_add] at hx153_5 | skip); (first | simp only [add_plain] at hx153_6 | simp only [add_at] at hx153_6 | simp only [Addr.add, Nat.zero_add] at hx153_6 | skip); (first | simp only [add_plain] at hx153_7 | simp only [add_at] at hx153_7 | simp only [Addr.add, Nat.zero_add] at hx153_7 | skip); replace p153 := eq_true p153; replace q153 := eq_true q153) | ((with_reducible refine gate_callee (f := 23) rfl ?_); refine goesL_ (some 35) rfl rfl Tryd.func23 (by kernel_rfl) rfl #[.agg #[.int .i64 ((rd_T63 y152 x18_1).f0.f0.f0), .int .i64 ((rd_T63 y152 x18_1).f0.f0.f1), .int .i64 ((rd_T63 y152 x18_1).f0.f0.f2), .int .i64 ((rd_T63 y152 x18_1).f0.f0.f3), .int .i64 ((rd_T63 y152 x18_1).f0.f0.f4)]] rfl ql_ ?_; (with_reducible refine (points_home_valid.calls ((rd_T63 y152 x18_1).f0.f0.f0) ((rd_T63 y152 x18_1).f0.f0.f1) ((rd_T63 y152 x18_1).f0.f0.f2) ((rd_T63 y152 x18_1).f0.f0.f3) ((rd_T63 y152 x18_1).f0.f0.f4) true _ A13.out).mono ?_); rintro e w32 ⟨rfl, hb⟩; refine ⟨_, rfl, ?_⟩; replace HO_6 := qrb_ HO_6 hb; replace BK149 := Aside0.mk (blk_below (g := gb149) (o := mapObj (Value.bool) x150000_1) (qk_ BK149) hb); replace BK151 := qkb_ BK151 hb; replace HB := qbs_ hb; (try clear hb); (try clear hb2); (try clear hk); (try clear hi); obtain ⟨hcz33_0, hcz33_1, hcz33_2, hcz33_3, hcz33_4⟩ := qz5_ BK151; obtain ⟨hfz33_0, hfz33_1, hfz33_2, hfz33_3, hfz33_4⟩ := qf5_ BK151) | ((with_reducible refine gate_dst (N := 41) rfl ?_); (try (refine gate_guard (by rfl) ?_; dsimp only)); refine mlookB_event rfl (N := 41) rfl rfl (M := x150000_1) (k := (rd_T25 l0 x18_1).f0) Tryd.underlying41 Tryd.underlying3 (zero_bool _) (qk_ BK149) rfl ?hx ?_; (case hx => first | rfl | (go_simp; done) | (go_simp; rfl))) | ((with_reducible refine gate_mput (t := 41) (p := 43) rfl ?_); refine mput_event rfl rfl (M := x150000_1) (k := (rd_T25 l0 x18_1).f0) (y := true) Tryd.underlying41 Tryd.underlying3 (qk_ BK149) rfl ?hx ?hv ?_; (case hx => first | rfl | (go_simp; done) | (go_simp; rfl)); (case hv => first | rfl | (go_simp; done) | (go_simp; rfl)); intro w34 hM hg; replace HO_6 := Aside0.mk (R_mapped (qr_ HO_6) (qk_ BK149) hg); replace BK149 := Aside0.mk (hM); replace BK151 := Aside0.mk (blk_grown (g := gb151) (o := .cells #[.int .i64 ((rd_T25 l0 x18_1).f0), .int .i64 ((rd_T25 l0 x18_1).f1), .int .i64 ((rd_T25 l0 x18_1).f2), .int .i64 ((rd_T25 l0 x18_1).f3), .int .i64 ((rd_T25 l0 x18_1).f4)] 25 (0, 0)) (qk_ BK151) hg (fun h_ => NB151_149.out (Option.some.inj h_))); replace HB := Aside0.mk (below_mapped qb_ hg GE149.out); clear hg hM))
                      go_roundg k1
                      case measure => have := HK1.out; omega
                      case rel => exact ⟨(y152), (wrap64 (x18_1 + 1)), (mput x150000_1 ((rd_T25 l0 x18_1).f0) true), qs_, H', ⟨by have := HK1.out; omega⟩, ⟨by (with_reducible repeat (first | apply Kd.R_alloc | apply Kd.R_drewN | apply Kd.R_drew)); exact HO_6.out⟩, ⟨qk_ BK149⟩, ⟨qb_⟩⟩
                  · replace c14 := Bool.eq_false_iff.mpr c14
                    subst c14
                    have H1 : (some (([] : List (S63)), false)) = some (r1, r2) := by rw [if_neg (show ¬ (false = true) by decide)] at H; exact H
                    clear H
                    have H := H1
                    clear H1
                    simp only [Option.some.injEq, Prod.mk.injEq] at H
                    obtain ⟨rfl, rfl⟩ := H
                    have p150 : 0 ≤ (x18_1 : Int) := of_decide_eq_true qa_
                    have q150 : x18_1 < (l0.length : Int) := of_decide_eq_true qa_
                    obtain ⟨ad150, e150, hx150_0, hx150_1, hx150_2, hx150_3, hx150_4⟩ := at_T25 HR0.out x18_1 p150 q150
                    cases e150
                    replace hx150_0 := qh_ HB hx150_0
                    replace hx150_1 := qh_ HB hx150_1
                    replace hx150_2 := qh_ HB hx150_2
                    replace hx150_3 := qh_ HB hx150_3
                    replace hx150_4 := qh_ HB hx150_4
                    replace p150 := eq_true p150
                    replace q150 := eq_true q150
                    go_wp2_with (first | ((with_reducible refine gate_dst (N := 9) rfl ?_); (try (refine gate_guard (by rfl) ?_; dsimp only)); refine qev_ 9 #[.int .i64 0, .int .i64 0, .int .i64 0, .int .i64 0, .int .i64 0] 25 ?_; intro gb151 hg w35 hbox hb; replace HO_6 := qrb_ HO_6 hb; have BK151 := Aside0.mk (hbox); have GW151 := qga_ hg; have GE151 := qga_ hg; replace HB := qbs_ hb; have NB149_151 := Aside0.mk ((by rw [hg]; exact Nat.ne_of_lt (blk_lt (g := gb149) (o := mapObj (Value.bool) x150000_1) (qk_ BK149)) : gb149 ≠ gb151)); have NB151_149 := Aside0.mk ((by rw [hg]; exact Nat.ne_of_gt (blk_lt (g := gb149) (o := mapObj (Value.bool) x150000_1) (qk_ BK149)) : gb151 ≠ gb149)); replace BK149 := Aside0.mk (blk_below (g := gb149) (o := mapObj (Value.bool) x150000_1) (qk_ BK149) hb); clear hb hbox hg; have hnb36 := NB151_149.out; have hnc36 := NB149_151.out; obtain ⟨hcz37_0, hcz37_1, hcz37_2, hcz37_3, hcz37_4⟩ := qz5_ BK151; obtain ⟨hfz37_0, hfz37_1, hfz37_2, hfz37_3, hfz37_4⟩ := qf5_ BK151) | ((with_reducible refine gate_store (t := 25) (p := 9) rfl ?_); refine store_event (t := 25) (p := 9) (v := ?vo_w38) (w1 := (((((w35.setCell ⟨gb151, 0, none⟩ (.int .i64 ((rd_T25 l0 x18_1).f0))).setCell ⟨gb151, 1, none⟩ (.int .i64 ((rd_T25 l0 x18_1).f1))).setCell ⟨gb151, 2, none⟩ (.int .i64 ((rd_T25 l0 x18_1).f2))).setCell ⟨gb151, 3, none⟩ (.int .i64 ((rd_T25 l0 x18_1).f3))).setCell ⟨gb151, 4, none⟩ (.int .i64 ((rd_T25 l0 x18_1).f4)))) ?hg ?ho ?hn ?hr ?_; (case ho => rfl); (case hg => rfl); (case hn => rfl); (case hr => exact qq_); intro w38 hw; replace HO_6 : Aside0 (Kd.R k63 63 w38 w.heap.size (fun _ => True) v147 x6_1) := ⟨(by rw [hw]; exact (by (with_reducible repeat (first | apply Kd.R_alloc | apply Kd.R_drewN | apply Kd.R_drew)); exact Kd.R_mono (Kd.R_far (p := ⟨gb151, 4, none⟩) (Kd.R_far (p := ⟨gb151, 3, none⟩) (Kd.R_far (p := ⟨gb151, 2, none⟩) (Kd.R_far (p := ⟨gb151, 1, none⟩) (Kd.R_far (p := ⟨gb151, 0, none⟩) (Kd.R_types HO_6.out BK151.out (by decide)) (fun _ hk => hk.2) (.int .i64 ((rd_T25 l0 x18_1).f0))) (fun _ hk => hk.2) (.int .i64 ((rd_T25 l0 x18_1).f1))) (fun _ hk => hk.2) (.int .i64 ((rd_T25 l0 x18_1).f2))) (fun _ hk => hk.2) (.int .i64 ((rd_T25 l0 x18_1).f3))) (fun _ hk => hk.2) (.int .i64 ((rd_T25 l0 x18_1).f4))) (fun _ hk => trivial)))⟩; replace BK149 : Aside0 (w38.heap[gb149]? = some (mapObj (Value.bool) x150000_1)) := ⟨(by rw [hw]; exact (by refine qd_ ?_; refine blk_farO ?_ NB149_151.out _; refine qd_ ?_; refine blk_farO ?_ NB149_151.out _; refine qd_ ?_; refine blk_farO ?_ NB149_151.out _; refine qd_ ?_; refine blk_farO ?_ NB149_151.out _; refine qd_ ?_; refine blk_farO ?_ NB149_151.out _; refine qd_ ?_; exact BK149.out))⟩; replace BK151 : Aside0 (w38.heap[gb151]? = some (.cells #[.int .i64 ((rd_T25 l0 x18_1).f0), .int .i64 ((rd_T25 l0 x18_1).f1), .int .i64 ((rd_T25 l0 x18_1).f2), .int .i64 ((rd_T25 l0 x18_1).f3), .int .i64 ((rd_T25 l0 x18_1).f4)] 25 (0, 0))) := ⟨(by rw [hw]; exact (by refine qd_ ?_; refine blk_put (cs := #[.int .i64 ((rd_T25 l0 x18_1).f0), .int .i64 ((rd_T25 l0 x18_1).f1), .int .i64 ((rd_T25 l0 x18_1).f2), .int .i64 ((rd_T25 l0 x18_1).f3), .int .i64 0]) ?_ 4 _ rfl; refine qd_ ?_; refine blk_put (cs := #[.int .i64 ((rd_T25 l0 x18_1).f0), .int .i64 ((rd_T25 l0 x18_1).f1), .int .i64 ((rd_T25 l0 x18_1).f2), .int .i64 0, .int .i64 0]) ?_ 3 _ rfl; refine qd_ ?_; refine blk_put (cs := #[.int .i64 ((rd_T25 l0 x18_1).f0), .int .i64 ((rd_T25 l0 x18_1).f1), .int .i64 0, .int .i64 0, .int .i64 0]) ?_ 2 _ rfl; refine qd_ ?_; refine blk_put (cs := #[.int .i64 ((rd_T25 l0 x18_1).f0), .int .i64 0, .int .i64 0, .int .i64 0, .int .i64 0]) ?_ 1 _ rfl; refine qd_ ?_; refine blk_put (cs := #[.int .i64 0, .int .i64 0, .int .i64 0, .int .i64 0, .int .i64 0]) ?_ 0 _ rfl; refine qd_ ?_; exact BK151.out))⟩; replace HB : Aside0 (Below w.heap.size w w38) := ⟨(by rw [hw]; exact qb_)⟩; clear hw; obtain ⟨hcz39_0, hcz39_1, hcz39_2, hcz39_3, hcz39_4⟩ := qz5_ BK151; obtain ⟨hfz39_0, hfz39_1, hfz39_2, hfz39_3, hfz39_4⟩ := qf5_ BK151; have p12 : 0 ≤ (x18_1 : Int) := of_decide_eq_true qa_; have q12 : (x18_1 : Int) < ((x6_1.length : Int) : Int) := of_decide_eq_true qa_; obtain ⟨go12, co12, eo12, gb12, gl12, cl12, HG12⟩ := Kd.R_form HO_6.out (by omega); (first | cases eo12 | (injection eo12 with ea_ en_ ec_; (first | subst ea_ | (injection ea_ with ea_; subst ea_)); subst ec_; clear en_)); have GB12 := Aside0.mk gb12; have GG12 := Aside0.mk HG12; clear gb12 gl12 HG12; obtain ⟨ce12, hcl12, hM12, hcc12, hfr12⟩ := Kd.R_elem HO_6.out z63 (x18_1 : Int) p12 q12; obtain rfl := k63_openM hM12; have hx12_0 : w38.cell? ⟨go12, (x18_1 : Int).toNat * 8, none⟩ = some (.int .i64 ((rd_T63 x6_1 x18_1).f0.f0.f0)) := hcc12 0 _ rfl; have hx12_1 : w38.cell? ⟨go12, (x18_1 : Int).toNat * 8 + 1, none⟩ = some (.int .i64 ((rd_T63 x6_1 x18_1).f0.f0.f1)) := hcc12 1 _ rfl; have hx12_2 : w38.cell? ⟨go12, (x18_1 : Int).toNat * 8 + 2, none⟩ = some (.int .i64 ((rd_T63 x6_1 x18_1).f0.f0.f2)) := hcc12 2 _ rfl; have hx12_3 : w38.cell? ⟨go12, (x18_1 : Int).toNat * 8 + 3, none⟩ = some (.int .i64 ((rd_T63 x6_1 x18_1).f0.f0.f3)) := hcc12 3 _ rfl; have hx12_4 : w38.cell? ⟨go12, (x18_1 : Int).toNat * 8 + 4, none⟩ = some (.int .i64 ((rd_T63 x6_1 x18_1).f0.f0.f4)) := hcc12 4 _ rfl; have hx12_5 : w38.cell? ⟨go12, (x18_1 : Int).toNat * 8 + 5, none⟩ = some (.int .i64 ((rd_T63 x6_1 x18_1).f1)) := hcc12 5 _ rfl; have hx12_6 : w38.cell? ⟨go12, (x18_1 : Int).toNat * 8 + 6, none⟩ = some (.int .i64 ((rd_T63 x6_1 x18_1).f2)) := hcc12 6 _ rfl; have hx12_7 : w38.cell? ⟨go12, (x18_1 : Int).toNat * 8 + 7, none⟩ = some (.int .i64 ((rd_T63 x6_1 x18_1).f3)) := hcc12 7 _ rfl; have hf12_0 : w38.frozen? ⟨go12, (x18_1 : Int).toNat * 8, none⟩ = false := hfr12 0; have hf12_1 : w38.frozen? ⟨go12, (x18_1 : Int).toNat * 8 + 1, none⟩ = false := hfr12 1; have hf12_2 : w38.frozen? ⟨go12, (x18_1 : Int).toNat * 8 + 2, none⟩ = false := hfr12 2; have hf12_3 : w38.frozen? ⟨go12, (x18_1 : Int).toNat * 8 + 3, none⟩ = false := hfr12 3; have hf12_4 : w38.frozen? ⟨go12, (x18_1 : Int).toNat * 8 + 4, none⟩ = false := hfr12 4; have hf12_5 : w38.frozen? ⟨go12, (x18_1 : Int).toNat * 8 + 5, none⟩ = false := hfr12 5; have hf12_6 : w38.frozen? ⟨go12, (x18_1 : Int).toNat * 8 + 6, none⟩ = false := hfr12 6; have hf12_7 : w38.frozen? ⟨go12, (x18_1 : Int).toNat * 8 + 7, none⟩ = false := hfr12 7; clear hcl12 hcc12 hfr12 hM12; replace p12 := eq_true p12; replace q12 := eq_true q12; have HX40 := Aside0.mk (show Kd.R k63 63 w38 w.heap.size (fun _ => True) (.slice (some ⟨go12, 0, none⟩) x6_1.length co12) x6_1 from (qr_ HO_6)); obtain ⟨ce40, hcl40, hM40, hcc40, hfr40⟩ := Kd.R_elem HX40.out z63 (x18_1 : Int) (of_decide_eq_true qa_) (by have h_ : (x18_1 : Int) < ((x6_1.length : Int) : Int) := of_decide_eq_true qa_; first | exact h_ | (have e_ := (Kd.R_reads' HO_6.out).1; omega) | simpa using h_); obtain rfl := k63_openM hM40; have HP40 := Kd.R_seg HX40.out (x18_1 : Int) (of_decide_eq_true qa_) (by have h_ : (x18_1 : Int) < ((x6_1.length : Int) : Int) := of_decide_eq_true qa_; first | exact h_ | (have e_ := (Kd.R_reads' HO_6.out).1; omega) | simpa using h_) (seg := [.int .i64 ((rd_T25 l0 x18_1).f0), .int .i64 ((rd_T25 l0 x18_1).f1), .int .i64 ((rd_T25 l0 x18_1).f2), .int .i64 ((rd_T25 l0 x18_1).f3), .int .i64 ((rd_T25 l0 x18_1).f4), .int .i64 x18_1, .int .i64 0, .int .i64 (-1)]) (j := 0) hcl40 hcc40 (show 8 ≤ 8 from by decide) (x' := (⟨(⟨(⟨(rd_T25 l0 x18_1).f0, (rd_T25 l0 x18_1).f1, (rd_T25 l0 x18_1).f2, (rd_T25 l0 x18_1).f3, (rd_T25 l0 x18_1).f4⟩ : S25)⟩ : S54), x18_1, 0, (-1)⟩ : S63)) (k63_mkM _ _ _ (⟨(⟨(⟨(rd_T25 l0 x18_1).f0, (rd_T25 l0 x18_1).f1, (rd_T25 l0 x18_1).f2, (rd_T25 l0 x18_1).f3, (rd_T25 l0 x18_1).f4⟩ : S25)⟩ : S54), x18_1, 0, (-1)⟩ : S63) ) (fun _ hk => hk); have hx40_0 := hcc40 0 _ rfl; (try simp only [show (k63).sz = 8 from rfl, Nat.mul_one, Nat.add_zero] at hx40_0); have hf40_0 := hfr40 0; (try simp only [show (k63).sz = 8 from rfl, Nat.mul_one, Nat.add_zero] at hf40_0); have hx40_1 := hcc40 1 _ rfl; (try simp only [show (k63).sz = 8 from rfl, Nat.mul_one, Nat.add_zero] at hx40_1); have hf40_1 := hfr40 1; (try simp only [show (k63).sz = 8 from rfl, Nat.mul_one, Nat.add_zero] at hf40_1); have hx40_2 := hcc40 2 _ rfl; (try simp only [show (k63).sz = 8 from rfl, Nat.mul_one, Nat.add_zero] at hx40_2); have hf40_2 := hfr40 2; (try simp only [show (k63).sz = 8 from rfl, Nat.mul_one, Nat.add_zero] at hf40_2); have hx40_3 := hcc40 3 _ rfl; (try simp only [show (k63).sz = 8 from rfl, Nat.mul_one, Nat.add_zero] at hx40_3); have hf40_3 := hfr40 3; (try simp only [show (k63).sz = 8 from rfl, Nat.mul_one, Nat.add_zero] at hf40_3); have hx40_4 := hcc40 4 _ rfl; (try simp only [show (k63).sz = 8 from rfl, Nat.mul_one, Nat.add_zero] at hx40_4); have hf40_4 := hfr40 4; (try simp only [show (k63).sz = 8 from rfl, Nat.mul_one, Nat.add_zero] at hf40_4); have hx40_5 := hcc40 5 _ rfl; (try simp only [show (k63).sz = 8 from rfl, Nat.mul_one, Nat.add_zero] at hx40_5); have hf40_5 := hfr40 5; (try simp only [show (k63).sz = 8 from rfl, Nat.mul_one, Nat.add_zero] at hf40_5); have hx40_6 := hcc40 6 _ rfl; (try simp only [show (k63).sz = 8 from rfl, Nat.mul_one, Nat.add_zero] at hx40_6); have hf40_6 := hfr40 6; (try simp only [show (k63).sz = 8 from rfl, Nat.mul_one, Nat.add_zero] at hf40_6); have hx40_7 := hcc40 7 _ rfl; (try simp only [show (k63).sz = 8 from rfl, Nat.mul_one, Nat.add_zero] at hx40_7); have hf40_7 := hfr40 7; (try simp only [show (k63).sz = 8 from rfl, Nat.mul_one, Nat.add_zero] at hf40_7); clear hcl40 hcc40 hfr40 hM40) | ((with_reducible refine gate_store (t := 63) (p := 29) rfl ?_); refine store_event (t := 63) (p := 29) (v := ?vo_w41) (w1 := ((((((((w38.setCell ⟨go12, (x18_1 : Int).toNat * 8, none⟩ (.int .i64 ((rd_T25 l0 x18_1).f0))).setCell ⟨go12, (x18_1 : Int).toNat * 8 + 1, none⟩ (.int .i64 ((rd_T25 l0 x18_1).f1))).setCell ⟨go12, (x18_1 : Int).toNat * 8 + 2, none⟩ (.int .i64 ((rd_T25 l0 x18_1).f2))).setCell ⟨go12, (x18_1 : Int).toNat * 8 + 3, none⟩ (.int .i64 ((rd_T25 l0 x18_1).f3))).setCell ⟨go12, (x18_1 : Int).toNat * 8 + 4, none⟩ (.int .i64 ((rd_T25 l0 x18_1).f4))).setCell ⟨go12, (x18_1 : Int).toNat * 8 + 5, none⟩ (.int .i64 x18_1)).setCell ⟨go12, (x18_1 : Int).toNat * 8 + 6, none⟩ (.int .i64 0)).setCell ⟨go12, (x18_1 : Int).toNat * 8 + 7, none⟩ (.int .i64 (-1)))) ?hg ?ho ?hn ?hr ?_; (case ho => rfl); (case hg => rfl); (case hn => rfl); (case hr => exact qq_); intro w41 hw; have hg : w38.grownBy w41 (some go12) := (by rw [hw]; exact HP40.2); have hp_ : Kd.R k63 63 w41 w.heap.size (fun _ => True) (.slice (some ⟨go12, 0, none⟩) x6_1.length co12) y152 := (by rw [hw, Ny152.out]; exact HP40.1); clear HP40; replace BK149 := Aside0.mk (blk_grown (g := gb149) (o := mapObj (Value.bool) x150000_1) (qk_ BK149) hg (R_nem HO_6.out BK149.out)); replace BK151 := Aside0.mk (blk_grown (g := gb151) (o := .cells #[.int .i64 ((rd_T25 l0 x18_1).f0), .int .i64 ((rd_T25 l0 x18_1).f1), .int .i64 ((rd_T25 l0 x18_1).f2), .int .i64 ((rd_T25 l0 x18_1).f3), .int .i64 ((rd_T25 l0 x18_1).f4)] 25 (0, 0)) (qk_ BK151) hg (Kd.R_ne HO_6.out BK151.out (by decide))); replace HO_6 := Aside0.mk (hp_); replace HB := Aside0.mk ((by rw [hw]; exact below_set (below_set (below_set (below_set (below_set (below_set (below_set (below_set (HB.out) GB12.out) GB12.out) GB12.out) GB12.out) GB12.out) GB12.out) GB12.out) GB12.out : Below w.heap.size w w41)); clear hg hw hp_; have p153 : 0 ≤ (x18_1 : Int) := of_decide_eq_true qa_; have q153 : x18_1 < (y152.length : Int) := (by have h_ : (x18_1 : Int) < ((x6_1.length : Int) : Int) := of_decide_eq_true qa_; first | (have e_ := (Kd.R_reads' HO_6.out).1; omega) | simpa only [Ny152.out, List.length_set] using h_); have ql153 : ((x18_1 : Int) < ((x6_1.length : Int) : Int)) = True := eq_true (of_decide_eq_true qa_); obtain ⟨ad153, e153, hx153_0, hx153_1, hx153_2, hx153_3, hx153_4, hx153_5, hx153_6, hx153_7⟩ := at_T63 (Kd.R_reads' HO_6.out).2.2 x18_1 p153 q153; obtain rfl : (⟨go12, 0, none⟩ : Addr) = ad153 := (by injection e153); (first | simp only [add_plain] at hx153_0 | simp only [add_at] at hx153_0 | simp only [Addr.add, Nat.zero_add] at hx153_0 | skip); (first | simp only [add_plain] at hx153_1 | simp only [add_at] at hx153_1 | simp only [Addr.add, Nat.zero_add] at hx153_1 | skip); (first | simp only [add_plain] at hx153_2 | simp only [add_at] at hx153_2 | simp only [Addr.add, Nat.zero_add] at hx153_2 | skip); (first | simp only [add_plain] at hx153_3 | simp only [add_at] at hx153_3 | simp only [Addr.add, Nat.zero_add] at hx153_3 | skip); (first | simp only [add_plain] at hx153_4 | simp only [add_at] at hx153_4 | simp only [Addr.add, Nat.zero_add] at hx153_4 | skip); (first | simp only [add_plain] at hx153_5 | simp only [add_at] at hx153_5 | simp only [Addr.add, Nat.zero_add] at hx153_5 | skip); (first | simp only [add_plain] at hx153_6 | simp only [add_at] at hx153_6 | simp only [Addr.add, Nat.zero_add] at hx153_6 | skip); (first | simp only [add_plain] at hx153_7 | simp only [add_at] at hx153_7 | simp only [Addr.add, Nat.zero_add] at hx153_7 | skip); replace p153 := eq_true p153; replace q153 := eq_true q153) | ((with_reducible refine gate_callee (f := 23) rfl ?_); refine goesL_ (some 35) rfl rfl Tryd.func23 (by kernel_rfl) rfl #[.agg #[.int .i64 ((rd_T63 y152 x18_1).f0.f0.f0), .int .i64 ((rd_T63 y152 x18_1).f0.f0.f1), .int .i64 ((rd_T63 y152 x18_1).f0.f0.f2), .int .i64 ((rd_T63 y152 x18_1).f0.f0.f3), .int .i64 ((rd_T63 y152 x18_1).f0.f0.f4)]] rfl ql_ ?_; (with_reducible refine (points_home_valid.calls ((rd_T63 y152 x18_1).f0.f0.f0) ((rd_T63 y152 x18_1).f0.f0.f1) ((rd_T63 y152 x18_1).f0.f0.f2) ((rd_T63 y152 x18_1).f0.f0.f3) ((rd_T63 y152 x18_1).f0.f0.f4) false _ A13.out).mono ?_); rintro e w42 ⟨rfl, hb⟩; refine ⟨_, rfl, ?_⟩; replace HO_6 := qrb_ HO_6 hb; replace BK149 := Aside0.mk (blk_below (g := gb149) (o := mapObj (Value.bool) x150000_1) (qk_ BK149) hb); replace BK151 := qkb_ BK151 hb; replace HB := qbs_ hb; (try clear hb); (try clear hb2); (try clear hk); (try clear hi)))
                    go_ret2
                    exact ⟨_, qx_, by first | exact Kd.R_nil _ _ _ _ _ | exact Kd.N_nil _ _ _ _ _ | exact Kd.V_nil _ _ _ _ _ | exact Kd.Q_nil _ _ _ _ _ | exact Kd.S_nil _ _ _ _ _, qb_⟩
                · rw [if_neg c11] at H
                  exact absurd H (by simp)
              · rw [if_neg c10] at H
                exact absurd H (by simp)
            · rw [if_neg c9] at H
              exact absurd H (by simp)
          · rw [if_neg c8] at H
            have c8b0 : decide (x18_1 < (l0.length : Int)) = false := decide_eq_false c8
            clear c8
            have H' := Aside0.mk H
            clear H
            go_wp2
            go_loopg [49] k1 (fun kq v49 w' => ∃ (x6_2 : List (S63)) (x49_2 : Int), v49 = .int .i64 x49_2 ∧ Aside0 (points_places.l1 kq l0 l1 x6_2 l1 (l1.length : Int) x49_2 = some (r1, r2)) ∧ Aside0 (kq ≤ k1) ∧ Aside0 (Kd.R k63 63 w' w.heap.size (fun _ => True) v147 x6_2) ∧ Aside0 (w'.heap[gb149]? = some (mapObj (Value.bool) x150000_1)) ∧ Aside0 (Below w.heap.size w w'))
            case atStart => exact ⟨(x6_1), (0), qs_, H', ⟨Nat.le_refl _⟩, ⟨by (with_reducible repeat (first | apply Kd.R_alloc | apply Kd.R_drewN | apply Kd.R_drew)); exact HO_6.out⟩, ⟨qk_ BK149⟩, ⟨qb_⟩⟩
            case round =>
              clear H'
              try clear c1
              try clear p1
              try clear q1
              try clear hx1
              try clear c2
              try clear p2
              try clear hx2
              try clear hf2
              try clear c3
              try clear c3b0
              try clear c3b1
              try clear hx3
              try clear hf3
              try clear c4
              try clear c4b0
              try clear c4b1
              try clear hx4
              try clear hf4
              try clear p6
              try clear c8
              try clear c8b0
              try clear c9
              try clear c9b0
              try clear c10
              try clear c10b0
              try clear c11
              try clear c11b0
              try clear c12
              try clear p12
              try clear q12
              try clear hx12
              try clear hf12
              try clear c14
              try clear c15
              try clear c15b0
              try clear p15
              try clear q15
              try clear hx15
              try clear c17
              try clear c21
              try clear hx21
              try clear hf21
              try clear c23
              try clear c26
              try clear c28
              try clear c30
              try clear hx30
              try clear hf30
              try clear c36
              try clear c40
              try clear hx40
              try clear hf40
              try clear hcz18_0 hcz18_1 hcz18_2 hcz18_3 hcz18_4
              try clear hcz20_0 hcz20_1 hcz20_2 hcz20_3 hcz20_4
              try clear hcz24_0 hcz24_1 hcz24_2 hcz24_3 hcz24_4
              try clear hcz27_0 hcz27_1 hcz27_2 hcz27_3 hcz27_4
              try clear hcz29_0 hcz29_1 hcz29_2 hcz29_3 hcz29_4
              try clear hcz33_0 hcz33_1 hcz33_2 hcz33_3 hcz33_4
              try clear hcz37_0 hcz37_1 hcz37_2 hcz37_3 hcz37_4
              try clear hcz39_0 hcz39_1 hcz39_2 hcz39_3 hcz39_4
              try clear hfz18_0 hfz18_1 hfz18_2 hfz18_3 hfz18_4
              try clear hfz20_0 hfz20_1 hfz20_2 hfz20_3 hfz20_4
              try clear hfz24_0 hfz24_1 hfz24_2 hfz24_3 hfz24_4
              try clear hfz27_0 hfz27_1 hfz27_2 hfz27_3 hfz27_4
              try clear hfz29_0 hfz29_1 hfz29_2 hfz29_3 hfz29_4
              try clear hfz33_0 hfz33_1 hfz33_2 hfz33_3 hfz33_4
              try clear hfz37_0 hfz37_1 hfz37_2 hfz37_3 hfz37_4
              try clear hfz39_0 hfz39_1 hfz39_2 hfz39_3 hfz39_4
              try clear hx12_0
              try clear hx12_1
              try clear hx12_2
              try clear hx12_3
              try clear hx12_4
              try clear hx12_5
              try clear hx12_6
              try clear hx12_7
              try clear hx150_0
              try clear hx150_1
              try clear hx150_2
              try clear hx150_3
              try clear hx150_4
              try clear hx153_0
              try clear hx153_1
              try clear hx153_2
              try clear hx153_3
              try clear hx153_4
              try clear hx153_5
              try clear hx153_6
              try clear hx153_7
              try clear hx21_0
              try clear hx21_1
              try clear hx21_2
              try clear hx21_3
              try clear hx21_4
              try clear hx21_5
              try clear hx21_6
              try clear hx21_7
              try clear hx30_0
              try clear hx30_1
              try clear hx30_2
              try clear hx30_3
              try clear hx30_4
              try clear hx30_5
              try clear hx30_6
              try clear hx30_7
              try clear hx40_0
              try clear hx40_1
              try clear hx40_2
              try clear hx40_3
              try clear hx40_4
              try clear hx40_5
              try clear hx40_6
              try clear hx40_7
              try clear p12
              try clear p150
              try clear p153
              try clear p2
              try clear q12
              try clear q150
              try clear q153
              obtain ⟨x6_2, x49_2, rfl, HA, HK2, HO_6, BK149, HB⟩ := hrel
              cases gk with
              | zero => exact absurd HA.out (by simp [points_places.l1])
              | succ k2 =>
                have H := HA.out
                clear HA
                simp only [points_places.l1] at H
                by_cases c43 : x49_2 < (l1.length : Int)
                · rw [if_pos c43] at H
                  have c43b0 : decide (x49_2 < (l1.length : Int)) = true := decide_eq_true c43
                  clear c43
                  by_cases c44 : 0 ≤ x49_2
                  · rw [if_pos c44] at H
                    have c44b0 : decide (0 ≤ x49_2) = true := decide_eq_true c44
                    clear c44
                    by_cases c45 : x49_2 < (l1.length : Int)
                    · rw [if_pos c45] at H
                      have c45b0 : decide (x49_2 < (l1.length : Int)) = true := decide_eq_true c45
                      clear c45
                      have HC46 := Aside0.mk H
                      clear H
                      have p155 : 0 ≤ (x49_2 : Int) := of_decide_eq_true qa_
                      have q155 : x49_2 < (l1.length : Int) := of_decide_eq_true qa_
                      obtain ⟨ad155, e155, hx155_0⟩ := Kd.at_int HR1.out x49_2 p155 q155
                      cases e155
                      replace hx155_0 := qh_ HB hx155_0
                      replace p155 := eq_true p155
                      replace q155 := eq_true q155
                      go_upto_region 14 with (fail)
                      go_cut [70] (fun v70 wc => ∃ (kq : Nat) (x70_45 : Bool), v70 = .bool x70_45 ∧ Aside0 (points_places.j2 kq l0 l1 x6_2 x49_2 (rd l1 x49_2) l1 (l1.length : Int) x49_2 x70_45 = some (r1, r2)) ∧ Aside0 (kq ≤ k2) ∧ Aside0 (Kd.R k63 63 wc w.heap.size (fun _ => True) v147 x6_2) ∧ Aside0 (wc.heap[gb149]? = some (mapObj (Value.bool) x150000_1)) ∧ Aside0 (Below w.heap.size w wc))
                      case first =>
                        have H := HC46.out
                        clear HC46
                        by_cases c47 : (rd l1 x49_2) < 1
                        · rw [if_pos c47] at H
                          have c47b0 : decide ((rd l1 x49_2) < 1) = true := decide_eq_true c47
                          clear c47
                          (first | rw [c47b0] | (simp only [i64_w, i32_w]; rw [c47b0]) | skip)
                          have H' := Aside0.mk H
                          clear H
                          go_wp2
                          go_meet
                          case rel => exact ⟨_, (true), qs_, H', ⟨by have := HK1.out; have := HK2.out; first | omega | exact Nat.le_refl _⟩, ⟨by (with_reducible repeat (first | apply Kd.R_alloc | apply Kd.R_drewN | apply Kd.R_drew)); exact HO_6.out⟩, ⟨qk_ BK149⟩, ⟨qb_⟩⟩
                        · rw [if_neg c47] at H
                          have c47b0 : decide ((rd l1 x49_2) < 1) = false := decide_eq_false c47
                          clear c47
                          (first | rw [c47b0] | (simp only [i64_w, i32_w]; rw [c47b0]) | skip)
                          by_cases c48 : (rd l1 x49_2) > (l0.length : Int)
                          · rw [if_pos c48] at H
                            have c48b0 : decide ((l0.length : Int) < (rd l1 x49_2)) = true := decide_eq_true c48
                            clear c48
                            have H' := Aside0.mk H
                            clear H
                            go_wp2
                            go_meet
                            case rel => exact ⟨_, (true), qs_, H', ⟨by have := HK1.out; have := HK2.out; first | omega | exact Nat.le_refl _⟩, ⟨by (with_reducible repeat (first | apply Kd.R_alloc | apply Kd.R_drewN | apply Kd.R_drew)); exact HO_6.out⟩, ⟨qk_ BK149⟩, ⟨qb_⟩⟩
                          · rw [if_neg c48] at H
                            have c48b0 : decide ((l0.length : Int) < (rd l1 x49_2)) = false := decide_eq_false c48
                            clear c48
                            obtain ⟨ji49, hji49⟩ : ∃ j_ : Int, (wrap64 ((rd l1 x49_2) - 1)) = j_ := ⟨_, rfl⟩
                            replace H : (if 0 ≤ (ji49) then (if (ji49) < (x6_2.length : Int) then (points_places.j2 k2 l0 l1 x6_2 x49_2 (rd l1 x49_2) l1 (l1.length : Int) x49_2 (decide (((rd_T63 x6_2 (ji49)).f3) ≥ 0))) else (none)) else (none)) = some (r1, r2) := by first | (rw [hji49] at H; exact H) | (simp only [hji49] at H ⊢; exact H)
                            have hji49w : (IntKind.i64.wrap ((rd l1 x49_2) - 1)) = ji49 := (i64_w _).trans hji49
                            by_cases c50 : 0 ≤ (ji49)
                            · rw [if_pos c50] at H
                              have c50b0 : decide (0 ≤ (ji49)) = true := decide_eq_true c50
                              clear c50
                              by_cases c51 : (ji49) < (x6_2.length : Int)
                              · rw [if_pos c51] at H
                                have c51b0 : decide ((ji49) < (x6_2.length : Int)) = true := decide_eq_true c51
                                clear c51
                                have H' := Aside0.mk H
                                clear H
                                obtain ⟨Ao52, co52, eo52⟩ := Kd.R_slice HO_6.out
                                subst eo52
                                have p156 : 0 ≤ ((ji49) : Int) := of_decide_eq_true qa_
                                have q156 : (ji49) < (x6_2.length : Int) := of_decide_eq_true qa_
                                obtain ⟨ad156, e156, hx156_0, hx156_1, hx156_2, hx156_3, hx156_4, hx156_5, hx156_6, hx156_7⟩ := at_T63 (Kd.R_reads' HO_6.out).2.2 (ji49) p156 q156
                                cases e156
                                replace p156 := eq_true p156
                                replace q156 := eq_true q156
                                go_wp2
                                try subst hji49
                                go_meet
                                case rel => exact ⟨_, (decide (((rd_T63 x6_2 ((wrap64 ((rd l1 x49_2) - 1)))).f3) ≥ 0)), (by first | rfl | (simp; done) | (simp only [← hji49] <;> (first | rfl | simp)) | (simp [*]; done)), H', ⟨by have := HK1.out; have := HK2.out; first | omega | exact Nat.le_refl _⟩, ⟨by (with_reducible repeat (first | apply Kd.R_alloc | apply Kd.R_drewN | apply Kd.R_drew)); exact HO_6.out⟩, ⟨qk_ BK149⟩, ⟨qb_⟩⟩
                              · rw [if_neg c51] at H
                                exact absurd H (by simp)
                            · rw [if_neg c50] at H
                              exact absurd H (by simp)
                      case rest =>
                        clear HC46
                        try clear c1
                        try clear p1
                        try clear q1
                        try clear hx1
                        try clear c2
                        try clear p2
                        try clear hx2
                        try clear hf2
                        try clear c3
                        try clear c3b0
                        try clear c3b1
                        try clear hx3
                        try clear hf3
                        try clear c4
                        try clear c4b0
                        try clear c4b1
                        try clear hx4
                        try clear hf4
                        try clear c5
                        try clear p6
                        try clear c8
                        try clear c8b0
                        try clear c9
                        try clear c9b0
                        try clear c10
                        try clear c10b0
                        try clear c11
                        try clear c11b0
                        try clear c12
                        try clear p12
                        try clear q12
                        try clear hx12
                        try clear hf12
                        try clear c14
                        try clear c15
                        try clear c15b0
                        try clear p15
                        try clear q15
                        try clear hx15
                        try clear c17
                        try clear c21
                        try clear hx21
                        try clear hf21
                        try clear c23
                        try clear c26
                        try clear c28
                        try clear c30
                        try clear hx30
                        try clear hf30
                        try clear c36
                        try clear c40
                        try clear hx40
                        try clear hf40
                        try clear c43
                        try clear c43b0
                        try clear c44
                        try clear c44b0
                        try clear c45
                        try clear c45b0
                        try clear c47
                        try clear c47b0
                        try clear c48
                        try clear c48b0
                        try clear c50
                        try clear c50b0
                        try clear c51
                        try clear c51b0
                        try clear hcz18_0 hcz18_1 hcz18_2 hcz18_3 hcz18_4
                        try clear hcz20_0 hcz20_1 hcz20_2 hcz20_3 hcz20_4
                        try clear hcz24_0 hcz24_1 hcz24_2 hcz24_3 hcz24_4
                        try clear hcz27_0 hcz27_1 hcz27_2 hcz27_3 hcz27_4
                        try clear hcz29_0 hcz29_1 hcz29_2 hcz29_3 hcz29_4
                        try clear hcz33_0 hcz33_1 hcz33_2 hcz33_3 hcz33_4
                        try clear hcz37_0 hcz37_1 hcz37_2 hcz37_3 hcz37_4
                        try clear hcz39_0 hcz39_1 hcz39_2 hcz39_3 hcz39_4
                        try clear hfz18_0 hfz18_1 hfz18_2 hfz18_3 hfz18_4
                        try clear hfz20_0 hfz20_1 hfz20_2 hfz20_3 hfz20_4
                        try clear hfz24_0 hfz24_1 hfz24_2 hfz24_3 hfz24_4
                        try clear hfz27_0 hfz27_1 hfz27_2 hfz27_3 hfz27_4
                        try clear hfz29_0 hfz29_1 hfz29_2 hfz29_3 hfz29_4
                        try clear hfz33_0 hfz33_1 hfz33_2 hfz33_3 hfz33_4
                        try clear hfz37_0 hfz37_1 hfz37_2 hfz37_3 hfz37_4
                        try clear hfz39_0 hfz39_1 hfz39_2 hfz39_3 hfz39_4
                        try clear hx12_0
                        try clear hx12_1
                        try clear hx12_2
                        try clear hx12_3
                        try clear hx12_4
                        try clear hx12_5
                        try clear hx12_6
                        try clear hx12_7
                        try clear hx150_0
                        try clear hx150_1
                        try clear hx150_2
                        try clear hx150_3
                        try clear hx150_4
                        try clear hx153_0
                        try clear hx153_1
                        try clear hx153_2
                        try clear hx153_3
                        try clear hx153_4
                        try clear hx153_5
                        try clear hx153_6
                        try clear hx153_7
                        try clear hx155_0
                        try clear hx156_0
                        try clear hx156_1
                        try clear hx156_2
                        try clear hx156_3
                        try clear hx156_4
                        try clear hx156_5
                        try clear hx156_6
                        try clear hx156_7
                        try clear hx21_0
                        try clear hx21_1
                        try clear hx21_2
                        try clear hx21_3
                        try clear hx21_4
                        try clear hx21_5
                        try clear hx21_6
                        try clear hx21_7
                        try clear hx30_0
                        try clear hx30_1
                        try clear hx30_2
                        try clear hx30_3
                        try clear hx30_4
                        try clear hx30_5
                        try clear hx30_6
                        try clear hx30_7
                        try clear hx40_0
                        try clear hx40_1
                        try clear hx40_2
                        try clear hx40_3
                        try clear hx40_4
                        try clear hx40_5
                        try clear hx40_6
                        try clear hx40_7
                        try clear p1
                        try clear p12
                        try clear p15
                        try clear p150
                        try clear p153
                        try clear p155
                        try clear p156
                        try clear p2
                        try clear p6
                        try clear q1
                        try clear q12
                        try clear q15
                        try clear q150
                        try clear q153
                        try clear q155
                        try clear q156
                        obtain ⟨kq, x70_45, rfl, HA, HJ45, HO_6, BK149, HB⟩ := hcut
                        cases kq with
                        | zero => exact absurd HA.out (by simp [points_places.j2])
                        | succ kj45 =>
                          have H := HA.out
                          clear HA
                          simp only [points_places.j2] at H
                          by_cases c53 : x70_45 = true
                          · subst c53
                            have H1 : (some (([] : List (S63)), false)) = some (r1, r2) := by rw [if_pos rfl] at H; exact H
                            clear H
                            have H := H1
                            clear H1
                            simp only [Option.some.injEq, Prod.mk.injEq] at H
                            obtain ⟨rfl, rfl⟩ := H
                            go_wp2
                            go_ret2
                            exact ⟨_, qx_, by first | exact Kd.R_nil _ _ _ _ _ | exact Kd.N_nil _ _ _ _ _ | exact Kd.V_nil _ _ _ _ _ | exact Kd.Q_nil _ _ _ _ _ | exact Kd.S_nil _ _ _ _ _, qb_⟩
                          · replace c53 := Bool.eq_false_iff.mpr c53
                            subst c53
                            have H1 : (if 0 ≤ (wrap64 ((rd l1 x49_2) - 1)) then (if (wrap64 ((rd l1 x49_2) - 1)) < (x6_2.length : Int) then (points_places.l1 kj45 l0 l1 (x6_2.set ((wrap64 ((rd l1 x49_2) - 1)) : Int).toNat (⟨(⟨(⟨(rd_T63 x6_2 (wrap64 ((rd l1 x49_2) - 1))).f0.f0.f0, (rd_T63 x6_2 (wrap64 ((rd l1 x49_2) - 1))).f0.f0.f1, (rd_T63 x6_2 (wrap64 ((rd l1 x49_2) - 1))).f0.f0.f2, (rd_T63 x6_2 (wrap64 ((rd l1 x49_2) - 1))).f0.f0.f3, (rd_T63 x6_2 (wrap64 ((rd l1 x49_2) - 1))).f0.f0.f4⟩ : S25)⟩ : S54), (rd_T63 x6_2 (wrap64 ((rd l1 x49_2) - 1))).f1, (rd_T63 x6_2 (wrap64 ((rd l1 x49_2) - 1))).f2, x49_2⟩ : S63)) l1 (l1.length : Int) (wrap64 (x49_2 + 1))) else (none)) else (none)) = some (r1, r2) := by rw [if_neg (show ¬ (false = true) by decide)] at H; exact H
                            clear H
                            have H := H1
                            clear H1
                            obtain ⟨ji54, hji54⟩ : ∃ j_ : Int, (wrap64 ((rd l1 x49_2) - 1)) = j_ := ⟨_, rfl⟩
                            replace H : (if 0 ≤ (ji54) then (if (ji54) < (x6_2.length : Int) then (points_places.l1 kj45 l0 l1 (x6_2.set ((ji54) : Int).toNat (⟨(⟨(⟨(rd_T63 x6_2 (ji54)).f0.f0.f0, (rd_T63 x6_2 (ji54)).f0.f0.f1, (rd_T63 x6_2 (ji54)).f0.f0.f2, (rd_T63 x6_2 (ji54)).f0.f0.f3, (rd_T63 x6_2 (ji54)).f0.f0.f4⟩ : S25)⟩ : S54), (rd_T63 x6_2 (ji54)).f1, (rd_T63 x6_2 (ji54)).f2, x49_2⟩ : S63)) l1 (l1.length : Int) (wrap64 (x49_2 + 1))) else (none)) else (none)) = some (r1, r2) := by first | (rw [hji54] at H; exact H) | (simp only [hji54] at H ⊢; exact H)
                            have hji54w : (IntKind.i64.wrap ((rd l1 x49_2) - 1)) = ji54 := (i64_w _).trans hji54
                            by_cases c55 : 0 ≤ (ji54)
                            · rw [if_pos c55] at H
                              have c55b0 : decide (0 ≤ (ji54)) = true := decide_eq_true c55
                              clear c55
                              by_cases c56 : (ji54) < (x6_2.length : Int)
                              · rw [if_pos c56] at H
                                have c56b0 : decide ((ji54) < (x6_2.length : Int)) = true := decide_eq_true c56
                                clear c56
                                obtain ⟨y157, hy157⟩ : ∃ y_ : List (S63), y_ = (x6_2.set ((ji54) : Int).toNat (⟨(⟨(⟨(rd_T63 x6_2 (ji54)).f0.f0.f0, (rd_T63 x6_2 (ji54)).f0.f0.f1, (rd_T63 x6_2 (ji54)).f0.f0.f2, (rd_T63 x6_2 (ji54)).f0.f0.f3, (rd_T63 x6_2 (ji54)).f0.f0.f4⟩ : S25)⟩ : S54), (rd_T63 x6_2 (ji54)).f1, (rd_T63 x6_2 (ji54)).f2, x49_2⟩ : S63)) := ⟨_, rfl⟩
                                replace H : (points_places.l1 kj45 l0 l1 y157 l1 (l1.length : Int) (wrap64 (x49_2 + 1))) = some (r1, r2) := by first | (rw [hy157]; with_reducible exact H) | (have H2_ := (Option.bind_some _ _).symm.trans H; rw [hy157]; with_reducible exact H2_) | (have H2_ := (Option.bind_some _ _).symm.trans H; with_reducible exact H2_) | with_reducible exact H | (rw [hy157]; exact H) | exact H
                                have Ny157 := Aside0.mk hy157
                                clear hy157
                                have H' := Aside0.mk H
                                clear H
                                have p57 : 0 ≤ ((ji54) : Int) := of_decide_eq_true qa_
                                have q57 : ((ji54) : Int) < ((x6_2.length : Int) : Int) := of_decide_eq_true qa_
                                obtain ⟨go57, co57, eo57, gb57, gl57, cl57, HG57⟩ := Kd.R_form HO_6.out (by omega)
                                (first | cases eo57 | (injection eo57 with ea_ en_ ec_; (first | subst ea_ | (injection ea_ with ea_; subst ea_)); subst ec_; clear en_))
                                have GB57 := Aside0.mk gb57
                                have GG57 := Aside0.mk HG57
                                clear gb57 gl57 HG57
                                obtain ⟨ce57, hcl57, hM57, hcc57, hfr57⟩ := Kd.R_elem HO_6.out z63 ((ji54) : Int) p57 q57
                                obtain rfl := k63_openM hM57
                                have hx57_0 : wc.cell? ⟨go57, ((ji54) : Int).toNat * 8, none⟩ = some (.int .i64 ((rd_T63 x6_2 (ji54)).f0.f0.f0)) := hcc57 0 _ rfl
                                have hx57_1 : wc.cell? ⟨go57, ((ji54) : Int).toNat * 8 + 1, none⟩ = some (.int .i64 ((rd_T63 x6_2 (ji54)).f0.f0.f1)) := hcc57 1 _ rfl
                                have hx57_2 : wc.cell? ⟨go57, ((ji54) : Int).toNat * 8 + 2, none⟩ = some (.int .i64 ((rd_T63 x6_2 (ji54)).f0.f0.f2)) := hcc57 2 _ rfl
                                have hx57_3 : wc.cell? ⟨go57, ((ji54) : Int).toNat * 8 + 3, none⟩ = some (.int .i64 ((rd_T63 x6_2 (ji54)).f0.f0.f3)) := hcc57 3 _ rfl
                                have hx57_4 : wc.cell? ⟨go57, ((ji54) : Int).toNat * 8 + 4, none⟩ = some (.int .i64 ((rd_T63 x6_2 (ji54)).f0.f0.f4)) := hcc57 4 _ rfl
                                have hx57_5 : wc.cell? ⟨go57, ((ji54) : Int).toNat * 8 + 5, none⟩ = some (.int .i64 ((rd_T63 x6_2 (ji54)).f1)) := hcc57 5 _ rfl
                                have hx57_6 : wc.cell? ⟨go57, ((ji54) : Int).toNat * 8 + 6, none⟩ = some (.int .i64 ((rd_T63 x6_2 (ji54)).f2)) := hcc57 6 _ rfl
                                have hx57_7 : wc.cell? ⟨go57, ((ji54) : Int).toNat * 8 + 7, none⟩ = some (.int .i64 ((rd_T63 x6_2 (ji54)).f3)) := hcc57 7 _ rfl
                                have hf57_0 : wc.frozen? ⟨go57, ((ji54) : Int).toNat * 8, none⟩ = false := hfr57 0
                                have hf57_1 : wc.frozen? ⟨go57, ((ji54) : Int).toNat * 8 + 1, none⟩ = false := hfr57 1
                                have hf57_2 : wc.frozen? ⟨go57, ((ji54) : Int).toNat * 8 + 2, none⟩ = false := hfr57 2
                                have hf57_3 : wc.frozen? ⟨go57, ((ji54) : Int).toNat * 8 + 3, none⟩ = false := hfr57 3
                                have hf57_4 : wc.frozen? ⟨go57, ((ji54) : Int).toNat * 8 + 4, none⟩ = false := hfr57 4
                                have hf57_5 : wc.frozen? ⟨go57, ((ji54) : Int).toNat * 8 + 5, none⟩ = false := hfr57 5
                                have hf57_6 : wc.frozen? ⟨go57, ((ji54) : Int).toNat * 8 + 6, none⟩ = false := hfr57 6
                                have hf57_7 : wc.frozen? ⟨go57, ((ji54) : Int).toNat * 8 + 7, none⟩ = false := hfr57 7
                                clear hcl57 hcc57 hfr57 hM57
                                replace p57 := eq_true p57
                                replace q57 := eq_true q57
                                have HX58 := Aside0.mk (show Kd.R k63 63 wc w.heap.size (fun _ => True) (.slice (some ⟨go57, 0, none⟩) x6_2.length co57) x6_2 from (qr_ HO_6))
                                obtain ⟨ce58, hcl58, hM58, hcc58, hfr58⟩ := Kd.R_elem HX58.out z63 ((ji54) : Int) (of_decide_eq_true qa_) (by have h_ : ((ji54) : Int) < ((x6_2.length : Int) : Int) := of_decide_eq_true qa_; first | exact h_ | (have e_ := (Kd.R_reads' HO_6.out).1; omega) | simpa using h_)
                                obtain rfl := k63_openM hM58
                                have HP58 := Kd.R_seg HX58.out ((ji54) : Int) (of_decide_eq_true qa_) (by have h_ : ((ji54) : Int) < ((x6_2.length : Int) : Int) := of_decide_eq_true qa_; first | exact h_ | (have e_ := (Kd.R_reads' HO_6.out).1; omega) | simpa using h_) (seg := [.int .i64 x49_2]) (j := 7) hcl58 hcc58 (show 8 ≤ 8 from by decide) (x' := (⟨(⟨(⟨(rd_T63 x6_2 (ji54)).f0.f0.f0, (rd_T63 x6_2 (ji54)).f0.f0.f1, (rd_T63 x6_2 (ji54)).f0.f0.f2, (rd_T63 x6_2 (ji54)).f0.f0.f3, (rd_T63 x6_2 (ji54)).f0.f0.f4⟩ : S25)⟩ : S54), (rd_T63 x6_2 (ji54)).f1, (rd_T63 x6_2 (ji54)).f2, x49_2⟩ : S63)) (k63_mkM _ _ _ (⟨(⟨(⟨(rd_T63 x6_2 (ji54)).f0.f0.f0, (rd_T63 x6_2 (ji54)).f0.f0.f1, (rd_T63 x6_2 (ji54)).f0.f0.f2, (rd_T63 x6_2 (ji54)).f0.f0.f3, (rd_T63 x6_2 (ji54)).f0.f0.f4⟩ : S25)⟩ : S54), (rd_T63 x6_2 (ji54)).f1, (rd_T63 x6_2 (ji54)).f2, x49_2⟩ : S63) ) (fun _ hk => hk)
                                have hx58_7 := hcc58 7 _ rfl
                                (try simp only [show (k63).sz = 8 from rfl, Nat.mul_one, Nat.add_zero] at hx58_7)
                                have hf58_7 := hfr58 7
                                (try simp only [show (k63).sz = 8 from rfl, Nat.mul_one, Nat.add_zero] at hf58_7)
                                clear hcl58 hcc58 hfr58 hM58
                                go_wp2_with (first | ((with_reducible refine gate_store (t := 3) (p := 76) rfl ?_); refine store_event (t := 3) (p := 76) (v := ?vo_w59) (w1 := (wc.setCell ⟨go57, ((ji54) : Int).toNat * 8 + 7, none⟩ (.int .i64 x49_2))) ?hg ?ho ?hn ?hr ?_; (case ho => rfl); (case hg => rfl); (case hn => rfl); (case hr => exact qq_); intro w59 hw; have hg : wc.grownBy w59 (some go57) := (by rw [hw]; exact HP58.2); have hp_ : Kd.R k63 63 w59 w.heap.size (fun _ => True) (.slice (some ⟨go57, 0, none⟩) x6_2.length co57) y157 := (by rw [hw, Ny157.out]; exact HP58.1); clear HP58; replace BK149 := Aside0.mk (blk_grown (g := gb149) (o := mapObj (Value.bool) x150000_1) (qk_ BK149) hg (R_nem HO_6.out BK149.out)); replace HO_6 := Aside0.mk (hp_); replace HB := Aside0.mk ((by rw [hw]; exact below_set (HB.out) GB57.out : Below w.heap.size w w59)); clear hg hw hp_))
                                go_roundg kj45
                                case measure => have := HK1.out; have := HK2.out; have := HJ45.out; omega
                                case rel => exact ⟨(y157), (wrap64 (x49_2 + 1)), qs_, H', ⟨by have := HK1.out; have := HK2.out; have := HJ45.out; omega⟩, ⟨by (with_reducible repeat (first | apply Kd.R_alloc | apply Kd.R_drewN | apply Kd.R_drew)); exact HO_6.out⟩, ⟨qk_ BK149⟩, ⟨qb_⟩⟩
                              · rw [if_neg c56] at H
                                exact absurd H (by simp)
                            · rw [if_neg c55] at H
                              exact absurd H (by simp)
                    · rw [if_neg c45] at H
                      exact absurd H (by simp)
                  · rw [if_neg c44] at H
                    exact absurd H (by simp)
                · rw [if_neg c43] at H
                  have c43b0 : decide (x49_2 < (l1.length : Int)) = false := decide_eq_false c43
                  clear c43
                  simp only [Option.some.injEq, Prod.mk.injEq] at H
                  obtain ⟨rfl, rfl⟩ := H
                  go_wp2
                  go_ret2
                  exact ⟨_, qx_, by (with_reducible repeat (first | apply Kd.R_alloc | apply Kd.R_drewN | apply Kd.R_drew)); exact HO_6.out, qb_⟩
    · rw [if_neg c4] at H
      exact absurd H (by simp)
  · rw [if_neg c3] at H
    exact absurd H (by simp)

end Go.Proofs.YtfhmbfadbfnnaaaDoor.Px
