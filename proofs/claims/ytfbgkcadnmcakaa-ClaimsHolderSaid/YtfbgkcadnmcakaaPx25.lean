/- Contracts of Go functions, printed. Conditions: as each theorem states. -/
import Derived.Test.YtfbgkcadnmcakaaPx0
import Derived.Test.YtfbgkcadnmcakaaPx11
import Derived.Test.YtfbgkcadnmcakaaPx16
namespace Go.Proofs.Ytfbgkcadnmcakaa.Px
open Go.Proofs.Ytfbgkcadnmcakaa.Given
open Go.RowKit Go.Proofs.YtfbgkcadnmcakaaW.PrintWords Go.Proofs.YtfbgkcadnmcakaaW.PrintLast Go.Proofs.YtfbgkcadnmcakaaW.PrintMore
attribute [local go_sem] a3g a3a a3n a3j a2u a2v a3h a3i
set_option linter.unusedVariables false
set_option linter.unusedSimpArgs false
mutual
def a0e.j0 : Nat → List (S26) → Int → Int → Int → Bool → Int → Int → Bool → Int → Int → Int → Int → Int → Int → Option (Bool)
 | 0, _, _, _, _, _, _, _, _, _, _, _, _, _, _ => none
 | k + 1, x1, x2, x3, x4, x11, x12, x13, x35, z0, z1, z2, z3, z4, z5 => if x35 = true then (if x11 = true then (if x13 = 1 then (some (x12 == 0)) else (some true)) else (some false)) else (a0e.l0 k x1 x2 x3 x4 x11 x12 ([] : List (S26)) x1 (x1.length : Int) 0 z0 z1 z2 z3 z4 z5)
def a0e.l0 : Nat → List (S26) → Int → Int → Int → Bool → Int → List (S26) → List (S26) → Int → Int → Int → Int → Int → Int → Int → Int → Option (Bool)
 | 0, _, _, _, _, _, _, _, _, _, _, _, _, _, _, _, _ => none
 | k + 1, x1, x2, x3, x4, x11, x12, x14, x45, x46, x47, z0, z1, z2, z3, z4, z5 => if x47 < x46 then (if 0 ≤ x47 then (if x47 < (x45.length : Int) then (if ((a0b x45 x47).f0) = z0 then (if ((a0b x45 x47).f3) ≤ x4 then ((some (([(⟨(a0b x45 x47).f0, (a0b x45 x47).f1, (a0b x45 x47).f2, (a0b x45 x47).f3⟩ : S26)] : List (S26)) : List (S26))).bind fun y450 => (if x14.length + y450.length < 4398046511104 then (a0e.l0 k x1 x2 x3 x4 x11 x12 (x14 ++ y450) x45 x46 (wrap64 (x47 + 1)) z0 z1 z2 z3 z4 z5) else (none))) else (a0e.l0 k x1 x2 x3 x4 x11 x12 x14 x45 x46 (wrap64 (x47 + 1)) z0 z1 z2 z3 z4 z5)) else (a0e.l0 k x1 x2 x3 x4 x11 x12 x14 x45 x46 (wrap64 (x47 + 1)) z0 z1 z2 z3 z4 z5)) else (none)) else (none)) else ((a0q.f k z0 z1 z2 z3 z4 z5 x14 x4).bind fun bt456 => (if bt456.2 = 0 then (a0e.j2 k x1 x2 x3 x4 x11 x12 (bt456.1 != x12) z0 z1 z2 z3 z4 z5) else (a0e.j2 k x1 x2 x3 x4 x11 x12 true z0 z1 z2 z3 z4 z5)))
def a0e.j2 : Nat → List (S26) → Int → Int → Int → Bool → Int → Bool → Int → Int → Int → Int → Int → Int → Option (Bool)
 | 0, _, _, _, _, _, _, _, _, _, _, _, _, _ => none
 | k + 1, x1, x2, x3, x4, x11, x12, x80, z0, z1, z2, z3, z4, z5 => if x80 = true then (some false) else ((some (([] : List (S26)) : List (S26))).bind fun y458 => (if y458.length + x1.length < 4398046511104 then ((some (y458 ++ x1 : List (S26))).bind fun y461 => ((some (([(⟨z0, x2, x3, x4⟩ : S26)] : List (S26)) : List (S26))).bind fun y464 => (if y461.length + y464.length < 4398046511104 then ((a0q.f k z0 z1 z2 z3 z4 z5 (y461 ++ y464) x4).bind fun bt470 => (if bt470.2 = 0 then (if x2 = x12 then (if x11 = true then (some (bt470.1 == x3)) else (some false)) else (if x11 = true then (some (bt470.1 == x12)) else (some false))) else (if x11 = true then (some (bt470.2 == 1)) else (some false)))) else (none)))) else (none)))
end
def a0e.f (k : Nat) (a0_0 a0_1 a0_2 a0_3 a0_4 a0_5 : Int) (l1 : List (S26)) (a2 a3 a4 : Int) : Option (Bool) := (a0d.f k).bind fun t445 => ((a0q.f k a0_0 a0_1 a0_2 a0_3 a0_4 a0_5 l1 a4).bind fun bt446 => (if bt446.2 = 0 then (a0e.j0 k l1 a2 a3 a4 t445 bt446.1 bt446.2 (decide ((l1.length : Int) > 100)) a0_0 a0_1 a0_2 a0_3 a0_4 a0_5) else (a0e.j0 k l1 a2 a3 a4 t445 bt446.1 bt446.2 true a0_0 a0_1 a0_2 a0_3 a0_4 a0_5)))
theorem a0e.a1u : ∀ k, (∀ y0 y1 y2 y3 y4 y5 y6 y7 y8 y9 y10 y11 y12 y13, LeO (a0e.j0 k y0 y1 y2 y3 y4 y5 y6 y7 y8 y9 y10 y11 y12 y13) (a0e.j0 (k + 1) y0 y1 y2 y3 y4 y5 y6 y7 y8 y9 y10 y11 y12 y13)) ∧ (∀ y0 y1 y2 y3 y4 y5 y6 y7 y8 y9 y10 y11 y12 y13 y14 y15, LeO (a0e.l0 k y0 y1 y2 y3 y4 y5 y6 y7 y8 y9 y10 y11 y12 y13 y14 y15) (a0e.l0 (k + 1) y0 y1 y2 y3 y4 y5 y6 y7 y8 y9 y10 y11 y12 y13 y14 y15)) ∧ (∀ y0 y1 y2 y3 y4 y5 y6 y7 y8 y9 y10 y11 y12, LeO (a0e.j2 k y0 y1 y2 y3 y4 y5 y6 y7 y8 y9 y10 y11 y12) (a0e.j2 (k + 1) y0 y1 y2 y3 y4 y5 y6 y7 y8 y9 y10 y11 y12))
 | 0 => ⟨fun _ _ _ _ _ _ _ _ _ _ _ _ _ _ r h => by simp [a0e.j0] at h, fun _ _ _ _ _ _ _ _ _ _ _ _ _ _ _ _ r h => by simp [a0e.l0] at h, fun _ _ _ _ _ _ _ _ _ _ _ _ _ r h => by simp [a0e.j2] at h⟩
 | k + 1 => by
  obtain ⟨ih0, ih1, ih2⟩ := a0e.a1u k
  refine ⟨?_, ?_, ?_⟩
  ·intro y0 y1 y2 y3 y4 y5 y6 y7 y8 y9 y10 y11 y12 y13
   unfold a0e.j0
   with_reducible (repeat' first | apply ih0 | apply ih1 | apply ih2 | apply a0q.mono | apply a0d.mono | apply LeO.refl | apply LeO.none | apply LeO.ite | refine LeO.bind ?_ (fun _ => ?_))
  ·intro y0 y1 y2 y3 y4 y5 y6 y7 y8 y9 y10 y11 y12 y13 y14 y15
   unfold a0e.l0
   with_reducible (repeat' first | apply ih0 | apply ih1 | apply ih2 | apply a0q.mono | apply a0d.mono | apply LeO.refl | apply LeO.none | apply LeO.ite | refine LeO.bind ?_ (fun _ => ?_))
  ·intro y0 y1 y2 y3 y4 y5 y6 y7 y8 y9 y10 y11 y12
   unfold a0e.j2
   with_reducible (repeat' first | apply ih0 | apply ih1 | apply ih2 | apply a0q.mono | apply a0d.mono | apply LeO.refl | apply LeO.none | apply LeO.ite | refine LeO.bind ?_ (fun _ => ?_))
theorem a0e.mono : ∀ a0 a1 a2 a3 a4 a5 a6 a7 a8 a9 k, LeO (a0e.f k a0 a1 a2 a3 a4 a5 a6 a7 a8 a9) (a0e.f (k + 1) a0 a1 a2 a3 a4 a5 a6 a7 a8 a9) := by
 intro a0 a1 a2 a3 a4 a5 a6 a7 a8 a9 k
 obtain ⟨ih0, ih1, ih2⟩ := a0e.a1u k
 unfold a0e.f
 with_reducible (repeat' first | apply ih0 | apply ih1 | apply ih2 | apply a0q.mono | apply a0d.mono | apply LeO.refl | apply LeO.none | apply LeO.ite | refine LeO.bind ?_ (fun _ => ?_))
def a0e.T15 : Bool × List (List Nat × List Nat) := (true, [([], []), ([], []), ([], []), ([1, 2], [1, 2]), ([], []), ([4], [4]), ([], []), ([], []), ([], []), ([5, 6, 7, 8], [5, 6, 7, 8]), ([9], [9]), ([3, 10, 3], [3, 10]), ([], []), ([0, 11, 12, 11], [0, 11, 12]), ([13], [13]), ([14], [14]), ([14], [14]), ([15, 13, 0, 1, 2, 3, 4, 5, 6, 7, 8, 9, 10, 11, 12, 13, 14, 15], [15]), ([16, 17, 0, 1, 2, 3, 4, 5, 6, 7, 8, 9, 10, 11, 12, 13, 14, 15, 16, 17], [16])])
def a0e.B15 : List Nat := [0, 0, 0, 6, 0, 16, 0, 0, 0, 496, 1008, 2046, 0, 8191, 16383, 32767, 32767, 65535, 262143]
theorem a0e.a7o : rtab .any (opsOf Try.f6 15) = a0e.T15 := by kernel_rfl
theorem a0e.a6m : a3t a0e.T15.2 a0e.B15 = true := by kernel_rfl
set_option maxHeartbeats 8000000 in
set_option maxRecDepth 100000 in
theorem a0e.calls (k : Nat) (a0_0 a0_1 a0_2 a0_3 a0_4 a0_5 : Int) (A1 : Option Addr) (c1 : Nat) (l1 : List (S26)) (a2 a3 a4 : Int) (r : Bool) (w : World) (hr1 : Kd.C k26 w A1 l1.length l1) (hc1 : l1.length ≤ c1) (h : a0e.f k a0_0 a0_1 a0_2 a0_3 a0_4 a0_5 l1 a2 a3 a4 = some r) :
  Calls Try.prog 6 #[.agg #[.int .i64 a0_0, .int .i64 a0_1, .int .i64 a0_2, .int .i64 a0_3, .int .i64 a0_4, .int .i64 a0_5], .slice A1 l1.length c1, .int .i64 a2, .int .i64 a3, .int .i64 a4] w fun e w' => e = .returned (.bool r) ∧ Below w.heap.size w w' := by
 have hu30 := Try.underlying30
 have hu26 := Try.underlying26
 have HR1 := am_ hr1
 have HC1 := am_ hc1
 clear hr1 hc1
 have HB := am_ (Below.refl w.heap.size w)
 have H : ((a0d.f k).bind fun t445 => ((a0q.f k a0_0 a0_1 a0_2 a0_3 a0_4 a0_5 l1 a4).bind fun bt446 => (if bt446.2 = 0 then (a0e.j0 k l1 a2 a3 a4 t445 bt446.1 bt446.2 (decide ((l1.length : Int) > 100)) a0_0 a0_1 a0_2 a0_3 a0_4 a0_5) else (a0e.j0 k l1 a2 a3 a4 t445 bt446.1 bt446.2 true a0_0 a0_1 a0_2 a0_3 a0_4 a0_5)))) = some r := h
 clear h
 replace H := bm_ H
 obtain ⟨t445, A60, H⟩ := H
 replace H : ((a0q.f k a0_0 a0_1 a0_2 a0_3 a0_4 a0_5 l1 a4).bind fun bt446 => (if bt446.2 = 0 then (a0e.j0 k l1 a2 a3 a4 t445 bt446.1 bt446.2 (decide ((l1.length : Int) > 100)) a0_0 a0_1 a0_2 a0_3 a0_4 a0_5) else (a0e.j0 k l1 a2 a3 a4 t445 bt446.1 bt446.2 true a0_0 a0_1 a0_2 a0_3 a0_4 a0_5))) = some r := H
 have A6 := am_ A60
 clear A60
 replace H := bm_ H
 obtain ⟨⟨t446, t447⟩, A70, H⟩ := H
 replace H : (if t447 = 0 then (a0e.j0 k l1 a2 a3 a4 t445 t446 t447 (decide ((l1.length : Int) > 100)) a0_0 a0_1 a0_2 a0_3 a0_4 a0_5) else (a0e.j0 k l1 a2 a3 a4 t445 t446 t447 true a0_0 a0_1 a0_2 a0_3 a0_4 a0_5)) = some r := H
 have A7 := am_ A70
 clear A70
 have HC8 := am_ H
 clear H
 go_enter Try.func6, Try.ntmps6
 go_upto_region 3 with (first | ((with_reducible refine a1g (N := 5) rfl ?_); (try (refine a1x (by rfl) ?_; dsimp only)); refine qev_ 5 #[.int .i64 a0_0, .int .i64 a0_1, .int .i64 a0_2, .int .i64 a0_3, .int .i64 a0_4, .int .i64 a0_5] 30 ?_; intro gb444 hg w9 hbox hb; have BK444 := am_ (hbox); have GW444 := qga_ hg; have GE444 := qga_ hg; replace HB := qbs_ hb; clear hb hbox hg) | ((with_reducible refine a1a (f := 8) rfl ?_); refine a1w (some 21) rfl rfl Try.func8 (by kernel_rfl) rfl #[] rfl ql_ ?_; (with_reducible refine (a0d.calls k  t445 _ A6.out).mono ?_); rintro e w10 ⟨rfl, hb⟩; refine ⟨_, rfl, ?_⟩; replace BK444 := qkb_ BK444 hb; replace HB := qbs_ hb; (try clear hb); (try clear hb2); (try clear hk); (try clear hi); obtain ⟨z'11_0, z'11_1, z'11_2, z'11_3, z'11_4, z'11_5⟩ := qz6_ BK444; obtain ⟨y'11_0, y'11_1, y'11_2, y'11_3, y'11_4, y'11_5⟩ := qf6_ BK444) | ((with_reducible refine a1a (f := 9) rfl ?_); refine a1w (some 26) rfl rfl Try.func9 (by kernel_rfl) rfl #[.agg #[.int .i64 a0_0, .int .i64 a0_1, .int .i64 a0_2, .int .i64 a0_3, .int .i64 a0_4, .int .i64 a0_5], .slice A1 l1.length c1, .int .i64 a4] rfl ql_ ?_; (with_reducible refine (a0q.calls k a0_0 a0_1 a0_2 a0_3 a0_4 a0_5 _ _ l1 a4 t446 t447 _ ?s1 ?s2 A7.out).mono ?_); (case s1 => exact qc_ HR1); (case s2 => exact HC1.out); rintro e w12 ⟨rfl, hb⟩; refine ⟨_, rfl, ?_⟩; replace BK444 := qkb_ BK444 hb; replace HB := qbs_ hb; (try clear hb); (try clear hb2); (try clear hk); (try clear hi)))
 (try simp only [Act.put, List.setIfInBounds_toArray, List.set_cons_zero, List.set_cons_succ])
 go_cut [35] (fun v35 wc => ∃ (kq : Nat) (x35_7 : Bool), v35 = .bool x35_7 ∧ Aside0 (a0e.j0 kq l1 a2 a3 a4 t445 t446 t447 x35_7 a0_0 a0_1 a0_2 a0_3 a0_4 a0_5 = some r) ∧ Aside0 (kq ≤ k) ∧ Aside0 (wc.heap[gb444]? = some (.cells #[.int .i64 a0_0, .int .i64 a0_1, .int .i64 a0_2, .int .i64 a0_3, .int .i64 a0_4, .int .i64 a0_5] 30 (0, 0))) ∧ Aside0 (Below w.heap.size w wc))
 case first =>
  have H := HC8.out
  clear HC8
  by_cases c13 : t447 = 0
  ·rw [if_pos c13] at H
   have c13b0 : (t447 == 0) = true := beq_iff_eq.mpr c13
   have c13b1 : (t447 != 0) = false := bne_eq_false_iff_eq.mpr c13
   clear c13
   (first | rw [c13b0] | (simp only [a3d, a3z]; rw [c13b0]) | skip)
   have H' := am_ H
   clear H
   go_wp2
   go_meet
   case rel => exact ⟨_, (decide ((l1.length : Int) > 100)), qs_, H', ⟨qo_⟩, ⟨qk_ BK444⟩, ⟨qb_⟩⟩
  ·rw [if_neg c13] at H
   have c13b0 : (t447 == 0) = false := beq_eq_false_iff_ne.mpr c13
   have c13b1 : (t447 != 0) = true := bne_iff_ne.mpr c13
   (first | rw [c13b0] | (simp only [a3d, a3z]; rw [c13b0]) | skip)
   have H' := am_ H
   clear H
   go_wp2
   go_meet
   case rel => exact ⟨_, (true), qs_, H', ⟨qo_⟩, ⟨qk_ BK444⟩, ⟨qb_⟩⟩
 case rest =>
  clear HC8
  try clear c1
  try clear p2
  try clear c6
  try clear c8
  try clear c9
  try clear c13
  try clear c13b0
  try clear c13b1
  try clear z'11_0 z'11_1 z'11_2 z'11_3 z'11_4 z'11_5
  try clear y'11_0 y'11_1 y'11_2 y'11_3 y'11_4 y'11_5
  obtain ⟨kq, x35_7, rfl, HA, HJ7, BK444, HB⟩ := hcut
  cases kq with
  | zero => exact absurd HA.out (by simp [a0e.j0])
  | succ kj7 =>
   have H := HA.out
   clear HA
   simp only [a0e.j0] at H
   by_cases c14 : x35_7 = true
   ·subst c14
    have H1 : (if t445 = true then (if t447 = 1 then (some (t446 == 0)) else (some true)) else (some false)) = some r := by rw [if_pos rfl] at H; exact H
    clear H
    have H := H1
    clear H1
    by_cases c15 : t445 = true
    ·subst c15
     have H1 : (if t447 = 1 then (some (t446 == 0)) else (some true)) = some r := by rw [if_pos rfl] at H; exact H
     clear H
     have H := H1
     clear H1
     by_cases c16 : t447 = 1
     ·rw [if_pos c16] at H
      have c16b0 : (t447 == 1) = true := beq_iff_eq.mpr c16
      have c16b1 : (t447 != 1) = false := bne_eq_false_iff_eq.mpr c16
      clear c16
      obtain rfl := si_ H
      go_wp2
      go_ret
      exact ⟨qx_, qb_⟩
     ·rw [if_neg c16] at H
      have c16b0 : (t447 == 1) = false := beq_eq_false_iff_ne.mpr c16
      have c16b1 : (t447 != 1) = true := bne_iff_ne.mpr c16
      obtain rfl := si_ H
      go_wp2
      go_ret
      exact ⟨qx_, qb_⟩
    ·replace c15 := be_ c15
     subst c15
     have H1 : (some false) = some r := by rw [if_neg (show ¬ (false = true) by decide)] at H; exact H
     clear H
     have H := H1
     clear H1
     obtain rfl := si_ H
     go_wp2
     go_ret
     exact ⟨qx_, qb_⟩
   ·replace c14 := be_ c14
    subst c14
    have H1 : (a0e.l0 kj7 l1 a2 a3 a4 t445 t446 ([] : List (S26)) l1 (l1.length : Int) 0 a0_0 a0_1 a0_2 a0_3 a0_4 a0_5) = some r := by rw [if_neg (show ¬ (false = true) by decide)] at H; exact H
    clear H
    have H := H1
    clear H1
    have H' := am_ H
    clear H
    go_wp2
    go_loopg [14, 47] kj7 (fun kq v14 v47 w' => ∃ (x14_2 : List (S26)) (x47_2 : Int), v47 = .int .i64 x47_2 ∧ Aside0 (a0e.l0 kq l1 a2 a3 a4 t445 t446 x14_2 l1 (l1.length : Int) x47_2 a0_0 a0_1 a0_2 a0_3 a0_4 a0_5 = some r) ∧ Aside0 (kq ≤ kj7) ∧ Aside0 (Kd.R k26 26 w' w.heap.size (fun _ => True) v14 x14_2) ∧ Aside0 (w'.heap[gb444]? = some (.cells #[.int .i64 a0_0, .int .i64 a0_1, .int .i64 a0_2, .int .i64 a0_3, .int .i64 a0_4, .int .i64 a0_5] 30 (0, 0))) ∧ Aside0 (Below w.heap.size w w'))
    case atStart => exact ⟨(([] : List (S26))), (0), qs_, H', ⟨Nat.le_refl _⟩, ⟨by first | exact Kd.a5n _ _ _ _ _ | exact Kd.N_nil _ _ _ _ _ | exact Kd.V_nil _ _ _ _ _ | exact Kd.Q_nil _ _ _ _ _ | exact Kd.S_nil _ _ _ _ _⟩, ⟨qk_ BK444⟩, ⟨qb_⟩⟩
    case round =>
     clear H'
     try clear c1
     try clear p2
     try clear c6
     try clear c8
     try clear c9
     try clear c13
     try clear c13b0
     try clear c13b1
     try clear c14
     try clear c15
     try clear c16
     try clear c16b0
     try clear c16b1
     try clear z'11_0 z'11_1 z'11_2 z'11_3 z'11_4 z'11_5
     try clear y'11_0 y'11_1 y'11_2 y'11_3 y'11_4 y'11_5
     try clear p2
     obtain ⟨x14_2, x47_2, rfl, HA, HK2, HO_14, BK444, HB⟩ := hrel
     cases gk with
     | zero => exact absurd HA.out (by simp [a0e.l0])
     | succ k2 =>
      have H := HA.out
      clear HA
      simp only [a0e.l0] at H
      by_cases c17 : x47_2 < (l1.length : Int)
      ·rw [if_pos c17] at H
       have c17b0 : decide (x47_2 < (l1.length : Int)) = true := decide_eq_true c17
       clear c17
       by_cases c18 : 0 ≤ x47_2
       ·rw [if_pos c18] at H
        have c18b0 : decide (0 ≤ x47_2) = true := decide_eq_true c18
        clear c18
        by_cases c19 : x47_2 < (l1.length : Int)
        ·rw [if_pos c19] at H
         have c19b0 : decide (x47_2 < (l1.length : Int)) = true := decide_eq_true c19
         clear c19
         by_cases c20 : ((a0b l1 x47_2).f0) = a0_0
         ·rw [if_pos c20] at H
          have c20b0 : (((a0b l1 x47_2).f0) == a0_0) = true := beq_iff_eq.mpr c20
          have c20b1 : (((a0b l1 x47_2).f0) != a0_0) = false := bne_eq_false_iff_eq.mpr c20
          clear c20
          by_cases c21 : ((a0b l1 x47_2).f3) ≤ a4
          ·rw [if_pos c21] at H
           have c21b0 : decide (((a0b l1 x47_2).f3) ≤ a4) = true := decide_eq_true c21
           clear c21
           obtain ⟨y450, hy450⟩ : ∃ y_ : List (S26), y_ = (([(⟨(a0b l1 x47_2).f0, (a0b l1 x47_2).f1, (a0b l1 x47_2).f2, (a0b l1 x47_2).f3⟩ : S26)] : List (S26))) := ⟨_, rfl⟩
           replace H : (if x14_2.length + y450.length < 4398046511104 then (a0e.l0 k2 l1 a2 a3 a4 t445 t446 (x14_2 ++ y450) l1 (l1.length : Int) (wrap64 (x47_2 + 1)) a0_0 a0_1 a0_2 a0_3 a0_4 a0_5) else (none)) = some r := by first | (rw [hy450]; with_reducible exact H) | (have H2_ := (Option.bind_some _ _).symm.trans H; rw [hy450]; with_reducible exact H2_) | (have H2_ := (Option.bind_some _ _).symm.trans H; with_reducible exact H2_) | with_reducible exact H | (rw [hy450]; exact H) | exact H
           have Ny450 := am_ hy450
           clear hy450
           by_cases c22 : x14_2.length + y450.length < 4398046511104
           ·rw [if_pos c22] at H
            have LMc22 := am_ c22
            clear c22
            obtain ⟨y453, hy453⟩ : ∃ y_ : List (S26), y_ = (x14_2 ++ y450) := ⟨_, rfl⟩
            replace H : (a0e.l0 k2 l1 a2 a3 a4 t445 t446 y453 l1 (l1.length : Int) (wrap64 (x47_2 + 1)) a0_0 a0_1 a0_2 a0_3 a0_4 a0_5) = some r := by first | (rw [hy453]; with_reducible exact H) | (have H2_ := (Option.bind_some _ _).symm.trans H; rw [hy453]; with_reducible exact H2_) | (have H2_ := (Option.bind_some _ _).symm.trans H; with_reducible exact H2_) | with_reducible exact H | (rw [hy453]; exact H) | exact H
            have Ny453 := am_ hy453
            clear hy453
            have H' := am_ H
            clear H
            have p448 : 0 ≤ (x47_2 : Int) := ot_
            have q448 : x47_2 < (l1.length : Int) := ot_
            obtain ⟨ad448, e448, hx448_0, hx448_1, hx448_2, hx448_3⟩ := a2r HR1.out x47_2 p448 q448
            cases e448
            replace hx448_0 := qh_ HB hx448_0
            replace hx448_1 := qh_ HB hx448_1
            replace hx448_2 := qh_ HB hx448_2
            replace hx448_3 := qh_ HB hx448_3
            replace p448 := eq_true p448
            replace q448 := eq_true q448
            go_wp2_with (first | ((with_reducible refine a1g (N := 16) rfl ?_); (try (refine a1x (by rfl) ?_; dsimp only)); refine qev_ 16 #[.int .i64 0, .int .i64 0, .int .i64 0, .int .i64 0] 26 ?_; intro gb449 hg w23 hbox hb; replace HO_14 := am_ (Kd.a3s (Kd.a4h (qr_ HO_14) gb449 (Nat.le_of_eq hg.symm)) hb); have BK449 := am_ (hbox); have GW449 := qga_ hg; have GE449 := qga_ hg; replace HB := qbs_ hb; have NB444_449 := am_ ((by rw [hg]; exact Nat.ne_of_lt (a2b (qk_ BK444)) : gb444 ≠ gb449)); have NB449_444 := am_ ((by rw [hg]; exact Nat.ne_of_gt (a2b (qk_ BK444)) : gb449 ≠ gb444)); replace BK444 := qkb_ BK444 hb; clear hb hbox hg; have hnb24 := NB449_444.out; have hnc24 := NB444_449.out; obtain ⟨z'25_0, z'25_1, z'25_2, z'25_3⟩ := qz4_ BK449; obtain ⟨y'25_0, y'25_1, y'25_2, y'25_3⟩ := qf4_ BK449; obtain ⟨z'26_0, z'26_1, z'26_2, z'26_3, z'26_4, z'26_5⟩ := qz6_ BK444; obtain ⟨y'26_0, y'26_1, y'26_2, y'26_3, y'26_4, y'26_5⟩ := qf6_ BK444) | ((with_reducible refine a1g (N := 64) rfl ?_); (try (refine a1x (by rfl) ?_; dsimp only)); refine Kd.a4d k26 _ 26 ?hg (N := 64) ?hd (xs := ([(⟨(a0b l1 x47_2).f0, (a0b l1 x47_2).f1, (a0b l1 x47_2).f2, (a0b l1 x47_2).f3⟩ : S26)] : List (S26))) (inner := [.int .i64 ((a0b l1 x47_2).f0), .int .i64 ((a0b l1 x47_2).f1), .int .i64 ((a0b l1 x47_2).f2), .int .i64 ((a0b l1 x47_2).f3)]) (ok := fun _ => True) (okp := fun _ => True) ?hr ?hp (fun _ hk => hk) trivial (Below.refl _ _) (Nat.le_refl _) (by simp) ?_; (case hd => rfl); (case hg => rfl); (case hr => exact qq_); (case hp => exact (Reps.c4 (show Kd.M k26 _ _ _ (⟨(a0b l1 x47_2).f0, (a0b l1 x47_2).f1, (a0b l1 x47_2).f2, (a0b l1 x47_2).f3⟩ : S26) [.int .i64 ((a0b l1 x47_2).f0), .int .i64 ((a0b l1 x47_2).f1), .int .i64 ((a0b l1 x47_2).f2), .int .i64 ((a0b l1 x47_2).f3)] from (a2o _ _ _ (⟨(a0b l1 x47_2).f0, (a0b l1 x47_2).f1, (a0b l1 x47_2).f2, (a0b l1 x47_2).f3⟩ : S26) )) (Reps.none _ _))); intro v451 w27 ho28 hb hg_ hnew_; clear hg_ hnew_; (first | rw [← Ny450.out] at ho28 | (simp only [Int.reduceToNat] at ho28; rw [← Ny450.out] at ho28)); have HO452 := am_ (Kd.a1l (Kd.b4r (Kd.a2d ho28 (Kd.R_lt (by (with_reducible repeat (first | apply Kd.a0m | apply Kd.a0n | apply Kd.a0p)); exact (Kd.a0x (Kd.a1d (p := ⟨gb449, 3, none⟩) (Kd.a1d (p := ⟨gb449, 2, none⟩) (Kd.a1d (p := ⟨gb449, 1, none⟩) (Kd.a1d (p := ⟨gb449, 0, none⟩) (Kd.a0x HO_14.out (fun k_ hk => (⟨hk, hk.2⟩ : _ ∧ k_ ≠ gb449))) (fun _ hk => hk.2) (.int .i64 ((a0b l1 x47_2).f0))) (fun _ hk => hk.2) (.int .i64 ((a0b l1 x47_2).f1))) (fun _ hk => hk.2) (.int .i64 ((a0b l1 x47_2).f2))) (fun _ hk => hk.2) (.int .i64 ((a0b l1 x47_2).f3))) (fun _ h_ => h_.1))))) (g := gb449) (o := .cells #[.int .i64 ((a0b l1 x47_2).f0), .int .i64 ((a0b l1 x47_2).f1), .int .i64 ((a0b l1 x47_2).f2), .int .i64 ((a0b l1 x47_2).f3)] 26 (0, 0)) (by refine qd_ ?_; refine a0t (cs := #[.int .i64 ((a0b l1 x47_2).f0), .int .i64 ((a0b l1 x47_2).f1), .int .i64 ((a0b l1 x47_2).f2), .int .i64 0]) ?_ 3 _ rfl; refine qd_ ?_; refine a0t (cs := #[.int .i64 ((a0b l1 x47_2).f0), .int .i64 ((a0b l1 x47_2).f1), .int .i64 0, .int .i64 0]) ?_ 2 _ rfl; refine qd_ ?_; refine a0t (cs := #[.int .i64 ((a0b l1 x47_2).f0), .int .i64 0, .int .i64 0, .int .i64 0]) ?_ 1 _ rfl; refine qd_ ?_; refine a0t (cs := #[.int .i64 0, .int .i64 0, .int .i64 0, .int .i64 0]) ?_ 0 _ rfl; refine qd_ ?_; exact BK449.out)) (a0s qb_)); replace HO_14 := am_ (Kd.a9v (by (with_reducible repeat (first | apply Kd.a0m | apply Kd.a0n | apply Kd.a0p)); exact (Kd.a0x (Kd.a1d (p := ⟨gb449, 3, none⟩) (Kd.a1d (p := ⟨gb449, 2, none⟩) (Kd.a1d (p := ⟨gb449, 1, none⟩) (Kd.a1d (p := ⟨gb449, 0, none⟩) (Kd.a0x HO_14.out (fun k_ hk => (⟨hk, hk.2⟩ : _ ∧ k_ ≠ gb449))) (fun _ hk => hk.2) (.int .i64 ((a0b l1 x47_2).f0))) (fun _ hk => hk.2) (.int .i64 ((a0b l1 x47_2).f1))) (fun _ hk => hk.2) (.int .i64 ((a0b l1 x47_2).f2))) (fun _ hk => hk.2) (.int .i64 ((a0b l1 x47_2).f3))) (fun _ h_ => h_.1))) (Kd.a9t ho28) hb); replace BK444 := am_ (a2k (g := gb444) (o := .cells #[.int .i64 a0_0, .int .i64 a0_1, .int .i64 a0_2, .int .i64 a0_3, .int .i64 a0_4, .int .i64 a0_5] 30 (0, 0)) (by refine qd_ ?_; refine a2s ?_ NB444_449.out _; refine qd_ ?_; refine a2s ?_ NB444_449.out _; refine qd_ ?_; refine a2s ?_ NB444_449.out _; refine qd_ ?_; refine a2s ?_ NB444_449.out _; refine qd_ ?_; exact BK444.out) hb); replace BK449 := am_ (a2k (g := gb449) (o := .cells #[.int .i64 ((a0b l1 x47_2).f0), .int .i64 ((a0b l1 x47_2).f1), .int .i64 ((a0b l1 x47_2).f2), .int .i64 ((a0b l1 x47_2).f3)] 26 (0, 0)) (by refine qd_ ?_; refine a0t (cs := #[.int .i64 ((a0b l1 x47_2).f0), .int .i64 ((a0b l1 x47_2).f1), .int .i64 ((a0b l1 x47_2).f2), .int .i64 0]) ?_ 3 _ rfl; refine qd_ ?_; refine a0t (cs := #[.int .i64 ((a0b l1 x47_2).f0), .int .i64 ((a0b l1 x47_2).f1), .int .i64 0, .int .i64 0]) ?_ 2 _ rfl; refine qd_ ?_; refine a0t (cs := #[.int .i64 ((a0b l1 x47_2).f0), .int .i64 0, .int .i64 0, .int .i64 0]) ?_ 1 _ rfl; refine qd_ ?_; refine a0t (cs := #[.int .i64 0, .int .i64 0, .int .i64 0, .int .i64 0]) ?_ 0 _ rfl; refine qd_ ?_; exact BK449.out) hb); replace HB := qbs_ hb; clear hb ho28; obtain ⟨Ao30, co30, eo30⟩ := Kd.a1m HO452.out; subst eo30) | ((with_reducible refine a5c (b := .append) (xs := #[.tmp 62, .tmp 64]) rfl ?_); (try (refine a1x (by rfl) ?_; dsimp only)); at_builtin; refine Kd.a6s k26 (w0 := w) w.heap.size rfl (.tmp 62) (.tmp 64) 23 26 (.agg #[(.int .i64 0), (.int .i64 0), (.int .i64 0), (.int .i64 0)]) 32 rfl Try.underlying23 a2y rfl (by decide) (by omega) u14 x14_2 y450 _ _ _ (fun k_ => some k_ ≠ (.slice Ao30 y450.length co30 : Value).ownBlock ∧ k_ ≠ gb449) (fun _ => False) rfl rfl ?aO ?aR (fun _ _ h => h) (fun _ h => h.elim) ?aF ?aB ?aS ?aL ?_; (case aR => repeat (first | exact (Kd.a0o HO452.out).2.2 | (with_reducible refine Kd.a2h ?_ _) | (with_reducible refine Kd.a2i ?_ _) | (with_reducible refine Kd.a2p ?_))); (case aB => exact qb_); (case aF => exact (fun k_ hk => ⟨Kd.fresh' (Kd.R_lt (qr_ HO452)) k_ hk, Kd.a9w (g := gb449) (o := .cells #[.int .i64 ((a0b l1 x47_2).f0), .int .i64 ((a0b l1 x47_2).f1), .int .i64 ((a0b l1 x47_2).f2), .int .i64 ((a0b l1 x47_2).f3)] 26 (0, 0)) (qk_ BK449) k_ hk⟩)); (case aO => exact (by (with_reducible repeat (first | apply Kd.a0m | apply Kd.a0n | apply Kd.a0p)); exact Kd.a0x HO_14.out (fun _ hk => ⟨hk.2, hk.1.2⟩))); (case aS => exact (a0s qb_)); (case aL => have := LMc22.out; omega); intro v454 w29 ho hb hg hat; rw [← Ny453.out] at ho; replace BK444 := am_ (a1t (g := gb444) (o := .cells #[.int .i64 a0_0, .int .i64 a0_1, .int .i64 a0_2, .int .i64 a0_3, .int .i64 a0_4, .int .i64 a0_5] 30 (0, 0)) (qk_ BK444) hg (Kd.R_ne HO_14.out BK444.out (by decide))); replace BK449 := am_ (a1t (g := gb449) (o := .cells #[.int .i64 ((a0b l1 x47_2).f0), .int .i64 ((a0b l1 x47_2).f1), .int .i64 ((a0b l1 x47_2).f2), .int .i64 ((a0b l1 x47_2).f3)] 26 (0, 0)) (qk_ BK449) hg (Kd.a9u HO_14.out (fun _ hk => hk.1.2))); replace HO452 := am_ (Kd.a3e (ok := (fun k_ => k_ ≠ gb449)) (by (with_reducible repeat (first | apply Kd.a0m | apply Kd.a0n | apply Kd.a0p)); exact Kd.a0x HO452.out (fun _ hk => ⟨hk.2, hk.1.2⟩)) hg hat); replace HB := am_ (hb); have HO455 := am_ (ho); clear HO_14 ho hb hg hat))
            go_roundg k2
            case measure => have := HJ7.out; have := HK2.out; omega
            case rel => exact ⟨(y453), (wrap64 (x47_2 + 1)), qs_, H', ⟨by have := HJ7.out; have := HK2.out; omega⟩, ⟨by (with_reducible repeat (first | apply Kd.a0m | apply Kd.a0n | apply Kd.a0p)); exact Kd.a0x HO455.out (fun _ hk => trivial)⟩, ⟨qk_ BK444⟩, ⟨qb_⟩⟩
           ·rw [if_neg c22] at H
            exact absurd H (by simp)
          ·rw [if_neg c21] at H
           have c21b0 : decide (((a0b l1 x47_2).f3) ≤ a4) = false := decide_eq_false c21
           clear c21
           have H' := am_ H
           clear H
           have p448 : 0 ≤ (x47_2 : Int) := ot_
           have q448 : x47_2 < (l1.length : Int) := ot_
           obtain ⟨ad448, e448, hx448_0, hx448_1, hx448_2, hx448_3⟩ := a2r HR1.out x47_2 p448 q448
           cases e448
           replace hx448_0 := qh_ HB hx448_0
           replace hx448_1 := qh_ HB hx448_1
           replace hx448_2 := qh_ HB hx448_2
           replace hx448_3 := qh_ HB hx448_3
           replace p448 := eq_true p448
           replace q448 := eq_true q448
           go_wp2_with (first | ((with_reducible refine a1g (N := 16) rfl ?_); (try (refine a1x (by rfl) ?_; dsimp only)); refine qev_ 16 #[.int .i64 0, .int .i64 0, .int .i64 0, .int .i64 0] 26 ?_; intro gb449 hg w31 hbox hb; replace HO_14 := am_ (Kd.a3s (Kd.a4h (qr_ HO_14) gb449 (Nat.le_of_eq hg.symm)) hb); have BK449 := am_ (hbox); have GW449 := qga_ hg; have GE449 := qga_ hg; replace HB := qbs_ hb; have NB444_449 := am_ ((by rw [hg]; exact Nat.ne_of_lt (a2b (qk_ BK444)) : gb444 ≠ gb449)); have NB449_444 := am_ ((by rw [hg]; exact Nat.ne_of_gt (a2b (qk_ BK444)) : gb449 ≠ gb444)); replace BK444 := qkb_ BK444 hb; clear hb hbox hg; have hnb32 := NB449_444.out; have hnc32 := NB444_449.out; obtain ⟨z'33_0, z'33_1, z'33_2, z'33_3⟩ := qz4_ BK449; obtain ⟨y'33_0, y'33_1, y'33_2, y'33_3⟩ := qf4_ BK449; obtain ⟨z'34_0, z'34_1, z'34_2, z'34_3, z'34_4, z'34_5⟩ := qz6_ BK444; obtain ⟨y'34_0, y'34_1, y'34_2, y'34_3, y'34_4, y'34_5⟩ := qf6_ BK444))
           go_roundg k2
           case measure => have := HJ7.out; have := HK2.out; omega
           case rel => exact ⟨(x14_2), (wrap64 (x47_2 + 1)), qs_, H', ⟨by have := HJ7.out; have := HK2.out; omega⟩, ⟨by (with_reducible repeat (first | apply Kd.a0m | apply Kd.a0n | apply Kd.a0p)); exact Kd.a0x (Kd.a1d (p := ⟨gb449, 3, none⟩) (Kd.a1d (p := ⟨gb449, 2, none⟩) (Kd.a1d (p := ⟨gb449, 1, none⟩) (Kd.a1d (p := ⟨gb449, 0, none⟩) (Kd.a0x HO_14.out (fun k_ hk => (⟨hk, hk.2⟩ : _ ∧ k_ ≠ gb449))) (fun _ hk => hk.2) (.int .i64 ((a0b l1 x47_2).f0))) (fun _ hk => hk.2) (.int .i64 ((a0b l1 x47_2).f1))) (fun _ hk => hk.2) (.int .i64 ((a0b l1 x47_2).f2))) (fun _ hk => hk.2) (.int .i64 ((a0b l1 x47_2).f3))) (fun _ hk => trivial)⟩, ⟨by refine qd_ ?_; refine a2s ?_ NB444_449.out _; refine qd_ ?_; refine a2s ?_ NB444_449.out _; refine qd_ ?_; refine a2s ?_ NB444_449.out _; refine qd_ ?_; refine a2s ?_ NB444_449.out _; refine qd_ ?_; exact BK444.out⟩, ⟨qb_⟩⟩
         ·rw [if_neg c20] at H
          have c20b0 : (((a0b l1 x47_2).f0) == a0_0) = false := beq_eq_false_iff_ne.mpr c20
          have c20b1 : (((a0b l1 x47_2).f0) != a0_0) = true := bne_iff_ne.mpr c20
          have H' := am_ H
          clear H
          have p448 : 0 ≤ (x47_2 : Int) := ot_
          have q448 : x47_2 < (l1.length : Int) := ot_
          obtain ⟨ad448, e448, hx448_0, hx448_1, hx448_2, hx448_3⟩ := a2r HR1.out x47_2 p448 q448
          cases e448
          replace hx448_0 := qh_ HB hx448_0
          replace hx448_1 := qh_ HB hx448_1
          replace hx448_2 := qh_ HB hx448_2
          replace hx448_3 := qh_ HB hx448_3
          replace p448 := eq_true p448
          replace q448 := eq_true q448
          go_wp2_with (first | ((with_reducible refine a1g (N := 16) rfl ?_); (try (refine a1x (by rfl) ?_; dsimp only)); refine qev_ 16 #[.int .i64 0, .int .i64 0, .int .i64 0, .int .i64 0] 26 ?_; intro gb449 hg w35 hbox hb; replace HO_14 := am_ (Kd.a3s (Kd.a4h (qr_ HO_14) gb449 (Nat.le_of_eq hg.symm)) hb); have BK449 := am_ (hbox); have GW449 := qga_ hg; have GE449 := qga_ hg; replace HB := qbs_ hb; have NB444_449 := am_ ((by rw [hg]; exact Nat.ne_of_lt (a2b (qk_ BK444)) : gb444 ≠ gb449)); have NB449_444 := am_ ((by rw [hg]; exact Nat.ne_of_gt (a2b (qk_ BK444)) : gb449 ≠ gb444)); replace BK444 := qkb_ BK444 hb; clear hb hbox hg; have hnb36 := NB449_444.out; have hnc36 := NB444_449.out; obtain ⟨z'37_0, z'37_1, z'37_2, z'37_3⟩ := qz4_ BK449; obtain ⟨y'37_0, y'37_1, y'37_2, y'37_3⟩ := qf4_ BK449; obtain ⟨z'38_0, z'38_1, z'38_2, z'38_3, z'38_4, z'38_5⟩ := qz6_ BK444; obtain ⟨y'38_0, y'38_1, y'38_2, y'38_3, y'38_4, y'38_5⟩ := qf6_ BK444))
          go_roundg k2
          case measure => have := HJ7.out; have := HK2.out; omega
          case rel => exact ⟨(x14_2), (wrap64 (x47_2 + 1)), qs_, H', ⟨by have := HJ7.out; have := HK2.out; omega⟩, ⟨by (with_reducible repeat (first | apply Kd.a0m | apply Kd.a0n | apply Kd.a0p)); exact Kd.a0x (Kd.a1d (p := ⟨gb449, 3, none⟩) (Kd.a1d (p := ⟨gb449, 2, none⟩) (Kd.a1d (p := ⟨gb449, 1, none⟩) (Kd.a1d (p := ⟨gb449, 0, none⟩) (Kd.a0x HO_14.out (fun k_ hk => (⟨hk, hk.2⟩ : _ ∧ k_ ≠ gb449))) (fun _ hk => hk.2) (.int .i64 ((a0b l1 x47_2).f0))) (fun _ hk => hk.2) (.int .i64 ((a0b l1 x47_2).f1))) (fun _ hk => hk.2) (.int .i64 ((a0b l1 x47_2).f2))) (fun _ hk => hk.2) (.int .i64 ((a0b l1 x47_2).f3))) (fun _ hk => trivial)⟩, ⟨by refine qd_ ?_; refine a2s ?_ NB444_449.out _; refine qd_ ?_; refine a2s ?_ NB444_449.out _; refine qd_ ?_; refine a2s ?_ NB444_449.out _; refine qd_ ?_; refine a2s ?_ NB444_449.out _; refine qd_ ?_; exact BK444.out⟩, ⟨qb_⟩⟩
        ·rw [if_neg c19] at H
         exact absurd H (by simp)
       ·rw [if_neg c18] at H
        exact absurd H (by simp)
      ·rw [if_neg c17] at H
       have c17b0 : decide (x47_2 < (l1.length : Int)) = false := decide_eq_false c17
       clear c17
       replace H := bm_ H
       obtain ⟨⟨t456, t457⟩, A390, H⟩ := H
       replace H : (if t457 = 0 then (a0e.j2 k2 l1 a2 a3 a4 t445 t446 (t456 != t446) a0_0 a0_1 a0_2 a0_3 a0_4 a0_5) else (a0e.j2 k2 l1 a2 a3 a4 t445 t446 true a0_0 a0_1 a0_2 a0_3 a0_4 a0_5)) = some r := H
       have A39 := am_ A390
       clear A390
       have HC40 := am_ H
       clear H
       obtain ⟨z'41_0, z'41_1, z'41_2, z'41_3, z'41_4, z'41_5⟩ := qz6_ BK444; obtain ⟨y'41_0, y'41_1, y'41_2, y'41_3, y'41_4, y'41_5⟩ := qf6_ BK444
       obtain ⟨Ao42, co42, eo42⟩ := Kd.a1m HO_14.out
       subst eo42
       go_upto_region 13 with (first | ((with_reducible refine a1a (f := 9) rfl ?_); refine a1w (some 71) rfl rfl Try.func9 (by kernel_rfl) rfl #[.agg #[.int .i64 a0_0, .int .i64 a0_1, .int .i64 a0_2, .int .i64 a0_3, .int .i64 a0_4, .int .i64 a0_5], .slice Ao42 x14_2.length co42, .int .i64 a4] rfl ql_ ?_; (with_reducible refine (a0q.calls k2 a0_0 a0_1 a0_2 a0_3 a0_4 a0_5 _ _ x14_2 a4 t456 t457 _ ?s1 ?s2 A39.out).mono ?_); (case s1 => exact qv_ (Kd.a0o HO_14.out).2.2); (case s2 => exact (Kd.a0o HO_14.out).2.1); rintro e w43 ⟨rfl, hb⟩; refine ⟨_, rfl, ?_⟩; replace HO_14 := qrb_ HO_14 hb; replace BK444 := qkb_ BK444 hb; replace HB := qbs_ hb; (try clear hb); (try clear hb2); (try clear hk); (try clear hi)))
       (try simp only [Act.put, List.setIfInBounds_toArray, List.set_cons_zero, List.set_cons_succ])
       go_cut [80] (fun v80 wc => ∃ (kq : Nat) (x80_39 : Bool), v80 = .bool x80_39 ∧ Aside0 (a0e.j2 kq l1 a2 a3 a4 t445 t446 x80_39 a0_0 a0_1 a0_2 a0_3 a0_4 a0_5 = some r) ∧ Aside0 (kq ≤ k2) ∧ Aside0 (wc.heap[gb444]? = some (.cells #[.int .i64 a0_0, .int .i64 a0_1, .int .i64 a0_2, .int .i64 a0_3, .int .i64 a0_4, .int .i64 a0_5] 30 (0, 0))) ∧ Aside0 (Below w.heap.size w wc))
       case first =>
        have H := HC40.out
        clear HC40
        by_cases c44 : t457 = 0
        ·rw [if_pos c44] at H
         have c44b0 : (t457 == 0) = true := beq_iff_eq.mpr c44
         have c44b1 : (t457 != 0) = false := bne_eq_false_iff_eq.mpr c44
         clear c44
         (first | rw [c44b0] | (simp only [a3d, a3z]; rw [c44b0]) | skip)
         have H' := am_ H
         clear H
         go_wp2
         go_meet
         case rel => exact ⟨_, ((t456 != t446)), qs_, H', ⟨by have := HJ7.out; have := HK2.out; first | omega | exact Nat.le_refl _⟩, ⟨qk_ BK444⟩, ⟨qb_⟩⟩
        ·rw [if_neg c44] at H
         have c44b0 : (t457 == 0) = false := beq_eq_false_iff_ne.mpr c44
         have c44b1 : (t457 != 0) = true := bne_iff_ne.mpr c44
         (first | rw [c44b0] | (simp only [a3d, a3z]; rw [c44b0]) | skip)
         have H' := am_ H
         clear H
         go_wp2
         go_meet
         case rel => exact ⟨_, (true), qs_, H', ⟨by have := HJ7.out; have := HK2.out; first | omega | exact Nat.le_refl _⟩, ⟨qk_ BK444⟩, ⟨qb_⟩⟩
       case rest =>
        clear HC40
        try clear c1
        try clear c2
        try clear p2
        try clear c3
        try clear c4
        try clear p4
        try clear q4
        try clear hx4
        try clear c6
        try clear p6
        try clear c8
        try clear c9
        try clear c13
        try clear c13b0
        try clear c13b1
        try clear c14
        try clear c15
        try clear c16
        try clear c16b0
        try clear c16b1
        try clear c17
        try clear c17b0
        try clear c18
        try clear c18b0
        try clear c19
        try clear c19b0
        try clear c20
        try clear c20b0
        try clear c20b1
        try clear c21
        try clear c21b0
        try clear c22
        try clear c24
        try clear c32
        try clear c36
        try clear c44
        try clear c44b0
        try clear c44b1
        try clear p44
        try clear q44
        try clear hx44
        try clear z'11_0 z'11_1 z'11_2 z'11_3 z'11_4 z'11_5
        try clear z'25_0 z'25_1 z'25_2 z'25_3
        try clear z'26_0 z'26_1 z'26_2 z'26_3 z'26_4 z'26_5
        try clear z'33_0 z'33_1 z'33_2 z'33_3
        try clear z'34_0 z'34_1 z'34_2 z'34_3 z'34_4 z'34_5
        try clear z'37_0 z'37_1 z'37_2 z'37_3
        try clear z'38_0 z'38_1 z'38_2 z'38_3 z'38_4 z'38_5
        try clear z'41_0 z'41_1 z'41_2 z'41_3 z'41_4 z'41_5
        try clear y'11_0 y'11_1 y'11_2 y'11_3 y'11_4 y'11_5
        try clear y'25_0 y'25_1 y'25_2 y'25_3
        try clear y'26_0 y'26_1 y'26_2 y'26_3 y'26_4 y'26_5
        try clear y'33_0 y'33_1 y'33_2 y'33_3
        try clear y'34_0 y'34_1 y'34_2 y'34_3 y'34_4 y'34_5
        try clear y'37_0 y'37_1 y'37_2 y'37_3
        try clear y'38_0 y'38_1 y'38_2 y'38_3 y'38_4 y'38_5
        try clear y'41_0 y'41_1 y'41_2 y'41_3 y'41_4 y'41_5
        try clear hx448_0
        try clear hx448_1
        try clear hx448_2
        try clear hx448_3
        try clear p2
        try clear p448
        try clear q448
        obtain ⟨kq, x80_39, rfl, HA, HJ39, BK444, HB⟩ := hcut
        cases kq with
        | zero => exact absurd HA.out (by simp [a0e.j2])
        | succ kj39 =>
         have H := HA.out
         clear HA
         simp only [a0e.j2] at H
         by_cases c45 : x80_39 = true
         ·subst c45
          have H1 : (some false) = some r := by rw [if_pos rfl] at H; exact H
          clear H
          have H := H1
          clear H1
          obtain rfl := si_ H
          go_wp2
          go_ret
          exact ⟨qx_, qb_⟩
         ·replace c45 := be_ c45
          subst c45
          have H1 : ((some (([] : List (S26)) : List (S26))).bind fun y458 => (if y458.length + l1.length < 4398046511104 then ((some (y458 ++ l1 : List (S26))).bind fun y461 => ((some (([(⟨a0_0, a2, a3, a4⟩ : S26)] : List (S26)) : List (S26))).bind fun y464 => (if y461.length + y464.length < 4398046511104 then ((a0q.f kj39 a0_0 a0_1 a0_2 a0_3 a0_4 a0_5 (y461 ++ y464) a4).bind fun bt470 => (if bt470.2 = 0 then (if a2 = t446 then (if t445 = true then (some (bt470.1 == a3)) else (some false)) else (if t445 = true then (some (bt470.1 == t446)) else (some false))) else (if t445 = true then (some (bt470.2 == 1)) else (some false)))) else (none)))) else (none))) = some r := by rw [if_neg (show ¬ (false = true) by decide)] at H; exact H
          clear H
          have H := H1
          clear H1
          obtain ⟨y458, hy458⟩ : ∃ y_ : List (S26), y_ = (([] : List (S26))) := ⟨_, rfl⟩
          replace H : (if y458.length + l1.length < 4398046511104 then ((some (y458 ++ l1 : List (S26))).bind fun y461 => ((some (([(⟨a0_0, a2, a3, a4⟩ : S26)] : List (S26)) : List (S26))).bind fun y464 => (if y461.length + y464.length < 4398046511104 then ((a0q.f kj39 a0_0 a0_1 a0_2 a0_3 a0_4 a0_5 (y461 ++ y464) a4).bind fun bt470 => (if bt470.2 = 0 then (if a2 = t446 then (if t445 = true then (some (bt470.1 == a3)) else (some false)) else (if t445 = true then (some (bt470.1 == t446)) else (some false))) else (if t445 = true then (some (bt470.2 == 1)) else (some false)))) else (none)))) else (none)) = some r := by first | (rw [hy458]; with_reducible exact H) | (have H2_ := (Option.bind_some _ _).symm.trans H; rw [hy458]; with_reducible exact H2_) | (have H2_ := (Option.bind_some _ _).symm.trans H; with_reducible exact H2_) | with_reducible exact H | (rw [hy458]; exact H) | exact H
          have Ny458 := am_ hy458
          clear hy458
          by_cases c46 : y458.length + l1.length < 4398046511104
          ·rw [if_pos c46] at H
           have LMc46 := am_ c46
           clear c46
           obtain ⟨y461, hy461⟩ : ∃ y_ : List (S26), y_ = (y458 ++ l1) := ⟨_, rfl⟩
           replace H : ((some (([(⟨a0_0, a2, a3, a4⟩ : S26)] : List (S26)) : List (S26))).bind fun y464 => (if y461.length + y464.length < 4398046511104 then ((a0q.f kj39 a0_0 a0_1 a0_2 a0_3 a0_4 a0_5 (y461 ++ y464) a4).bind fun bt470 => (if bt470.2 = 0 then (if a2 = t446 then (if t445 = true then (some (bt470.1 == a3)) else (some false)) else (if t445 = true then (some (bt470.1 == t446)) else (some false))) else (if t445 = true then (some (bt470.2 == 1)) else (some false)))) else (none))) = some r := by first | (rw [hy461]; with_reducible exact H) | (have H2_ := (Option.bind_some _ _).symm.trans H; rw [hy461]; with_reducible exact H2_) | (have H2_ := (Option.bind_some _ _).symm.trans H; with_reducible exact H2_) | with_reducible exact H | (rw [hy461]; exact H) | exact H
           have Ny461 := am_ hy461
           clear hy461
           obtain ⟨y464, hy464⟩ : ∃ y_ : List (S26), y_ = (([(⟨a0_0, a2, a3, a4⟩ : S26)] : List (S26))) := ⟨_, rfl⟩
           replace H : (if y461.length + y464.length < 4398046511104 then ((a0q.f kj39 a0_0 a0_1 a0_2 a0_3 a0_4 a0_5 (y461 ++ y464) a4).bind fun bt470 => (if bt470.2 = 0 then (if a2 = t446 then (if t445 = true then (some (bt470.1 == a3)) else (some false)) else (if t445 = true then (some (bt470.1 == t446)) else (some false))) else (if t445 = true then (some (bt470.2 == 1)) else (some false)))) else (none)) = some r := by first | (rw [hy464]; with_reducible exact H) | (have H2_ := (Option.bind_some _ _).symm.trans H; rw [hy464]; with_reducible exact H2_) | (have H2_ := (Option.bind_some _ _).symm.trans H; with_reducible exact H2_) | with_reducible exact H | (rw [hy464]; exact H) | exact H
           have Ny464 := am_ hy464
           clear hy464
           by_cases c47 : y461.length + y464.length < 4398046511104
           ·rw [if_pos c47] at H
            have LMc47 := am_ c47
            clear c47
            obtain ⟨y467, hy467⟩ : ∃ y_ : List (S26), y_ = (y461 ++ y464) := ⟨_, rfl⟩
            replace H : ((a0q.f kj39 a0_0 a0_1 a0_2 a0_3 a0_4 a0_5 y467 a4).bind fun bt470 => (if bt470.2 = 0 then (if a2 = t446 then (if t445 = true then (some (bt470.1 == a3)) else (some false)) else (if t445 = true then (some (bt470.1 == t446)) else (some false))) else (if t445 = true then (some (bt470.2 == 1)) else (some false)))) = some r := by first | (rw [hy467]; with_reducible exact H) | (have H2_ := (Option.bind_some _ _).symm.trans H; rw [hy467]; with_reducible exact H2_) | (have H2_ := (Option.bind_some _ _).symm.trans H; with_reducible exact H2_) | with_reducible exact H | (rw [hy467]; exact H) | exact H
            have Ny467 := am_ hy467
            clear hy467
            replace H := bm_ H
            obtain ⟨⟨t470, t471⟩, A480, H⟩ := H
            replace H : (if t471 = 0 then (if a2 = t446 then (if t445 = true then (some (t470 == a3)) else (some false)) else (if t445 = true then (some (t470 == t446)) else (some false))) else (if t445 = true then (some (t471 == 1)) else (some false))) = some r := H
            have A48 := am_ A480
            clear A480
            by_cases c49 : t471 = 0
            ·rw [if_pos c49] at H
             have c49b0 : (t471 == 0) = true := beq_iff_eq.mpr c49
             have c49b1 : (t471 != 0) = false := bne_eq_false_iff_eq.mpr c49
             clear c49
             by_cases c50 : a2 = t446
             ·rw [if_pos c50] at H
              have c50b0 : (a2 == t446) = true := beq_iff_eq.mpr c50
              have c50b1 : (a2 != t446) = false := bne_eq_false_iff_eq.mpr c50
              clear c50
              by_cases c51 : t445 = true
              ·subst c51
               have H1 : (some (t470 == a3)) = some r := by rw [if_pos rfl] at H; exact H
               clear H
               have H := H1
               clear H1
               obtain rfl := si_ H
               try go_wp2
               replace BK444 := am_ (bd_ BK444.out)
               replace HB := am_ (ld_ HB.out)
               refine a3c (n := 19) (S := fun w' => w'.cell? ⟨gb444, 0, none⟩ = some (.int .i64 a0_0) ∧ w'.cell? ⟨gb444, 1, none⟩ = some (.int .i64 a0_1) ∧ w'.cell? ⟨gb444, 2, none⟩ = some (.int .i64 a0_2) ∧ w'.cell? ⟨gb444, 3, none⟩ = some (.int .i64 a0_3) ∧ w'.cell? ⟨gb444, 4, none⟩ = some (.int .i64 a0_4) ∧ w'.cell? ⟨gb444, 5, none⟩ = some (.int .i64 a0_5)) (ds := []) #[i_,i_,i_,i_,i_,i_,i_,i_,i_,i_,i_,i_,i_,i_,i_,i_,i_,i_,i_] (by kernel_rfl) rfl rfl ⟨(bc_ BK444.out 0).trans rfl, (bc_ BK444.out 1).trans rfl, (bc_ BK444.out 2).trans rfl, (bc_ BK444.out 3).trans rfl, (bc_ BK444.out 4).trans rfl, (bc_ BK444.out 5).trans rfl⟩ (fun hHeld => ?_); refine a2l a0e.a7o a0e.a6m (fun HT_ HW_ => ?_)
               generalize wc.drew = w52 at BK444 HB hHeld ⊢
               refine qpu_ 2 (some 84) #[i_,i_,o_,i_,i_,i_,i_,i_,i_,i_,i_,i_,i_,i_,i_,i_,i_,i_,i_] ?_
               refine qpu_ 4 (some 86) #[i_,i_,o_,i_,o_,i_,i_,i_,i_,i_,i_,i_,i_,i_,i_,i_,i_,i_,i_] ?_
               refine qpu_ 6 (some 88) #[i_,i_,o_,i_,o_,i_,o_,i_,i_,i_,i_,i_,i_,i_,i_,i_,i_,i_,i_] ?_
               refine qpu_ 7 (some 89) #[i_,i_,o_,i_,o_,i_,o_,o_,i_,i_,i_,i_,i_,i_,i_,i_,i_,i_,i_] ?_
               refine qpu_ 8 (some 90) #[i_,i_,o_,i_,o_,i_,o_,o_,o_,i_,i_,i_,i_,i_,i_,i_,i_,i_,i_] ?_
               refine qpu_ 12 (some 94) #[i_,i_,o_,i_,o_,i_,o_,o_,o_,i_,i_,i_,o_,i_,i_,i_,i_,i_,i_] ?_
               refine a2e (i := 0) (N := some 82) (v := ?_) (a' := ?_) #[o_,i_,o_,i_,o_,i_,o_,o_,o_,i_,i_,i_,o_,i_,i_,i_,i_,i_,i_] rfl rfl (a1p HT_.out HW_.out (by kernel_rfl)) (fun _ _ _ h => h) (Or.inl ⟨by rfl, ?_⟩) hHeld ?_ ?_
               rotate_left
               ·rintro w' ⟨s0, s1, s2, s3, s4, s5⟩
                go_simp
                with_reducible rfl
               rotate_left
               ·exact qp_
               refine a2e (i := 5) (N := some 87) (v := ?_) (a' := ?_) #[o_,i_,o_,i_,o_,o_,o_,o_,o_,i_,i_,i_,o_,i_,i_,i_,i_,i_,i_] rfl rfl (a1p HT_.out HW_.out (by kernel_rfl)) (fun _ _ _ h => h) (Or.inl ⟨by rfl, ?_⟩) hHeld ?_ ?_
               rotate_left
               ·rintro w' ⟨s0, s1, s2, s3, s4, s5⟩
                go_simp
                with_reducible rfl
               rotate_left
               ·exact qp_
               refine qpu_ 9 (some 91) #[o_,i_,o_,i_,o_,o_,o_,o_,o_,o_,i_,i_,o_,i_,i_,i_,i_,i_,i_] ?_
               refine a7m (σ := Value × Value × Value) 7 #[o_,o_,o_,o_,o_,o_,o_,o_,o_,o_,o_,i_,o_,i_,i_,i_,i_,i_,i_] (fun s_ => [(83, s_.1), (85, s_.2.1), (92, s_.2.2)]) (fun s_ w' => (w'.cell? ⟨gb444, 0, none⟩ = some (.int .i64 a0_0) ∧ w'.cell? ⟨gb444, 1, none⟩ = some (.int .i64 a0_1) ∧ w'.cell? ⟨gb444, 2, none⟩ = some (.int .i64 a0_2) ∧ w'.cell? ⟨gb444, 3, none⟩ = some (.int .i64 a0_3) ∧ w'.cell? ⟨gb444, 4, none⟩ = some (.int .i64 a0_4) ∧ w'.cell? ⟨gb444, 5, none⟩ = some (.int .i64 a0_5)) ∧ (Kd.R k26 26 w' w.heap.size (fun k_ => some k_ ≠ (s_.2.2 : Value).ownBlock) s_.2.1 y461) ∧ (Kd.R k26 26 w' w.heap.size (fun k_ => some k_ ≠ (s_.2.1 : Value).ownBlock) s_.2.2 y464) ∧ (w'.heap[gb444]? = some (.cells #[.int .i64 a0_0, .int .i64 a0_1, .int .i64 a0_2, .int .i64 a0_3, .int .i64 a0_4, .int .i64 a0_5] 30 (0, 0))) ∧ (Below w.heap.size w w')) ?_ ?_
               rotate_left
               ·intro hCont
                refine two_ (i := 1) (j := 10) (Ni := some 83) (Nj := some 92) #[o_,o_,o_,i_,o_,o_,o_,o_,o_,o_,i_,i_,o_,i_,i_,i_,i_,i_,i_] #[o_,i_,o_,i_,o_,o_,o_,o_,o_,o_,o_,i_,o_,i_,i_,i_,i_,i_,i_] rfl rfl rfl rfl (a4p HT_.out (by kernel_rfl)) (by decide) (by decide) (fun K hK => ?_) (fun K hK => ?_)
                ·skip
                 refine Kd.a1z k26 _ 26 ?hg (N := 83) ?hd (xs := ([] : List (S26))) (inner := []) (ok := fun _ => True) (okp := fun _ => True) ?hr ?hp (fun _ hk => hk) trivial (Below.refl _ _) (Nat.le_refl _) (by simp) ?_; (case hd => rfl); (case hg => rfl); (case hr => exact qq_); (case hp => exact (Reps.none _ _))
                 intro v459 w53 ho54 hb hg_ hnew_
                 clear hg_ hnew_
                 (first | rw [← Ny458.out] at ho54 | (simp only [Int.reduceToNat] at ho54; rw [← Ny458.out] at ho54))
                 have HO460 := am_ (Kd.a1l ho54 (a0s qb_))
                 replace BK444 := qkb_ BK444 hb
                 replace HB := qbs_ hb
                 clear hb ho54
                 refine hK.out _ _ ⟨(bc_ BK444.out 0).trans rfl, (bc_ BK444.out 1).trans rfl, (bc_ BK444.out 2).trans rfl, (bc_ BK444.out 3).trans rfl, (bc_ BK444.out 4).trans rfl, (bc_ BK444.out 5).trans rfl⟩ (fun hHeld => ?_)
                 clear hK K
                 refine a1e (a' := ?_) ?_ ?_
                 rotate_left
                 ·show Act.put _ (some 83) _ = _
                  exact qp_
                 refine two_ (i := 3) (j := 10) (Ni := some 85) (Nj := some 92) #[o_,o_,o_,o_,o_,o_,o_,o_,o_,o_,i_,i_,o_,i_,i_,i_,i_,i_,i_] #[o_,o_,o_,i_,o_,o_,o_,o_,o_,o_,o_,i_,o_,i_,i_,i_,i_,i_,i_] rfl rfl rfl rfl (a4p HT_.out (by kernel_rfl)) (by decide) (by decide) (fun K hK => ?_) (fun K hK => ?_)
                 ·skip
                  refine Kd.a1j k26 (w0 := w) w.heap.size (by rfl) (.tmp 83) (.tmp 84) 23 26 (.agg #[(.int .i64 0), (.int .i64 0), (.int .i64 0), (.int .i64 0)]) 32 rfl Try.underlying23 a2y rfl (by decide) (by omega) v459 y458 l1 _ _ _ (fun _ => True) (fun _ => False) rfl rfl ?aO ?aR (fun _ _ h => h) (fun _ h => h.elim) ?aF ?aB ?aS ?aL ?_
                  (case aR => repeat (first | exact (Kd.a2w HR1.out HB.out) | (with_reducible refine Kd.a2h ?_ _) | (with_reducible refine Kd.a2i ?_ _) | (with_reducible refine Kd.a2p ?_)))
                  (case aB => exact qb_)
                  (case aF => exact (fun _ _ => trivial))
                  (case aO => exact (qr_ HO460))
                  (case aS => exact (a0s qb_))
                  (case aL => have := LMc46.out; omega)
                  intro v462 w55 ho hb hg hat
                  rw [← Ny461.out] at ho
                  replace BK444 := am_ (a1t (g := gb444) (o := .cells #[.int .i64 a0_0, .int .i64 a0_1, .int .i64 a0_2, .int .i64 a0_3, .int .i64 a0_4, .int .i64 a0_5] 30 (0, 0)) (qk_ BK444) hg (Kd.R_ne HO460.out BK444.out (by decide)))
                  replace HB := am_ (hb)
                  have HO463 := am_ (ho)
                  clear HO460 ho hb hg hat
                  refine hK.out _ _ ⟨(bc_ BK444.out 0).trans rfl, (bc_ BK444.out 1).trans rfl, (bc_ BK444.out 2).trans rfl, (bc_ BK444.out 3).trans rfl, (bc_ BK444.out 4).trans rfl, (bc_ BK444.out 5).trans rfl⟩ (fun hHeld => ?_)
                  clear hK K
                  refine a1e (a' := ?_) ?_ ?_
                  rotate_left
                  ·show Act.put _ (some 85) _ = _
                   exact qp_
                  refine one_ (i := 10) (N := some 92) #[o_,o_,o_,o_,o_,o_,o_,o_,o_,o_,o_,i_,o_,i_,i_,i_,i_,i_,i_] rfl rfl (a1q HT_.out (by kernel_rfl)) (by decide) (fun K hK => ?_)
                  refine Kd.a1z k26 _ 26 ?hg (N := 92) ?hd (xs := ([(⟨a0_0, a2, a3, a4⟩ : S26)] : List (S26))) (inner := [.int .i64 a0_0, .int .i64 a2, .int .i64 a3, .int .i64 a4]) (ok := fun _ => True) (okp := fun _ => True) ?hr ?hp (fun _ hk => hk) trivial (Below.refl _ _) (Nat.le_refl _) (by simp) ?_; (case hd => rfl); (case hg => rfl); (case hr => exact qq_); (case hp => exact (Reps.c4 (show Kd.M k26 _ _ _ (⟨a0_0, a2, a3, a4⟩ : S26) [.int .i64 a0_0, .int .i64 a2, .int .i64 a3, .int .i64 a4] from (a2o _ _ _ (⟨a0_0, a2, a3, a4⟩ : S26) )) (Reps.none _ _)))
                  intro v465 w56 ho57 hb hg_ hnew_
                  clear hg_ hnew_
                  (first | rw [← Ny464.out] at ho57 | (simp only [Int.reduceToNat] at ho57; rw [← Ny464.out] at ho57))
                  have HO466 := am_ (Kd.a1l (Kd.a2d ho57 (Kd.R_lt (qr_ HO463))) (a0s qb_))
                  replace HO463 := qel_ HO463 ho57 hb
                  replace BK444 := qkb_ BK444 hb
                  replace HB := qbs_ hb
                  clear hb ho57
                  refine hK.out _ _ ⟨(bc_ BK444.out 0).trans rfl, (bc_ BK444.out 1).trans rfl, (bc_ BK444.out 2).trans rfl, (bc_ BK444.out 3).trans rfl, (bc_ BK444.out 4).trans rfl, (bc_ BK444.out 5).trans rfl⟩ (fun hHeld => ?_)
                  clear hK K
                  refine a1e (a' := ?_) ?_ ?_
                  rotate_left
                  ·show Act.put _ (some 92) _ = _
                   exact qp_
                  exact a1e (by simp only [a2x, Act.put, List.setIfInBounds_toArray, List.set_cons_zero, List.set_cons_succ]) (hCont (v459, v462, v465) _ ⟨hHeld, (by (with_reducible repeat (first | apply Kd.a0m | apply Kd.a0n | apply Kd.a0p)); exact Kd.a0x HO463.out (fun _ hk => hk.2)), (by (with_reducible repeat (first | apply Kd.a0m | apply Kd.a0n | apply Kd.a0p)); exact Kd.a0x HO466.out (fun _ hk => hk.2)), (qk_ BK444), qb_⟩)
                 ·skip
                  refine Kd.a1z k26 _ 26 ?hg (N := 92) ?hd (xs := ([(⟨a0_0, a2, a3, a4⟩ : S26)] : List (S26))) (inner := [.int .i64 a0_0, .int .i64 a2, .int .i64 a3, .int .i64 a4]) (ok := fun _ => True) (okp := fun _ => True) ?hr ?hp (fun _ hk => hk) trivial (Below.refl _ _) (Nat.le_refl _) (by simp) ?_; (case hd => rfl); (case hg => rfl); (case hr => exact qq_); (case hp => exact (Reps.c4 (show Kd.M k26 _ _ _ (⟨a0_0, a2, a3, a4⟩ : S26) [.int .i64 a0_0, .int .i64 a2, .int .i64 a3, .int .i64 a4] from (a2o _ _ _ (⟨a0_0, a2, a3, a4⟩ : S26) )) (Reps.none _ _)))
                  intro v465 w55 ho56 hb hg_ hnew_
                  clear hg_ hnew_
                  (first | rw [← Ny464.out] at ho56 | (simp only [Int.reduceToNat] at ho56; rw [← Ny464.out] at ho56))
                  have HO466 := am_ (Kd.a1l (Kd.a2d ho56 (Kd.R_lt (qr_ HO460))) (a0s qb_))
                  replace HO460 := qel_ HO460 ho56 hb
                  replace BK444 := qkb_ BK444 hb
                  replace HB := qbs_ hb
                  clear hb ho56
                  refine hK.out _ _ ⟨(bc_ BK444.out 0).trans rfl, (bc_ BK444.out 1).trans rfl, (bc_ BK444.out 2).trans rfl, (bc_ BK444.out 3).trans rfl, (bc_ BK444.out 4).trans rfl, (bc_ BK444.out 5).trans rfl⟩ (fun hHeld => ?_)
                  clear hK K
                  refine a1e (a' := ?_) ?_ ?_
                  rotate_left
                  ·show Act.put _ (some 92) _ = _
                   exact qp_
                  refine one_ (i := 3) (N := some 85) #[o_,o_,o_,o_,o_,o_,o_,o_,o_,o_,o_,i_,o_,i_,i_,i_,i_,i_,i_] rfl rfl (a1q HT_.out (by kernel_rfl)) (by decide) (fun K hK => ?_)
                  refine Kd.a1j k26 (w0 := w) w.heap.size (by rfl) (.tmp 83) (.tmp 84) 23 26 (.agg #[(.int .i64 0), (.int .i64 0), (.int .i64 0), (.int .i64 0)]) 32 rfl Try.underlying23 a2y rfl (by decide) (by omega) v459 y458 l1 _ _ _ (fun k_ => some k_ ≠ (v465 : Value).ownBlock) (fun _ => False) rfl rfl ?aO ?aR (fun _ _ h => h) (fun _ h => h.elim) ?aF ?aB ?aS ?aL ?_
                  (case aR => repeat (first | exact (Kd.a2w HR1.out HB.out) | (with_reducible refine Kd.a2h ?_ _) | (with_reducible refine Kd.a2i ?_ _) | (with_reducible refine Kd.a2p ?_)))
                  (case aB => exact qb_)
                  (case aF => exact (fun k_ hk => Kd.fresh' (Kd.R_lt (qr_ HO466)) k_ hk))
                  (case aO => exact (by (with_reducible repeat (first | apply Kd.a0m | apply Kd.a0n | apply Kd.a0p)); exact Kd.a0x HO460.out (fun _ hk => hk.2)))
                  (case aS => exact (a0s qb_))
                  (case aL => have := LMc46.out; omega)
                  intro v462 w57 ho hb hg hat
                  rw [← Ny461.out] at ho
                  replace BK444 := am_ (a1t (g := gb444) (o := .cells #[.int .i64 a0_0, .int .i64 a0_1, .int .i64 a0_2, .int .i64 a0_3, .int .i64 a0_4, .int .i64 a0_5] 30 (0, 0)) (qk_ BK444) hg (Kd.R_ne HO460.out BK444.out (by decide)))
                  replace HO466 := am_ (Kd.a3e (ok := (fun _ => True)) (qr_ HO466) hg hat)
                  replace HB := am_ (hb)
                  have HO463 := am_ (ho)
                  clear HO460 ho hb hg hat
                  refine hK.out _ _ ⟨(bc_ BK444.out 0).trans rfl, (bc_ BK444.out 1).trans rfl, (bc_ BK444.out 2).trans rfl, (bc_ BK444.out 3).trans rfl, (bc_ BK444.out 4).trans rfl, (bc_ BK444.out 5).trans rfl⟩ (fun hHeld => ?_)
                  clear hK K
                  refine a1e (a' := ?_) ?_ ?_
                  rotate_left
                  ·show Act.put _ (some 85) _ = _
                   exact qp_
                  exact a1e (by simp only [a2x, Act.put, List.setIfInBounds_toArray, List.set_cons_zero, List.set_cons_succ]) (hCont (v459, v462, v465) _ ⟨hHeld, (qr_ HO463), (by (with_reducible repeat (first | apply Kd.a0m | apply Kd.a0n | apply Kd.a0p)); exact Kd.a0x HO466.out (fun _ hk => hk.2)), (qk_ BK444), qb_⟩)
                ·skip
                 refine Kd.a1z k26 _ 26 ?hg (N := 92) ?hd (xs := ([(⟨a0_0, a2, a3, a4⟩ : S26)] : List (S26))) (inner := [.int .i64 a0_0, .int .i64 a2, .int .i64 a3, .int .i64 a4]) (ok := fun _ => True) (okp := fun _ => True) ?hr ?hp (fun _ hk => hk) trivial (Below.refl _ _) (Nat.le_refl _) (by simp) ?_; (case hd => rfl); (case hg => rfl); (case hr => exact qq_); (case hp => exact (Reps.c4 (show Kd.M k26 _ _ _ (⟨a0_0, a2, a3, a4⟩ : S26) [.int .i64 a0_0, .int .i64 a2, .int .i64 a3, .int .i64 a4] from (a2o _ _ _ (⟨a0_0, a2, a3, a4⟩ : S26) )) (Reps.none _ _)))
                 intro v465 w53 ho54 hb hg_ hnew_
                 clear hg_ hnew_
                 (first | rw [← Ny464.out] at ho54 | (simp only [Int.reduceToNat] at ho54; rw [← Ny464.out] at ho54))
                 have HO466 := am_ (Kd.a1l ho54 (a0s qb_))
                 replace BK444 := qkb_ BK444 hb
                 replace HB := qbs_ hb
                 clear hb ho54
                 refine hK.out _ _ ⟨(bc_ BK444.out 0).trans rfl, (bc_ BK444.out 1).trans rfl, (bc_ BK444.out 2).trans rfl, (bc_ BK444.out 3).trans rfl, (bc_ BK444.out 4).trans rfl, (bc_ BK444.out 5).trans rfl⟩ (fun hHeld => ?_)
                 clear hK K
                 refine a1e (a' := ?_) ?_ ?_
                 rotate_left
                 ·show Act.put _ (some 92) _ = _
                  exact qp_
                 refine one_ (i := 1) (N := some 83) #[o_,o_,o_,i_,o_,o_,o_,o_,o_,o_,o_,i_,o_,i_,i_,i_,i_,i_,i_] rfl rfl (a1q HT_.out (by kernel_rfl)) (by decide) (fun K hK => ?_)
                 refine Kd.a1z k26 _ 26 ?hg (N := 83) ?hd (xs := ([] : List (S26))) (inner := []) (ok := fun _ => True) (okp := fun _ => True) ?hr ?hp (fun _ hk => hk) trivial (Below.refl _ _) (Nat.le_refl _) (by simp) ?_; (case hd => rfl); (case hg => rfl); (case hr => exact qq_); (case hp => exact (Reps.none _ _))
                 intro v459 w55 ho56 hb hg_ hnew_
                 clear hg_ hnew_
                 (first | rw [← Ny458.out] at ho56 | (simp only [Int.reduceToNat] at ho56; rw [← Ny458.out] at ho56))
                 have HO460 := am_ (Kd.a1l (Kd.a2d ho56 (Kd.R_lt (qr_ HO466))) (a0s qb_))
                 replace HO466 := qel_ HO466 ho56 hb
                 replace BK444 := qkb_ BK444 hb
                 replace HB := qbs_ hb
                 clear hb ho56
                 refine hK.out _ _ ⟨(bc_ BK444.out 0).trans rfl, (bc_ BK444.out 1).trans rfl, (bc_ BK444.out 2).trans rfl, (bc_ BK444.out 3).trans rfl, (bc_ BK444.out 4).trans rfl, (bc_ BK444.out 5).trans rfl⟩ (fun hHeld => ?_)
                 clear hK K
                 refine a1e (a' := ?_) ?_ ?_
                 rotate_left
                 ·show Act.put _ (some 83) _ = _
                  exact qp_
                 refine one_ (i := 3) (N := some 85) #[o_,o_,o_,o_,o_,o_,o_,o_,o_,o_,o_,i_,o_,i_,i_,i_,i_,i_,i_] rfl rfl (a1q HT_.out (by kernel_rfl)) (by decide) (fun K hK => ?_)
                 refine Kd.a1j k26 (w0 := w) w.heap.size (by rfl) (.tmp 83) (.tmp 84) 23 26 (.agg #[(.int .i64 0), (.int .i64 0), (.int .i64 0), (.int .i64 0)]) 32 rfl Try.underlying23 a2y rfl (by decide) (by omega) v459 y458 l1 _ _ _ (fun k_ => some k_ ≠ (v465 : Value).ownBlock) (fun _ => False) rfl rfl ?aO ?aR (fun _ _ h => h) (fun _ h => h.elim) ?aF ?aB ?aS ?aL ?_
                 (case aR => repeat (first | exact (Kd.a2w HR1.out HB.out) | (with_reducible refine Kd.a2h ?_ _) | (with_reducible refine Kd.a2i ?_ _) | (with_reducible refine Kd.a2p ?_)))
                 (case aB => exact qb_)
                 (case aF => exact (fun k_ hk => Kd.fresh' (Kd.R_lt (qr_ HO466)) k_ hk))
                 (case aO => exact (by (with_reducible repeat (first | apply Kd.a0m | apply Kd.a0n | apply Kd.a0p)); exact Kd.a0x HO460.out (fun _ hk => hk.2)))
                 (case aS => exact (a0s qb_))
                 (case aL => have := LMc46.out; omega)
                 intro v462 w57 ho hb hg hat
                 rw [← Ny461.out] at ho
                 replace BK444 := am_ (a1t (g := gb444) (o := .cells #[.int .i64 a0_0, .int .i64 a0_1, .int .i64 a0_2, .int .i64 a0_3, .int .i64 a0_4, .int .i64 a0_5] 30 (0, 0)) (qk_ BK444) hg (Kd.R_ne HO460.out BK444.out (by decide)))
                 replace HO466 := am_ (Kd.a3e (ok := (fun _ => True)) (qr_ HO466) hg hat)
                 replace HB := am_ (hb)
                 have HO463 := am_ (ho)
                 clear HO460 ho hb hg hat
                 refine hK.out _ _ ⟨(bc_ BK444.out 0).trans rfl, (bc_ BK444.out 1).trans rfl, (bc_ BK444.out 2).trans rfl, (bc_ BK444.out 3).trans rfl, (bc_ BK444.out 4).trans rfl, (bc_ BK444.out 5).trans rfl⟩ (fun hHeld => ?_)
                 clear hK K
                 refine a1e (a' := ?_) ?_ ?_
                 rotate_left
                 ·show Act.put _ (some 85) _ = _
                  exact qp_
                 exact a1e (by simp only [a2x, Act.put, List.setIfInBounds_toArray, List.set_cons_zero, List.set_cons_succ]) (hCont (v459, v462, v465) _ ⟨hHeld, (qr_ HO463), (by (with_reducible repeat (first | apply Kd.a0m | apply Kd.a0n | apply Kd.a0p)); exact Kd.a0x HO466.out (fun _ hk => hk.2)), (qk_ BK444), qb_⟩)
               rintro ⟨v459, v462, v465⟩ w58 ⟨hS_, h0_, h1_, h2_, h3_⟩
               have HO463 : Aside0 (Kd.R k26 26 w58 w.heap.size (fun k_ => some k_ ≠ (v465 : Value).ownBlock) v462 y461) := ⟨h0_⟩
               have HO466 : Aside0 (Kd.R k26 26 w58 w.heap.size (fun k_ => some k_ ≠ (v462 : Value).ownBlock) v465 y464) := ⟨h1_⟩
               replace BK444 : Aside0 (w58.heap[gb444]? = some (.cells #[.int .i64 a0_0, .int .i64 a0_1, .int .i64 a0_2, .int .i64 a0_3, .int .i64 a0_4, .int .i64 a0_5] 30 (0, 0))) := ⟨h2_⟩
               replace HB : Aside0 (Below w.heap.size w w58) := ⟨h3_⟩
               clear h0_ h1_ h2_ h3_
               have hHeld : w58.cell? ⟨gb444, 0, none⟩ = some (.int .i64 a0_0) ∧ w58.cell? ⟨gb444, 1, none⟩ = some (.int .i64 a0_1) ∧ w58.cell? ⟨gb444, 2, none⟩ = some (.int .i64 a0_2) ∧ w58.cell? ⟨gb444, 3, none⟩ = some (.int .i64 a0_3) ∧ w58.cell? ⟨gb444, 4, none⟩ = some (.int .i64 a0_4) ∧ w58.cell? ⟨gb444, 5, none⟩ = some (.int .i64 a0_5) := hS_
               obtain ⟨Ao60, co60, eo60⟩ := Kd.a1m HO466.out
               (first | subst eo60 | (injection eo60 with f1_ f2_ f3_; have f4_ := f1_.symm; have f5_ := f3_.symm; clear f1_ f2_ f3_; subst f4_; subst f5_))
               refine a1e (a' := ?_) ?_ ?_
               rotate_left
               ·simp only [a2x, Act.put, List.setIfInBounds_toArray, List.set_cons_zero, List.set_cons_succ]
                rfl
               refine one_ (i := 11) (N := some 93) #[o_,o_,o_,o_,o_,o_,o_,o_,o_,o_,o_,o_,o_,i_,i_,i_,i_,i_,i_] rfl rfl (a1q HT_.out (by kernel_rfl)) (by decide) (fun K hK => ?_)
               refine Kd.a1j k26 (w0 := w) w.heap.size (by rfl) (.tmp 85) (.tmp 92) 23 26 (.agg #[(.int .i64 0), (.int .i64 0), (.int .i64 0), (.int .i64 0)]) 32 rfl Try.underlying23 a2y rfl (by decide) (by omega) v462 y461 y464 _ _ _ (fun k_ => some k_ ≠ (.slice Ao60 y464.length co60 : Value).ownBlock) (fun _ => False) rfl rfl ?aO ?aR (fun _ _ h => h) (fun _ h => h.elim) ?aF ?aB ?aS ?aL ?_
               (case aR => repeat (first | exact (Kd.a0o HO466.out).2.2 | (with_reducible refine Kd.a2h ?_ _) | (with_reducible refine Kd.a2i ?_ _) | (with_reducible refine Kd.a2p ?_)))
               (case aB => exact qb_)
               (case aF => exact (fun k_ hk => Kd.fresh' (Kd.R_lt (qr_ HO466)) k_ hk))
               (case aO => exact (qr_ HO463))
               (case aS => exact (a0s qb_))
               (case aL => have := LMc47.out; omega)
               intro v468 w59 ho hb hg hat
               rw [← Ny467.out] at ho
               replace BK444 := am_ (a1t (g := gb444) (o := .cells #[.int .i64 a0_0, .int .i64 a0_1, .int .i64 a0_2, .int .i64 a0_3, .int .i64 a0_4, .int .i64 a0_5] 30 (0, 0)) (qk_ BK444) hg (Kd.R_ne HO463.out BK444.out (by decide)))
               replace HO466 := am_ (Kd.a3e (ok := (fun _ => True)) (by (with_reducible repeat (first | apply Kd.a0m | apply Kd.a0n | apply Kd.a0p)); exact Kd.a0x HO466.out (fun _ hk => ⟨trivial, hk⟩)) hg hat)
               replace HB := am_ (hb)
               have HO469 := am_ (ho)
               clear HO463 ho hb hg hat
               obtain ⟨Ao61, co61, eo61⟩ := Kd.a1m HO469.out
               (first | subst eo61 | (injection eo61 with f1_ f2_ f3_; have f4_ := f1_.symm; have f5_ := f3_.symm; clear f1_ f2_ f3_; subst f4_; subst f5_))
               refine hK.out _ _ ⟨(bc_ BK444.out 0).trans rfl, (bc_ BK444.out 1).trans rfl, (bc_ BK444.out 2).trans rfl, (bc_ BK444.out 3).trans rfl, (bc_ BK444.out 4).trans rfl, (bc_ BK444.out 5).trans rfl⟩ (fun hHeld => ?_)
               clear hK K
               refine a1e (a' := ?_) ?_ ?_
               rotate_left
               ·show Act.put _ (some 93) _ = _
                exact qp_
               refine one_ (i := 13) (N := some 95) #[o_,o_,o_,o_,o_,o_,o_,o_,o_,o_,o_,o_,o_,o_,i_,i_,i_,i_,i_] rfl rfl (a1q HT_.out (by kernel_rfl)) (by decide) (fun K hK => ?_)
               refine a4l Try.func9 (by kernel_rfl) rfl #[.agg #[.int .i64 a0_0, .int .i64 a0_1, .int .i64 a0_2, .int .i64 a0_3, .int .i64 a0_4, .int .i64 a0_5], .slice Ao61 y467.length co61, .int .i64 a4] (by rfl) rfl rfl ql_ ?_
               with_reducible refine (a0q.calls kj39 a0_0 a0_1 a0_2 a0_3 a0_4 a0_5 _ _ y467 a4 t470 t471 _ ?s1 ?s2 A48.out).mono ?_
               (case s1 => exact qv_ (Kd.a0o HO469.out).2.2)
               (case s2 => exact (Kd.a0o HO469.out).2.1)
               rintro e w62 ⟨rfl, hb⟩
               refine ⟨_, rfl, ?_⟩
               replace HO466 := qrb_ HO466 hb
               replace HO469 := qrb_ HO469 hb
               replace BK444 := qkb_ BK444 hb
               replace HB := qbs_ hb
               (try clear hb)
               (try clear hb2)
               (try clear hk)
               (try clear hi)
               refine hK.out _ _ ⟨(bc_ BK444.out 0).trans rfl, (bc_ BK444.out 1).trans rfl, (bc_ BK444.out 2).trans rfl, (bc_ BK444.out 3).trans rfl, (bc_ BK444.out 4).trans rfl, (bc_ BK444.out 5).trans rfl⟩ (fun hHeld => ?_)
               clear hK K
               refine a1e (a' := ?_) ?_ ?_
               rotate_left
               ·show Act.put _ (some 95) _ = _
                exact qp_
               refine qpu_ 14 (some 81) #[o_,o_,o_,o_,o_,o_,o_,o_,o_,o_,o_,o_,o_,o_,o_,i_,i_,i_,i_] ?_
               refine qpu_ 15 (some 96) #[o_,o_,o_,o_,o_,o_,o_,o_,o_,o_,o_,o_,o_,o_,o_,o_,i_,i_,i_] ?_
               refine qpu_ 16 (some 97) #[o_,o_,o_,o_,o_,o_,o_,o_,o_,o_,o_,o_,o_,o_,o_,o_,o_,i_,i_] ?_
               refine qpu_ 17 (some 19) #[o_,o_,o_,o_,o_,o_,o_,o_,o_,o_,o_,o_,o_,o_,o_,o_,o_,o_,i_] ?_
               refine qpu_ 18 (some 20) #[o_,o_,o_,o_,o_,o_,o_,o_,o_,o_,o_,o_,o_,o_,o_,o_,o_,o_,o_] ?_
               refine a3p (a2t HT_.out (by kernel_rfl)) ?_
               try go_wp2
               go_ret
               exact ⟨qx_, qb_⟩
              ·replace c51 := be_ c51
               subst c51
               have H1 : (some false) = some r := by rw [if_neg (show ¬ (false = true) by decide)] at H; exact H
               clear H
               have H := H1
               clear H1
               obtain rfl := si_ H
               try go_wp2
               replace BK444 := am_ (bd_ BK444.out)
               replace HB := am_ (ld_ HB.out)
               refine a3c (n := 19) (S := fun w' => w'.cell? ⟨gb444, 0, none⟩ = some (.int .i64 a0_0) ∧ w'.cell? ⟨gb444, 1, none⟩ = some (.int .i64 a0_1) ∧ w'.cell? ⟨gb444, 2, none⟩ = some (.int .i64 a0_2) ∧ w'.cell? ⟨gb444, 3, none⟩ = some (.int .i64 a0_3) ∧ w'.cell? ⟨gb444, 4, none⟩ = some (.int .i64 a0_4) ∧ w'.cell? ⟨gb444, 5, none⟩ = some (.int .i64 a0_5)) (ds := []) #[i_,i_,i_,i_,i_,i_,i_,i_,i_,i_,i_,i_,i_,i_,i_,i_,i_,i_,i_] (by kernel_rfl) rfl rfl ⟨(bc_ BK444.out 0).trans rfl, (bc_ BK444.out 1).trans rfl, (bc_ BK444.out 2).trans rfl, (bc_ BK444.out 3).trans rfl, (bc_ BK444.out 4).trans rfl, (bc_ BK444.out 5).trans rfl⟩ (fun hHeld => ?_); refine a2l a0e.a7o a0e.a6m (fun HT_ HW_ => ?_)
               generalize wc.drew = w63 at BK444 HB hHeld ⊢
               refine qpu_ 2 (some 84) #[i_,i_,o_,i_,i_,i_,i_,i_,i_,i_,i_,i_,i_,i_,i_,i_,i_,i_,i_] ?_
               refine qpu_ 4 (some 86) #[i_,i_,o_,i_,o_,i_,i_,i_,i_,i_,i_,i_,i_,i_,i_,i_,i_,i_,i_] ?_
               refine qpu_ 6 (some 88) #[i_,i_,o_,i_,o_,i_,o_,i_,i_,i_,i_,i_,i_,i_,i_,i_,i_,i_,i_] ?_
               refine qpu_ 7 (some 89) #[i_,i_,o_,i_,o_,i_,o_,o_,i_,i_,i_,i_,i_,i_,i_,i_,i_,i_,i_] ?_
               refine qpu_ 8 (some 90) #[i_,i_,o_,i_,o_,i_,o_,o_,o_,i_,i_,i_,i_,i_,i_,i_,i_,i_,i_] ?_
               refine qpu_ 12 (some 94) #[i_,i_,o_,i_,o_,i_,o_,o_,o_,i_,i_,i_,o_,i_,i_,i_,i_,i_,i_] ?_
               refine a2e (i := 0) (N := some 82) (v := ?_) (a' := ?_) #[o_,i_,o_,i_,o_,i_,o_,o_,o_,i_,i_,i_,o_,i_,i_,i_,i_,i_,i_] rfl rfl (a1p HT_.out HW_.out (by kernel_rfl)) (fun _ _ _ h => h) (Or.inl ⟨by rfl, ?_⟩) hHeld ?_ ?_
               rotate_left
               ·rintro w' ⟨s0, s1, s2, s3, s4, s5⟩
                go_simp
                with_reducible rfl
               rotate_left
               ·exact qp_
               refine a2e (i := 5) (N := some 87) (v := ?_) (a' := ?_) #[o_,i_,o_,i_,o_,o_,o_,o_,o_,i_,i_,i_,o_,i_,i_,i_,i_,i_,i_] rfl rfl (a1p HT_.out HW_.out (by kernel_rfl)) (fun _ _ _ h => h) (Or.inl ⟨by rfl, ?_⟩) hHeld ?_ ?_
               rotate_left
               ·rintro w' ⟨s0, s1, s2, s3, s4, s5⟩
                go_simp
                with_reducible rfl
               rotate_left
               ·exact qp_
               refine qpu_ 9 (some 91) #[o_,i_,o_,i_,o_,o_,o_,o_,o_,o_,i_,i_,o_,i_,i_,i_,i_,i_,i_] ?_
               refine a7m (σ := Value × Value × Value) 7 #[o_,o_,o_,o_,o_,o_,o_,o_,o_,o_,o_,i_,o_,i_,i_,i_,i_,i_,i_] (fun s_ => [(83, s_.1), (85, s_.2.1), (92, s_.2.2)]) (fun s_ w' => (w'.cell? ⟨gb444, 0, none⟩ = some (.int .i64 a0_0) ∧ w'.cell? ⟨gb444, 1, none⟩ = some (.int .i64 a0_1) ∧ w'.cell? ⟨gb444, 2, none⟩ = some (.int .i64 a0_2) ∧ w'.cell? ⟨gb444, 3, none⟩ = some (.int .i64 a0_3) ∧ w'.cell? ⟨gb444, 4, none⟩ = some (.int .i64 a0_4) ∧ w'.cell? ⟨gb444, 5, none⟩ = some (.int .i64 a0_5)) ∧ (Kd.R k26 26 w' w.heap.size (fun k_ => some k_ ≠ (s_.2.2 : Value).ownBlock) s_.2.1 y461) ∧ (Kd.R k26 26 w' w.heap.size (fun k_ => some k_ ≠ (s_.2.1 : Value).ownBlock) s_.2.2 y464) ∧ (w'.heap[gb444]? = some (.cells #[.int .i64 a0_0, .int .i64 a0_1, .int .i64 a0_2, .int .i64 a0_3, .int .i64 a0_4, .int .i64 a0_5] 30 (0, 0))) ∧ (Below w.heap.size w w')) ?_ ?_
               rotate_left
               ·intro hCont
                refine two_ (i := 1) (j := 10) (Ni := some 83) (Nj := some 92) #[o_,o_,o_,i_,o_,o_,o_,o_,o_,o_,i_,i_,o_,i_,i_,i_,i_,i_,i_] #[o_,i_,o_,i_,o_,o_,o_,o_,o_,o_,o_,i_,o_,i_,i_,i_,i_,i_,i_] rfl rfl rfl rfl (a4p HT_.out (by kernel_rfl)) (by decide) (by decide) (fun K hK => ?_) (fun K hK => ?_)
                ·skip
                 refine Kd.a1z k26 _ 26 ?hg (N := 83) ?hd (xs := ([] : List (S26))) (inner := []) (ok := fun _ => True) (okp := fun _ => True) ?hr ?hp (fun _ hk => hk) trivial (Below.refl _ _) (Nat.le_refl _) (by simp) ?_; (case hd => rfl); (case hg => rfl); (case hr => exact qq_); (case hp => exact (Reps.none _ _))
                 intro v459 w64 ho65 hb hg_ hnew_
                 clear hg_ hnew_
                 (first | rw [← Ny458.out] at ho65 | (simp only [Int.reduceToNat] at ho65; rw [← Ny458.out] at ho65))
                 have HO460 := am_ (Kd.a1l ho65 (a0s qb_))
                 replace BK444 := qkb_ BK444 hb
                 replace HB := qbs_ hb
                 clear hb ho65
                 refine hK.out _ _ ⟨(bc_ BK444.out 0).trans rfl, (bc_ BK444.out 1).trans rfl, (bc_ BK444.out 2).trans rfl, (bc_ BK444.out 3).trans rfl, (bc_ BK444.out 4).trans rfl, (bc_ BK444.out 5).trans rfl⟩ (fun hHeld => ?_)
                 clear hK K
                 refine a1e (a' := ?_) ?_ ?_
                 rotate_left
                 ·show Act.put _ (some 83) _ = _
                  exact qp_
                 refine two_ (i := 3) (j := 10) (Ni := some 85) (Nj := some 92) #[o_,o_,o_,o_,o_,o_,o_,o_,o_,o_,i_,i_,o_,i_,i_,i_,i_,i_,i_] #[o_,o_,o_,i_,o_,o_,o_,o_,o_,o_,o_,i_,o_,i_,i_,i_,i_,i_,i_] rfl rfl rfl rfl (a4p HT_.out (by kernel_rfl)) (by decide) (by decide) (fun K hK => ?_) (fun K hK => ?_)
                 ·skip
                  refine Kd.a1j k26 (w0 := w) w.heap.size (by rfl) (.tmp 83) (.tmp 84) 23 26 (.agg #[(.int .i64 0), (.int .i64 0), (.int .i64 0), (.int .i64 0)]) 32 rfl Try.underlying23 a2y rfl (by decide) (by omega) v459 y458 l1 _ _ _ (fun _ => True) (fun _ => False) rfl rfl ?aO ?aR (fun _ _ h => h) (fun _ h => h.elim) ?aF ?aB ?aS ?aL ?_
                  (case aR => repeat (first | exact (Kd.a2w HR1.out HB.out) | (with_reducible refine Kd.a2h ?_ _) | (with_reducible refine Kd.a2i ?_ _) | (with_reducible refine Kd.a2p ?_)))
                  (case aB => exact qb_)
                  (case aF => exact (fun _ _ => trivial))
                  (case aO => exact (qr_ HO460))
                  (case aS => exact (a0s qb_))
                  (case aL => have := LMc46.out; omega)
                  intro v462 w66 ho hb hg hat
                  rw [← Ny461.out] at ho
                  replace BK444 := am_ (a1t (g := gb444) (o := .cells #[.int .i64 a0_0, .int .i64 a0_1, .int .i64 a0_2, .int .i64 a0_3, .int .i64 a0_4, .int .i64 a0_5] 30 (0, 0)) (qk_ BK444) hg (Kd.R_ne HO460.out BK444.out (by decide)))
                  replace HB := am_ (hb)
                  have HO463 := am_ (ho)
                  clear HO460 ho hb hg hat
                  refine hK.out _ _ ⟨(bc_ BK444.out 0).trans rfl, (bc_ BK444.out 1).trans rfl, (bc_ BK444.out 2).trans rfl, (bc_ BK444.out 3).trans rfl, (bc_ BK444.out 4).trans rfl, (bc_ BK444.out 5).trans rfl⟩ (fun hHeld => ?_)
                  clear hK K
                  refine a1e (a' := ?_) ?_ ?_
                  rotate_left
                  ·show Act.put _ (some 85) _ = _
                   exact qp_
                  refine one_ (i := 10) (N := some 92) #[o_,o_,o_,o_,o_,o_,o_,o_,o_,o_,o_,i_,o_,i_,i_,i_,i_,i_,i_] rfl rfl (a1q HT_.out (by kernel_rfl)) (by decide) (fun K hK => ?_)
                  refine Kd.a1z k26 _ 26 ?hg (N := 92) ?hd (xs := ([(⟨a0_0, a2, a3, a4⟩ : S26)] : List (S26))) (inner := [.int .i64 a0_0, .int .i64 a2, .int .i64 a3, .int .i64 a4]) (ok := fun _ => True) (okp := fun _ => True) ?hr ?hp (fun _ hk => hk) trivial (Below.refl _ _) (Nat.le_refl _) (by simp) ?_; (case hd => rfl); (case hg => rfl); (case hr => exact qq_); (case hp => exact (Reps.c4 (show Kd.M k26 _ _ _ (⟨a0_0, a2, a3, a4⟩ : S26) [.int .i64 a0_0, .int .i64 a2, .int .i64 a3, .int .i64 a4] from (a2o _ _ _ (⟨a0_0, a2, a3, a4⟩ : S26) )) (Reps.none _ _)))
                  intro v465 w67 ho68 hb hg_ hnew_
                  clear hg_ hnew_
                  (first | rw [← Ny464.out] at ho68 | (simp only [Int.reduceToNat] at ho68; rw [← Ny464.out] at ho68))
                  have HO466 := am_ (Kd.a1l (Kd.a2d ho68 (Kd.R_lt (qr_ HO463))) (a0s qb_))
                  replace HO463 := qel_ HO463 ho68 hb
                  replace BK444 := qkb_ BK444 hb
                  replace HB := qbs_ hb
                  clear hb ho68
                  refine hK.out _ _ ⟨(bc_ BK444.out 0).trans rfl, (bc_ BK444.out 1).trans rfl, (bc_ BK444.out 2).trans rfl, (bc_ BK444.out 3).trans rfl, (bc_ BK444.out 4).trans rfl, (bc_ BK444.out 5).trans rfl⟩ (fun hHeld => ?_)
                  clear hK K
                  refine a1e (a' := ?_) ?_ ?_
                  rotate_left
                  ·show Act.put _ (some 92) _ = _
                   exact qp_
                  exact a1e (by simp only [a2x, Act.put, List.setIfInBounds_toArray, List.set_cons_zero, List.set_cons_succ]) (hCont (v459, v462, v465) _ ⟨hHeld, (by (with_reducible repeat (first | apply Kd.a0m | apply Kd.a0n | apply Kd.a0p)); exact Kd.a0x HO463.out (fun _ hk => hk.2)), (by (with_reducible repeat (first | apply Kd.a0m | apply Kd.a0n | apply Kd.a0p)); exact Kd.a0x HO466.out (fun _ hk => hk.2)), (qk_ BK444), qb_⟩)
                 ·skip
                  refine Kd.a1z k26 _ 26 ?hg (N := 92) ?hd (xs := ([(⟨a0_0, a2, a3, a4⟩ : S26)] : List (S26))) (inner := [.int .i64 a0_0, .int .i64 a2, .int .i64 a3, .int .i64 a4]) (ok := fun _ => True) (okp := fun _ => True) ?hr ?hp (fun _ hk => hk) trivial (Below.refl _ _) (Nat.le_refl _) (by simp) ?_; (case hd => rfl); (case hg => rfl); (case hr => exact qq_); (case hp => exact (Reps.c4 (show Kd.M k26 _ _ _ (⟨a0_0, a2, a3, a4⟩ : S26) [.int .i64 a0_0, .int .i64 a2, .int .i64 a3, .int .i64 a4] from (a2o _ _ _ (⟨a0_0, a2, a3, a4⟩ : S26) )) (Reps.none _ _)))
                  intro v465 w66 ho67 hb hg_ hnew_
                  clear hg_ hnew_
                  (first | rw [← Ny464.out] at ho67 | (simp only [Int.reduceToNat] at ho67; rw [← Ny464.out] at ho67))
                  have HO466 := am_ (Kd.a1l (Kd.a2d ho67 (Kd.R_lt (qr_ HO460))) (a0s qb_))
                  replace HO460 := qel_ HO460 ho67 hb
                  replace BK444 := qkb_ BK444 hb
                  replace HB := qbs_ hb
                  clear hb ho67
                  refine hK.out _ _ ⟨(bc_ BK444.out 0).trans rfl, (bc_ BK444.out 1).trans rfl, (bc_ BK444.out 2).trans rfl, (bc_ BK444.out 3).trans rfl, (bc_ BK444.out 4).trans rfl, (bc_ BK444.out 5).trans rfl⟩ (fun hHeld => ?_)
                  clear hK K
                  refine a1e (a' := ?_) ?_ ?_
                  rotate_left
                  ·show Act.put _ (some 92) _ = _
                   exact qp_
                  refine one_ (i := 3) (N := some 85) #[o_,o_,o_,o_,o_,o_,o_,o_,o_,o_,o_,i_,o_,i_,i_,i_,i_,i_,i_] rfl rfl (a1q HT_.out (by kernel_rfl)) (by decide) (fun K hK => ?_)
                  refine Kd.a1j k26 (w0 := w) w.heap.size (by rfl) (.tmp 83) (.tmp 84) 23 26 (.agg #[(.int .i64 0), (.int .i64 0), (.int .i64 0), (.int .i64 0)]) 32 rfl Try.underlying23 a2y rfl (by decide) (by omega) v459 y458 l1 _ _ _ (fun k_ => some k_ ≠ (v465 : Value).ownBlock) (fun _ => False) rfl rfl ?aO ?aR (fun _ _ h => h) (fun _ h => h.elim) ?aF ?aB ?aS ?aL ?_
                  (case aR => repeat (first | exact (Kd.a2w HR1.out HB.out) | (with_reducible refine Kd.a2h ?_ _) | (with_reducible refine Kd.a2i ?_ _) | (with_reducible refine Kd.a2p ?_)))
                  (case aB => exact qb_)
                  (case aF => exact (fun k_ hk => Kd.fresh' (Kd.R_lt (qr_ HO466)) k_ hk))
                  (case aO => exact (by (with_reducible repeat (first | apply Kd.a0m | apply Kd.a0n | apply Kd.a0p)); exact Kd.a0x HO460.out (fun _ hk => hk.2)))
                  (case aS => exact (a0s qb_))
                  (case aL => have := LMc46.out; omega)
                  intro v462 w68 ho hb hg hat
                  rw [← Ny461.out] at ho
                  replace BK444 := am_ (a1t (g := gb444) (o := .cells #[.int .i64 a0_0, .int .i64 a0_1, .int .i64 a0_2, .int .i64 a0_3, .int .i64 a0_4, .int .i64 a0_5] 30 (0, 0)) (qk_ BK444) hg (Kd.R_ne HO460.out BK444.out (by decide)))
                  replace HO466 := am_ (Kd.a3e (ok := (fun _ => True)) (qr_ HO466) hg hat)
                  replace HB := am_ (hb)
                  have HO463 := am_ (ho)
                  clear HO460 ho hb hg hat
                  refine hK.out _ _ ⟨(bc_ BK444.out 0).trans rfl, (bc_ BK444.out 1).trans rfl, (bc_ BK444.out 2).trans rfl, (bc_ BK444.out 3).trans rfl, (bc_ BK444.out 4).trans rfl, (bc_ BK444.out 5).trans rfl⟩ (fun hHeld => ?_)
                  clear hK K
                  refine a1e (a' := ?_) ?_ ?_
                  rotate_left
                  ·show Act.put _ (some 85) _ = _
                   exact qp_
                  exact a1e (by simp only [a2x, Act.put, List.setIfInBounds_toArray, List.set_cons_zero, List.set_cons_succ]) (hCont (v459, v462, v465) _ ⟨hHeld, (qr_ HO463), (by (with_reducible repeat (first | apply Kd.a0m | apply Kd.a0n | apply Kd.a0p)); exact Kd.a0x HO466.out (fun _ hk => hk.2)), (qk_ BK444), qb_⟩)
                ·skip
                 refine Kd.a1z k26 _ 26 ?hg (N := 92) ?hd (xs := ([(⟨a0_0, a2, a3, a4⟩ : S26)] : List (S26))) (inner := [.int .i64 a0_0, .int .i64 a2, .int .i64 a3, .int .i64 a4]) (ok := fun _ => True) (okp := fun _ => True) ?hr ?hp (fun _ hk => hk) trivial (Below.refl _ _) (Nat.le_refl _) (by simp) ?_; (case hd => rfl); (case hg => rfl); (case hr => exact qq_); (case hp => exact (Reps.c4 (show Kd.M k26 _ _ _ (⟨a0_0, a2, a3, a4⟩ : S26) [.int .i64 a0_0, .int .i64 a2, .int .i64 a3, .int .i64 a4] from (a2o _ _ _ (⟨a0_0, a2, a3, a4⟩ : S26) )) (Reps.none _ _)))
                 intro v465 w64 ho65 hb hg_ hnew_
                 clear hg_ hnew_
                 (first | rw [← Ny464.out] at ho65 | (simp only [Int.reduceToNat] at ho65; rw [← Ny464.out] at ho65))
                 have HO466 := am_ (Kd.a1l ho65 (a0s qb_))
                 replace BK444 := qkb_ BK444 hb
                 replace HB := qbs_ hb
                 clear hb ho65
                 refine hK.out _ _ ⟨(bc_ BK444.out 0).trans rfl, (bc_ BK444.out 1).trans rfl, (bc_ BK444.out 2).trans rfl, (bc_ BK444.out 3).trans rfl, (bc_ BK444.out 4).trans rfl, (bc_ BK444.out 5).trans rfl⟩ (fun hHeld => ?_)
                 clear hK K
                 refine a1e (a' := ?_) ?_ ?_
                 rotate_left
                 ·show Act.put _ (some 92) _ = _
                  exact qp_
                 refine one_ (i := 1) (N := some 83) #[o_,o_,o_,i_,o_,o_,o_,o_,o_,o_,o_,i_,o_,i_,i_,i_,i_,i_,i_] rfl rfl (a1q HT_.out (by kernel_rfl)) (by decide) (fun K hK => ?_)
                 refine Kd.a1z k26 _ 26 ?hg (N := 83) ?hd (xs := ([] : List (S26))) (inner := []) (ok := fun _ => True) (okp := fun _ => True) ?hr ?hp (fun _ hk => hk) trivial (Below.refl _ _) (Nat.le_refl _) (by simp) ?_; (case hd => rfl); (case hg => rfl); (case hr => exact qq_); (case hp => exact (Reps.none _ _))
                 intro v459 w66 ho67 hb hg_ hnew_
                 clear hg_ hnew_
                 (first | rw [← Ny458.out] at ho67 | (simp only [Int.reduceToNat] at ho67; rw [← Ny458.out] at ho67))
                 have HO460 := am_ (Kd.a1l (Kd.a2d ho67 (Kd.R_lt (qr_ HO466))) (a0s qb_))
                 replace HO466 := qel_ HO466 ho67 hb
                 replace BK444 := qkb_ BK444 hb
                 replace HB := qbs_ hb
                 clear hb ho67
                 refine hK.out _ _ ⟨(bc_ BK444.out 0).trans rfl, (bc_ BK444.out 1).trans rfl, (bc_ BK444.out 2).trans rfl, (bc_ BK444.out 3).trans rfl, (bc_ BK444.out 4).trans rfl, (bc_ BK444.out 5).trans rfl⟩ (fun hHeld => ?_)
                 clear hK K
                 refine a1e (a' := ?_) ?_ ?_
                 rotate_left
                 ·show Act.put _ (some 83) _ = _
                  exact qp_
                 refine one_ (i := 3) (N := some 85) #[o_,o_,o_,o_,o_,o_,o_,o_,o_,o_,o_,i_,o_,i_,i_,i_,i_,i_,i_] rfl rfl (a1q HT_.out (by kernel_rfl)) (by decide) (fun K hK => ?_)
                 refine Kd.a1j k26 (w0 := w) w.heap.size (by rfl) (.tmp 83) (.tmp 84) 23 26 (.agg #[(.int .i64 0), (.int .i64 0), (.int .i64 0), (.int .i64 0)]) 32 rfl Try.underlying23 a2y rfl (by decide) (by omega) v459 y458 l1 _ _ _ (fun k_ => some k_ ≠ (v465 : Value).ownBlock) (fun _ => False) rfl rfl ?aO ?aR (fun _ _ h => h) (fun _ h => h.elim) ?aF ?aB ?aS ?aL ?_
                 (case aR => repeat (first | exact (Kd.a2w HR1.out HB.out) | (with_reducible refine Kd.a2h ?_ _) | (with_reducible refine Kd.a2i ?_ _) | (with_reducible refine Kd.a2p ?_)))
                 (case aB => exact qb_)
                 (case aF => exact (fun k_ hk => Kd.fresh' (Kd.R_lt (qr_ HO466)) k_ hk))
                 (case aO => exact (by (with_reducible repeat (first | apply Kd.a0m | apply Kd.a0n | apply Kd.a0p)); exact Kd.a0x HO460.out (fun _ hk => hk.2)))
                 (case aS => exact (a0s qb_))
                 (case aL => have := LMc46.out; omega)
                 intro v462 w68 ho hb hg hat
                 rw [← Ny461.out] at ho
                 replace BK444 := am_ (a1t (g := gb444) (o := .cells #[.int .i64 a0_0, .int .i64 a0_1, .int .i64 a0_2, .int .i64 a0_3, .int .i64 a0_4, .int .i64 a0_5] 30 (0, 0)) (qk_ BK444) hg (Kd.R_ne HO460.out BK444.out (by decide)))
                 replace HO466 := am_ (Kd.a3e (ok := (fun _ => True)) (qr_ HO466) hg hat)
                 replace HB := am_ (hb)
                 have HO463 := am_ (ho)
                 clear HO460 ho hb hg hat
                 refine hK.out _ _ ⟨(bc_ BK444.out 0).trans rfl, (bc_ BK444.out 1).trans rfl, (bc_ BK444.out 2).trans rfl, (bc_ BK444.out 3).trans rfl, (bc_ BK444.out 4).trans rfl, (bc_ BK444.out 5).trans rfl⟩ (fun hHeld => ?_)
                 clear hK K
                 refine a1e (a' := ?_) ?_ ?_
                 rotate_left
                 ·show Act.put _ (some 85) _ = _
                  exact qp_
                 exact a1e (by simp only [a2x, Act.put, List.setIfInBounds_toArray, List.set_cons_zero, List.set_cons_succ]) (hCont (v459, v462, v465) _ ⟨hHeld, (qr_ HO463), (by (with_reducible repeat (first | apply Kd.a0m | apply Kd.a0n | apply Kd.a0p)); exact Kd.a0x HO466.out (fun _ hk => hk.2)), (qk_ BK444), qb_⟩)
               rintro ⟨v459, v462, v465⟩ w69 ⟨hS_, h0_, h1_, h2_, h3_⟩
               have HO463 : Aside0 (Kd.R k26 26 w69 w.heap.size (fun k_ => some k_ ≠ (v465 : Value).ownBlock) v462 y461) := ⟨h0_⟩
               have HO466 : Aside0 (Kd.R k26 26 w69 w.heap.size (fun k_ => some k_ ≠ (v462 : Value).ownBlock) v465 y464) := ⟨h1_⟩
               replace BK444 : Aside0 (w69.heap[gb444]? = some (.cells #[.int .i64 a0_0, .int .i64 a0_1, .int .i64 a0_2, .int .i64 a0_3, .int .i64 a0_4, .int .i64 a0_5] 30 (0, 0))) := ⟨h2_⟩
               replace HB : Aside0 (Below w.heap.size w w69) := ⟨h3_⟩
               clear h0_ h1_ h2_ h3_
               have hHeld : w69.cell? ⟨gb444, 0, none⟩ = some (.int .i64 a0_0) ∧ w69.cell? ⟨gb444, 1, none⟩ = some (.int .i64 a0_1) ∧ w69.cell? ⟨gb444, 2, none⟩ = some (.int .i64 a0_2) ∧ w69.cell? ⟨gb444, 3, none⟩ = some (.int .i64 a0_3) ∧ w69.cell? ⟨gb444, 4, none⟩ = some (.int .i64 a0_4) ∧ w69.cell? ⟨gb444, 5, none⟩ = some (.int .i64 a0_5) := hS_
               obtain ⟨Ao71, co71, eo71⟩ := Kd.a1m HO466.out
               (first | subst eo71 | (injection eo71 with f1_ f2_ f3_; have f4_ := f1_.symm; have f5_ := f3_.symm; clear f1_ f2_ f3_; subst f4_; subst f5_))
               refine a1e (a' := ?_) ?_ ?_
               rotate_left
               ·simp only [a2x, Act.put, List.setIfInBounds_toArray, List.set_cons_zero, List.set_cons_succ]
                rfl
               refine one_ (i := 11) (N := some 93) #[o_,o_,o_,o_,o_,o_,o_,o_,o_,o_,o_,o_,o_,i_,i_,i_,i_,i_,i_] rfl rfl (a1q HT_.out (by kernel_rfl)) (by decide) (fun K hK => ?_)
               refine Kd.a1j k26 (w0 := w) w.heap.size (by rfl) (.tmp 85) (.tmp 92) 23 26 (.agg #[(.int .i64 0), (.int .i64 0), (.int .i64 0), (.int .i64 0)]) 32 rfl Try.underlying23 a2y rfl (by decide) (by omega) v462 y461 y464 _ _ _ (fun k_ => some k_ ≠ (.slice Ao71 y464.length co71 : Value).ownBlock) (fun _ => False) rfl rfl ?aO ?aR (fun _ _ h => h) (fun _ h => h.elim) ?aF ?aB ?aS ?aL ?_
               (case aR => repeat (first | exact (Kd.a0o HO466.out).2.2 | (with_reducible refine Kd.a2h ?_ _) | (with_reducible refine Kd.a2i ?_ _) | (with_reducible refine Kd.a2p ?_)))
               (case aB => exact qb_)
               (case aF => exact (fun k_ hk => Kd.fresh' (Kd.R_lt (qr_ HO466)) k_ hk))
               (case aO => exact (qr_ HO463))
               (case aS => exact (a0s qb_))
               (case aL => have := LMc47.out; omega)
               intro v468 w70 ho hb hg hat
               rw [← Ny467.out] at ho
               replace BK444 := am_ (a1t (g := gb444) (o := .cells #[.int .i64 a0_0, .int .i64 a0_1, .int .i64 a0_2, .int .i64 a0_3, .int .i64 a0_4, .int .i64 a0_5] 30 (0, 0)) (qk_ BK444) hg (Kd.R_ne HO463.out BK444.out (by decide)))
               replace HO466 := am_ (Kd.a3e (ok := (fun _ => True)) (by (with_reducible repeat (first | apply Kd.a0m | apply Kd.a0n | apply Kd.a0p)); exact Kd.a0x HO466.out (fun _ hk => ⟨trivial, hk⟩)) hg hat)
               replace HB := am_ (hb)
               have HO469 := am_ (ho)
               clear HO463 ho hb hg hat
               obtain ⟨Ao72, co72, eo72⟩ := Kd.a1m HO469.out
               (first | subst eo72 | (injection eo72 with f1_ f2_ f3_; have f4_ := f1_.symm; have f5_ := f3_.symm; clear f1_ f2_ f3_; subst f4_; subst f5_))
               refine hK.out _ _ ⟨(bc_ BK444.out 0).trans rfl, (bc_ BK444.out 1).trans rfl, (bc_ BK444.out 2).trans rfl, (bc_ BK444.out 3).trans rfl, (bc_ BK444.out 4).trans rfl, (bc_ BK444.out 5).trans rfl⟩ (fun hHeld => ?_)
               clear hK K
               refine a1e (a' := ?_) ?_ ?_
               rotate_left
               ·show Act.put _ (some 93) _ = _
                exact qp_
               refine one_ (i := 13) (N := some 95) #[o_,o_,o_,o_,o_,o_,o_,o_,o_,o_,o_,o_,o_,o_,i_,i_,i_,i_,i_] rfl rfl (a1q HT_.out (by kernel_rfl)) (by decide) (fun K hK => ?_)
               refine a4l Try.func9 (by kernel_rfl) rfl #[.agg #[.int .i64 a0_0, .int .i64 a0_1, .int .i64 a0_2, .int .i64 a0_3, .int .i64 a0_4, .int .i64 a0_5], .slice Ao72 y467.length co72, .int .i64 a4] (by rfl) rfl rfl ql_ ?_
               with_reducible refine (a0q.calls kj39 a0_0 a0_1 a0_2 a0_3 a0_4 a0_5 _ _ y467 a4 t470 t471 _ ?s1 ?s2 A48.out).mono ?_
               (case s1 => exact qv_ (Kd.a0o HO469.out).2.2)
               (case s2 => exact (Kd.a0o HO469.out).2.1)
               rintro e w73 ⟨rfl, hb⟩
               refine ⟨_, rfl, ?_⟩
               replace HO466 := qrb_ HO466 hb
               replace HO469 := qrb_ HO469 hb
               replace BK444 := qkb_ BK444 hb
               replace HB := qbs_ hb
               (try clear hb)
               (try clear hb2)
               (try clear hk)
               (try clear hi)
               refine hK.out _ _ ⟨(bc_ BK444.out 0).trans rfl, (bc_ BK444.out 1).trans rfl, (bc_ BK444.out 2).trans rfl, (bc_ BK444.out 3).trans rfl, (bc_ BK444.out 4).trans rfl, (bc_ BK444.out 5).trans rfl⟩ (fun hHeld => ?_)
               clear hK K
               refine a1e (a' := ?_) ?_ ?_
               rotate_left
               ·show Act.put _ (some 95) _ = _
                exact qp_
               refine qpu_ 14 (some 81) #[o_,o_,o_,o_,o_,o_,o_,o_,o_,o_,o_,o_,o_,o_,o_,i_,i_,i_,i_] ?_
               refine qpu_ 15 (some 96) #[o_,o_,o_,o_,o_,o_,o_,o_,o_,o_,o_,o_,o_,o_,o_,o_,i_,i_,i_] ?_
               refine qpu_ 16 (some 97) #[o_,o_,o_,o_,o_,o_,o_,o_,o_,o_,o_,o_,o_,o_,o_,o_,o_,i_,i_] ?_
               refine qpu_ 17 (some 19) #[o_,o_,o_,o_,o_,o_,o_,o_,o_,o_,o_,o_,o_,o_,o_,o_,o_,o_,i_] ?_
               refine qpu_ 18 (some 20) #[o_,o_,o_,o_,o_,o_,o_,o_,o_,o_,o_,o_,o_,o_,o_,o_,o_,o_,o_] ?_
               refine a3p (a2t HT_.out (by kernel_rfl)) ?_
               try go_wp2
               go_ret
               exact ⟨qx_, qb_⟩
             ·rw [if_neg c50] at H
              have c50b0 : (a2 == t446) = false := beq_eq_false_iff_ne.mpr c50
              have c50b1 : (a2 != t446) = true := bne_iff_ne.mpr c50
              by_cases c74 : t445 = true
              ·subst c74
               have H1 : (some (t470 == t446)) = some r := by rw [if_pos rfl] at H; exact H
               clear H
               have H := H1
               clear H1
               obtain rfl := si_ H
               try go_wp2
               replace BK444 := am_ (bd_ BK444.out)
               replace HB := am_ (ld_ HB.out)
               refine a3c (n := 19) (S := fun w' => w'.cell? ⟨gb444, 0, none⟩ = some (.int .i64 a0_0) ∧ w'.cell? ⟨gb444, 1, none⟩ = some (.int .i64 a0_1) ∧ w'.cell? ⟨gb444, 2, none⟩ = some (.int .i64 a0_2) ∧ w'.cell? ⟨gb444, 3, none⟩ = some (.int .i64 a0_3) ∧ w'.cell? ⟨gb444, 4, none⟩ = some (.int .i64 a0_4) ∧ w'.cell? ⟨gb444, 5, none⟩ = some (.int .i64 a0_5)) (ds := []) #[i_,i_,i_,i_,i_,i_,i_,i_,i_,i_,i_,i_,i_,i_,i_,i_,i_,i_,i_] (by kernel_rfl) rfl rfl ⟨(bc_ BK444.out 0).trans rfl, (bc_ BK444.out 1).trans rfl, (bc_ BK444.out 2).trans rfl, (bc_ BK444.out 3).trans rfl, (bc_ BK444.out 4).trans rfl, (bc_ BK444.out 5).trans rfl⟩ (fun hHeld => ?_); refine a2l a0e.a7o a0e.a6m (fun HT_ HW_ => ?_)
               generalize wc.drew = w75 at BK444 HB hHeld ⊢
               refine qpu_ 2 (some 84) #[i_,i_,o_,i_,i_,i_,i_,i_,i_,i_,i_,i_,i_,i_,i_,i_,i_,i_,i_] ?_
               refine qpu_ 4 (some 86) #[i_,i_,o_,i_,o_,i_,i_,i_,i_,i_,i_,i_,i_,i_,i_,i_,i_,i_,i_] ?_
               refine qpu_ 6 (some 88) #[i_,i_,o_,i_,o_,i_,o_,i_,i_,i_,i_,i_,i_,i_,i_,i_,i_,i_,i_] ?_
               refine qpu_ 7 (some 89) #[i_,i_,o_,i_,o_,i_,o_,o_,i_,i_,i_,i_,i_,i_,i_,i_,i_,i_,i_] ?_
               refine qpu_ 8 (some 90) #[i_,i_,o_,i_,o_,i_,o_,o_,o_,i_,i_,i_,i_,i_,i_,i_,i_,i_,i_] ?_
               refine qpu_ 12 (some 94) #[i_,i_,o_,i_,o_,i_,o_,o_,o_,i_,i_,i_,o_,i_,i_,i_,i_,i_,i_] ?_
               refine a2e (i := 0) (N := some 82) (v := ?_) (a' := ?_) #[o_,i_,o_,i_,o_,i_,o_,o_,o_,i_,i_,i_,o_,i_,i_,i_,i_,i_,i_] rfl rfl (a1p HT_.out HW_.out (by kernel_rfl)) (fun _ _ _ h => h) (Or.inl ⟨by rfl, ?_⟩) hHeld ?_ ?_
               rotate_left
               ·rintro w' ⟨s0, s1, s2, s3, s4, s5⟩
                go_simp
                with_reducible rfl
               rotate_left
               ·exact qp_
               refine a2e (i := 5) (N := some 87) (v := ?_) (a' := ?_) #[o_,i_,o_,i_,o_,o_,o_,o_,o_,i_,i_,i_,o_,i_,i_,i_,i_,i_,i_] rfl rfl (a1p HT_.out HW_.out (by kernel_rfl)) (fun _ _ _ h => h) (Or.inl ⟨by rfl, ?_⟩) hHeld ?_ ?_
               rotate_left
               ·rintro w' ⟨s0, s1, s2, s3, s4, s5⟩
                go_simp
                with_reducible rfl
               rotate_left
               ·exact qp_
               refine qpu_ 9 (some 91) #[o_,i_,o_,i_,o_,o_,o_,o_,o_,o_,i_,i_,o_,i_,i_,i_,i_,i_,i_] ?_
               refine a7m (σ := Value × Value × Value) 7 #[o_,o_,o_,o_,o_,o_,o_,o_,o_,o_,o_,i_,o_,i_,i_,i_,i_,i_,i_] (fun s_ => [(83, s_.1), (85, s_.2.1), (92, s_.2.2)]) (fun s_ w' => (w'.cell? ⟨gb444, 0, none⟩ = some (.int .i64 a0_0) ∧ w'.cell? ⟨gb444, 1, none⟩ = some (.int .i64 a0_1) ∧ w'.cell? ⟨gb444, 2, none⟩ = some (.int .i64 a0_2) ∧ w'.cell? ⟨gb444, 3, none⟩ = some (.int .i64 a0_3) ∧ w'.cell? ⟨gb444, 4, none⟩ = some (.int .i64 a0_4) ∧ w'.cell? ⟨gb444, 5, none⟩ = some (.int .i64 a0_5)) ∧ (Kd.R k26 26 w' w.heap.size (fun k_ => some k_ ≠ (s_.2.2 : Value).ownBlock) s_.2.1 y461) ∧ (Kd.R k26 26 w' w.heap.size (fun k_ => some k_ ≠ (s_.2.1 : Value).ownBlock) s_.2.2 y464) ∧ (w'.heap[gb444]? = some (.cells #[.int .i64 a0_0, .int .i64 a0_1, .int .i64 a0_2, .int .i64 a0_3, .int .i64 a0_4, .int .i64 a0_5] 30 (0, 0))) ∧ (Below w.heap.size w w')) ?_ ?_
               rotate_left
               ·intro hCont
                refine two_ (i := 1) (j := 10) (Ni := some 83) (Nj := some 92) #[o_,o_,o_,i_,o_,o_,o_,o_,o_,o_,i_,i_,o_,i_,i_,i_,i_,i_,i_] #[o_,i_,o_,i_,o_,o_,o_,o_,o_,o_,o_,i_,o_,i_,i_,i_,i_,i_,i_] rfl rfl rfl rfl (a4p HT_.out (by kernel_rfl)) (by decide) (by decide) (fun K hK => ?_) (fun K hK => ?_)
                ·skip
                 refine Kd.a1z k26 _ 26 ?hg (N := 83) ?hd (xs := ([] : List (S26))) (inner := []) (ok := fun _ => True) (okp := fun _ => True) ?hr ?hp (fun _ hk => hk) trivial (Below.refl _ _) (Nat.le_refl _) (by simp) ?_; (case hd => rfl); (case hg => rfl); (case hr => exact qq_); (case hp => exact (Reps.none _ _))
                 intro v459 w76 ho77 hb hg_ hnew_
                 clear hg_ hnew_
                 (first | rw [← Ny458.out] at ho77 | (simp only [Int.reduceToNat] at ho77; rw [← Ny458.out] at ho77))
                 have HO460 := am_ (Kd.a1l ho77 (a0s qb_))
                 replace BK444 := qkb_ BK444 hb
                 replace HB := qbs_ hb
                 clear hb ho77
                 refine hK.out _ _ ⟨(bc_ BK444.out 0).trans rfl, (bc_ BK444.out 1).trans rfl, (bc_ BK444.out 2).trans rfl, (bc_ BK444.out 3).trans rfl, (bc_ BK444.out 4).trans rfl, (bc_ BK444.out 5).trans rfl⟩ (fun hHeld => ?_)
                 clear hK K
                 refine a1e (a' := ?_) ?_ ?_
                 rotate_left
                 ·show Act.put _ (some 83) _ = _
                  exact qp_
                 refine two_ (i := 3) (j := 10) (Ni := some 85) (Nj := some 92) #[o_,o_,o_,o_,o_,o_,o_,o_,o_,o_,i_,i_,o_,i_,i_,i_,i_,i_,i_] #[o_,o_,o_,i_,o_,o_,o_,o_,o_,o_,o_,i_,o_,i_,i_,i_,i_,i_,i_] rfl rfl rfl rfl (a4p HT_.out (by kernel_rfl)) (by decide) (by decide) (fun K hK => ?_) (fun K hK => ?_)
                 ·skip
                  refine Kd.a1j k26 (w0 := w) w.heap.size (by rfl) (.tmp 83) (.tmp 84) 23 26 (.agg #[(.int .i64 0), (.int .i64 0), (.int .i64 0), (.int .i64 0)]) 32 rfl Try.underlying23 a2y rfl (by decide) (by omega) v459 y458 l1 _ _ _ (fun _ => True) (fun _ => False) rfl rfl ?aO ?aR (fun _ _ h => h) (fun _ h => h.elim) ?aF ?aB ?aS ?aL ?_
                  (case aR => repeat (first | exact (Kd.a2w HR1.out HB.out) | (with_reducible refine Kd.a2h ?_ _) | (with_reducible refine Kd.a2i ?_ _) | (with_reducible refine Kd.a2p ?_)))
                  (case aB => exact qb_)
                  (case aF => exact (fun _ _ => trivial))
                  (case aO => exact (qr_ HO460))
                  (case aS => exact (a0s qb_))
                  (case aL => have := LMc46.out; omega)
                  intro v462 w78 ho hb hg hat
                  rw [← Ny461.out] at ho
                  replace BK444 := am_ (a1t (g := gb444) (o := .cells #[.int .i64 a0_0, .int .i64 a0_1, .int .i64 a0_2, .int .i64 a0_3, .int .i64 a0_4, .int .i64 a0_5] 30 (0, 0)) (qk_ BK444) hg (Kd.R_ne HO460.out BK444.out (by decide)))
                  replace HB := am_ (hb)
                  have HO463 := am_ (ho)
                  clear HO460 ho hb hg hat
                  refine hK.out _ _ ⟨(bc_ BK444.out 0).trans rfl, (bc_ BK444.out 1).trans rfl, (bc_ BK444.out 2).trans rfl, (bc_ BK444.out 3).trans rfl, (bc_ BK444.out 4).trans rfl, (bc_ BK444.out 5).trans rfl⟩ (fun hHeld => ?_)
                  clear hK K
                  refine a1e (a' := ?_) ?_ ?_
                  rotate_left
                  ·show Act.put _ (some 85) _ = _
                   exact qp_
                  refine one_ (i := 10) (N := some 92) #[o_,o_,o_,o_,o_,o_,o_,o_,o_,o_,o_,i_,o_,i_,i_,i_,i_,i_,i_] rfl rfl (a1q HT_.out (by kernel_rfl)) (by decide) (fun K hK => ?_)
                  refine Kd.a1z k26 _ 26 ?hg (N := 92) ?hd (xs := ([(⟨a0_0, a2, a3, a4⟩ : S26)] : List (S26))) (inner := [.int .i64 a0_0, .int .i64 a2, .int .i64 a3, .int .i64 a4]) (ok := fun _ => True) (okp := fun _ => True) ?hr ?hp (fun _ hk => hk) trivial (Below.refl _ _) (Nat.le_refl _) (by simp) ?_; (case hd => rfl); (case hg => rfl); (case hr => exact qq_); (case hp => exact (Reps.c4 (show Kd.M k26 _ _ _ (⟨a0_0, a2, a3, a4⟩ : S26) [.int .i64 a0_0, .int .i64 a2, .int .i64 a3, .int .i64 a4] from (a2o _ _ _ (⟨a0_0, a2, a3, a4⟩ : S26) )) (Reps.none _ _)))
                  intro v465 w79 ho80 hb hg_ hnew_
                  clear hg_ hnew_
                  (first | rw [← Ny464.out] at ho80 | (simp only [Int.reduceToNat] at ho80; rw [← Ny464.out] at ho80))
                  have HO466 := am_ (Kd.a1l (Kd.a2d ho80 (Kd.R_lt (qr_ HO463))) (a0s qb_))
                  replace HO463 := qel_ HO463 ho80 hb
                  replace BK444 := qkb_ BK444 hb
                  replace HB := qbs_ hb
                  clear hb ho80
                  refine hK.out _ _ ⟨(bc_ BK444.out 0).trans rfl, (bc_ BK444.out 1).trans rfl, (bc_ BK444.out 2).trans rfl, (bc_ BK444.out 3).trans rfl, (bc_ BK444.out 4).trans rfl, (bc_ BK444.out 5).trans rfl⟩ (fun hHeld => ?_)
                  clear hK K
                  refine a1e (a' := ?_) ?_ ?_
                  rotate_left
                  ·show Act.put _ (some 92) _ = _
                   exact qp_
                  exact a1e (by simp only [a2x, Act.put, List.setIfInBounds_toArray, List.set_cons_zero, List.set_cons_succ]) (hCont (v459, v462, v465) _ ⟨hHeld, (by (with_reducible repeat (first | apply Kd.a0m | apply Kd.a0n | apply Kd.a0p)); exact Kd.a0x HO463.out (fun _ hk => hk.2)), (by (with_reducible repeat (first | apply Kd.a0m | apply Kd.a0n | apply Kd.a0p)); exact Kd.a0x HO466.out (fun _ hk => hk.2)), (qk_ BK444), qb_⟩)
                 ·skip
                  refine Kd.a1z k26 _ 26 ?hg (N := 92) ?hd (xs := ([(⟨a0_0, a2, a3, a4⟩ : S26)] : List (S26))) (inner := [.int .i64 a0_0, .int .i64 a2, .int .i64 a3, .int .i64 a4]) (ok := fun _ => True) (okp := fun _ => True) ?hr ?hp (fun _ hk => hk) trivial (Below.refl _ _) (Nat.le_refl _) (by simp) ?_; (case hd => rfl); (case hg => rfl); (case hr => exact qq_); (case hp => exact (Reps.c4 (show Kd.M k26 _ _ _ (⟨a0_0, a2, a3, a4⟩ : S26) [.int .i64 a0_0, .int .i64 a2, .int .i64 a3, .int .i64 a4] from (a2o _ _ _ (⟨a0_0, a2, a3, a4⟩ : S26) )) (Reps.none _ _)))
                  intro v465 w78 ho79 hb hg_ hnew_
                  clear hg_ hnew_
                  (first | rw [← Ny464.out] at ho79 | (simp only [Int.reduceToNat] at ho79; rw [← Ny464.out] at ho79))
                  have HO466 := am_ (Kd.a1l (Kd.a2d ho79 (Kd.R_lt (qr_ HO460))) (a0s qb_))
                  replace HO460 := qel_ HO460 ho79 hb
                  replace BK444 := qkb_ BK444 hb
                  replace HB := qbs_ hb
                  clear hb ho79
                  refine hK.out _ _ ⟨(bc_ BK444.out 0).trans rfl, (bc_ BK444.out 1).trans rfl, (bc_ BK444.out 2).trans rfl, (bc_ BK444.out 3).trans rfl, (bc_ BK444.out 4).trans rfl, (bc_ BK444.out 5).trans rfl⟩ (fun hHeld => ?_)
                  clear hK K
                  refine a1e (a' := ?_) ?_ ?_
                  rotate_left
                  ·show Act.put _ (some 92) _ = _
                   exact qp_
                  refine one_ (i := 3) (N := some 85) #[o_,o_,o_,o_,o_,o_,o_,o_,o_,o_,o_,i_,o_,i_,i_,i_,i_,i_,i_] rfl rfl (a1q HT_.out (by kernel_rfl)) (by decide) (fun K hK => ?_)
                  refine Kd.a1j k26 (w0 := w) w.heap.size (by rfl) (.tmp 83) (.tmp 84) 23 26 (.agg #[(.int .i64 0), (.int .i64 0), (.int .i64 0), (.int .i64 0)]) 32 rfl Try.underlying23 a2y rfl (by decide) (by omega) v459 y458 l1 _ _ _ (fun k_ => some k_ ≠ (v465 : Value).ownBlock) (fun _ => False) rfl rfl ?aO ?aR (fun _ _ h => h) (fun _ h => h.elim) ?aF ?aB ?aS ?aL ?_
                  (case aR => repeat (first | exact (Kd.a2w HR1.out HB.out) | (with_reducible refine Kd.a2h ?_ _) | (with_reducible refine Kd.a2i ?_ _) | (with_reducible refine Kd.a2p ?_)))
                  (case aB => exact qb_)
                  (case aF => exact (fun k_ hk => Kd.fresh' (Kd.R_lt (qr_ HO466)) k_ hk))
                  (case aO => exact (by (with_reducible repeat (first | apply Kd.a0m | apply Kd.a0n | apply Kd.a0p)); exact Kd.a0x HO460.out (fun _ hk => hk.2)))
                  (case aS => exact (a0s qb_))
                  (case aL => have := LMc46.out; omega)
                  intro v462 w80 ho hb hg hat
                  rw [← Ny461.out] at ho
                  replace BK444 := am_ (a1t (g := gb444) (o := .cells #[.int .i64 a0_0, .int .i64 a0_1, .int .i64 a0_2, .int .i64 a0_3, .int .i64 a0_4, .int .i64 a0_5] 30 (0, 0)) (qk_ BK444) hg (Kd.R_ne HO460.out BK444.out (by decide)))
                  replace HO466 := am_ (Kd.a3e (ok := (fun _ => True)) (qr_ HO466) hg hat)
                  replace HB := am_ (hb)
                  have HO463 := am_ (ho)
                  clear HO460 ho hb hg hat
                  refine hK.out _ _ ⟨(bc_ BK444.out 0).trans rfl, (bc_ BK444.out 1).trans rfl, (bc_ BK444.out 2).trans rfl, (bc_ BK444.out 3).trans rfl, (bc_ BK444.out 4).trans rfl, (bc_ BK444.out 5).trans rfl⟩ (fun hHeld => ?_)
                  clear hK K
                  refine a1e (a' := ?_) ?_ ?_
                  rotate_left
                  ·show Act.put _ (some 85) _ = _
                   exact qp_
                  exact a1e (by simp only [a2x, Act.put, List.setIfInBounds_toArray, List.set_cons_zero, List.set_cons_succ]) (hCont (v459, v462, v465) _ ⟨hHeld, (qr_ HO463), (by (with_reducible repeat (first | apply Kd.a0m | apply Kd.a0n | apply Kd.a0p)); exact Kd.a0x HO466.out (fun _ hk => hk.2)), (qk_ BK444), qb_⟩)
                ·skip
                 refine Kd.a1z k26 _ 26 ?hg (N := 92) ?hd (xs := ([(⟨a0_0, a2, a3, a4⟩ : S26)] : List (S26))) (inner := [.int .i64 a0_0, .int .i64 a2, .int .i64 a3, .int .i64 a4]) (ok := fun _ => True) (okp := fun _ => True) ?hr ?hp (fun _ hk => hk) trivial (Below.refl _ _) (Nat.le_refl _) (by simp) ?_; (case hd => rfl); (case hg => rfl); (case hr => exact qq_); (case hp => exact (Reps.c4 (show Kd.M k26 _ _ _ (⟨a0_0, a2, a3, a4⟩ : S26) [.int .i64 a0_0, .int .i64 a2, .int .i64 a3, .int .i64 a4] from (a2o _ _ _ (⟨a0_0, a2, a3, a4⟩ : S26) )) (Reps.none _ _)))
                 intro v465 w76 ho77 hb hg_ hnew_
                 clear hg_ hnew_
                 (first | rw [← Ny464.out] at ho77 | (simp only [Int.reduceToNat] at ho77; rw [← Ny464.out] at ho77))
                 have HO466 := am_ (Kd.a1l ho77 (a0s qb_))
                 replace BK444 := qkb_ BK444 hb
                 replace HB := qbs_ hb
                 clear hb ho77
                 refine hK.out _ _ ⟨(bc_ BK444.out 0).trans rfl, (bc_ BK444.out 1).trans rfl, (bc_ BK444.out 2).trans rfl, (bc_ BK444.out 3).trans rfl, (bc_ BK444.out 4).trans rfl, (bc_ BK444.out 5).trans rfl⟩ (fun hHeld => ?_)
                 clear hK K
                 refine a1e (a' := ?_) ?_ ?_
                 rotate_left
                 ·show Act.put _ (some 92) _ = _
                  exact qp_
                 refine one_ (i := 1) (N := some 83) #[o_,o_,o_,i_,o_,o_,o_,o_,o_,o_,o_,i_,o_,i_,i_,i_,i_,i_,i_] rfl rfl (a1q HT_.out (by kernel_rfl)) (by decide) (fun K hK => ?_)
                 refine Kd.a1z k26 _ 26 ?hg (N := 83) ?hd (xs := ([] : List (S26))) (inner := []) (ok := fun _ => True) (okp := fun _ => True) ?hr ?hp (fun _ hk => hk) trivial (Below.refl _ _) (Nat.le_refl _) (by simp) ?_; (case hd => rfl); (case hg => rfl); (case hr => exact qq_); (case hp => exact (Reps.none _ _))
                 intro v459 w78 ho79 hb hg_ hnew_
                 clear hg_ hnew_
                 (first | rw [← Ny458.out] at ho79 | (simp only [Int.reduceToNat] at ho79; rw [← Ny458.out] at ho79))
                 have HO460 := am_ (Kd.a1l (Kd.a2d ho79 (Kd.R_lt (qr_ HO466))) (a0s qb_))
                 replace HO466 := qel_ HO466 ho79 hb
                 replace BK444 := qkb_ BK444 hb
                 replace HB := qbs_ hb
                 clear hb ho79
                 refine hK.out _ _ ⟨(bc_ BK444.out 0).trans rfl, (bc_ BK444.out 1).trans rfl, (bc_ BK444.out 2).trans rfl, (bc_ BK444.out 3).trans rfl, (bc_ BK444.out 4).trans rfl, (bc_ BK444.out 5).trans rfl⟩ (fun hHeld => ?_)
                 clear hK K
                 refine a1e (a' := ?_) ?_ ?_
                 rotate_left
                 ·show Act.put _ (some 83) _ = _
                  exact qp_
                 refine one_ (i := 3) (N := some 85) #[o_,o_,o_,o_,o_,o_,o_,o_,o_,o_,o_,i_,o_,i_,i_,i_,i_,i_,i_] rfl rfl (a1q HT_.out (by kernel_rfl)) (by decide) (fun K hK => ?_)
                 refine Kd.a1j k26 (w0 := w) w.heap.size (by rfl) (.tmp 83) (.tmp 84) 23 26 (.agg #[(.int .i64 0), (.int .i64 0), (.int .i64 0), (.int .i64 0)]) 32 rfl Try.underlying23 a2y rfl (by decide) (by omega) v459 y458 l1 _ _ _ (fun k_ => some k_ ≠ (v465 : Value).ownBlock) (fun _ => False) rfl rfl ?aO ?aR (fun _ _ h => h) (fun _ h => h.elim) ?aF ?aB ?aS ?aL ?_
                 (case aR => repeat (first | exact (Kd.a2w HR1.out HB.out) | (with_reducible refine Kd.a2h ?_ _) | (with_reducible refine Kd.a2i ?_ _) | (with_reducible refine Kd.a2p ?_)))
                 (case aB => exact qb_)
                 (case aF => exact (fun k_ hk => Kd.fresh' (Kd.R_lt (qr_ HO466)) k_ hk))
                 (case aO => exact (by (with_reducible repeat (first | apply Kd.a0m | apply Kd.a0n | apply Kd.a0p)); exact Kd.a0x HO460.out (fun _ hk => hk.2)))
                 (case aS => exact (a0s qb_))
                 (case aL => have := LMc46.out; omega)
                 intro v462 w80 ho hb hg hat
                 rw [← Ny461.out] at ho
                 replace BK444 := am_ (a1t (g := gb444) (o := .cells #[.int .i64 a0_0, .int .i64 a0_1, .int .i64 a0_2, .int .i64 a0_3, .int .i64 a0_4, .int .i64 a0_5] 30 (0, 0)) (qk_ BK444) hg (Kd.R_ne HO460.out BK444.out (by decide)))
                 replace HO466 := am_ (Kd.a3e (ok := (fun _ => True)) (qr_ HO466) hg hat)
                 replace HB := am_ (hb)
                 have HO463 := am_ (ho)
                 clear HO460 ho hb hg hat
                 refine hK.out _ _ ⟨(bc_ BK444.out 0).trans rfl, (bc_ BK444.out 1).trans rfl, (bc_ BK444.out 2).trans rfl, (bc_ BK444.out 3).trans rfl, (bc_ BK444.out 4).trans rfl, (bc_ BK444.out 5).trans rfl⟩ (fun hHeld => ?_)
                 clear hK K
                 refine a1e (a' := ?_) ?_ ?_
                 rotate_left
                 ·show Act.put _ (some 85) _ = _
                  exact qp_
                 exact a1e (by simp only [a2x, Act.put, List.setIfInBounds_toArray, List.set_cons_zero, List.set_cons_succ]) (hCont (v459, v462, v465) _ ⟨hHeld, (qr_ HO463), (by (with_reducible repeat (first | apply Kd.a0m | apply Kd.a0n | apply Kd.a0p)); exact Kd.a0x HO466.out (fun _ hk => hk.2)), (qk_ BK444), qb_⟩)
               rintro ⟨v459, v462, v465⟩ w81 ⟨hS_, h0_, h1_, h2_, h3_⟩
               have HO463 : Aside0 (Kd.R k26 26 w81 w.heap.size (fun k_ => some k_ ≠ (v465 : Value).ownBlock) v462 y461) := ⟨h0_⟩
               have HO466 : Aside0 (Kd.R k26 26 w81 w.heap.size (fun k_ => some k_ ≠ (v462 : Value).ownBlock) v465 y464) := ⟨h1_⟩
               replace BK444 : Aside0 (w81.heap[gb444]? = some (.cells #[.int .i64 a0_0, .int .i64 a0_1, .int .i64 a0_2, .int .i64 a0_3, .int .i64 a0_4, .int .i64 a0_5] 30 (0, 0))) := ⟨h2_⟩
               replace HB : Aside0 (Below w.heap.size w w81) := ⟨h3_⟩
               clear h0_ h1_ h2_ h3_
               have hHeld : w81.cell? ⟨gb444, 0, none⟩ = some (.int .i64 a0_0) ∧ w81.cell? ⟨gb444, 1, none⟩ = some (.int .i64 a0_1) ∧ w81.cell? ⟨gb444, 2, none⟩ = some (.int .i64 a0_2) ∧ w81.cell? ⟨gb444, 3, none⟩ = some (.int .i64 a0_3) ∧ w81.cell? ⟨gb444, 4, none⟩ = some (.int .i64 a0_4) ∧ w81.cell? ⟨gb444, 5, none⟩ = some (.int .i64 a0_5) := hS_
               obtain ⟨Ao83, co83, eo83⟩ := Kd.a1m HO466.out
               (first | subst eo83 | (injection eo83 with f1_ f2_ f3_; have f4_ := f1_.symm; have f5_ := f3_.symm; clear f1_ f2_ f3_; subst f4_; subst f5_))
               refine a1e (a' := ?_) ?_ ?_
               rotate_left
               ·simp only [a2x, Act.put, List.setIfInBounds_toArray, List.set_cons_zero, List.set_cons_succ]
                rfl
               refine one_ (i := 11) (N := some 93) #[o_,o_,o_,o_,o_,o_,o_,o_,o_,o_,o_,o_,o_,i_,i_,i_,i_,i_,i_] rfl rfl (a1q HT_.out (by kernel_rfl)) (by decide) (fun K hK => ?_)
               refine Kd.a1j k26 (w0 := w) w.heap.size (by rfl) (.tmp 85) (.tmp 92) 23 26 (.agg #[(.int .i64 0), (.int .i64 0), (.int .i64 0), (.int .i64 0)]) 32 rfl Try.underlying23 a2y rfl (by decide) (by omega) v462 y461 y464 _ _ _ (fun k_ => some k_ ≠ (.slice Ao83 y464.length co83 : Value).ownBlock) (fun _ => False) rfl rfl ?aO ?aR (fun _ _ h => h) (fun _ h => h.elim) ?aF ?aB ?aS ?aL ?_
               (case aR => repeat (first | exact (Kd.a0o HO466.out).2.2 | (with_reducible refine Kd.a2h ?_ _) | (with_reducible refine Kd.a2i ?_ _) | (with_reducible refine Kd.a2p ?_)))
               (case aB => exact qb_)
               (case aF => exact (fun k_ hk => Kd.fresh' (Kd.R_lt (qr_ HO466)) k_ hk))
               (case aO => exact (qr_ HO463))
               (case aS => exact (a0s qb_))
               (case aL => have := LMc47.out; omega)
               intro v468 w82 ho hb hg hat
               rw [← Ny467.out] at ho
               replace BK444 := am_ (a1t (g := gb444) (o := .cells #[.int .i64 a0_0, .int .i64 a0_1, .int .i64 a0_2, .int .i64 a0_3, .int .i64 a0_4, .int .i64 a0_5] 30 (0, 0)) (qk_ BK444) hg (Kd.R_ne HO463.out BK444.out (by decide)))
               replace HO466 := am_ (Kd.a3e (ok := (fun _ => True)) (by (with_reducible repeat (first | apply Kd.a0m | apply Kd.a0n | apply Kd.a0p)); exact Kd.a0x HO466.out (fun _ hk => ⟨trivial, hk⟩)) hg hat)
               replace HB := am_ (hb)
               have HO469 := am_ (ho)
               clear HO463 ho hb hg hat
               obtain ⟨Ao84, co84, eo84⟩ := Kd.a1m HO469.out
               (first | subst eo84 | (injection eo84 with f1_ f2_ f3_; have f4_ := f1_.symm; have f5_ := f3_.symm; clear f1_ f2_ f3_; subst f4_; subst f5_))
               refine hK.out _ _ ⟨(bc_ BK444.out 0).trans rfl, (bc_ BK444.out 1).trans rfl, (bc_ BK444.out 2).trans rfl, (bc_ BK444.out 3).trans rfl, (bc_ BK444.out 4).trans rfl, (bc_ BK444.out 5).trans rfl⟩ (fun hHeld => ?_)
               clear hK K
               refine a1e (a' := ?_) ?_ ?_
               rotate_left
               ·show Act.put _ (some 93) _ = _
                exact qp_
               refine one_ (i := 13) (N := some 95) #[o_,o_,o_,o_,o_,o_,o_,o_,o_,o_,o_,o_,o_,o_,i_,i_,i_,i_,i_] rfl rfl (a1q HT_.out (by kernel_rfl)) (by decide) (fun K hK => ?_)
               refine a4l Try.func9 (by kernel_rfl) rfl #[.agg #[.int .i64 a0_0, .int .i64 a0_1, .int .i64 a0_2, .int .i64 a0_3, .int .i64 a0_4, .int .i64 a0_5], .slice Ao84 y467.length co84, .int .i64 a4] (by rfl) rfl rfl ql_ ?_
               with_reducible refine (a0q.calls kj39 a0_0 a0_1 a0_2 a0_3 a0_4 a0_5 _ _ y467 a4 t470 t471 _ ?s1 ?s2 A48.out).mono ?_
               (case s1 => exact qv_ (Kd.a0o HO469.out).2.2)
               (case s2 => exact (Kd.a0o HO469.out).2.1)
               rintro e w85 ⟨rfl, hb⟩
               refine ⟨_, rfl, ?_⟩
               replace HO466 := qrb_ HO466 hb
               replace HO469 := qrb_ HO469 hb
               replace BK444 := qkb_ BK444 hb
               replace HB := qbs_ hb
               (try clear hb)
               (try clear hb2)
               (try clear hk)
               (try clear hi)
               refine hK.out _ _ ⟨(bc_ BK444.out 0).trans rfl, (bc_ BK444.out 1).trans rfl, (bc_ BK444.out 2).trans rfl, (bc_ BK444.out 3).trans rfl, (bc_ BK444.out 4).trans rfl, (bc_ BK444.out 5).trans rfl⟩ (fun hHeld => ?_)
               clear hK K
               refine a1e (a' := ?_) ?_ ?_
               rotate_left
               ·show Act.put _ (some 95) _ = _
                exact qp_
               refine qpu_ 14 (some 81) #[o_,o_,o_,o_,o_,o_,o_,o_,o_,o_,o_,o_,o_,o_,o_,i_,i_,i_,i_] ?_
               refine qpu_ 15 (some 96) #[o_,o_,o_,o_,o_,o_,o_,o_,o_,o_,o_,o_,o_,o_,o_,o_,i_,i_,i_] ?_
               refine qpu_ 16 (some 97) #[o_,o_,o_,o_,o_,o_,o_,o_,o_,o_,o_,o_,o_,o_,o_,o_,o_,i_,i_] ?_
               refine qpu_ 17 (some 19) #[o_,o_,o_,o_,o_,o_,o_,o_,o_,o_,o_,o_,o_,o_,o_,o_,o_,o_,i_] ?_
               refine qpu_ 18 (some 20) #[o_,o_,o_,o_,o_,o_,o_,o_,o_,o_,o_,o_,o_,o_,o_,o_,o_,o_,o_] ?_
               refine a3p (a2t HT_.out (by kernel_rfl)) ?_
               try go_wp2
               go_ret
               exact ⟨qx_, qb_⟩
              ·replace c74 := be_ c74
               subst c74
               have H1 : (some false) = some r := by rw [if_neg (show ¬ (false = true) by decide)] at H; exact H
               clear H
               have H := H1
               clear H1
               obtain rfl := si_ H
               try go_wp2
               replace BK444 := am_ (bd_ BK444.out)
               replace HB := am_ (ld_ HB.out)
               refine a3c (n := 19) (S := fun w' => w'.cell? ⟨gb444, 0, none⟩ = some (.int .i64 a0_0) ∧ w'.cell? ⟨gb444, 1, none⟩ = some (.int .i64 a0_1) ∧ w'.cell? ⟨gb444, 2, none⟩ = some (.int .i64 a0_2) ∧ w'.cell? ⟨gb444, 3, none⟩ = some (.int .i64 a0_3) ∧ w'.cell? ⟨gb444, 4, none⟩ = some (.int .i64 a0_4) ∧ w'.cell? ⟨gb444, 5, none⟩ = some (.int .i64 a0_5)) (ds := []) #[i_,i_,i_,i_,i_,i_,i_,i_,i_,i_,i_,i_,i_,i_,i_,i_,i_,i_,i_] (by kernel_rfl) rfl rfl ⟨(bc_ BK444.out 0).trans rfl, (bc_ BK444.out 1).trans rfl, (bc_ BK444.out 2).trans rfl, (bc_ BK444.out 3).trans rfl, (bc_ BK444.out 4).trans rfl, (bc_ BK444.out 5).trans rfl⟩ (fun hHeld => ?_); refine a2l a0e.a7o a0e.a6m (fun HT_ HW_ => ?_)
               generalize wc.drew = w86 at BK444 HB hHeld ⊢
               refine qpu_ 2 (some 84) #[i_,i_,o_,i_,i_,i_,i_,i_,i_,i_,i_,i_,i_,i_,i_,i_,i_,i_,i_] ?_
               refine qpu_ 4 (some 86) #[i_,i_,o_,i_,o_,i_,i_,i_,i_,i_,i_,i_,i_,i_,i_,i_,i_,i_,i_] ?_
               refine qpu_ 6 (some 88) #[i_,i_,o_,i_,o_,i_,o_,i_,i_,i_,i_,i_,i_,i_,i_,i_,i_,i_,i_] ?_
               refine qpu_ 7 (some 89) #[i_,i_,o_,i_,o_,i_,o_,o_,i_,i_,i_,i_,i_,i_,i_,i_,i_,i_,i_] ?_
               refine qpu_ 8 (some 90) #[i_,i_,o_,i_,o_,i_,o_,o_,o_,i_,i_,i_,i_,i_,i_,i_,i_,i_,i_] ?_
               refine qpu_ 12 (some 94) #[i_,i_,o_,i_,o_,i_,o_,o_,o_,i_,i_,i_,o_,i_,i_,i_,i_,i_,i_] ?_
               refine a2e (i := 0) (N := some 82) (v := ?_) (a' := ?_) #[o_,i_,o_,i_,o_,i_,o_,o_,o_,i_,i_,i_,o_,i_,i_,i_,i_,i_,i_] rfl rfl (a1p HT_.out HW_.out (by kernel_rfl)) (fun _ _ _ h => h) (Or.inl ⟨by rfl, ?_⟩) hHeld ?_ ?_
               rotate_left
               ·rintro w' ⟨s0, s1, s2, s3, s4, s5⟩
                go_simp
                with_reducible rfl
               rotate_left
               ·exact qp_
               refine a2e (i := 5) (N := some 87) (v := ?_) (a' := ?_) #[o_,i_,o_,i_,o_,o_,o_,o_,o_,i_,i_,i_,o_,i_,i_,i_,i_,i_,i_] rfl rfl (a1p HT_.out HW_.out (by kernel_rfl)) (fun _ _ _ h => h) (Or.inl ⟨by rfl, ?_⟩) hHeld ?_ ?_
               rotate_left
               ·rintro w' ⟨s0, s1, s2, s3, s4, s5⟩
                go_simp
                with_reducible rfl
               rotate_left
               ·exact qp_
               refine qpu_ 9 (some 91) #[o_,i_,o_,i_,o_,o_,o_,o_,o_,o_,i_,i_,o_,i_,i_,i_,i_,i_,i_] ?_
               refine a7m (σ := Value × Value × Value) 7 #[o_,o_,o_,o_,o_,o_,o_,o_,o_,o_,o_,i_,o_,i_,i_,i_,i_,i_,i_] (fun s_ => [(83, s_.1), (85, s_.2.1), (92, s_.2.2)]) (fun s_ w' => (w'.cell? ⟨gb444, 0, none⟩ = some (.int .i64 a0_0) ∧ w'.cell? ⟨gb444, 1, none⟩ = some (.int .i64 a0_1) ∧ w'.cell? ⟨gb444, 2, none⟩ = some (.int .i64 a0_2) ∧ w'.cell? ⟨gb444, 3, none⟩ = some (.int .i64 a0_3) ∧ w'.cell? ⟨gb444, 4, none⟩ = some (.int .i64 a0_4) ∧ w'.cell? ⟨gb444, 5, none⟩ = some (.int .i64 a0_5)) ∧ (Kd.R k26 26 w' w.heap.size (fun k_ => some k_ ≠ (s_.2.2 : Value).ownBlock) s_.2.1 y461) ∧ (Kd.R k26 26 w' w.heap.size (fun k_ => some k_ ≠ (s_.2.1 : Value).ownBlock) s_.2.2 y464) ∧ (w'.heap[gb444]? = some (.cells #[.int .i64 a0_0, .int .i64 a0_1, .int .i64 a0_2, .int .i64 a0_3, .int .i64 a0_4, .int .i64 a0_5] 30 (0, 0))) ∧ (Below w.heap.size w w')) ?_ ?_
               rotate_left
               ·intro hCont
                refine two_ (i := 1) (j := 10) (Ni := some 83) (Nj := some 92) #[o_,o_,o_,i_,o_,o_,o_,o_,o_,o_,i_,i_,o_,i_,i_,i_,i_,i_,i_] #[o_,i_,o_,i_,o_,o_,o_,o_,o_,o_,o_,i_,o_,i_,i_,i_,i_,i_,i_] rfl rfl rfl rfl (a4p HT_.out (by kernel_rfl)) (by decide) (by decide) (fun K hK => ?_) (fun K hK => ?_)
                ·skip
                 refine Kd.a1z k26 _ 26 ?hg (N := 83) ?hd (xs := ([] : List (S26))) (inner := []) (ok := fun _ => True) (okp := fun _ => True) ?hr ?hp (fun _ hk => hk) trivial (Below.refl _ _) (Nat.le_refl _) (by simp) ?_; (case hd => rfl); (case hg => rfl); (case hr => exact qq_); (case hp => exact (Reps.none _ _))
                 intro v459 w87 ho88 hb hg_ hnew_
                 clear hg_ hnew_
                 (first | rw [← Ny458.out] at ho88 | (simp only [Int.reduceToNat] at ho88; rw [← Ny458.out] at ho88))
                 have HO460 := am_ (Kd.a1l ho88 (a0s qb_))
                 replace BK444 := qkb_ BK444 hb
                 replace HB := qbs_ hb
                 clear hb ho88
                 refine hK.out _ _ ⟨(bc_ BK444.out 0).trans rfl, (bc_ BK444.out 1).trans rfl, (bc_ BK444.out 2).trans rfl, (bc_ BK444.out 3).trans rfl, (bc_ BK444.out 4).trans rfl, (bc_ BK444.out 5).trans rfl⟩ (fun hHeld => ?_)
                 clear hK K
                 refine a1e (a' := ?_) ?_ ?_
                 rotate_left
                 ·show Act.put _ (some 83) _ = _
                  exact qp_
                 refine two_ (i := 3) (j := 10) (Ni := some 85) (Nj := some 92) #[o_,o_,o_,o_,o_,o_,o_,o_,o_,o_,i_,i_,o_,i_,i_,i_,i_,i_,i_] #[o_,o_,o_,i_,o_,o_,o_,o_,o_,o_,o_,i_,o_,i_,i_,i_,i_,i_,i_] rfl rfl rfl rfl (a4p HT_.out (by kernel_rfl)) (by decide) (by decide) (fun K hK => ?_) (fun K hK => ?_)
                 ·skip
                  refine Kd.a1j k26 (w0 := w) w.heap.size (by rfl) (.tmp 83) (.tmp 84) 23 26 (.agg #[(.int .i64 0), (.int .i64 0), (.int .i64 0), (.int .i64 0)]) 32 rfl Try.underlying23 a2y rfl (by decide) (by omega) v459 y458 l1 _ _ _ (fun _ => True) (fun _ => False) rfl rfl ?aO ?aR (fun _ _ h => h) (fun _ h => h.elim) ?aF ?aB ?aS ?aL ?_
                  (case aR => repeat (first | exact (Kd.a2w HR1.out HB.out) | (with_reducible refine Kd.a2h ?_ _) | (with_reducible refine Kd.a2i ?_ _) | (with_reducible refine Kd.a2p ?_)))
                  (case aB => exact qb_)
                  (case aF => exact (fun _ _ => trivial))
                  (case aO => exact (qr_ HO460))
                  (case aS => exact (a0s qb_))
                  (case aL => have := LMc46.out; omega)
                  intro v462 w89 ho hb hg hat
                  rw [← Ny461.out] at ho
                  replace BK444 := am_ (a1t (g := gb444) (o := .cells #[.int .i64 a0_0, .int .i64 a0_1, .int .i64 a0_2, .int .i64 a0_3, .int .i64 a0_4, .int .i64 a0_5] 30 (0, 0)) (qk_ BK444) hg (Kd.R_ne HO460.out BK444.out (by decide)))
                  replace HB := am_ (hb)
                  have HO463 := am_ (ho)
                  clear HO460 ho hb hg hat
                  refine hK.out _ _ ⟨(bc_ BK444.out 0).trans rfl, (bc_ BK444.out 1).trans rfl, (bc_ BK444.out 2).trans rfl, (bc_ BK444.out 3).trans rfl, (bc_ BK444.out 4).trans rfl, (bc_ BK444.out 5).trans rfl⟩ (fun hHeld => ?_)
                  clear hK K
                  refine a1e (a' := ?_) ?_ ?_
                  rotate_left
                  ·show Act.put _ (some 85) _ = _
                   exact qp_
                  refine one_ (i := 10) (N := some 92) #[o_,o_,o_,o_,o_,o_,o_,o_,o_,o_,o_,i_,o_,i_,i_,i_,i_,i_,i_] rfl rfl (a1q HT_.out (by kernel_rfl)) (by decide) (fun K hK => ?_)
                  refine Kd.a1z k26 _ 26 ?hg (N := 92) ?hd (xs := ([(⟨a0_0, a2, a3, a4⟩ : S26)] : List (S26))) (inner := [.int .i64 a0_0, .int .i64 a2, .int .i64 a3, .int .i64 a4]) (ok := fun _ => True) (okp := fun _ => True) ?hr ?hp (fun _ hk => hk) trivial (Below.refl _ _) (Nat.le_refl _) (by simp) ?_; (case hd => rfl); (case hg => rfl); (case hr => exact qq_); (case hp => exact (Reps.c4 (show Kd.M k26 _ _ _ (⟨a0_0, a2, a3, a4⟩ : S26) [.int .i64 a0_0, .int .i64 a2, .int .i64 a3, .int .i64 a4] from (a2o _ _ _ (⟨a0_0, a2, a3, a4⟩ : S26) )) (Reps.none _ _)))
                  intro v465 w90 ho91 hb hg_ hnew_
                  clear hg_ hnew_
                  (first | rw [← Ny464.out] at ho91 | (simp only [Int.reduceToNat] at ho91; rw [← Ny464.out] at ho91))
                  have HO466 := am_ (Kd.a1l (Kd.a2d ho91 (Kd.R_lt (qr_ HO463))) (a0s qb_))
                  replace HO463 := qel_ HO463 ho91 hb
                  replace BK444 := qkb_ BK444 hb
                  replace HB := qbs_ hb
                  clear hb ho91
                  refine hK.out _ _ ⟨(bc_ BK444.out 0).trans rfl, (bc_ BK444.out 1).trans rfl, (bc_ BK444.out 2).trans rfl, (bc_ BK444.out 3).trans rfl, (bc_ BK444.out 4).trans rfl, (bc_ BK444.out 5).trans rfl⟩ (fun hHeld => ?_)
                  clear hK K
                  refine a1e (a' := ?_) ?_ ?_
                  rotate_left
                  ·show Act.put _ (some 92) _ = _
                   exact qp_
                  exact a1e (by simp only [a2x, Act.put, List.setIfInBounds_toArray, List.set_cons_zero, List.set_cons_succ]) (hCont (v459, v462, v465) _ ⟨hHeld, (by (with_reducible repeat (first | apply Kd.a0m | apply Kd.a0n | apply Kd.a0p)); exact Kd.a0x HO463.out (fun _ hk => hk.2)), (by (with_reducible repeat (first | apply Kd.a0m | apply Kd.a0n | apply Kd.a0p)); exact Kd.a0x HO466.out (fun _ hk => hk.2)), (qk_ BK444), qb_⟩)
                 ·skip
                  refine Kd.a1z k26 _ 26 ?hg (N := 92) ?hd (xs := ([(⟨a0_0, a2, a3, a4⟩ : S26)] : List (S26))) (inner := [.int .i64 a0_0, .int .i64 a2, .int .i64 a3, .int .i64 a4]) (ok := fun _ => True) (okp := fun _ => True) ?hr ?hp (fun _ hk => hk) trivial (Below.refl _ _) (Nat.le_refl _) (by simp) ?_; (case hd => rfl); (case hg => rfl); (case hr => exact qq_); (case hp => exact (Reps.c4 (show Kd.M k26 _ _ _ (⟨a0_0, a2, a3, a4⟩ : S26) [.int .i64 a0_0, .int .i64 a2, .int .i64 a3, .int .i64 a4] from (a2o _ _ _ (⟨a0_0, a2, a3, a4⟩ : S26) )) (Reps.none _ _)))
                  intro v465 w89 ho90 hb hg_ hnew_
                  clear hg_ hnew_
                  (first | rw [← Ny464.out] at ho90 | (simp only [Int.reduceToNat] at ho90; rw [← Ny464.out] at ho90))
                  have HO466 := am_ (Kd.a1l (Kd.a2d ho90 (Kd.R_lt (qr_ HO460))) (a0s qb_))
                  replace HO460 := qel_ HO460 ho90 hb
                  replace BK444 := qkb_ BK444 hb
                  replace HB := qbs_ hb
                  clear hb ho90
                  refine hK.out _ _ ⟨(bc_ BK444.out 0).trans rfl, (bc_ BK444.out 1).trans rfl, (bc_ BK444.out 2).trans rfl, (bc_ BK444.out 3).trans rfl, (bc_ BK444.out 4).trans rfl, (bc_ BK444.out 5).trans rfl⟩ (fun hHeld => ?_)
                  clear hK K
                  refine a1e (a' := ?_) ?_ ?_
                  rotate_left
                  ·show Act.put _ (some 92) _ = _
                   exact qp_
                  refine one_ (i := 3) (N := some 85) #[o_,o_,o_,o_,o_,o_,o_,o_,o_,o_,o_,i_,o_,i_,i_,i_,i_,i_,i_] rfl rfl (a1q HT_.out (by kernel_rfl)) (by decide) (fun K hK => ?_)
                  refine Kd.a1j k26 (w0 := w) w.heap.size (by rfl) (.tmp 83) (.tmp 84) 23 26 (.agg #[(.int .i64 0), (.int .i64 0), (.int .i64 0), (.int .i64 0)]) 32 rfl Try.underlying23 a2y rfl (by decide) (by omega) v459 y458 l1 _ _ _ (fun k_ => some k_ ≠ (v465 : Value).ownBlock) (fun _ => False) rfl rfl ?aO ?aR (fun _ _ h => h) (fun _ h => h.elim) ?aF ?aB ?aS ?aL ?_
                  (case aR => repeat (first | exact (Kd.a2w HR1.out HB.out) | (with_reducible refine Kd.a2h ?_ _) | (with_reducible refine Kd.a2i ?_ _) | (with_reducible refine Kd.a2p ?_)))
                  (case aB => exact qb_)
                  (case aF => exact (fun k_ hk => Kd.fresh' (Kd.R_lt (qr_ HO466)) k_ hk))
                  (case aO => exact (by (with_reducible repeat (first | apply Kd.a0m | apply Kd.a0n | apply Kd.a0p)); exact Kd.a0x HO460.out (fun _ hk => hk.2)))
                  (case aS => exact (a0s qb_))
                  (case aL => have := LMc46.out; omega)
                  intro v462 w91 ho hb hg hat
                  rw [← Ny461.out] at ho
                  replace BK444 := am_ (a1t (g := gb444) (o := .cells #[.int .i64 a0_0, .int .i64 a0_1, .int .i64 a0_2, .int .i64 a0_3, .int .i64 a0_4, .int .i64 a0_5] 30 (0, 0)) (qk_ BK444) hg (Kd.R_ne HO460.out BK444.out (by decide)))
                  replace HO466 := am_ (Kd.a3e (ok := (fun _ => True)) (qr_ HO466) hg hat)
                  replace HB := am_ (hb)
                  have HO463 := am_ (ho)
                  clear HO460 ho hb hg hat
                  refine hK.out _ _ ⟨(bc_ BK444.out 0).trans rfl, (bc_ BK444.out 1).trans rfl, (bc_ BK444.out 2).trans rfl, (bc_ BK444.out 3).trans rfl, (bc_ BK444.out 4).trans rfl, (bc_ BK444.out 5).trans rfl⟩ (fun hHeld => ?_)
                  clear hK K
                  refine a1e (a' := ?_) ?_ ?_
                  rotate_left
                  ·show Act.put _ (some 85) _ = _
                   exact qp_
                  exact a1e (by simp only [a2x, Act.put, List.setIfInBounds_toArray, List.set_cons_zero, List.set_cons_succ]) (hCont (v459, v462, v465) _ ⟨hHeld, (qr_ HO463), (by (with_reducible repeat (first | apply Kd.a0m | apply Kd.a0n | apply Kd.a0p)); exact Kd.a0x HO466.out (fun _ hk => hk.2)), (qk_ BK444), qb_⟩)
                ·skip
                 refine Kd.a1z k26 _ 26 ?hg (N := 92) ?hd (xs := ([(⟨a0_0, a2, a3, a4⟩ : S26)] : List (S26))) (inner := [.int .i64 a0_0, .int .i64 a2, .int .i64 a3, .int .i64 a4]) (ok := fun _ => True) (okp := fun _ => True) ?hr ?hp (fun _ hk => hk) trivial (Below.refl _ _) (Nat.le_refl _) (by simp) ?_; (case hd => rfl); (case hg => rfl); (case hr => exact qq_); (case hp => exact (Reps.c4 (show Kd.M k26 _ _ _ (⟨a0_0, a2, a3, a4⟩ : S26) [.int .i64 a0_0, .int .i64 a2, .int .i64 a3, .int .i64 a4] from (a2o _ _ _ (⟨a0_0, a2, a3, a4⟩ : S26) )) (Reps.none _ _)))
                 intro v465 w87 ho88 hb hg_ hnew_
                 clear hg_ hnew_
                 (first | rw [← Ny464.out] at ho88 | (simp only [Int.reduceToNat] at ho88; rw [← Ny464.out] at ho88))
                 have HO466 := am_ (Kd.a1l ho88 (a0s qb_))
                 replace BK444 := qkb_ BK444 hb
                 replace HB := qbs_ hb
                 clear hb ho88
                 refine hK.out _ _ ⟨(bc_ BK444.out 0).trans rfl, (bc_ BK444.out 1).trans rfl, (bc_ BK444.out 2).trans rfl, (bc_ BK444.out 3).trans rfl, (bc_ BK444.out 4).trans rfl, (bc_ BK444.out 5).trans rfl⟩ (fun hHeld => ?_)
                 clear hK K
                 refine a1e (a' := ?_) ?_ ?_
                 rotate_left
                 ·show Act.put _ (some 92) _ = _
                  exact qp_
                 refine one_ (i := 1) (N := some 83) #[o_,o_,o_,i_,o_,o_,o_,o_,o_,o_,o_,i_,o_,i_,i_,i_,i_,i_,i_] rfl rfl (a1q HT_.out (by kernel_rfl)) (by decide) (fun K hK => ?_)
                 refine Kd.a1z k26 _ 26 ?hg (N := 83) ?hd (xs := ([] : List (S26))) (inner := []) (ok := fun _ => True) (okp := fun _ => True) ?hr ?hp (fun _ hk => hk) trivial (Below.refl _ _) (Nat.le_refl _) (by simp) ?_; (case hd => rfl); (case hg => rfl); (case hr => exact qq_); (case hp => exact (Reps.none _ _))
                 intro v459 w89 ho90 hb hg_ hnew_
                 clear hg_ hnew_
                 (first | rw [← Ny458.out] at ho90 | (simp only [Int.reduceToNat] at ho90; rw [← Ny458.out] at ho90))
                 have HO460 := am_ (Kd.a1l (Kd.a2d ho90 (Kd.R_lt (qr_ HO466))) (a0s qb_))
                 replace HO466 := qel_ HO466 ho90 hb
                 replace BK444 := qkb_ BK444 hb
                 replace HB := qbs_ hb
                 clear hb ho90
                 refine hK.out _ _ ⟨(bc_ BK444.out 0).trans rfl, (bc_ BK444.out 1).trans rfl, (bc_ BK444.out 2).trans rfl, (bc_ BK444.out 3).trans rfl, (bc_ BK444.out 4).trans rfl, (bc_ BK444.out 5).trans rfl⟩ (fun hHeld => ?_)
                 clear hK K
                 refine a1e (a' := ?_) ?_ ?_
                 rotate_left
                 ·show Act.put _ (some 83) _ = _
                  exact qp_
                 refine one_ (i := 3) (N := some 85) #[o_,o_,o_,o_,o_,o_,o_,o_,o_,o_,o_,i_,o_,i_,i_,i_,i_,i_,i_] rfl rfl (a1q HT_.out (by kernel_rfl)) (by decide) (fun K hK => ?_)
                 refine Kd.a1j k26 (w0 := w) w.heap.size (by rfl) (.tmp 83) (.tmp 84) 23 26 (.agg #[(.int .i64 0), (.int .i64 0), (.int .i64 0), (.int .i64 0)]) 32 rfl Try.underlying23 a2y rfl (by decide) (by omega) v459 y458 l1 _ _ _ (fun k_ => some k_ ≠ (v465 : Value).ownBlock) (fun _ => False) rfl rfl ?aO ?aR (fun _ _ h => h) (fun _ h => h.elim) ?aF ?aB ?aS ?aL ?_
                 (case aR => repeat (first | exact (Kd.a2w HR1.out HB.out) | (with_reducible refine Kd.a2h ?_ _) | (with_reducible refine Kd.a2i ?_ _) | (with_reducible refine Kd.a2p ?_)))
                 (case aB => exact qb_)
                 (case aF => exact (fun k_ hk => Kd.fresh' (Kd.R_lt (qr_ HO466)) k_ hk))
                 (case aO => exact (by (with_reducible repeat (first | apply Kd.a0m | apply Kd.a0n | apply Kd.a0p)); exact Kd.a0x HO460.out (fun _ hk => hk.2)))
                 (case aS => exact (a0s qb_))
                 (case aL => have := LMc46.out; omega)
                 intro v462 w91 ho hb hg hat
                 rw [← Ny461.out] at ho
                 replace BK444 := am_ (a1t (g := gb444) (o := .cells #[.int .i64 a0_0, .int .i64 a0_1, .int .i64 a0_2, .int .i64 a0_3, .int .i64 a0_4, .int .i64 a0_5] 30 (0, 0)) (qk_ BK444) hg (Kd.R_ne HO460.out BK444.out (by decide)))
                 replace HO466 := am_ (Kd.a3e (ok := (fun _ => True)) (qr_ HO466) hg hat)
                 replace HB := am_ (hb)
                 have HO463 := am_ (ho)
                 clear HO460 ho hb hg hat
                 refine hK.out _ _ ⟨(bc_ BK444.out 0).trans rfl, (bc_ BK444.out 1).trans rfl, (bc_ BK444.out 2).trans rfl, (bc_ BK444.out 3).trans rfl, (bc_ BK444.out 4).trans rfl, (bc_ BK444.out 5).trans rfl⟩ (fun hHeld => ?_)
                 clear hK K
                 refine a1e (a' := ?_) ?_ ?_
                 rotate_left
                 ·show Act.put _ (some 85) _ = _
                  exact qp_
                 exact a1e (by simp only [a2x, Act.put, List.setIfInBounds_toArray, List.set_cons_zero, List.set_cons_succ]) (hCont (v459, v462, v465) _ ⟨hHeld, (qr_ HO463), (by (with_reducible repeat (first | apply Kd.a0m | apply Kd.a0n | apply Kd.a0p)); exact Kd.a0x HO466.out (fun _ hk => hk.2)), (qk_ BK444), qb_⟩)
               rintro ⟨v459, v462, v465⟩ w92 ⟨hS_, h0_, h1_, h2_, h3_⟩
               have HO463 : Aside0 (Kd.R k26 26 w92 w.heap.size (fun k_ => some k_ ≠ (v465 : Value).ownBlock) v462 y461) := ⟨h0_⟩
               have HO466 : Aside0 (Kd.R k26 26 w92 w.heap.size (fun k_ => some k_ ≠ (v462 : Value).ownBlock) v465 y464) := ⟨h1_⟩
               replace BK444 : Aside0 (w92.heap[gb444]? = some (.cells #[.int .i64 a0_0, .int .i64 a0_1, .int .i64 a0_2, .int .i64 a0_3, .int .i64 a0_4, .int .i64 a0_5] 30 (0, 0))) := ⟨h2_⟩
               replace HB : Aside0 (Below w.heap.size w w92) := ⟨h3_⟩
               clear h0_ h1_ h2_ h3_
               have hHeld : w92.cell? ⟨gb444, 0, none⟩ = some (.int .i64 a0_0) ∧ w92.cell? ⟨gb444, 1, none⟩ = some (.int .i64 a0_1) ∧ w92.cell? ⟨gb444, 2, none⟩ = some (.int .i64 a0_2) ∧ w92.cell? ⟨gb444, 3, none⟩ = some (.int .i64 a0_3) ∧ w92.cell? ⟨gb444, 4, none⟩ = some (.int .i64 a0_4) ∧ w92.cell? ⟨gb444, 5, none⟩ = some (.int .i64 a0_5) := hS_
               obtain ⟨Ao94, co94, eo94⟩ := Kd.a1m HO466.out
               (first | subst eo94 | (injection eo94 with f1_ f2_ f3_; have f4_ := f1_.symm; have f5_ := f3_.symm; clear f1_ f2_ f3_; subst f4_; subst f5_))
               refine a1e (a' := ?_) ?_ ?_
               rotate_left
               ·simp only [a2x, Act.put, List.setIfInBounds_toArray, List.set_cons_zero, List.set_cons_succ]
                rfl
               refine one_ (i := 11) (N := some 93) #[o_,o_,o_,o_,o_,o_,o_,o_,o_,o_,o_,o_,o_,i_,i_,i_,i_,i_,i_] rfl rfl (a1q HT_.out (by kernel_rfl)) (by decide) (fun K hK => ?_)
               refine Kd.a1j k26 (w0 := w) w.heap.size (by rfl) (.tmp 85) (.tmp 92) 23 26 (.agg #[(.int .i64 0), (.int .i64 0), (.int .i64 0), (.int .i64 0)]) 32 rfl Try.underlying23 a2y rfl (by decide) (by omega) v462 y461 y464 _ _ _ (fun k_ => some k_ ≠ (.slice Ao94 y464.length co94 : Value).ownBlock) (fun _ => False) rfl rfl ?aO ?aR (fun _ _ h => h) (fun _ h => h.elim) ?aF ?aB ?aS ?aL ?_
               (case aR => repeat (first | exact (Kd.a0o HO466.out).2.2 | (with_reducible refine Kd.a2h ?_ _) | (with_reducible refine Kd.a2i ?_ _) | (with_reducible refine Kd.a2p ?_)))
               (case aB => exact qb_)
               (case aF => exact (fun k_ hk => Kd.fresh' (Kd.R_lt (qr_ HO466)) k_ hk))
               (case aO => exact (qr_ HO463))
               (case aS => exact (a0s qb_))
               (case aL => have := LMc47.out; omega)
               intro v468 w93 ho hb hg hat
               rw [← Ny467.out] at ho
               replace BK444 := am_ (a1t (g := gb444) (o := .cells #[.int .i64 a0_0, .int .i64 a0_1, .int .i64 a0_2, .int .i64 a0_3, .int .i64 a0_4, .int .i64 a0_5] 30 (0, 0)) (qk_ BK444) hg (Kd.R_ne HO463.out BK444.out (by decide)))
               replace HO466 := am_ (Kd.a3e (ok := (fun _ => True)) (by (with_reducible repeat (first | apply Kd.a0m | apply Kd.a0n | apply Kd.a0p)); exact Kd.a0x HO466.out (fun _ hk => ⟨trivial, hk⟩)) hg hat)
               replace HB := am_ (hb)
               have HO469 := am_ (ho)
               clear HO463 ho hb hg hat
               obtain ⟨Ao95, co95, eo95⟩ := Kd.a1m HO469.out
               (first | subst eo95 | (injection eo95 with f1_ f2_ f3_; have f4_ := f1_.symm; have f5_ := f3_.symm; clear f1_ f2_ f3_; subst f4_; subst f5_))
               refine hK.out _ _ ⟨(bc_ BK444.out 0).trans rfl, (bc_ BK444.out 1).trans rfl, (bc_ BK444.out 2).trans rfl, (bc_ BK444.out 3).trans rfl, (bc_ BK444.out 4).trans rfl, (bc_ BK444.out 5).trans rfl⟩ (fun hHeld => ?_)
               clear hK K
               refine a1e (a' := ?_) ?_ ?_
               rotate_left
               ·show Act.put _ (some 93) _ = _
                exact qp_
               refine one_ (i := 13) (N := some 95) #[o_,o_,o_,o_,o_,o_,o_,o_,o_,o_,o_,o_,o_,o_,i_,i_,i_,i_,i_] rfl rfl (a1q HT_.out (by kernel_rfl)) (by decide) (fun K hK => ?_)
               refine a4l Try.func9 (by kernel_rfl) rfl #[.agg #[.int .i64 a0_0, .int .i64 a0_1, .int .i64 a0_2, .int .i64 a0_3, .int .i64 a0_4, .int .i64 a0_5], .slice Ao95 y467.length co95, .int .i64 a4] (by rfl) rfl rfl ql_ ?_
               with_reducible refine (a0q.calls kj39 a0_0 a0_1 a0_2 a0_3 a0_4 a0_5 _ _ y467 a4 t470 t471 _ ?s1 ?s2 A48.out).mono ?_
               (case s1 => exact qv_ (Kd.a0o HO469.out).2.2)
               (case s2 => exact (Kd.a0o HO469.out).2.1)
               rintro e w96 ⟨rfl, hb⟩
               refine ⟨_, rfl, ?_⟩
               replace HO466 := qrb_ HO466 hb
               replace HO469 := qrb_ HO469 hb
               replace BK444 := qkb_ BK444 hb
               replace HB := qbs_ hb
               (try clear hb)
               (try clear hb2)
               (try clear hk)
               (try clear hi)
               refine hK.out _ _ ⟨(bc_ BK444.out 0).trans rfl, (bc_ BK444.out 1).trans rfl, (bc_ BK444.out 2).trans rfl, (bc_ BK444.out 3).trans rfl, (bc_ BK444.out 4).trans rfl, (bc_ BK444.out 5).trans rfl⟩ (fun hHeld => ?_)
               clear hK K
               refine a1e (a' := ?_) ?_ ?_
               rotate_left
               ·show Act.put _ (some 95) _ = _
                exact qp_
               refine qpu_ 14 (some 81) #[o_,o_,o_,o_,o_,o_,o_,o_,o_,o_,o_,o_,o_,o_,o_,i_,i_,i_,i_] ?_
               refine qpu_ 15 (some 96) #[o_,o_,o_,o_,o_,o_,o_,o_,o_,o_,o_,o_,o_,o_,o_,o_,i_,i_,i_] ?_
               refine qpu_ 16 (some 97) #[o_,o_,o_,o_,o_,o_,o_,o_,o_,o_,o_,o_,o_,o_,o_,o_,o_,i_,i_] ?_
               refine qpu_ 17 (some 19) #[o_,o_,o_,o_,o_,o_,o_,o_,o_,o_,o_,o_,o_,o_,o_,o_,o_,o_,i_] ?_
               refine qpu_ 18 (some 20) #[o_,o_,o_,o_,o_,o_,o_,o_,o_,o_,o_,o_,o_,o_,o_,o_,o_,o_,o_] ?_
               refine a3p (a2t HT_.out (by kernel_rfl)) ?_
               try go_wp2
               go_ret
               exact ⟨qx_, qb_⟩
            ·rw [if_neg c49] at H
             have c49b0 : (t471 == 0) = false := beq_eq_false_iff_ne.mpr c49
             have c49b1 : (t471 != 0) = true := bne_iff_ne.mpr c49
             by_cases c97 : t445 = true
             ·subst c97
              have H1 : (some (t471 == 1)) = some r := by rw [if_pos rfl] at H; exact H
              clear H
              have H := H1
              clear H1
              obtain rfl := si_ H
              try go_wp2
              replace BK444 := am_ (bd_ BK444.out)
              replace HB := am_ (ld_ HB.out)
              refine a3c (n := 19) (S := fun w' => w'.cell? ⟨gb444, 0, none⟩ = some (.int .i64 a0_0) ∧ w'.cell? ⟨gb444, 1, none⟩ = some (.int .i64 a0_1) ∧ w'.cell? ⟨gb444, 2, none⟩ = some (.int .i64 a0_2) ∧ w'.cell? ⟨gb444, 3, none⟩ = some (.int .i64 a0_3) ∧ w'.cell? ⟨gb444, 4, none⟩ = some (.int .i64 a0_4) ∧ w'.cell? ⟨gb444, 5, none⟩ = some (.int .i64 a0_5)) (ds := []) #[i_,i_,i_,i_,i_,i_,i_,i_,i_,i_,i_,i_,i_,i_,i_,i_,i_,i_,i_] (by kernel_rfl) rfl rfl ⟨(bc_ BK444.out 0).trans rfl, (bc_ BK444.out 1).trans rfl, (bc_ BK444.out 2).trans rfl, (bc_ BK444.out 3).trans rfl, (bc_ BK444.out 4).trans rfl, (bc_ BK444.out 5).trans rfl⟩ (fun hHeld => ?_); refine a2l a0e.a7o a0e.a6m (fun HT_ HW_ => ?_)
              generalize wc.drew = w98 at BK444 HB hHeld ⊢
              refine qpu_ 2 (some 84) #[i_,i_,o_,i_,i_,i_,i_,i_,i_,i_,i_,i_,i_,i_,i_,i_,i_,i_,i_] ?_
              refine qpu_ 4 (some 86) #[i_,i_,o_,i_,o_,i_,i_,i_,i_,i_,i_,i_,i_,i_,i_,i_,i_,i_,i_] ?_
              refine qpu_ 6 (some 88) #[i_,i_,o_,i_,o_,i_,o_,i_,i_,i_,i_,i_,i_,i_,i_,i_,i_,i_,i_] ?_
              refine qpu_ 7 (some 89) #[i_,i_,o_,i_,o_,i_,o_,o_,i_,i_,i_,i_,i_,i_,i_,i_,i_,i_,i_] ?_
              refine qpu_ 8 (some 90) #[i_,i_,o_,i_,o_,i_,o_,o_,o_,i_,i_,i_,i_,i_,i_,i_,i_,i_,i_] ?_
              refine qpu_ 12 (some 94) #[i_,i_,o_,i_,o_,i_,o_,o_,o_,i_,i_,i_,o_,i_,i_,i_,i_,i_,i_] ?_
              refine a2e (i := 0) (N := some 82) (v := ?_) (a' := ?_) #[o_,i_,o_,i_,o_,i_,o_,o_,o_,i_,i_,i_,o_,i_,i_,i_,i_,i_,i_] rfl rfl (a1p HT_.out HW_.out (by kernel_rfl)) (fun _ _ _ h => h) (Or.inl ⟨by rfl, ?_⟩) hHeld ?_ ?_
              rotate_left
              ·rintro w' ⟨s0, s1, s2, s3, s4, s5⟩
               go_simp
               with_reducible rfl
              rotate_left
              ·exact qp_
              refine a2e (i := 5) (N := some 87) (v := ?_) (a' := ?_) #[o_,i_,o_,i_,o_,o_,o_,o_,o_,i_,i_,i_,o_,i_,i_,i_,i_,i_,i_] rfl rfl (a1p HT_.out HW_.out (by kernel_rfl)) (fun _ _ _ h => h) (Or.inl ⟨by rfl, ?_⟩) hHeld ?_ ?_
              rotate_left
              ·rintro w' ⟨s0, s1, s2, s3, s4, s5⟩
               go_simp
               with_reducible rfl
              rotate_left
              ·exact qp_
              refine qpu_ 9 (some 91) #[o_,i_,o_,i_,o_,o_,o_,o_,o_,o_,i_,i_,o_,i_,i_,i_,i_,i_,i_] ?_
              refine a7m (σ := Value × Value × Value) 7 #[o_,o_,o_,o_,o_,o_,o_,o_,o_,o_,o_,i_,o_,i_,i_,i_,i_,i_,i_] (fun s_ => [(83, s_.1), (85, s_.2.1), (92, s_.2.2)]) (fun s_ w' => (w'.cell? ⟨gb444, 0, none⟩ = some (.int .i64 a0_0) ∧ w'.cell? ⟨gb444, 1, none⟩ = some (.int .i64 a0_1) ∧ w'.cell? ⟨gb444, 2, none⟩ = some (.int .i64 a0_2) ∧ w'.cell? ⟨gb444, 3, none⟩ = some (.int .i64 a0_3) ∧ w'.cell? ⟨gb444, 4, none⟩ = some (.int .i64 a0_4) ∧ w'.cell? ⟨gb444, 5, none⟩ = some (.int .i64 a0_5)) ∧ (Kd.R k26 26 w' w.heap.size (fun k_ => some k_ ≠ (s_.2.2 : Value).ownBlock) s_.2.1 y461) ∧ (Kd.R k26 26 w' w.heap.size (fun k_ => some k_ ≠ (s_.2.1 : Value).ownBlock) s_.2.2 y464) ∧ (w'.heap[gb444]? = some (.cells #[.int .i64 a0_0, .int .i64 a0_1, .int .i64 a0_2, .int .i64 a0_3, .int .i64 a0_4, .int .i64 a0_5] 30 (0, 0))) ∧ (Below w.heap.size w w')) ?_ ?_
              rotate_left
              ·intro hCont
               refine two_ (i := 1) (j := 10) (Ni := some 83) (Nj := some 92) #[o_,o_,o_,i_,o_,o_,o_,o_,o_,o_,i_,i_,o_,i_,i_,i_,i_,i_,i_] #[o_,i_,o_,i_,o_,o_,o_,o_,o_,o_,o_,i_,o_,i_,i_,i_,i_,i_,i_] rfl rfl rfl rfl (a4p HT_.out (by kernel_rfl)) (by decide) (by decide) (fun K hK => ?_) (fun K hK => ?_)
               ·skip
                refine Kd.a1z k26 _ 26 ?hg (N := 83) ?hd (xs := ([] : List (S26))) (inner := []) (ok := fun _ => True) (okp := fun _ => True) ?hr ?hp (fun _ hk => hk) trivial (Below.refl _ _) (Nat.le_refl _) (by simp) ?_; (case hd => rfl); (case hg => rfl); (case hr => exact qq_); (case hp => exact (Reps.none _ _))
                intro v459 w99 ho100 hb hg_ hnew_
                clear hg_ hnew_
                (first | rw [← Ny458.out] at ho100 | (simp only [Int.reduceToNat] at ho100; rw [← Ny458.out] at ho100))
                have HO460 := am_ (Kd.a1l ho100 (a0s qb_))
                replace BK444 := qkb_ BK444 hb
                replace HB := qbs_ hb
                clear hb ho100
                refine hK.out _ _ ⟨(bc_ BK444.out 0).trans rfl, (bc_ BK444.out 1).trans rfl, (bc_ BK444.out 2).trans rfl, (bc_ BK444.out 3).trans rfl, (bc_ BK444.out 4).trans rfl, (bc_ BK444.out 5).trans rfl⟩ (fun hHeld => ?_)
                clear hK K
                refine a1e (a' := ?_) ?_ ?_
                rotate_left
                ·show Act.put _ (some 83) _ = _
                 exact qp_
                refine two_ (i := 3) (j := 10) (Ni := some 85) (Nj := some 92) #[o_,o_,o_,o_,o_,o_,o_,o_,o_,o_,i_,i_,o_,i_,i_,i_,i_,i_,i_] #[o_,o_,o_,i_,o_,o_,o_,o_,o_,o_,o_,i_,o_,i_,i_,i_,i_,i_,i_] rfl rfl rfl rfl (a4p HT_.out (by kernel_rfl)) (by decide) (by decide) (fun K hK => ?_) (fun K hK => ?_)
                ·skip
                 refine Kd.a1j k26 (w0 := w) w.heap.size (by rfl) (.tmp 83) (.tmp 84) 23 26 (.agg #[(.int .i64 0), (.int .i64 0), (.int .i64 0), (.int .i64 0)]) 32 rfl Try.underlying23 a2y rfl (by decide) (by omega) v459 y458 l1 _ _ _ (fun _ => True) (fun _ => False) rfl rfl ?aO ?aR (fun _ _ h => h) (fun _ h => h.elim) ?aF ?aB ?aS ?aL ?_
                 (case aR => repeat (first | exact (Kd.a2w HR1.out HB.out) | (with_reducible refine Kd.a2h ?_ _) | (with_reducible refine Kd.a2i ?_ _) | (with_reducible refine Kd.a2p ?_)))
                 (case aB => exact qb_)
                 (case aF => exact (fun _ _ => trivial))
                 (case aO => exact (qr_ HO460))
                 (case aS => exact (a0s qb_))
                 (case aL => have := LMc46.out; omega)
                 intro v462 w101 ho hb hg hat
                 rw [← Ny461.out] at ho
                 replace BK444 := am_ (a1t (g := gb444) (o := .cells #[.int .i64 a0_0, .int .i64 a0_1, .int .i64 a0_2, .int .i64 a0_3, .int .i64 a0_4, .int .i64 a0_5] 30 (0, 0)) (qk_ BK444) hg (Kd.R_ne HO460.out BK444.out (by decide)))
                 replace HB := am_ (hb)
                 have HO463 := am_ (ho)
                 clear HO460 ho hb hg hat
                 refine hK.out _ _ ⟨(bc_ BK444.out 0).trans rfl, (bc_ BK444.out 1).trans rfl, (bc_ BK444.out 2).trans rfl, (bc_ BK444.out 3).trans rfl, (bc_ BK444.out 4).trans rfl, (bc_ BK444.out 5).trans rfl⟩ (fun hHeld => ?_)
                 clear hK K
                 refine a1e (a' := ?_) ?_ ?_
                 rotate_left
                 ·show Act.put _ (some 85) _ = _
                  exact qp_
                 refine one_ (i := 10) (N := some 92) #[o_,o_,o_,o_,o_,o_,o_,o_,o_,o_,o_,i_,o_,i_,i_,i_,i_,i_,i_] rfl rfl (a1q HT_.out (by kernel_rfl)) (by decide) (fun K hK => ?_)
                 refine Kd.a1z k26 _ 26 ?hg (N := 92) ?hd (xs := ([(⟨a0_0, a2, a3, a4⟩ : S26)] : List (S26))) (inner := [.int .i64 a0_0, .int .i64 a2, .int .i64 a3, .int .i64 a4]) (ok := fun _ => True) (okp := fun _ => True) ?hr ?hp (fun _ hk => hk) trivial (Below.refl _ _) (Nat.le_refl _) (by simp) ?_; (case hd => rfl); (case hg => rfl); (case hr => exact qq_); (case hp => exact (Reps.c4 (show Kd.M k26 _ _ _ (⟨a0_0, a2, a3, a4⟩ : S26) [.int .i64 a0_0, .int .i64 a2, .int .i64 a3, .int .i64 a4] from (a2o _ _ _ (⟨a0_0, a2, a3, a4⟩ : S26) )) (Reps.none _ _)))
                 intro v465 w102 ho103 hb hg_ hnew_
                 clear hg_ hnew_
                 (first | rw [← Ny464.out] at ho103 | (simp only [Int.reduceToNat] at ho103; rw [← Ny464.out] at ho103))
                 have HO466 := am_ (Kd.a1l (Kd.a2d ho103 (Kd.R_lt (qr_ HO463))) (a0s qb_))
                 replace HO463 := qel_ HO463 ho103 hb
                 replace BK444 := qkb_ BK444 hb
                 replace HB := qbs_ hb
                 clear hb ho103
                 refine hK.out _ _ ⟨(bc_ BK444.out 0).trans rfl, (bc_ BK444.out 1).trans rfl, (bc_ BK444.out 2).trans rfl, (bc_ BK444.out 3).trans rfl, (bc_ BK444.out 4).trans rfl, (bc_ BK444.out 5).trans rfl⟩ (fun hHeld => ?_)
                 clear hK K
                 refine a1e (a' := ?_) ?_ ?_
                 rotate_left
                 ·show Act.put _ (some 92) _ = _
                  exact qp_
                 exact a1e (by simp only [a2x, Act.put, List.setIfInBounds_toArray, List.set_cons_zero, List.set_cons_succ]) (hCont (v459, v462, v465) _ ⟨hHeld, (by (with_reducible repeat (first | apply Kd.a0m | apply Kd.a0n | apply Kd.a0p)); exact Kd.a0x HO463.out (fun _ hk => hk.2)), (by (with_reducible repeat (first | apply Kd.a0m | apply Kd.a0n | apply Kd.a0p)); exact Kd.a0x HO466.out (fun _ hk => hk.2)), (qk_ BK444), qb_⟩)
                ·skip
                 refine Kd.a1z k26 _ 26 ?hg (N := 92) ?hd (xs := ([(⟨a0_0, a2, a3, a4⟩ : S26)] : List (S26))) (inner := [.int .i64 a0_0, .int .i64 a2, .int .i64 a3, .int .i64 a4]) (ok := fun _ => True) (okp := fun _ => True) ?hr ?hp (fun _ hk => hk) trivial (Below.refl _ _) (Nat.le_refl _) (by simp) ?_; (case hd => rfl); (case hg => rfl); (case hr => exact qq_); (case hp => exact (Reps.c4 (show Kd.M k26 _ _ _ (⟨a0_0, a2, a3, a4⟩ : S26) [.int .i64 a0_0, .int .i64 a2, .int .i64 a3, .int .i64 a4] from (a2o _ _ _ (⟨a0_0, a2, a3, a4⟩ : S26) )) (Reps.none _ _)))
                 intro v465 w101 ho102 hb hg_ hnew_
                 clear hg_ hnew_
                 (first | rw [← Ny464.out] at ho102 | (simp only [Int.reduceToNat] at ho102; rw [← Ny464.out] at ho102))
                 have HO466 := am_ (Kd.a1l (Kd.a2d ho102 (Kd.R_lt (qr_ HO460))) (a0s qb_))
                 replace HO460 := qel_ HO460 ho102 hb
                 replace BK444 := qkb_ BK444 hb
                 replace HB := qbs_ hb
                 clear hb ho102
                 refine hK.out _ _ ⟨(bc_ BK444.out 0).trans rfl, (bc_ BK444.out 1).trans rfl, (bc_ BK444.out 2).trans rfl, (bc_ BK444.out 3).trans rfl, (bc_ BK444.out 4).trans rfl, (bc_ BK444.out 5).trans rfl⟩ (fun hHeld => ?_)
                 clear hK K
                 refine a1e (a' := ?_) ?_ ?_
                 rotate_left
                 ·show Act.put _ (some 92) _ = _
                  exact qp_
                 refine one_ (i := 3) (N := some 85) #[o_,o_,o_,o_,o_,o_,o_,o_,o_,o_,o_,i_,o_,i_,i_,i_,i_,i_,i_] rfl rfl (a1q HT_.out (by kernel_rfl)) (by decide) (fun K hK => ?_)
                 refine Kd.a1j k26 (w0 := w) w.heap.size (by rfl) (.tmp 83) (.tmp 84) 23 26 (.agg #[(.int .i64 0), (.int .i64 0), (.int .i64 0), (.int .i64 0)]) 32 rfl Try.underlying23 a2y rfl (by decide) (by omega) v459 y458 l1 _ _ _ (fun k_ => some k_ ≠ (v465 : Value).ownBlock) (fun _ => False) rfl rfl ?aO ?aR (fun _ _ h => h) (fun _ h => h.elim) ?aF ?aB ?aS ?aL ?_
                 (case aR => repeat (first | exact (Kd.a2w HR1.out HB.out) | (with_reducible refine Kd.a2h ?_ _) | (with_reducible refine Kd.a2i ?_ _) | (with_reducible refine Kd.a2p ?_)))
                 (case aB => exact qb_)
                 (case aF => exact (fun k_ hk => Kd.fresh' (Kd.R_lt (qr_ HO466)) k_ hk))
                 (case aO => exact (by (with_reducible repeat (first | apply Kd.a0m | apply Kd.a0n | apply Kd.a0p)); exact Kd.a0x HO460.out (fun _ hk => hk.2)))
                 (case aS => exact (a0s qb_))
                 (case aL => have := LMc46.out; omega)
                 intro v462 w103 ho hb hg hat
                 rw [← Ny461.out] at ho
                 replace BK444 := am_ (a1t (g := gb444) (o := .cells #[.int .i64 a0_0, .int .i64 a0_1, .int .i64 a0_2, .int .i64 a0_3, .int .i64 a0_4, .int .i64 a0_5] 30 (0, 0)) (qk_ BK444) hg (Kd.R_ne HO460.out BK444.out (by decide)))
                 replace HO466 := am_ (Kd.a3e (ok := (fun _ => True)) (qr_ HO466) hg hat)
                 replace HB := am_ (hb)
                 have HO463 := am_ (ho)
                 clear HO460 ho hb hg hat
                 refine hK.out _ _ ⟨(bc_ BK444.out 0).trans rfl, (bc_ BK444.out 1).trans rfl, (bc_ BK444.out 2).trans rfl, (bc_ BK444.out 3).trans rfl, (bc_ BK444.out 4).trans rfl, (bc_ BK444.out 5).trans rfl⟩ (fun hHeld => ?_)
                 clear hK K
                 refine a1e (a' := ?_) ?_ ?_
                 rotate_left
                 ·show Act.put _ (some 85) _ = _
                  exact qp_
                 exact a1e (by simp only [a2x, Act.put, List.setIfInBounds_toArray, List.set_cons_zero, List.set_cons_succ]) (hCont (v459, v462, v465) _ ⟨hHeld, (qr_ HO463), (by (with_reducible repeat (first | apply Kd.a0m | apply Kd.a0n | apply Kd.a0p)); exact Kd.a0x HO466.out (fun _ hk => hk.2)), (qk_ BK444), qb_⟩)
               ·skip
                refine Kd.a1z k26 _ 26 ?hg (N := 92) ?hd (xs := ([(⟨a0_0, a2, a3, a4⟩ : S26)] : List (S26))) (inner := [.int .i64 a0_0, .int .i64 a2, .int .i64 a3, .int .i64 a4]) (ok := fun _ => True) (okp := fun _ => True) ?hr ?hp (fun _ hk => hk) trivial (Below.refl _ _) (Nat.le_refl _) (by simp) ?_; (case hd => rfl); (case hg => rfl); (case hr => exact qq_); (case hp => exact (Reps.c4 (show Kd.M k26 _ _ _ (⟨a0_0, a2, a3, a4⟩ : S26) [.int .i64 a0_0, .int .i64 a2, .int .i64 a3, .int .i64 a4] from (a2o _ _ _ (⟨a0_0, a2, a3, a4⟩ : S26) )) (Reps.none _ _)))
                intro v465 w99 ho100 hb hg_ hnew_
                clear hg_ hnew_
                (first | rw [← Ny464.out] at ho100 | (simp only [Int.reduceToNat] at ho100; rw [← Ny464.out] at ho100))
                have HO466 := am_ (Kd.a1l ho100 (a0s qb_))
                replace BK444 := qkb_ BK444 hb
                replace HB := qbs_ hb
                clear hb ho100
                refine hK.out _ _ ⟨(bc_ BK444.out 0).trans rfl, (bc_ BK444.out 1).trans rfl, (bc_ BK444.out 2).trans rfl, (bc_ BK444.out 3).trans rfl, (bc_ BK444.out 4).trans rfl, (bc_ BK444.out 5).trans rfl⟩ (fun hHeld => ?_)
                clear hK K
                refine a1e (a' := ?_) ?_ ?_
                rotate_left
                ·show Act.put _ (some 92) _ = _
                 exact qp_
                refine one_ (i := 1) (N := some 83) #[o_,o_,o_,i_,o_,o_,o_,o_,o_,o_,o_,i_,o_,i_,i_,i_,i_,i_,i_] rfl rfl (a1q HT_.out (by kernel_rfl)) (by decide) (fun K hK => ?_)
                refine Kd.a1z k26 _ 26 ?hg (N := 83) ?hd (xs := ([] : List (S26))) (inner := []) (ok := fun _ => True) (okp := fun _ => True) ?hr ?hp (fun _ hk => hk) trivial (Below.refl _ _) (Nat.le_refl _) (by simp) ?_; (case hd => rfl); (case hg => rfl); (case hr => exact qq_); (case hp => exact (Reps.none _ _))
                intro v459 w101 ho102 hb hg_ hnew_
                clear hg_ hnew_
                (first | rw [← Ny458.out] at ho102 | (simp only [Int.reduceToNat] at ho102; rw [← Ny458.out] at ho102))
                have HO460 := am_ (Kd.a1l (Kd.a2d ho102 (Kd.R_lt (qr_ HO466))) (a0s qb_))
                replace HO466 := qel_ HO466 ho102 hb
                replace BK444 := qkb_ BK444 hb
                replace HB := qbs_ hb
                clear hb ho102
                refine hK.out _ _ ⟨(bc_ BK444.out 0).trans rfl, (bc_ BK444.out 1).trans rfl, (bc_ BK444.out 2).trans rfl, (bc_ BK444.out 3).trans rfl, (bc_ BK444.out 4).trans rfl, (bc_ BK444.out 5).trans rfl⟩ (fun hHeld => ?_)
                clear hK K
                refine a1e (a' := ?_) ?_ ?_
                rotate_left
                ·show Act.put _ (some 83) _ = _
                 exact qp_
                refine one_ (i := 3) (N := some 85) #[o_,o_,o_,o_,o_,o_,o_,o_,o_,o_,o_,i_,o_,i_,i_,i_,i_,i_,i_] rfl rfl (a1q HT_.out (by kernel_rfl)) (by decide) (fun K hK => ?_)
                refine Kd.a1j k26 (w0 := w) w.heap.size (by rfl) (.tmp 83) (.tmp 84) 23 26 (.agg #[(.int .i64 0), (.int .i64 0), (.int .i64 0), (.int .i64 0)]) 32 rfl Try.underlying23 a2y rfl (by decide) (by omega) v459 y458 l1 _ _ _ (fun k_ => some k_ ≠ (v465 : Value).ownBlock) (fun _ => False) rfl rfl ?aO ?aR (fun _ _ h => h) (fun _ h => h.elim) ?aF ?aB ?aS ?aL ?_
                (case aR => repeat (first | exact (Kd.a2w HR1.out HB.out) | (with_reducible refine Kd.a2h ?_ _) | (with_reducible refine Kd.a2i ?_ _) | (with_reducible refine Kd.a2p ?_)))
                (case aB => exact qb_)
                (case aF => exact (fun k_ hk => Kd.fresh' (Kd.R_lt (qr_ HO466)) k_ hk))
                (case aO => exact (by (with_reducible repeat (first | apply Kd.a0m | apply Kd.a0n | apply Kd.a0p)); exact Kd.a0x HO460.out (fun _ hk => hk.2)))
                (case aS => exact (a0s qb_))
                (case aL => have := LMc46.out; omega)
                intro v462 w103 ho hb hg hat
                rw [← Ny461.out] at ho
                replace BK444 := am_ (a1t (g := gb444) (o := .cells #[.int .i64 a0_0, .int .i64 a0_1, .int .i64 a0_2, .int .i64 a0_3, .int .i64 a0_4, .int .i64 a0_5] 30 (0, 0)) (qk_ BK444) hg (Kd.R_ne HO460.out BK444.out (by decide)))
                replace HO466 := am_ (Kd.a3e (ok := (fun _ => True)) (qr_ HO466) hg hat)
                replace HB := am_ (hb)
                have HO463 := am_ (ho)
                clear HO460 ho hb hg hat
                refine hK.out _ _ ⟨(bc_ BK444.out 0).trans rfl, (bc_ BK444.out 1).trans rfl, (bc_ BK444.out 2).trans rfl, (bc_ BK444.out 3).trans rfl, (bc_ BK444.out 4).trans rfl, (bc_ BK444.out 5).trans rfl⟩ (fun hHeld => ?_)
                clear hK K
                refine a1e (a' := ?_) ?_ ?_
                rotate_left
                ·show Act.put _ (some 85) _ = _
                 exact qp_
                exact a1e (by simp only [a2x, Act.put, List.setIfInBounds_toArray, List.set_cons_zero, List.set_cons_succ]) (hCont (v459, v462, v465) _ ⟨hHeld, (qr_ HO463), (by (with_reducible repeat (first | apply Kd.a0m | apply Kd.a0n | apply Kd.a0p)); exact Kd.a0x HO466.out (fun _ hk => hk.2)), (qk_ BK444), qb_⟩)
              rintro ⟨v459, v462, v465⟩ w104 ⟨hS_, h0_, h1_, h2_, h3_⟩
              have HO463 : Aside0 (Kd.R k26 26 w104 w.heap.size (fun k_ => some k_ ≠ (v465 : Value).ownBlock) v462 y461) := ⟨h0_⟩
              have HO466 : Aside0 (Kd.R k26 26 w104 w.heap.size (fun k_ => some k_ ≠ (v462 : Value).ownBlock) v465 y464) := ⟨h1_⟩
              replace BK444 : Aside0 (w104.heap[gb444]? = some (.cells #[.int .i64 a0_0, .int .i64 a0_1, .int .i64 a0_2, .int .i64 a0_3, .int .i64 a0_4, .int .i64 a0_5] 30 (0, 0))) := ⟨h2_⟩
              replace HB : Aside0 (Below w.heap.size w w104) := ⟨h3_⟩
              clear h0_ h1_ h2_ h3_
              have hHeld : w104.cell? ⟨gb444, 0, none⟩ = some (.int .i64 a0_0) ∧ w104.cell? ⟨gb444, 1, none⟩ = some (.int .i64 a0_1) ∧ w104.cell? ⟨gb444, 2, none⟩ = some (.int .i64 a0_2) ∧ w104.cell? ⟨gb444, 3, none⟩ = some (.int .i64 a0_3) ∧ w104.cell? ⟨gb444, 4, none⟩ = some (.int .i64 a0_4) ∧ w104.cell? ⟨gb444, 5, none⟩ = some (.int .i64 a0_5) := hS_
              obtain ⟨Ao106, co106, eo106⟩ := Kd.a1m HO466.out
              (first | subst eo106 | (injection eo106 with f1_ f2_ f3_; have f4_ := f1_.symm; have f5_ := f3_.symm; clear f1_ f2_ f3_; subst f4_; subst f5_))
              refine a1e (a' := ?_) ?_ ?_
              rotate_left
              ·simp only [a2x, Act.put, List.setIfInBounds_toArray, List.set_cons_zero, List.set_cons_succ]
               rfl
              refine one_ (i := 11) (N := some 93) #[o_,o_,o_,o_,o_,o_,o_,o_,o_,o_,o_,o_,o_,i_,i_,i_,i_,i_,i_] rfl rfl (a1q HT_.out (by kernel_rfl)) (by decide) (fun K hK => ?_)
              refine Kd.a1j k26 (w0 := w) w.heap.size (by rfl) (.tmp 85) (.tmp 92) 23 26 (.agg #[(.int .i64 0), (.int .i64 0), (.int .i64 0), (.int .i64 0)]) 32 rfl Try.underlying23 a2y rfl (by decide) (by omega) v462 y461 y464 _ _ _ (fun k_ => some k_ ≠ (.slice Ao106 y464.length co106 : Value).ownBlock) (fun _ => False) rfl rfl ?aO ?aR (fun _ _ h => h) (fun _ h => h.elim) ?aF ?aB ?aS ?aL ?_
              (case aR => repeat (first | exact (Kd.a0o HO466.out).2.2 | (with_reducible refine Kd.a2h ?_ _) | (with_reducible refine Kd.a2i ?_ _) | (with_reducible refine Kd.a2p ?_)))
              (case aB => exact qb_)
              (case aF => exact (fun k_ hk => Kd.fresh' (Kd.R_lt (qr_ HO466)) k_ hk))
              (case aO => exact (qr_ HO463))
              (case aS => exact (a0s qb_))
              (case aL => have := LMc47.out; omega)
              intro v468 w105 ho hb hg hat
              rw [← Ny467.out] at ho
              replace BK444 := am_ (a1t (g := gb444) (o := .cells #[.int .i64 a0_0, .int .i64 a0_1, .int .i64 a0_2, .int .i64 a0_3, .int .i64 a0_4, .int .i64 a0_5] 30 (0, 0)) (qk_ BK444) hg (Kd.R_ne HO463.out BK444.out (by decide)))
              replace HO466 := am_ (Kd.a3e (ok := (fun _ => True)) (by (with_reducible repeat (first | apply Kd.a0m | apply Kd.a0n | apply Kd.a0p)); exact Kd.a0x HO466.out (fun _ hk => ⟨trivial, hk⟩)) hg hat)
              replace HB := am_ (hb)
              have HO469 := am_ (ho)
              clear HO463 ho hb hg hat
              obtain ⟨Ao107, co107, eo107⟩ := Kd.a1m HO469.out
              (first | subst eo107 | (injection eo107 with f1_ f2_ f3_; have f4_ := f1_.symm; have f5_ := f3_.symm; clear f1_ f2_ f3_; subst f4_; subst f5_))
              refine hK.out _ _ ⟨(bc_ BK444.out 0).trans rfl, (bc_ BK444.out 1).trans rfl, (bc_ BK444.out 2).trans rfl, (bc_ BK444.out 3).trans rfl, (bc_ BK444.out 4).trans rfl, (bc_ BK444.out 5).trans rfl⟩ (fun hHeld => ?_)
              clear hK K
              refine a1e (a' := ?_) ?_ ?_
              rotate_left
              ·show Act.put _ (some 93) _ = _
               exact qp_
              refine one_ (i := 13) (N := some 95) #[o_,o_,o_,o_,o_,o_,o_,o_,o_,o_,o_,o_,o_,o_,i_,i_,i_,i_,i_] rfl rfl (a1q HT_.out (by kernel_rfl)) (by decide) (fun K hK => ?_)
              refine a4l Try.func9 (by kernel_rfl) rfl #[.agg #[.int .i64 a0_0, .int .i64 a0_1, .int .i64 a0_2, .int .i64 a0_3, .int .i64 a0_4, .int .i64 a0_5], .slice Ao107 y467.length co107, .int .i64 a4] (by rfl) rfl rfl ql_ ?_
              with_reducible refine (a0q.calls kj39 a0_0 a0_1 a0_2 a0_3 a0_4 a0_5 _ _ y467 a4 t470 t471 _ ?s1 ?s2 A48.out).mono ?_
              (case s1 => exact qv_ (Kd.a0o HO469.out).2.2)
              (case s2 => exact (Kd.a0o HO469.out).2.1)
              rintro e w108 ⟨rfl, hb⟩
              refine ⟨_, rfl, ?_⟩
              replace HO466 := qrb_ HO466 hb
              replace HO469 := qrb_ HO469 hb
              replace BK444 := qkb_ BK444 hb
              replace HB := qbs_ hb
              (try clear hb)
              (try clear hb2)
              (try clear hk)
              (try clear hi)
              refine hK.out _ _ ⟨(bc_ BK444.out 0).trans rfl, (bc_ BK444.out 1).trans rfl, (bc_ BK444.out 2).trans rfl, (bc_ BK444.out 3).trans rfl, (bc_ BK444.out 4).trans rfl, (bc_ BK444.out 5).trans rfl⟩ (fun hHeld => ?_)
              clear hK K
              refine a1e (a' := ?_) ?_ ?_
              rotate_left
              ·show Act.put _ (some 95) _ = _
               exact qp_
              refine qpu_ 14 (some 81) #[o_,o_,o_,o_,o_,o_,o_,o_,o_,o_,o_,o_,o_,o_,o_,i_,i_,i_,i_] ?_
              refine qpu_ 15 (some 96) #[o_,o_,o_,o_,o_,o_,o_,o_,o_,o_,o_,o_,o_,o_,o_,o_,i_,i_,i_] ?_
              refine qpu_ 16 (some 97) #[o_,o_,o_,o_,o_,o_,o_,o_,o_,o_,o_,o_,o_,o_,o_,o_,o_,i_,i_] ?_
              refine qpu_ 17 (some 19) #[o_,o_,o_,o_,o_,o_,o_,o_,o_,o_,o_,o_,o_,o_,o_,o_,o_,o_,i_] ?_
              refine qpu_ 18 (some 20) #[o_,o_,o_,o_,o_,o_,o_,o_,o_,o_,o_,o_,o_,o_,o_,o_,o_,o_,o_] ?_
              refine a3p (a2t HT_.out (by kernel_rfl)) ?_
              try go_wp2
              go_ret
              exact ⟨qx_, qb_⟩
             ·replace c97 := be_ c97
              subst c97
              have H1 : (some false) = some r := by rw [if_neg (show ¬ (false = true) by decide)] at H; exact H
              clear H
              have H := H1
              clear H1
              obtain rfl := si_ H
              try go_wp2
              replace BK444 := am_ (bd_ BK444.out)
              replace HB := am_ (ld_ HB.out)
              refine a3c (n := 19) (S := fun w' => w'.cell? ⟨gb444, 0, none⟩ = some (.int .i64 a0_0) ∧ w'.cell? ⟨gb444, 1, none⟩ = some (.int .i64 a0_1) ∧ w'.cell? ⟨gb444, 2, none⟩ = some (.int .i64 a0_2) ∧ w'.cell? ⟨gb444, 3, none⟩ = some (.int .i64 a0_3) ∧ w'.cell? ⟨gb444, 4, none⟩ = some (.int .i64 a0_4) ∧ w'.cell? ⟨gb444, 5, none⟩ = some (.int .i64 a0_5)) (ds := []) #[i_,i_,i_,i_,i_,i_,i_,i_,i_,i_,i_,i_,i_,i_,i_,i_,i_,i_,i_] (by kernel_rfl) rfl rfl ⟨(bc_ BK444.out 0).trans rfl, (bc_ BK444.out 1).trans rfl, (bc_ BK444.out 2).trans rfl, (bc_ BK444.out 3).trans rfl, (bc_ BK444.out 4).trans rfl, (bc_ BK444.out 5).trans rfl⟩ (fun hHeld => ?_); refine a2l a0e.a7o a0e.a6m (fun HT_ HW_ => ?_)
              generalize wc.drew = w109 at BK444 HB hHeld ⊢
              refine qpu_ 2 (some 84) #[i_,i_,o_,i_,i_,i_,i_,i_,i_,i_,i_,i_,i_,i_,i_,i_,i_,i_,i_] ?_
              refine qpu_ 4 (some 86) #[i_,i_,o_,i_,o_,i_,i_,i_,i_,i_,i_,i_,i_,i_,i_,i_,i_,i_,i_] ?_
              refine qpu_ 6 (some 88) #[i_,i_,o_,i_,o_,i_,o_,i_,i_,i_,i_,i_,i_,i_,i_,i_,i_,i_,i_] ?_
              refine qpu_ 7 (some 89) #[i_,i_,o_,i_,o_,i_,o_,o_,i_,i_,i_,i_,i_,i_,i_,i_,i_,i_,i_] ?_
              refine qpu_ 8 (some 90) #[i_,i_,o_,i_,o_,i_,o_,o_,o_,i_,i_,i_,i_,i_,i_,i_,i_,i_,i_] ?_
              refine qpu_ 12 (some 94) #[i_,i_,o_,i_,o_,i_,o_,o_,o_,i_,i_,i_,o_,i_,i_,i_,i_,i_,i_] ?_
              refine a2e (i := 0) (N := some 82) (v := ?_) (a' := ?_) #[o_,i_,o_,i_,o_,i_,o_,o_,o_,i_,i_,i_,o_,i_,i_,i_,i_,i_,i_] rfl rfl (a1p HT_.out HW_.out (by kernel_rfl)) (fun _ _ _ h => h) (Or.inl ⟨by rfl, ?_⟩) hHeld ?_ ?_
              rotate_left
              ·rintro w' ⟨s0, s1, s2, s3, s4, s5⟩
               go_simp
               with_reducible rfl
              rotate_left
              ·exact qp_
              refine a2e (i := 5) (N := some 87) (v := ?_) (a' := ?_) #[o_,i_,o_,i_,o_,o_,o_,o_,o_,i_,i_,i_,o_,i_,i_,i_,i_,i_,i_] rfl rfl (a1p HT_.out HW_.out (by kernel_rfl)) (fun _ _ _ h => h) (Or.inl ⟨by rfl, ?_⟩) hHeld ?_ ?_
              rotate_left
              ·rintro w' ⟨s0, s1, s2, s3, s4, s5⟩
               go_simp
               with_reducible rfl
              rotate_left
              ·exact qp_
              refine qpu_ 9 (some 91) #[o_,i_,o_,i_,o_,o_,o_,o_,o_,o_,i_,i_,o_,i_,i_,i_,i_,i_,i_] ?_
              refine a7m (σ := Value × Value × Value) 7 #[o_,o_,o_,o_,o_,o_,o_,o_,o_,o_,o_,i_,o_,i_,i_,i_,i_,i_,i_] (fun s_ => [(83, s_.1), (85, s_.2.1), (92, s_.2.2)]) (fun s_ w' => (w'.cell? ⟨gb444, 0, none⟩ = some (.int .i64 a0_0) ∧ w'.cell? ⟨gb444, 1, none⟩ = some (.int .i64 a0_1) ∧ w'.cell? ⟨gb444, 2, none⟩ = some (.int .i64 a0_2) ∧ w'.cell? ⟨gb444, 3, none⟩ = some (.int .i64 a0_3) ∧ w'.cell? ⟨gb444, 4, none⟩ = some (.int .i64 a0_4) ∧ w'.cell? ⟨gb444, 5, none⟩ = some (.int .i64 a0_5)) ∧ (Kd.R k26 26 w' w.heap.size (fun k_ => some k_ ≠ (s_.2.2 : Value).ownBlock) s_.2.1 y461) ∧ (Kd.R k26 26 w' w.heap.size (fun k_ => some k_ ≠ (s_.2.1 : Value).ownBlock) s_.2.2 y464) ∧ (w'.heap[gb444]? = some (.cells #[.int .i64 a0_0, .int .i64 a0_1, .int .i64 a0_2, .int .i64 a0_3, .int .i64 a0_4, .int .i64 a0_5] 30 (0, 0))) ∧ (Below w.heap.size w w')) ?_ ?_
              rotate_left
              ·intro hCont
               refine two_ (i := 1) (j := 10) (Ni := some 83) (Nj := some 92) #[o_,o_,o_,i_,o_,o_,o_,o_,o_,o_,i_,i_,o_,i_,i_,i_,i_,i_,i_] #[o_,i_,o_,i_,o_,o_,o_,o_,o_,o_,o_,i_,o_,i_,i_,i_,i_,i_,i_] rfl rfl rfl rfl (a4p HT_.out (by kernel_rfl)) (by decide) (by decide) (fun K hK => ?_) (fun K hK => ?_)
               ·skip
                refine Kd.a1z k26 _ 26 ?hg (N := 83) ?hd (xs := ([] : List (S26))) (inner := []) (ok := fun _ => True) (okp := fun _ => True) ?hr ?hp (fun _ hk => hk) trivial (Below.refl _ _) (Nat.le_refl _) (by simp) ?_; (case hd => rfl); (case hg => rfl); (case hr => exact qq_); (case hp => exact (Reps.none _ _))
                intro v459 w110 ho111 hb hg_ hnew_
                clear hg_ hnew_
                (first | rw [← Ny458.out] at ho111 | (simp only [Int.reduceToNat] at ho111; rw [← Ny458.out] at ho111))
                have HO460 := am_ (Kd.a1l ho111 (a0s qb_))
                replace BK444 := qkb_ BK444 hb
                replace HB := qbs_ hb
                clear hb ho111
                refine hK.out _ _ ⟨(bc_ BK444.out 0).trans rfl, (bc_ BK444.out 1).trans rfl, (bc_ BK444.out 2).trans rfl, (bc_ BK444.out 3).trans rfl, (bc_ BK444.out 4).trans rfl, (bc_ BK444.out 5).trans rfl⟩ (fun hHeld => ?_)
                clear hK K
                refine a1e (a' := ?_) ?_ ?_
                rotate_left
                ·show Act.put _ (some 83) _ = _
                 exact qp_
                refine two_ (i := 3) (j := 10) (Ni := some 85) (Nj := some 92) #[o_,o_,o_,o_,o_,o_,o_,o_,o_,o_,i_,i_,o_,i_,i_,i_,i_,i_,i_] #[o_,o_,o_,i_,o_,o_,o_,o_,o_,o_,o_,i_,o_,i_,i_,i_,i_,i_,i_] rfl rfl rfl rfl (a4p HT_.out (by kernel_rfl)) (by decide) (by decide) (fun K hK => ?_) (fun K hK => ?_)
                ·skip
                 refine Kd.a1j k26 (w0 := w) w.heap.size (by rfl) (.tmp 83) (.tmp 84) 23 26 (.agg #[(.int .i64 0), (.int .i64 0), (.int .i64 0), (.int .i64 0)]) 32 rfl Try.underlying23 a2y rfl (by decide) (by omega) v459 y458 l1 _ _ _ (fun _ => True) (fun _ => False) rfl rfl ?aO ?aR (fun _ _ h => h) (fun _ h => h.elim) ?aF ?aB ?aS ?aL ?_
                 (case aR => repeat (first | exact (Kd.a2w HR1.out HB.out) | (with_reducible refine Kd.a2h ?_ _) | (with_reducible refine Kd.a2i ?_ _) | (with_reducible refine Kd.a2p ?_)))
                 (case aB => exact qb_)
                 (case aF => exact (fun _ _ => trivial))
                 (case aO => exact (qr_ HO460))
                 (case aS => exact (a0s qb_))
                 (case aL => have := LMc46.out; omega)
                 intro v462 w112 ho hb hg hat
                 rw [← Ny461.out] at ho
                 replace BK444 := am_ (a1t (g := gb444) (o := .cells #[.int .i64 a0_0, .int .i64 a0_1, .int .i64 a0_2, .int .i64 a0_3, .int .i64 a0_4, .int .i64 a0_5] 30 (0, 0)) (qk_ BK444) hg (Kd.R_ne HO460.out BK444.out (by decide)))
                 replace HB := am_ (hb)
                 have HO463 := am_ (ho)
                 clear HO460 ho hb hg hat
                 refine hK.out _ _ ⟨(bc_ BK444.out 0).trans rfl, (bc_ BK444.out 1).trans rfl, (bc_ BK444.out 2).trans rfl, (bc_ BK444.out 3).trans rfl, (bc_ BK444.out 4).trans rfl, (bc_ BK444.out 5).trans rfl⟩ (fun hHeld => ?_)
                 clear hK K
                 refine a1e (a' := ?_) ?_ ?_
                 rotate_left
                 ·show Act.put _ (some 85) _ = _
                  exact qp_
                 refine one_ (i := 10) (N := some 92) #[o_,o_,o_,o_,o_,o_,o_,o_,o_,o_,o_,i_,o_,i_,i_,i_,i_,i_,i_] rfl rfl (a1q HT_.out (by kernel_rfl)) (by decide) (fun K hK => ?_)
                 refine Kd.a1z k26 _ 26 ?hg (N := 92) ?hd (xs := ([(⟨a0_0, a2, a3, a4⟩ : S26)] : List (S26))) (inner := [.int .i64 a0_0, .int .i64 a2, .int .i64 a3, .int .i64 a4]) (ok := fun _ => True) (okp := fun _ => True) ?hr ?hp (fun _ hk => hk) trivial (Below.refl _ _) (Nat.le_refl _) (by simp) ?_; (case hd => rfl); (case hg => rfl); (case hr => exact qq_); (case hp => exact (Reps.c4 (show Kd.M k26 _ _ _ (⟨a0_0, a2, a3, a4⟩ : S26) [.int .i64 a0_0, .int .i64 a2, .int .i64 a3, .int .i64 a4] from (a2o _ _ _ (⟨a0_0, a2, a3, a4⟩ : S26) )) (Reps.none _ _)))
                 intro v465 w113 ho114 hb hg_ hnew_
                 clear hg_ hnew_
                 (first | rw [← Ny464.out] at ho114 | (simp only [Int.reduceToNat] at ho114; rw [← Ny464.out] at ho114))
                 have HO466 := am_ (Kd.a1l (Kd.a2d ho114 (Kd.R_lt (qr_ HO463))) (a0s qb_))
                 replace HO463 := qel_ HO463 ho114 hb
                 replace BK444 := qkb_ BK444 hb
                 replace HB := qbs_ hb
                 clear hb ho114
                 refine hK.out _ _ ⟨(bc_ BK444.out 0).trans rfl, (bc_ BK444.out 1).trans rfl, (bc_ BK444.out 2).trans rfl, (bc_ BK444.out 3).trans rfl, (bc_ BK444.out 4).trans rfl, (bc_ BK444.out 5).trans rfl⟩ (fun hHeld => ?_)
                 clear hK K
                 refine a1e (a' := ?_) ?_ ?_
                 rotate_left
                 ·show Act.put _ (some 92) _ = _
                  exact qp_
                 exact a1e (by simp only [a2x, Act.put, List.setIfInBounds_toArray, List.set_cons_zero, List.set_cons_succ]) (hCont (v459, v462, v465) _ ⟨hHeld, (by (with_reducible repeat (first | apply Kd.a0m | apply Kd.a0n | apply Kd.a0p)); exact Kd.a0x HO463.out (fun _ hk => hk.2)), (by (with_reducible repeat (first | apply Kd.a0m | apply Kd.a0n | apply Kd.a0p)); exact Kd.a0x HO466.out (fun _ hk => hk.2)), (qk_ BK444), qb_⟩)
                ·skip
                 refine Kd.a1z k26 _ 26 ?hg (N := 92) ?hd (xs := ([(⟨a0_0, a2, a3, a4⟩ : S26)] : List (S26))) (inner := [.int .i64 a0_0, .int .i64 a2, .int .i64 a3, .int .i64 a4]) (ok := fun _ => True) (okp := fun _ => True) ?hr ?hp (fun _ hk => hk) trivial (Below.refl _ _) (Nat.le_refl _) (by simp) ?_; (case hd => rfl); (case hg => rfl); (case hr => exact qq_); (case hp => exact (Reps.c4 (show Kd.M k26 _ _ _ (⟨a0_0, a2, a3, a4⟩ : S26) [.int .i64 a0_0, .int .i64 a2, .int .i64 a3, .int .i64 a4] from (a2o _ _ _ (⟨a0_0, a2, a3, a4⟩ : S26) )) (Reps.none _ _)))
                 intro v465 w112 ho113 hb hg_ hnew_
                 clear hg_ hnew_
                 (first | rw [← Ny464.out] at ho113 | (simp only [Int.reduceToNat] at ho113; rw [← Ny464.out] at ho113))
                 have HO466 := am_ (Kd.a1l (Kd.a2d ho113 (Kd.R_lt (qr_ HO460))) (a0s qb_))
                 replace HO460 := qel_ HO460 ho113 hb
                 replace BK444 := qkb_ BK444 hb
                 replace HB := qbs_ hb
                 clear hb ho113
                 refine hK.out _ _ ⟨(bc_ BK444.out 0).trans rfl, (bc_ BK444.out 1).trans rfl, (bc_ BK444.out 2).trans rfl, (bc_ BK444.out 3).trans rfl, (bc_ BK444.out 4).trans rfl, (bc_ BK444.out 5).trans rfl⟩ (fun hHeld => ?_)
                 clear hK K
                 refine a1e (a' := ?_) ?_ ?_
                 rotate_left
                 ·show Act.put _ (some 92) _ = _
                  exact qp_
                 refine one_ (i := 3) (N := some 85) #[o_,o_,o_,o_,o_,o_,o_,o_,o_,o_,o_,i_,o_,i_,i_,i_,i_,i_,i_] rfl rfl (a1q HT_.out (by kernel_rfl)) (by decide) (fun K hK => ?_)
                 refine Kd.a1j k26 (w0 := w) w.heap.size (by rfl) (.tmp 83) (.tmp 84) 23 26 (.agg #[(.int .i64 0), (.int .i64 0), (.int .i64 0), (.int .i64 0)]) 32 rfl Try.underlying23 a2y rfl (by decide) (by omega) v459 y458 l1 _ _ _ (fun k_ => some k_ ≠ (v465 : Value).ownBlock) (fun _ => False) rfl rfl ?aO ?aR (fun _ _ h => h) (fun _ h => h.elim) ?aF ?aB ?aS ?aL ?_
                 (case aR => repeat (first | exact (Kd.a2w HR1.out HB.out) | (with_reducible refine Kd.a2h ?_ _) | (with_reducible refine Kd.a2i ?_ _) | (with_reducible refine Kd.a2p ?_)))
                 (case aB => exact qb_)
                 (case aF => exact (fun k_ hk => Kd.fresh' (Kd.R_lt (qr_ HO466)) k_ hk))
                 (case aO => exact (by (with_reducible repeat (first | apply Kd.a0m | apply Kd.a0n | apply Kd.a0p)); exact Kd.a0x HO460.out (fun _ hk => hk.2)))
                 (case aS => exact (a0s qb_))
                 (case aL => have := LMc46.out; omega)
                 intro v462 w114 ho hb hg hat
                 rw [← Ny461.out] at ho
                 replace BK444 := am_ (a1t (g := gb444) (o := .cells #[.int .i64 a0_0, .int .i64 a0_1, .int .i64 a0_2, .int .i64 a0_3, .int .i64 a0_4, .int .i64 a0_5] 30 (0, 0)) (qk_ BK444) hg (Kd.R_ne HO460.out BK444.out (by decide)))
                 replace HO466 := am_ (Kd.a3e (ok := (fun _ => True)) (qr_ HO466) hg hat)
                 replace HB := am_ (hb)
                 have HO463 := am_ (ho)
                 clear HO460 ho hb hg hat
                 refine hK.out _ _ ⟨(bc_ BK444.out 0).trans rfl, (bc_ BK444.out 1).trans rfl, (bc_ BK444.out 2).trans rfl, (bc_ BK444.out 3).trans rfl, (bc_ BK444.out 4).trans rfl, (bc_ BK444.out 5).trans rfl⟩ (fun hHeld => ?_)
                 clear hK K
                 refine a1e (a' := ?_) ?_ ?_
                 rotate_left
                 ·show Act.put _ (some 85) _ = _
                  exact qp_
                 exact a1e (by simp only [a2x, Act.put, List.setIfInBounds_toArray, List.set_cons_zero, List.set_cons_succ]) (hCont (v459, v462, v465) _ ⟨hHeld, (qr_ HO463), (by (with_reducible repeat (first | apply Kd.a0m | apply Kd.a0n | apply Kd.a0p)); exact Kd.a0x HO466.out (fun _ hk => hk.2)), (qk_ BK444), qb_⟩)
               ·skip
                refine Kd.a1z k26 _ 26 ?hg (N := 92) ?hd (xs := ([(⟨a0_0, a2, a3, a4⟩ : S26)] : List (S26))) (inner := [.int .i64 a0_0, .int .i64 a2, .int .i64 a3, .int .i64 a4]) (ok := fun _ => True) (okp := fun _ => True) ?hr ?hp (fun _ hk => hk) trivial (Below.refl _ _) (Nat.le_refl _) (by simp) ?_; (case hd => rfl); (case hg => rfl); (case hr => exact qq_); (case hp => exact (Reps.c4 (show Kd.M k26 _ _ _ (⟨a0_0, a2, a3, a4⟩ : S26) [.int .i64 a0_0, .int .i64 a2, .int .i64 a3, .int .i64 a4] from (a2o _ _ _ (⟨a0_0, a2, a3, a4⟩ : S26) )) (Reps.none _ _)))
                intro v465 w110 ho111 hb hg_ hnew_
                clear hg_ hnew_
                (first | rw [← Ny464.out] at ho111 | (simp only [Int.reduceToNat] at ho111; rw [← Ny464.out] at ho111))
                have HO466 := am_ (Kd.a1l ho111 (a0s qb_))
                replace BK444 := qkb_ BK444 hb
                replace HB := qbs_ hb
                clear hb ho111
                refine hK.out _ _ ⟨(bc_ BK444.out 0).trans rfl, (bc_ BK444.out 1).trans rfl, (bc_ BK444.out 2).trans rfl, (bc_ BK444.out 3).trans rfl, (bc_ BK444.out 4).trans rfl, (bc_ BK444.out 5).trans rfl⟩ (fun hHeld => ?_)
                clear hK K
                refine a1e (a' := ?_) ?_ ?_
                rotate_left
                ·show Act.put _ (some 92) _ = _
                 exact qp_
                refine one_ (i := 1) (N := some 83) #[o_,o_,o_,i_,o_,o_,o_,o_,o_,o_,o_,i_,o_,i_,i_,i_,i_,i_,i_] rfl rfl (a1q HT_.out (by kernel_rfl)) (by decide) (fun K hK => ?_)
                refine Kd.a1z k26 _ 26 ?hg (N := 83) ?hd (xs := ([] : List (S26))) (inner := []) (ok := fun _ => True) (okp := fun _ => True) ?hr ?hp (fun _ hk => hk) trivial (Below.refl _ _) (Nat.le_refl _) (by simp) ?_; (case hd => rfl); (case hg => rfl); (case hr => exact qq_); (case hp => exact (Reps.none _ _))
                intro v459 w112 ho113 hb hg_ hnew_
                clear hg_ hnew_
                (first | rw [← Ny458.out] at ho113 | (simp only [Int.reduceToNat] at ho113; rw [← Ny458.out] at ho113))
                have HO460 := am_ (Kd.a1l (Kd.a2d ho113 (Kd.R_lt (qr_ HO466))) (a0s qb_))
                replace HO466 := qel_ HO466 ho113 hb
                replace BK444 := qkb_ BK444 hb
                replace HB := qbs_ hb
                clear hb ho113
                refine hK.out _ _ ⟨(bc_ BK444.out 0).trans rfl, (bc_ BK444.out 1).trans rfl, (bc_ BK444.out 2).trans rfl, (bc_ BK444.out 3).trans rfl, (bc_ BK444.out 4).trans rfl, (bc_ BK444.out 5).trans rfl⟩ (fun hHeld => ?_)
                clear hK K
                refine a1e (a' := ?_) ?_ ?_
                rotate_left
                ·show Act.put _ (some 83) _ = _
                 exact qp_
                refine one_ (i := 3) (N := some 85) #[o_,o_,o_,o_,o_,o_,o_,o_,o_,o_,o_,i_,o_,i_,i_,i_,i_,i_,i_] rfl rfl (a1q HT_.out (by kernel_rfl)) (by decide) (fun K hK => ?_)
                refine Kd.a1j k26 (w0 := w) w.heap.size (by rfl) (.tmp 83) (.tmp 84) 23 26 (.agg #[(.int .i64 0), (.int .i64 0), (.int .i64 0), (.int .i64 0)]) 32 rfl Try.underlying23 a2y rfl (by decide) (by omega) v459 y458 l1 _ _ _ (fun k_ => some k_ ≠ (v465 : Value).ownBlock) (fun _ => False) rfl rfl ?aO ?aR (fun _ _ h => h) (fun _ h => h.elim) ?aF ?aB ?aS ?aL ?_
                (case aR => repeat (first | exact (Kd.a2w HR1.out HB.out) | (with_reducible refine Kd.a2h ?_ _) | (with_reducible refine Kd.a2i ?_ _) | (with_reducible refine Kd.a2p ?_)))
                (case aB => exact qb_)
                (case aF => exact (fun k_ hk => Kd.fresh' (Kd.R_lt (qr_ HO466)) k_ hk))
                (case aO => exact (by (with_reducible repeat (first | apply Kd.a0m | apply Kd.a0n | apply Kd.a0p)); exact Kd.a0x HO460.out (fun _ hk => hk.2)))
                (case aS => exact (a0s qb_))
                (case aL => have := LMc46.out; omega)
                intro v462 w114 ho hb hg hat
                rw [← Ny461.out] at ho
                replace BK444 := am_ (a1t (g := gb444) (o := .cells #[.int .i64 a0_0, .int .i64 a0_1, .int .i64 a0_2, .int .i64 a0_3, .int .i64 a0_4, .int .i64 a0_5] 30 (0, 0)) (qk_ BK444) hg (Kd.R_ne HO460.out BK444.out (by decide)))
                replace HO466 := am_ (Kd.a3e (ok := (fun _ => True)) (qr_ HO466) hg hat)
                replace HB := am_ (hb)
                have HO463 := am_ (ho)
                clear HO460 ho hb hg hat
                refine hK.out _ _ ⟨(bc_ BK444.out 0).trans rfl, (bc_ BK444.out 1).trans rfl, (bc_ BK444.out 2).trans rfl, (bc_ BK444.out 3).trans rfl, (bc_ BK444.out 4).trans rfl, (bc_ BK444.out 5).trans rfl⟩ (fun hHeld => ?_)
                clear hK K
                refine a1e (a' := ?_) ?_ ?_
                rotate_left
                ·show Act.put _ (some 85) _ = _
                 exact qp_
                exact a1e (by simp only [a2x, Act.put, List.setIfInBounds_toArray, List.set_cons_zero, List.set_cons_succ]) (hCont (v459, v462, v465) _ ⟨hHeld, (qr_ HO463), (by (with_reducible repeat (first | apply Kd.a0m | apply Kd.a0n | apply Kd.a0p)); exact Kd.a0x HO466.out (fun _ hk => hk.2)), (qk_ BK444), qb_⟩)
              rintro ⟨v459, v462, v465⟩ w115 ⟨hS_, h0_, h1_, h2_, h3_⟩
              have HO463 : Aside0 (Kd.R k26 26 w115 w.heap.size (fun k_ => some k_ ≠ (v465 : Value).ownBlock) v462 y461) := ⟨h0_⟩
              have HO466 : Aside0 (Kd.R k26 26 w115 w.heap.size (fun k_ => some k_ ≠ (v462 : Value).ownBlock) v465 y464) := ⟨h1_⟩
              replace BK444 : Aside0 (w115.heap[gb444]? = some (.cells #[.int .i64 a0_0, .int .i64 a0_1, .int .i64 a0_2, .int .i64 a0_3, .int .i64 a0_4, .int .i64 a0_5] 30 (0, 0))) := ⟨h2_⟩
              replace HB : Aside0 (Below w.heap.size w w115) := ⟨h3_⟩
              clear h0_ h1_ h2_ h3_
              have hHeld : w115.cell? ⟨gb444, 0, none⟩ = some (.int .i64 a0_0) ∧ w115.cell? ⟨gb444, 1, none⟩ = some (.int .i64 a0_1) ∧ w115.cell? ⟨gb444, 2, none⟩ = some (.int .i64 a0_2) ∧ w115.cell? ⟨gb444, 3, none⟩ = some (.int .i64 a0_3) ∧ w115.cell? ⟨gb444, 4, none⟩ = some (.int .i64 a0_4) ∧ w115.cell? ⟨gb444, 5, none⟩ = some (.int .i64 a0_5) := hS_
              obtain ⟨Ao117, co117, eo117⟩ := Kd.a1m HO466.out
              (first | subst eo117 | (injection eo117 with f1_ f2_ f3_; have f4_ := f1_.symm; have f5_ := f3_.symm; clear f1_ f2_ f3_; subst f4_; subst f5_))
              refine a1e (a' := ?_) ?_ ?_
              rotate_left
              ·simp only [a2x, Act.put, List.setIfInBounds_toArray, List.set_cons_zero, List.set_cons_succ]
               rfl
              refine one_ (i := 11) (N := some 93) #[o_,o_,o_,o_,o_,o_,o_,o_,o_,o_,o_,o_,o_,i_,i_,i_,i_,i_,i_] rfl rfl (a1q HT_.out (by kernel_rfl)) (by decide) (fun K hK => ?_)
              refine Kd.a1j k26 (w0 := w) w.heap.size (by rfl) (.tmp 85) (.tmp 92) 23 26 (.agg #[(.int .i64 0), (.int .i64 0), (.int .i64 0), (.int .i64 0)]) 32 rfl Try.underlying23 a2y rfl (by decide) (by omega) v462 y461 y464 _ _ _ (fun k_ => some k_ ≠ (.slice Ao117 y464.length co117 : Value).ownBlock) (fun _ => False) rfl rfl ?aO ?aR (fun _ _ h => h) (fun _ h => h.elim) ?aF ?aB ?aS ?aL ?_
              (case aR => repeat (first | exact (Kd.a0o HO466.out).2.2 | (with_reducible refine Kd.a2h ?_ _) | (with_reducible refine Kd.a2i ?_ _) | (with_reducible refine Kd.a2p ?_)))
              (case aB => exact qb_)
              (case aF => exact (fun k_ hk => Kd.fresh' (Kd.R_lt (qr_ HO466)) k_ hk))
              (case aO => exact (qr_ HO463))
              (case aS => exact (a0s qb_))
              (case aL => have := LMc47.out; omega)
              intro v468 w116 ho hb hg hat
              rw [← Ny467.out] at ho
              replace BK444 := am_ (a1t (g := gb444) (o := .cells #[.int .i64 a0_0, .int .i64 a0_1, .int .i64 a0_2, .int .i64 a0_3, .int .i64 a0_4, .int .i64 a0_5] 30 (0, 0)) (qk_ BK444) hg (Kd.R_ne HO463.out BK444.out (by decide)))
              replace HO466 := am_ (Kd.a3e (ok := (fun _ => True)) (by (with_reducible repeat (first | apply Kd.a0m | apply Kd.a0n | apply Kd.a0p)); exact Kd.a0x HO466.out (fun _ hk => ⟨trivial, hk⟩)) hg hat)
              replace HB := am_ (hb)
              have HO469 := am_ (ho)
              clear HO463 ho hb hg hat
              obtain ⟨Ao118, co118, eo118⟩ := Kd.a1m HO469.out
              (first | subst eo118 | (injection eo118 with f1_ f2_ f3_; have f4_ := f1_.symm; have f5_ := f3_.symm; clear f1_ f2_ f3_; subst f4_; subst f5_))
              refine hK.out _ _ ⟨(bc_ BK444.out 0).trans rfl, (bc_ BK444.out 1).trans rfl, (bc_ BK444.out 2).trans rfl, (bc_ BK444.out 3).trans rfl, (bc_ BK444.out 4).trans rfl, (bc_ BK444.out 5).trans rfl⟩ (fun hHeld => ?_)
              clear hK K
              refine a1e (a' := ?_) ?_ ?_
              rotate_left
              ·show Act.put _ (some 93) _ = _
               exact qp_
              refine one_ (i := 13) (N := some 95) #[o_,o_,o_,o_,o_,o_,o_,o_,o_,o_,o_,o_,o_,o_,i_,i_,i_,i_,i_] rfl rfl (a1q HT_.out (by kernel_rfl)) (by decide) (fun K hK => ?_)
              refine a4l Try.func9 (by kernel_rfl) rfl #[.agg #[.int .i64 a0_0, .int .i64 a0_1, .int .i64 a0_2, .int .i64 a0_3, .int .i64 a0_4, .int .i64 a0_5], .slice Ao118 y467.length co118, .int .i64 a4] (by rfl) rfl rfl ql_ ?_
              with_reducible refine (a0q.calls kj39 a0_0 a0_1 a0_2 a0_3 a0_4 a0_5 _ _ y467 a4 t470 t471 _ ?s1 ?s2 A48.out).mono ?_
              (case s1 => exact qv_ (Kd.a0o HO469.out).2.2)
              (case s2 => exact (Kd.a0o HO469.out).2.1)
              rintro e w119 ⟨rfl, hb⟩
              refine ⟨_, rfl, ?_⟩
              replace HO466 := qrb_ HO466 hb
              replace HO469 := qrb_ HO469 hb
              replace BK444 := qkb_ BK444 hb
              replace HB := qbs_ hb
              (try clear hb)
              (try clear hb2)
              (try clear hk)
              (try clear hi)
              refine hK.out _ _ ⟨(bc_ BK444.out 0).trans rfl, (bc_ BK444.out 1).trans rfl, (bc_ BK444.out 2).trans rfl, (bc_ BK444.out 3).trans rfl, (bc_ BK444.out 4).trans rfl, (bc_ BK444.out 5).trans rfl⟩ (fun hHeld => ?_)
              clear hK K
              refine a1e (a' := ?_) ?_ ?_
              rotate_left
              ·show Act.put _ (some 95) _ = _
               exact qp_
              refine qpu_ 14 (some 81) #[o_,o_,o_,o_,o_,o_,o_,o_,o_,o_,o_,o_,o_,o_,o_,i_,i_,i_,i_] ?_
              refine qpu_ 15 (some 96) #[o_,o_,o_,o_,o_,o_,o_,o_,o_,o_,o_,o_,o_,o_,o_,o_,i_,i_,i_] ?_
              refine qpu_ 16 (some 97) #[o_,o_,o_,o_,o_,o_,o_,o_,o_,o_,o_,o_,o_,o_,o_,o_,o_,i_,i_] ?_
              refine qpu_ 17 (some 19) #[o_,o_,o_,o_,o_,o_,o_,o_,o_,o_,o_,o_,o_,o_,o_,o_,o_,o_,i_] ?_
              refine qpu_ 18 (some 20) #[o_,o_,o_,o_,o_,o_,o_,o_,o_,o_,o_,o_,o_,o_,o_,o_,o_,o_,o_] ?_
              refine a3p (a2t HT_.out (by kernel_rfl)) ?_
              try go_wp2
              go_ret
              exact ⟨qx_, qb_⟩
           ·rw [if_neg c47] at H
            exact absurd H (by simp)
          ·rw [if_neg c46] at H
           exact absurd H (by simp)
end Go.Proofs.Ytfbgkcadnmcakaa.Px
