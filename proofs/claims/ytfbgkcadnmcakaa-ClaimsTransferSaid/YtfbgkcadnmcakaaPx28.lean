/- Contracts of Go functions, printed. Conditions: as each theorem states. -/
import Derived.Test.YtfbgkcadnmcakaaPx0
import Derived.Test.YtfbgkcadnmcakaaPx11
import Derived.Test.YtfbgkcadnmcakaaPx16
import Derived.Test.YtfbgkcadnmcakaaPx27
namespace Go.Proofs.Ytfbgkcadnmcakaa.Px
open Go.Proofs.Ytfbgkcadnmcakaa.Given
open Go.RowKit Go.Proofs.YtfbgkcadnmcakaaW.PrintWords Go.Proofs.YtfbgkcadnmcakaaW.PrintLast Go.Proofs.YtfbgkcadnmcakaaW.PrintMore
attribute [local go_sem] a2s a2q a3b a2z a2m a2n a2t a2u
set_option linter.unusedVariables false
set_option linter.unusedSimpArgs false
mutual
def a0d.j0 : Nat → List (S26) → Int → Int → Int → Bool → Bool → List (S30) → Int → Option (Bool)
 | 0, _, _, _, _, _, _, _, _ => none
 | k + 1, x1, x2, x3, x4, x13, x45, u0, u1 => if x45 = true then (some x13) else (a0d.l0 k x1 x2 x3 x4 x13 x1 (x1.length : Int) 0 u0 u1)
def a0d.l0 : Nat → List (S26) → Int → Int → Int → Bool → List (S26) → Int → Int → List (S30) → Int → Option (Bool)
 | 0, _, _, _, _, _, _, _, _, _, _ => none
 | k + 1, x1, x2, x3, x4, x13, x47, x48, x49, u0, u1 => if x49 < x48 then (if 0 ≤ x49 then (if x49 < (x47.length : Int) then (if ((a0c x47 x49).f3) ≥ x4 then (some x13) else (a0d.l0 k x1 x2 x3 x4 x13 x47 x48 (wrap64 (x49 + 1)) u0 u1)) else (none)) else (none)) else (if 0 ≤ x2 then (if x2 < (u0.length : Int) then ((a0t.f k ((a0b u0 x2).f0) ((a0b u0 x2).f1) ((a0b u0 x2).f2) ((a0b u0 x2).f3) ((a0b u0 x2).f4.f0) ((a0b u0 x2).f4.f1) x1 x4).bind fun bt506 => (if bt506.2 = 0 then (a0d.j2 k x1 x3 x4 x13 bt506.1 (x3 == bt506.1) u0 u1 ((a0b u0 x2).f0) ((a0b u0 x2).f1) ((a0b u0 x2).f2) ((a0b u0 x2).f3) ((a0b u0 x2).f4.f0) ((a0b u0 x2).f4.f1)) else (a0d.j2 k x1 x3 x4 x13 bt506.1 true u0 u1 ((a0b u0 x2).f0) ((a0b u0 x2).f1) ((a0b u0 x2).f2) ((a0b u0 x2).f3) ((a0b u0 x2).f4.f0) ((a0b u0 x2).f4.f1)))) else (none)) else (none))
def a0d.j2 : Nat → List (S26) → Int → Int → Bool → Int → Bool → List (S30) → Int → Int → Int → Int → Int → Int → Int → Option (Bool)
 | 0, _, _, _, _, _, _, _, _, _, _, _, _, _, _ => none
 | k + 1, x1, x3, x4, x13, x17, x76, u0, u1, u2, u3, u4, u5, u6, u7 => if x76 = true then (some x13) else ((some (([] : List (S26)) : List (S26))).bind fun y508 => (if y508.length + x1.length < 4398046511104 then ((some (y508 ++ x1 : List (S26))).bind fun y511 => ((some (([(⟨u2, x17, x3, x4⟩ : S26)] : List (S26)) : List (S26))).bind fun y514 => (if y511.length + y514.length < 4398046511104 then ((some (y511 ++ y514 : List (S26))).bind fun y517 => ((a0g.f k x1 x17 u0 u2 u3 u4 u5 u6 u7 u1).bind fun bt520 => ((a0g.f k y517 x3 u0 u2 u3 u4 u5 u6 u7 u1).bind fun bt522 => ((a0g.f k y517 x17 u0 u2 u3 u4 u5 u6 u7 u1).bind fun bt524 => (if bt520.2 = true then (if bt522.2 = true then (a0d.j3 k x13 bt520.1 bt522.1 bt524.1 (!bt524.2)) else (a0d.j3 k x13 bt520.1 bt522.1 bt524.1 true)) else (a0d.j3 k x13 bt520.1 bt522.1 bt524.1 true)))))) else (none)))) else (none)))
def a0d.j3 : Nat → Bool → Bool → Bool → Bool → Bool → Option (Bool)
 | 0, _, _, _, _, _ => none
 | k + 1, x13, x21, x23, x25, x120 => if x120 = true then (some x13) else (if x13 = true then (if (x23 == x21) = true then (some (!x25)) else (some false)) else (some false))
end
def a0d.f (k : Nat) (l0 : List (S30)) (l1 : List (S26)) (a2 a3 a4 a5 : Int) : Option (Bool) := (a0e.f k).bind fun t501 => (if (l1.length : Int) > 100 then (a0d.j0 k l1 a2 a3 a4 t501 true l0 a5) else (if a2 < 0 then (a0d.j0 k l1 a2 a3 a4 t501 true l0 a5) else (if a2 ≥ (l0.length : Int) then (a0d.j0 k l1 a2 a3 a4 t501 true l0 a5) else (a0d.j0 k l1 a2 a3 a4 t501 (decide (a5 < a4)) l0 a5))))
theorem a0d.a1o : ∀ k, (∀ y0 y1 y2 y3 y4 y5 y6 y7, LeO (a0d.j0 k y0 y1 y2 y3 y4 y5 y6 y7) (a0d.j0 (k + 1) y0 y1 y2 y3 y4 y5 y6 y7)) ∧ (∀ y0 y1 y2 y3 y4 y5 y6 y7 y8 y9, LeO (a0d.l0 k y0 y1 y2 y3 y4 y5 y6 y7 y8 y9) (a0d.l0 (k + 1) y0 y1 y2 y3 y4 y5 y6 y7 y8 y9)) ∧ (∀ y0 y1 y2 y3 y4 y5 y6 y7 y8 y9 y10 y11 y12 y13, LeO (a0d.j2 k y0 y1 y2 y3 y4 y5 y6 y7 y8 y9 y10 y11 y12 y13) (a0d.j2 (k + 1) y0 y1 y2 y3 y4 y5 y6 y7 y8 y9 y10 y11 y12 y13)) ∧ (∀ y0 y1 y2 y3 y4, LeO (a0d.j3 k y0 y1 y2 y3 y4) (a0d.j3 (k + 1) y0 y1 y2 y3 y4))
 | 0 => ⟨fun _ _ _ _ _ _ _ _ r h => by simp [a0d.j0] at h, fun _ _ _ _ _ _ _ _ _ _ r h => by simp [a0d.l0] at h, fun _ _ _ _ _ _ _ _ _ _ _ _ _ _ r h => by simp [a0d.j2] at h, fun _ _ _ _ _ r h => by simp [a0d.j3] at h⟩
 | k + 1 => by
  obtain ⟨ih0, ih1, ih2, ih3⟩ := a0d.a1o k
  refine ⟨?_, ?_, ?_, ?_⟩
  ·intro y0 y1 y2 y3 y4 y5 y6 y7
   unfold a0d.j0
   with_reducible (repeat' first | apply ih0 | apply ih1 | apply ih2 | apply ih3 | apply a0t.mono | apply a0g.mono | apply a0e.mono | apply LeO.refl | apply LeO.none | apply LeO.ite | refine LeO.bind ?_ (fun _ => ?_))
  ·intro y0 y1 y2 y3 y4 y5 y6 y7 y8 y9
   unfold a0d.l0
   with_reducible (repeat' first | apply ih0 | apply ih1 | apply ih2 | apply ih3 | apply a0t.mono | apply a0g.mono | apply a0e.mono | apply LeO.refl | apply LeO.none | apply LeO.ite | refine LeO.bind ?_ (fun _ => ?_))
  ·intro y0 y1 y2 y3 y4 y5 y6 y7 y8 y9 y10 y11 y12 y13
   unfold a0d.j2
   with_reducible (repeat' first | apply ih0 | apply ih1 | apply ih2 | apply ih3 | apply a0t.mono | apply a0g.mono | apply a0e.mono | apply LeO.refl | apply LeO.none | apply LeO.ite | refine LeO.bind ?_ (fun _ => ?_))
  ·intro y0 y1 y2 y3 y4
   unfold a0d.j3
   with_reducible (repeat' first | apply ih0 | apply ih1 | apply ih2 | apply ih3 | apply a0t.mono | apply a0g.mono | apply a0e.mono | apply LeO.refl | apply LeO.none | apply LeO.ite | refine LeO.bind ?_ (fun _ => ?_))
theorem a0d.mono : ∀ a0 a1 a2 a3 a4 a5 k, LeO (a0d.f k a0 a1 a2 a3 a4 a5) (a0d.f (k + 1) a0 a1 a2 a3 a4 a5) := by
 intro a0 a1 a2 a3 a4 a5 k
 obtain ⟨ih0, ih1, ih2, ih3⟩ := a0d.a1o k
 unfold a0d.f
 with_reducible (repeat' first | apply ih0 | apply ih1 | apply ih2 | apply ih3 | apply a0t.mono | apply a0g.mono | apply a0e.mono | apply LeO.refl | apply LeO.none | apply LeO.ite | refine LeO.bind ?_ (fun _ => ?_))
def a0d.T14 : Bool × List (List Nat × List Nat) := (true, [([], []), ([], []), ([0, 1], [0, 1]), ([], []), ([3], [3]), ([], []), ([], []), ([], []), ([4, 5, 6, 7], [4, 5, 6, 7]), ([8], [8]), ([2, 9, 2], [2, 9]), ([10, 10, 0, 1, 2, 3, 4, 5, 6, 7, 8, 9, 10], [10])])
def a0d.B14 : List Nat := [0, 0, 3, 0, 8, 0, 0, 0, 248, 504, 1023, 2047]
theorem a0d.b6s : rtab .any (opsOf Try.f3 14) = a0d.T14 := by kernel_rfl
theorem a0d.b5s : a3i a0d.T14.2 a0d.B14 = true := by kernel_rfl
set_option maxHeartbeats 8000000 in
set_option maxRecDepth 100000 in
theorem a0d.calls (k : Nat) (A0 : Option Addr) (c0 : Nat) (l0 : List (S30)) (A1 : Option Addr) (c1 : Nat) (l1 : List (S26)) (a2 a3 a4 a5 : Int) (r : Bool) (w : World) (hr0 : Kd.C k30 w A0 l0.length l0) (hc0 : l0.length ≤ c0) (hr1 : Kd.C k26 w A1 l1.length l1) (hc1 : l1.length ≤ c1) (h : a0d.f k l0 l1 a2 a3 a4 a5 = some r) :
  Calls Try.prog 3 #[.slice A0 l0.length c0, .slice A1 l1.length c1, .int .i64 a2, .int .i64 a3, .int .i64 a4, .int .i64 a5] w fun e w' => e = .returned (.bool r) ∧ Below w.heap.size w w' := by
 have hu26 := Try.underlying26
 have hu30 := Try.underlying30
 have HR0 := am_ hr0
 have HC0 := am_ hc0
 clear hr0 hc0
 have HR1 := am_ hr1
 have HC1 := am_ hc1
 clear hr1 hc1
 have HB := am_ (Below.refl w.heap.size w)
 have H : ((a0e.f k).bind fun t501 => (if (l1.length : Int) > 100 then (a0d.j0 k l1 a2 a3 a4 t501 true l0 a5) else (if a2 < 0 then (a0d.j0 k l1 a2 a3 a4 t501 true l0 a5) else (if a2 ≥ (l0.length : Int) then (a0d.j0 k l1 a2 a3 a4 t501 true l0 a5) else (a0d.j0 k l1 a2 a3 a4 t501 (decide (a5 < a4)) l0 a5))))) = some r := h
 clear h
 replace H := bm_ H
 obtain ⟨t501, A70, H⟩ := H
 replace H : (if (l1.length : Int) > 100 then (a0d.j0 k l1 a2 a3 a4 t501 true l0 a5) else (if a2 < 0 then (a0d.j0 k l1 a2 a3 a4 t501 true l0 a5) else (if a2 ≥ (l0.length : Int) then (a0d.j0 k l1 a2 a3 a4 t501 true l0 a5) else (a0d.j0 k l1 a2 a3 a4 t501 (decide (a5 < a4)) l0 a5)))) = some r := H
 have A7 := am_ A70
 clear A70
 have HC8 := am_ H
 clear H
 go_enter Try.func3, Try.ntmps3
 go_upto_region 2 with (first | ((with_reducible refine a1d (N := 6) rfl ?_); (try (refine a1u (by rfl) ?_; dsimp only)); refine qev_ 6 #[.slice A0 l0.length c0] 22 ?_; intro gb499 hg w9 hbox hb; have BK499 := am_ (hbox); have GW499 := qga_ hg; have GE499 := qga_ hg; replace HB := qbs_ hb; clear hb hbox hg) | ((with_reducible refine a1d (N := 11) rfl ?_); (try (refine a1u (by rfl) ?_; dsimp only)); refine qev_ 11 #[.int .i64 a5] 3 ?_; intro gb500 hg w10 hbox hb; have BK500 := am_ (hbox); have GW500 := qga_ hg; have GE500 := qga_ hg; replace HB := qbs_ hb; have NB499_500 := am_ ((by rw [hg]; exact Nat.ne_of_lt (a1q (qk_ BK499)) : gb499 ≠ gb500)); have NB500_499 := am_ ((by rw [hg]; exact Nat.ne_of_gt (a1q (qk_ BK499)) : gb500 ≠ gb499)); replace BK499 := qkb_ BK499 hb; clear hb hbox hg) | ((with_reducible refine a0z (f := 8) rfl ?_); refine a1s (some 27) rfl rfl Try.func8 (by kernel_rfl) rfl #[] rfl ql_ ?_; (with_reducible refine (a0e.calls k  t501 _ A7.out).mono ?_); rintro e w11 ⟨rfl, hb⟩; refine ⟨_, rfl, ?_⟩; replace BK499 := qkb_ BK499 hb; replace BK500 := qkb_ BK500 hb; replace HB := qbs_ hb; (try clear hb); (try clear hb2); (try clear hk); (try clear hi)))
 (try simp only [Act.put, List.setIfInBounds_toArray, List.set_cons_zero, List.set_cons_succ])
 go_cut [45] (fun v45 wc => ∃ (kq : Nat) (x45_7 : Bool), v45 = .bool x45_7 ∧ Aside0 (a0d.j0 kq l1 a2 a3 a4 t501 x45_7 l0 a5 = some r) ∧ Aside0 (kq ≤ k) ∧ Aside0 (wc.heap[gb499]? = some (.cells #[(.slice A0 l0.length c0)] 22 (0, 0))) ∧ Aside0 (wc.heap[gb500]? = some (.cells #[.int .i64 a5] 3 (0, 0))) ∧ Aside0 (Below w.heap.size w wc))
 case first =>
  have H := HC8.out
  clear HC8
  by_cases c12 : (l1.length : Int) > 100
  ·rw [if_pos c12] at H
   have c12b0 : decide (100 < (l1.length : Int)) = true := decide_eq_true c12
   have c12b1 : decide (100 < l1.length) = true := decide_eq_true (by omega)
   clear c12
   (first | rw [c12b0] | (simp only [a2w, a3p]; rw [c12b0]) | skip)
   have H' := am_ H
   clear H
   go_wp2
   go_meet
   case rel => exact ⟨_, (true), qs_, H', ⟨qo_⟩, ⟨qk_ BK499⟩, ⟨qk_ BK500⟩, ⟨qb_⟩⟩
  ·rw [if_neg c12] at H
   have c12b0 : decide (100 < (l1.length : Int)) = false := decide_eq_false c12
   have c12b1 : decide (100 < l1.length) = false := decide_eq_false (by omega)
   clear c12
   (first | rw [c12b0] | (simp only [a2w, a3p]; rw [c12b0]) | skip)
   by_cases c13 : a2 < 0
   ·rw [if_pos c13] at H
    have c13b0 : decide (a2 < 0) = true := decide_eq_true c13
    clear c13
    have H' := am_ H
    clear H
    go_wp2
    go_meet
    case rel => exact ⟨_, (true), qs_, H', ⟨qo_⟩, ⟨qk_ BK499⟩, ⟨qk_ BK500⟩, ⟨qb_⟩⟩
   ·rw [if_neg c13] at H
    have c13b0 : decide (a2 < 0) = false := decide_eq_false c13
    clear c13
    by_cases c14 : a2 ≥ (l0.length : Int)
    ·rw [if_pos c14] at H
     have c14b0 : decide ((l0.length : Int) ≤ a2) = true := decide_eq_true c14
     clear c14
     have H' := am_ H
     clear H
     have hnb15 := NB499_500.out
     have hnc15 := NB500_499.out
     have z'16_0 : w11.cell? ⟨gb499, 0, none⟩ = some (.slice A0 l0.length c0) := (bc_ BK499.out 0).trans rfl
     have y'16_0 := bf_ BK499.out 0
     go_wp2
     go_meet
     case rel => exact ⟨_, (true), qs_, H', ⟨qo_⟩, ⟨qk_ BK499⟩, ⟨qk_ BK500⟩, ⟨qb_⟩⟩
    ·rw [if_neg c14] at H
     have c14b0 : decide ((l0.length : Int) ≤ a2) = false := decide_eq_false c14
     clear c14
     have H' := am_ H
     clear H
     have hnb17 := NB499_500.out
     have hnc17 := NB500_499.out
     have z'18_0 : w11.cell? ⟨gb499, 0, none⟩ = some (.slice A0 l0.length c0) := (bc_ BK499.out 0).trans rfl
     have y'18_0 := bf_ BK499.out 0
     have z'19_0 : w11.cell? ⟨gb500, 0, none⟩ = some (.int .i64 a5) := (bc_ BK500.out 0).trans rfl
     have y'19_0 := bf_ BK500.out 0
     go_wp2
     go_meet
     case rel => exact ⟨_, (decide (a5 < a4)), qs_, H', ⟨qo_⟩, ⟨qk_ BK499⟩, ⟨qk_ BK500⟩, ⟨qb_⟩⟩
 case rest =>
  clear HC8
  try clear c1
  try clear p2
  try clear c3
  try clear c8
  try clear c12
  try clear c12b0
  try clear c12b1
  try clear c13
  try clear c13b0
  try clear c14
  try clear c14b0
  try clear c15
  try clear c17
  try clear z'16_0
  try clear z'18_0
  try clear z'19_0
  try clear y'16_0
  try clear y'18_0
  try clear y'19_0
  obtain ⟨kq, x45_7, rfl, HA, HJ7, BK499, BK500, HB⟩ := hcut
  cases kq with
  | zero => exact absurd HA.out (by simp [a0d.j0])
  | succ kj7 =>
   have H := HA.out
   clear HA
   simp only [a0d.j0] at H
   by_cases c20 : x45_7 = true
   ·subst c20
    have H1 : (some t501) = some r := by rw [if_pos rfl] at H; exact H
    clear H
    have H := H1
    clear H1
    obtain rfl := si_ H
    go_wp2
    go_ret
    exact ⟨qx_, qb_⟩
   ·replace c20 := be_ c20
    subst c20
    have H1 : (a0d.l0 kj7 l1 a2 a3 a4 t501 l1 (l1.length : Int) 0 l0 a5) = some r := by rw [if_neg (show ¬ (false = true) by decide)] at H; exact H
    clear H
    have H := H1
    clear H1
    have H' := am_ H
    clear H
    go_wp2
    go_loopg [49] kj7 (fun kq v49 w' => ∃ (x49_2 : Int), v49 = .int .i64 x49_2 ∧ Aside0 (a0d.l0 kq l1 a2 a3 a4 t501 l1 (l1.length : Int) x49_2 l0 a5 = some r) ∧ Aside0 (kq ≤ kj7) ∧ Aside0 (w'.heap[gb499]? = some (.cells #[(.slice A0 l0.length c0)] 22 (0, 0))) ∧ Aside0 (w'.heap[gb500]? = some (.cells #[.int .i64 a5] 3 (0, 0))) ∧ Aside0 (Below w.heap.size w w'))
    case atStart => exact ⟨(0), qs_, H', ⟨Nat.le_refl _⟩, ⟨qk_ BK499⟩, ⟨qk_ BK500⟩, ⟨qb_⟩⟩
    case round =>
     clear H'
     try clear c1
     try clear c2
     try clear p2
     try clear c3
     try clear c8
     try clear c12
     try clear c12b0
     try clear c12b1
     try clear c13
     try clear c13b0
     try clear c14
     try clear c14b0
     try clear c15
     try clear c17
     try clear c20
     try clear z'16_0
     try clear z'18_0
     try clear z'19_0
     try clear y'16_0
     try clear y'18_0
     try clear y'19_0
     try clear p2
     obtain ⟨x49_2, rfl, HA, HK2, BK499, BK500, HB⟩ := hrel
     cases gk with
     | zero => exact absurd HA.out (by simp [a0d.l0])
     | succ k2 =>
      have H := HA.out
      clear HA
      simp only [a0d.l0] at H
      by_cases c21 : x49_2 < (l1.length : Int)
      ·rw [if_pos c21] at H
       have c21b0 : decide (x49_2 < (l1.length : Int)) = true := decide_eq_true c21
       clear c21
       by_cases c22 : 0 ≤ x49_2
       ·rw [if_pos c22] at H
        have c22b0 : decide (0 ≤ x49_2) = true := decide_eq_true c22
        clear c22
        by_cases c23 : x49_2 < (l1.length : Int)
        ·rw [if_pos c23] at H
         have c23b0 : decide (x49_2 < (l1.length : Int)) = true := decide_eq_true c23
         clear c23
         by_cases c24 : ((a0c l1 x49_2).f3) ≥ a4
         ·rw [if_pos c24] at H
          have c24b0 : decide (a4 ≤ ((a0c l1 x49_2).f3)) = true := decide_eq_true c24
          clear c24
          obtain rfl := si_ H
          have p502 : 0 ≤ (x49_2 : Int) := ot_
          have q502 : x49_2 < (l1.length : Int) := ot_
          obtain ⟨ad502, e502, hx502_0, hx502_1, hx502_2, hx502_3⟩ := a2o HR1.out x49_2 p502 q502
          cases e502
          replace hx502_0 := qh_ HB hx502_0
          replace hx502_1 := qh_ HB hx502_1
          replace hx502_2 := qh_ HB hx502_2
          replace hx502_3 := qh_ HB hx502_3
          replace p502 := eq_true p502
          replace q502 := eq_true q502
          go_wp2_with (first | ((with_reducible refine a1d (N := 15) rfl ?_); (try (refine a1u (by rfl) ?_; dsimp only)); refine qev_ 15 #[.int .i64 0, .int .i64 0, .int .i64 0, .int .i64 0] 26 ?_; intro gb503 hg w25 hbox hb; have BK503 := am_ (hbox); have GW503 := qga_ hg; have GE503 := qga_ hg; replace HB := qbs_ hb; have NB499_503 := am_ ((by rw [hg]; exact Nat.ne_of_lt (a1q (qk_ BK499)) : gb499 ≠ gb503)); have NB503_499 := am_ ((by rw [hg]; exact Nat.ne_of_gt (a1q (qk_ BK499)) : gb503 ≠ gb499)); replace BK499 := qkb_ BK499 hb; have NB500_503 := am_ ((by rw [hg]; exact Nat.ne_of_lt (a1q (qk_ BK500)) : gb500 ≠ gb503)); have NB503_500 := am_ ((by rw [hg]; exact Nat.ne_of_gt (a1q (qk_ BK500)) : gb503 ≠ gb500)); replace BK500 := qkb_ BK500 hb; clear hb hbox hg; have hnb26 := NB503_499.out; have hnc26 := NB499_503.out; have hnb27 := NB503_500.out; have hnc27 := NB500_503.out; obtain ⟨z'28_0, z'28_1, z'28_2, z'28_3⟩ := qz4_ BK503; obtain ⟨y'28_0, y'28_1, y'28_2, y'28_3⟩ := qf4_ BK503))
          go_ret
          exact ⟨qx_, qb_⟩
         ·rw [if_neg c24] at H
          have c24b0 : decide (a4 ≤ ((a0c l1 x49_2).f3)) = false := decide_eq_false c24
          clear c24
          have H' := am_ H
          clear H
          have p502 : 0 ≤ (x49_2 : Int) := ot_
          have q502 : x49_2 < (l1.length : Int) := ot_
          obtain ⟨ad502, e502, hx502_0, hx502_1, hx502_2, hx502_3⟩ := a2o HR1.out x49_2 p502 q502
          cases e502
          replace hx502_0 := qh_ HB hx502_0
          replace hx502_1 := qh_ HB hx502_1
          replace hx502_2 := qh_ HB hx502_2
          replace hx502_3 := qh_ HB hx502_3
          replace p502 := eq_true p502
          replace q502 := eq_true q502
          go_wp2_with (first | ((with_reducible refine a1d (N := 15) rfl ?_); (try (refine a1u (by rfl) ?_; dsimp only)); refine qev_ 15 #[.int .i64 0, .int .i64 0, .int .i64 0, .int .i64 0] 26 ?_; intro gb503 hg w29 hbox hb; have BK503 := am_ (hbox); have GW503 := qga_ hg; have GE503 := qga_ hg; replace HB := qbs_ hb; have NB499_503 := am_ ((by rw [hg]; exact Nat.ne_of_lt (a1q (qk_ BK499)) : gb499 ≠ gb503)); have NB503_499 := am_ ((by rw [hg]; exact Nat.ne_of_gt (a1q (qk_ BK499)) : gb503 ≠ gb499)); replace BK499 := qkb_ BK499 hb; have NB500_503 := am_ ((by rw [hg]; exact Nat.ne_of_lt (a1q (qk_ BK500)) : gb500 ≠ gb503)); have NB503_500 := am_ ((by rw [hg]; exact Nat.ne_of_gt (a1q (qk_ BK500)) : gb503 ≠ gb500)); replace BK500 := qkb_ BK500 hb; clear hb hbox hg; have hnb30 := NB503_499.out; have hnc30 := NB499_503.out; have hnb31 := NB503_500.out; have hnc31 := NB500_503.out; obtain ⟨z'32_0, z'32_1, z'32_2, z'32_3⟩ := qz4_ BK503; obtain ⟨y'32_0, y'32_1, y'32_2, y'32_3⟩ := qf4_ BK503))
          go_roundg k2
          case measure => have := HJ7.out; have := HK2.out; omega
          case rel => exact ⟨(wrap64 (x49_2 + 1)), qs_, H', ⟨by have := HJ7.out; have := HK2.out; omega⟩, ⟨by refine qd_ ?_; refine a2d ?_ NB499_503.out _; refine qd_ ?_; refine a2d ?_ NB499_503.out _; refine qd_ ?_; refine a2d ?_ NB499_503.out _; refine qd_ ?_; refine a2d ?_ NB499_503.out _; refine qd_ ?_; exact BK499.out⟩, ⟨by refine qd_ ?_; refine a2d ?_ NB500_503.out _; refine qd_ ?_; refine a2d ?_ NB500_503.out _; refine qd_ ?_; refine a2d ?_ NB500_503.out _; refine qd_ ?_; refine a2d ?_ NB500_503.out _; refine qd_ ?_; exact BK500.out⟩, ⟨qb_⟩⟩
        ·rw [if_neg c23] at H
         exact absurd H (by simp)
       ·rw [if_neg c22] at H
        exact absurd H (by simp)
      ·rw [if_neg c21] at H
       have c21b0 : decide (x49_2 < (l1.length : Int)) = false := decide_eq_false c21
       clear c21
       by_cases c33 : 0 ≤ a2
       ·rw [if_pos c33] at H
        have c33b0 : decide (0 ≤ a2) = true := decide_eq_true c33
        clear c33
        by_cases c34 : a2 < (l0.length : Int)
        ·rw [if_pos c34] at H
         have c34b0 : decide (a2 < (l0.length : Int)) = true := decide_eq_true c34
         clear c34
         replace H := bm_ H
         obtain ⟨⟨t506, t507⟩, A350, H⟩ := H
         replace H : (if t507 = 0 then (a0d.j2 k2 l1 a3 a4 t501 t506 (a3 == t506) l0 a5 ((a0b l0 a2).f0) ((a0b l0 a2).f1) ((a0b l0 a2).f2) ((a0b l0 a2).f3) ((a0b l0 a2).f4.f0) ((a0b l0 a2).f4.f1)) else (a0d.j2 k2 l1 a3 a4 t501 t506 true l0 a5 ((a0b l0 a2).f0) ((a0b l0 a2).f1) ((a0b l0 a2).f2) ((a0b l0 a2).f3) ((a0b l0 a2).f4.f0) ((a0b l0 a2).f4.f1))) = some r := H
         have A35 := am_ A350
         clear A350
         have HC36 := am_ H
         clear H
         have hnb37 := NB499_500.out
         have hnc37 := NB500_499.out
         have z'38_0 : wr.cell? ⟨gb499, 0, none⟩ = some (.slice A0 l0.length c0) := (bc_ BK499.out 0).trans rfl
         have y'38_0 := bf_ BK499.out 0
         have p504 : 0 ≤ (a2 : Int) := ot_
         have q504 : a2 < (l0.length : Int) := ot_
         obtain ⟨ad504, e504, hx504_0, hx504_1, hx504_2, hx504_3, hx504_4, hx504_5⟩ := a4f HR0.out a2 p504 q504
         cases e504
         replace hx504_0 := qh_ HB hx504_0
         replace hx504_1 := qh_ HB hx504_1
         replace hx504_2 := qh_ HB hx504_2
         replace hx504_3 := qh_ HB hx504_3
         replace hx504_4 := qh_ HB hx504_4
         replace hx504_5 := qh_ HB hx504_5
         replace p504 := eq_true p504
         replace q504 := eq_true q504
         go_upto_region 12 with (first | ((with_reducible refine a1d (N := 16) rfl ?_); (try (refine a1u (by rfl) ?_; dsimp only)); refine qev_ 16 #[.int .i64 0, .int .i64 0, .int .i64 0, .int .i64 0, .int .i64 0, .int .i64 0] 30 ?_; intro gb505 hg w39 hbox hb; have BK505 := am_ (hbox); have GW505 := qga_ hg; have GE505 := qga_ hg; replace HB := qbs_ hb; have NB499_505 := am_ ((by rw [hg]; exact Nat.ne_of_lt (a1q (qk_ BK499)) : gb499 ≠ gb505)); have NB505_499 := am_ ((by rw [hg]; exact Nat.ne_of_gt (a1q (qk_ BK499)) : gb505 ≠ gb499)); replace BK499 := qkb_ BK499 hb; have NB500_505 := am_ ((by rw [hg]; exact Nat.ne_of_lt (a1q (qk_ BK500)) : gb500 ≠ gb505)); have NB505_500 := am_ ((by rw [hg]; exact Nat.ne_of_gt (a1q (qk_ BK500)) : gb505 ≠ gb500)); replace BK500 := qkb_ BK500 hb; clear hb hbox hg; have hnb40 := NB505_499.out; have hnc40 := NB499_505.out; have hnb41 := NB505_500.out; have hnc41 := NB500_505.out; obtain ⟨z'42_0, z'42_1, z'42_2, z'42_3, z'42_4, z'42_5⟩ := qz6_ BK505; obtain ⟨y'42_0, y'42_1, y'42_2, y'42_3, y'42_4, y'42_5⟩ := qf6_ BK505) | ((with_reducible refine a0z (f := 9) rfl ?_); refine a1s (some 67) rfl rfl Try.func9 (by kernel_rfl) rfl #[.agg #[.int .i64 ((a0b l0 a2).f0), .int .i64 ((a0b l0 a2).f1), .int .i64 ((a0b l0 a2).f2), .int .i64 ((a0b l0 a2).f3), .int .i64 ((a0b l0 a2).f4.f0), .int .i64 ((a0b l0 a2).f4.f1)], .slice A1 l1.length c1, .int .i64 a4] rfl ql_ ?_; (with_reducible refine (a0t.calls k2 ((a0b l0 a2).f0) ((a0b l0 a2).f1) ((a0b l0 a2).f2) ((a0b l0 a2).f3) ((a0b l0 a2).f4.f0) ((a0b l0 a2).f4.f1) _ _ l1 a4 t506 t507 _ ?s1 ?s2 A35.out).mono ?_); (case s1 => exact Kd.a4q HR1.out qb_); (case s2 => exact HC1.out); rintro e w43 ⟨rfl, hb⟩; refine ⟨_, rfl, ?_⟩; replace BK499 := am_ (a2c (g := gb499) (o := .cells #[.slice (some ad504) l0.length c0] 22 (0, 0)) (by refine qd_ ?_; refine a2d ?_ NB499_505.out _; refine qd_ ?_; refine a2d ?_ NB499_505.out _; refine qd_ ?_; refine a2d ?_ NB499_505.out _; refine qd_ ?_; refine a2d ?_ NB499_505.out _; refine qd_ ?_; refine a2d ?_ NB499_505.out _; refine qd_ ?_; refine a2d ?_ NB499_505.out _; refine qd_ ?_; exact BK499.out) hb); replace BK500 := am_ (a2c (g := gb500) (o := .cells #[.int .i64 a5] 3 (0, 0)) (by refine qd_ ?_; refine a2d ?_ NB500_505.out _; refine qd_ ?_; refine a2d ?_ NB500_505.out _; refine qd_ ?_; refine a2d ?_ NB500_505.out _; refine qd_ ?_; refine a2d ?_ NB500_505.out _; refine qd_ ?_; refine a2d ?_ NB500_505.out _; refine qd_ ?_; refine a2d ?_ NB500_505.out _; refine qd_ ?_; exact BK500.out) hb); replace BK505 := am_ (a2c (g := gb505) (o := .cells #[.int .i64 ((a0b l0 a2).f0), .int .i64 ((a0b l0 a2).f1), .int .i64 ((a0b l0 a2).f2), .int .i64 ((a0b l0 a2).f3), .int .i64 ((a0b l0 a2).f4.f0), .int .i64 ((a0b l0 a2).f4.f1)] 30 (0, 0)) (by refine qd_ ?_; refine a0s (cs := #[.int .i64 ((a0b l0 a2).f0), .int .i64 ((a0b l0 a2).f1), .int .i64 ((a0b l0 a2).f2), .int .i64 ((a0b l0 a2).f3), .int .i64 ((a0b l0 a2).f4.f0), .int .i64 0]) ?_ 5 _ rfl; refine qd_ ?_; refine a0s (cs := #[.int .i64 ((a0b l0 a2).f0), .int .i64 ((a0b l0 a2).f1), .int .i64 ((a0b l0 a2).f2), .int .i64 ((a0b l0 a2).f3), .int .i64 0, .int .i64 0]) ?_ 4 _ rfl; refine qd_ ?_; refine a0s (cs := #[.int .i64 ((a0b l0 a2).f0), .int .i64 ((a0b l0 a2).f1), .int .i64 ((a0b l0 a2).f2), .int .i64 0, .int .i64 0, .int .i64 0]) ?_ 3 _ rfl; refine qd_ ?_; refine a0s (cs := #[.int .i64 ((a0b l0 a2).f0), .int .i64 ((a0b l0 a2).f1), .int .i64 0, .int .i64 0, .int .i64 0, .int .i64 0]) ?_ 2 _ rfl; refine qd_ ?_; refine a0s (cs := #[.int .i64 ((a0b l0 a2).f0), .int .i64 0, .int .i64 0, .int .i64 0, .int .i64 0, .int .i64 0]) ?_ 1 _ rfl; refine qd_ ?_; refine a0s (cs := #[.int .i64 0, .int .i64 0, .int .i64 0, .int .i64 0, .int .i64 0, .int .i64 0]) ?_ 0 _ rfl; refine qd_ ?_; exact BK505.out) hb); replace HB := qbs_ hb; (try clear hb); (try clear hb2); (try clear hk); (try clear hi)))
         (try simp only [Act.put, List.setIfInBounds_toArray, List.set_cons_zero, List.set_cons_succ])
         go_cut [76] (fun v76 wc => ∃ (kq : Nat) (x76_35 : Bool), v76 = .bool x76_35 ∧ Aside0 (a0d.j2 kq l1 a3 a4 t501 t506 x76_35 l0 a5 ((a0b l0 a2).f0) ((a0b l0 a2).f1) ((a0b l0 a2).f2) ((a0b l0 a2).f3) ((a0b l0 a2).f4.f0) ((a0b l0 a2).f4.f1) = some r) ∧ Aside0 (kq ≤ k2) ∧ Aside0 (wc.heap[gb499]? = some (.cells #[(.slice (some ad504) l0.length c0)] 22 (0, 0))) ∧ Aside0 (wc.heap[gb500]? = some (.cells #[.int .i64 a5] 3 (0, 0))) ∧ Aside0 (wc.heap[gb505]? = some (.cells #[.int .i64 ((a0b l0 a2).f0), .int .i64 ((a0b l0 a2).f1), .int .i64 ((a0b l0 a2).f2), .int .i64 ((a0b l0 a2).f3), .int .i64 ((a0b l0 a2).f4.f0), .int .i64 ((a0b l0 a2).f4.f1)] 30 (0, 0))) ∧ Aside0 (Below w.heap.size w wc))
         case first =>
          have H := HC36.out
          clear HC36
          by_cases c44 : t507 = 0
          ·rw [if_pos c44] at H
           have c44b0 : (t507 == 0) = true := beq_iff_eq.mpr c44
           have c44b1 : (t507 != 0) = false := bne_eq_false_iff_eq.mpr c44
           clear c44
           (first | rw [c44b0] | (simp only [a2w, a3p]; rw [c44b0]) | skip)
           have H' := am_ H
           clear H
           go_wp2
           go_meet
           case rel => exact ⟨_, ((a3 == t506)), qs_, H', ⟨by have := HJ7.out; have := HK2.out; first | omega | exact Nat.le_refl _⟩, ⟨qk_ BK499⟩, ⟨qk_ BK500⟩, ⟨qk_ BK505⟩, ⟨qb_⟩⟩
          ·rw [if_neg c44] at H
           have c44b0 : (t507 == 0) = false := beq_eq_false_iff_ne.mpr c44
           have c44b1 : (t507 != 0) = true := bne_iff_ne.mpr c44
           (first | rw [c44b0] | (simp only [a2w, a3p]; rw [c44b0]) | skip)
           have H' := am_ H
           clear H
           go_wp2
           go_meet
           case rel => exact ⟨_, (true), qs_, H', ⟨by have := HJ7.out; have := HK2.out; first | omega | exact Nat.le_refl _⟩, ⟨qk_ BK499⟩, ⟨qk_ BK500⟩, ⟨qk_ BK505⟩, ⟨qb_⟩⟩
         case rest =>
          clear HC36
          try clear c1
          try clear c2
          try clear p2
          try clear c3
          try clear c4
          try clear p5
          try clear q5
          try clear hx5
          try clear p6
          try clear c8
          try clear c9
          try clear c12
          try clear c12b0
          try clear c12b1
          try clear c13
          try clear c13b0
          try clear c14
          try clear c14b0
          try clear c15
          try clear c17
          try clear c20
          try clear c21
          try clear c21b0
          try clear c22
          try clear c22b0
          try clear c23
          try clear c23b0
          try clear c24
          try clear c24b0
          try clear c26
          try clear c27
          try clear c30
          try clear c31
          try clear c33
          try clear c33b0
          try clear c34
          try clear c34b0
          try clear c37
          try clear c40
          try clear c41
          try clear c44
          try clear c44b0
          try clear c44b1
          try clear z'16_0
          try clear z'18_0
          try clear z'19_0
          try clear z'28_0 z'28_1 z'28_2 z'28_3
          try clear z'32_0 z'32_1 z'32_2 z'32_3
          try clear z'38_0
          try clear z'42_0 z'42_1 z'42_2 z'42_3 z'42_4 z'42_5
          try clear y'16_0
          try clear y'18_0
          try clear y'19_0
          try clear y'28_0 y'28_1 y'28_2 y'28_3
          try clear y'32_0 y'32_1 y'32_2 y'32_3
          try clear y'38_0
          try clear y'42_0 y'42_1 y'42_2 y'42_3 y'42_4 y'42_5
          try clear hx502_0
          try clear hx502_1
          try clear hx502_2
          try clear hx502_3
          try clear hx504_0
          try clear hx504_1
          try clear hx504_2
          try clear hx504_3
          try clear hx504_4
          try clear hx504_5
          try clear p2
          try clear p502
          try clear p504
          try clear q502
          try clear q504
          obtain ⟨kq, x76_35, rfl, HA, HJ35, BK499, BK500, BK505, HB⟩ := hcut
          cases kq with
          | zero => exact absurd HA.out (by simp [a0d.j2])
          | succ kj35 =>
           have H := HA.out
           clear HA
           simp only [a0d.j2] at H
           by_cases c45 : x76_35 = true
           ·subst c45
            have H1 : (some t501) = some r := by rw [if_pos rfl] at H; exact H
            clear H
            have H := H1
            clear H1
            obtain rfl := si_ H
            go_wp2
            go_ret
            exact ⟨qx_, qb_⟩
           ·replace c45 := be_ c45
            subst c45
            have H1 : ((some (([] : List (S26)) : List (S26))).bind fun y508 => (if y508.length + l1.length < 4398046511104 then ((some (y508 ++ l1 : List (S26))).bind fun y511 => ((some (([(⟨((a0b l0 a2).f0), t506, a3, a4⟩ : S26)] : List (S26)) : List (S26))).bind fun y514 => (if y511.length + y514.length < 4398046511104 then ((some (y511 ++ y514 : List (S26))).bind fun y517 => ((a0g.f kj35 l1 t506 l0 ((a0b l0 a2).f0) ((a0b l0 a2).f1) ((a0b l0 a2).f2) ((a0b l0 a2).f3) ((a0b l0 a2).f4.f0) ((a0b l0 a2).f4.f1) a5).bind fun bt520 => ((a0g.f kj35 y517 a3 l0 ((a0b l0 a2).f0) ((a0b l0 a2).f1) ((a0b l0 a2).f2) ((a0b l0 a2).f3) ((a0b l0 a2).f4.f0) ((a0b l0 a2).f4.f1) a5).bind fun bt522 => ((a0g.f kj35 y517 t506 l0 ((a0b l0 a2).f0) ((a0b l0 a2).f1) ((a0b l0 a2).f2) ((a0b l0 a2).f3) ((a0b l0 a2).f4.f0) ((a0b l0 a2).f4.f1) a5).bind fun bt524 => (if bt520.2 = true then (if bt522.2 = true then (a0d.j3 kj35 t501 bt520.1 bt522.1 bt524.1 (!bt524.2)) else (a0d.j3 kj35 t501 bt520.1 bt522.1 bt524.1 true)) else (a0d.j3 kj35 t501 bt520.1 bt522.1 bt524.1 true)))))) else (none)))) else (none))) = some r := by rw [if_neg (show ¬ (false = true) by decide)] at H; exact H
            clear H
            have H := H1
            clear H1
            obtain ⟨y508, hy508⟩ : ∃ y_ : List (S26), y_ = (([] : List (S26))) := ⟨_, rfl⟩
            replace H : (if y508.length + l1.length < 4398046511104 then ((some (y508 ++ l1 : List (S26))).bind fun y511 => ((some (([(⟨((a0b l0 a2).f0), t506, a3, a4⟩ : S26)] : List (S26)) : List (S26))).bind fun y514 => (if y511.length + y514.length < 4398046511104 then ((some (y511 ++ y514 : List (S26))).bind fun y517 => ((a0g.f kj35 l1 t506 l0 ((a0b l0 a2).f0) ((a0b l0 a2).f1) ((a0b l0 a2).f2) ((a0b l0 a2).f3) ((a0b l0 a2).f4.f0) ((a0b l0 a2).f4.f1) a5).bind fun bt520 => ((a0g.f kj35 y517 a3 l0 ((a0b l0 a2).f0) ((a0b l0 a2).f1) ((a0b l0 a2).f2) ((a0b l0 a2).f3) ((a0b l0 a2).f4.f0) ((a0b l0 a2).f4.f1) a5).bind fun bt522 => ((a0g.f kj35 y517 t506 l0 ((a0b l0 a2).f0) ((a0b l0 a2).f1) ((a0b l0 a2).f2) ((a0b l0 a2).f3) ((a0b l0 a2).f4.f0) ((a0b l0 a2).f4.f1) a5).bind fun bt524 => (if bt520.2 = true then (if bt522.2 = true then (a0d.j3 kj35 t501 bt520.1 bt522.1 bt524.1 (!bt524.2)) else (a0d.j3 kj35 t501 bt520.1 bt522.1 bt524.1 true)) else (a0d.j3 kj35 t501 bt520.1 bt522.1 bt524.1 true)))))) else (none)))) else (none)) = some r := by first | (rw [hy508]; with_reducible exact H) | (have H2_ := (Option.bind_some _ _).symm.trans H; rw [hy508]; with_reducible exact H2_) | (have H2_ := (Option.bind_some _ _).symm.trans H; with_reducible exact H2_) | with_reducible exact H | (rw [hy508]; exact H) | exact H
            have Ny508 := am_ hy508
            clear hy508
            by_cases c46 : y508.length + l1.length < 4398046511104
            ·rw [if_pos c46] at H
             have LMc46 := am_ c46
             clear c46
             obtain ⟨y511, hy511⟩ : ∃ y_ : List (S26), y_ = (y508 ++ l1) := ⟨_, rfl⟩
             replace H : ((some (([(⟨((a0b l0 a2).f0), t506, a3, a4⟩ : S26)] : List (S26)) : List (S26))).bind fun y514 => (if y511.length + y514.length < 4398046511104 then ((some (y511 ++ y514 : List (S26))).bind fun y517 => ((a0g.f kj35 l1 t506 l0 ((a0b l0 a2).f0) ((a0b l0 a2).f1) ((a0b l0 a2).f2) ((a0b l0 a2).f3) ((a0b l0 a2).f4.f0) ((a0b l0 a2).f4.f1) a5).bind fun bt520 => ((a0g.f kj35 y517 a3 l0 ((a0b l0 a2).f0) ((a0b l0 a2).f1) ((a0b l0 a2).f2) ((a0b l0 a2).f3) ((a0b l0 a2).f4.f0) ((a0b l0 a2).f4.f1) a5).bind fun bt522 => ((a0g.f kj35 y517 t506 l0 ((a0b l0 a2).f0) ((a0b l0 a2).f1) ((a0b l0 a2).f2) ((a0b l0 a2).f3) ((a0b l0 a2).f4.f0) ((a0b l0 a2).f4.f1) a5).bind fun bt524 => (if bt520.2 = true then (if bt522.2 = true then (a0d.j3 kj35 t501 bt520.1 bt522.1 bt524.1 (!bt524.2)) else (a0d.j3 kj35 t501 bt520.1 bt522.1 bt524.1 true)) else (a0d.j3 kj35 t501 bt520.1 bt522.1 bt524.1 true)))))) else (none))) = some r := by first | (rw [hy511]; with_reducible exact H) | (have H2_ := (Option.bind_some _ _).symm.trans H; rw [hy511]; with_reducible exact H2_) | (have H2_ := (Option.bind_some _ _).symm.trans H; with_reducible exact H2_) | with_reducible exact H | (rw [hy511]; exact H) | exact H
             have Ny511 := am_ hy511
             clear hy511
             obtain ⟨y514, hy514⟩ : ∃ y_ : List (S26), y_ = (([(⟨((a0b l0 a2).f0), t506, a3, a4⟩ : S26)] : List (S26))) := ⟨_, rfl⟩
             replace H : (if y511.length + y514.length < 4398046511104 then ((some (y511 ++ y514 : List (S26))).bind fun y517 => ((a0g.f kj35 l1 t506 l0 ((a0b l0 a2).f0) ((a0b l0 a2).f1) ((a0b l0 a2).f2) ((a0b l0 a2).f3) ((a0b l0 a2).f4.f0) ((a0b l0 a2).f4.f1) a5).bind fun bt520 => ((a0g.f kj35 y517 a3 l0 ((a0b l0 a2).f0) ((a0b l0 a2).f1) ((a0b l0 a2).f2) ((a0b l0 a2).f3) ((a0b l0 a2).f4.f0) ((a0b l0 a2).f4.f1) a5).bind fun bt522 => ((a0g.f kj35 y517 t506 l0 ((a0b l0 a2).f0) ((a0b l0 a2).f1) ((a0b l0 a2).f2) ((a0b l0 a2).f3) ((a0b l0 a2).f4.f0) ((a0b l0 a2).f4.f1) a5).bind fun bt524 => (if bt520.2 = true then (if bt522.2 = true then (a0d.j3 kj35 t501 bt520.1 bt522.1 bt524.1 (!bt524.2)) else (a0d.j3 kj35 t501 bt520.1 bt522.1 bt524.1 true)) else (a0d.j3 kj35 t501 bt520.1 bt522.1 bt524.1 true)))))) else (none)) = some r := by first | (rw [hy514]; with_reducible exact H) | (have H2_ := (Option.bind_some _ _).symm.trans H; rw [hy514]; with_reducible exact H2_) | (have H2_ := (Option.bind_some _ _).symm.trans H; with_reducible exact H2_) | with_reducible exact H | (rw [hy514]; exact H) | exact H
             have Ny514 := am_ hy514
             clear hy514
             by_cases c47 : y511.length + y514.length < 4398046511104
             ·rw [if_pos c47] at H
              have LMc47 := am_ c47
              clear c47
              obtain ⟨y517, hy517⟩ : ∃ y_ : List (S26), y_ = (y511 ++ y514) := ⟨_, rfl⟩
              replace H : ((a0g.f kj35 l1 t506 l0 ((a0b l0 a2).f0) ((a0b l0 a2).f1) ((a0b l0 a2).f2) ((a0b l0 a2).f3) ((a0b l0 a2).f4.f0) ((a0b l0 a2).f4.f1) a5).bind fun bt520 => ((a0g.f kj35 y517 a3 l0 ((a0b l0 a2).f0) ((a0b l0 a2).f1) ((a0b l0 a2).f2) ((a0b l0 a2).f3) ((a0b l0 a2).f4.f0) ((a0b l0 a2).f4.f1) a5).bind fun bt522 => ((a0g.f kj35 y517 t506 l0 ((a0b l0 a2).f0) ((a0b l0 a2).f1) ((a0b l0 a2).f2) ((a0b l0 a2).f3) ((a0b l0 a2).f4.f0) ((a0b l0 a2).f4.f1) a5).bind fun bt524 => (if bt520.2 = true then (if bt522.2 = true then (a0d.j3 kj35 t501 bt520.1 bt522.1 bt524.1 (!bt524.2)) else (a0d.j3 kj35 t501 bt520.1 bt522.1 bt524.1 true)) else (a0d.j3 kj35 t501 bt520.1 bt522.1 bt524.1 true))))) = some r := by first | (rw [hy517]; with_reducible exact H) | (have H2_ := (Option.bind_some _ _).symm.trans H; rw [hy517]; with_reducible exact H2_) | (have H2_ := (Option.bind_some _ _).symm.trans H; with_reducible exact H2_) | with_reducible exact H | (rw [hy517]; exact H) | exact H
              have Ny517 := am_ hy517
              clear hy517
              replace H := bm_ H
              obtain ⟨⟨t520, t521⟩, A480, H⟩ := H
              replace H : ((a0g.f kj35 y517 a3 l0 ((a0b l0 a2).f0) ((a0b l0 a2).f1) ((a0b l0 a2).f2) ((a0b l0 a2).f3) ((a0b l0 a2).f4.f0) ((a0b l0 a2).f4.f1) a5).bind fun bt522 => ((a0g.f kj35 y517 t506 l0 ((a0b l0 a2).f0) ((a0b l0 a2).f1) ((a0b l0 a2).f2) ((a0b l0 a2).f3) ((a0b l0 a2).f4.f0) ((a0b l0 a2).f4.f1) a5).bind fun bt524 => (if t521 = true then (if bt522.2 = true then (a0d.j3 kj35 t501 t520 bt522.1 bt524.1 (!bt524.2)) else (a0d.j3 kj35 t501 t520 bt522.1 bt524.1 true)) else (a0d.j3 kj35 t501 t520 bt522.1 bt524.1 true)))) = some r := H
              have A48 := am_ A480
              clear A480
              replace H := bm_ H
              obtain ⟨⟨t522, t523⟩, A490, H⟩ := H
              replace H : ((a0g.f kj35 y517 t506 l0 ((a0b l0 a2).f0) ((a0b l0 a2).f1) ((a0b l0 a2).f2) ((a0b l0 a2).f3) ((a0b l0 a2).f4.f0) ((a0b l0 a2).f4.f1) a5).bind fun bt524 => (if t521 = true then (if t523 = true then (a0d.j3 kj35 t501 t520 t522 bt524.1 (!bt524.2)) else (a0d.j3 kj35 t501 t520 t522 bt524.1 true)) else (a0d.j3 kj35 t501 t520 t522 bt524.1 true))) = some r := H
              have A49 := am_ A490
              clear A490
              replace H := bm_ H
              obtain ⟨⟨t524, t525⟩, A500, H⟩ := H
              replace H : (if t521 = true then (if t523 = true then (a0d.j3 kj35 t501 t520 t522 t524 (!t525)) else (a0d.j3 kj35 t501 t520 t522 t524 true)) else (a0d.j3 kj35 t501 t520 t522 t524 true)) = some r := H
              have A50 := am_ A500
              clear A500
              have HC51 := am_ H
              clear H
              try go_wp2
              replace BK499 := am_ (bd_ BK499.out)
              replace BK500 := am_ (bd_ BK500.out)
              replace BK505 := am_ (bd_ BK505.out)
              replace HB := am_ (ld_ HB.out)
              refine a3g (n := 12) (S := fun w' => w'.cell? ⟨gb505, 0, none⟩ = some (.int .i64 ((a0b l0 a2).f0)) ∧ w'.cell? ⟨gb505, 1, none⟩ = some (.int .i64 ((a0b l0 a2).f1)) ∧ w'.cell? ⟨gb505, 2, none⟩ = some (.int .i64 ((a0b l0 a2).f2)) ∧ w'.cell? ⟨gb505, 3, none⟩ = some (.int .i64 ((a0b l0 a2).f3)) ∧ w'.cell? ⟨gb505, 4, none⟩ = some (.int .i64 ((a0b l0 a2).f4.f0)) ∧ w'.cell? ⟨gb505, 5, none⟩ = some (.int .i64 ((a0b l0 a2).f4.f1))) (ds := []) #[i_,i_,i_,i_,i_,i_,i_,i_,i_,i_,i_,i_] (by kernel_rfl) rfl rfl ⟨(bc_ BK505.out 0).trans rfl, (bc_ BK505.out 1).trans rfl, (bc_ BK505.out 2).trans rfl, (bc_ BK505.out 3).trans rfl, (bc_ BK505.out 4).trans rfl, (bc_ BK505.out 5).trans rfl⟩ (fun hHeld => ?_); refine a2l a0d.b6s a0d.b5s (fun HT_ HW_ => ?_)
              generalize wc.drew = w52 at BK499 BK500 BK505 HB hHeld ⊢
              refine qpu_ 1 (some 79) #[i_,o_,i_,i_,i_,i_,i_,i_,i_,i_,i_,i_] ?_
              refine qpu_ 3 (some 81) #[i_,o_,i_,o_,i_,i_,i_,i_,i_,i_,i_,i_] ?_
              refine qpu_ 5 (some 83) #[i_,o_,i_,o_,i_,o_,i_,i_,i_,i_,i_,i_] ?_
              refine qpu_ 6 (some 84) #[i_,o_,i_,o_,i_,o_,o_,i_,i_,i_,i_,i_] ?_
              refine qpu_ 7 (some 85) #[i_,o_,i_,o_,i_,o_,o_,o_,i_,i_,i_,i_] ?_
              refine a2i (i := 4) (N := some 82) (v := ?_) (a' := ?_) #[i_,o_,i_,o_,o_,o_,o_,o_,i_,i_,i_,i_] rfl rfl (a1w HT_.out HW_.out (by kernel_rfl)) (fun _ _ _ h => h) (Or.inl ⟨by rfl, ?_⟩) hHeld ?_ ?_
              rotate_left
              ·rintro w' ⟨s0, s1, s2, s3, s4, s5⟩
               go_simp
               with_reducible rfl
              rotate_left
              ·exact qp_
              refine qpu_ 8 (some 86) #[i_,o_,i_,o_,o_,o_,o_,o_,o_,i_,i_,i_] ?_
              refine b6d (σ := Value × Value × Value) 2 #[o_,o_,o_,o_,o_,o_,o_,o_,o_,o_,i_,i_] (fun s_ => [(78, s_.1), (80, s_.2.1), (87, s_.2.2)]) (fun s_ w' => (w'.cell? ⟨gb505, 0, none⟩ = some (.int .i64 ((a0b l0 a2).f0)) ∧ w'.cell? ⟨gb505, 1, none⟩ = some (.int .i64 ((a0b l0 a2).f1)) ∧ w'.cell? ⟨gb505, 2, none⟩ = some (.int .i64 ((a0b l0 a2).f2)) ∧ w'.cell? ⟨gb505, 3, none⟩ = some (.int .i64 ((a0b l0 a2).f3)) ∧ w'.cell? ⟨gb505, 4, none⟩ = some (.int .i64 ((a0b l0 a2).f4.f0)) ∧ w'.cell? ⟨gb505, 5, none⟩ = some (.int .i64 ((a0b l0 a2).f4.f1))) ∧ (Kd.R k26 26 w' w.heap.size (fun k_ => some k_ ≠ (s_.2.2 : Value).ownBlock) s_.2.1 y511) ∧ (Kd.R k26 26 w' w.heap.size (fun k_ => some k_ ≠ (s_.2.1 : Value).ownBlock) s_.2.2 y514) ∧ (w'.heap[gb499]? = some (.cells #[.slice (some ad504) l0.length c0] 22 (0, 0))) ∧ (w'.heap[gb500]? = some (.cells #[.int .i64 a5] 3 (0, 0))) ∧ (w'.heap[gb505]? = some (.cells #[.int .i64 ((a0b l0 a2).f0), .int .i64 ((a0b l0 a2).f1), .int .i64 ((a0b l0 a2).f2), .int .i64 ((a0b l0 a2).f3), .int .i64 ((a0b l0 a2).f4.f0), .int .i64 ((a0b l0 a2).f4.f1)] 30 (0, 0))) ∧ (Below w.heap.size w w')) ?_ ?_
              rotate_left
              ·intro hCont
               refine two_ (i := 0) (j := 9) (Ni := some 78) (Nj := some 87) #[o_,o_,i_,o_,o_,o_,o_,o_,o_,i_,i_,i_] #[i_,o_,i_,o_,o_,o_,o_,o_,o_,o_,i_,i_] rfl rfl rfl rfl (b2o HT_.out (by kernel_rfl)) (by decide) (by decide) (fun K hK => ?_) (fun K hK => ?_)
               ·skip
                refine Kd.a4s k26 _ 26 ?hg (N := 78) ?hd (xs := ([] : List (S26))) (inner := []) (ok := fun _ => True) (okp := fun _ => True) ?hr ?hp (fun _ hk => hk) trivial (Below.refl _ _) (Nat.le_refl _) (by simp) ?_; (case hd => rfl); (case hg => rfl); (case hr => exact qq_); (case hp => exact (Reps.none _ _))
                intro v509 w53 ho54 hb hg_ hnew_
                clear hg_ hnew_
                (first | rw [← Ny508.out] at ho54 | (simp only [Int.reduceToNat] at ho54; rw [← Ny508.out] at ho54))
                have HO510 := am_ (Kd.a1y ho54 (a1e qb_))
                replace BK499 := qkb_ BK499 hb
                replace BK500 := qkb_ BK500 hb
                replace BK505 := qkb_ BK505 hb
                replace HB := qbs_ hb
                clear hb ho54
                refine hK.out _ _ ⟨(bc_ BK505.out 0).trans rfl, (bc_ BK505.out 1).trans rfl, (bc_ BK505.out 2).trans rfl, (bc_ BK505.out 3).trans rfl, (bc_ BK505.out 4).trans rfl, (bc_ BK505.out 5).trans rfl⟩ (fun hHeld => ?_)
                clear hK K
                refine a2r (a' := ?_) ?_ ?_
                rotate_left
                ·show Act.put _ (some 78) _ = _
                 exact qp_
                refine two_ (i := 2) (j := 9) (Ni := some 80) (Nj := some 87) #[o_,o_,o_,o_,o_,o_,o_,o_,o_,i_,i_,i_] #[o_,o_,i_,o_,o_,o_,o_,o_,o_,o_,i_,i_] rfl rfl rfl rfl (b2o HT_.out (by kernel_rfl)) (by decide) (by decide) (fun K hK => ?_) (fun K hK => ?_)
                ·skip
                 refine Kd.a4e k26 (w0 := w) w.heap.size (by rfl) (.tmp 78) (.tmp 79) 23 26 (.agg #[(.int .i64 0), (.int .i64 0), (.int .i64 0), (.int .i64 0)]) 32 rfl Try.underlying23 a7c rfl (by decide) (by omega) v509 y508 l1 _ _ _ (fun _ => True) (fun _ => False) rfl rfl ?aO ?aR (fun _ _ h => h) (fun _ h => h.elim) ?aF ?aB ?aS ?aL ?_
                 (case aR => repeat (first | exact (Kd.a4q HR1.out HB.out) | (with_reducible refine Kd.a3z ?_ _) | (with_reducible refine Kd.a4a ?_ _) | (with_reducible refine Kd.a4j ?_)))
                 (case aB => exact qb_)
                 (case aF => exact (fun _ _ => trivial))
                 (case aO => exact (qr_ HO510))
                 (case aS => exact (a1e qb_))
                 (case aL => have := LMc46.out; omega)
                 intro v512 w55 ho hb hg hat
                 rw [← Ny511.out] at ho
                 replace BK499 := am_ (a2g (g := gb499) (o := .cells #[.slice (some ad504) l0.length c0] 22 (0, 0)) (qk_ BK499) hg (Kd.R_ne HO510.out BK499.out (by decide)))
                 replace BK500 := am_ (a2g (g := gb500) (o := .cells #[.int .i64 a5] 3 (0, 0)) (qk_ BK500) hg (Kd.R_ne HO510.out BK500.out (by decide)))
                 replace BK505 := am_ (a2g (g := gb505) (o := .cells #[.int .i64 ((a0b l0 a2).f0), .int .i64 ((a0b l0 a2).f1), .int .i64 ((a0b l0 a2).f2), .int .i64 ((a0b l0 a2).f3), .int .i64 ((a0b l0 a2).f4.f0), .int .i64 ((a0b l0 a2).f4.f1)] 30 (0, 0)) (qk_ BK505) hg (Kd.R_ne HO510.out BK505.out (by decide)))
                 replace HB := am_ (hb)
                 have HO513 := am_ (ho)
                 clear HO510 ho hb hg hat
                 refine hK.out _ _ ⟨(bc_ BK505.out 0).trans rfl, (bc_ BK505.out 1).trans rfl, (bc_ BK505.out 2).trans rfl, (bc_ BK505.out 3).trans rfl, (bc_ BK505.out 4).trans rfl, (bc_ BK505.out 5).trans rfl⟩ (fun hHeld => ?_)
                 clear hK K
                 refine a2r (a' := ?_) ?_ ?_
                 rotate_left
                 ·show Act.put _ (some 80) _ = _
                  exact qp_
                 refine one_ (i := 9) (N := some 87) #[o_,o_,o_,o_,o_,o_,o_,o_,o_,o_,i_,i_] rfl rfl (a2k HT_.out (by kernel_rfl)) (by decide) (fun K hK => ?_)
                 refine Kd.a4s k26 _ 26 ?hg (N := 87) ?hd (xs := ([(⟨((a0b l0 a2).f0), t506, a3, a4⟩ : S26)] : List (S26))) (inner := [.int .i64 ((a0b l0 a2).f0), .int .i64 t506, .int .i64 a3, .int .i64 a4]) (ok := fun _ => True) (okp := fun _ => True) ?hr ?hp (fun _ hk => hk) trivial (Below.refl _ _) (Nat.le_refl _) (by simp) ?_; (case hd => rfl); (case hg => rfl); (case hr => exact qq_); (case hp => exact (Reps.c4 (show Kd.M k26 _ _ _ (⟨((a0b l0 a2).f0), t506, a3, a4⟩ : S26) [.int .i64 ((a0b l0 a2).f0), .int .i64 t506, .int .i64 a3, .int .i64 a4] from (a3v _ _ _ (⟨((a0b l0 a2).f0), t506, a3, a4⟩ : S26) )) (Reps.none _ _)))
                 intro v515 w56 ho57 hb hg_ hnew_
                 clear hg_ hnew_
                 (first | rw [← Ny514.out] at ho57 | (simp only [Int.reduceToNat] at ho57; rw [← Ny514.out] at ho57))
                 have HO516 := am_ (Kd.a1y (Kd.a2p ho57 (Kd.R_lt (qr_ HO513))) (a1e qb_))
                 replace HO513 := qel_ HO513 ho57 hb
                 replace BK499 := qkb_ BK499 hb
                 replace BK500 := qkb_ BK500 hb
                 replace BK505 := qkb_ BK505 hb
                 replace HB := qbs_ hb
                 clear hb ho57
                 refine hK.out _ _ ⟨(bc_ BK505.out 0).trans rfl, (bc_ BK505.out 1).trans rfl, (bc_ BK505.out 2).trans rfl, (bc_ BK505.out 3).trans rfl, (bc_ BK505.out 4).trans rfl, (bc_ BK505.out 5).trans rfl⟩ (fun hHeld => ?_)
                 clear hK K
                 refine a2r (a' := ?_) ?_ ?_
                 rotate_left
                 ·show Act.put _ (some 87) _ = _
                  exact qp_
                 exact a2r (by simp only [a5r, Act.put, List.setIfInBounds_toArray, List.set_cons_zero, List.set_cons_succ]) (hCont (v509, v512, v515) _ ⟨hHeld, (by (with_reducible repeat (first | apply Kd.a0q | apply Kd.a0r | apply Kd.a0u)); exact Kd.a1j HO513.out (fun _ hk => hk.2)), (by (with_reducible repeat (first | apply Kd.a0q | apply Kd.a0r | apply Kd.a0u)); exact Kd.a1j HO516.out (fun _ hk => hk.2)), (qk_ BK499), (qk_ BK500), (qk_ BK505), qb_⟩)
                ·skip
                 refine Kd.a4s k26 _ 26 ?hg (N := 87) ?hd (xs := ([(⟨((a0b l0 a2).f0), t506, a3, a4⟩ : S26)] : List (S26))) (inner := [.int .i64 ((a0b l0 a2).f0), .int .i64 t506, .int .i64 a3, .int .i64 a4]) (ok := fun _ => True) (okp := fun _ => True) ?hr ?hp (fun _ hk => hk) trivial (Below.refl _ _) (Nat.le_refl _) (by simp) ?_; (case hd => rfl); (case hg => rfl); (case hr => exact qq_); (case hp => exact (Reps.c4 (show Kd.M k26 _ _ _ (⟨((a0b l0 a2).f0), t506, a3, a4⟩ : S26) [.int .i64 ((a0b l0 a2).f0), .int .i64 t506, .int .i64 a3, .int .i64 a4] from (a3v _ _ _ (⟨((a0b l0 a2).f0), t506, a3, a4⟩ : S26) )) (Reps.none _ _)))
                 intro v515 w55 ho56 hb hg_ hnew_
                 clear hg_ hnew_
                 (first | rw [← Ny514.out] at ho56 | (simp only [Int.reduceToNat] at ho56; rw [← Ny514.out] at ho56))
                 have HO516 := am_ (Kd.a1y (Kd.a2p ho56 (Kd.R_lt (qr_ HO510))) (a1e qb_))
                 replace HO510 := qel_ HO510 ho56 hb
                 replace BK499 := qkb_ BK499 hb
                 replace BK500 := qkb_ BK500 hb
                 replace BK505 := qkb_ BK505 hb
                 replace HB := qbs_ hb
                 clear hb ho56
                 refine hK.out _ _ ⟨(bc_ BK505.out 0).trans rfl, (bc_ BK505.out 1).trans rfl, (bc_ BK505.out 2).trans rfl, (bc_ BK505.out 3).trans rfl, (bc_ BK505.out 4).trans rfl, (bc_ BK505.out 5).trans rfl⟩ (fun hHeld => ?_)
                 clear hK K
                 refine a2r (a' := ?_) ?_ ?_
                 rotate_left
                 ·show Act.put _ (some 87) _ = _
                  exact qp_
                 refine one_ (i := 2) (N := some 80) #[o_,o_,o_,o_,o_,o_,o_,o_,o_,o_,i_,i_] rfl rfl (a2k HT_.out (by kernel_rfl)) (by decide) (fun K hK => ?_)
                 refine Kd.a4e k26 (w0 := w) w.heap.size (by rfl) (.tmp 78) (.tmp 79) 23 26 (.agg #[(.int .i64 0), (.int .i64 0), (.int .i64 0), (.int .i64 0)]) 32 rfl Try.underlying23 a7c rfl (by decide) (by omega) v509 y508 l1 _ _ _ (fun k_ => some k_ ≠ (v515 : Value).ownBlock) (fun _ => False) rfl rfl ?aO ?aR (fun _ _ h => h) (fun _ h => h.elim) ?aF ?aB ?aS ?aL ?_
                 (case aR => repeat (first | exact (Kd.a4q HR1.out HB.out) | (with_reducible refine Kd.a3z ?_ _) | (with_reducible refine Kd.a4a ?_ _) | (with_reducible refine Kd.a4j ?_)))
                 (case aB => exact qb_)
                 (case aF => exact (fun k_ hk => Kd.fresh' (Kd.R_lt (qr_ HO516)) k_ hk))
                 (case aO => exact (by (with_reducible repeat (first | apply Kd.a0q | apply Kd.a0r | apply Kd.a0u)); exact Kd.a1j HO510.out (fun _ hk => hk.2)))
                 (case aS => exact (a1e qb_))
                 (case aL => have := LMc46.out; omega)
                 intro v512 w57 ho hb hg hat
                 rw [← Ny511.out] at ho
                 replace BK499 := am_ (a2g (g := gb499) (o := .cells #[.slice (some ad504) l0.length c0] 22 (0, 0)) (qk_ BK499) hg (Kd.R_ne HO510.out BK499.out (by decide)))
                 replace BK500 := am_ (a2g (g := gb500) (o := .cells #[.int .i64 a5] 3 (0, 0)) (qk_ BK500) hg (Kd.R_ne HO510.out BK500.out (by decide)))
                 replace BK505 := am_ (a2g (g := gb505) (o := .cells #[.int .i64 ((a0b l0 a2).f0), .int .i64 ((a0b l0 a2).f1), .int .i64 ((a0b l0 a2).f2), .int .i64 ((a0b l0 a2).f3), .int .i64 ((a0b l0 a2).f4.f0), .int .i64 ((a0b l0 a2).f4.f1)] 30 (0, 0)) (qk_ BK505) hg (Kd.R_ne HO510.out BK505.out (by decide)))
                 replace HO516 := am_ (Kd.a6h (ok := (fun _ => True)) (qr_ HO516) hg hat)
                 replace HB := am_ (hb)
                 have HO513 := am_ (ho)
                 clear HO510 ho hb hg hat
                 refine hK.out _ _ ⟨(bc_ BK505.out 0).trans rfl, (bc_ BK505.out 1).trans rfl, (bc_ BK505.out 2).trans rfl, (bc_ BK505.out 3).trans rfl, (bc_ BK505.out 4).trans rfl, (bc_ BK505.out 5).trans rfl⟩ (fun hHeld => ?_)
                 clear hK K
                 refine a2r (a' := ?_) ?_ ?_
                 rotate_left
                 ·show Act.put _ (some 80) _ = _
                  exact qp_
                 exact a2r (by simp only [a5r, Act.put, List.setIfInBounds_toArray, List.set_cons_zero, List.set_cons_succ]) (hCont (v509, v512, v515) _ ⟨hHeld, (qr_ HO513), (by (with_reducible repeat (first | apply Kd.a0q | apply Kd.a0r | apply Kd.a0u)); exact Kd.a1j HO516.out (fun _ hk => hk.2)), (qk_ BK499), (qk_ BK500), (qk_ BK505), qb_⟩)
               ·skip
                refine Kd.a4s k26 _ 26 ?hg (N := 87) ?hd (xs := ([(⟨((a0b l0 a2).f0), t506, a3, a4⟩ : S26)] : List (S26))) (inner := [.int .i64 ((a0b l0 a2).f0), .int .i64 t506, .int .i64 a3, .int .i64 a4]) (ok := fun _ => True) (okp := fun _ => True) ?hr ?hp (fun _ hk => hk) trivial (Below.refl _ _) (Nat.le_refl _) (by simp) ?_; (case hd => rfl); (case hg => rfl); (case hr => exact qq_); (case hp => exact (Reps.c4 (show Kd.M k26 _ _ _ (⟨((a0b l0 a2).f0), t506, a3, a4⟩ : S26) [.int .i64 ((a0b l0 a2).f0), .int .i64 t506, .int .i64 a3, .int .i64 a4] from (a3v _ _ _ (⟨((a0b l0 a2).f0), t506, a3, a4⟩ : S26) )) (Reps.none _ _)))
                intro v515 w53 ho54 hb hg_ hnew_
                clear hg_ hnew_
                (first | rw [← Ny514.out] at ho54 | (simp only [Int.reduceToNat] at ho54; rw [← Ny514.out] at ho54))
                have HO516 := am_ (Kd.a1y ho54 (a1e qb_))
                replace BK499 := qkb_ BK499 hb
                replace BK500 := qkb_ BK500 hb
                replace BK505 := qkb_ BK505 hb
                replace HB := qbs_ hb
                clear hb ho54
                refine hK.out _ _ ⟨(bc_ BK505.out 0).trans rfl, (bc_ BK505.out 1).trans rfl, (bc_ BK505.out 2).trans rfl, (bc_ BK505.out 3).trans rfl, (bc_ BK505.out 4).trans rfl, (bc_ BK505.out 5).trans rfl⟩ (fun hHeld => ?_)
                clear hK K
                refine a2r (a' := ?_) ?_ ?_
                rotate_left
                ·show Act.put _ (some 87) _ = _
                 exact qp_
                refine one_ (i := 0) (N := some 78) #[o_,o_,i_,o_,o_,o_,o_,o_,o_,o_,i_,i_] rfl rfl (a2k HT_.out (by kernel_rfl)) (by decide) (fun K hK => ?_)
                refine Kd.a4s k26 _ 26 ?hg (N := 78) ?hd (xs := ([] : List (S26))) (inner := []) (ok := fun _ => True) (okp := fun _ => True) ?hr ?hp (fun _ hk => hk) trivial (Below.refl _ _) (Nat.le_refl _) (by simp) ?_; (case hd => rfl); (case hg => rfl); (case hr => exact qq_); (case hp => exact (Reps.none _ _))
                intro v509 w55 ho56 hb hg_ hnew_
                clear hg_ hnew_
                (first | rw [← Ny508.out] at ho56 | (simp only [Int.reduceToNat] at ho56; rw [← Ny508.out] at ho56))
                have HO510 := am_ (Kd.a1y (Kd.a2p ho56 (Kd.R_lt (qr_ HO516))) (a1e qb_))
                replace HO516 := qel_ HO516 ho56 hb
                replace BK499 := qkb_ BK499 hb
                replace BK500 := qkb_ BK500 hb
                replace BK505 := qkb_ BK505 hb
                replace HB := qbs_ hb
                clear hb ho56
                refine hK.out _ _ ⟨(bc_ BK505.out 0).trans rfl, (bc_ BK505.out 1).trans rfl, (bc_ BK505.out 2).trans rfl, (bc_ BK505.out 3).trans rfl, (bc_ BK505.out 4).trans rfl, (bc_ BK505.out 5).trans rfl⟩ (fun hHeld => ?_)
                clear hK K
                refine a2r (a' := ?_) ?_ ?_
                rotate_left
                ·show Act.put _ (some 78) _ = _
                 exact qp_
                refine one_ (i := 2) (N := some 80) #[o_,o_,o_,o_,o_,o_,o_,o_,o_,o_,i_,i_] rfl rfl (a2k HT_.out (by kernel_rfl)) (by decide) (fun K hK => ?_)
                refine Kd.a4e k26 (w0 := w) w.heap.size (by rfl) (.tmp 78) (.tmp 79) 23 26 (.agg #[(.int .i64 0), (.int .i64 0), (.int .i64 0), (.int .i64 0)]) 32 rfl Try.underlying23 a7c rfl (by decide) (by omega) v509 y508 l1 _ _ _ (fun k_ => some k_ ≠ (v515 : Value).ownBlock) (fun _ => False) rfl rfl ?aO ?aR (fun _ _ h => h) (fun _ h => h.elim) ?aF ?aB ?aS ?aL ?_
                (case aR => repeat (first | exact (Kd.a4q HR1.out HB.out) | (with_reducible refine Kd.a3z ?_ _) | (with_reducible refine Kd.a4a ?_ _) | (with_reducible refine Kd.a4j ?_)))
                (case aB => exact qb_)
                (case aF => exact (fun k_ hk => Kd.fresh' (Kd.R_lt (qr_ HO516)) k_ hk))
                (case aO => exact (by (with_reducible repeat (first | apply Kd.a0q | apply Kd.a0r | apply Kd.a0u)); exact Kd.a1j HO510.out (fun _ hk => hk.2)))
                (case aS => exact (a1e qb_))
                (case aL => have := LMc46.out; omega)
                intro v512 w57 ho hb hg hat
                rw [← Ny511.out] at ho
                replace BK499 := am_ (a2g (g := gb499) (o := .cells #[.slice (some ad504) l0.length c0] 22 (0, 0)) (qk_ BK499) hg (Kd.R_ne HO510.out BK499.out (by decide)))
                replace BK500 := am_ (a2g (g := gb500) (o := .cells #[.int .i64 a5] 3 (0, 0)) (qk_ BK500) hg (Kd.R_ne HO510.out BK500.out (by decide)))
                replace BK505 := am_ (a2g (g := gb505) (o := .cells #[.int .i64 ((a0b l0 a2).f0), .int .i64 ((a0b l0 a2).f1), .int .i64 ((a0b l0 a2).f2), .int .i64 ((a0b l0 a2).f3), .int .i64 ((a0b l0 a2).f4.f0), .int .i64 ((a0b l0 a2).f4.f1)] 30 (0, 0)) (qk_ BK505) hg (Kd.R_ne HO510.out BK505.out (by decide)))
                replace HO516 := am_ (Kd.a6h (ok := (fun _ => True)) (qr_ HO516) hg hat)
                replace HB := am_ (hb)
                have HO513 := am_ (ho)
                clear HO510 ho hb hg hat
                refine hK.out _ _ ⟨(bc_ BK505.out 0).trans rfl, (bc_ BK505.out 1).trans rfl, (bc_ BK505.out 2).trans rfl, (bc_ BK505.out 3).trans rfl, (bc_ BK505.out 4).trans rfl, (bc_ BK505.out 5).trans rfl⟩ (fun hHeld => ?_)
                clear hK K
                refine a2r (a' := ?_) ?_ ?_
                rotate_left
                ·show Act.put _ (some 80) _ = _
                 exact qp_
                exact a2r (by simp only [a5r, Act.put, List.setIfInBounds_toArray, List.set_cons_zero, List.set_cons_succ]) (hCont (v509, v512, v515) _ ⟨hHeld, (qr_ HO513), (by (with_reducible repeat (first | apply Kd.a0q | apply Kd.a0r | apply Kd.a0u)); exact Kd.a1j HO516.out (fun _ hk => hk.2)), (qk_ BK499), (qk_ BK500), (qk_ BK505), qb_⟩)
              rintro ⟨v509, v512, v515⟩ w58 ⟨hS_, h0_, h1_, h2_, h3_, h4_, h5_⟩
              have HO513 : Aside0 (Kd.R k26 26 w58 w.heap.size (fun k_ => some k_ ≠ (v515 : Value).ownBlock) v512 y511) := ⟨h0_⟩
              have HO516 : Aside0 (Kd.R k26 26 w58 w.heap.size (fun k_ => some k_ ≠ (v512 : Value).ownBlock) v515 y514) := ⟨h1_⟩
              replace BK499 : Aside0 (w58.heap[gb499]? = some (.cells #[.slice (some ad504) l0.length c0] 22 (0, 0))) := ⟨h2_⟩
              replace BK500 : Aside0 (w58.heap[gb500]? = some (.cells #[.int .i64 a5] 3 (0, 0))) := ⟨h3_⟩
              replace BK505 : Aside0 (w58.heap[gb505]? = some (.cells #[.int .i64 ((a0b l0 a2).f0), .int .i64 ((a0b l0 a2).f1), .int .i64 ((a0b l0 a2).f2), .int .i64 ((a0b l0 a2).f3), .int .i64 ((a0b l0 a2).f4.f0), .int .i64 ((a0b l0 a2).f4.f1)] 30 (0, 0))) := ⟨h4_⟩
              replace HB : Aside0 (Below w.heap.size w w58) := ⟨h5_⟩
              clear h0_ h1_ h2_ h3_ h4_ h5_
              have hHeld : w58.cell? ⟨gb505, 0, none⟩ = some (.int .i64 ((a0b l0 a2).f0)) ∧ w58.cell? ⟨gb505, 1, none⟩ = some (.int .i64 ((a0b l0 a2).f1)) ∧ w58.cell? ⟨gb505, 2, none⟩ = some (.int .i64 ((a0b l0 a2).f2)) ∧ w58.cell? ⟨gb505, 3, none⟩ = some (.int .i64 ((a0b l0 a2).f3)) ∧ w58.cell? ⟨gb505, 4, none⟩ = some (.int .i64 ((a0b l0 a2).f4.f0)) ∧ w58.cell? ⟨gb505, 5, none⟩ = some (.int .i64 ((a0b l0 a2).f4.f1)) := hS_
              obtain ⟨Ao60, co60, eo60⟩ := Kd.a1p HO516.out
              (first | subst eo60 | (injection eo60 with f1_ f2_ f3_; have f4_ := f1_.symm; have f5_ := f3_.symm; clear f1_ f2_ f3_; subst f4_; subst f5_))
              refine a2r (a' := ?_) ?_ ?_
              rotate_left
              ·simp only [a5r, Act.put, List.setIfInBounds_toArray, List.set_cons_zero, List.set_cons_succ]
               rfl
              refine one_ (i := 10) (N := some 88) #[o_,o_,o_,o_,o_,o_,o_,o_,o_,o_,o_,i_] rfl rfl (a2k HT_.out (by kernel_rfl)) (by decide) (fun K hK => ?_)
              refine Kd.a4e k26 (w0 := w) w.heap.size (by rfl) (.tmp 80) (.tmp 87) 23 26 (.agg #[(.int .i64 0), (.int .i64 0), (.int .i64 0), (.int .i64 0)]) 32 rfl Try.underlying23 a7c rfl (by decide) (by omega) v512 y511 y514 _ _ _ (fun k_ => some k_ ≠ (.slice Ao60 y514.length co60 : Value).ownBlock) (fun _ => False) rfl rfl ?aO ?aR (fun _ _ h => h) (fun _ h => h.elim) ?aF ?aB ?aS ?aL ?_
              (case aR => repeat (first | exact (Kd.a0o HO516.out).2.2 | (with_reducible refine Kd.a3z ?_ _) | (with_reducible refine Kd.a4a ?_ _) | (with_reducible refine Kd.a4j ?_)))
              (case aB => exact qb_)
              (case aF => exact (fun k_ hk => Kd.fresh' (Kd.R_lt (qr_ HO516)) k_ hk))
              (case aO => exact (qr_ HO513))
              (case aS => exact (a1e qb_))
              (case aL => have := LMc47.out; omega)
              intro v518 w59 ho hb hg hat
              rw [← Ny517.out] at ho
              replace BK499 := am_ (a2g (g := gb499) (o := .cells #[.slice (some ad504) l0.length c0] 22 (0, 0)) (qk_ BK499) hg (Kd.R_ne HO513.out BK499.out (by decide)))
              replace BK500 := am_ (a2g (g := gb500) (o := .cells #[.int .i64 a5] 3 (0, 0)) (qk_ BK500) hg (Kd.R_ne HO513.out BK500.out (by decide)))
              replace BK505 := am_ (a2g (g := gb505) (o := .cells #[.int .i64 ((a0b l0 a2).f0), .int .i64 ((a0b l0 a2).f1), .int .i64 ((a0b l0 a2).f2), .int .i64 ((a0b l0 a2).f3), .int .i64 ((a0b l0 a2).f4.f0), .int .i64 ((a0b l0 a2).f4.f1)] 30 (0, 0)) (qk_ BK505) hg (Kd.R_ne HO513.out BK505.out (by decide)))
              replace HO516 := am_ (Kd.a6h (ok := (fun _ => True)) (by (with_reducible repeat (first | apply Kd.a0q | apply Kd.a0r | apply Kd.a0u)); exact Kd.a1j HO516.out (fun _ hk => ⟨trivial, hk⟩)) hg hat)
              replace HB := am_ (hb)
              have HO519 := am_ (ho)
              clear HO513 ho hb hg hat
              refine hK.out _ _ ⟨(bc_ BK505.out 0).trans rfl, (bc_ BK505.out 1).trans rfl, (bc_ BK505.out 2).trans rfl, (bc_ BK505.out 3).trans rfl, (bc_ BK505.out 4).trans rfl, (bc_ BK505.out 5).trans rfl⟩ (fun hHeld => ?_)
              clear hK K
              refine a2r (a' := ?_) ?_ ?_
              rotate_left
              ·show Act.put _ (some 88) _ = _
               exact qp_
              refine qpu_ 11 (some 19) #[o_,o_,o_,o_,o_,o_,o_,o_,o_,o_,o_,o_] ?_
              refine a3o (a3a HT_.out (by kernel_rfl)) ?_
              go_upto_region 19 with (first | (go_at_call 10; (with_reducible refine (a0g.calls kj35 _ _ l1 t506 gb499 (some ad504) c0 l0 gb505 ((a0b l0 a2).f0) ((a0b l0 a2).f1) ((a0b l0 a2).f2) ((a0b l0 a2).f3) ((a0b l0 a2).f4.f0) ((a0b l0 a2).f4.f1) gb500 a5 t520 t521 _ ?s1 ?s2 ?s3 ?s4 ?s5 ?s6 ?s7 ?s8 ?s9 ?s10 A48.out).mono ?_); (case s1 => exact qc_ HR1); (case s2 => exact HC1.out); (case s3 => exact qc_ HR0); (case s4 => exact HC0.out); (case s5 => exact (qk_ BK499)); (case s6 => exact (qk_ BK505)); (case s7 => exact (qk_ BK500)); (case s8 => exact NB499_505.out); (case s9 => exact NB499_500.out); (case s10 => exact NB505_500.out); rintro e w61 ⟨rfl, hb⟩; replace HO516 := qrb_ HO516 hb; replace HO519 := qrb_ HO519 hb; replace BK499 := qkb_ BK499 hb; replace BK500 := qkb_ BK500 hb; replace BK505 := qkb_ BK505 hb; replace HB := qbs_ hb; (try clear hb); (try clear hb2); (try clear hk); (try clear hi); obtain ⟨Ao62, co62, eo62⟩ := Kd.a1p HO519.out; subst eo62) | (go_at_call 10; (with_reducible refine (a0g.calls kj35 _ _ y517 a3 gb499 (some ad504) c0 l0 gb505 ((a0b l0 a2).f0) ((a0b l0 a2).f1) ((a0b l0 a2).f2) ((a0b l0 a2).f3) ((a0b l0 a2).f4.f0) ((a0b l0 a2).f4.f1) gb500 a5 t522 t523 _ ?s1 ?s2 ?s3 ?s4 ?s5 ?s6 ?s7 ?s8 ?s9 ?s10 A49.out).mono ?_); (case s1 => exact qv_ (Kd.a0o HO519.out).2.2); (case s2 => exact (Kd.a0o HO519.out).2.1); (case s3 => exact qc_ HR0); (case s4 => exact HC0.out); (case s5 => exact (qk_ BK499)); (case s6 => exact (qk_ BK505)); (case s7 => exact (qk_ BK500)); (case s8 => exact NB499_505.out); (case s9 => exact NB499_500.out); (case s10 => exact NB505_500.out); rintro e w63 ⟨rfl, hb⟩; replace HO516 := qrb_ HO516 hb; replace HO519 := qrb_ HO519 hb; replace BK499 := qkb_ BK499 hb; replace BK500 := qkb_ BK500 hb; replace BK505 := qkb_ BK505 hb; replace HB := qbs_ hb; (try clear hb); (try clear hb2); (try clear hk); (try clear hi)) | (go_at_call 10; (with_reducible refine (a0g.calls kj35 _ _ y517 t506 gb499 (some ad504) c0 l0 gb505 ((a0b l0 a2).f0) ((a0b l0 a2).f1) ((a0b l0 a2).f2) ((a0b l0 a2).f3) ((a0b l0 a2).f4.f0) ((a0b l0 a2).f4.f1) gb500 a5 t524 t525 _ ?s1 ?s2 ?s3 ?s4 ?s5 ?s6 ?s7 ?s8 ?s9 ?s10 A50.out).mono ?_); (case s1 => exact qv_ (Kd.a0o HO519.out).2.2); (case s2 => exact (Kd.a0o HO519.out).2.1); (case s3 => exact qc_ HR0); (case s4 => exact HC0.out); (case s5 => exact (qk_ BK499)); (case s6 => exact (qk_ BK505)); (case s7 => exact (qk_ BK500)); (case s8 => exact NB499_505.out); (case s9 => exact NB499_500.out); (case s10 => exact NB505_500.out); rintro e w64 ⟨rfl, hb⟩; replace HO516 := qrb_ HO516 hb; replace HO519 := qrb_ HO519 hb; replace BK499 := qkb_ BK499 hb; replace BK500 := qkb_ BK500 hb; replace BK505 := qkb_ BK505 hb; replace HB := qbs_ hb; (try clear hb); (try clear hb2); (try clear hk); (try clear hi)))
              (try simp only [Act.put, List.setIfInBounds_toArray, List.set_cons_zero, List.set_cons_succ])
              go_cut [120] (fun v120 wc => ∃ (kq : Nat) (x120_50 : Bool), v120 = .bool x120_50 ∧ Aside0 (a0d.j3 kq t501 t520 t522 t524 x120_50 = some r) ∧ Aside0 (kq ≤ kj35) ∧ Aside0 (wc.heap[gb499]? = some (.cells #[(.slice (some ad504) l0.length c0)] 22 (0, 0))) ∧ Aside0 (wc.heap[gb500]? = some (.cells #[.int .i64 a5] 3 (0, 0))) ∧ Aside0 (wc.heap[gb505]? = some (.cells #[.int .i64 ((a0b l0 a2).f0), .int .i64 ((a0b l0 a2).f1), .int .i64 ((a0b l0 a2).f2), .int .i64 ((a0b l0 a2).f3), .int .i64 ((a0b l0 a2).f4.f0), .int .i64 ((a0b l0 a2).f4.f1)] 30 (0, 0))) ∧ Aside0 (Below w.heap.size w wc))
              case first =>
               have H := HC51.out
               clear HC51
               by_cases c65 : t521 = true
               ·subst c65
                have H1 : (if t523 = true then (a0d.j3 kj35 t501 t520 t522 t524 (!t525)) else (a0d.j3 kj35 t501 t520 t522 t524 true)) = some r := by rw [if_pos rfl] at H; exact H
                clear H
                have H := H1
                clear H1
                by_cases c66 : t523 = true
                ·subst c66
                 have H1 : (a0d.j3 kj35 t501 t520 t522 t524 (!t525)) = some r := by rw [if_pos rfl] at H; exact H
                 clear H
                 have H := H1
                 clear H1
                 have H' := am_ H
                 clear H
                 go_wp2
                 go_meet
                 case rel => exact ⟨_, (!t525), qs_, H', ⟨by have := HJ7.out; have := HK2.out; have := HJ35.out; first | omega | exact Nat.le_refl _⟩, ⟨qk_ BK499⟩, ⟨qk_ BK500⟩, ⟨qk_ BK505⟩, ⟨qb_⟩⟩
                ·replace c66 := be_ c66
                 subst c66
                 have H1 : (a0d.j3 kj35 t501 t520 t522 t524 true) = some r := by rw [if_neg (show ¬ (false = true) by decide)] at H; exact H
                 clear H
                 have H := H1
                 clear H1
                 have H' := am_ H
                 clear H
                 go_wp2
                 go_meet
                 case rel => exact ⟨_, (true), qs_, H', ⟨by have := HJ7.out; have := HK2.out; have := HJ35.out; first | omega | exact Nat.le_refl _⟩, ⟨qk_ BK499⟩, ⟨qk_ BK500⟩, ⟨qk_ BK505⟩, ⟨qb_⟩⟩
               ·replace c65 := be_ c65
                subst c65
                have H1 : (a0d.j3 kj35 t501 t520 t522 t524 true) = some r := by rw [if_neg (show ¬ (false = true) by decide)] at H; exact H
                clear H
                have H := H1
                clear H1
                have H' := am_ H
                clear H
                go_wp2
                go_meet
                case rel => exact ⟨_, (true), qs_, H', ⟨by have := HJ7.out; have := HK2.out; have := HJ35.out; first | omega | exact Nat.le_refl _⟩, ⟨qk_ BK499⟩, ⟨qk_ BK500⟩, ⟨qk_ BK505⟩, ⟨qb_⟩⟩
              case rest =>
               clear HC51
               try clear c1
               try clear c2
               try clear p2
               try clear c3
               try clear c4
               try clear p5
               try clear q5
               try clear hx5
               try clear c6
               try clear c13
               try clear c13b0
               try clear c14
               try clear c14b0
               try clear c15
               try clear c17
               try clear c20
               try clear c21
               try clear c21b0
               try clear c22
               try clear c22b0
               try clear c23
               try clear c23b0
               try clear c24
               try clear c24b0
               try clear c26
               try clear c27
               try clear c30
               try clear c31
               try clear c33
               try clear c33b0
               try clear c34
               try clear c34b0
               try clear c37
               try clear c40
               try clear c41
               try clear c44
               try clear c44b0
               try clear c44b1
               try clear c45
               try clear c46
               try clear c47
               try clear p50
               try clear q50
               try clear hx50
               try clear c65
               try clear c66
               try clear z'16_0
               try clear z'18_0
               try clear z'19_0
               try clear z'28_0 z'28_1 z'28_2 z'28_3
               try clear z'32_0 z'32_1 z'32_2 z'32_3
               try clear z'38_0
               try clear z'42_0 z'42_1 z'42_2 z'42_3 z'42_4 z'42_5
               try clear y'16_0
               try clear y'18_0
               try clear y'19_0
               try clear y'28_0 y'28_1 y'28_2 y'28_3
               try clear y'32_0 y'32_1 y'32_2 y'32_3
               try clear y'38_0
               try clear y'42_0 y'42_1 y'42_2 y'42_3 y'42_4 y'42_5
               try clear hx502_0
               try clear hx502_1
               try clear hx502_2
               try clear hx502_3
               try clear hx504_0
               try clear hx504_1
               try clear hx504_2
               try clear hx504_3
               try clear hx504_4
               try clear hx504_5
               try clear p2
               try clear p502
               try clear p504
               try clear q502
               try clear q504
               obtain ⟨kq, x120_50, rfl, HA, HJ50, BK499, BK500, BK505, HB⟩ := hcut
               cases kq with
               | zero => exact absurd HA.out (by simp [a0d.j3])
               | succ kj50 =>
                have H := HA.out
                clear HA
                simp only [a0d.j3] at H
                by_cases c67 : x120_50 = true
                ·subst c67
                 have H1 : (some t501) = some r := by rw [if_pos rfl] at H; exact H
                 clear H
                 have H := H1
                 clear H1
                 obtain rfl := si_ H
                 go_wp2
                 go_ret
                 exact ⟨qx_, qb_⟩
                ·replace c67 := be_ c67
                 subst c67
                 have H1 : (if t501 = true then (if (t522 == t520) = true then (some (!t524)) else (some false)) else (some false)) = some r := by rw [if_neg (show ¬ (false = true) by decide)] at H; exact H
                 clear H
                 have H := H1
                 clear H1
                 by_cases c68 : t501 = true
                 ·subst c68
                  have H1 : (if (t522 == t520) = true then (some (!t524)) else (some false)) = some r := by rw [if_pos rfl] at H; exact H
                  clear H
                  have H := H1
                  clear H1
                  by_cases c69 : (t522 == t520) = true
                  ·rw [if_pos c69] at H
                   have c69b0 : (t522 == t520) = true := c69
                   (try (have c69b1 : decide (t522 = t520) = true := by simpa using c69))
                   (try (have c69b2 : (t522 == t520) = true := by simpa using c69))
                   clear c69
                   obtain rfl := si_ H
                   go_wp2
                   go_ret
                   exact ⟨qx_, qb_⟩
                  ·rw [if_neg c69] at H
                   have c69b0 : (t522 == t520) = false := by simpa using c69
                   (try (have c69b1 : decide (t522 = t520) = false := by simpa using c69))
                   (try (have c69b2 : (t522 == t520) = false := by simpa using c69))
                   (try (have c69b3 : ¬ (t522 = t520) := by simpa using c69))
                   clear c69
                   obtain rfl := si_ H
                   go_wp2
                   go_ret
                   exact ⟨qx_, qb_⟩
                 ·replace c68 := be_ c68
                  subst c68
                  have H1 : (some false) = some r := by rw [if_neg (show ¬ (false = true) by decide)] at H; exact H
                  clear H
                  have H := H1
                  clear H1
                  obtain rfl := si_ H
                  go_wp2
                  go_ret
                  exact ⟨qx_, qb_⟩
             ·rw [if_neg c47] at H
              exact absurd H (by simp)
            ·rw [if_neg c46] at H
             exact absurd H (by simp)
        ·rw [if_neg c34] at H
         exact absurd H (by simp)
       ·rw [if_neg c33] at H
        exact absurd H (by simp)
end Go.Proofs.Ytfbgkcadnmcakaa.Px
