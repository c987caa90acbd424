/- Contracts of Go functions, printed. Conditions: as each theorem states. -/
import Derived.Test.YtfbgkcadnmcakaaPx0
import Derived.Test.YtfbgkcadnmcakaaPx18
import Derived.Test.YtfbgkcadnmcakaaPx20
import Derived.Test.YtfbgkcadnmcakaaPx21
namespace Go.Proofs.Ytfbgkcadnmcakaa.Px
open Go.Proofs.Ytfbgkcadnmcakaa.Given
open Go.RowKit Go.Proofs.YtfbgkcadnmcakaaW.PrintWords Go.Proofs.YtfbgkcadnmcakaaW.PrintLast Go.Proofs.YtfbgkcadnmcakaaW.PrintMore
attribute [local go_sem] a2y a2v a3h a3e a2q a2r a2z a3a
set_option linter.unusedVariables false
set_option linter.unusedSimpArgs false
mutual
def a0h.j0 : Nat → List (S30) → List (S26) → Int → List Int → Int → Bool → Option (List Int × Int)
 | 0, _, _, _, _, _, _ => none
 | k + 1, x0, x1, x2, x3, x4, x36 => if x36 = true then (some (([] : List Int), 1)) else (a0h.l0 k x0 x1 x2 x3 x4 ([] : List Int) 0)
def a0h.l0 : Nat → List (S30) → List (S26) → Int → List Int → Int → List Int → Int → Option (List Int × Int)
 | 0, _, _, _, _, _, _, _ => none
 | k + 1, x0, x1, x2, x3, x4, x14, x15 => if x15 < (x0.length : Int) then (if 0 ≤ x15 then (if ((a0a x0 x15).f4.f0) ≤ x4 then (if x4 < ((a0a x0 x15).f4.f1) then ((a1g.f k x3 ((a0a x0 x15).f1)).bind fun t375 => (if t375 = true then ((a0s.f k ((a0a x0 x15).f0) ((a0a x0 x15).f1) ((a0a x0 x15).f2) ((a0a x0 x15).f3) ((a0a x0 x15).f4.f0) ((a0a x0 x15).f4.f1) x1 x4).bind fun t376 => (a0h.j2 k x0 x1 x2 x3 x4 x14 x15 (t376 == x2) ((a0a x0 x15).f0) ((a0a x0 x15).f1) ((a0a x0 x15).f2) ((a0a x0 x15).f3) ((a0a x0 x15).f4.f0) ((a0a x0 x15).f4.f1))) else (a0h.j2 k x0 x1 x2 x3 x4 x14 x15 false ((a0a x0 x15).f0) ((a0a x0 x15).f1) ((a0a x0 x15).f2) ((a0a x0 x15).f3) ((a0a x0 x15).f4.f0) ((a0a x0 x15).f4.f1)))) else (a0h.j2 k x0 x1 x2 x3 x4 x14 x15 false ((a0a x0 x15).f0) ((a0a x0 x15).f1) ((a0a x0 x15).f2) ((a0a x0 x15).f3) ((a0a x0 x15).f4.f0) ((a0a x0 x15).f4.f1))) else (a0h.j2 k x0 x1 x2 x3 x4 x14 x15 false ((a0a x0 x15).f0) ((a0a x0 x15).f1) ((a0a x0 x15).f2) ((a0a x0 x15).f3) ((a0a x0 x15).f4.f0) ((a0a x0 x15).f4.f1))) else (none)) else (some (x14, 0))
def a0h.j2 : Nat → List (S30) → List (S26) → Int → List Int → Int → List Int → Int → Bool → Int → Int → Int → Int → Int → Int → Option (List Int × Int)
 | 0, _, _, _, _, _, _, _, _, _, _, _, _, _, _ => none
 | k + 1, x0, x1, x2, x3, x4, x14, x15, x72, z0, z1, z2, z3, z4, z5 => if x72 = true then (if x14.length < 17592186044416 then (a0h.l0 k x0 x1 x2 x3 x4 (x14 ++ [z0]) (wrap64 (x15 + 1))) else (none)) else (a0h.l0 k x0 x1 x2 x3 x4 x14 (wrap64 (x15 + 1)))
end
def a0h.f (k : Nat) (l0 : List (S30)) (l1 : List (S26)) (a2 : Int) (l3 : List Int) (a4 : Int) : Option (List Int × Int) := (a0t.f k l0).bind fun t369 => ((a0k.f k l1).bind fun t370 => (if t369 = true then (if t370 = true then ((a0l.f a2 1 1000000).bind fun t371 => (if t371 = true then ((a0l.f a4 0 36524).bind fun t372 => (a0h.j0 k l0 l1 a2 l3 a4 (!t372))) else (a0h.j0 k l0 l1 a2 l3 a4 true))) else (a0h.j0 k l0 l1 a2 l3 a4 true)) else (a0h.j0 k l0 l1 a2 l3 a4 true)))
theorem a0h.a1p : ∀ k, (∀ y0 y1 y2 y3 y4 y5, LeO (a0h.j0 k y0 y1 y2 y3 y4 y5) (a0h.j0 (k + 1) y0 y1 y2 y3 y4 y5)) ∧ (∀ y0 y1 y2 y3 y4 y5 y6, LeO (a0h.l0 k y0 y1 y2 y3 y4 y5 y6) (a0h.l0 (k + 1) y0 y1 y2 y3 y4 y5 y6)) ∧ (∀ y0 y1 y2 y3 y4 y5 y6 y7 y8 y9 y10 y11 y12 y13, LeO (a0h.j2 k y0 y1 y2 y3 y4 y5 y6 y7 y8 y9 y10 y11 y12 y13) (a0h.j2 (k + 1) y0 y1 y2 y3 y4 y5 y6 y7 y8 y9 y10 y11 y12 y13))
 | 0 => ⟨fun _ _ _ _ _ _ r h => by simp [a0h.j0] at h, fun _ _ _ _ _ _ _ r h => by simp [a0h.l0] at h, fun _ _ _ _ _ _ _ _ _ _ _ _ _ _ r h => by simp [a0h.j2] at h⟩
 | k + 1 => by
  obtain ⟨ih0, ih1, ih2⟩ := a0h.a1p k
  refine ⟨?_, ?_, ?_⟩
  ·intro y0 y1 y2 y3 y4 y5
   unfold a0h.j0
   with_reducible (repeat' first | apply ih0 | apply ih1 | apply ih2 | apply a0k.mono | apply a1g.mono | apply a0t.mono | apply a0s.mono | apply LeO.refl | apply LeO.none | apply LeO.ite | refine LeO.bind ?_ (fun _ => ?_))
  ·intro y0 y1 y2 y3 y4 y5 y6
   unfold a0h.l0
   with_reducible (repeat' first | apply ih0 | apply ih1 | apply ih2 | apply a0k.mono | apply a1g.mono | apply a0t.mono | apply a0s.mono | apply LeO.refl | apply LeO.none | apply LeO.ite | refine LeO.bind ?_ (fun _ => ?_))
  ·intro y0 y1 y2 y3 y4 y5 y6 y7 y8 y9 y10 y11 y12 y13
   unfold a0h.j2
   with_reducible (repeat' first | apply ih0 | apply ih1 | apply ih2 | apply a0k.mono | apply a1g.mono | apply a0t.mono | apply a0s.mono | apply LeO.refl | apply LeO.none | apply LeO.ite | refine LeO.bind ?_ (fun _ => ?_))
theorem a0h.mono : ∀ a0 a1 a2 a3 a4 k, LeO (a0h.f k a0 a1 a2 a3 a4) (a0h.f (k + 1) a0 a1 a2 a3 a4) := by
 intro a0 a1 a2 a3 a4 k
 obtain ⟨ih0, ih1, ih2⟩ := a0h.a1p k
 unfold a0h.f
 with_reducible (repeat' first | apply ih0 | apply ih1 | apply ih2 | apply a0k.mono | apply a1g.mono | apply a0t.mono | apply a0s.mono | apply LeO.refl | apply LeO.none | apply LeO.ite | refine LeO.bind ?_ (fun _ => ?_))
set_option maxHeartbeats 8000000 in
set_option maxRecDepth 100000 in
theorem a0h.calls (k : Nat) (A0 : Option Addr) (c0 : Nat) (l0 : List (S30)) (A1 : Option Addr) (c1 : Nat) (l1 : List (S26)) (a2 : Int) (A3 : Option Addr) (c3 : Nat) (l3 : List Int) (a4 : Int) (r1 : List Int) (r2 : Int) (w : World) (hr0 : Kd.C k30 w A0 l0.length l0) (hc0 : l0.length ≤ c0) (hr1 : Kd.C k26 w A1 l1.length l1) (hc1 : l1.length ≤ c1) (hr3 : Kd.C (Kd.int .i64) w A3 l3.length l3) (hc3 : l3.length ≤ c3) (h : a0h.f k l0 l1 a2 l3 a4 = some (r1, r2)) :
  Calls Try.prog 18 #[.slice A0 l0.length c0, .slice A1 l1.length c1, .int .i64 a2, .slice A3 l3.length c3, .int .i64 a4] w fun e w' => ∃ v0_ : Value, e = .returned (.tuple #[v0_, .int .i64 r2]) ∧ Kd.R (Kd.int .i64) 3 w' w.heap.size (fun _ => True) v0_ r1 ∧ Below w.heap.size w w' := by
 have hu30 := Try.underlying30
 have HR0 := am_ hr0
 have HC0 := am_ hc0
 clear hr0 hc0
 have HR1 := am_ hr1
 have HC1 := am_ hc1
 clear hr1 hc1
 have HR3 := am_ hr3
 have HC3 := am_ hc3
 clear hr3 hc3
 have HB := am_ (Below.refl w.heap.size w)
 have H : ((a0t.f k l0).bind fun t369 => ((a0k.f k l1).bind fun t370 => (if t369 = true then (if t370 = true then ((a0l.f a2 1 1000000).bind fun t371 => (if t371 = true then ((a0l.f a4 0 36524).bind fun t372 => (a0h.j0 k l0 l1 a2 l3 a4 (!t372))) else (a0h.j0 k l0 l1 a2 l3 a4 true))) else (a0h.j0 k l0 l1 a2 l3 a4 true)) else (a0h.j0 k l0 l1 a2 l3 a4 true)))) = some (r1, r2) := h
 clear h
 replace H := bm_ H
 obtain ⟨t369, A60, H⟩ := H
 replace H : ((a0k.f k l1).bind fun t370 => (if t369 = true then (if t370 = true then ((a0l.f a2 1 1000000).bind fun t371 => (if t371 = true then ((a0l.f a4 0 36524).bind fun t372 => (a0h.j0 k l0 l1 a2 l3 a4 (!t372))) else (a0h.j0 k l0 l1 a2 l3 a4 true))) else (a0h.j0 k l0 l1 a2 l3 a4 true)) else (a0h.j0 k l0 l1 a2 l3 a4 true))) = some (r1, r2) := H
 have A6 := am_ A60
 clear A60
 replace H := bm_ H
 obtain ⟨t370, A70, H⟩ := H
 replace H : (if t369 = true then (if t370 = true then ((a0l.f a2 1 1000000).bind fun t371 => (if t371 = true then ((a0l.f a4 0 36524).bind fun t372 => (a0h.j0 k l0 l1 a2 l3 a4 (!t372))) else (a0h.j0 k l0 l1 a2 l3 a4 true))) else (a0h.j0 k l0 l1 a2 l3 a4 true)) else (a0h.j0 k l0 l1 a2 l3 a4 true)) = some (r1, r2) := H
 have A7 := am_ A70
 clear A70
 have HC8 := am_ H
 clear H
 go_enter Try.func18, Try.ntmps18
 go_upto_region 3 with (first | ((with_reducible refine a1a (f := 17) rfl ?_); refine a1r (some 18) rfl rfl Try.func17 (by kernel_rfl) rfl #[.slice A0 l0.length c0] rfl ql_ ?_; (with_reducible refine (a0t.calls k _ _ l0 t369 _ ?s1 ?s2 A6.out).mono ?_); (case s1 => repeat (first | exact HR0.out | (with_reducible refine Kd.a4a ?_ _) | (with_reducible refine Kd.a4b ?_ _) | (with_reducible refine Kd.a4k ?_))); (case s2 => exact HC0.out); rintro e w9 ⟨rfl, hb⟩; refine ⟨_, rfl, ?_⟩; replace HB := qbs_ hb; (try clear hb); (try clear hb2); (try clear hk); (try clear hi)) | ((with_reducible refine a1a (f := 34) rfl ?_); refine a1r (some 20) rfl rfl Try.func34 (by kernel_rfl) rfl #[.slice A1 l1.length c1] rfl ql_ ?_; (with_reducible refine (a0k.calls k _ _ l1 t370 _ ?s1 ?s2 A7.out).mono ?_); (case s1 => exact qc_ HR1); (case s2 => exact HC1.out); rintro e w10 ⟨rfl, hb⟩; refine ⟨_, rfl, ?_⟩; replace HB := qbs_ hb; (try clear hb); (try clear hb2); (try clear hk); (try clear hi)))
 (try simp only [Act.put, List.setIfInBounds_toArray, List.set_cons_zero, List.set_cons_succ])
 go_cut [36] (fun v36 wc => ∃ (kq : Nat) (x36_7 : Bool), v36 = .bool x36_7 ∧ Aside0 (a0h.j0 kq l0 l1 a2 l3 a4 x36_7 = some (r1, r2)) ∧ Aside0 (kq ≤ k) ∧ Aside0 (Below w.heap.size w wc))
 case first =>
  have H := HC8.out
  clear HC8
  by_cases c11 : t369 = true
  ·subst c11
   have H1 : (if t370 = true then ((a0l.f a2 1 1000000).bind fun t371 => (if t371 = true then ((a0l.f a4 0 36524).bind fun t372 => (a0h.j0 k l0 l1 a2 l3 a4 (!t372))) else (a0h.j0 k l0 l1 a2 l3 a4 true))) else (a0h.j0 k l0 l1 a2 l3 a4 true)) = some (r1, r2) := by rw [if_pos rfl] at H; exact H
   clear H
   have H := H1
   clear H1
   by_cases c12 : t370 = true
   ·subst c12
    have H1 : ((a0l.f a2 1 1000000).bind fun t371 => (if t371 = true then ((a0l.f a4 0 36524).bind fun t372 => (a0h.j0 k l0 l1 a2 l3 a4 (!t372))) else (a0h.j0 k l0 l1 a2 l3 a4 true))) = some (r1, r2) := by rw [if_pos rfl] at H; exact H
    clear H
    have H := H1
    clear H1
    replace H := bm_ H
    obtain ⟨t371, A130, H⟩ := H
    replace H : (if t371 = true then ((a0l.f a4 0 36524).bind fun t372 => (a0h.j0 k l0 l1 a2 l3 a4 (!t372))) else (a0h.j0 k l0 l1 a2 l3 a4 true)) = some (r1, r2) := H
    have A13 := am_ A130
    clear A130
    by_cases c14 : t371 = true
    ·subst c14
     have H1 : ((a0l.f a4 0 36524).bind fun t372 => (a0h.j0 k l0 l1 a2 l3 a4 (!t372))) = some (r1, r2) := by rw [if_pos rfl] at H; exact H
     clear H
     have H := H1
     clear H1
     replace H := bm_ H
     obtain ⟨t372, A150, H⟩ := H
     replace H : (a0h.j0 k l0 l1 a2 l3 a4 (!t372)) = some (r1, r2) := H
     have A15 := am_ A150
     clear A150
     have H' := am_ H
     clear H
     go_wp2_with (first | (go_at_call 35; (with_reducible refine (a0l.calls a2 1 1000000 true _ A13.out).mono ?_); rintro e w' ⟨rfl, ⟨nd, rfl⟩⟩) | (go_at_call 35; (with_reducible refine (a0l.calls a4 0 36524 t372 _ A15.out).mono ?_); rintro e w' ⟨rfl, ⟨nd, rfl⟩⟩))
     go_meet
     case rel => exact ⟨_, (!t372), qs_, H', ⟨qo_⟩, ⟨qb_⟩⟩
    ·replace c14 := be_ c14
     subst c14
     have H1 : (a0h.j0 k l0 l1 a2 l3 a4 true) = some (r1, r2) := by rw [if_neg (show ¬ (false = true) by decide)] at H; exact H
     clear H
     have H := H1
     clear H1
     have H' := am_ H
     clear H
     go_wp2_with (first | (go_at_call 35; (with_reducible refine (a0l.calls a2 1 1000000 false _ A13.out).mono ?_); rintro e w' ⟨rfl, ⟨nd, rfl⟩⟩))
     go_meet
     case rel => exact ⟨_, (true), qs_, H', ⟨qo_⟩, ⟨qb_⟩⟩
   ·replace c12 := be_ c12
    subst c12
    have H1 : (a0h.j0 k l0 l1 a2 l3 a4 true) = some (r1, r2) := by rw [if_neg (show ¬ (false = true) by decide)] at H; exact H
    clear H
    have H := H1
    clear H1
    have H' := am_ H
    clear H
    go_wp2
    go_meet
    case rel => exact ⟨_, (true), qs_, H', ⟨qo_⟩, ⟨qb_⟩⟩
  ·replace c11 := be_ c11
   subst c11
   have H1 : (a0h.j0 k l0 l1 a2 l3 a4 true) = some (r1, r2) := by rw [if_neg (show ¬ (false = true) by decide)] at H; exact H
   clear H
   have H := H1
   clear H1
   have H' := am_ H
   clear H
   go_wp2
   go_meet
   case rel => exact ⟨_, (true), qs_, H', ⟨qo_⟩, ⟨qb_⟩⟩
 case rest =>
  clear HC8
  try clear c1
  try clear p2
  try clear c3
  try clear c11
  try clear c12
  try clear c14
  obtain ⟨kq, x36_7, rfl, HA, HJ7, HB⟩ := hcut
  cases kq with
  | zero => exact absurd HA.out (by simp [a0h.j0])
  | succ kj7 =>
   have H := HA.out
   clear HA
   simp only [a0h.j0] at H
   by_cases c16 : x36_7 = true
   ·subst c16
    have H1 : (some (([] : List Int), 1)) = some (r1, r2) := by rw [if_pos rfl] at H; exact H
    clear H
    have H := H1
    clear H1
    simp only [Option.some.injEq, Prod.mk.injEq] at H
    obtain ⟨rfl, rfl⟩ := H
    go_wp2
    go_ret2
    exact ⟨_, qx_, by first | exact Kd.a5c _ _ _ _ _ | exact Kd.N_nil _ _ _ _ _ | exact Kd.V_nil _ _ _ _ _ | exact Kd.Q_nil _ _ _ _ _ | exact Kd.S_nil _ _ _ _ _, qb_⟩
   ·replace c16 := be_ c16
    subst c16
    have H1 : (a0h.l0 kj7 l0 l1 a2 l3 a4 ([] : List Int) 0) = some (r1, r2) := by rw [if_neg (show ¬ (false = true) by decide)] at H; exact H
    clear H
    have H := H1
    clear H1
    have H' := am_ H
    clear H
    go_wp2
    go_loopg [14, 15] kj7 (fun kq v14 v15 w' => ∃ (x14_2 : List Int) (x15_2 : Int), v15 = .int .i64 x15_2 ∧ Aside0 (a0h.l0 kq l0 l1 a2 l3 a4 x14_2 x15_2 = some (r1, r2)) ∧ Aside0 (kq ≤ kj7) ∧ Aside0 (Kd.R (Kd.int .i64) 3 w' w.heap.size (fun _ => True) v14 x14_2) ∧ Aside0 (Below w.heap.size w w'))
    case atStart => exact ⟨(([] : List Int)), (0), qs_, H', ⟨Nat.le_refl _⟩, ⟨by first | exact Kd.a5c _ _ _ _ _ | exact Kd.N_nil _ _ _ _ _ | exact Kd.V_nil _ _ _ _ _ | exact Kd.Q_nil _ _ _ _ _ | exact Kd.S_nil _ _ _ _ _⟩, ⟨qb_⟩⟩
    case round =>
     clear H'
     try clear c1
     try clear p2
     try clear c3
     try clear c11
     try clear c12
     try clear c14
     try clear c16
     try clear p2
     obtain ⟨x14_2, x15_2, rfl, HA, HK2, HO_14, HB⟩ := hrel
     cases gk with
     | zero => exact absurd HA.out (by simp [a0h.l0])
     | succ k2 =>
      have H := HA.out
      clear HA
      simp only [a0h.l0] at H
      by_cases c17 : x15_2 < (l0.length : Int)
      ·rw [if_pos c17] at H
       have c17b0 : decide (x15_2 < (l0.length : Int)) = true := decide_eq_true c17
       clear c17
       by_cases c18 : 0 ≤ x15_2
       ·rw [if_pos c18] at H
        have c18b0 : decide (0 ≤ x15_2) = true := decide_eq_true c18
        clear c18
        have HC19 := am_ H
        clear H
        have p373 : 0 ≤ (x15_2 : Int) := ot_
        have q373 : x15_2 < (l0.length : Int) := ot_
        obtain ⟨ad373, e373, hx373_0, hx373_1, hx373_2, hx373_3, hx373_4, hx373_5⟩ := a3c HR0.out x15_2 p373 q373
        cases e373
        replace hx373_0 := qh_ HB hx373_0
        replace hx373_1 := qh_ HB hx373_1
        replace hx373_2 := qh_ HB hx373_2
        replace hx373_3 := qh_ HB hx373_3
        replace hx373_4 := qh_ HB hx373_4
        replace hx373_5 := qh_ HB hx373_5
        replace p373 := eq_true p373
        replace q373 := eq_true q373
        go_upto_region 10 with (first | ((with_reducible refine a1m (N := 16) rfl ?_); refine qev_ 16 #[.int .i64 0, .int .i64 0, .int .i64 0, .int .i64 0, .int .i64 0, .int .i64 0] 30 ?_; intro gb374 hg w20 hbox hb; replace HO_14 := qrb_ HO_14 hb; have BK374 := am_ (hbox); have GW374 := qga_ hg; have GE374 := qga_ hg; replace HB := qbs_ hb; clear hb hbox hg; obtain ⟨z'21_0, z'21_1, z'21_2, z'21_3, z'21_4, z'21_5⟩ := qz6_ BK374; obtain ⟨y'21_0, y'21_1, y'21_2, y'21_3, y'21_4, y'21_5⟩ := qf6_ BK374))
        (try simp only [Act.put, List.setIfInBounds_toArray, List.set_cons_zero, List.set_cons_succ])
        go_cut [72] (fun v72 wc => ∃ (kq : Nat) (x72_18 : Bool), v72 = .bool x72_18 ∧ Aside0 (a0h.j2 kq l0 l1 a2 l3 a4 x14_2 x15_2 x72_18 ((a0a l0 x15_2).f0) ((a0a l0 x15_2).f1) ((a0a l0 x15_2).f2) ((a0a l0 x15_2).f3) ((a0a l0 x15_2).f4.f0) ((a0a l0 x15_2).f4.f1) = some (r1, r2)) ∧ Aside0 (kq ≤ k2) ∧ Aside0 (Kd.R (Kd.int .i64) 3 wc w.heap.size (fun _ => True) u14 x14_2) ∧ Aside0 (wc.heap[gb374]? = some (.cells #[.int .i64 ((a0a l0 x15_2).f0), .int .i64 ((a0a l0 x15_2).f1), .int .i64 ((a0a l0 x15_2).f2), .int .i64 ((a0a l0 x15_2).f3), .int .i64 ((a0a l0 x15_2).f4.f0), .int .i64 ((a0a l0 x15_2).f4.f1)] 30 (0, 0))) ∧ Aside0 (Below w.heap.size w wc))
        case first =>
         have H := HC19.out
         clear HC19
         by_cases c22 : ((a0a l0 x15_2).f4.f0) ≤ a4
         ·rw [if_pos c22] at H
          have c22b0 : decide (((a0a l0 x15_2).f4.f0) ≤ a4) = true := decide_eq_true c22
          clear c22
          (first | rw [c22b0] | (simp only [a2x, a3m]; rw [c22b0]) | skip)
          by_cases c23 : a4 < ((a0a l0 x15_2).f4.f1)
          ·rw [if_pos c23] at H
           have c23b0 : decide (a4 < ((a0a l0 x15_2).f4.f1)) = true := decide_eq_true c23
           clear c23
           replace H := bm_ H
           obtain ⟨t375, A240, H⟩ := H
           replace H : (if t375 = true then ((a0s.f k2 ((a0a l0 x15_2).f0) ((a0a l0 x15_2).f1) ((a0a l0 x15_2).f2) ((a0a l0 x15_2).f3) ((a0a l0 x15_2).f4.f0) ((a0a l0 x15_2).f4.f1) l1 a4).bind fun t376 => (a0h.j2 k2 l0 l1 a2 l3 a4 x14_2 x15_2 (t376 == a2) ((a0a l0 x15_2).f0) ((a0a l0 x15_2).f1) ((a0a l0 x15_2).f2) ((a0a l0 x15_2).f3) ((a0a l0 x15_2).f4.f0) ((a0a l0 x15_2).f4.f1))) else (a0h.j2 k2 l0 l1 a2 l3 a4 x14_2 x15_2 false ((a0a l0 x15_2).f0) ((a0a l0 x15_2).f1) ((a0a l0 x15_2).f2) ((a0a l0 x15_2).f3) ((a0a l0 x15_2).f4.f0) ((a0a l0 x15_2).f4.f1))) = some (r1, r2) := H
           have A24 := am_ A240
           clear A240
           by_cases c25 : t375 = true
           ·subst c25
            have H1 : ((a0s.f k2 ((a0a l0 x15_2).f0) ((a0a l0 x15_2).f1) ((a0a l0 x15_2).f2) ((a0a l0 x15_2).f3) ((a0a l0 x15_2).f4.f0) ((a0a l0 x15_2).f4.f1) l1 a4).bind fun t376 => (a0h.j2 k2 l0 l1 a2 l3 a4 x14_2 x15_2 (t376 == a2) ((a0a l0 x15_2).f0) ((a0a l0 x15_2).f1) ((a0a l0 x15_2).f2) ((a0a l0 x15_2).f3) ((a0a l0 x15_2).f4.f0) ((a0a l0 x15_2).f4.f1))) = some (r1, r2) := by rw [if_pos rfl] at H; exact H
            clear H
            have H := H1
            clear H1
            replace H := bm_ H
            obtain ⟨t376, A260, H⟩ := H
            replace H : (a0h.j2 k2 l0 l1 a2 l3 a4 x14_2 x15_2 (t376 == a2) ((a0a l0 x15_2).f0) ((a0a l0 x15_2).f1) ((a0a l0 x15_2).f2) ((a0a l0 x15_2).f3) ((a0a l0 x15_2).f4.f0) ((a0a l0 x15_2).f4.f1)) = some (r1, r2) := H
            have A26 := am_ A260
            clear A260
            have H' := am_ H
            clear H
            obtain ⟨z'27_0, z'27_1, z'27_2, z'27_3, z'27_4, z'27_5⟩ := qz6_ BK374; obtain ⟨y'27_0, y'27_1, y'27_2, y'27_3, y'27_4, y'27_5⟩ := qf6_ BK374
            go_wp2_with (first | (go_at_call 38; (with_reducible refine (a1g.calls k2 _ _ l3 ((a0a l0 x15_2).f1) true _ ?s1 ?s2 A24.out).mono ?_); (case s1 => exact Kd.a5h HR3.out qb_); (case s2 => exact HC3.out); rintro e w' ⟨rfl, ⟨nd, rfl⟩⟩) | (go_at_call 36; (with_reducible refine (a0s.calls k2 ((a0a l0 x15_2).f0) ((a0a l0 x15_2).f1) ((a0a l0 x15_2).f2) ((a0a l0 x15_2).f3) ((a0a l0 x15_2).f4.f0) ((a0a l0 x15_2).f4.f1) _ _ l1 a4 t376 _ ?s1 ?s2 A26.out).mono ?_); (case s1 => exact Kd.a5h HR1.out qb_); (case s2 => exact HC1.out); rintro e w28 ⟨rfl, hb⟩; replace HO_14 := am_ (Kd.a3z (by (with_reducible repeat (first | apply Kd.a1b | apply Kd.a1c | apply Kd.a0z)); exact (Kd.a1s (Kd.a1k (p := ⟨gb374, 5, none⟩) (Kd.a1k (p := ⟨gb374, 4, none⟩) (Kd.a1k (p := ⟨gb374, 3, none⟩) (Kd.a1k (p := ⟨gb374, 2, none⟩) (Kd.a1k (p := ⟨gb374, 1, none⟩) (Kd.a1k (p := ⟨gb374, 0, none⟩) (Kd.a4m HO_14.out BK374.out (by decide)) (fun _ hk => hk.2) (.int .i64 ((a0a l0 x15_2).f0))) (fun _ hk => hk.2) (.int .i64 ((a0a l0 x15_2).f1))) (fun _ hk => hk.2) (.int .i64 ((a0a l0 x15_2).f2))) (fun _ hk => hk.2) (.int .i64 ((a0a l0 x15_2).f3))) (fun _ hk => hk.2) (.int .i64 ((a0a l0 x15_2).f4.f0))) (fun _ hk => hk.2) (.int .i64 ((a0a l0 x15_2).f4.f1))) (fun _ h_ => h_.1))) hb); replace BK374 := am_ (a2t (g := gb374) (o := .cells #[.int .i64 ((a0a l0 x15_2).f0), .int .i64 ((a0a l0 x15_2).f1), .int .i64 ((a0a l0 x15_2).f2), .int .i64 ((a0a l0 x15_2).f3), .int .i64 ((a0a l0 x15_2).f4.f0), .int .i64 ((a0a l0 x15_2).f4.f1)] 30 (0, 0)) (by refine qd_ ?_; refine a0u (cs := #[.int .i64 ((a0a l0 x15_2).f0), .int .i64 ((a0a l0 x15_2).f1), .int .i64 ((a0a l0 x15_2).f2), .int .i64 ((a0a l0 x15_2).f3), .int .i64 ((a0a l0 x15_2).f4.f0), .int .i64 0]) ?_ 5 _ rfl; refine qd_ ?_; refine a0u (cs := #[.int .i64 ((a0a l0 x15_2).f0), .int .i64 ((a0a l0 x15_2).f1), .int .i64 ((a0a l0 x15_2).f2), .int .i64 ((a0a l0 x15_2).f3), .int .i64 0, .int .i64 0]) ?_ 4 _ rfl; refine qd_ ?_; refine a0u (cs := #[.int .i64 ((a0a l0 x15_2).f0), .int .i64 ((a0a l0 x15_2).f1), .int .i64 ((a0a l0 x15_2).f2), .int .i64 0, .int .i64 0, .int .i64 0]) ?_ 3 _ rfl; refine qd_ ?_; refine a0u (cs := #[.int .i64 ((a0a l0 x15_2).f0), .int .i64 ((a0a l0 x15_2).f1), .int .i64 0, .int .i64 0, .int .i64 0, .int .i64 0]) ?_ 2 _ rfl; refine qd_ ?_; refine a0u (cs := #[.int .i64 ((a0a l0 x15_2).f0), .int .i64 0, .int .i64 0, .int .i64 0, .int .i64 0, .int .i64 0]) ?_ 1 _ rfl; refine qd_ ?_; refine a0u (cs := #[.int .i64 0, .int .i64 0, .int .i64 0, .int .i64 0, .int .i64 0, .int .i64 0]) ?_ 0 _ rfl; refine qd_ ?_; exact BK374.out) hb); replace HB := qbs_ hb; (try clear hb); (try clear hb2); (try clear hk); (try clear hi)))
            go_meet
            case rel => exact ⟨_, ((t376 == a2)), qs_, H', ⟨by have := HJ7.out; have := HK2.out; first | omega | exact Nat.le_refl _⟩, ⟨by (with_reducible repeat (first | apply Kd.a1b | apply Kd.a1c | apply Kd.a0z)); exact HO_14.out⟩, ⟨qk_ BK374⟩, ⟨qb_⟩⟩
           ·replace c25 := be_ c25
            subst c25
            have H1 : (a0h.j2 k2 l0 l1 a2 l3 a4 x14_2 x15_2 false ((a0a l0 x15_2).f0) ((a0a l0 x15_2).f1) ((a0a l0 x15_2).f2) ((a0a l0 x15_2).f3) ((a0a l0 x15_2).f4.f0) ((a0a l0 x15_2).f4.f1)) = some (r1, r2) := by rw [if_neg (show ¬ (false = true) by decide)] at H; exact H
            clear H
            have H := H1
            clear H1
            have H' := am_ H
            clear H
            obtain ⟨z'29_0, z'29_1, z'29_2, z'29_3, z'29_4, z'29_5⟩ := qz6_ BK374; obtain ⟨y'29_0, y'29_1, y'29_2, y'29_3, y'29_4, y'29_5⟩ := qf6_ BK374
            go_wp2_with (first | (go_at_call 38; (with_reducible refine (a1g.calls k2 _ _ l3 ((a0a l0 x15_2).f1) false _ ?s1 ?s2 A24.out).mono ?_); (case s1 => exact Kd.a5h HR3.out qb_); (case s2 => exact HC3.out); rintro e w' ⟨rfl, ⟨nd, rfl⟩⟩))
            go_meet
            case rel => exact ⟨_, (false), qs_, H', ⟨by have := HJ7.out; have := HK2.out; first | omega | exact Nat.le_refl _⟩, ⟨by (with_reducible repeat (first | apply Kd.a1b | apply Kd.a1c | apply Kd.a0z)); exact Kd.a1s (Kd.a1k (p := ⟨gb374, 5, none⟩) (Kd.a1k (p := ⟨gb374, 4, none⟩) (Kd.a1k (p := ⟨gb374, 3, none⟩) (Kd.a1k (p := ⟨gb374, 2, none⟩) (Kd.a1k (p := ⟨gb374, 1, none⟩) (Kd.a1k (p := ⟨gb374, 0, none⟩) (Kd.a4m HO_14.out BK374.out (by decide)) (fun _ hk => hk.2) (.int .i64 ((a0a l0 x15_2).f0))) (fun _ hk => hk.2) (.int .i64 ((a0a l0 x15_2).f1))) (fun _ hk => hk.2) (.int .i64 ((a0a l0 x15_2).f2))) (fun _ hk => hk.2) (.int .i64 ((a0a l0 x15_2).f3))) (fun _ hk => hk.2) (.int .i64 ((a0a l0 x15_2).f4.f0))) (fun _ hk => hk.2) (.int .i64 ((a0a l0 x15_2).f4.f1))) (fun _ hk => trivial)⟩, ⟨by refine qd_ ?_; refine a0u (cs := #[.int .i64 ((a0a l0 x15_2).f0), .int .i64 ((a0a l0 x15_2).f1), .int .i64 ((a0a l0 x15_2).f2), .int .i64 ((a0a l0 x15_2).f3), .int .i64 ((a0a l0 x15_2).f4.f0), .int .i64 0]) ?_ 5 _ rfl; refine qd_ ?_; refine a0u (cs := #[.int .i64 ((a0a l0 x15_2).f0), .int .i64 ((a0a l0 x15_2).f1), .int .i64 ((a0a l0 x15_2).f2), .int .i64 ((a0a l0 x15_2).f3), .int .i64 0, .int .i64 0]) ?_ 4 _ rfl; refine qd_ ?_; refine a0u (cs := #[.int .i64 ((a0a l0 x15_2).f0), .int .i64 ((a0a l0 x15_2).f1), .int .i64 ((a0a l0 x15_2).f2), .int .i64 0, .int .i64 0, .int .i64 0]) ?_ 3 _ rfl; refine qd_ ?_; refine a0u (cs := #[.int .i64 ((a0a l0 x15_2).f0), .int .i64 ((a0a l0 x15_2).f1), .int .i64 0, .int .i64 0, .int .i64 0, .int .i64 0]) ?_ 2 _ rfl; refine qd_ ?_; refine a0u (cs := #[.int .i64 ((a0a l0 x15_2).f0), .int .i64 0, .int .i64 0, .int .i64 0, .int .i64 0, .int .i64 0]) ?_ 1 _ rfl; refine qd_ ?_; refine a0u (cs := #[.int .i64 0, .int .i64 0, .int .i64 0, .int .i64 0, .int .i64 0, .int .i64 0]) ?_ 0 _ rfl; refine qd_ ?_; exact BK374.out⟩, ⟨qb_⟩⟩
          ·rw [if_neg c23] at H
           have c23b0 : decide (a4 < ((a0a l0 x15_2).f4.f1)) = false := decide_eq_false c23
           clear c23
           have H' := am_ H
           clear H
           obtain ⟨z'30_0, z'30_1, z'30_2, z'30_3, z'30_4, z'30_5⟩ := qz6_ BK374; obtain ⟨y'30_0, y'30_1, y'30_2, y'30_3, y'30_4, y'30_5⟩ := qf6_ BK374
           go_wp2
           go_meet
           case rel => exact ⟨_, (false), qs_, H', ⟨by have := HJ7.out; have := HK2.out; first | omega | exact Nat.le_refl _⟩, ⟨by (with_reducible repeat (first | apply Kd.a1b | apply Kd.a1c | apply Kd.a0z)); exact Kd.a1s (Kd.a1k (p := ⟨gb374, 5, none⟩) (Kd.a1k (p := ⟨gb374, 4, none⟩) (Kd.a1k (p := ⟨gb374, 3, none⟩) (Kd.a1k (p := ⟨gb374, 2, none⟩) (Kd.a1k (p := ⟨gb374, 1, none⟩) (Kd.a1k (p := ⟨gb374, 0, none⟩) (Kd.a4m HO_14.out BK374.out (by decide)) (fun _ hk => hk.2) (.int .i64 ((a0a l0 x15_2).f0))) (fun _ hk => hk.2) (.int .i64 ((a0a l0 x15_2).f1))) (fun _ hk => hk.2) (.int .i64 ((a0a l0 x15_2).f2))) (fun _ hk => hk.2) (.int .i64 ((a0a l0 x15_2).f3))) (fun _ hk => hk.2) (.int .i64 ((a0a l0 x15_2).f4.f0))) (fun _ hk => hk.2) (.int .i64 ((a0a l0 x15_2).f4.f1))) (fun _ hk => trivial)⟩, ⟨by refine qd_ ?_; refine a0u (cs := #[.int .i64 ((a0a l0 x15_2).f0), .int .i64 ((a0a l0 x15_2).f1), .int .i64 ((a0a l0 x15_2).f2), .int .i64 ((a0a l0 x15_2).f3), .int .i64 ((a0a l0 x15_2).f4.f0), .int .i64 0]) ?_ 5 _ rfl; refine qd_ ?_; refine a0u (cs := #[.int .i64 ((a0a l0 x15_2).f0), .int .i64 ((a0a l0 x15_2).f1), .int .i64 ((a0a l0 x15_2).f2), .int .i64 ((a0a l0 x15_2).f3), .int .i64 0, .int .i64 0]) ?_ 4 _ rfl; refine qd_ ?_; refine a0u (cs := #[.int .i64 ((a0a l0 x15_2).f0), .int .i64 ((a0a l0 x15_2).f1), .int .i64 ((a0a l0 x15_2).f2), .int .i64 0, .int .i64 0, .int .i64 0]) ?_ 3 _ rfl; refine qd_ ?_; refine a0u (cs := #[.int .i64 ((a0a l0 x15_2).f0), .int .i64 ((a0a l0 x15_2).f1), .int .i64 0, .int .i64 0, .int .i64 0, .int .i64 0]) ?_ 2 _ rfl; refine qd_ ?_; refine a0u (cs := #[.int .i64 ((a0a l0 x15_2).f0), .int .i64 0, .int .i64 0, .int .i64 0, .int .i64 0, .int .i64 0]) ?_ 1 _ rfl; refine qd_ ?_; refine a0u (cs := #[.int .i64 0, .int .i64 0, .int .i64 0, .int .i64 0, .int .i64 0, .int .i64 0]) ?_ 0 _ rfl; refine qd_ ?_; exact BK374.out⟩, ⟨qb_⟩⟩
         ·rw [if_neg c22] at H
          have c22b0 : decide (((a0a l0 x15_2).f4.f0) ≤ a4) = false := decide_eq_false c22
          clear c22
          (first | rw [c22b0] | (simp only [a2x, a3m]; rw [c22b0]) | skip)
          have H' := am_ H
          clear H
          obtain ⟨z'31_0, z'31_1, z'31_2, z'31_3, z'31_4, z'31_5⟩ := qz6_ BK374; obtain ⟨y'31_0, y'31_1, y'31_2, y'31_3, y'31_4, y'31_5⟩ := qf6_ BK374
          go_wp2
          go_meet
          case rel => exact ⟨_, (false), qs_, H', ⟨by have := HJ7.out; have := HK2.out; first | omega | exact Nat.le_refl _⟩, ⟨by (with_reducible repeat (first | apply Kd.a1b | apply Kd.a1c | apply Kd.a0z)); exact Kd.a1s (Kd.a1k (p := ⟨gb374, 5, none⟩) (Kd.a1k (p := ⟨gb374, 4, none⟩) (Kd.a1k (p := ⟨gb374, 3, none⟩) (Kd.a1k (p := ⟨gb374, 2, none⟩) (Kd.a1k (p := ⟨gb374, 1, none⟩) (Kd.a1k (p := ⟨gb374, 0, none⟩) (Kd.a4m HO_14.out BK374.out (by decide)) (fun _ hk => hk.2) (.int .i64 ((a0a l0 x15_2).f0))) (fun _ hk => hk.2) (.int .i64 ((a0a l0 x15_2).f1))) (fun _ hk => hk.2) (.int .i64 ((a0a l0 x15_2).f2))) (fun _ hk => hk.2) (.int .i64 ((a0a l0 x15_2).f3))) (fun _ hk => hk.2) (.int .i64 ((a0a l0 x15_2).f4.f0))) (fun _ hk => hk.2) (.int .i64 ((a0a l0 x15_2).f4.f1))) (fun _ hk => trivial)⟩, ⟨by refine qd_ ?_; refine a0u (cs := #[.int .i64 ((a0a l0 x15_2).f0), .int .i64 ((a0a l0 x15_2).f1), .int .i64 ((a0a l0 x15_2).f2), .int .i64 ((a0a l0 x15_2).f3), .int .i64 ((a0a l0 x15_2).f4.f0), .int .i64 0]) ?_ 5 _ rfl; refine qd_ ?_; refine a0u (cs := #[.int .i64 ((a0a l0 x15_2).f0), .int .i64 ((a0a l0 x15_2).f1), .int .i64 ((a0a l0 x15_2).f2), .int .i64 ((a0a l0 x15_2).f3), .int .i64 0, .int .i64 0]) ?_ 4 _ rfl; refine qd_ ?_; refine a0u (cs := #[.int .i64 ((a0a l0 x15_2).f0), .int .i64 ((a0a l0 x15_2).f1), .int .i64 ((a0a l0 x15_2).f2), .int .i64 0, .int .i64 0, .int .i64 0]) ?_ 3 _ rfl; refine qd_ ?_; refine a0u (cs := #[.int .i64 ((a0a l0 x15_2).f0), .int .i64 ((a0a l0 x15_2).f1), .int .i64 0, .int .i64 0, .int .i64 0, .int .i64 0]) ?_ 2 _ rfl; refine qd_ ?_; refine a0u (cs := #[.int .i64 ((a0a l0 x15_2).f0), .int .i64 0, .int .i64 0, .int .i64 0, .int .i64 0, .int .i64 0]) ?_ 1 _ rfl; refine qd_ ?_; refine a0u (cs := #[.int .i64 0, .int .i64 0, .int .i64 0, .int .i64 0, .int .i64 0, .int .i64 0]) ?_ 0 _ rfl; refine qd_ ?_; exact BK374.out⟩, ⟨qb_⟩⟩
        case rest =>
         clear HC19
         try clear c1
         try clear c2
         try clear p2
         try clear c3
         try clear p3
         try clear q3
         try clear hx3
         try clear c11
         try clear c12
         try clear c14
         try clear c16
         try clear c17
         try clear c17b0
         try clear c18
         try clear c18b0
         try clear c22
         try clear c22b0
         try clear c23
         try clear c23b0
         try clear c25
         try clear z'21_0 z'21_1 z'21_2 z'21_3 z'21_4 z'21_5
         try clear z'27_0 z'27_1 z'27_2 z'27_3 z'27_4 z'27_5
         try clear z'29_0 z'29_1 z'29_2 z'29_3 z'29_4 z'29_5
         try clear z'30_0 z'30_1 z'30_2 z'30_3 z'30_4 z'30_5
         try clear z'31_0 z'31_1 z'31_2 z'31_3 z'31_4 z'31_5
         try clear y'21_0 y'21_1 y'21_2 y'21_3 y'21_4 y'21_5
         try clear y'27_0 y'27_1 y'27_2 y'27_3 y'27_4 y'27_5
         try clear y'29_0 y'29_1 y'29_2 y'29_3 y'29_4 y'29_5
         try clear y'30_0 y'30_1 y'30_2 y'30_3 y'30_4 y'30_5
         try clear y'31_0 y'31_1 y'31_2 y'31_3 y'31_4 y'31_5
         try clear hx373_0
         try clear hx373_1
         try clear hx373_2
         try clear hx373_3
         try clear hx373_4
         try clear hx373_5
         try clear p2
         try clear p373
         try clear q373
         obtain ⟨kq, x72_18, rfl, HA, HJ18, HO_14, BK374, HB⟩ := hcut
         cases kq with
         | zero => exact absurd HA.out (by simp [a0h.j2])
         | succ kj18 =>
          have H := HA.out
          clear HA
          simp only [a0h.j2] at H
          by_cases c32 : x72_18 = true
          ·subst c32
           have H1 : (if x14_2.length < 17592186044416 then (a0h.l0 kj18 l0 l1 a2 l3 a4 (x14_2 ++ [((a0a l0 x15_2).f0)]) (wrap64 (x15_2 + 1))) else (none)) = some (r1, r2) := by rw [if_pos rfl] at H; exact H
           clear H
           have H := H1
           clear H1
           by_cases c33 : x14_2.length < 17592186044416
           ·rw [if_pos c33] at H
            have LMc33 := am_ c33
            clear c33
            obtain ⟨y377, hy377⟩ : ∃ y_ : List Int, y_ = (x14_2 ++ [((a0a l0 x15_2).f0)]) := ⟨_, rfl⟩
            replace H : (a0h.l0 kj18 l0 l1 a2 l3 a4 y377 (wrap64 (x15_2 + 1))) = some (r1, r2) := by first | (rw [hy377]; with_reducible exact H) | (have H2_ := (Option.bind_some _ _).symm.trans H; rw [hy377]; with_reducible exact H2_) | (have H2_ := (Option.bind_some _ _).symm.trans H; with_reducible exact H2_) | with_reducible exact H | (rw [hy377]; exact H) | exact H
            have Ny377 := am_ hy377
            clear hy377
            have H' := am_ H
            clear H
            obtain ⟨z'34_0, z'34_1, z'34_2, z'34_3, z'34_4, z'34_5⟩ := qz6_ BK374; obtain ⟨y'34_0, y'34_1, y'34_2, y'34_3, y'34_4, y'34_5⟩ := qf6_ BK374
            go_wp2_with (first | ((with_reducible refine a5a (b := .append) (xs := #[.tmp 73, .tmp 76]) rfl ?_); at_builtin; refine Kd.a5z (Kd.int .i64) (w0 := w) w.heap.size rfl (.tmp 73) (.tmp 76) 34 3 (.int .i64 0) 8 rfl Try.underlying34 info3 rfl (by decide) (by omega) u14 x14_2 ((a0a l0 x15_2).f0) [.int .i64 ((a0a l0 x15_2).f0)] (fun _ => True) (fun _ => False) rfl rfl ?aP (fun _ hk => hk.elim) ?aF ?aO ?aB ?aS ?aL ?_; (case aP => exact rfl); (case aB => exact qb_); (case aF => exact (fun _ _ => trivial)); (case aO => exact (qr_ HO_14)); (case aS => exact (a1o qb_)); (case aL => have := LMc33.out; omega); intro v378 w35 ho hb hg hat; rw [← Ny377.out] at ho; replace BK374 := am_ (a3n (g := gb374) (o := .cells #[.int .i64 ((a0a l0 x15_2).f0), .int .i64 ((a0a l0 x15_2).f1), .int .i64 ((a0a l0 x15_2).f2), .int .i64 ((a0a l0 x15_2).f3), .int .i64 ((a0a l0 x15_2).f4.f0), .int .i64 ((a0a l0 x15_2).f4.f1)] 30 (0, 0)) (qk_ BK374) hg (Kd.R_ne HO_14.out BK374.out (by decide))); replace HB := am_ (hb); have HO379 := am_ (ho); clear HO_14 ho hb hg hat))
            go_roundg kj18
            case measure => have := HJ7.out; have := HK2.out; have := HJ18.out; omega
            case rel => exact ⟨(y377), (wrap64 (x15_2 + 1)), qs_, H', ⟨by have := HJ7.out; have := HK2.out; have := HJ18.out; omega⟩, ⟨by (with_reducible repeat (first | apply Kd.a1b | apply Kd.a1c | apply Kd.a0z)); exact HO379.out⟩, ⟨qb_⟩⟩
           ·rw [if_neg c33] at H
            exact absurd H (by simp)
          ·replace c32 := be_ c32
           subst c32
           have H1 : (a0h.l0 kj18 l0 l1 a2 l3 a4 x14_2 (wrap64 (x15_2 + 1))) = some (r1, r2) := by rw [if_neg (show ¬ (false = true) by decide)] at H; exact H
           clear H
           have H := H1
           clear H1
           have H' := am_ H
           clear H
           go_wp2
           go_roundg kj18
           case measure => have := HJ7.out; have := HK2.out; have := HJ18.out; omega
           case rel => exact ⟨(x14_2), (wrap64 (x15_2 + 1)), qs_, H', ⟨by have := HJ7.out; have := HK2.out; have := HJ18.out; omega⟩, ⟨by (with_reducible repeat (first | apply Kd.a1b | apply Kd.a1c | apply Kd.a0z)); exact HO_14.out⟩, ⟨qb_⟩⟩
       ·rw [if_neg c18] at H
        exact absurd H (by simp)
      ·rw [if_neg c17] at H
       have c17b0 : decide (x15_2 < (l0.length : Int)) = false := decide_eq_false c17
       clear c17
       simp only [Option.some.injEq, Prod.mk.injEq] at H
       obtain ⟨rfl, rfl⟩ := H
       go_wp2
       go_ret2
       exact ⟨_, qx_, by (with_reducible repeat (first | apply Kd.a1b | apply Kd.a1c | apply Kd.a0z)); exact HO_14.out, qb_⟩
end Go.Proofs.Ytfbgkcadnmcakaa.Px
