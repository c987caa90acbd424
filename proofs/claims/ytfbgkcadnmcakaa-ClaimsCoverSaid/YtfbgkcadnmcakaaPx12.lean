/- Contracts of Go functions, printed. Conditions: as each theorem states. -/
import Derived.Test.YtfbgkcadnmcakaaPx0
import Derived.Test.YtfbgkcadnmcakaaPx2
import Derived.Test.YtfbgkcadnmcakaaPx4
import Derived.Test.YtfbgkcadnmcakaaPx9
import Derived.Test.YtfbgkcadnmcakaaPx10
import Derived.Test.YtfbgkcadnmcakaaPx11
namespace Go.Proofs.Ytfbgkcadnmcakaa.Px
open Go.Proofs.Ytfbgkcadnmcakaa.Given
open Go.RowKit Go.Proofs.YtfbgkcadnmcakaaW.PrintWords Go.Proofs.YtfbgkcadnmcakaaW.PrintLast Go.Proofs.YtfbgkcadnmcakaaW.PrintMore
attribute [local go_sem] a2w a2u a3d a3c a2q a2r a2x a2y
set_option linter.unusedVariables false
set_option linter.unusedSimpArgs false
mutual
def a0k.j0 : Nat → List (S30) → List (S26) → Int → List Int → Int → Bool → Option (List Int × Int)
 | 0, _, _, _, _, _, _ => none
 | k + 1, x0, x1, x2, x3, x4, x36 => if x36 = true then (some (([] : List Int), 1)) else (a0k.l0 k x0 x1 x2 x4 x3 (x3.length : Int) 0 ([] : List (Int × Bool)))
def a0k.l0 : Nat → List (S30) → List (S26) → Int → Int → List Int → Int → Int → List (Int × Bool) → Option (List Int × Int)
 | 0, _, _, _, _, _, _, _, _ => none
 | k + 1, x0, x1, x2, x4, x38, x39, x40, z0 => if x40 < x39 then (if 0 ≤ x40 then (if x40 < (x38.length : Int) then (a0k.l0 k x0 x1 x2 x4 x38 x39 (wrap64 (x40 + 1)) (mput z0 (rd x38 x40) true)) else (none)) else (none)) else ((a2p.f k x1).bind fun t210 => (a0k.l1 k t210 x2 x4 ([] : List Int) x0 (x0.length : Int) 0 z0))
def a0k.l1 : Nat → List (S26) → Int → Int → List Int → List (S30) → Int → Int → List (Int × Bool) → Option (List Int × Int)
 | 0, _, _, _, _, _, _, _, _ => none
 | k + 1, x1, x2, x4, x15, x49, x50, x51, z0 => if x51 < x50 then (if 0 ≤ x51 then (if x51 < (x49.length : Int) then (if ((a0a x49 x51).f4.f0) ≤ x4 then (if x4 < ((a0a x49 x51).f4.f1) then (if a4s z0 ((a0a x49 x51).f1) = true then ((a1f.f k ((a0a x49 x51).f0) ((a0a x49 x51).f1) ((a0a x49 x51).f2) ((a0a x49 x51).f3) ((a0a x49 x51).f4.f0) ((a0a x49 x51).f4.f1) x1 x4).bind fun t215 => (a0k.j3 k x1 x2 x4 x15 x49 x50 x51 (t215 == x2) z0 ((a0a x49 x51).f0) ((a0a x49 x51).f1) ((a0a x49 x51).f2) ((a0a x49 x51).f3) ((a0a x49 x51).f4.f0) ((a0a x49 x51).f4.f1))) else (a0k.j3 k x1 x2 x4 x15 x49 x50 x51 false z0 ((a0a x49 x51).f0) ((a0a x49 x51).f1) ((a0a x49 x51).f2) ((a0a x49 x51).f3) ((a0a x49 x51).f4.f0) ((a0a x49 x51).f4.f1))) else (a0k.j3 k x1 x2 x4 x15 x49 x50 x51 false z0 ((a0a x49 x51).f0) ((a0a x49 x51).f1) ((a0a x49 x51).f2) ((a0a x49 x51).f3) ((a0a x49 x51).f4.f0) ((a0a x49 x51).f4.f1))) else (a0k.j3 k x1 x2 x4 x15 x49 x50 x51 false z0 ((a0a x49 x51).f0) ((a0a x49 x51).f1) ((a0a x49 x51).f2) ((a0a x49 x51).f3) ((a0a x49 x51).f4.f0) ((a0a x49 x51).f4.f1))) else (none)) else (none)) else (some (x15, 0))
def a0k.j3 : Nat → List (S26) → Int → Int → List Int → List (S30) → Int → Int → Bool → List (Int × Bool) → Int → Int → Int → Int → Int → Int → Option (List Int × Int)
 | 0, _, _, _, _, _, _, _, _, _, _, _, _, _, _, _ => none
 | k + 1, x1, x2, x4, x15, x49, x50, x51, x80, z0, z1, z2, z3, z4, z5, z6 => if x80 = true then (if x15.length < 17592186044416 then (a0k.l1 k x1 x2 x4 (x15 ++ [z1]) x49 x50 (wrap64 (x51 + 1)) z0) else (none)) else (a0k.l1 k x1 x2 x4 x15 x49 x50 (wrap64 (x51 + 1)) z0)
end
def a0k.f (k : Nat) (l0 : List (S30)) (l1 : List (S26)) (a2 : Int) (l3 : List Int) (a4 : Int) : Option (List Int × Int) := (a2t.f k l0).bind fun t201 => (if t201 = true then ((a1x.f k l1).bind fun t202 => (if t202 = true then ((a1l.f k (([a2] : List Int))).bind fun t206 => (if t206 = true then ((a2f.f a4).bind fun t207 => (a0k.j0 k l0 l1 a2 l3 a4 (!t207))) else (a0k.j0 k l0 l1 a2 l3 a4 true))) else (a0k.j0 k l0 l1 a2 l3 a4 true))) else (a0k.j0 k l0 l1 a2 l3 a4 true))
theorem a0k.a1k : ∀ k, (∀ y0 y1 y2 y3 y4 y5, LeO (a0k.j0 k y0 y1 y2 y3 y4 y5) (a0k.j0 (k + 1) y0 y1 y2 y3 y4 y5)) ∧ (∀ y0 y1 y2 y3 y4 y5 y6 y7, LeO (a0k.l0 k y0 y1 y2 y3 y4 y5 y6 y7) (a0k.l0 (k + 1) y0 y1 y2 y3 y4 y5 y6 y7)) ∧ (∀ y0 y1 y2 y3 y4 y5 y6 y7, LeO (a0k.l1 k y0 y1 y2 y3 y4 y5 y6 y7) (a0k.l1 (k + 1) y0 y1 y2 y3 y4 y5 y6 y7)) ∧ (∀ y0 y1 y2 y3 y4 y5 y6 y7 y8 y9 y10 y11 y12 y13 y14, LeO (a0k.j3 k y0 y1 y2 y3 y4 y5 y6 y7 y8 y9 y10 y11 y12 y13 y14) (a0k.j3 (k + 1) y0 y1 y2 y3 y4 y5 y6 y7 y8 y9 y10 y11 y12 y13 y14))
 | 0 => ⟨fun _ _ _ _ _ _ r h => by simp [a0k.j0] at h, fun _ _ _ _ _ _ _ _ r h => by simp [a0k.l0] at h, fun _ _ _ _ _ _ _ _ r h => by simp [a0k.l1] at h, fun _ _ _ _ _ _ _ _ _ _ _ _ _ _ _ r h => by simp [a0k.j3] at h⟩
 | k + 1 => by
  obtain ⟨ih0, ih1, ih2, ih3⟩ := a0k.a1k k
  refine ⟨?_, ?_, ?_, ?_⟩
  ·intro y0 y1 y2 y3 y4 y5
   unfold a0k.j0
   with_reducible (repeat' first | apply ih0 | apply ih1 | apply ih2 | apply ih3 | apply a2t.mono | apply a1x.mono | apply a2p.mono | apply a1f.mono | apply a1l.mono | apply LeO.refl | apply LeO.none | apply LeO.ite | refine LeO.bind ?_ (fun _ => ?_))
  ·intro y0 y1 y2 y3 y4 y5 y6 y7
   unfold a0k.l0
   with_reducible (repeat' first | apply ih0 | apply ih1 | apply ih2 | apply ih3 | apply a2t.mono | apply a1x.mono | apply a2p.mono | apply a1f.mono | apply a1l.mono | apply LeO.refl | apply LeO.none | apply LeO.ite | refine LeO.bind ?_ (fun _ => ?_))
  ·intro y0 y1 y2 y3 y4 y5 y6 y7
   unfold a0k.l1
   with_reducible (repeat' first | apply ih0 | apply ih1 | apply ih2 | apply ih3 | apply a2t.mono | apply a1x.mono | apply a2p.mono | apply a1f.mono | apply a1l.mono | apply LeO.refl | apply LeO.none | apply LeO.ite | refine LeO.bind ?_ (fun _ => ?_))
  ·intro y0 y1 y2 y3 y4 y5 y6 y7 y8 y9 y10 y11 y12 y13 y14
   unfold a0k.j3
   with_reducible (repeat' first | apply ih0 | apply ih1 | apply ih2 | apply ih3 | apply a2t.mono | apply a1x.mono | apply a2p.mono | apply a1f.mono | apply a1l.mono | apply LeO.refl | apply LeO.none | apply LeO.ite | refine LeO.bind ?_ (fun _ => ?_))
theorem a0k.mono : ∀ a0 a1 a2 a3 a4 k, LeO (a0k.f k a0 a1 a2 a3 a4) (a0k.f (k + 1) a0 a1 a2 a3 a4) := by
 intro a0 a1 a2 a3 a4 k
 obtain ⟨ih0, ih1, ih2, ih3⟩ := a0k.a1k k
 unfold a0k.f
 with_reducible (repeat' first | apply ih0 | apply ih1 | apply ih2 | apply ih3 | apply a2t.mono | apply a1x.mono | apply a2p.mono | apply a1f.mono | apply a1l.mono | apply LeO.refl | apply LeO.none | apply LeO.ite | refine LeO.bind ?_ (fun _ => ?_))
set_option maxHeartbeats 8000000 in
set_option maxRecDepth 100000 in
theorem a0k.calls (k : Nat) (A0 : Option Addr) (c0 : Nat) (l0 : List (S30)) (A1 : Option Addr) (c1 : Nat) (l1 : List (S26)) (a2 : Int) (A3 : Option Addr) (c3 : Nat) (l3 : List Int) (a4 : Int) (r1 : List Int) (r2 : Int) (w : World) (hr0 : Kd.C k30 w A0 l0.length l0) (hc0 : l0.length ≤ c0) (hr1 : Kd.C k26 w A1 l1.length l1) (hc1 : l1.length ≤ c1) (hr3 : Kd.C (Kd.int .i64) w A3 l3.length l3) (hc3 : l3.length ≤ c3) (h : a0k.f k l0 l1 a2 l3 a4 = some (r1, r2)) :
  Calls Try.prog 11 #[.slice A0 l0.length c0, .slice A1 l1.length c1, .int .i64 a2, .slice A3 l3.length c3, .int .i64 a4] w fun e w' => ∃ v0_ : Value, e = .returned (.tuple #[v0_, .int .i64 r2]) ∧ Kd.R (Kd.int .i64) 3 w' w.heap.size (fun _ => True) v0_ r1 ∧ Below w.heap.size w w' := by
 have hu30 := Try.underlying30
 have HR0 := am_ hr0
 have HC0 := am_ hc0
 clear hr0 hc0
 have HR1 := am_ hr1
 have HC1 := am_ hc1
 clear hr1 hc1
 have HR3 := am_ hr3
 have HC3 := am_ hc3
 clear hr3 hc3
 have HB := am_ (Below.refl w.heap.size w)
 have H : ((a2t.f k l0).bind fun t201 => (if t201 = true then ((a1x.f k l1).bind fun t202 => (if t202 = true then ((a1l.f k (([a2] : List Int))).bind fun t206 => (if t206 = true then ((a2f.f a4).bind fun t207 => (a0k.j0 k l0 l1 a2 l3 a4 (!t207))) else (a0k.j0 k l0 l1 a2 l3 a4 true))) else (a0k.j0 k l0 l1 a2 l3 a4 true))) else (a0k.j0 k l0 l1 a2 l3 a4 true))) = some (r1, r2) := h
 clear h
 have HC6 := am_ H
 clear H
 go_enter Try.func11, Try.ntmps11
 go_upto_region 1 with (fail)
 go_cut [36] (fun v36 wc => ∃ (kq : Nat) (x36_5 : Bool), v36 = .bool x36_5 ∧ Aside0 (a0k.j0 kq l0 l1 a2 l3 a4 x36_5 = some (r1, r2)) ∧ Aside0 (kq ≤ k) ∧ Aside0 (Below w.heap.size w wc))
 case first =>
  have H := HC6.out
  clear HC6
  replace H := bm_ H
  obtain ⟨t201, A70, H⟩ := H
  replace H : (if t201 = true then ((a1x.f k l1).bind fun t202 => (if t202 = true then ((a1l.f k (([a2] : List Int))).bind fun t206 => (if t206 = true then ((a2f.f a4).bind fun t207 => (a0k.j0 k l0 l1 a2 l3 a4 (!t207))) else (a0k.j0 k l0 l1 a2 l3 a4 true))) else (a0k.j0 k l0 l1 a2 l3 a4 true))) else (a0k.j0 k l0 l1 a2 l3 a4 true)) = some (r1, r2) := H
  have A7 := am_ A70
  clear A70
  by_cases c8 : t201 = true
  ·subst c8
   have H1 : ((a1x.f k l1).bind fun t202 => (if t202 = true then ((a1l.f k (([a2] : List Int))).bind fun t206 => (if t206 = true then ((a2f.f a4).bind fun t207 => (a0k.j0 k l0 l1 a2 l3 a4 (!t207))) else (a0k.j0 k l0 l1 a2 l3 a4 true))) else (a0k.j0 k l0 l1 a2 l3 a4 true))) = some (r1, r2) := by rw [if_pos rfl] at H; exact H
   clear H
   have H := H1
   clear H1
   replace H := bm_ H
   obtain ⟨t202, A90, H⟩ := H
   replace H : (if t202 = true then ((a1l.f k (([a2] : List Int))).bind fun t206 => (if t206 = true then ((a2f.f a4).bind fun t207 => (a0k.j0 k l0 l1 a2 l3 a4 (!t207))) else (a0k.j0 k l0 l1 a2 l3 a4 true))) else (a0k.j0 k l0 l1 a2 l3 a4 true)) = some (r1, r2) := H
   have A9 := am_ A90
   clear A90
   by_cases c10 : t202 = true
   ·subst c10
    have H1 : ((a1l.f k (([a2] : List Int))).bind fun t206 => (if t206 = true then ((a2f.f a4).bind fun t207 => (a0k.j0 k l0 l1 a2 l3 a4 (!t207))) else (a0k.j0 k l0 l1 a2 l3 a4 true))) = some (r1, r2) := by rw [if_pos rfl] at H; exact H
    clear H
    have H := H1
    clear H1
    obtain ⟨y203, hy203⟩ : ∃ y_ : List Int, y_ = (([a2] : List Int)) := ⟨_, rfl⟩
    replace H : ((a1l.f k y203).bind fun t206 => (if t206 = true then ((a2f.f a4).bind fun t207 => (a0k.j0 k l0 l1 a2 l3 a4 (!t207))) else (a0k.j0 k l0 l1 a2 l3 a4 true))) = some (r1, r2) := by first | (rw [hy203]; with_reducible exact H) | (have H2_ := (Option.bind_some _ _).symm.trans H; rw [hy203]; with_reducible exact H2_) | (have H2_ := (Option.bind_some _ _).symm.trans H; with_reducible exact H2_) | with_reducible exact H | (rw [hy203]; exact H) | exact H
    have Ny203 := am_ hy203
    clear hy203
    replace H := bm_ H
    obtain ⟨t206, A110, H⟩ := H
    replace H : (if t206 = true then ((a2f.f a4).bind fun t207 => (a0k.j0 k l0 l1 a2 l3 a4 (!t207))) else (a0k.j0 k l0 l1 a2 l3 a4 true)) = some (r1, r2) := H
    have A11 := am_ A110
    clear A110
    by_cases c12 : t206 = true
    ·subst c12
     have H1 : ((a2f.f a4).bind fun t207 => (a0k.j0 k l0 l1 a2 l3 a4 (!t207))) = some (r1, r2) := by rw [if_pos rfl] at H; exact H
     clear H
     have H := H1
     clear H1
     replace H := bm_ H
     obtain ⟨t207, A130, H⟩ := H
     replace H : (a0k.j0 k l0 l1 a2 l3 a4 (!t207)) = some (r1, r2) := H
     have A13 := am_ A130
     clear A130
     have H' := am_ H
     clear H
     go_wp2_with (first | ((with_reducible refine a1c (f := 16) rfl ?_); refine a1y (some 19) rfl rfl Try.func16 (by kernel_rfl) rfl #[.slice A0 l0.length c0] rfl ql_ ?_; (with_reducible refine (a2t.calls k _ _ l0 true _ ?s1 ?s2 A7.out).mono ?_); (case s1 => exact qc_ HR0); (case s2 => exact HC0.out); rintro e w14 ⟨rfl, hb⟩; refine ⟨_, rfl, ?_⟩; replace HB := qbs_ hb; (try clear hb); (try clear hb2); (try clear hk); (try clear hi)) | (go_at_call 23; (with_reducible refine (a1x.calls k _ _ l1 true _ ?s1 ?s2 A9.out).mono ?_); (case s1 => exact qc_ HR1); (case s2 => exact HC1.out); rintro e w15 ⟨rfl, hb⟩; replace HB := qbs_ hb; (try clear hb); (try clear hb2); (try clear hk); (try clear hi)) | ((with_reducible refine a1g (N := 28) rfl ?_); (try (refine a2a (by rfl) ?_; dsimp only)); refine Kd.a4m (Kd.int .i64) _ 3 ?hg (N := 28) ?hd (xs := ([a2] : List Int)) (inner := [.int .i64 a2]) (ok := fun _ => True) (okp := fun _ => True) ?hr ?hp (fun _ hk => hk) trivial (Below.refl _ _) (Nat.le_refl _) (by simp) ?_; (case hd => rfl); (case hg => rfl); (case hr => exact qq_); (case hp => exact (Reps.one (show Kd.M (Kd.int .i64) _ _ _ a2 [.int .i64 a2] from rfl) (Reps.none _ _))); intro v204 w16 ho17 hb hg_ hnew_; clear hg_ hnew_; (first | rw [← Ny203.out] at ho17 | (simp only [Int.reduceToNat] at ho17; rw [← Ny203.out] at ho17)); have HO205 := am_ (Kd.a2k ho17 (a1s qb_)); replace HB := qbs_ hb; clear hb ho17; obtain ⟨Ao18, co18, eo18⟩ := Kd.a1v HO205.out; subst eo18) | (go_at_call 27; (with_reducible refine (a1l.calls k _ _ y203 true _ ?s1 ?s2 A11.out).mono ?_); (case s1 => exact qv_ (Kd.a0p HO205.out).2.2); (case s2 => exact (Kd.a0p HO205.out).2.1); rintro e w' ⟨rfl, ⟨nd, rfl⟩⟩) | (go_at_call 24; (with_reducible refine (a2f.calls a4 t207 _ A13.out).mono ?_); rintro e w' ⟨rfl, ⟨nd, rfl⟩⟩))
     go_meet
     case rel => exact ⟨_, (!t207), qs_, H', ⟨qo_⟩, ⟨qb_⟩⟩
    ·replace c12 := be_ c12
     subst c12
     have H1 : (a0k.j0 k l0 l1 a2 l3 a4 true) = some (r1, r2) := by rw [if_neg (show ¬ (false = true) by decide)] at H; exact H
     clear H
     have H := H1
     clear H1
     have H' := am_ H
     clear H
     go_wp2_with (first | ((with_reducible refine a1c (f := 16) rfl ?_); refine a1y (some 19) rfl rfl Try.func16 (by kernel_rfl) rfl #[.slice A0 l0.length c0] rfl ql_ ?_; (with_reducible refine (a2t.calls k _ _ l0 true _ ?s1 ?s2 A7.out).mono ?_); (case s1 => exact qc_ HR0); (case s2 => exact HC0.out); rintro e w19 ⟨rfl, hb⟩; refine ⟨_, rfl, ?_⟩; replace HB := qbs_ hb; (try clear hb); (try clear hb2); (try clear hk); (try clear hi)) | (go_at_call 23; (with_reducible refine (a1x.calls k _ _ l1 true _ ?s1 ?s2 A9.out).mono ?_); (case s1 => exact qc_ HR1); (case s2 => exact HC1.out); rintro e w20 ⟨rfl, hb⟩; replace HB := qbs_ hb; (try clear hb); (try clear hb2); (try clear hk); (try clear hi)) | ((with_reducible refine a1g (N := 28) rfl ?_); (try (refine a2a (by rfl) ?_; dsimp only)); refine Kd.a4m (Kd.int .i64) _ 3 ?hg (N := 28) ?hd (xs := ([a2] : List Int)) (inner := [.int .i64 a2]) (ok := fun _ => True) (okp := fun _ => True) ?hr ?hp (fun _ hk => hk) trivial (Below.refl _ _) (Nat.le_refl _) (by simp) ?_; (case hd => rfl); (case hg => rfl); (case hr => exact qq_); (case hp => exact (Reps.one (show Kd.M (Kd.int .i64) _ _ _ a2 [.int .i64 a2] from rfl) (Reps.none _ _))); intro v204 w21 ho22 hb hg_ hnew_; clear hg_ hnew_; (first | rw [← Ny203.out] at ho22 | (simp only [Int.reduceToNat] at ho22; rw [← Ny203.out] at ho22)); have HO205 := am_ (Kd.a2k ho22 (a1s qb_)); replace HB := qbs_ hb; clear hb ho22; obtain ⟨Ao23, co23, eo23⟩ := Kd.a1v HO205.out; subst eo23) | (go_at_call 27; (with_reducible refine (a1l.calls k _ _ y203 false _ ?s1 ?s2 A11.out).mono ?_); (case s1 => exact qv_ (Kd.a0p HO205.out).2.2); (case s2 => exact (Kd.a0p HO205.out).2.1); rintro e w' ⟨rfl, ⟨nd, rfl⟩⟩))
     go_meet
     case rel => exact ⟨_, (true), qs_, H', ⟨qo_⟩, ⟨qb_⟩⟩
   ·replace c10 := be_ c10
    subst c10
    have H1 : (a0k.j0 k l0 l1 a2 l3 a4 true) = some (r1, r2) := by rw [if_neg (show ¬ (false = true) by decide)] at H; exact H
    clear H
    have H := H1
    clear H1
    have H' := am_ H
    clear H
    go_wp2_with (first | ((with_reducible refine a1c (f := 16) rfl ?_); refine a1y (some 19) rfl rfl Try.func16 (by kernel_rfl) rfl #[.slice A0 l0.length c0] rfl ql_ ?_; (with_reducible refine (a2t.calls k _ _ l0 true _ ?s1 ?s2 A7.out).mono ?_); (case s1 => exact qc_ HR0); (case s2 => exact HC0.out); rintro e w24 ⟨rfl, hb⟩; refine ⟨_, rfl, ?_⟩; replace HB := qbs_ hb; (try clear hb); (try clear hb2); (try clear hk); (try clear hi)) | (go_at_call 23; (with_reducible refine (a1x.calls k _ _ l1 false _ ?s1 ?s2 A9.out).mono ?_); (case s1 => exact qc_ HR1); (case s2 => exact HC1.out); rintro e w25 ⟨rfl, hb⟩; replace HB := qbs_ hb; (try clear hb); (try clear hb2); (try clear hk); (try clear hi)))
    go_meet
    case rel => exact ⟨_, (true), qs_, H', ⟨qo_⟩, ⟨qb_⟩⟩
  ·replace c8 := be_ c8
   subst c8
   have H1 : (a0k.j0 k l0 l1 a2 l3 a4 true) = some (r1, r2) := by rw [if_neg (show ¬ (false = true) by decide)] at H; exact H
   clear H
   have H := H1
   clear H1
   have H' := am_ H
   clear H
   go_wp2_with (first | ((with_reducible refine a1c (f := 16) rfl ?_); refine a1y (some 19) rfl rfl Try.func16 (by kernel_rfl) rfl #[.slice A0 l0.length c0] rfl ql_ ?_; (with_reducible refine (a2t.calls k _ _ l0 false _ ?s1 ?s2 A7.out).mono ?_); (case s1 => exact qc_ HR0); (case s2 => exact HC0.out); rintro e w26 ⟨rfl, hb⟩; refine ⟨_, rfl, ?_⟩; replace HB := qbs_ hb; (try clear hb); (try clear hb2); (try clear hk); (try clear hi)))
   go_meet
   case rel => exact ⟨_, (true), qs_, H', ⟨qo_⟩, ⟨qb_⟩⟩
 case rest =>
  clear HC6
  try clear c1
  try clear p2
  try clear c3
  try clear c8
  try clear c10
  try clear c11
  try clear c12
  try clear c16
  obtain ⟨kq, x36_5, rfl, HA, HJ5, HB⟩ := hcut
  cases kq with
  | zero => exact absurd HA.out (by simp [a0k.j0])
  | succ kj5 =>
   have H := HA.out
   clear HA
   simp only [a0k.j0] at H
   by_cases c27 : x36_5 = true
   ·subst c27
    have H1 : (some (([] : List Int), 1)) = some (r1, r2) := by rw [if_pos rfl] at H; exact H
    clear H
    have H := H1
    clear H1
    simp only [Option.some.injEq, Prod.mk.injEq] at H
    obtain ⟨rfl, rfl⟩ := H
    go_wp2
    go_ret2
    exact ⟨_, qx_, by first | exact Kd.a5x _ _ _ _ _ | exact Kd.N_nil _ _ _ _ _ | exact Kd.V_nil _ _ _ _ _ | exact Kd.Q_nil _ _ _ _ _ | exact Kd.S_nil _ _ _ _ _, qb_⟩
   ·replace c27 := be_ c27
    subst c27
    have H1 : (a0k.l0 kj5 l0 l1 a2 a4 l3 (l3.length : Int) 0 ([] : List (Int × Bool))) = some (r1, r2) := by rw [if_neg (show ¬ (false = true) by decide)] at H; exact H
    clear H
    have H := H1
    clear H1
    have H' := am_ H
    clear H
    go_wp2_with (first | ((with_reducible refine a1g (N := 37) rfl ?_); (try (refine a2a (by rfl) ?_; dsimp only)); refine a7p (Value.bool) ?hg (N := 37) ?hd (T := 57) ?ho ?_; (case hg => rfl); (case hd => rfl); (case ho => rfl); intro gb208 hg w28 hbox hb; have BK208 := am_ (hbox); have GW208 := qga_ hg; have GE208 := qga_ hg; replace HB := qbs_ hb; clear hb hbox hg))
    go_loopg [40] kj5 (fun kq v40 w' => ∃ (x40_2 : Int) (x209000_2 : List (Int × Bool)), v40 = .int .i64 x40_2 ∧ Aside0 (a0k.l0 kq l0 l1 a2 a4 l3 (l3.length : Int) x40_2 x209000_2 = some (r1, r2)) ∧ Aside0 (kq ≤ kj5) ∧ Aside0 (w'.heap[gb208]? = some (a1o (Value.bool) x209000_2)) ∧ Aside0 (Below w.heap.size w w'))
    case atStart => exact ⟨(0), (([] : List (Int × Bool))), qs_, H', ⟨Nat.le_refl _⟩, ⟨qk_ BK208⟩, ⟨qb_⟩⟩
    case round =>
     clear H'
     try clear c1
     try clear c2
     try clear p2
     try clear c3
     try clear c8
     try clear c10
     try clear c11
     try clear c12
     try clear c16
     try clear c27
     try clear p2
     obtain ⟨x40_2, x209000_2, rfl, HA, HK2, BK208, HB⟩ := hrel
     cases gk with
     | zero => exact absurd HA.out (by simp [a0k.l0])
     | succ k2 =>
      have H := HA.out
      clear HA
      simp only [a0k.l0] at H
      by_cases c29 : x40_2 < (l3.length : Int)
      ·rw [if_pos c29] at H
       have c29b0 : decide (x40_2 < (l3.length : Int)) = true := decide_eq_true c29
       clear c29
       by_cases c30 : 0 ≤ x40_2
       ·rw [if_pos c30] at H
        have c30b0 : decide (0 ≤ x40_2) = true := decide_eq_true c30
        clear c30
        by_cases c31 : x40_2 < (l3.length : Int)
        ·rw [if_pos c31] at H
         have c31b0 : decide (x40_2 < (l3.length : Int)) = true := decide_eq_true c31
         clear c31
         have H' := am_ H
         clear H
         have p209 : 0 ≤ (x40_2 : Int) := ot_
         have q209 : x40_2 < (l3.length : Int) := ot_
         obtain ⟨ad209, e209, hx209_0⟩ := Kd.a4l HR3.out x40_2 p209 q209
         cases e209
         replace hx209_0 := qh_ HB hx209_0
         replace p209 := eq_true p209
         replace q209 := eq_true q209
         go_wp2_with (first | ((with_reducible refine a7o (t := 57) (p := 44) rfl ?_); refine a6y rfl rfl (M := x209000_2) (k := rd l3 x40_2) (y := true) Try.underlying57 Try.underlying3 (qk_ BK208) rfl ?hx ?hv ?_; (case hx => first | rfl | (go_simp; done) | (go_simp; rfl)); (case hv => first | rfl | (go_simp; done) | (go_simp; rfl)); intro w32 hM hg; replace BK208 := am_ (hM); replace HB := am_ (a6h qb_ hg GE208.out); clear hg hM))
         go_roundg k2
         case measure => have := HJ5.out; have := HK2.out; omega
         case rel => exact ⟨(wrap64 (x40_2 + 1)), (mput x209000_2 (rd l3 x40_2) true), qs_, H', ⟨by have := HJ5.out; have := HK2.out; omega⟩, ⟨qk_ BK208⟩, ⟨qb_⟩⟩
        ·rw [if_neg c31] at H
         exact absurd H (by simp)
       ·rw [if_neg c30] at H
        exact absurd H (by simp)
      ·rw [if_neg c29] at H
       have c29b0 : decide (x40_2 < (l3.length : Int)) = false := decide_eq_false c29
       clear c29
       replace H := bm_ H
       obtain ⟨t210, A330, H⟩ := H
       replace H : (a0k.l1 k2 t210 a2 a4 ([] : List Int) l0 (l0.length : Int) 0 x209000_2) = some (r1, r2) := H
       have A33 := am_ A330
       clear A330
       have H' := am_ H
       clear H
       go_wp2_with (first | ((with_reducible refine a1c (f := 26) rfl ?_); refine a1y (some 48) rfl rfl Try.func26 (by kernel_rfl) rfl #[.slice A1 l1.length c1] rfl ql_ ?_; (with_reducible refine (a2p.calls k2 _ _ l1 t210 _ ?s1 ?s2 A33.out).mono ?_); (case s1 => exact qc_ HR1); (case s2 => exact HC1.out); rintro e w34 ⟨v211, rfl, ho0, hb⟩; refine ⟨_, rfl, ?_⟩; have HO212 := am_ (Kd.a2k ho0 (a1s qb_)); replace BK208 := am_ (a2v (g := gb208) (o := a1o (Value.bool) x209000_2) (qk_ BK208) hb); replace HB := qbs_ hb; (try clear hb); (try clear hb2); (try clear hk); (try clear hi); (try clear ho0)))
       go_loopg [15, 51] k2 (fun kq v15 v51 w' => ∃ (x15_3 : List Int) (x51_3 : Int), v51 = .int .i64 x51_3 ∧ Aside0 (a0k.l1 kq t210 a2 a4 x15_3 l0 (l0.length : Int) x51_3 x209000_2 = some (r1, r2)) ∧ Aside0 (kq ≤ k2) ∧ Aside0 (Kd.R k26 26 w' w.heap.size (fun _ => True) v211 t210) ∧ Aside0 (Kd.R (Kd.int .i64) 3 w' w.heap.size (fun _ => True) v15 x15_3) ∧ Aside0 (w'.heap[gb208]? = some (a1o (Value.bool) x209000_2)) ∧ Aside0 (Below w.heap.size w w'))
       case atStart => exact ⟨(([] : List Int)), (0), qs_, H', ⟨Nat.le_refl _⟩, ⟨by (with_reducible repeat (first | apply Kd.a0n | apply Kd.a0o | apply Kd.a0m)); exact HO212.out⟩, ⟨by first | exact Kd.a5x _ _ _ _ _ | exact Kd.N_nil _ _ _ _ _ | exact Kd.V_nil _ _ _ _ _ | exact Kd.Q_nil _ _ _ _ _ | exact Kd.S_nil _ _ _ _ _⟩, ⟨qk_ BK208⟩, ⟨qb_⟩⟩
       case round =>
        clear H'
        try clear c1
        try clear c2
        try clear p2
        try clear q2
        try clear hx2
        try clear c3
        try clear p6
        try clear c8
        try clear c10
        try clear c11
        try clear c12
        try clear c16
        try clear p20
        try clear q20
        try clear hx20
        try clear c26
        try clear c27
        try clear c29
        try clear c29b0
        try clear c30
        try clear c30b0
        try clear c31
        try clear c31b0
        try clear hx209_0
        try clear p2
        try clear p209
        try clear q209
        obtain ⟨x15_3, x51_3, rfl, HA, HK3, HO_1, HO_15, BK208, HB⟩ := hrel
        cases gk with
        | zero => exact absurd HA.out (by simp [a0k.l1])
        | succ k3 =>
         have H := HA.out
         clear HA
         simp only [a0k.l1] at H
         by_cases c35 : x51_3 < (l0.length : Int)
         ·rw [if_pos c35] at H
          have c35b0 : decide (x51_3 < (l0.length : Int)) = true := decide_eq_true c35
          clear c35
          by_cases c36 : 0 ≤ x51_3
          ·rw [if_pos c36] at H
           have c36b0 : decide (0 ≤ x51_3) = true := decide_eq_true c36
           clear c36
           by_cases c37 : x51_3 < (l0.length : Int)
           ·rw [if_pos c37] at H
            have c37b0 : decide (x51_3 < (l0.length : Int)) = true := decide_eq_true c37
            clear c37
            have HC38 := am_ H
            clear H
            have p213 : 0 ≤ (x51_3 : Int) := ot_
            have q213 : x51_3 < (l0.length : Int) := ot_
            obtain ⟨ad213, e213, hx213_0, hx213_1, hx213_2, hx213_3, hx213_4, hx213_5⟩ := a3q HR0.out x51_3 p213 q213
            cases e213
            replace hx213_0 := qh_ HB hx213_0
            replace hx213_1 := qh_ HB hx213_1
            replace hx213_2 := qh_ HB hx213_2
            replace hx213_3 := qh_ HB hx213_3
            replace hx213_4 := qh_ HB hx213_4
            replace hx213_5 := qh_ HB hx213_5
            replace p213 := eq_true p213
            replace q213 := eq_true q213
            go_upto_region 14 with (first | ((with_reducible refine a1g (N := 17) rfl ?_); (try (refine a2a (by rfl) ?_; dsimp only)); refine qev_ 17 #[.int .i64 0, .int .i64 0, .int .i64 0, .int .i64 0, .int .i64 0, .int .i64 0] 30 ?_; intro gb214 hg w39 hbox hb; replace HO_1 := qrb_ HO_1 hb; replace HO_15 := qrb_ HO_15 hb; have BK214 := am_ (hbox); have GW214 := qga_ hg; have GE214 := qga_ hg; replace HB := qbs_ hb; have NB208_214 := am_ ((by rw [hg]; exact Nat.ne_of_lt (a2d (g := gb208) (o := a1o (Value.bool) x209000_2) (qk_ BK208)) : gb208 ≠ gb214)); have NB214_208 := am_ ((by rw [hg]; exact Nat.ne_of_gt (a2d (g := gb208) (o := a1o (Value.bool) x209000_2) (qk_ BK208)) : gb214 ≠ gb208)); replace BK208 := am_ (a2v (g := gb208) (o := a1o (Value.bool) x209000_2) (qk_ BK208) hb); clear hb hbox hg; have hnb40 := NB214_208.out; have hnc40 := NB208_214.out; obtain ⟨z'41_0, z'41_1, z'41_2, z'41_3, z'41_4, z'41_5⟩ := qz6_ BK214; obtain ⟨y'41_0, y'41_1, y'41_2, y'41_3, y'41_4, y'41_5⟩ := qf6_ BK214))
            (try simp only [Act.put, List.setIfInBounds_toArray, List.set_cons_zero, List.set_cons_succ])
            go_cut [80] (fun v80 wc => ∃ (kq : Nat) (x80_37 : Bool), v80 = .bool x80_37 ∧ Aside0 (a0k.j3 kq t210 a2 a4 x15_3 l0 (l0.length : Int) x51_3 x80_37 x209000_2 ((a0a l0 x51_3).f0) ((a0a l0 x51_3).f1) ((a0a l0 x51_3).f2) ((a0a l0 x51_3).f3) ((a0a l0 x51_3).f4.f0) ((a0a l0 x51_3).f4.f1) = some (r1, r2)) ∧ Aside0 (kq ≤ k3) ∧ Aside0 (Kd.R k26 26 wc w.heap.size (fun _ => True) v211 t210) ∧ Aside0 (Kd.R (Kd.int .i64) 3 wc w.heap.size (fun _ => True) u15 x15_3) ∧ Aside0 (wc.heap[gb208]? = some (a1o (Value.bool) x209000_2)) ∧ Aside0 (wc.heap[gb214]? = some (.cells #[.int .i64 ((a0a l0 x51_3).f0), .int .i64 ((a0a l0 x51_3).f1), .int .i64 ((a0a l0 x51_3).f2), .int .i64 ((a0a l0 x51_3).f3), .int .i64 ((a0a l0 x51_3).f4.f0), .int .i64 ((a0a l0 x51_3).f4.f1)] 30 (0, 0))) ∧ Aside0 (Below w.heap.size w wc))
            case first =>
             have H := HC38.out
             clear HC38
             by_cases c42 : ((a0a l0 x51_3).f4.f0) ≤ a4
             ·rw [if_pos c42] at H
              have c42b0 : decide (((a0a l0 x51_3).f4.f0) ≤ a4) = true := decide_eq_true c42
              clear c42
              (first | rw [c42b0] | (simp only [a3k, a4i]; rw [c42b0]) | skip)
              by_cases c43 : a4 < ((a0a l0 x51_3).f4.f1)
              ·rw [if_pos c43] at H
               have c43b0 : decide (a4 < ((a0a l0 x51_3).f4.f1)) = true := decide_eq_true c43
               clear c43
               by_cases c44 : a4s x209000_2 ((a0a l0 x51_3).f1) = true
               ·rw [if_pos c44] at H
                have c44b0 : a4s x209000_2 ((a0a l0 x51_3).f1) = true := c44
                clear c44
                replace H := bm_ H
                obtain ⟨t215, A450, H⟩ := H
                replace H : (a0k.j3 k3 t210 a2 a4 x15_3 l0 (l0.length : Int) x51_3 (t215 == a2) x209000_2 ((a0a l0 x51_3).f0) ((a0a l0 x51_3).f1) ((a0a l0 x51_3).f2) ((a0a l0 x51_3).f3) ((a0a l0 x51_3).f4.f0) ((a0a l0 x51_3).f4.f1)) = some (r1, r2) := H
                have A45 := am_ A450
                clear A450
                have H' := am_ H
                clear H
                have hnb46 := NB214_208.out
                have hnc46 := NB208_214.out
                obtain ⟨z'47_0, z'47_1, z'47_2, z'47_3, z'47_4, z'47_5⟩ := qz6_ BK214; obtain ⟨y'47_0, y'47_1, y'47_2, y'47_3, y'47_4, y'47_5⟩ := qf6_ BK214
                obtain ⟨Ao48, co48, eo48⟩ := Kd.a1v HO_1.out
                subst eo48
                go_wp2_with (first | ((with_reducible refine a1g (N := 71) rfl ?_); (try (refine a2a (by rfl) ?_; dsimp only)); refine a5h rfl (N := 71) rfl rfl (M := x209000_2) (k := (a0a l0 x51_3).f1) Try.underlying57 Try.underlying3 (a6o _) (by refine qd_ ?_; refine a1e ?_ NB208_214.out _; refine qd_ ?_; refine a1e ?_ NB208_214.out _; refine qd_ ?_; refine a1e ?_ NB208_214.out _; refine qd_ ?_; refine a1e ?_ NB208_214.out _; refine qd_ ?_; refine a1e ?_ NB208_214.out _; refine qd_ ?_; refine a1e ?_ NB208_214.out _; refine qd_ ?_; exact BK208.out) rfl ?hx ?_; (case hx => first | rfl | (go_simp; done) | (go_simp; rfl))) | (go_at_call 25; (with_reducible refine (a1f.calls k3 ((a0a l0 x51_3).f0) ((a0a l0 x51_3).f1) ((a0a l0 x51_3).f2) ((a0a l0 x51_3).f3) ((a0a l0 x51_3).f4.f0) ((a0a l0 x51_3).f4.f1) _ _ t210 a4 t215 _ ?s1 ?s2 A45.out).mono ?_); (case s1 => refine (Kd.a0p (e := 26) (base := w.heap.size) (ok := fun k_ => True) (n := t210.length) (c := co48) ?_).2.2; exact (by (with_reducible repeat (first | apply Kd.a0n | apply Kd.a0o | apply Kd.a0m)); exact (Kd.a0z (Kd.a0v (p := ⟨gb214, 5, none⟩) (Kd.a0v (p := ⟨gb214, 4, none⟩) (Kd.a0v (p := ⟨gb214, 3, none⟩) (Kd.a0v (p := ⟨gb214, 2, none⟩) (Kd.a0v (p := ⟨gb214, 1, none⟩) (Kd.a0v (p := ⟨gb214, 0, none⟩) (Kd.a4z HO_1.out BK214.out (by decide)) (fun _ hk => hk.2) (.int .i64 ((a0a l0 x51_3).f0))) (fun _ hk => hk.2) (.int .i64 ((a0a l0 x51_3).f1))) (fun _ hk => hk.2) (.int .i64 ((a0a l0 x51_3).f2))) (fun _ hk => hk.2) (.int .i64 ((a0a l0 x51_3).f3))) (fun _ hk => hk.2) (.int .i64 ((a0a l0 x51_3).f4.f0))) (fun _ hk => hk.2) (.int .i64 ((a0a l0 x51_3).f4.f1))) (fun _ h_ => h_.1)))); (case s2 => exact (Kd.a0p HO_1.out).2.1); rintro e w49 ⟨rfl, hb⟩; replace HO_1 := am_ (Kd.a3f (by (with_reducible repeat (first | apply Kd.a0n | apply Kd.a0o | apply Kd.a0m)); exact (Kd.a0z (Kd.a0v (p := ⟨gb214, 5, none⟩) (Kd.a0v (p := ⟨gb214, 4, none⟩) (Kd.a0v (p := ⟨gb214, 3, none⟩) (Kd.a0v (p := ⟨gb214, 2, none⟩) (Kd.a0v (p := ⟨gb214, 1, none⟩) (Kd.a0v (p := ⟨gb214, 0, none⟩) (Kd.a4z HO_1.out BK214.out (by decide)) (fun _ hk => hk.2) (.int .i64 ((a0a l0 x51_3).f0))) (fun _ hk => hk.2) (.int .i64 ((a0a l0 x51_3).f1))) (fun _ hk => hk.2) (.int .i64 ((a0a l0 x51_3).f2))) (fun _ hk => hk.2) (.int .i64 ((a0a l0 x51_3).f3))) (fun _ hk => hk.2) (.int .i64 ((a0a l0 x51_3).f4.f0))) (fun _ hk => hk.2) (.int .i64 ((a0a l0 x51_3).f4.f1))) (fun _ h_ => h_.1))) hb); replace HO_15 := am_ (Kd.a3f (by (with_reducible repeat (first | apply Kd.a0n | apply Kd.a0o | apply Kd.a0m)); exact (Kd.a0z (Kd.a0v (p := ⟨gb214, 5, none⟩) (Kd.a0v (p := ⟨gb214, 4, none⟩) (Kd.a0v (p := ⟨gb214, 3, none⟩) (Kd.a0v (p := ⟨gb214, 2, none⟩) (Kd.a0v (p := ⟨gb214, 1, none⟩) (Kd.a0v (p := ⟨gb214, 0, none⟩) (Kd.a4z HO_15.out BK214.out (by decide)) (fun _ hk => hk.2) (.int .i64 ((a0a l0 x51_3).f0))) (fun _ hk => hk.2) (.int .i64 ((a0a l0 x51_3).f1))) (fun _ hk => hk.2) (.int .i64 ((a0a l0 x51_3).f2))) (fun _ hk => hk.2) (.int .i64 ((a0a l0 x51_3).f3))) (fun _ hk => hk.2) (.int .i64 ((a0a l0 x51_3).f4.f0))) (fun _ hk => hk.2) (.int .i64 ((a0a l0 x51_3).f4.f1))) (fun _ h_ => h_.1))) hb); replace BK208 := am_ (a2v (g := gb208) (o := a1o (Value.bool) x209000_2) (by refine qd_ ?_; refine a1e ?_ NB208_214.out _; refine qd_ ?_; refine a1e ?_ NB208_214.out _; refine qd_ ?_; refine a1e ?_ NB208_214.out _; refine qd_ ?_; refine a1e ?_ NB208_214.out _; refine qd_ ?_; refine a1e ?_ NB208_214.out _; refine qd_ ?_; refine a1e ?_ NB208_214.out _; refine qd_ ?_; exact BK208.out) hb); replace BK214 := am_ (a2v (g := gb214) (o := .cells #[.int .i64 ((a0a l0 x51_3).f0), .int .i64 ((a0a l0 x51_3).f1), .int .i64 ((a0a l0 x51_3).f2), .int .i64 ((a0a l0 x51_3).f3), .int .i64 ((a0a l0 x51_3).f4.f0), .int .i64 ((a0a l0 x51_3).f4.f1)] 30 (0, 0)) (by refine qd_ ?_; refine a0q (cs := #[.int .i64 ((a0a l0 x51_3).f0), .int .i64 ((a0a l0 x51_3).f1), .int .i64 ((a0a l0 x51_3).f2), .int .i64 ((a0a l0 x51_3).f3), .int .i64 ((a0a l0 x51_3).f4.f0), .int .i64 0]) ?_ 5 _ rfl; refine qd_ ?_; refine a0q (cs := #[.int .i64 ((a0a l0 x51_3).f0), .int .i64 ((a0a l0 x51_3).f1), .int .i64 ((a0a l0 x51_3).f2), .int .i64 ((a0a l0 x51_3).f3), .int .i64 0, .int .i64 0]) ?_ 4 _ rfl; refine qd_ ?_; refine a0q (cs := #[.int .i64 ((a0a l0 x51_3).f0), .int .i64 ((a0a l0 x51_3).f1), .int .i64 ((a0a l0 x51_3).f2), .int .i64 0, .int .i64 0, .int .i64 0]) ?_ 3 _ rfl; refine qd_ ?_; refine a0q (cs := #[.int .i64 ((a0a l0 x51_3).f0), .int .i64 ((a0a l0 x51_3).f1), .int .i64 0, .int .i64 0, .int .i64 0, .int .i64 0]) ?_ 2 _ rfl; refine qd_ ?_; refine a0q (cs := #[.int .i64 ((a0a l0 x51_3).f0), .int .i64 0, .int .i64 0, .int .i64 0, .int .i64 0, .int .i64 0]) ?_ 1 _ rfl; refine qd_ ?_; refine a0q (cs := #[.int .i64 0, .int .i64 0, .int .i64 0, .int .i64 0, .int .i64 0, .int .i64 0]) ?_ 0 _ rfl; refine qd_ ?_; exact BK214.out) hb); replace HB := qbs_ hb; (try clear hb); (try clear hb2); (try clear hk); (try clear hi)))
                go_meet
                case rel => exact ⟨_, ((t215 == a2)), qs_, H', ⟨by have := HJ5.out; have := HK2.out; have := HK3.out; first | omega | exact Nat.le_refl _⟩, ⟨by (with_reducible repeat (first | apply Kd.a0n | apply Kd.a0o | apply Kd.a0m)); exact HO_1.out⟩, ⟨by (with_reducible repeat (first | apply Kd.a0n | apply Kd.a0o | apply Kd.a0m)); exact HO_15.out⟩, ⟨qk_ BK208⟩, ⟨qk_ BK214⟩, ⟨qb_⟩⟩
               ·rw [if_neg c44] at H
                have c44b0 : a4s x209000_2 ((a0a l0 x51_3).f1) = false := by simpa using c44
                clear c44
                have H' := am_ H
                clear H
                have hnb50 := NB214_208.out
                have hnc50 := NB208_214.out
                obtain ⟨z'51_0, z'51_1, z'51_2, z'51_3, z'51_4, z'51_5⟩ := qz6_ BK214; obtain ⟨y'51_0, y'51_1, y'51_2, y'51_3, y'51_4, y'51_5⟩ := qf6_ BK214
                go_wp2_with (first | ((with_reducible refine a1g (N := 71) rfl ?_); (try (refine a2a (by rfl) ?_; dsimp only)); refine a5h rfl (N := 71) rfl rfl (M := x209000_2) (k := (a0a l0 x51_3).f1) Try.underlying57 Try.underlying3 (a6o _) (by refine qd_ ?_; refine a1e ?_ NB208_214.out _; refine qd_ ?_; refine a1e ?_ NB208_214.out _; refine qd_ ?_; refine a1e ?_ NB208_214.out _; refine qd_ ?_; refine a1e ?_ NB208_214.out _; refine qd_ ?_; refine a1e ?_ NB208_214.out _; refine qd_ ?_; refine a1e ?_ NB208_214.out _; refine qd_ ?_; exact BK208.out) rfl ?hx ?_; (case hx => first | rfl | (go_simp; done) | (go_simp; rfl))))
                go_meet
                case rel => exact ⟨_, (false), qs_, H', ⟨by have := HJ5.out; have := HK2.out; have := HK3.out; first | omega | exact Nat.le_refl _⟩, ⟨by (with_reducible repeat (first | apply Kd.a0n | apply Kd.a0o | apply Kd.a0m)); exact Kd.a0z (Kd.a0v (p := ⟨gb214, 5, none⟩) (Kd.a0v (p := ⟨gb214, 4, none⟩) (Kd.a0v (p := ⟨gb214, 3, none⟩) (Kd.a0v (p := ⟨gb214, 2, none⟩) (Kd.a0v (p := ⟨gb214, 1, none⟩) (Kd.a0v (p := ⟨gb214, 0, none⟩) (Kd.a4z HO_1.out BK214.out (by decide)) (fun _ hk => hk.2) (.int .i64 ((a0a l0 x51_3).f0))) (fun _ hk => hk.2) (.int .i64 ((a0a l0 x51_3).f1))) (fun _ hk => hk.2) (.int .i64 ((a0a l0 x51_3).f2))) (fun _ hk => hk.2) (.int .i64 ((a0a l0 x51_3).f3))) (fun _ hk => hk.2) (.int .i64 ((a0a l0 x51_3).f4.f0))) (fun _ hk => hk.2) (.int .i64 ((a0a l0 x51_3).f4.f1))) (fun _ hk => trivial)⟩, ⟨by (with_reducible repeat (first | apply Kd.a0n | apply Kd.a0o | apply Kd.a0m)); exact Kd.a0z (Kd.a0v (p := ⟨gb214, 5, none⟩) (Kd.a0v (p := ⟨gb214, 4, none⟩) (Kd.a0v (p := ⟨gb214, 3, none⟩) (Kd.a0v (p := ⟨gb214, 2, none⟩) (Kd.a0v (p := ⟨gb214, 1, none⟩) (Kd.a0v (p := ⟨gb214, 0, none⟩) (Kd.a4z HO_15.out BK214.out (by decide)) (fun _ hk => hk.2) (.int .i64 ((a0a l0 x51_3).f0))) (fun _ hk => hk.2) (.int .i64 ((a0a l0 x51_3).f1))) (fun _ hk => hk.2) (.int .i64 ((a0a l0 x51_3).f2))) (fun _ hk => hk.2) (.int .i64 ((a0a l0 x51_3).f3))) (fun _ hk => hk.2) (.int .i64 ((a0a l0 x51_3).f4.f0))) (fun _ hk => hk.2) (.int .i64 ((a0a l0 x51_3).f4.f1))) (fun _ hk => trivial)⟩, ⟨by refine qd_ ?_; refine a1e ?_ NB208_214.out _; refine qd_ ?_; refine a1e ?_ NB208_214.out _; refine qd_ ?_; refine a1e ?_ NB208_214.out _; refine qd_ ?_; refine a1e ?_ NB208_214.out _; refine qd_ ?_; refine a1e ?_ NB208_214.out _; refine qd_ ?_; refine a1e ?_ NB208_214.out _; refine qd_ ?_; exact BK208.out⟩, ⟨by refine qd_ ?_; refine a0q (cs := #[.int .i64 ((a0a l0 x51_3).f0), .int .i64 ((a0a l0 x51_3).f1), .int .i64 ((a0a l0 x51_3).f2), .int .i64 ((a0a l0 x51_3).f3), .int .i64 ((a0a l0 x51_3).f4.f0), .int .i64 0]) ?_ 5 _ rfl; refine qd_ ?_; refine a0q (cs := #[.int .i64 ((a0a l0 x51_3).f0), .int .i64 ((a0a l0 x51_3).f1), .int .i64 ((a0a l0 x51_3).f2), .int .i64 ((a0a l0 x51_3).f3), .int .i64 0, .int .i64 0]) ?_ 4 _ rfl; refine qd_ ?_; refine a0q (cs := #[.int .i64 ((a0a l0 x51_3).f0), .int .i64 ((a0a l0 x51_3).f1), .int .i64 ((a0a l0 x51_3).f2), .int .i64 0, .int .i64 0, .int .i64 0]) ?_ 3 _ rfl; refine qd_ ?_; refine a0q (cs := #[.int .i64 ((a0a l0 x51_3).f0), .int .i64 ((a0a l0 x51_3).f1), .int .i64 0, .int .i64 0, .int .i64 0, .int .i64 0]) ?_ 2 _ rfl; refine qd_ ?_; refine a0q (cs := #[.int .i64 ((a0a l0 x51_3).f0), .int .i64 0, .int .i64 0, .int .i64 0, .int .i64 0, .int .i64 0]) ?_ 1 _ rfl; refine qd_ ?_; refine a0q (cs := #[.int .i64 0, .int .i64 0, .int .i64 0, .int .i64 0, .int .i64 0, .int .i64 0]) ?_ 0 _ rfl; refine qd_ ?_; exact BK214.out⟩, ⟨qb_⟩⟩
              ·rw [if_neg c43] at H
               have c43b0 : decide (a4 < ((a0a l0 x51_3).f4.f1)) = false := decide_eq_false c43
               clear c43
               have H' := am_ H
               clear H
               have hnb52 := NB214_208.out
               have hnc52 := NB208_214.out
               obtain ⟨z'53_0, z'53_1, z'53_2, z'53_3, z'53_4, z'53_5⟩ := qz6_ BK214; obtain ⟨y'53_0, y'53_1, y'53_2, y'53_3, y'53_4, y'53_5⟩ := qf6_ BK214
               go_wp2
               go_meet
               case rel => exact ⟨_, (false), qs_, H', ⟨by have := HJ5.out; have := HK2.out; have := HK3.out; first | omega | exact Nat.le_refl _⟩, ⟨by (with_reducible repeat (first | apply Kd.a0n | apply Kd.a0o | apply Kd.a0m)); exact Kd.a0z (Kd.a0v (p := ⟨gb214, 5, none⟩) (Kd.a0v (p := ⟨gb214, 4, none⟩) (Kd.a0v (p := ⟨gb214, 3, none⟩) (Kd.a0v (p := ⟨gb214, 2, none⟩) (Kd.a0v (p := ⟨gb214, 1, none⟩) (Kd.a0v (p := ⟨gb214, 0, none⟩) (Kd.a4z HO_1.out BK214.out (by decide)) (fun _ hk => hk.2) (.int .i64 ((a0a l0 x51_3).f0))) (fun _ hk => hk.2) (.int .i64 ((a0a l0 x51_3).f1))) (fun _ hk => hk.2) (.int .i64 ((a0a l0 x51_3).f2))) (fun _ hk => hk.2) (.int .i64 ((a0a l0 x51_3).f3))) (fun _ hk => hk.2) (.int .i64 ((a0a l0 x51_3).f4.f0))) (fun _ hk => hk.2) (.int .i64 ((a0a l0 x51_3).f4.f1))) (fun _ hk => trivial)⟩, ⟨by (with_reducible repeat (first | apply Kd.a0n | apply Kd.a0o | apply Kd.a0m)); exact Kd.a0z (Kd.a0v (p := ⟨gb214, 5, none⟩) (Kd.a0v (p := ⟨gb214, 4, none⟩) (Kd.a0v (p := ⟨gb214, 3, none⟩) (Kd.a0v (p := ⟨gb214, 2, none⟩) (Kd.a0v (p := ⟨gb214, 1, none⟩) (Kd.a0v (p := ⟨gb214, 0, none⟩) (Kd.a4z HO_15.out BK214.out (by decide)) (fun _ hk => hk.2) (.int .i64 ((a0a l0 x51_3).f0))) (fun _ hk => hk.2) (.int .i64 ((a0a l0 x51_3).f1))) (fun _ hk => hk.2) (.int .i64 ((a0a l0 x51_3).f2))) (fun _ hk => hk.2) (.int .i64 ((a0a l0 x51_3).f3))) (fun _ hk => hk.2) (.int .i64 ((a0a l0 x51_3).f4.f0))) (fun _ hk => hk.2) (.int .i64 ((a0a l0 x51_3).f4.f1))) (fun _ hk => trivial)⟩, ⟨by refine qd_ ?_; refine a1e ?_ NB208_214.out _; refine qd_ ?_; refine a1e ?_ NB208_214.out _; refine qd_ ?_; refine a1e ?_ NB208_214.out _; refine qd_ ?_; refine a1e ?_ NB208_214.out _; refine qd_ ?_; refine a1e ?_ NB208_214.out _; refine qd_ ?_; refine a1e ?_ NB208_214.out _; refine qd_ ?_; exact BK208.out⟩, ⟨by refine qd_ ?_; refine a0q (cs := #[.int .i64 ((a0a l0 x51_3).f0), .int .i64 ((a0a l0 x51_3).f1), .int .i64 ((a0a l0 x51_3).f2), .int .i64 ((a0a l0 x51_3).f3), .int .i64 ((a0a l0 x51_3).f4.f0), .int .i64 0]) ?_ 5 _ rfl; refine qd_ ?_; refine a0q (cs := #[.int .i64 ((a0a l0 x51_3).f0), .int .i64 ((a0a l0 x51_3).f1), .int .i64 ((a0a l0 x51_3).f2), .int .i64 ((a0a l0 x51_3).f3), .int .i64 0, .int .i64 0]) ?_ 4 _ rfl; refine qd_ ?_; refine a0q (cs := #[.int .i64 ((a0a l0 x51_3).f0), .int .i64 ((a0a l0 x51_3).f1), .int .i64 ((a0a l0 x51_3).f2), .int .i64 0, .int .i64 0, .int .i64 0]) ?_ 3 _ rfl; refine qd_ ?_; refine a0q (cs := #[.int .i64 ((a0a l0 x51_3).f0), .int .i64 ((a0a l0 x51_3).f1), .int .i64 0, .int .i64 0, .int .i64 0, .int .i64 0]) ?_ 2 _ rfl; refine qd_ ?_; refine a0q (cs := #[.int .i64 ((a0a l0 x51_3).f0), .int .i64 0, .int .i64 0, .int .i64 0, .int .i64 0, .int .i64 0]) ?_ 1 _ rfl; refine qd_ ?_; refine a0q (cs := #[.int .i64 0, .int .i64 0, .int .i64 0, .int .i64 0, .int .i64 0, .int .i64 0]) ?_ 0 _ rfl; refine qd_ ?_; exact BK214.out⟩, ⟨qb_⟩⟩
             ·rw [if_neg c42] at H
              have c42b0 : decide (((a0a l0 x51_3).f4.f0) ≤ a4) = false := decide_eq_false c42
              clear c42
              (first | rw [c42b0] | (simp only [a3k, a4i]; rw [c42b0]) | skip)
              have H' := am_ H
              clear H
              have hnb54 := NB214_208.out
              have hnc54 := NB208_214.out
              obtain ⟨z'55_0, z'55_1, z'55_2, z'55_3, z'55_4, z'55_5⟩ := qz6_ BK214; obtain ⟨y'55_0, y'55_1, y'55_2, y'55_3, y'55_4, y'55_5⟩ := qf6_ BK214
              go_wp2
              go_meet
              case rel => exact ⟨_, (false), qs_, H', ⟨by have := HJ5.out; have := HK2.out; have := HK3.out; first | omega | exact Nat.le_refl _⟩, ⟨by (with_reducible repeat (first | apply Kd.a0n | apply Kd.a0o | apply Kd.a0m)); exact Kd.a0z (Kd.a0v (p := ⟨gb214, 5, none⟩) (Kd.a0v (p := ⟨gb214, 4, none⟩) (Kd.a0v (p := ⟨gb214, 3, none⟩) (Kd.a0v (p := ⟨gb214, 2, none⟩) (Kd.a0v (p := ⟨gb214, 1, none⟩) (Kd.a0v (p := ⟨gb214, 0, none⟩) (Kd.a4z HO_1.out BK214.out (by decide)) (fun _ hk => hk.2) (.int .i64 ((a0a l0 x51_3).f0))) (fun _ hk => hk.2) (.int .i64 ((a0a l0 x51_3).f1))) (fun _ hk => hk.2) (.int .i64 ((a0a l0 x51_3).f2))) (fun _ hk => hk.2) (.int .i64 ((a0a l0 x51_3).f3))) (fun _ hk => hk.2) (.int .i64 ((a0a l0 x51_3).f4.f0))) (fun _ hk => hk.2) (.int .i64 ((a0a l0 x51_3).f4.f1))) (fun _ hk => trivial)⟩, ⟨by (with_reducible repeat (first | apply Kd.a0n | apply Kd.a0o | apply Kd.a0m)); exact Kd.a0z (Kd.a0v (p := ⟨gb214, 5, none⟩) (Kd.a0v (p := ⟨gb214, 4, none⟩) (Kd.a0v (p := ⟨gb214, 3, none⟩) (Kd.a0v (p := ⟨gb214, 2, none⟩) (Kd.a0v (p := ⟨gb214, 1, none⟩) (Kd.a0v (p := ⟨gb214, 0, none⟩) (Kd.a4z HO_15.out BK214.out (by decide)) (fun _ hk => hk.2) (.int .i64 ((a0a l0 x51_3).f0))) (fun _ hk => hk.2) (.int .i64 ((a0a l0 x51_3).f1))) (fun _ hk => hk.2) (.int .i64 ((a0a l0 x51_3).f2))) (fun _ hk => hk.2) (.int .i64 ((a0a l0 x51_3).f3))) (fun _ hk => hk.2) (.int .i64 ((a0a l0 x51_3).f4.f0))) (fun _ hk => hk.2) (.int .i64 ((a0a l0 x51_3).f4.f1))) (fun _ hk => trivial)⟩, ⟨by refine qd_ ?_; refine a1e ?_ NB208_214.out _; refine qd_ ?_; refine a1e ?_ NB208_214.out _; refine qd_ ?_; refine a1e ?_ NB208_214.out _; refine qd_ ?_; refine a1e ?_ NB208_214.out _; refine qd_ ?_; refine a1e ?_ NB208_214.out _; refine qd_ ?_; refine a1e ?_ NB208_214.out _; refine qd_ ?_; exact BK208.out⟩, ⟨by refine qd_ ?_; refine a0q (cs := #[.int .i64 ((a0a l0 x51_3).f0), .int .i64 ((a0a l0 x51_3).f1), .int .i64 ((a0a l0 x51_3).f2), .int .i64 ((a0a l0 x51_3).f3), .int .i64 ((a0a l0 x51_3).f4.f0), .int .i64 0]) ?_ 5 _ rfl; refine qd_ ?_; refine a0q (cs := #[.int .i64 ((a0a l0 x51_3).f0), .int .i64 ((a0a l0 x51_3).f1), .int .i64 ((a0a l0 x51_3).f2), .int .i64 ((a0a l0 x51_3).f3), .int .i64 0, .int .i64 0]) ?_ 4 _ rfl; refine qd_ ?_; refine a0q (cs := #[.int .i64 ((a0a l0 x51_3).f0), .int .i64 ((a0a l0 x51_3).f1), .int .i64 ((a0a l0 x51_3).f2), .int .i64 0, .int .i64 0, .int .i64 0]) ?_ 3 _ rfl; refine qd_ ?_; refine a0q (cs := #[.int .i64 ((a0a l0 x51_3).f0), .int .i64 ((a0a l0 x51_3).f1), .int .i64 0, .int .i64 0, .int .i64 0, .int .i64 0]) ?_ 2 _ rfl; refine qd_ ?_; refine a0q (cs := #[.int .i64 ((a0a l0 x51_3).f0), .int .i64 0, .int .i64 0, .int .i64 0, .int .i64 0, .int .i64 0]) ?_ 1 _ rfl; refine qd_ ?_; refine a0q (cs := #[.int .i64 0, .int .i64 0, .int .i64 0, .int .i64 0, .int .i64 0, .int .i64 0]) ?_ 0 _ rfl; refine qd_ ?_; exact BK214.out⟩, ⟨qb_⟩⟩
            case rest =>
             clear HC38
             try clear c1
             try clear c2
             try clear p2
             try clear q2
             try clear hx2
             try clear c3
             try clear c4
             try clear c5
             try clear p6
             try clear c8
             try clear c10
             try clear c11
             try clear c12
             try clear c16
             try clear p20
             try clear q20
             try clear hx20
             try clear p21
             try clear q21
             try clear hx21
             try clear c26
             try clear c27
             try clear c29
             try clear c29b0
             try clear c30
             try clear c30b0
             try clear c31
             try clear c31b0
             try clear c35
             try clear c35b0
             try clear c36
             try clear c36b0
             try clear c37
             try clear c37b0
             try clear c40
             try clear c42
             try clear c42b0
             try clear c43
             try clear c43b0
             try clear c44
             try clear c44b0
             try clear c46
             try clear c50
             try clear c52
             try clear c54
             try clear z'41_0 z'41_1 z'41_2 z'41_3 z'41_4 z'41_5
             try clear z'47_0 z'47_1 z'47_2 z'47_3 z'47_4 z'47_5
             try clear z'51_0 z'51_1 z'51_2 z'51_3 z'51_4 z'51_5
             try clear z'53_0 z'53_1 z'53_2 z'53_3 z'53_4 z'53_5
             try clear z'55_0 z'55_1 z'55_2 z'55_3 z'55_4 z'55_5
             try clear y'41_0 y'41_1 y'41_2 y'41_3 y'41_4 y'41_5
             try clear y'47_0 y'47_1 y'47_2 y'47_3 y'47_4 y'47_5
             try clear y'51_0 y'51_1 y'51_2 y'51_3 y'51_4 y'51_5
             try clear y'53_0 y'53_1 y'53_2 y'53_3 y'53_4 y'53_5
             try clear y'55_0 y'55_1 y'55_2 y'55_3 y'55_4 y'55_5
             try clear hx209_0
             try clear hx213_0
             try clear hx213_1
             try clear hx213_2
             try clear hx213_3
             try clear hx213_4
             try clear hx213_5
             try clear p2
             try clear p20
             try clear p209
             try clear p213
             try clear p6
             try clear q2
             try clear q20
             try clear q209
             try clear q213
             obtain ⟨kq, x80_37, rfl, HA, HJ37, HO_1, HO_15, BK208, BK214, HB⟩ := hcut
             cases kq with
             | zero => exact absurd HA.out (by simp [a0k.j3])
             | succ kj37 =>
              have H := HA.out
              clear HA
              simp only [a0k.j3] at H
              by_cases c56 : x80_37 = true
              ·subst c56
               have H1 : (if x15_3.length < 17592186044416 then (a0k.l1 kj37 t210 a2 a4 (x15_3 ++ [((a0a l0 x51_3).f0)]) l0 (l0.length : Int) (wrap64 (x51_3 + 1)) x209000_2) else (none)) = some (r1, r2) := by rw [if_pos rfl] at H; exact H
               clear H
               have H := H1
               clear H1
               by_cases c57 : x15_3.length < 17592186044416
               ·rw [if_pos c57] at H
                have LMc57 := am_ c57
                clear c57
                obtain ⟨y216, hy216⟩ : ∃ y_ : List Int, y_ = (x15_3 ++ [((a0a l0 x51_3).f0)]) := ⟨_, rfl⟩
                replace H : (a0k.l1 kj37 t210 a2 a4 y216 l0 (l0.length : Int) (wrap64 (x51_3 + 1)) x209000_2) = some (r1, r2) := by first | (rw [hy216]; with_reducible exact H) | (have H2_ := (Option.bind_some _ _).symm.trans H; rw [hy216]; with_reducible exact H2_) | (have H2_ := (Option.bind_some _ _).symm.trans H; with_reducible exact H2_) | with_reducible exact H | (rw [hy216]; exact H) | exact H
                have Ny216 := am_ hy216
                clear hy216
                have H' := am_ H
                clear H
                have hnb58 := NB214_208.out
                have hnc58 := NB208_214.out
                obtain ⟨z'59_0, z'59_1, z'59_2, z'59_3, z'59_4, z'59_5⟩ := qz6_ BK214; obtain ⟨y'59_0, y'59_1, y'59_2, y'59_3, y'59_4, y'59_5⟩ := qf6_ BK214
                go_wp2_with (first | ((with_reducible refine a5i (b := .append) (xs := #[.tmp 81, .tmp 84]) rfl ?_); (try (refine a2a (by rfl) ?_; dsimp only)); at_builtin; refine Kd.a6x (Kd.int .i64) (w0 := w) w.heap.size rfl (.tmp 81) (.tmp 84) 34 3 (.int .i64 0) 8 rfl Try.underlying34 info3 rfl (by decide) (by omega) u15 x15_3 ((a0a l0 x51_3).f0) [.int .i64 ((a0a l0 x51_3).f0)] (fun _ => True) (fun _ => False) rfl rfl ?aP (fun _ hk => hk.elim) ?aF ?aO ?aB ?aS ?aL ?_; (case aP => exact rfl); (case aB => exact qb_); (case aF => exact (fun _ _ => trivial)); (case aO => exact (qr_ HO_15)); (case aS => exact (a1s qb_)); (case aL => have := LMc57.out; omega); intro v217 w60 ho hb hg hat; rw [← Ny216.out] at ho; replace HO_1 := am_ (Kd.b0y (qr_ HO_1) (Kd.b0x (qr_ HO_15)) (by decide) hg); replace BK208 := am_ (a4c (g := gb208) (o := a1o (Value.bool) x209000_2) (qk_ BK208) hg (a6z HO_15.out BK208.out)); replace BK214 := am_ (a4c (g := gb214) (o := .cells #[.int .i64 ((a0a l0 x51_3).f0), .int .i64 ((a0a l0 x51_3).f1), .int .i64 ((a0a l0 x51_3).f2), .int .i64 ((a0a l0 x51_3).f3), .int .i64 ((a0a l0 x51_3).f4.f0), .int .i64 ((a0a l0 x51_3).f4.f1)] 30 (0, 0)) (qk_ BK214) hg (Kd.R_ne HO_15.out BK214.out (by decide))); replace HB := am_ (hb); have HO218 := am_ (ho); clear HO_15 ho hb hg hat))
                go_roundg kj37
                case measure => have := HJ5.out; have := HK2.out; have := HK3.out; have := HJ37.out; omega
                case rel => exact ⟨(y216), (wrap64 (x51_3 + 1)), qs_, H', ⟨by have := HJ5.out; have := HK2.out; have := HK3.out; have := HJ37.out; omega⟩, ⟨by (with_reducible repeat (first | apply Kd.a0n | apply Kd.a0o | apply Kd.a0m)); exact HO_1.out⟩, ⟨by (with_reducible repeat (first | apply Kd.a0n | apply Kd.a0o | apply Kd.a0m)); exact HO218.out⟩, ⟨qk_ BK208⟩, ⟨qb_⟩⟩
               ·rw [if_neg c57] at H
                exact absurd H (by simp)
              ·replace c56 := be_ c56
               subst c56
               have H1 : (a0k.l1 kj37 t210 a2 a4 x15_3 l0 (l0.length : Int) (wrap64 (x51_3 + 1)) x209000_2) = some (r1, r2) := by rw [if_neg (show ¬ (false = true) by decide)] at H; exact H
               clear H
               have H := H1
               clear H1
               have H' := am_ H
               clear H
               go_wp2
               go_roundg kj37
               case measure => have := HJ5.out; have := HK2.out; have := HK3.out; have := HJ37.out; omega
               case rel => exact ⟨(x15_3), (wrap64 (x51_3 + 1)), qs_, H', ⟨by have := HJ5.out; have := HK2.out; have := HK3.out; have := HJ37.out; omega⟩, ⟨by (with_reducible repeat (first | apply Kd.a0n | apply Kd.a0o | apply Kd.a0m)); exact HO_1.out⟩, ⟨by (with_reducible repeat (first | apply Kd.a0n | apply Kd.a0o | apply Kd.a0m)); exact HO_15.out⟩, ⟨qk_ BK208⟩, ⟨qb_⟩⟩
           ·rw [if_neg c37] at H
            exact absurd H (by simp)
          ·rw [if_neg c36] at H
           exact absurd H (by simp)
         ·rw [if_neg c35] at H
          have c35b0 : decide (x51_3 < (l0.length : Int)) = false := decide_eq_false c35
          clear c35
          simp only [Option.some.injEq, Prod.mk.injEq] at H
          obtain ⟨rfl, rfl⟩ := H
          go_wp2
          go_ret2
          exact ⟨_, qx_, by (with_reducible repeat (first | apply Kd.a0n | apply Kd.a0o | apply Kd.a0m)); exact HO_15.out, qb_⟩
end Go.Proofs.Ytfbgkcadnmcakaa.Px
