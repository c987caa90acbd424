/- Contracts of Go functions, printed. Conditions: as each theorem states. -/
import Derived.Test.YtemnlgefngjliaaPx0
import Derived.Test.YtemnlgefngjliaaPx17
import Derived.Test.YtemnlgefngjliaaPx18
import Derived.Test.YtemnlgefngjliaaPx19
import Derived.Test.YtemnlgefngjliaaPx20
namespace Go.Proofs.Ytemnlgefngjliaa.Px
open Go.Proofs.Ytemnlgefngjliaa.Given
open Go.RowKit Go.Proofs.YtemnlgefngjliaaW.PrintWords Go.Proofs.YtemnlgefngjliaaW.PrintLast Go.Proofs.YtemnlgefngjliaaW.PrintMore
attribute [local go_sem] a2f a2g a2r a2s a1x a1y a2h a2i
set_option linter.unusedVariables false
set_option linter.unusedSimpArgs false
mutual
def a0g.j0 : Nat → Bool → Int → Int → Int → List ByteArray → List (S43) → List Int → Option (Bool)
 | 0, _, _, _, _, _, _, _ => none
 | k + 1, x42, u0, u1, u2, u3, u4, u5 => if x42 = true then (some false) else (a0g.l0 k 0 u0 u1 u2 u3 u4 u5)
def a0g.l0 : Nat → Int → Int → Int → Int → List ByteArray → List (S43) → List Int → Option (Bool)
 | 0, _, _, _, _, _, _, _ => none
 | k + 1, x3, u0, u1, u2, u3, u4, u5 => if x3 < (u5.length : Int) then (if 0 ≤ x3 then ((a1r.f k u4 (rd u5 x3)).bind fun t387 => (if t387 < 0 then (a0g.j2 k x3 true u0 u1 u2 u3 u4 u5) else (if x3 > 0 then (if 0 ≤ (wrap64 (x3 - 1)) then (if (wrap64 (x3 - 1)) < (u5.length : Int) then (a0g.j2 k x3 (decide ((rd u5 x3) ≤ (rd u5 (wrap64 (x3 - 1))))) u0 u1 u2 u3 u4 u5) else (none)) else (none)) else (a0g.j2 k x3 false u0 u1 u2 u3 u4 u5)))) else (none)) else (some true)
def a0g.j2 : Nat → Int → Bool → Int → Int → Int → List ByteArray → List (S43) → List Int → Option (Bool)
 | 0, _, _, _, _, _, _, _, _ => none
 | k + 1, x3, x76, u0, u1, u2, u3, u4, u5 => if x76 = true then (some false) else (a0g.l0 k (wrap64 (x3 + 1)) u0 u1 u2 u3 u4 u5)
end
def a0g.f (k : Nat) (a0_0 a0_1 a0_2 : Int) (l0_3 : List ByteArray) (l0_4 : List (S43)) (l0_5 : List Int) : Option (Bool) := (RcIn.f a0_0).bind fun t380 => (if t380 = true then ((RcIn.f a0_2).bind fun t381 => (if t381 = true then (if a0_0 > a0_2 then (a0g.j0 k true a0_0 a0_1 a0_2 l0_3 l0_4 l0_5) else (if a0_1 = 1 then ((a0z.f k l0_3).bind fun t382 => (if t382 = true then ((a0i.f k l0_4).bind fun t383 => (a0g.j0 k (!t383) a0_0 a0_1 a0_2 l0_3 l0_4 l0_5)) else (a0g.j0 k true a0_0 a0_1 a0_2 l0_3 l0_4 l0_5))) else (if a0_1 = 2 then ((a0z.f k l0_3).bind fun t384 => (if t384 = true then ((a0i.f k l0_4).bind fun t385 => (a0g.j0 k (!t385) a0_0 a0_1 a0_2 l0_3 l0_4 l0_5)) else (a0g.j0 k true a0_0 a0_1 a0_2 l0_3 l0_4 l0_5))) else (a0g.j0 k true a0_0 a0_1 a0_2 l0_3 l0_4 l0_5)))) else (a0g.j0 k true a0_0 a0_1 a0_2 l0_3 l0_4 l0_5))) else (a0g.j0 k true a0_0 a0_1 a0_2 l0_3 l0_4 l0_5))
theorem a0g.a0t : ∀ k, (∀ y0 y1 y2 y3 y4 y5 y6, LeO (a0g.j0 k y0 y1 y2 y3 y4 y5 y6) (a0g.j0 (k + 1) y0 y1 y2 y3 y4 y5 y6)) ∧ (∀ y0 y1 y2 y3 y4 y5 y6, LeO (a0g.l0 k y0 y1 y2 y3 y4 y5 y6) (a0g.l0 (k + 1) y0 y1 y2 y3 y4 y5 y6)) ∧ (∀ y0 y1 y2 y3 y4 y5 y6 y7, LeO (a0g.j2 k y0 y1 y2 y3 y4 y5 y6 y7) (a0g.j2 (k + 1) y0 y1 y2 y3 y4 y5 y6 y7))
 | 0 => ⟨fun _ _ _ _ _ _ _ r h => by simp [a0g.j0] at h, fun _ _ _ _ _ _ _ r h => by simp [a0g.l0] at h, fun _ _ _ _ _ _ _ _ r h => by simp [a0g.j2] at h⟩
 | k + 1 => by
  obtain ⟨ih0, ih1, ih2⟩ := a0g.a0t k
  refine ⟨?_, ?_, ?_⟩
  ·intro y0 y1 y2 y3 y4 y5 y6
   unfold a0g.j0
   with_reducible (repeat' first | apply ih0 | apply ih1 | apply ih2 | apply a0z.mono | apply a1r.mono | apply a0i.mono | apply LeO.refl | apply LeO.none | apply LeO.ite | refine LeO.bind ?_ (fun _ => ?_))
  ·intro y0 y1 y2 y3 y4 y5 y6
   unfold a0g.l0
   with_reducible (repeat' first | apply ih0 | apply ih1 | apply ih2 | apply a0z.mono | apply a1r.mono | apply a0i.mono | apply LeO.refl | apply LeO.none | apply LeO.ite | refine LeO.bind ?_ (fun _ => ?_))
  ·intro y0 y1 y2 y3 y4 y5 y6 y7
   unfold a0g.j2
   with_reducible (repeat' first | apply ih0 | apply ih1 | apply ih2 | apply a0z.mono | apply a1r.mono | apply a0i.mono | apply LeO.refl | apply LeO.none | apply LeO.ite | refine LeO.bind ?_ (fun _ => ?_))
theorem a0g.mono : ∀ a0 a1 a2 a3 a4 a5 k, LeO (a0g.f k a0 a1 a2 a3 a4 a5) (a0g.f (k + 1) a0 a1 a2 a3 a4 a5) := by
 intro a0 a1 a2 a3 a4 a5 k
 obtain ⟨ih0, ih1, ih2⟩ := a0g.a0t k
 unfold a0g.f
 with_reducible (repeat' first | apply ih0 | apply ih1 | apply ih2 | apply a0z.mono | apply a1r.mono | apply a0i.mono | apply LeO.refl | apply LeO.none | apply LeO.ite | refine LeO.bind ?_ (fun _ => ?_))
set_option maxHeartbeats 8000000 in
set_option maxRecDepth 100000 in
theorem a0g.calls (k : Nat) (a0_0 a0_1 a0_2 : Int) (A0_3 : Option Addr) (c0_3 : Nat) (l0_3 : List ByteArray) (A0_4 : Option Addr) (c0_4 : Nat) (l0_4 : List (S43)) (A0_5 : Option Addr) (c0_5 : Nat) (l0_5 : List Int) (r : Bool) (w : World) (hr0_3 : Kd.C Kd.string w A0_3 l0_3.length l0_3) (hc0_3 : l0_3.length ≤ c0_3) (hr0_4 : Kd.C k43 w A0_4 l0_4.length l0_4) (hc0_4 : l0_4.length ≤ c0_4) (hr0_5 : Kd.C (Kd.int .i64) w A0_5 l0_5.length l0_5) (hc0_5 : l0_5.length ≤ c0_5) (h : a0g.f k a0_0 a0_1 a0_2 l0_3 l0_4 l0_5 = some r) :
  Calls Try.prog 16 #[.agg #[.int .i64 a0_0, .int .i64 a0_1, .int .i64 a0_2, .slice A0_3 l0_3.length c0_3, .slice A0_4 l0_4.length c0_4, .slice A0_5 l0_5.length c0_5]] w fun e w' => e = .returned (.bool r) ∧ Below w.heap.size w w' := by
 have hu30 := Try.underlying30
 have HR0_3 := am_ hr0_3
 have HC0_3 := am_ hc0_3
 clear hr0_3 hc0_3
 have HR0_4 := am_ hr0_4
 have HC0_4 := am_ hc0_4
 clear hr0_4 hc0_4
 have HR0_5 := am_ hr0_5
 have HC0_5 := am_ hc0_5
 clear hr0_5 hc0_5
 have HB := am_ (Below.refl w.heap.size w)
 have H : ((RcIn.f a0_0).bind fun t380 => (if t380 = true then ((RcIn.f a0_2).bind fun t381 => (if t381 = true then (if a0_0 > a0_2 then (a0g.j0 k true a0_0 a0_1 a0_2 l0_3 l0_4 l0_5) else (if a0_1 = 1 then ((a0z.f k l0_3).bind fun t382 => (if t382 = true then ((a0i.f k l0_4).bind fun t383 => (a0g.j0 k (!t383) a0_0 a0_1 a0_2 l0_3 l0_4 l0_5)) else (a0g.j0 k true a0_0 a0_1 a0_2 l0_3 l0_4 l0_5))) else (if a0_1 = 2 then ((a0z.f k l0_3).bind fun t384 => (if t384 = true then ((a0i.f k l0_4).bind fun t385 => (a0g.j0 k (!t385) a0_0 a0_1 a0_2 l0_3 l0_4 l0_5)) else (a0g.j0 k true a0_0 a0_1 a0_2 l0_3 l0_4 l0_5))) else (a0g.j0 k true a0_0 a0_1 a0_2 l0_3 l0_4 l0_5)))) else (a0g.j0 k true a0_0 a0_1 a0_2 l0_3 l0_4 l0_5))) else (a0g.j0 k true a0_0 a0_1 a0_2 l0_3 l0_4 l0_5))) = some r := h
 clear h
 have HC2 := am_ H
 clear H
 go_enter Try.func16, Try.ntmps16
 go_upto_region 1 with (first | ((with_reducible refine a0f (N := 1) rfl ?_); refine qev_ 1 #[.int .i64 a0_0, .int .i64 a0_1, .int .i64 a0_2, .slice A0_3 l0_3.length c0_3, .slice A0_4 l0_4.length c0_4, .slice A0_5 l0_5.length c0_5] 30 ?_; intro gb379 hg w3 hbox hb; have BK379 := am_ (hbox); have GW379 := qga_ hg; have GE379 := qga_ hg; replace HB := qbs_ hb; clear hb hbox hg))
 repeat (go_quiet (first | ((with_reducible refine a0f (N := 1) rfl ?_); refine qev_ 1 #[.int .i64 a0_0, .int .i64 a0_1, .int .i64 a0_2, .slice A0_3 l0_3.length c0_3, .slice A0_4 l0_4.length c0_4, .slice A0_5 l0_5.length c0_5] 30 ?_; intro gb379 hg w3 hbox hb; have BK379 := am_ (hbox); have GW379 := qga_ hg; have GE379 := qga_ hg; replace HB := qbs_ hb; clear hb hbox hg)); go_upto_region 1 with (first | ((with_reducible refine a0f (N := 1) rfl ?_); refine qev_ 1 #[.int .i64 a0_0, .int .i64 a0_1, .int .i64 a0_2, .slice A0_3 l0_3.length c0_3, .slice A0_4 l0_4.length c0_4, .slice A0_5 l0_5.length c0_5] 30 ?_; intro gb379 hg w3 hbox hb; have BK379 := am_ (hbox); have GW379 := qga_ hg; have GE379 := qga_ hg; replace HB := qbs_ hb; clear hb hbox hg)))
 (try simp only [Act.put, List.setIfInBounds_toArray, List.set_cons_zero, List.set_cons_succ])
 go_cut [42] (fun v42 wc => ∃ (kq : Nat) (x42_1 : Bool), v42 = .bool x42_1 ∧ Aside0 (a0g.j0 kq x42_1 a0_0 a0_1 a0_2 l0_3 l0_4 l0_5 = some r) ∧ Aside0 (kq ≤ k) ∧ Aside0 (wc.heap[gb379]? = some (.cells #[.int .i64 a0_0, .int .i64 a0_1, .int .i64 a0_2, (.slice A0_3 l0_3.length c0_3), (.slice A0_4 l0_4.length c0_4), (.slice A0_5 l0_5.length c0_5)] 30 (0, 0))) ∧ Aside0 (Below w.heap.size w wc))
 case first =>
  have H := HC2.out
  clear HC2
  replace H := bm_ H
  obtain ⟨t380, A40, H⟩ := H
  replace H : (if t380 = true then ((RcIn.f a0_2).bind fun t381 => (if t381 = true then (if a0_0 > a0_2 then (a0g.j0 k true a0_0 a0_1 a0_2 l0_3 l0_4 l0_5) else (if a0_1 = 1 then ((a0z.f k l0_3).bind fun t382 => (if t382 = true then ((a0i.f k l0_4).bind fun t383 => (a0g.j0 k (!t383) a0_0 a0_1 a0_2 l0_3 l0_4 l0_5)) else (a0g.j0 k true a0_0 a0_1 a0_2 l0_3 l0_4 l0_5))) else (if a0_1 = 2 then ((a0z.f k l0_3).bind fun t384 => (if t384 = true then ((a0i.f k l0_4).bind fun t385 => (a0g.j0 k (!t385) a0_0 a0_1 a0_2 l0_3 l0_4 l0_5)) else (a0g.j0 k true a0_0 a0_1 a0_2 l0_3 l0_4 l0_5))) else (a0g.j0 k true a0_0 a0_1 a0_2 l0_3 l0_4 l0_5)))) else (a0g.j0 k true a0_0 a0_1 a0_2 l0_3 l0_4 l0_5))) else (a0g.j0 k true a0_0 a0_1 a0_2 l0_3 l0_4 l0_5)) = some r := H
  have A4 := am_ A40
  clear A40
  by_cases c5 : t380 = true
  ·subst c5
   have H1 : ((RcIn.f a0_2).bind fun t381 => (if t381 = true then (if a0_0 > a0_2 then (a0g.j0 k true a0_0 a0_1 a0_2 l0_3 l0_4 l0_5) else (if a0_1 = 1 then ((a0z.f k l0_3).bind fun t382 => (if t382 = true then ((a0i.f k l0_4).bind fun t383 => (a0g.j0 k (!t383) a0_0 a0_1 a0_2 l0_3 l0_4 l0_5)) else (a0g.j0 k true a0_0 a0_1 a0_2 l0_3 l0_4 l0_5))) else (if a0_1 = 2 then ((a0z.f k l0_3).bind fun t384 => (if t384 = true then ((a0i.f k l0_4).bind fun t385 => (a0g.j0 k (!t385) a0_0 a0_1 a0_2 l0_3 l0_4 l0_5)) else (a0g.j0 k true a0_0 a0_1 a0_2 l0_3 l0_4 l0_5))) else (a0g.j0 k true a0_0 a0_1 a0_2 l0_3 l0_4 l0_5)))) else (a0g.j0 k true a0_0 a0_1 a0_2 l0_3 l0_4 l0_5))) = some r := by rw [if_pos rfl] at H; exact H
   clear H
   have H := H1
   clear H1
   replace H := bm_ H
   obtain ⟨t381, A60, H⟩ := H
   replace H : (if t381 = true then (if a0_0 > a0_2 then (a0g.j0 k true a0_0 a0_1 a0_2 l0_3 l0_4 l0_5) else (if a0_1 = 1 then ((a0z.f k l0_3).bind fun t382 => (if t382 = true then ((a0i.f k l0_4).bind fun t383 => (a0g.j0 k (!t383) a0_0 a0_1 a0_2 l0_3 l0_4 l0_5)) else (a0g.j0 k true a0_0 a0_1 a0_2 l0_3 l0_4 l0_5))) else (if a0_1 = 2 then ((a0z.f k l0_3).bind fun t384 => (if t384 = true then ((a0i.f k l0_4).bind fun t385 => (a0g.j0 k (!t385) a0_0 a0_1 a0_2 l0_3 l0_4 l0_5)) else (a0g.j0 k true a0_0 a0_1 a0_2 l0_3 l0_4 l0_5))) else (a0g.j0 k true a0_0 a0_1 a0_2 l0_3 l0_4 l0_5)))) else (a0g.j0 k true a0_0 a0_1 a0_2 l0_3 l0_4 l0_5)) = some r := H
   have A6 := am_ A60
   clear A60
   by_cases c7 : t381 = true
   ·subst c7
    have H1 : (if a0_0 > a0_2 then (a0g.j0 k true a0_0 a0_1 a0_2 l0_3 l0_4 l0_5) else (if a0_1 = 1 then ((a0z.f k l0_3).bind fun t382 => (if t382 = true then ((a0i.f k l0_4).bind fun t383 => (a0g.j0 k (!t383) a0_0 a0_1 a0_2 l0_3 l0_4 l0_5)) else (a0g.j0 k true a0_0 a0_1 a0_2 l0_3 l0_4 l0_5))) else (if a0_1 = 2 then ((a0z.f k l0_3).bind fun t384 => (if t384 = true then ((a0i.f k l0_4).bind fun t385 => (a0g.j0 k (!t385) a0_0 a0_1 a0_2 l0_3 l0_4 l0_5)) else (a0g.j0 k true a0_0 a0_1 a0_2 l0_3 l0_4 l0_5))) else (a0g.j0 k true a0_0 a0_1 a0_2 l0_3 l0_4 l0_5)))) = some r := by rw [if_pos rfl] at H; exact H
    clear H
    have H := H1
    clear H1
    by_cases c8 : a0_0 > a0_2
    ·rw [if_pos c8] at H
     have c8b0 : decide (a0_2 < a0_0) = true := decide_eq_true c8
     clear c8
     (first | rw [c8b0] | (simp only [a3h, a3u]; rw [c8b0]) | skip)
     have H' := am_ H
     clear H
     obtain ⟨z'9_0, z'9_1, z'9_2, z'9_3, z'9_4, z'9_5⟩ := qz6_ BK379; obtain ⟨y'9_0, y'9_1, y'9_2, y'9_3, y'9_4, y'9_5⟩ := qf6_ BK379
     go_wp2_with (first | (go_at_call 39; (with_reducible refine (RcIn.calls a0_0 true _ A4.out).mono ?_); rintro e w' ⟨rfl, ⟨nd, rfl⟩⟩; (try exact qw_)) | (go_at_call 39; (with_reducible refine (RcIn.calls a0_2 true _ A6.out).mono ?_); rintro e w' ⟨rfl, ⟨nd, rfl⟩⟩; (try exact qw_)))
     repeat (go_quiet (first | (go_at_call 39; (with_reducible refine (RcIn.calls a0_0 true _ A4.out).mono ?_); rintro e w' ⟨rfl, ⟨nd, rfl⟩⟩; (try exact qw_)) | (go_at_call 39; (with_reducible refine (RcIn.calls a0_2 true _ A6.out).mono ?_); rintro e w' ⟨rfl, ⟨nd, rfl⟩⟩; (try exact qw_))); try go_wp2_with (first | (go_at_call 39; (with_reducible refine (RcIn.calls a0_0 true _ A4.out).mono ?_); rintro e w' ⟨rfl, ⟨nd, rfl⟩⟩; (try exact qw_)) | (go_at_call 39; (with_reducible refine (RcIn.calls a0_2 true _ A6.out).mono ?_); rintro e w' ⟨rfl, ⟨nd, rfl⟩⟩; (try exact qw_))))
     go_meet
     case rel => exact ⟨_, (true), qs_, H', ⟨qo_⟩, ⟨qk_ BK379⟩, ⟨qb_⟩⟩
    ·rw [if_neg c8] at H
     have c8b0 : decide (a0_2 < a0_0) = false := decide_eq_false c8
     clear c8
     (first | rw [c8b0] | (simp only [a3h, a3u]; rw [c8b0]) | skip)
     by_cases c10 : a0_1 = 1
     ·rw [if_pos c10] at H
      have c10b0 : (a0_1 == 1) = true := beq_iff_eq.mpr c10
      have c10b1 : (a0_1 != 1) = false := bne_eq_false_iff_eq.mpr c10
      clear c10
      replace H := bm_ H
      obtain ⟨t382, A110, H⟩ := H
      replace H : (if t382 = true then ((a0i.f k l0_4).bind fun t383 => (a0g.j0 k (!t383) a0_0 a0_1 a0_2 l0_3 l0_4 l0_5)) else (a0g.j0 k true a0_0 a0_1 a0_2 l0_3 l0_4 l0_5)) = some r := H
      have A11 := am_ A110
      clear A110
      by_cases c12 : t382 = true
      ·subst c12
       have H1 : ((a0i.f k l0_4).bind fun t383 => (a0g.j0 k (!t383) a0_0 a0_1 a0_2 l0_3 l0_4 l0_5)) = some r := by rw [if_pos rfl] at H; exact H
       clear H
       have H := H1
       clear H1
       replace H := bm_ H
       obtain ⟨t383, A130, H⟩ := H
       replace H : (a0g.j0 k (!t383) a0_0 a0_1 a0_2 l0_3 l0_4 l0_5) = some r := H
       have A13 := am_ A130
       clear A130
       have H' := am_ H
       clear H
       obtain ⟨z'14_0, z'14_1, z'14_2, z'14_3, z'14_4, z'14_5⟩ := qz6_ BK379; obtain ⟨y'14_0, y'14_1, y'14_2, y'14_3, y'14_4, y'14_5⟩ := qf6_ BK379
       go_wp2_with (first | (go_at_call 39; (with_reducible refine (RcIn.calls a0_0 true _ A4.out).mono ?_); rintro e w' ⟨rfl, ⟨nd, rfl⟩⟩; (try exact qw_)) | (go_at_call 39; (with_reducible refine (RcIn.calls a0_2 true _ A6.out).mono ?_); rintro e w' ⟨rfl, ⟨nd, rfl⟩⟩; (try exact qw_)) | (go_at_call 40; (with_reducible refine (a0z.calls k _ _ l0_3 true _ ?s1 ?s2 A11.out).mono ?_); (case s1 => repeat (first | exact (Kd.a1g HR0_3.out qb_) | (with_reducible refine Kd.a2b ?_ _) | (with_reducible refine Kd.a2c ?_ _) | (with_reducible refine Kd.a2m ?_))); (case s2 => exact HC0_3.out); rintro e w15 ⟨rfl, hb⟩; replace BK379 := qkb_ BK379 hb; replace HB := qbs_ hb; (try clear hb); (try clear hb2); (try clear hk); (try clear hi); obtain ⟨z'16_0, z'16_1, z'16_2, z'16_3, z'16_4, z'16_5⟩ := qz6_ BK379; obtain ⟨y'16_0, y'16_1, y'16_2, y'16_3, y'16_4, y'16_5⟩ := qf6_ BK379) | (go_at_call 41; (with_reducible refine (a0i.calls k _ _ l0_4 t383 _ ?s1 ?s2 A13.out).mono ?_); (case s1 => exact qc_ HR0_4); (case s2 => exact HC0_4.out); rintro e w17 ⟨rfl, hb⟩; replace BK379 := qkb_ BK379 hb; replace HB := qbs_ hb; (try clear hb); (try clear hb2); (try clear hk); (try clear hi)))
       repeat (go_quiet (first | (go_at_call 39; (with_reducible refine (RcIn.calls a0_0 true _ A4.out).mono ?_); rintro e w' ⟨rfl, ⟨nd, rfl⟩⟩; (try exact qw_)) | (go_at_call 39; (with_reducible refine (RcIn.calls a0_2 true _ A6.out).mono ?_); rintro e w' ⟨rfl, ⟨nd, rfl⟩⟩; (try exact qw_)) | (go_at_call 40; (with_reducible refine (a0z.calls k _ _ l0_3 true _ ?s1 ?s2 A11.out).mono ?_); (case s1 => repeat (first | exact (Kd.a1g HR0_3.out qb_) | (with_reducible refine Kd.a2b ?_ _) | (with_reducible refine Kd.a2c ?_ _) | (with_reducible refine Kd.a2m ?_))); (case s2 => exact HC0_3.out); rintro e w15 ⟨rfl, hb⟩; replace BK379 := qkb_ BK379 hb; replace HB := qbs_ hb; (try clear hb); (try clear hb2); (try clear hk); (try clear hi); obtain ⟨z'16_0, z'16_1, z'16_2, z'16_3, z'16_4, z'16_5⟩ := qz6_ BK379; obtain ⟨y'16_0, y'16_1, y'16_2, y'16_3, y'16_4, y'16_5⟩ := qf6_ BK379) | (go_at_call 41; (with_reducible refine (a0i.calls k _ _ l0_4 t383 _ ?s1 ?s2 A13.out).mono ?_); (case s1 => exact qc_ HR0_4); (case s2 => exact HC0_4.out); rintro e w17 ⟨rfl, hb⟩; replace BK379 := qkb_ BK379 hb; replace HB := qbs_ hb; (try clear hb); (try clear hb2); (try clear hk); (try clear hi))); try go_wp2_with (first | (go_at_call 39; (with_reducible refine (RcIn.calls a0_0 true _ A4.out).mono ?_); rintro e w' ⟨rfl, ⟨nd, rfl⟩⟩; (try exact qw_)) | (go_at_call 39; (with_reducible refine (RcIn.calls a0_2 true _ A6.out).mono ?_); rintro e w' ⟨rfl, ⟨nd, rfl⟩⟩; (try exact qw_)) | (go_at_call 40; (with_reducible refine (a0z.calls k _ _ l0_3 true _ ?s1 ?s2 A11.out).mono ?_); (case s1 => repeat (first | exact (Kd.a1g HR0_3.out qb_) | (with_reducible refine Kd.a2b ?_ _) | (with_reducible refine Kd.a2c ?_ _) | (with_reducible refine Kd.a2m ?_))); (case s2 => exact HC0_3.out); rintro e w15 ⟨rfl, hb⟩; replace BK379 := qkb_ BK379 hb; replace HB := qbs_ hb; (try clear hb); (try clear hb2); (try clear hk); (try clear hi); obtain ⟨z'16_0, z'16_1, z'16_2, z'16_3, z'16_4, z'16_5⟩ := qz6_ BK379; obtain ⟨y'16_0, y'16_1, y'16_2, y'16_3, y'16_4, y'16_5⟩ := qf6_ BK379) | (go_at_call 41; (with_reducible refine (a0i.calls k _ _ l0_4 t383 _ ?s1 ?s2 A13.out).mono ?_); (case s1 => exact qc_ HR0_4); (case s2 => exact HC0_4.out); rintro e w17 ⟨rfl, hb⟩; replace BK379 := qkb_ BK379 hb; replace HB := qbs_ hb; (try clear hb); (try clear hb2); (try clear hk); (try clear hi))))
       go_meet
       case rel => exact ⟨_, (!t383), qs_, H', ⟨qo_⟩, ⟨qk_ BK379⟩, ⟨qb_⟩⟩
      ·replace c12 := be_ c12
       subst c12
       have H1 : (a0g.j0 k true a0_0 a0_1 a0_2 l0_3 l0_4 l0_5) = some r := by rw [if_neg (show ¬ (false = true) by decide)] at H; exact H
       clear H
       have H := H1
       clear H1
       have H' := am_ H
       clear H
       obtain ⟨z'18_0, z'18_1, z'18_2, z'18_3, z'18_4, z'18_5⟩ := qz6_ BK379; obtain ⟨y'18_0, y'18_1, y'18_2, y'18_3, y'18_4, y'18_5⟩ := qf6_ BK379
       go_wp2_with (first | (go_at_call 39; (with_reducible refine (RcIn.calls a0_0 true _ A4.out).mono ?_); rintro e w' ⟨rfl, ⟨nd, rfl⟩⟩; (try exact qw_)) | (go_at_call 39; (with_reducible refine (RcIn.calls a0_2 true _ A6.out).mono ?_); rintro e w' ⟨rfl, ⟨nd, rfl⟩⟩; (try exact qw_)) | (go_at_call 40; (with_reducible refine (a0z.calls k _ _ l0_3 false _ ?s1 ?s2 A11.out).mono ?_); (case s1 => repeat (first | exact (Kd.a1g HR0_3.out qb_) | (with_reducible refine Kd.a2b ?_ _) | (with_reducible refine Kd.a2c ?_ _) | (with_reducible refine Kd.a2m ?_))); (case s2 => exact HC0_3.out); rintro e w19 ⟨rfl, hb⟩; replace BK379 := qkb_ BK379 hb; replace HB := qbs_ hb; (try clear hb); (try clear hb2); (try clear hk); (try clear hi)))
       repeat (go_quiet (first | (go_at_call 39; (with_reducible refine (RcIn.calls a0_0 true _ A4.out).mono ?_); rintro e w' ⟨rfl, ⟨nd, rfl⟩⟩; (try exact qw_)) | (go_at_call 39; (with_reducible refine (RcIn.calls a0_2 true _ A6.out).mono ?_); rintro e w' ⟨rfl, ⟨nd, rfl⟩⟩; (try exact qw_)) | (go_at_call 40; (with_reducible refine (a0z.calls k _ _ l0_3 false _ ?s1 ?s2 A11.out).mono ?_); (case s1 => repeat (first | exact (Kd.a1g HR0_3.out qb_) | (with_reducible refine Kd.a2b ?_ _) | (with_reducible refine Kd.a2c ?_ _) | (with_reducible refine Kd.a2m ?_))); (case s2 => exact HC0_3.out); rintro e w19 ⟨rfl, hb⟩; replace BK379 := qkb_ BK379 hb; replace HB := qbs_ hb; (try clear hb); (try clear hb2); (try clear hk); (try clear hi))); try go_wp2_with (first | (go_at_call 39; (with_reducible refine (RcIn.calls a0_0 true _ A4.out).mono ?_); rintro e w' ⟨rfl, ⟨nd, rfl⟩⟩; (try exact qw_)) | (go_at_call 39; (with_reducible refine (RcIn.calls a0_2 true _ A6.out).mono ?_); rintro e w' ⟨rfl, ⟨nd, rfl⟩⟩; (try exact qw_)) | (go_at_call 40; (with_reducible refine (a0z.calls k _ _ l0_3 false _ ?s1 ?s2 A11.out).mono ?_); (case s1 => repeat (first | exact (Kd.a1g HR0_3.out qb_) | (with_reducible refine Kd.a2b ?_ _) | (with_reducible refine Kd.a2c ?_ _) | (with_reducible refine Kd.a2m ?_))); (case s2 => exact HC0_3.out); rintro e w19 ⟨rfl, hb⟩; replace BK379 := qkb_ BK379 hb; replace HB := qbs_ hb; (try clear hb); (try clear hb2); (try clear hk); (try clear hi))))
       go_meet
       case rel => exact ⟨_, (true), qs_, H', ⟨qo_⟩, ⟨qk_ BK379⟩, ⟨qb_⟩⟩
     ·rw [if_neg c10] at H
      have c10b0 : (a0_1 == 1) = false := beq_eq_false_iff_ne.mpr c10
      have c10b1 : (a0_1 != 1) = true := bne_iff_ne.mpr c10
      by_cases c20 : a0_1 = 2
      ·rw [if_pos c20] at H
       have c20b0 : (a0_1 == 2) = true := beq_iff_eq.mpr c20
       have c20b1 : (a0_1 != 2) = false := bne_eq_false_iff_eq.mpr c20
       clear c20
       replace H := bm_ H
       obtain ⟨t384, A210, H⟩ := H
       replace H : (if t384 = true then ((a0i.f k l0_4).bind fun t385 => (a0g.j0 k (!t385) a0_0 a0_1 a0_2 l0_3 l0_4 l0_5)) else (a0g.j0 k true a0_0 a0_1 a0_2 l0_3 l0_4 l0_5)) = some r := H
       have A21 := am_ A210
       clear A210
       by_cases c22 : t384 = true
       ·subst c22
        have H1 : ((a0i.f k l0_4).bind fun t385 => (a0g.j0 k (!t385) a0_0 a0_1 a0_2 l0_3 l0_4 l0_5)) = some r := by rw [if_pos rfl] at H; exact H
        clear H
        have H := H1
        clear H1
        replace H := bm_ H
        obtain ⟨t385, A230, H⟩ := H
        replace H : (a0g.j0 k (!t385) a0_0 a0_1 a0_2 l0_3 l0_4 l0_5) = some r := H
        have A23 := am_ A230
        clear A230
        have H' := am_ H
        clear H
        obtain ⟨z'24_0, z'24_1, z'24_2, z'24_3, z'24_4, z'24_5⟩ := qz6_ BK379; obtain ⟨y'24_0, y'24_1, y'24_2, y'24_3, y'24_4, y'24_5⟩ := qf6_ BK379
        go_wp2_with (first | (go_at_call 39; (with_reducible refine (RcIn.calls a0_0 true _ A4.out).mono ?_); rintro e w' ⟨rfl, ⟨nd, rfl⟩⟩; (try exact qw_)) | (go_at_call 39; (with_reducible refine (RcIn.calls a0_2 true _ A6.out).mono ?_); rintro e w' ⟨rfl, ⟨nd, rfl⟩⟩; (try exact qw_)) | (go_at_call 40; (with_reducible refine (a0z.calls k _ _ l0_3 true _ ?s1 ?s2 A21.out).mono ?_); (case s1 => repeat (first | exact (Kd.a1g HR0_3.out qb_) | (with_reducible refine Kd.a2b ?_ _) | (with_reducible refine Kd.a2c ?_ _) | (with_reducible refine Kd.a2m ?_))); (case s2 => exact HC0_3.out); rintro e w25 ⟨rfl, hb⟩; replace BK379 := qkb_ BK379 hb; replace HB := qbs_ hb; (try clear hb); (try clear hb2); (try clear hk); (try clear hi); obtain ⟨z'26_0, z'26_1, z'26_2, z'26_3, z'26_4, z'26_5⟩ := qz6_ BK379; obtain ⟨y'26_0, y'26_1, y'26_2, y'26_3, y'26_4, y'26_5⟩ := qf6_ BK379) | (go_at_call 41; (with_reducible refine (a0i.calls k _ _ l0_4 t385 _ ?s1 ?s2 A23.out).mono ?_); (case s1 => exact qc_ HR0_4); (case s2 => exact HC0_4.out); rintro e w27 ⟨rfl, hb⟩; replace BK379 := qkb_ BK379 hb; replace HB := qbs_ hb; (try clear hb); (try clear hb2); (try clear hk); (try clear hi)))
        repeat (go_quiet (first | (go_at_call 39; (with_reducible refine (RcIn.calls a0_0 true _ A4.out).mono ?_); rintro e w' ⟨rfl, ⟨nd, rfl⟩⟩; (try exact qw_)) | (go_at_call 39; (with_reducible refine (RcIn.calls a0_2 true _ A6.out).mono ?_); rintro e w' ⟨rfl, ⟨nd, rfl⟩⟩; (try exact qw_)) | (go_at_call 40; (with_reducible refine (a0z.calls k _ _ l0_3 true _ ?s1 ?s2 A21.out).mono ?_); (case s1 => repeat (first | exact (Kd.a1g HR0_3.out qb_) | (with_reducible refine Kd.a2b ?_ _) | (with_reducible refine Kd.a2c ?_ _) | (with_reducible refine Kd.a2m ?_))); (case s2 => exact HC0_3.out); rintro e w25 ⟨rfl, hb⟩; replace BK379 := qkb_ BK379 hb; replace HB := qbs_ hb; (try clear hb); (try clear hb2); (try clear hk); (try clear hi); obtain ⟨z'26_0, z'26_1, z'26_2, z'26_3, z'26_4, z'26_5⟩ := qz6_ BK379; obtain ⟨y'26_0, y'26_1, y'26_2, y'26_3, y'26_4, y'26_5⟩ := qf6_ BK379) | (go_at_call 41; (with_reducible refine (a0i.calls k _ _ l0_4 t385 _ ?s1 ?s2 A23.out).mono ?_); (case s1 => exact qc_ HR0_4); (case s2 => exact HC0_4.out); rintro e w27 ⟨rfl, hb⟩; replace BK379 := qkb_ BK379 hb; replace HB := qbs_ hb; (try clear hb); (try clear hb2); (try clear hk); (try clear hi))); try go_wp2_with (first | (go_at_call 39; (with_reducible refine (RcIn.calls a0_0 true _ A4.out).mono ?_); rintro e w' ⟨rfl, ⟨nd, rfl⟩⟩; (try exact qw_)) | (go_at_call 39; (with_reducible refine (RcIn.calls a0_2 true _ A6.out).mono ?_); rintro e w' ⟨rfl, ⟨nd, rfl⟩⟩; (try exact qw_)) | (go_at_call 40; (with_reducible refine (a0z.calls k _ _ l0_3 true _ ?s1 ?s2 A21.out).mono ?_); (case s1 => repeat (first | exact (Kd.a1g HR0_3.out qb_) | (with_reducible refine Kd.a2b ?_ _) | (with_reducible refine Kd.a2c ?_ _) | (with_reducible refine Kd.a2m ?_))); (case s2 => exact HC0_3.out); rintro e w25 ⟨rfl, hb⟩; replace BK379 := qkb_ BK379 hb; replace HB := qbs_ hb; (try clear hb); (try clear hb2); (try clear hk); (try clear hi); obtain ⟨z'26_0, z'26_1, z'26_2, z'26_3, z'26_4, z'26_5⟩ := qz6_ BK379; obtain ⟨y'26_0, y'26_1, y'26_2, y'26_3, y'26_4, y'26_5⟩ := qf6_ BK379) | (go_at_call 41; (with_reducible refine (a0i.calls k _ _ l0_4 t385 _ ?s1 ?s2 A23.out).mono ?_); (case s1 => exact qc_ HR0_4); (case s2 => exact HC0_4.out); rintro e w27 ⟨rfl, hb⟩; replace BK379 := qkb_ BK379 hb; replace HB := qbs_ hb; (try clear hb); (try clear hb2); (try clear hk); (try clear hi))))
        go_meet
        case rel => exact ⟨_, (!t385), qs_, H', ⟨qo_⟩, ⟨qk_ BK379⟩, ⟨qb_⟩⟩
       ·replace c22 := be_ c22
        subst c22
        have H1 : (a0g.j0 k true a0_0 a0_1 a0_2 l0_3 l0_4 l0_5) = some r := by rw [if_neg (show ¬ (false = true) by decide)] at H; exact H
        clear H
        have H := H1
        clear H1
        have H' := am_ H
        clear H
        obtain ⟨z'28_0, z'28_1, z'28_2, z'28_3, z'28_4, z'28_5⟩ := qz6_ BK379; obtain ⟨y'28_0, y'28_1, y'28_2, y'28_3, y'28_4, y'28_5⟩ := qf6_ BK379
        go_wp2_with (first | (go_at_call 39; (with_reducible refine (RcIn.calls a0_0 true _ A4.out).mono ?_); rintro e w' ⟨rfl, ⟨nd, rfl⟩⟩; (try exact qw_)) | (go_at_call 39; (with_reducible refine (RcIn.calls a0_2 true _ A6.out).mono ?_); rintro e w' ⟨rfl, ⟨nd, rfl⟩⟩; (try exact qw_)) | (go_at_call 40; (with_reducible refine (a0z.calls k _ _ l0_3 false _ ?s1 ?s2 A21.out).mono ?_); (case s1 => repeat (first | exact (Kd.a1g HR0_3.out qb_) | (with_reducible refine Kd.a2b ?_ _) | (with_reducible refine Kd.a2c ?_ _) | (with_reducible refine Kd.a2m ?_))); (case s2 => exact HC0_3.out); rintro e w29 ⟨rfl, hb⟩; replace BK379 := qkb_ BK379 hb; replace HB := qbs_ hb; (try clear hb); (try clear hb2); (try clear hk); (try clear hi)))
        repeat (go_quiet (first | (go_at_call 39; (with_reducible refine (RcIn.calls a0_0 true _ A4.out).mono ?_); rintro e w' ⟨rfl, ⟨nd, rfl⟩⟩; (try exact qw_)) | (go_at_call 39; (with_reducible refine (RcIn.calls a0_2 true _ A6.out).mono ?_); rintro e w' ⟨rfl, ⟨nd, rfl⟩⟩; (try exact qw_)) | (go_at_call 40; (with_reducible refine (a0z.calls k _ _ l0_3 false _ ?s1 ?s2 A21.out).mono ?_); (case s1 => repeat (first | exact (Kd.a1g HR0_3.out qb_) | (with_reducible refine Kd.a2b ?_ _) | (with_reducible refine Kd.a2c ?_ _) | (with_reducible refine Kd.a2m ?_))); (case s2 => exact HC0_3.out); rintro e w29 ⟨rfl, hb⟩; replace BK379 := qkb_ BK379 hb; replace HB := qbs_ hb; (try clear hb); (try clear hb2); (try clear hk); (try clear hi))); try go_wp2_with (first | (go_at_call 39; (with_reducible refine (RcIn.calls a0_0 true _ A4.out).mono ?_); rintro e w' ⟨rfl, ⟨nd, rfl⟩⟩; (try exact qw_)) | (go_at_call 39; (with_reducible refine (RcIn.calls a0_2 true _ A6.out).mono ?_); rintro e w' ⟨rfl, ⟨nd, rfl⟩⟩; (try exact qw_)) | (go_at_call 40; (with_reducible refine (a0z.calls k _ _ l0_3 false _ ?s1 ?s2 A21.out).mono ?_); (case s1 => repeat (first | exact (Kd.a1g HR0_3.out qb_) | (with_reducible refine Kd.a2b ?_ _) | (with_reducible refine Kd.a2c ?_ _) | (with_reducible refine Kd.a2m ?_))); (case s2 => exact HC0_3.out); rintro e w29 ⟨rfl, hb⟩; replace BK379 := qkb_ BK379 hb; replace HB := qbs_ hb; (try clear hb); (try clear hb2); (try clear hk); (try clear hi))))
        go_meet
        case rel => exact ⟨_, (true), qs_, H', ⟨qo_⟩, ⟨qk_ BK379⟩, ⟨qb_⟩⟩
      ·rw [if_neg c20] at H
       have c20b0 : (a0_1 == 2) = false := beq_eq_false_iff_ne.mpr c20
       have c20b1 : (a0_1 != 2) = true := bne_iff_ne.mpr c20
       have H' := am_ H
       clear H
       obtain ⟨z'30_0, z'30_1, z'30_2, z'30_3, z'30_4, z'30_5⟩ := qz6_ BK379; obtain ⟨y'30_0, y'30_1, y'30_2, y'30_3, y'30_4, y'30_5⟩ := qf6_ BK379
       go_wp2_with (first | (go_at_call 39; (with_reducible refine (RcIn.calls a0_0 true _ A4.out).mono ?_); rintro e w' ⟨rfl, ⟨nd, rfl⟩⟩; (try exact qw_)) | (go_at_call 39; (with_reducible refine (RcIn.calls a0_2 true _ A6.out).mono ?_); rintro e w' ⟨rfl, ⟨nd, rfl⟩⟩; (try exact qw_)))
       repeat (go_quiet (first | (go_at_call 39; (with_reducible refine (RcIn.calls a0_0 true _ A4.out).mono ?_); rintro e w' ⟨rfl, ⟨nd, rfl⟩⟩; (try exact qw_)) | (go_at_call 39; (with_reducible refine (RcIn.calls a0_2 true _ A6.out).mono ?_); rintro e w' ⟨rfl, ⟨nd, rfl⟩⟩; (try exact qw_))); try go_wp2_with (first | (go_at_call 39; (with_reducible refine (RcIn.calls a0_0 true _ A4.out).mono ?_); rintro e w' ⟨rfl, ⟨nd, rfl⟩⟩; (try exact qw_)) | (go_at_call 39; (with_reducible refine (RcIn.calls a0_2 true _ A6.out).mono ?_); rintro e w' ⟨rfl, ⟨nd, rfl⟩⟩; (try exact qw_))))
       go_meet
       case rel => exact ⟨_, (true), qs_, H', ⟨qo_⟩, ⟨qk_ BK379⟩, ⟨qb_⟩⟩
   ·replace c7 := be_ c7
    subst c7
    have H1 : (a0g.j0 k true a0_0 a0_1 a0_2 l0_3 l0_4 l0_5) = some r := by rw [if_neg (show ¬ (false = true) by decide)] at H; exact H
    clear H
    have H := H1
    clear H1
    have H' := am_ H
    clear H
    obtain ⟨z'31_0, z'31_1, z'31_2, z'31_3, z'31_4, z'31_5⟩ := qz6_ BK379; obtain ⟨y'31_0, y'31_1, y'31_2, y'31_3, y'31_4, y'31_5⟩ := qf6_ BK379
    go_wp2_with (first | (go_at_call 39; (with_reducible refine (RcIn.calls a0_0 true _ A4.out).mono ?_); rintro e w' ⟨rfl, ⟨nd, rfl⟩⟩; (try exact qw_)) | (go_at_call 39; (with_reducible refine (RcIn.calls a0_2 false _ A6.out).mono ?_); rintro e w' ⟨rfl, ⟨nd, rfl⟩⟩; (try exact qw_)))
    repeat (go_quiet (first | (go_at_call 39; (with_reducible refine (RcIn.calls a0_0 true _ A4.out).mono ?_); rintro e w' ⟨rfl, ⟨nd, rfl⟩⟩; (try exact qw_)) | (go_at_call 39; (with_reducible refine (RcIn.calls a0_2 false _ A6.out).mono ?_); rintro e w' ⟨rfl, ⟨nd, rfl⟩⟩; (try exact qw_))); try go_wp2_with (first | (go_at_call 39; (with_reducible refine (RcIn.calls a0_0 true _ A4.out).mono ?_); rintro e w' ⟨rfl, ⟨nd, rfl⟩⟩; (try exact qw_)) | (go_at_call 39; (with_reducible refine (RcIn.calls a0_2 false _ A6.out).mono ?_); rintro e w' ⟨rfl, ⟨nd, rfl⟩⟩; (try exact qw_))))
    go_meet
    case rel => exact ⟨_, (true), qs_, H', ⟨qo_⟩, ⟨qk_ BK379⟩, ⟨qb_⟩⟩
  ·replace c5 := be_ c5
   subst c5
   have H1 : (a0g.j0 k true a0_0 a0_1 a0_2 l0_3 l0_4 l0_5) = some r := by rw [if_neg (show ¬ (false = true) by decide)] at H; exact H
   clear H
   have H := H1
   clear H1
   have H' := am_ H
   clear H
   obtain ⟨z'32_0, z'32_1, z'32_2, z'32_3, z'32_4, z'32_5⟩ := qz6_ BK379; obtain ⟨y'32_0, y'32_1, y'32_2, y'32_3, y'32_4, y'32_5⟩ := qf6_ BK379
   go_wp2_with (first | (go_at_call 39; (with_reducible refine (RcIn.calls a0_0 false _ A4.out).mono ?_); rintro e w' ⟨rfl, ⟨nd, rfl⟩⟩; (try exact qw_)))
   repeat (go_quiet (first | (go_at_call 39; (with_reducible refine (RcIn.calls a0_0 false _ A4.out).mono ?_); rintro e w' ⟨rfl, ⟨nd, rfl⟩⟩; (try exact qw_))); try go_wp2_with (first | (go_at_call 39; (with_reducible refine (RcIn.calls a0_0 false _ A4.out).mono ?_); rintro e w' ⟨rfl, ⟨nd, rfl⟩⟩; (try exact qw_))))
   go_meet
   case rel => exact ⟨_, (true), qs_, H', ⟨qo_⟩, ⟨qk_ BK379⟩, ⟨qb_⟩⟩
 case rest =>
  clear HC2
  try clear c1
  try clear c2
  try clear p2
  try clear c5
  try clear c7
  try clear c8
  try clear c8b0
  try clear c10
  try clear c10b0
  try clear c10b1
  try clear c12
  try clear c16
  try clear c20
  try clear c20b0
  try clear c20b1
  try clear c22
  try clear z'14_0 z'14_1 z'14_2 z'14_3 z'14_4 z'14_5
  try clear z'16_0 z'16_1 z'16_2 z'16_3 z'16_4 z'16_5
  try clear z'18_0 z'18_1 z'18_2 z'18_3 z'18_4 z'18_5
  try clear z'24_0 z'24_1 z'24_2 z'24_3 z'24_4 z'24_5
  try clear z'26_0 z'26_1 z'26_2 z'26_3 z'26_4 z'26_5
  try clear z'28_0 z'28_1 z'28_2 z'28_3 z'28_4 z'28_5
  try clear z'30_0 z'30_1 z'30_2 z'30_3 z'30_4 z'30_5
  try clear z'31_0 z'31_1 z'31_2 z'31_3 z'31_4 z'31_5
  try clear z'32_0 z'32_1 z'32_2 z'32_3 z'32_4 z'32_5
  try clear z'9_0 z'9_1 z'9_2 z'9_3 z'9_4 z'9_5
  try clear y'14_0 y'14_1 y'14_2 y'14_3 y'14_4 y'14_5
  try clear y'16_0 y'16_1 y'16_2 y'16_3 y'16_4 y'16_5
  try clear y'18_0 y'18_1 y'18_2 y'18_3 y'18_4 y'18_5
  try clear y'24_0 y'24_1 y'24_2 y'24_3 y'24_4 y'24_5
  try clear y'26_0 y'26_1 y'26_2 y'26_3 y'26_4 y'26_5
  try clear y'28_0 y'28_1 y'28_2 y'28_3 y'28_4 y'28_5
  try clear y'30_0 y'30_1 y'30_2 y'30_3 y'30_4 y'30_5
  try clear y'31_0 y'31_1 y'31_2 y'31_3 y'31_4 y'31_5
  try clear y'32_0 y'32_1 y'32_2 y'32_3 y'32_4 y'32_5
  try clear y'9_0 y'9_1 y'9_2 y'9_3 y'9_4 y'9_5
  obtain ⟨kq, x42_1, rfl, HA, HJ1, BK379, HB⟩ := hcut
  cases kq with
  | zero => exact absurd HA.out (by simp [a0g.j0])
  | succ kj1 =>
   have H := HA.out
   clear HA
   simp only [a0g.j0] at H
   by_cases c33 : x42_1 = true
   ·subst c33
    have H1 : (some false) = some r := by rw [if_pos rfl] at H; exact H
    clear H
    have H := H1
    clear H1
    obtain rfl := si_ H
    go_wp2
    repeat (go_quiet (fail); try go_wp2)
    go_ret
    exact ⟨qx_, qb_⟩
   ·replace c33 := be_ c33
    subst c33
    have H1 : (a0g.l0 kj1 0 a0_0 a0_1 a0_2 l0_3 l0_4 l0_5) = some r := by rw [if_neg (show ¬ (false = true) by decide)] at H; exact H
    clear H
    have H := H1
    clear H1
    have H' := am_ H
    clear H
    go_wp2
    repeat (go_quiet (fail); try go_wp2)
    go_loopg [3] kj1 (fun kq v3 w' => ∃ (x3_2 : Int), v3 = .int .i64 x3_2 ∧ Aside0 (a0g.l0 kq x3_2 a0_0 a0_1 a0_2 l0_3 l0_4 l0_5 = some r) ∧ Aside0 (kq ≤ kj1) ∧ Aside0 (w'.heap[gb379]? = some (.cells #[.int .i64 a0_0, .int .i64 a0_1, .int .i64 a0_2, (.slice A0_3 l0_3.length c0_3), (.slice A0_4 l0_4.length c0_4), (.slice A0_5 l0_5.length c0_5)] 30 (0, 0))) ∧ Aside0 (Below w.heap.size w w'))
    case atStart => exact ⟨(0), qs_, H', ⟨Nat.le_refl _⟩, ⟨qk_ BK379⟩, ⟨qb_⟩⟩
    case round =>
     clear H'
     try clear c1
     try clear c2
     try clear p2
     try clear c3
     try clear c5
     try clear c7
     try clear c8
     try clear c8b0
     try clear c10
     try clear c10b0
     try clear c10b1
     try clear c12
     try clear c16
     try clear c20
     try clear c20b0
     try clear c20b1
     try clear c22
     try clear c33
     try clear z'14_0 z'14_1 z'14_2 z'14_3 z'14_4 z'14_5
     try clear z'16_0 z'16_1 z'16_2 z'16_3 z'16_4 z'16_5
     try clear z'18_0 z'18_1 z'18_2 z'18_3 z'18_4 z'18_5
     try clear z'24_0 z'24_1 z'24_2 z'24_3 z'24_4 z'24_5
     try clear z'26_0 z'26_1 z'26_2 z'26_3 z'26_4 z'26_5
     try clear z'28_0 z'28_1 z'28_2 z'28_3 z'28_4 z'28_5
     try clear z'30_0 z'30_1 z'30_2 z'30_3 z'30_4 z'30_5
     try clear z'31_0 z'31_1 z'31_2 z'31_3 z'31_4 z'31_5
     try clear z'32_0 z'32_1 z'32_2 z'32_3 z'32_4 z'32_5
     try clear z'9_0 z'9_1 z'9_2 z'9_3 z'9_4 z'9_5
     try clear y'14_0 y'14_1 y'14_2 y'14_3 y'14_4 y'14_5
     try clear y'16_0 y'16_1 y'16_2 y'16_3 y'16_4 y'16_5
     try clear y'18_0 y'18_1 y'18_2 y'18_3 y'18_4 y'18_5
     try clear y'24_0 y'24_1 y'24_2 y'24_3 y'24_4 y'24_5
     try clear y'26_0 y'26_1 y'26_2 y'26_3 y'26_4 y'26_5
     try clear y'28_0 y'28_1 y'28_2 y'28_3 y'28_4 y'28_5
     try clear y'30_0 y'30_1 y'30_2 y'30_3 y'30_4 y'30_5
     try clear y'31_0 y'31_1 y'31_2 y'31_3 y'31_4 y'31_5
     try clear y'32_0 y'32_1 y'32_2 y'32_3 y'32_4 y'32_5
     try clear y'9_0 y'9_1 y'9_2 y'9_3 y'9_4 y'9_5
     try clear p2
     obtain ⟨x3_2, rfl, HA, HK2, BK379, HB⟩ := hrel
     cases gk with
     | zero => exact absurd HA.out (by simp [a0g.l0])
     | succ k2 =>
      have H := HA.out
      clear HA
      simp only [a0g.l0] at H
      by_cases c34 : x3_2 < (l0_5.length : Int)
      ·rw [if_pos c34] at H
       have c34b0 : decide (x3_2 < (l0_5.length : Int)) = true := decide_eq_true c34
       clear c34
       have HC35 := am_ H
       clear H
       obtain ⟨z'36_0, z'36_1, z'36_2, z'36_3, z'36_4, z'36_5⟩ := qz6_ BK379; obtain ⟨y'36_0, y'36_1, y'36_2, y'36_3, y'36_4, y'36_5⟩ := qf6_ BK379
       go_upto_region 6 with (fail)
       repeat (go_quiet (fail); go_upto_region 6 with (fail))
       go_cut [76] (fun v76 wc => ∃ (kq : Nat) (x76_34 : Bool), v76 = .bool x76_34 ∧ Aside0 (a0g.j2 kq x3_2 x76_34 a0_0 a0_1 a0_2 l0_3 l0_4 l0_5 = some r) ∧ Aside0 (kq ≤ k2) ∧ Aside0 (wc.heap[gb379]? = some (.cells #[.int .i64 a0_0, .int .i64 a0_1, .int .i64 a0_2, (.slice A0_3 l0_3.length c0_3), (.slice A0_4 l0_4.length c0_4), (.slice A0_5 l0_5.length c0_5)] 30 (0, 0))) ∧ Aside0 (Below w.heap.size w wc))
       case first =>
        have H := HC35.out
        clear HC35
        by_cases c37 : 0 ≤ x3_2
        ·rw [if_pos c37] at H
         have c37b0 : decide (0 ≤ x3_2) = true := decide_eq_true c37
         clear c37
         (first | rw [c37b0] | (simp only [a3h, a3u]; rw [c37b0]) | skip)
         replace H := bm_ H
         obtain ⟨t387, A380, H⟩ := H
         replace H : (if t387 < 0 then (a0g.j2 k2 x3_2 true a0_0 a0_1 a0_2 l0_3 l0_4 l0_5) else (if x3_2 > 0 then (if 0 ≤ (wrap64 (x3_2 - 1)) then (if (wrap64 (x3_2 - 1)) < (l0_5.length : Int) then (a0g.j2 k2 x3_2 (decide ((rd l0_5 x3_2) ≤ (rd l0_5 (wrap64 (x3_2 - 1))))) a0_0 a0_1 a0_2 l0_3 l0_4 l0_5) else (none)) else (none)) else (a0g.j2 k2 x3_2 false a0_0 a0_1 a0_2 l0_3 l0_4 l0_5))) = some r := H
         have A38 := am_ A380
         clear A380
         by_cases c39 : t387 < 0
         ·rw [if_pos c39] at H
          have c39b0 : decide (t387 < 0) = true := decide_eq_true c39
          clear c39
          have H' := am_ H
          clear H
          obtain ⟨z'40_0, z'40_1, z'40_2, z'40_3, z'40_4, z'40_5⟩ := qz6_ BK379; obtain ⟨y'40_0, y'40_1, y'40_2, y'40_3, y'40_4, y'40_5⟩ := qf6_ BK379
          have p386 : 0 ≤ (x3_2 : Int) := ot_
          have q386 : x3_2 < (l0_5.length : Int) := ot_
          obtain ⟨ad386, e386, hx386_0⟩ := Kd.a2o HR0_5.out x3_2 p386 q386
          cases e386
          replace hx386_0 := qh_ HB hx386_0
          replace p386 := eq_true p386
          replace q386 := eq_true q386
          go_wp2_with (first | (go_at_call 36; (with_reducible refine (a1r.calls k2 _ _ l0_4 (rd l0_5 x3_2) t387 _ ?s1 ?s2 A38.out).mono ?_); (case s1 => exact qc_ HR0_4); (case s2 => exact HC0_4.out); rintro e w' ⟨rfl, ⟨nd, rfl⟩⟩; (try exact qw_)))
          repeat (go_quiet (first | (go_at_call 36; (with_reducible refine (a1r.calls k2 _ _ l0_4 (rd l0_5 x3_2) t387 _ ?s1 ?s2 A38.out).mono ?_); (case s1 => exact qc_ HR0_4); (case s2 => exact HC0_4.out); rintro e w' ⟨rfl, ⟨nd, rfl⟩⟩; (try exact qw_))); try go_wp2_with (first | (go_at_call 36; (with_reducible refine (a1r.calls k2 _ _ l0_4 (rd l0_5 x3_2) t387 _ ?s1 ?s2 A38.out).mono ?_); (case s1 => exact qc_ HR0_4); (case s2 => exact HC0_4.out); rintro e w' ⟨rfl, ⟨nd, rfl⟩⟩; (try exact qw_))))
          go_meet
          case rel => exact ⟨_, (true), qs_, H', ⟨by have := HJ1.out; have := HK2.out; first | omega | exact Nat.le_refl _⟩, ⟨qk_ BK379⟩, ⟨qb_⟩⟩
         ·rw [if_neg c39] at H
          have c39b0 : decide (t387 < 0) = false := decide_eq_false c39
          clear c39
          by_cases c41 : x3_2 > 0
          ·rw [if_pos c41] at H
           have c41b0 : decide (0 < x3_2) = true := decide_eq_true c41
           clear c41
           obtain ⟨ji42, hji42⟩ : ∃ j_ : Int, (wrap64 (x3_2 - 1)) = j_ := ⟨_, rfl⟩
           replace H : (if 0 ≤ (ji42) then (if (ji42) < (l0_5.length : Int) then (a0g.j2 k2 x3_2 (decide ((rd l0_5 x3_2) ≤ (rd l0_5 (ji42)))) a0_0 a0_1 a0_2 l0_3 l0_4 l0_5) else (none)) else (none)) = some r := by first | (rw [hji42] at H; exact H) | (simp only [hji42] at H ⊢; exact H)
           (try rw [hji42] at A38)
           have hji42w : (IntKind.i64.wrap (x3_2 - 1)) = ji42 := (a3h _).trans hji42
           by_cases c43 : 0 ≤ (ji42)
           ·rw [if_pos c43] at H
            have c43b0 : decide (0 ≤ (ji42)) = true := decide_eq_true c43
            clear c43
            by_cases c44 : (ji42) < (l0_5.length : Int)
            ·rw [if_pos c44] at H
             have c44b0 : decide ((ji42) < (l0_5.length : Int)) = true := decide_eq_true c44
             clear c44
             have H' := am_ H
             clear H
             obtain ⟨z'45_0, z'45_1, z'45_2, z'45_3, z'45_4, z'45_5⟩ := qz6_ BK379; obtain ⟨y'45_0, y'45_1, y'45_2, y'45_3, y'45_4, y'45_5⟩ := qf6_ BK379
             have p386 : 0 ≤ (x3_2 : Int) := ot_
             have q386 : x3_2 < (l0_5.length : Int) := ot_
             obtain ⟨ad386, e386, hx386_0⟩ := Kd.a2o HR0_5.out x3_2 p386 q386
             cases e386
             replace hx386_0 := qh_ HB hx386_0
             replace p386 := eq_true p386
             replace q386 := eq_true q386
             go_wp2_with (first | (go_at_call 36; (with_reducible refine (a1r.calls k2 _ _ l0_4 (rd l0_5 x3_2) t387 _ ?s1 ?s2 A38.out).mono ?_); (case s1 => exact qc_ HR0_4); (case s2 => exact HC0_4.out); rintro e w' ⟨rfl, ⟨nd, rfl⟩⟩; (try exact qw_); have p388 : 0 ≤ (x3_2 : Int) := ot_; have q388 : x3_2 < (l0_5.length : Int) := ot_; obtain ⟨ad388, e388, hx388_0⟩ := Kd.a2o HR0_5.out x3_2 p388 q388; obtain rfl : ad386 = ad388 := (by injection e388); replace hx388_0 := qh_ HB hx388_0; replace p388 := eq_true p388; replace q388 := eq_true q388; have p389 : 0 ≤ ((ji42) : Int) := ot_; have q389 : (ji42) < (l0_5.length : Int) := ot_; obtain ⟨ad389, e389, hx389_0⟩ := Kd.a2o HR0_5.out (ji42) p389 q389; obtain rfl : ad386 = ad389 := (by injection e389); replace hx389_0 := qh_ HB hx389_0; replace p389 := eq_true p389; replace q389 := eq_true q389))
             repeat (go_quiet (first | (go_at_call 36; (with_reducible refine (a1r.calls k2 _ _ l0_4 (rd l0_5 x3_2) t387 _ ?s1 ?s2 A38.out).mono ?_); (case s1 => exact qc_ HR0_4); (case s2 => exact HC0_4.out); rintro e w' ⟨rfl, ⟨nd, rfl⟩⟩; (try exact qw_); have p388 : 0 ≤ (x3_2 : Int) := ot_; have q388 : x3_2 < (l0_5.length : Int) := ot_; obtain ⟨ad388, e388, hx388_0⟩ := Kd.a2o HR0_5.out x3_2 p388 q388; obtain rfl : ad386 = ad388 := (by injection e388); replace hx388_0 := qh_ HB hx388_0; replace p388 := eq_true p388; replace q388 := eq_true q388; have p389 : 0 ≤ ((ji42) : Int) := ot_; have q389 : (ji42) < (l0_5.length : Int) := ot_; obtain ⟨ad389, e389, hx389_0⟩ := Kd.a2o HR0_5.out (ji42) p389 q389; obtain rfl : ad386 = ad389 := (by injection e389); replace hx389_0 := qh_ HB hx389_0; replace p389 := eq_true p389; replace q389 := eq_true q389)); try go_wp2_with (first | (go_at_call 36; (with_reducible refine (a1r.calls k2 _ _ l0_4 (rd l0_5 x3_2) t387 _ ?s1 ?s2 A38.out).mono ?_); (case s1 => exact qc_ HR0_4); (case s2 => exact HC0_4.out); rintro e w' ⟨rfl, ⟨nd, rfl⟩⟩; (try exact qw_); have p388 : 0 ≤ (x3_2 : Int) := ot_; have q388 : x3_2 < (l0_5.length : Int) := ot_; obtain ⟨ad388, e388, hx388_0⟩ := Kd.a2o HR0_5.out x3_2 p388 q388; obtain rfl : ad386 = ad388 := (by injection e388); replace hx388_0 := qh_ HB hx388_0; replace p388 := eq_true p388; replace q388 := eq_true q388; have p389 : 0 ≤ ((ji42) : Int) := ot_; have q389 : (ji42) < (l0_5.length : Int) := ot_; obtain ⟨ad389, e389, hx389_0⟩ := Kd.a2o HR0_5.out (ji42) p389 q389; obtain rfl : ad386 = ad389 := (by injection e389); replace hx389_0 := qh_ HB hx389_0; replace p389 := eq_true p389; replace q389 := eq_true q389)))
             try subst hji42
             go_meet
             case rel => exact ⟨_, (decide ((rd l0_5 x3_2) ≤ (rd l0_5 ((wrap64 (x3_2 - 1)))))), (by first | rfl | (simp; done) | (simp only [← hji42] <;> (first | rfl | simp)) | (simp [*]; done)), H', ⟨by have := HJ1.out; have := HK2.out; first | omega | exact Nat.le_refl _⟩, ⟨qk_ BK379⟩, ⟨qb_⟩⟩
            ·rw [if_neg c44] at H
             exact absurd H (by simp)
           ·rw [if_neg c43] at H
            exact absurd H (by simp)
          ·rw [if_neg c41] at H
           have c41b0 : decide (0 < x3_2) = false := decide_eq_false c41
           clear c41
           have H' := am_ H
           clear H
           obtain ⟨z'46_0, z'46_1, z'46_2, z'46_3, z'46_4, z'46_5⟩ := qz6_ BK379; obtain ⟨y'46_0, y'46_1, y'46_2, y'46_3, y'46_4, y'46_5⟩ := qf6_ BK379
           have p386 : 0 ≤ (x3_2 : Int) := ot_
           have q386 : x3_2 < (l0_5.length : Int) := ot_
           obtain ⟨ad386, e386, hx386_0⟩ := Kd.a2o HR0_5.out x3_2 p386 q386
           cases e386
           replace hx386_0 := qh_ HB hx386_0
           replace p386 := eq_true p386
           replace q386 := eq_true q386
           go_wp2_with (first | (go_at_call 36; (with_reducible refine (a1r.calls k2 _ _ l0_4 (rd l0_5 x3_2) t387 _ ?s1 ?s2 A38.out).mono ?_); (case s1 => exact qc_ HR0_4); (case s2 => exact HC0_4.out); rintro e w' ⟨rfl, ⟨nd, rfl⟩⟩; (try exact qw_)))
           repeat (go_quiet (first | (go_at_call 36; (with_reducible refine (a1r.calls k2 _ _ l0_4 (rd l0_5 x3_2) t387 _ ?s1 ?s2 A38.out).mono ?_); (case s1 => exact qc_ HR0_4); (case s2 => exact HC0_4.out); rintro e w' ⟨rfl, ⟨nd, rfl⟩⟩; (try exact qw_))); try go_wp2_with (first | (go_at_call 36; (with_reducible refine (a1r.calls k2 _ _ l0_4 (rd l0_5 x3_2) t387 _ ?s1 ?s2 A38.out).mono ?_); (case s1 => exact qc_ HR0_4); (case s2 => exact HC0_4.out); rintro e w' ⟨rfl, ⟨nd, rfl⟩⟩; (try exact qw_))))
           go_meet
           case rel => exact ⟨_, (false), qs_, H', ⟨by have := HJ1.out; have := HK2.out; first | omega | exact Nat.le_refl _⟩, ⟨qk_ BK379⟩, ⟨qb_⟩⟩
        ·rw [if_neg c37] at H
         exact absurd H (by simp)
       case rest =>
        clear HC35
        try clear c1
        try clear c2
        try clear p2
        try clear c3
        try clear p3
        try clear q3
        try clear hx3
        try clear c4
        try clear c5
        try clear p6
        try clear c7
        try clear c8
        try clear c8b0
        try clear c10
        try clear c10b0
        try clear c10b1
        try clear c12
        try clear c16
        try clear c20
        try clear c20b0
        try clear c20b1
        try clear c22
        try clear c33
        try clear c34
        try clear c34b0
        try clear c37
        try clear c37b0
        try clear p38
        try clear q38
        try clear hx38
        try clear c39
        try clear c39b0
        try clear c41
        try clear c41b0
        try clear c43
        try clear c43b0
        try clear c44
        try clear c44b0
        try clear z'14_0 z'14_1 z'14_2 z'14_3 z'14_4 z'14_5
        try clear z'16_0 z'16_1 z'16_2 z'16_3 z'16_4 z'16_5
        try clear z'18_0 z'18_1 z'18_2 z'18_3 z'18_4 z'18_5
        try clear z'24_0 z'24_1 z'24_2 z'24_3 z'24_4 z'24_5
        try clear z'26_0 z'26_1 z'26_2 z'26_3 z'26_4 z'26_5
        try clear z'28_0 z'28_1 z'28_2 z'28_3 z'28_4 z'28_5
        try clear z'30_0 z'30_1 z'30_2 z'30_3 z'30_4 z'30_5
        try clear z'31_0 z'31_1 z'31_2 z'31_3 z'31_4 z'31_5
        try clear z'32_0 z'32_1 z'32_2 z'32_3 z'32_4 z'32_5
        try clear z'36_0 z'36_1 z'36_2 z'36_3 z'36_4 z'36_5
        try clear z'40_0 z'40_1 z'40_2 z'40_3 z'40_4 z'40_5
        try clear z'45_0 z'45_1 z'45_2 z'45_3 z'45_4 z'45_5
        try clear z'46_0 z'46_1 z'46_2 z'46_3 z'46_4 z'46_5
        try clear z'9_0 z'9_1 z'9_2 z'9_3 z'9_4 z'9_5
        try clear y'14_0 y'14_1 y'14_2 y'14_3 y'14_4 y'14_5
        try clear y'16_0 y'16_1 y'16_2 y'16_3 y'16_4 y'16_5
        try clear y'18_0 y'18_1 y'18_2 y'18_3 y'18_4 y'18_5
        try clear y'24_0 y'24_1 y'24_2 y'24_3 y'24_4 y'24_5
        try clear y'26_0 y'26_1 y'26_2 y'26_3 y'26_4 y'26_5
        try clear y'28_0 y'28_1 y'28_2 y'28_3 y'28_4 y'28_5
        try clear y'30_0 y'30_1 y'30_2 y'30_3 y'30_4 y'30_5
        try clear y'31_0 y'31_1 y'31_2 y'31_3 y'31_4 y'31_5
        try clear y'32_0 y'32_1 y'32_2 y'32_3 y'32_4 y'32_5
        try clear y'36_0 y'36_1 y'36_2 y'36_3 y'36_4 y'36_5
        try clear y'40_0 y'40_1 y'40_2 y'40_3 y'40_4 y'40_5
        try clear y'45_0 y'45_1 y'45_2 y'45_3 y'45_4 y'45_5
        try clear y'46_0 y'46_1 y'46_2 y'46_3 y'46_4 y'46_5
        try clear y'9_0 y'9_1 y'9_2 y'9_3 y'9_4 y'9_5
        try clear hx386_0
        try clear hx388_0
        try clear hx389_0
        try clear p2
        try clear p386
        try clear p388
        try clear p389
        try clear q386
        try clear q388
        try clear q389
        obtain ⟨kq, x76_34, rfl, HA, HJ34, BK379, HB⟩ := hcut
        cases kq with
        | zero => exact absurd HA.out (by simp [a0g.j2])
        | succ kj34 =>
         have H := HA.out
         clear HA
         simp only [a0g.j2] at H
         by_cases c47 : x76_34 = true
         ·subst c47
          have H1 : (some false) = some r := by rw [if_pos rfl] at H; exact H
          clear H
          have H := H1
          clear H1
          obtain rfl := si_ H
          go_wp2
          repeat (go_quiet (fail); try go_wp2)
          go_ret
          exact ⟨qx_, qb_⟩
         ·replace c47 := be_ c47
          subst c47
          have H1 : (a0g.l0 kj34 (wrap64 (x3_2 + 1)) a0_0 a0_1 a0_2 l0_3 l0_4 l0_5) = some r := by rw [if_neg (show ¬ (false = true) by decide)] at H; exact H
          clear H
          have H := H1
          clear H1
          have H' := am_ H
          clear H
          go_wp2
          repeat (go_quiet (fail); try go_wp2)
          go_roundg kj34
          case measure => have := HJ1.out; have := HK2.out; have := HJ34.out; omega
          case rel => exact ⟨(wrap64 (x3_2 + 1)), qs_, H', ⟨by have := HJ1.out; have := HK2.out; have := HJ34.out; omega⟩, ⟨qk_ BK379⟩, ⟨qb_⟩⟩
      ·rw [if_neg c34] at H
       have c34b0 : decide (x3_2 < (l0_5.length : Int)) = false := decide_eq_false c34
       clear c34
       obtain rfl := si_ H
       obtain ⟨z'48_0, z'48_1, z'48_2, z'48_3, z'48_4, z'48_5⟩ := qz6_ BK379; obtain ⟨y'48_0, y'48_1, y'48_2, y'48_3, y'48_4, y'48_5⟩ := qf6_ BK379
       go_wp2
       repeat (go_quiet (fail); try go_wp2)
       go_ret
       exact ⟨qx_, qb_⟩
end Go.Proofs.Ytemnlgefngjliaa.Px
