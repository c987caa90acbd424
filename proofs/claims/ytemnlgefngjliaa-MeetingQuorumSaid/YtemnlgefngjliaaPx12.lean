/- Contracts of Go functions, printed. Conditions: as each theorem states. -/
import Derived.Test.YtemnlgefngjliaaPx0
import Derived.Test.YtemnlgefngjliaaPx4
import Derived.Test.YtemnlgefngjliaaPx8
import Derived.Test.YtemnlgefngjliaaPx10
import Derived.Test.YtemnlgefngjliaaPx11
namespace Go.Proofs.Ytemnlgefngjliaa.Px
open Go.Proofs.Ytemnlgefngjliaa.Given
open Go.RowKit Go.Proofs.YtemnlgefngjliaaW.PrintWords Go.Proofs.YtemnlgefngjliaaW.PrintLast Go.Proofs.YtemnlgefngjliaaW.PrintMore
attribute [local go_sem] a2f a2g a2r a2s a1x a1y a2h a2i
set_option linter.unusedVariables false
set_option linter.unusedSimpArgs false
mutual
def a0l.j0 : Nat → Bool → Int → Int → Int → Int → Bool → Int → Int → Int → List ByteArray → List (S43) → List Int → ByteArray → List Int → Option (Bool)
 | 0, _, _, _, _, _, _, _, _, _, _, _, _, _, _ => none
 | k + 1, x40, u0, u1, u2, u3, u4, u5, u6, u7, u8, u9, u10, u11, u12 => if x40 = true then (some false) else (a0l.l0 k u10 (u10.length : Int) 0 u0 u1 u2 u3 u4 u5 u6 u7 u8 u9 u10 u11 u12)
def a0l.l0 : Nat → List Int → Int → Int → Int → Int → Int → Int → Bool → Int → Int → Int → List ByteArray → List (S43) → List Int → ByteArray → List Int → Option (Bool)
 | 0, _, _, _, _, _, _, _, _, _, _, _, _, _, _, _, _ => none
 | k + 1, x43, x44, x45, u0, u1, u2, u3, u4, u5, u6, u7, u8, u9, u10, u11, u12 => if x45 < x44 then (if 0 ≤ x45 then (if x45 < (x43.length : Int) then ((a3c.f k u0 u1 u2 u3 u4 u5 u6 u7 u8 u9 u10 u11 u12 (rd x43 x45)).bind fun bt228 => (if bt228.2 = true then (if x45 > 0 then (if 0 ≤ (wrap64 (x45 - 1)) then (if (wrap64 (x45 - 1)) < (u10.length : Int) then (a0l.j2 k x43 x44 x45 (decide ((rd x43 x45) ≤ (rd u10 (wrap64 (x45 - 1))))) u0 u1 u2 u3 u4 u5 u6 u7 u8 u9 u10 u11 u12) else (none)) else (none)) else (a0l.j2 k x43 x44 x45 false u0 u1 u2 u3 u4 u5 u6 u7 u8 u9 u10 u11 u12)) else (a0l.j2 k x43 x44 x45 true u0 u1 u2 u3 u4 u5 u6 u7 u8 u9 u10 u11 u12))) else (none)) else (none)) else (some true)
def a0l.j2 : Nat → List Int → Int → Int → Bool → Int → Int → Int → Int → Bool → Int → Int → Int → List ByteArray → List (S43) → List Int → ByteArray → List Int → Option (Bool)
 | 0, _, _, _, _, _, _, _, _, _, _, _, _, _, _, _, _, _ => none
 | k + 1, x43, x44, x45, x72, u0, u1, u2, u3, u4, u5, u6, u7, u8, u9, u10, u11, u12 => if x72 = true then (some false) else (a0l.l0 k x43 x44 (wrap64 (x45 + 1)) u0 u1 u2 u3 u4 u5 u6 u7 u8 u9 u10 u11 u12)
end
def a0l.f (k : Nat) (a0_0 a0_1 a0_2 a0_3 : Int) (a0_4 : Bool) (a0_5 a0_6 a0_7 : Int) (l0_8 : List ByteArray) (l0_9 : List (S43)) (l0_10 : List Int) (a0_11 : ByteArray) (l0_12 : List Int) : Option (Bool) := (a0s.f a0_5 0 36524).bind fun t222 => (if t222 = true then ((a0s.f a0_7 a0_5 36524).bind fun t223 => (if t223 = true then ((a0s.f a0_6 1 2).bind fun t224 => (if t224 = true then ((a1k.f k l0_8).bind fun t225 => (if t225 = true then ((a0c.f k a0_0 a0_1 a0_2 a0_3 a0_4 a0_5 a0_6 a0_7 l0_8 l0_9 l0_10 a0_11 l0_12).bind fun t226 => (a0l.j0 k (!t226) a0_0 a0_1 a0_2 a0_3 a0_4 a0_5 a0_6 a0_7 l0_8 l0_9 l0_10 a0_11 l0_12)) else (a0l.j0 k true a0_0 a0_1 a0_2 a0_3 a0_4 a0_5 a0_6 a0_7 l0_8 l0_9 l0_10 a0_11 l0_12))) else (a0l.j0 k true a0_0 a0_1 a0_2 a0_3 a0_4 a0_5 a0_6 a0_7 l0_8 l0_9 l0_10 a0_11 l0_12))) else (a0l.j0 k true a0_0 a0_1 a0_2 a0_3 a0_4 a0_5 a0_6 a0_7 l0_8 l0_9 l0_10 a0_11 l0_12))) else (a0l.j0 k true a0_0 a0_1 a0_2 a0_3 a0_4 a0_5 a0_6 a0_7 l0_8 l0_9 l0_10 a0_11 l0_12))
theorem a0l.a0t : ∀ k, (∀ y0 y1 y2 y3 y4 y5 y6 y7 y8 y9 y10 y11 y12 y13, LeO (a0l.j0 k y0 y1 y2 y3 y4 y5 y6 y7 y8 y9 y10 y11 y12 y13) (a0l.j0 (k + 1) y0 y1 y2 y3 y4 y5 y6 y7 y8 y9 y10 y11 y12 y13)) ∧ (∀ y0 y1 y2 y3 y4 y5 y6 y7 y8 y9 y10 y11 y12 y13 y14 y15, LeO (a0l.l0 k y0 y1 y2 y3 y4 y5 y6 y7 y8 y9 y10 y11 y12 y13 y14 y15) (a0l.l0 (k + 1) y0 y1 y2 y3 y4 y5 y6 y7 y8 y9 y10 y11 y12 y13 y14 y15)) ∧ (∀ y0 y1 y2 y3 y4 y5 y6 y7 y8 y9 y10 y11 y12 y13 y14 y15 y16, LeO (a0l.j2 k y0 y1 y2 y3 y4 y5 y6 y7 y8 y9 y10 y11 y12 y13 y14 y15 y16) (a0l.j2 (k + 1) y0 y1 y2 y3 y4 y5 y6 y7 y8 y9 y10 y11 y12 y13 y14 y15 y16))
 | 0 => ⟨fun _ _ _ _ _ _ _ _ _ _ _ _ _ _ r h => by simp [a0l.j0] at h, fun _ _ _ _ _ _ _ _ _ _ _ _ _ _ _ _ r h => by simp [a0l.l0] at h, fun _ _ _ _ _ _ _ _ _ _ _ _ _ _ _ _ _ r h => by simp [a0l.j2] at h⟩
 | k + 1 => by
  obtain ⟨ih0, ih1, ih2⟩ := a0l.a0t k
  refine ⟨?_, ?_, ?_⟩
  ·intro y0 y1 y2 y3 y4 y5 y6 y7 y8 y9 y10 y11 y12 y13
   unfold a0l.j0
   with_reducible (repeat' first | apply ih0 | apply ih1 | apply ih2 | apply a3c.mono | apply a0c.mono | apply a1k.mono | apply LeO.refl | apply LeO.none | apply LeO.ite | refine LeO.bind ?_ (fun _ => ?_))
  ·intro y0 y1 y2 y3 y4 y5 y6 y7 y8 y9 y10 y11 y12 y13 y14 y15
   unfold a0l.l0
   with_reducible (repeat' first | apply ih0 | apply ih1 | apply ih2 | apply a3c.mono | apply a0c.mono | apply a1k.mono | apply LeO.refl | apply LeO.none | apply LeO.ite | refine LeO.bind ?_ (fun _ => ?_))
  ·intro y0 y1 y2 y3 y4 y5 y6 y7 y8 y9 y10 y11 y12 y13 y14 y15 y16
   unfold a0l.j2
   with_reducible (repeat' first | apply ih0 | apply ih1 | apply ih2 | apply a3c.mono | apply a0c.mono | apply a1k.mono | apply LeO.refl | apply LeO.none | apply LeO.ite | refine LeO.bind ?_ (fun _ => ?_))
theorem a0l.mono : ∀ a0 a1 a2 a3 a4 a5 a6 a7 a8 a9 a10 a11 a12 k, LeO (a0l.f k a0 a1 a2 a3 a4 a5 a6 a7 a8 a9 a10 a11 a12) (a0l.f (k + 1) a0 a1 a2 a3 a4 a5 a6 a7 a8 a9 a10 a11 a12) := by
 intro a0 a1 a2 a3 a4 a5 a6 a7 a8 a9 a10 a11 a12 k
 obtain ⟨ih0, ih1, ih2⟩ := a0l.a0t k
 unfold a0l.f
 with_reducible (repeat' first | apply ih0 | apply ih1 | apply ih2 | apply a3c.mono | apply a0c.mono | apply a1k.mono | apply LeO.refl | apply LeO.none | apply LeO.ite | refine LeO.bind ?_ (fun _ => ?_))
set_option maxHeartbeats 8000000 in
set_option maxRecDepth 100000 in
theorem a0l.calls (k : Nat) (a0_0 a0_1 a0_2 a0_3 : Int) (a0_4 : Bool) (a0_5 a0_6 a0_7 : Int) (A0_8 : Option Addr) (c0_8 : Nat) (l0_8 : List ByteArray) (A0_9 : Option Addr) (c0_9 : Nat) (l0_9 : List (S43)) (A0_10 : Option Addr) (c0_10 : Nat) (l0_10 : List Int) (a0_11 : ByteArray) (A0_12 : Option Addr) (c0_12 : Nat) (l0_12 : List Int) (r : Bool) (w : World) (hr0_8 : Kd.C Kd.string w A0_8 l0_8.length l0_8) (hc0_8 : l0_8.length ≤ c0_8) (hr0_9 : Kd.C k43 w A0_9 l0_9.length l0_9) (hc0_9 : l0_9.length ≤ c0_9) (hr0_10 : Kd.C (Kd.int .i64) w A0_10 l0_10.length l0_10) (hc0_10 : l0_10.length ≤ c0_10) (hr0_12 : Kd.C (Kd.int .i64) w A0_12 l0_12.length l0_12) (hc0_12 : l0_12.length ≤ c0_12) (h : a0l.f k a0_0 a0_1 a0_2 a0_3 a0_4 a0_5 a0_6 a0_7 l0_8 l0_9 l0_10 a0_11 l0_12 = some r) :
  Calls Try.prog 31 #[.agg #[.int .i64 a0_0, .int .i64 a0_1, .int .i64 a0_2, .int .i64 a0_3, .bool a0_4, .int .i64 a0_5, .int .i64 a0_6, .int .i64 a0_7, .slice A0_8 l0_8.length c0_8, .slice A0_9 l0_9.length c0_9, .slice A0_10 l0_10.length c0_10, .string a0_11, .slice A0_12 l0_12.length c0_12]] w fun e w' => e = .returned (.bool r) ∧ Below w.heap.size w w' := by
 have hu62 := Try.underlying62
 have HR0_8 := am_ hr0_8
 have HC0_8 := am_ hc0_8
 clear hr0_8 hc0_8
 have HR0_9 := am_ hr0_9
 have HC0_9 := am_ hc0_9
 clear hr0_9 hc0_9
 have HR0_10 := am_ hr0_10
 have HC0_10 := am_ hc0_10
 clear hr0_10 hc0_10
 have HR0_12 := am_ hr0_12
 have HC0_12 := am_ hc0_12
 clear hr0_12 hc0_12
 have HB := am_ (Below.refl w.heap.size w)
 have H : ((a0s.f a0_5 0 36524).bind fun t222 => (if t222 = true then ((a0s.f a0_7 a0_5 36524).bind fun t223 => (if t223 = true then ((a0s.f a0_6 1 2).bind fun t224 => (if t224 = true then ((a1k.f k l0_8).bind fun t225 => (if t225 = true then ((a0c.f k a0_0 a0_1 a0_2 a0_3 a0_4 a0_5 a0_6 a0_7 l0_8 l0_9 l0_10 a0_11 l0_12).bind fun t226 => (a0l.j0 k (!t226) a0_0 a0_1 a0_2 a0_3 a0_4 a0_5 a0_6 a0_7 l0_8 l0_9 l0_10 a0_11 l0_12)) else (a0l.j0 k true a0_0 a0_1 a0_2 a0_3 a0_4 a0_5 a0_6 a0_7 l0_8 l0_9 l0_10 a0_11 l0_12))) else (a0l.j0 k true a0_0 a0_1 a0_2 a0_3 a0_4 a0_5 a0_6 a0_7 l0_8 l0_9 l0_10 a0_11 l0_12))) else (a0l.j0 k true a0_0 a0_1 a0_2 a0_3 a0_4 a0_5 a0_6 a0_7 l0_8 l0_9 l0_10 a0_11 l0_12))) else (a0l.j0 k true a0_0 a0_1 a0_2 a0_3 a0_4 a0_5 a0_6 a0_7 l0_8 l0_9 l0_10 a0_11 l0_12))) = some r := h
 clear h
 have HC2 := am_ H
 clear H
 go_enter Try.func31, Try.ntmps31
 go_upto_region 1 with (first | ((with_reducible refine a0f (N := 1) rfl ?_); refine qev_ 1 #[.int .i64 a0_0, .int .i64 a0_1, .int .i64 a0_2, .int .i64 a0_3, .bool a0_4, .int .i64 a0_5, .int .i64 a0_6, .int .i64 a0_7, .slice A0_8 l0_8.length c0_8, .slice A0_9 l0_9.length c0_9, .slice A0_10 l0_10.length c0_10, .string a0_11, .slice A0_12 l0_12.length c0_12] 62 ?_; intro gb221 hg w3 hbox hb; have BK221 := am_ (hbox); have GW221 := qga_ hg; have GE221 := qga_ hg; replace HB := qbs_ hb; clear hb hbox hg))
 (try simp only [Act.put, List.setIfInBounds_toArray, List.set_cons_zero, List.set_cons_succ])
 go_cut [40] (fun v40 wc => ∃ (kq : Nat) (x40_1 : Bool), v40 = .bool x40_1 ∧ Aside0 (a0l.j0 kq x40_1 a0_0 a0_1 a0_2 a0_3 a0_4 a0_5 a0_6 a0_7 l0_8 l0_9 l0_10 a0_11 l0_12 = some r) ∧ Aside0 (kq ≤ k) ∧ Aside0 (wc.heap[gb221]? = some (.cells #[.int .i64 a0_0, .int .i64 a0_1, .int .i64 a0_2, .int .i64 a0_3, .bool a0_4, .int .i64 a0_5, .int .i64 a0_6, .int .i64 a0_7, (.slice A0_8 l0_8.length c0_8), (.slice A0_9 l0_9.length c0_9), (.slice A0_10 l0_10.length c0_10), .string a0_11, (.slice A0_12 l0_12.length c0_12)] 62 (0, 0))) ∧ Aside0 (Below w.heap.size w wc))
 case first =>
  have H := HC2.out
  clear HC2
  replace H := bm_ H
  obtain ⟨t222, A40, H⟩ := H
  replace H : (if t222 = true then ((a0s.f a0_7 a0_5 36524).bind fun t223 => (if t223 = true then ((a0s.f a0_6 1 2).bind fun t224 => (if t224 = true then ((a1k.f k l0_8).bind fun t225 => (if t225 = true then ((a0c.f k a0_0 a0_1 a0_2 a0_3 a0_4 a0_5 a0_6 a0_7 l0_8 l0_9 l0_10 a0_11 l0_12).bind fun t226 => (a0l.j0 k (!t226) a0_0 a0_1 a0_2 a0_3 a0_4 a0_5 a0_6 a0_7 l0_8 l0_9 l0_10 a0_11 l0_12)) else (a0l.j0 k true a0_0 a0_1 a0_2 a0_3 a0_4 a0_5 a0_6 a0_7 l0_8 l0_9 l0_10 a0_11 l0_12))) else (a0l.j0 k true a0_0 a0_1 a0_2 a0_3 a0_4 a0_5 a0_6 a0_7 l0_8 l0_9 l0_10 a0_11 l0_12))) else (a0l.j0 k true a0_0 a0_1 a0_2 a0_3 a0_4 a0_5 a0_6 a0_7 l0_8 l0_9 l0_10 a0_11 l0_12))) else (a0l.j0 k true a0_0 a0_1 a0_2 a0_3 a0_4 a0_5 a0_6 a0_7 l0_8 l0_9 l0_10 a0_11 l0_12)) = some r := H
  have A4 := am_ A40
  clear A40
  by_cases c5 : t222 = true
  ·subst c5
   have H1 : ((a0s.f a0_7 a0_5 36524).bind fun t223 => (if t223 = true then ((a0s.f a0_6 1 2).bind fun t224 => (if t224 = true then ((a1k.f k l0_8).bind fun t225 => (if t225 = true then ((a0c.f k a0_0 a0_1 a0_2 a0_3 a0_4 a0_5 a0_6 a0_7 l0_8 l0_9 l0_10 a0_11 l0_12).bind fun t226 => (a0l.j0 k (!t226) a0_0 a0_1 a0_2 a0_3 a0_4 a0_5 a0_6 a0_7 l0_8 l0_9 l0_10 a0_11 l0_12)) else (a0l.j0 k true a0_0 a0_1 a0_2 a0_3 a0_4 a0_5 a0_6 a0_7 l0_8 l0_9 l0_10 a0_11 l0_12))) else (a0l.j0 k true a0_0 a0_1 a0_2 a0_3 a0_4 a0_5 a0_6 a0_7 l0_8 l0_9 l0_10 a0_11 l0_12))) else (a0l.j0 k true a0_0 a0_1 a0_2 a0_3 a0_4 a0_5 a0_6 a0_7 l0_8 l0_9 l0_10 a0_11 l0_12))) = some r := by rw [if_pos rfl] at H; exact H
   clear H
   have H := H1
   clear H1
   replace H := bm_ H
   obtain ⟨t223, A60, H⟩ := H
   replace H : (if t223 = true then ((a0s.f a0_6 1 2).bind fun t224 => (if t224 = true then ((a1k.f k l0_8).bind fun t225 => (if t225 = true then ((a0c.f k a0_0 a0_1 a0_2 a0_3 a0_4 a0_5 a0_6 a0_7 l0_8 l0_9 l0_10 a0_11 l0_12).bind fun t226 => (a0l.j0 k (!t226) a0_0 a0_1 a0_2 a0_3 a0_4 a0_5 a0_6 a0_7 l0_8 l0_9 l0_10 a0_11 l0_12)) else (a0l.j0 k true a0_0 a0_1 a0_2 a0_3 a0_4 a0_5 a0_6 a0_7 l0_8 l0_9 l0_10 a0_11 l0_12))) else (a0l.j0 k true a0_0 a0_1 a0_2 a0_3 a0_4 a0_5 a0_6 a0_7 l0_8 l0_9 l0_10 a0_11 l0_12))) else (a0l.j0 k true a0_0 a0_1 a0_2 a0_3 a0_4 a0_5 a0_6 a0_7 l0_8 l0_9 l0_10 a0_11 l0_12)) = some r := H
   have A6 := am_ A60
   clear A60
   by_cases c7 : t223 = true
   ·subst c7
    have H1 : ((a0s.f a0_6 1 2).bind fun t224 => (if t224 = true then ((a1k.f k l0_8).bind fun t225 => (if t225 = true then ((a0c.f k a0_0 a0_1 a0_2 a0_3 a0_4 a0_5 a0_6 a0_7 l0_8 l0_9 l0_10 a0_11 l0_12).bind fun t226 => (a0l.j0 k (!t226) a0_0 a0_1 a0_2 a0_3 a0_4 a0_5 a0_6 a0_7 l0_8 l0_9 l0_10 a0_11 l0_12)) else (a0l.j0 k true a0_0 a0_1 a0_2 a0_3 a0_4 a0_5 a0_6 a0_7 l0_8 l0_9 l0_10 a0_11 l0_12))) else (a0l.j0 k true a0_0 a0_1 a0_2 a0_3 a0_4 a0_5 a0_6 a0_7 l0_8 l0_9 l0_10 a0_11 l0_12))) = some r := by rw [if_pos rfl] at H; exact H
    clear H
    have H := H1
    clear H1
    replace H := bm_ H
    obtain ⟨t224, A80, H⟩ := H
    replace H : (if t224 = true then ((a1k.f k l0_8).bind fun t225 => (if t225 = true then ((a0c.f k a0_0 a0_1 a0_2 a0_3 a0_4 a0_5 a0_6 a0_7 l0_8 l0_9 l0_10 a0_11 l0_12).bind fun t226 => (a0l.j0 k (!t226) a0_0 a0_1 a0_2 a0_3 a0_4 a0_5 a0_6 a0_7 l0_8 l0_9 l0_10 a0_11 l0_12)) else (a0l.j0 k true a0_0 a0_1 a0_2 a0_3 a0_4 a0_5 a0_6 a0_7 l0_8 l0_9 l0_10 a0_11 l0_12))) else (a0l.j0 k true a0_0 a0_1 a0_2 a0_3 a0_4 a0_5 a0_6 a0_7 l0_8 l0_9 l0_10 a0_11 l0_12)) = some r := H
    have A8 := am_ A80
    clear A80
    by_cases c9 : t224 = true
    ·subst c9
     have H1 : ((a1k.f k l0_8).bind fun t225 => (if t225 = true then ((a0c.f k a0_0 a0_1 a0_2 a0_3 a0_4 a0_5 a0_6 a0_7 l0_8 l0_9 l0_10 a0_11 l0_12).bind fun t226 => (a0l.j0 k (!t226) a0_0 a0_1 a0_2 a0_3 a0_4 a0_5 a0_6 a0_7 l0_8 l0_9 l0_10 a0_11 l0_12)) else (a0l.j0 k true a0_0 a0_1 a0_2 a0_3 a0_4 a0_5 a0_6 a0_7 l0_8 l0_9 l0_10 a0_11 l0_12))) = some r := by rw [if_pos rfl] at H; exact H
     clear H
     have H := H1
     clear H1
     replace H := bm_ H
     obtain ⟨t225, A100, H⟩ := H
     replace H : (if t225 = true then ((a0c.f k a0_0 a0_1 a0_2 a0_3 a0_4 a0_5 a0_6 a0_7 l0_8 l0_9 l0_10 a0_11 l0_12).bind fun t226 => (a0l.j0 k (!t226) a0_0 a0_1 a0_2 a0_3 a0_4 a0_5 a0_6 a0_7 l0_8 l0_9 l0_10 a0_11 l0_12)) else (a0l.j0 k true a0_0 a0_1 a0_2 a0_3 a0_4 a0_5 a0_6 a0_7 l0_8 l0_9 l0_10 a0_11 l0_12)) = some r := H
     have A10 := am_ A100
     clear A100
     by_cases c11 : t225 = true
     ·subst c11
      have H1 : ((a0c.f k a0_0 a0_1 a0_2 a0_3 a0_4 a0_5 a0_6 a0_7 l0_8 l0_9 l0_10 a0_11 l0_12).bind fun t226 => (a0l.j0 k (!t226) a0_0 a0_1 a0_2 a0_3 a0_4 a0_5 a0_6 a0_7 l0_8 l0_9 l0_10 a0_11 l0_12)) = some r := by rw [if_pos rfl] at H; exact H
      clear H
      have H := H1
      clear H1
      replace H := bm_ H
      obtain ⟨t226, A120, H⟩ := H
      replace H : (a0l.j0 k (!t226) a0_0 a0_1 a0_2 a0_3 a0_4 a0_5 a0_6 a0_7 l0_8 l0_9 l0_10 a0_11 l0_12) = some r := H
      have A12 := am_ A120
      clear A120
      have H' := am_ H
      clear H
      obtain ⟨z'13_0, z'13_1, z'13_2, z'13_3, z'13_4, z'13_5, z'13_6, z'13_7, z'13_8, z'13_9, z'13_10, z'13_11, z'13_12⟩ := a1u BK221; obtain ⟨y'13_0, y'13_1, y'13_2, y'13_3, y'13_4, y'13_5, y'13_6, y'13_7, y'13_8, y'13_9, y'13_10, y'13_11, y'13_12⟩ := a1v BK221
      go_wp2_with (first | ((with_reducible refine a0e (f := 51) rfl ?_); refine a0w (some 10) rfl rfl Try.func51 (by kernel_rfl) rfl #[.int .i64 a0_5, .int .i64 0, .int .i64 36524] rfl ql_ ?_; (with_reducible refine (a0s.calls a0_5 0 36524 true _ A4.out).mono ?_); rintro e w' ⟨rfl, ⟨nd, rfl⟩⟩; refine ⟨_, rfl, ?_⟩) | (go_at_call 51; (with_reducible refine (a0s.calls a0_7 a0_5 36524 true _ A6.out).mono ?_); rintro e w' ⟨rfl, ⟨nd, rfl⟩⟩) | (go_at_call 51; (with_reducible refine (a0s.calls a0_6 1 2 true _ A8.out).mono ?_); rintro e w' ⟨rfl, ⟨nd, rfl⟩⟩) | (go_at_call 54; (with_reducible refine (a1k.calls k _ _ l0_8 true _ ?s1 ?s2 A10.out).mono ?_); (case s1 => repeat (first | exact (Kd.a1g HR0_8.out qb_) | (with_reducible refine Kd.a2b ?_ _) | (with_reducible refine Kd.a2c ?_ _) | (with_reducible refine Kd.a2m ?_))); (case s2 => exact HC0_8.out); rintro e w14 ⟨rfl, hb⟩; replace BK221 := qkb_ BK221 hb; replace HB := qbs_ hb; (try clear hb); (try clear hb2); (try clear hk); (try clear hi); obtain ⟨z'15_0, z'15_1, z'15_2, z'15_3, z'15_4, z'15_5, z'15_6, z'15_7, z'15_8, z'15_9, z'15_10, z'15_11, z'15_12⟩ := a1u BK221; obtain ⟨y'15_0, y'15_1, y'15_2, y'15_3, y'15_4, y'15_5, y'15_6, y'15_7, y'15_8, y'15_9, y'15_10, y'15_11, y'15_12⟩ := a1v BK221) | (go_at_call 55; (with_reducible refine (a0c.calls k a0_0 a0_1 a0_2 a0_3 a0_4 a0_5 a0_6 a0_7 _ _ l0_8 _ _ l0_9 _ _ l0_10 a0_11 _ _ l0_12 t226 _ ?s1 ?s2 ?s3 ?s4 ?s5 ?s6 ?s7 ?s8 A12.out).mono ?_); (case s1 => exact qc_ HR0_8); (case s2 => exact HC0_8.out); (case s3 => exact qc_ HR0_9); (case s4 => exact HC0_9.out); (case s5 => exact qc_ HR0_10); (case s6 => exact HC0_10.out); (case s7 => exact qc_ HR0_12); (case s8 => exact HC0_12.out); rintro e w16 ⟨rfl, hb⟩; replace BK221 := qkb_ BK221 hb; replace HB := qbs_ hb; (try clear hb); (try clear hb2); (try clear hk); (try clear hi)))
      go_meet
      case rel => exact ⟨_, (!t226), qs_, H', ⟨qo_⟩, ⟨qk_ BK221⟩, ⟨qb_⟩⟩
     ·replace c11 := be_ c11
      subst c11
      have H1 : (a0l.j0 k true a0_0 a0_1 a0_2 a0_3 a0_4 a0_5 a0_6 a0_7 l0_8 l0_9 l0_10 a0_11 l0_12) = some r := by rw [if_neg (show ¬ (false = true) by decide)] at H; exact H
      clear H
      have H := H1
      clear H1
      have H' := am_ H
      clear H
      obtain ⟨z'17_0, z'17_1, z'17_2, z'17_3, z'17_4, z'17_5, z'17_6, z'17_7, z'17_8, z'17_9, z'17_10, z'17_11, z'17_12⟩ := a1u BK221; obtain ⟨y'17_0, y'17_1, y'17_2, y'17_3, y'17_4, y'17_5, y'17_6, y'17_7, y'17_8, y'17_9, y'17_10, y'17_11, y'17_12⟩ := a1v BK221
      go_wp2_with (first | ((with_reducible refine a0e (f := 51) rfl ?_); refine a0w (some 10) rfl rfl Try.func51 (by kernel_rfl) rfl #[.int .i64 a0_5, .int .i64 0, .int .i64 36524] rfl ql_ ?_; (with_reducible refine (a0s.calls a0_5 0 36524 true _ A4.out).mono ?_); rintro e w' ⟨rfl, ⟨nd, rfl⟩⟩; refine ⟨_, rfl, ?_⟩) | (go_at_call 51; (with_reducible refine (a0s.calls a0_7 a0_5 36524 true _ A6.out).mono ?_); rintro e w' ⟨rfl, ⟨nd, rfl⟩⟩) | (go_at_call 51; (with_reducible refine (a0s.calls a0_6 1 2 true _ A8.out).mono ?_); rintro e w' ⟨rfl, ⟨nd, rfl⟩⟩) | (go_at_call 54; (with_reducible refine (a1k.calls k _ _ l0_8 false _ ?s1 ?s2 A10.out).mono ?_); (case s1 => repeat (first | exact (Kd.a1g HR0_8.out qb_) | (with_reducible refine Kd.a2b ?_ _) | (with_reducible refine Kd.a2c ?_ _) | (with_reducible refine Kd.a2m ?_))); (case s2 => exact HC0_8.out); rintro e w18 ⟨rfl, hb⟩; replace BK221 := qkb_ BK221 hb; replace HB := qbs_ hb; (try clear hb); (try clear hb2); (try clear hk); (try clear hi)))
      go_meet
      case rel => exact ⟨_, (true), qs_, H', ⟨qo_⟩, ⟨qk_ BK221⟩, ⟨qb_⟩⟩
    ·replace c9 := be_ c9
     subst c9
     have H1 : (a0l.j0 k true a0_0 a0_1 a0_2 a0_3 a0_4 a0_5 a0_6 a0_7 l0_8 l0_9 l0_10 a0_11 l0_12) = some r := by rw [if_neg (show ¬ (false = true) by decide)] at H; exact H
     clear H
     have H := H1
     clear H1
     have H' := am_ H
     clear H
     obtain ⟨z'19_0, z'19_1, z'19_2, z'19_3, z'19_4, z'19_5, z'19_6, z'19_7, z'19_8, z'19_9, z'19_10, z'19_11, z'19_12⟩ := a1u BK221; obtain ⟨y'19_0, y'19_1, y'19_2, y'19_3, y'19_4, y'19_5, y'19_6, y'19_7, y'19_8, y'19_9, y'19_10, y'19_11, y'19_12⟩ := a1v BK221
     go_wp2_with (first | ((with_reducible refine a0e (f := 51) rfl ?_); refine a0w (some 10) rfl rfl Try.func51 (by kernel_rfl) rfl #[.int .i64 a0_5, .int .i64 0, .int .i64 36524] rfl ql_ ?_; (with_reducible refine (a0s.calls a0_5 0 36524 true _ A4.out).mono ?_); rintro e w' ⟨rfl, ⟨nd, rfl⟩⟩; refine ⟨_, rfl, ?_⟩) | (go_at_call 51; (with_reducible refine (a0s.calls a0_7 a0_5 36524 true _ A6.out).mono ?_); rintro e w' ⟨rfl, ⟨nd, rfl⟩⟩) | (go_at_call 51; (with_reducible refine (a0s.calls a0_6 1 2 false _ A8.out).mono ?_); rintro e w' ⟨rfl, ⟨nd, rfl⟩⟩))
     go_meet
     case rel => exact ⟨_, (true), qs_, H', ⟨qo_⟩, ⟨qk_ BK221⟩, ⟨qb_⟩⟩
   ·replace c7 := be_ c7
    subst c7
    have H1 : (a0l.j0 k true a0_0 a0_1 a0_2 a0_3 a0_4 a0_5 a0_6 a0_7 l0_8 l0_9 l0_10 a0_11 l0_12) = some r := by rw [if_neg (show ¬ (false = true) by decide)] at H; exact H
    clear H
    have H := H1
    clear H1
    have H' := am_ H
    clear H
    obtain ⟨z'20_0, z'20_1, z'20_2, z'20_3, z'20_4, z'20_5, z'20_6, z'20_7, z'20_8, z'20_9, z'20_10, z'20_11, z'20_12⟩ := a1u BK221; obtain ⟨y'20_0, y'20_1, y'20_2, y'20_3, y'20_4, y'20_5, y'20_6, y'20_7, y'20_8, y'20_9, y'20_10, y'20_11, y'20_12⟩ := a1v BK221
    go_wp2_with (first | ((with_reducible refine a0e (f := 51) rfl ?_); refine a0w (some 10) rfl rfl Try.func51 (by kernel_rfl) rfl #[.int .i64 a0_5, .int .i64 0, .int .i64 36524] rfl ql_ ?_; (with_reducible refine (a0s.calls a0_5 0 36524 true _ A4.out).mono ?_); rintro e w' ⟨rfl, ⟨nd, rfl⟩⟩; refine ⟨_, rfl, ?_⟩) | (go_at_call 51; (with_reducible refine (a0s.calls a0_7 a0_5 36524 false _ A6.out).mono ?_); rintro e w' ⟨rfl, ⟨nd, rfl⟩⟩))
    go_meet
    case rel => exact ⟨_, (true), qs_, H', ⟨qo_⟩, ⟨qk_ BK221⟩, ⟨qb_⟩⟩
  ·replace c5 := be_ c5
   subst c5
   have H1 : (a0l.j0 k true a0_0 a0_1 a0_2 a0_3 a0_4 a0_5 a0_6 a0_7 l0_8 l0_9 l0_10 a0_11 l0_12) = some r := by rw [if_neg (show ¬ (false = true) by decide)] at H; exact H
   clear H
   have H := H1
   clear H1
   have H' := am_ H
   clear H
   obtain ⟨z'21_0, z'21_1, z'21_2, z'21_3, z'21_4, z'21_5, z'21_6, z'21_7, z'21_8, z'21_9, z'21_10, z'21_11, z'21_12⟩ := a1u BK221; obtain ⟨y'21_0, y'21_1, y'21_2, y'21_3, y'21_4, y'21_5, y'21_6, y'21_7, y'21_8, y'21_9, y'21_10, y'21_11, y'21_12⟩ := a1v BK221
   go_wp2_with (first | ((with_reducible refine a0e (f := 51) rfl ?_); refine a0w (some 10) rfl rfl Try.func51 (by kernel_rfl) rfl #[.int .i64 a0_5, .int .i64 0, .int .i64 36524] rfl ql_ ?_; (with_reducible refine (a0s.calls a0_5 0 36524 false _ A4.out).mono ?_); rintro e w' ⟨rfl, ⟨nd, rfl⟩⟩; refine ⟨_, rfl, ?_⟩))
   go_meet
   case rel => exact ⟨_, (true), qs_, H', ⟨qo_⟩, ⟨qk_ BK221⟩, ⟨qb_⟩⟩
 case rest =>
  clear HC2
  try clear c1
  try clear p2
  try clear c3
  try clear c5
  try clear c7
  try clear c9
  try clear c11
  try clear z'13_0 z'13_1 z'13_10 z'13_11 z'13_12 z'13_2 z'13_3 z'13_4 z'13_5 z'13_6 z'13_7 z'13_8 z'13_9
  try clear z'15_0 z'15_1 z'15_10 z'15_11 z'15_12 z'15_2 z'15_3 z'15_4 z'15_5 z'15_6 z'15_7 z'15_8 z'15_9
  try clear z'17_0 z'17_1 z'17_10 z'17_11 z'17_12 z'17_2 z'17_3 z'17_4 z'17_5 z'17_6 z'17_7 z'17_8 z'17_9
  try clear z'19_0 z'19_1 z'19_10 z'19_11 z'19_12 z'19_2 z'19_3 z'19_4 z'19_5 z'19_6 z'19_7 z'19_8 z'19_9
  try clear z'20_0 z'20_1 z'20_10 z'20_11 z'20_12 z'20_2 z'20_3 z'20_4 z'20_5 z'20_6 z'20_7 z'20_8 z'20_9
  try clear z'21_0 z'21_1 z'21_10 z'21_11 z'21_12 z'21_2 z'21_3 z'21_4 z'21_5 z'21_6 z'21_7 z'21_8 z'21_9
  try clear y'13_0 y'13_1 y'13_10 y'13_11 y'13_12 y'13_2 y'13_3 y'13_4 y'13_5 y'13_6 y'13_7 y'13_8 y'13_9
  try clear y'15_0 y'15_1 y'15_10 y'15_11 y'15_12 y'15_2 y'15_3 y'15_4 y'15_5 y'15_6 y'15_7 y'15_8 y'15_9
  try clear y'17_0 y'17_1 y'17_10 y'17_11 y'17_12 y'17_2 y'17_3 y'17_4 y'17_5 y'17_6 y'17_7 y'17_8 y'17_9
  try clear y'19_0 y'19_1 y'19_10 y'19_11 y'19_12 y'19_2 y'19_3 y'19_4 y'19_5 y'19_6 y'19_7 y'19_8 y'19_9
  try clear y'20_0 y'20_1 y'20_10 y'20_11 y'20_12 y'20_2 y'20_3 y'20_4 y'20_5 y'20_6 y'20_7 y'20_8 y'20_9
  try clear y'21_0 y'21_1 y'21_10 y'21_11 y'21_12 y'21_2 y'21_3 y'21_4 y'21_5 y'21_6 y'21_7 y'21_8 y'21_9
  obtain ⟨kq, x40_1, rfl, HA, HJ1, BK221, HB⟩ := hcut
  cases kq with
  | zero => exact absurd HA.out (by simp [a0l.j0])
  | succ kj1 =>
   have H := HA.out
   clear HA
   simp only [a0l.j0] at H
   by_cases c22 : x40_1 = true
   ·subst c22
    have H1 : (some false) = some r := by rw [if_pos rfl] at H; exact H
    clear H
    have H := H1
    clear H1
    obtain rfl := si_ H
    go_wp2
    go_ret
    exact ⟨qx_, qb_⟩
   ·replace c22 := be_ c22
    subst c22
    have H1 : (a0l.l0 kj1 l0_10 (l0_10.length : Int) 0 a0_0 a0_1 a0_2 a0_3 a0_4 a0_5 a0_6 a0_7 l0_8 l0_9 l0_10 a0_11 l0_12) = some r := by rw [if_neg (show ¬ (false = true) by decide)] at H; exact H
    clear H
    have H := H1
    clear H1
    have H' := am_ H
    clear H
    obtain ⟨z'23_0, z'23_1, z'23_2, z'23_3, z'23_4, z'23_5, z'23_6, z'23_7, z'23_8, z'23_9, z'23_10, z'23_11, z'23_12⟩ := a1u BK221; obtain ⟨y'23_0, y'23_1, y'23_2, y'23_3, y'23_4, y'23_5, y'23_6, y'23_7, y'23_8, y'23_9, y'23_10, y'23_11, y'23_12⟩ := a1v BK221
    go_wp2
    go_loopg [45] kj1 (fun kq v45 w' => ∃ (x45_2 : Int), v45 = .int .i64 x45_2 ∧ Aside0 (a0l.l0 kq l0_10 (l0_10.length : Int) x45_2 a0_0 a0_1 a0_2 a0_3 a0_4 a0_5 a0_6 a0_7 l0_8 l0_9 l0_10 a0_11 l0_12 = some r) ∧ Aside0 (kq ≤ kj1) ∧ Aside0 (w'.heap[gb221]? = some (.cells #[.int .i64 a0_0, .int .i64 a0_1, .int .i64 a0_2, .int .i64 a0_3, .bool a0_4, .int .i64 a0_5, .int .i64 a0_6, .int .i64 a0_7, (.slice A0_8 l0_8.length c0_8), (.slice A0_9 l0_9.length c0_9), (.slice A0_10 l0_10.length c0_10), .string a0_11, (.slice A0_12 l0_12.length c0_12)] 62 (0, 0))) ∧ Aside0 (Below w.heap.size w w'))
    case atStart => exact ⟨(0), qs_, H', ⟨Nat.le_refl _⟩, ⟨qk_ BK221⟩, ⟨qb_⟩⟩
    case round =>
     clear H'
     try clear c1
     try clear c2
     try clear p2
     try clear c3
     try clear c5
     try clear c7
     try clear c9
     try clear c11
     try clear c22
     try clear z'13_0 z'13_1 z'13_10 z'13_11 z'13_12 z'13_2 z'13_3 z'13_4 z'13_5 z'13_6 z'13_7 z'13_8 z'13_9
     try clear z'15_0 z'15_1 z'15_10 z'15_11 z'15_12 z'15_2 z'15_3 z'15_4 z'15_5 z'15_6 z'15_7 z'15_8 z'15_9
     try clear z'17_0 z'17_1 z'17_10 z'17_11 z'17_12 z'17_2 z'17_3 z'17_4 z'17_5 z'17_6 z'17_7 z'17_8 z'17_9
     try clear z'19_0 z'19_1 z'19_10 z'19_11 z'19_12 z'19_2 z'19_3 z'19_4 z'19_5 z'19_6 z'19_7 z'19_8 z'19_9
     try clear z'20_0 z'20_1 z'20_10 z'20_11 z'20_12 z'20_2 z'20_3 z'20_4 z'20_5 z'20_6 z'20_7 z'20_8 z'20_9
     try clear z'21_0 z'21_1 z'21_10 z'21_11 z'21_12 z'21_2 z'21_3 z'21_4 z'21_5 z'21_6 z'21_7 z'21_8 z'21_9
     try clear z'23_0 z'23_1 z'23_10 z'23_11 z'23_12 z'23_2 z'23_3 z'23_4 z'23_5 z'23_6 z'23_7 z'23_8 z'23_9
     try clear y'13_0 y'13_1 y'13_10 y'13_11 y'13_12 y'13_2 y'13_3 y'13_4 y'13_5 y'13_6 y'13_7 y'13_8 y'13_9
     try clear y'15_0 y'15_1 y'15_10 y'15_11 y'15_12 y'15_2 y'15_3 y'15_4 y'15_5 y'15_6 y'15_7 y'15_8 y'15_9
     try clear y'17_0 y'17_1 y'17_10 y'17_11 y'17_12 y'17_2 y'17_3 y'17_4 y'17_5 y'17_6 y'17_7 y'17_8 y'17_9
     try clear y'19_0 y'19_1 y'19_10 y'19_11 y'19_12 y'19_2 y'19_3 y'19_4 y'19_5 y'19_6 y'19_7 y'19_8 y'19_9
     try clear y'20_0 y'20_1 y'20_10 y'20_11 y'20_12 y'20_2 y'20_3 y'20_4 y'20_5 y'20_6 y'20_7 y'20_8 y'20_9
     try clear y'21_0 y'21_1 y'21_10 y'21_11 y'21_12 y'21_2 y'21_3 y'21_4 y'21_5 y'21_6 y'21_7 y'21_8 y'21_9
     try clear y'23_0 y'23_1 y'23_10 y'23_11 y'23_12 y'23_2 y'23_3 y'23_4 y'23_5 y'23_6 y'23_7 y'23_8 y'23_9
     try clear p2
     obtain ⟨x45_2, rfl, HA, HK2, BK221, HB⟩ := hrel
     cases gk with
     | zero => exact absurd HA.out (by simp [a0l.l0])
     | succ k2 =>
      have H := HA.out
      clear HA
      simp only [a0l.l0] at H
      by_cases c24 : x45_2 < (l0_10.length : Int)
      ·rw [if_pos c24] at H
       have c24b0 : decide (x45_2 < (l0_10.length : Int)) = true := decide_eq_true c24
       clear c24
       by_cases c25 : 0 ≤ x45_2
       ·rw [if_pos c25] at H
        have c25b0 : decide (0 ≤ x45_2) = true := decide_eq_true c25
        clear c25
        by_cases c26 : x45_2 < (l0_10.length : Int)
        ·rw [if_pos c26] at H
         have c26b0 : decide (x45_2 < (l0_10.length : Int)) = true := decide_eq_true c26
         clear c26
         replace H := bm_ H
         obtain ⟨⟨t228, t229⟩, A270, H⟩ := H
         replace H : (if t229 = true then (if x45_2 > 0 then (if 0 ≤ (wrap64 (x45_2 - 1)) then (if (wrap64 (x45_2 - 1)) < (l0_10.length : Int) then (a0l.j2 k2 l0_10 (l0_10.length : Int) x45_2 (decide ((rd l0_10 x45_2) ≤ (rd l0_10 (wrap64 (x45_2 - 1))))) a0_0 a0_1 a0_2 a0_3 a0_4 a0_5 a0_6 a0_7 l0_8 l0_9 l0_10 a0_11 l0_12) else (none)) else (none)) else (a0l.j2 k2 l0_10 (l0_10.length : Int) x45_2 false a0_0 a0_1 a0_2 a0_3 a0_4 a0_5 a0_6 a0_7 l0_8 l0_9 l0_10 a0_11 l0_12)) else (a0l.j2 k2 l0_10 (l0_10.length : Int) x45_2 true a0_0 a0_1 a0_2 a0_3 a0_4 a0_5 a0_6 a0_7 l0_8 l0_9 l0_10 a0_11 l0_12)) = some r := H
         have A27 := am_ A270
         clear A270
         have HC28 := am_ H
         clear H
         have p227 : 0 ≤ (x45_2 : Int) := ot_
         have q227 : x45_2 < (l0_10.length : Int) := ot_
         obtain ⟨ad227, e227, hx227_0⟩ := Kd.a2o HR0_10.out x45_2 p227 q227
         cases e227
         replace hx227_0 := qh_ HB hx227_0
         replace p227 := eq_true p227
         replace q227 := eq_true q227
         obtain ⟨z'29_0, z'29_1, z'29_2, z'29_3, z'29_4, z'29_5, z'29_6, z'29_7, z'29_8, z'29_9, z'29_10, z'29_11, z'29_12⟩ := a1u BK221; obtain ⟨y'29_0, y'29_1, y'29_2, y'29_3, y'29_4, y'29_5, y'29_6, y'29_7, y'29_8, y'29_9, y'29_10, y'29_11, y'29_12⟩ := a1v BK221
         go_upto_region 7 with (first | ((with_reducible refine a0e (f := 56) rfl ?_); refine a0w (some 53) rfl rfl Try.func56 (by kernel_rfl) rfl #[.agg #[.int .i64 a0_0, .int .i64 a0_1, .int .i64 a0_2, .int .i64 a0_3, .bool a0_4, .int .i64 a0_5, .int .i64 a0_6, .int .i64 a0_7, .slice A0_8 l0_8.length c0_8, .slice A0_9 l0_9.length c0_9, .slice (some ad227) l0_10.length c0_10, .string a0_11, .slice A0_12 l0_12.length c0_12], .int .i64 (rd l0_10 x45_2)] rfl ql_ ?_; (with_reducible refine (a3c.calls k2 a0_0 a0_1 a0_2 a0_3 a0_4 a0_5 a0_6 a0_7 _ _ l0_8 _ _ l0_9 _ _ l0_10 a0_11 _ _ l0_12 (rd l0_10 x45_2) t228 t229 _ ?s1 ?s2 ?s3 ?s4 ?s5 ?s6 ?s7 ?s8 A27.out).mono ?_); (case s1 => exact qc_ HR0_8); (case s2 => exact HC0_8.out); (case s3 => exact qc_ HR0_9); (case s4 => exact HC0_9.out); (case s5 => exact qc_ HR0_10); (case s6 => exact HC0_10.out); (case s7 => exact qc_ HR0_12); (case s8 => exact HC0_12.out); rintro e w30 ⟨rfl, hb⟩; refine ⟨_, rfl, ?_⟩; replace BK221 := qkb_ BK221 hb; replace HB := qbs_ hb; (try clear hb); (try clear hb2); (try clear hk); (try clear hi)))
         (try simp only [Act.put, List.setIfInBounds_toArray, List.set_cons_zero, List.set_cons_succ])
         go_cut [72] (fun v72 wc => ∃ (kq : Nat) (x72_27 : Bool), v72 = .bool x72_27 ∧ Aside0 (a0l.j2 kq l0_10 (l0_10.length : Int) x45_2 x72_27 a0_0 a0_1 a0_2 a0_3 a0_4 a0_5 a0_6 a0_7 l0_8 l0_9 l0_10 a0_11 l0_12 = some r) ∧ Aside0 (kq ≤ k2) ∧ Aside0 (wc.heap[gb221]? = some (.cells #[.int .i64 a0_0, .int .i64 a0_1, .int .i64 a0_2, .int .i64 a0_3, .bool a0_4, .int .i64 a0_5, .int .i64 a0_6, .int .i64 a0_7, (.slice A0_8 l0_8.length c0_8), (.slice A0_9 l0_9.length c0_9), (.slice (some ad227) l0_10.length c0_10), .string a0_11, (.slice A0_12 l0_12.length c0_12)] 62 (0, 0))) ∧ Aside0 (Below w.heap.size w wc))
         case first =>
          have H := HC28.out
          clear HC28
          by_cases c31 : t229 = true
          ·subst c31
           have H1 : (if x45_2 > 0 then (if 0 ≤ (wrap64 (x45_2 - 1)) then (if (wrap64 (x45_2 - 1)) < (l0_10.length : Int) then (a0l.j2 k2 l0_10 (l0_10.length : Int) x45_2 (decide ((rd l0_10 x45_2) ≤ (rd l0_10 (wrap64 (x45_2 - 1))))) a0_0 a0_1 a0_2 a0_3 a0_4 a0_5 a0_6 a0_7 l0_8 l0_9 l0_10 a0_11 l0_12) else (none)) else (none)) else (a0l.j2 k2 l0_10 (l0_10.length : Int) x45_2 false a0_0 a0_1 a0_2 a0_3 a0_4 a0_5 a0_6 a0_7 l0_8 l0_9 l0_10 a0_11 l0_12)) = some r := by rw [if_pos rfl] at H; exact H
           clear H
           have H := H1
           clear H1
           by_cases c32 : x45_2 > 0
           ·rw [if_pos c32] at H
            have c32b0 : decide (0 < x45_2) = true := decide_eq_true c32
            clear c32
            (first | rw [c32b0] | (simp only [a3h, a3u]; rw [c32b0]) | skip)
            obtain ⟨ji33, hji33⟩ : ∃ j_ : Int, (wrap64 (x45_2 - 1)) = j_ := ⟨_, rfl⟩
            replace H : (if 0 ≤ (ji33) then (if (ji33) < (l0_10.length : Int) then (a0l.j2 k2 l0_10 (l0_10.length : Int) x45_2 (decide ((rd l0_10 x45_2) ≤ (rd l0_10 (ji33)))) a0_0 a0_1 a0_2 a0_3 a0_4 a0_5 a0_6 a0_7 l0_8 l0_9 l0_10 a0_11 l0_12) else (none)) else (none)) = some r := by first | (rw [hji33] at H; exact H) | (simp only [hji33] at H ⊢; exact H)
            have hji33w : (IntKind.i64.wrap (x45_2 - 1)) = ji33 := (a3h _).trans hji33
            by_cases c34 : 0 ≤ (ji33)
            ·rw [if_pos c34] at H
             have c34b0 : decide (0 ≤ (ji33)) = true := decide_eq_true c34
             clear c34
             by_cases c35 : (ji33) < (l0_10.length : Int)
             ·rw [if_pos c35] at H
              have c35b0 : decide ((ji33) < (l0_10.length : Int)) = true := decide_eq_true c35
              clear c35
              have H' := am_ H
              clear H
              obtain ⟨z'36_0, z'36_1, z'36_2, z'36_3, z'36_4, z'36_5, z'36_6, z'36_7, z'36_8, z'36_9, z'36_10, z'36_11, z'36_12⟩ := a1u BK221; obtain ⟨y'36_0, y'36_1, y'36_2, y'36_3, y'36_4, y'36_5, y'36_6, y'36_7, y'36_8, y'36_9, y'36_10, y'36_11, y'36_12⟩ := a1v BK221
              have p230 : 0 ≤ ((ji33) : Int) := ot_
              have q230 : (ji33) < (l0_10.length : Int) := ot_
              obtain ⟨ad230, e230, hx230_0⟩ := Kd.a2o HR0_10.out (ji33) p230 q230
              obtain rfl : ad227 = ad230 := (by injection e230)
              replace hx230_0 := qh_ HB hx230_0
              replace p230 := eq_true p230
              replace q230 := eq_true q230
              go_wp2
              try subst hji33
              go_meet
              case rel => exact ⟨_, (decide ((rd l0_10 x45_2) ≤ (rd l0_10 ((wrap64 (x45_2 - 1)))))), (by first | rfl | (simp; done) | (simp only [← hji33] <;> (first | rfl | simp)) | (simp [*]; done)), H', ⟨by have := HJ1.out; have := HK2.out; first | omega | exact Nat.le_refl _⟩, ⟨qk_ BK221⟩, ⟨qb_⟩⟩
             ·rw [if_neg c35] at H
              exact absurd H (by simp)
            ·rw [if_neg c34] at H
             exact absurd H (by simp)
           ·rw [if_neg c32] at H
            have c32b0 : decide (0 < x45_2) = false := decide_eq_false c32
            clear c32
            (first | rw [c32b0] | (simp only [a3h, a3u]; rw [c32b0]) | skip)
            have H' := am_ H
            clear H
            go_wp2
            go_meet
            case rel => exact ⟨_, (false), qs_, H', ⟨by have := HJ1.out; have := HK2.out; first | omega | exact Nat.le_refl _⟩, ⟨qk_ BK221⟩, ⟨qb_⟩⟩
          ·replace c31 := be_ c31
           subst c31
           have H1 : (a0l.j2 k2 l0_10 (l0_10.length : Int) x45_2 true a0_0 a0_1 a0_2 a0_3 a0_4 a0_5 a0_6 a0_7 l0_8 l0_9 l0_10 a0_11 l0_12) = some r := by rw [if_neg (show ¬ (false = true) by decide)] at H; exact H
           clear H
           have H := H1
           clear H1
           have H' := am_ H
           clear H
           go_wp2
           go_meet
           case rel => exact ⟨_, (true), qs_, H', ⟨by have := HJ1.out; have := HK2.out; first | omega | exact Nat.le_refl _⟩, ⟨qk_ BK221⟩, ⟨qb_⟩⟩
         case rest =>
          clear HC28
          try clear c1
          try clear c2
          try clear p2
          try clear q2
          try clear hx2
          try clear c3
          try clear c5
          try clear p6
          try clear c7
          try clear c9
          try clear c11
          try clear c22
          try clear p22
          try clear q22
          try clear hx22
          try clear p23
          try clear q23
          try clear hx23
          try clear c24
          try clear c24b0
          try clear c25
          try clear c25b0
          try clear c26
          try clear c26b0
          try clear c31
          try clear c32
          try clear c32b0
          try clear c34
          try clear c34b0
          try clear c35
          try clear c35b0
          try clear z'13_0 z'13_1 z'13_10 z'13_11 z'13_12 z'13_2 z'13_3 z'13_4 z'13_5 z'13_6 z'13_7 z'13_8 z'13_9
          try clear z'15_0 z'15_1 z'15_10 z'15_11 z'15_12 z'15_2 z'15_3 z'15_4 z'15_5 z'15_6 z'15_7 z'15_8 z'15_9
          try clear z'17_0 z'17_1 z'17_10 z'17_11 z'17_12 z'17_2 z'17_3 z'17_4 z'17_5 z'17_6 z'17_7 z'17_8 z'17_9
          try clear z'19_0 z'19_1 z'19_10 z'19_11 z'19_12 z'19_2 z'19_3 z'19_4 z'19_5 z'19_6 z'19_7 z'19_8 z'19_9
          try clear z'20_0 z'20_1 z'20_10 z'20_11 z'20_12 z'20_2 z'20_3 z'20_4 z'20_5 z'20_6 z'20_7 z'20_8 z'20_9
          try clear z'21_0 z'21_1 z'21_10 z'21_11 z'21_12 z'21_2 z'21_3 z'21_4 z'21_5 z'21_6 z'21_7 z'21_8 z'21_9
          try clear z'23_0 z'23_1 z'23_10 z'23_11 z'23_12 z'23_2 z'23_3 z'23_4 z'23_5 z'23_6 z'23_7 z'23_8 z'23_9
          try clear z'29_0 z'29_1 z'29_10 z'29_11 z'29_12 z'29_2 z'29_3 z'29_4 z'29_5 z'29_6 z'29_7 z'29_8 z'29_9
          try clear z'36_0 z'36_1 z'36_10 z'36_11 z'36_12 z'36_2 z'36_3 z'36_4 z'36_5 z'36_6 z'36_7 z'36_8 z'36_9
          try clear y'13_0 y'13_1 y'13_10 y'13_11 y'13_12 y'13_2 y'13_3 y'13_4 y'13_5 y'13_6 y'13_7 y'13_8 y'13_9
          try clear y'15_0 y'15_1 y'15_10 y'15_11 y'15_12 y'15_2 y'15_3 y'15_4 y'15_5 y'15_6 y'15_7 y'15_8 y'15_9
          try clear y'17_0 y'17_1 y'17_10 y'17_11 y'17_12 y'17_2 y'17_3 y'17_4 y'17_5 y'17_6 y'17_7 y'17_8 y'17_9
          try clear y'19_0 y'19_1 y'19_10 y'19_11 y'19_12 y'19_2 y'19_3 y'19_4 y'19_5 y'19_6 y'19_7 y'19_8 y'19_9
          try clear y'20_0 y'20_1 y'20_10 y'20_11 y'20_12 y'20_2 y'20_3 y'20_4 y'20_5 y'20_6 y'20_7 y'20_8 y'20_9
          try clear y'21_0 y'21_1 y'21_10 y'21_11 y'21_12 y'21_2 y'21_3 y'21_4 y'21_5 y'21_6 y'21_7 y'21_8 y'21_9
          try clear y'23_0 y'23_1 y'23_10 y'23_11 y'23_12 y'23_2 y'23_3 y'23_4 y'23_5 y'23_6 y'23_7 y'23_8 y'23_9
          try clear y'29_0 y'29_1 y'29_10 y'29_11 y'29_12 y'29_2 y'29_3 y'29_4 y'29_5 y'29_6 y'29_7 y'29_8 y'29_9
          try clear y'36_0 y'36_1 y'36_10 y'36_11 y'36_12 y'36_2 y'36_3 y'36_4 y'36_5 y'36_6 y'36_7 y'36_8 y'36_9
          try clear hx227_0
          try clear hx230_0
          try clear p2
          try clear p227
          try clear p230
          try clear q227
          try clear q230
          obtain ⟨kq, x72_27, rfl, HA, HJ27, BK221, HB⟩ := hcut
          cases kq with
          | zero => exact absurd HA.out (by simp [a0l.j2])
          | succ kj27 =>
           have H := HA.out
           clear HA
           simp only [a0l.j2] at H
           by_cases c37 : x72_27 = true
           ·subst c37
            have H1 : (some false) = some r := by rw [if_pos rfl] at H; exact H
            clear H
            have H := H1
            clear H1
            obtain rfl := si_ H
            go_wp2
            go_ret
            exact ⟨qx_, qb_⟩
           ·replace c37 := be_ c37
            subst c37
            have H1 : (a0l.l0 kj27 l0_10 (l0_10.length : Int) (wrap64 (x45_2 + 1)) a0_0 a0_1 a0_2 a0_3 a0_4 a0_5 a0_6 a0_7 l0_8 l0_9 l0_10 a0_11 l0_12) = some r := by rw [if_neg (show ¬ (false = true) by decide)] at H; exact H
            clear H
            have H := H1
            clear H1
            have H' := am_ H
            clear H
            go_wp2
            go_roundg kj27
            case measure => have := HJ1.out; have := HK2.out; have := HJ27.out; omega
            case rel => exact ⟨(wrap64 (x45_2 + 1)), qs_, H', ⟨by have := HJ1.out; have := HK2.out; have := HJ27.out; omega⟩, ⟨qk_ BK221⟩, ⟨qb_⟩⟩
        ·rw [if_neg c26] at H
         exact absurd H (by simp)
       ·rw [if_neg c25] at H
        exact absurd H (by simp)
      ·rw [if_neg c24] at H
       have c24b0 : decide (x45_2 < (l0_10.length : Int)) = false := decide_eq_false c24
       clear c24
       obtain rfl := si_ H
       go_wp2
       go_ret
       exact ⟨qx_, qb_⟩
end Go.Proofs.Ytemnlgefngjliaa.Px
