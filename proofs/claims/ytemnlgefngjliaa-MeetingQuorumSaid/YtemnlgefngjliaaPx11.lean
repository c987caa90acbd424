/- Contracts of Go functions, printed. Conditions: as each theorem states. -/
import Derived.Test.YtemnlgefngjliaaPx0
import Derived.Test.YtemnlgefngjliaaPx4
import Derived.Test.YtemnlgefngjliaaPx8
namespace Go.Proofs.Ytemnlgefngjliaa.Px
open Go.Proofs.Ytemnlgefngjliaa.Given
open Go.RowKit Go.Proofs.YtemnlgefngjliaaW.PrintWords Go.Proofs.YtemnlgefngjliaaW.PrintLast Go.Proofs.YtemnlgefngjliaaW.PrintMore
attribute [local go_sem] a2f a2g a2r a2s a1x a1y a2h a2i
set_option linter.unusedVariables false
set_option linter.unusedSimpArgs false
mutual
def a0c.l0 : Nat → List (S43) → Int → Int → Int → Int → Int → Int → Bool → Int → Int → Int → List ByteArray → List (S43) → List Int → ByteArray → List Int → Option (Bool)
 | 0, _, _, _, _, _, _, _, _, _, _, _, _, _, _, _, _ => none
 | k + 1, x11, x12, x13, u0, u1, u2, u3, u4, u5, u6, u7, u8, u9, u10, u11, u12 => if x13 < x12 then (if 0 ≤ x13 then (if x13 < (x11.length : Int) then ((a0s.f ((a0a x11 x13).f0) 1 64).bind fun t213 => (if t213 = true then (if x13 > 0 then (if 0 ≤ (wrap64 (x13 - 1)) then (if (wrap64 (x13 - 1)) < (u9.length : Int) then (if ((a0a x11 x13).f0) ≤ ((a0a u9 (wrap64 (x13 - 1))).f0) then (a0c.j1 k x11 x12 x13 true u0 u1 u2 u3 u4 u5 u6 u7 u8 u9 u10 u11 u12) else ((a0s.f ((a0a x11 x13).f1) 0 1000).bind fun t215 => (a0c.j1 k x11 x12 x13 (!t215) u0 u1 u2 u3 u4 u5 u6 u7 u8 u9 u10 u11 u12))) else (none)) else (none)) else ((a0s.f ((a0a x11 x13).f1) 0 1000).bind fun t216 => (a0c.j1 k x11 x12 x13 (!t216) u0 u1 u2 u3 u4 u5 u6 u7 u8 u9 u10 u11 u12))) else (a0c.j1 k x11 x12 x13 true u0 u1 u2 u3 u4 u5 u6 u7 u8 u9 u10 u11 u12))) else (none)) else (none)) else (a0c.l1 k u9 (u9.length : Int) 0 u0 u1 u2 u3 u4 u5 u6 u7 u8 u9 u10 u11 u12)
def a0c.j1 : Nat → List (S43) → Int → Int → Bool → Int → Int → Int → Int → Bool → Int → Int → Int → List ByteArray → List (S43) → List Int → ByteArray → List Int → Option (Bool)
 | 0, _, _, _, _, _, _, _, _, _, _, _, _, _, _, _, _, _ => none
 | k + 1, x11, x12, x13, x44, u0, u1, u2, u3, u4, u5, u6, u7, u8, u9, u10, u11, u12 => if x44 = true then (some false) else (a0c.l0 k x11 x12 (wrap64 (x13 + 1)) u0 u1 u2 u3 u4 u5 u6 u7 u8 u9 u10 u11 u12)
def a0c.l1 : Nat → List (S43) → Int → Int → Int → Int → Int → Int → Bool → Int → Int → Int → List ByteArray → List (S43) → List Int → ByteArray → List Int → Option (Bool)
 | 0, _, _, _, _, _, _, _, _, _, _, _, _, _, _, _, _ => none
 | k + 1, x48, x49, x50, u0, u1, u2, u3, u4, u5, u6, u7, u8, u9, u10, u11, u12 => if x50 < x49 then (if 0 ≤ x50 then (if x50 < (x48.length : Int) then ((a3c.f k u0 u1 u2 u3 u4 u5 u6 u7 u8 u9 u10 u11 u12 ((a0a x48 x50).f2)).bind fun bt219 => (if ((a0a x48 x50).f2) = 0 then (a0c.j3 k x48 x49 x50 false u0 u1 u2 u3 u4 u5 u6 u7 u8 u9 u10 u11 u12) else (if bt219.2 = true then (a0c.j3 k x48 x49 x50 (((a0a x48 x50).f2) == ((a0a x48 x50).f0)) u0 u1 u2 u3 u4 u5 u6 u7 u8 u9 u10 u11 u12) else (a0c.j3 k x48 x49 x50 true u0 u1 u2 u3 u4 u5 u6 u7 u8 u9 u10 u11 u12)))) else (none)) else (none)) else (some (decide ((u9.length : Int) ≤ 64)))
def a0c.j3 : Nat → List (S43) → Int → Int → Bool → Int → Int → Int → Int → Bool → Int → Int → Int → List ByteArray → List (S43) → List Int → ByteArray → List Int → Option (Bool)
 | 0, _, _, _, _, _, _, _, _, _, _, _, _, _, _, _, _, _ => none
 | k + 1, x48, x49, x50, x74, u0, u1, u2, u3, u4, u5, u6, u7, u8, u9, u10, u11, u12 => if x74 = true then (some false) else (a0c.l1 k x48 x49 (wrap64 (x50 + 1)) u0 u1 u2 u3 u4 u5 u6 u7 u8 u9 u10 u11 u12)
end
def a0c.f (k : Nat) (a0_0 a0_1 a0_2 a0_3 : Int) (a0_4 : Bool) (a0_5 a0_6 a0_7 : Int) (l0_8 : List ByteArray) (l0_9 : List (S43)) (l0_10 : List Int) (a0_11 : ByteArray) (l0_12 : List Int) : Option (Bool) := a0c.l0 k l0_9 (l0_9.length : Int) 0 a0_0 a0_1 a0_2 a0_3 a0_4 a0_5 a0_6 a0_7 l0_8 l0_9 l0_10 a0_11 l0_12
theorem a0c.a0t : ∀ k, (∀ y0 y1 y2 y3 y4 y5 y6 y7 y8 y9 y10 y11 y12 y13 y14 y15, LeO (a0c.l0 k y0 y1 y2 y3 y4 y5 y6 y7 y8 y9 y10 y11 y12 y13 y14 y15) (a0c.l0 (k + 1) y0 y1 y2 y3 y4 y5 y6 y7 y8 y9 y10 y11 y12 y13 y14 y15)) ∧ (∀ y0 y1 y2 y3 y4 y5 y6 y7 y8 y9 y10 y11 y12 y13 y14 y15 y16, LeO (a0c.j1 k y0 y1 y2 y3 y4 y5 y6 y7 y8 y9 y10 y11 y12 y13 y14 y15 y16) (a0c.j1 (k + 1) y0 y1 y2 y3 y4 y5 y6 y7 y8 y9 y10 y11 y12 y13 y14 y15 y16)) ∧ (∀ y0 y1 y2 y3 y4 y5 y6 y7 y8 y9 y10 y11 y12 y13 y14 y15, LeO (a0c.l1 k y0 y1 y2 y3 y4 y5 y6 y7 y8 y9 y10 y11 y12 y13 y14 y15) (a0c.l1 (k + 1) y0 y1 y2 y3 y4 y5 y6 y7 y8 y9 y10 y11 y12 y13 y14 y15)) ∧ (∀ y0 y1 y2 y3 y4 y5 y6 y7 y8 y9 y10 y11 y12 y13 y14 y15 y16, LeO (a0c.j3 k y0 y1 y2 y3 y4 y5 y6 y7 y8 y9 y10 y11 y12 y13 y14 y15 y16) (a0c.j3 (k + 1) y0 y1 y2 y3 y4 y5 y6 y7 y8 y9 y10 y11 y12 y13 y14 y15 y16))
 | 0 => ⟨fun _ _ _ _ _ _ _ _ _ _ _ _ _ _ _ _ r h => by simp [a0c.l0] at h, fun _ _ _ _ _ _ _ _ _ _ _ _ _ _ _ _ _ r h => by simp [a0c.j1] at h, fun _ _ _ _ _ _ _ _ _ _ _ _ _ _ _ _ r h => by simp [a0c.l1] at h, fun _ _ _ _ _ _ _ _ _ _ _ _ _ _ _ _ _ r h => by simp [a0c.j3] at h⟩
 | k + 1 => by
  obtain ⟨ih0, ih1, ih2, ih3⟩ := a0c.a0t k
  refine ⟨?_, ?_, ?_, ?_⟩
  ·intro y0 y1 y2 y3 y4 y5 y6 y7 y8 y9 y10 y11 y12 y13 y14 y15
   unfold a0c.l0
   with_reducible (repeat' first | apply ih0 | apply ih1 | apply ih2 | apply ih3 | apply a3c.mono | apply LeO.refl | apply LeO.none | apply LeO.ite | refine LeO.bind ?_ (fun _ => ?_))
  ·intro y0 y1 y2 y3 y4 y5 y6 y7 y8 y9 y10 y11 y12 y13 y14 y15 y16
   unfold a0c.j1
   with_reducible (repeat' first | apply ih0 | apply ih1 | apply ih2 | apply ih3 | apply a3c.mono | apply LeO.refl | apply LeO.none | apply LeO.ite | refine LeO.bind ?_ (fun _ => ?_))
  ·intro y0 y1 y2 y3 y4 y5 y6 y7 y8 y9 y10 y11 y12 y13 y14 y15
   unfold a0c.l1
   with_reducible (repeat' first | apply ih0 | apply ih1 | apply ih2 | apply ih3 | apply a3c.mono | apply LeO.refl | apply LeO.none | apply LeO.ite | refine LeO.bind ?_ (fun _ => ?_))
  ·intro y0 y1 y2 y3 y4 y5 y6 y7 y8 y9 y10 y11 y12 y13 y14 y15 y16
   unfold a0c.j3
   with_reducible (repeat' first | apply ih0 | apply ih1 | apply ih2 | apply ih3 | apply a3c.mono | apply LeO.refl | apply LeO.none | apply LeO.ite | refine LeO.bind ?_ (fun _ => ?_))
theorem a0c.mono : ∀ a0 a1 a2 a3 a4 a5 a6 a7 a8 a9 a10 a11 a12 k, LeO (a0c.f k a0 a1 a2 a3 a4 a5 a6 a7 a8 a9 a10 a11 a12) (a0c.f (k + 1) a0 a1 a2 a3 a4 a5 a6 a7 a8 a9 a10 a11 a12) := by
 intro a0 a1 a2 a3 a4 a5 a6 a7 a8 a9 a10 a11 a12 k
 obtain ⟨ih0, ih1, ih2, ih3⟩ := a0c.a0t k
 unfold a0c.f
 with_reducible (repeat' first | apply ih0 | apply ih1 | apply ih2 | apply ih3 | apply a3c.mono | apply LeO.refl | apply LeO.none | apply LeO.ite | refine LeO.bind ?_ (fun _ => ?_))
set_option maxHeartbeats 8000000 in
set_option maxRecDepth 100000 in
theorem a0c.calls (k : Nat) (a0_0 a0_1 a0_2 a0_3 : Int) (a0_4 : Bool) (a0_5 a0_6 a0_7 : Int) (A0_8 : Option Addr) (c0_8 : Nat) (l0_8 : List ByteArray) (A0_9 : Option Addr) (c0_9 : Nat) (l0_9 : List (S43)) (A0_10 : Option Addr) (c0_10 : Nat) (l0_10 : List Int) (a0_11 : ByteArray) (A0_12 : Option Addr) (c0_12 : Nat) (l0_12 : List Int) (r : Bool) (w : World) (hr0_8 : Kd.C Kd.string w A0_8 l0_8.length l0_8) (hc0_8 : l0_8.length ≤ c0_8) (hr0_9 : Kd.C k43 w A0_9 l0_9.length l0_9) (hc0_9 : l0_9.length ≤ c0_9) (hr0_10 : Kd.C (Kd.int .i64) w A0_10 l0_10.length l0_10) (hc0_10 : l0_10.length ≤ c0_10) (hr0_12 : Kd.C (Kd.int .i64) w A0_12 l0_12.length l0_12) (hc0_12 : l0_12.length ≤ c0_12) (h : a0c.f k a0_0 a0_1 a0_2 a0_3 a0_4 a0_5 a0_6 a0_7 l0_8 l0_9 l0_10 a0_11 l0_12 = some r) :
  Calls Try.prog 55 #[.agg #[.int .i64 a0_0, .int .i64 a0_1, .int .i64 a0_2, .int .i64 a0_3, .bool a0_4, .int .i64 a0_5, .int .i64 a0_6, .int .i64 a0_7, .slice A0_8 l0_8.length c0_8, .slice A0_9 l0_9.length c0_9, .slice A0_10 l0_10.length c0_10, .string a0_11, .slice A0_12 l0_12.length c0_12]] w fun e w' => e = .returned (.bool r) ∧ Below w.heap.size w w' := by
 have hu62 := Try.underlying62
 have hu43 := Try.underlying43
 have HR0_8 := am_ hr0_8
 have HC0_8 := am_ hc0_8
 clear hr0_8 hc0_8
 have HR0_9 := am_ hr0_9
 have HC0_9 := am_ hc0_9
 clear hr0_9 hc0_9
 have HR0_10 := am_ hr0_10
 have HC0_10 := am_ hc0_10
 clear hr0_10 hc0_10
 have HR0_12 := am_ hr0_12
 have HC0_12 := am_ hc0_12
 clear hr0_12 hc0_12
 have HB := am_ (Below.refl w.heap.size w)
 have H : (a0c.l0 k l0_9 (l0_9.length : Int) 0 a0_0 a0_1 a0_2 a0_3 a0_4 a0_5 a0_6 a0_7 l0_8 l0_9 l0_10 a0_11 l0_12) = some r := h
 clear h
 have H' := am_ H
 clear H
 go_enter Try.func55, Try.ntmps55
 go_wp2_with (first | ((with_reducible refine a0f (N := 1) rfl ?_); refine qev_ 1 #[.int .i64 a0_0, .int .i64 a0_1, .int .i64 a0_2, .int .i64 a0_3, .bool a0_4, .int .i64 a0_5, .int .i64 a0_6, .int .i64 a0_7, .slice A0_8 l0_8.length c0_8, .slice A0_9 l0_9.length c0_9, .slice A0_10 l0_10.length c0_10, .string a0_11, .slice A0_12 l0_12.length c0_12] 62 ?_; intro gb210 hg w2 hbox hb; have BK210 := am_ (hbox); have GW210 := qga_ hg; have GE210 := qga_ hg; replace HB := qbs_ hb; clear hb hbox hg; obtain ⟨z'3_0, z'3_1, z'3_2, z'3_3, z'3_4, z'3_5, z'3_6, z'3_7, z'3_8, z'3_9, z'3_10, z'3_11, z'3_12⟩ := a1u BK210; obtain ⟨y'3_0, y'3_1, y'3_2, y'3_3, y'3_4, y'3_5, y'3_6, y'3_7, y'3_8, y'3_9, y'3_10, y'3_11, y'3_12⟩ := a1v BK210))
 repeat (go_quiet (first | ((with_reducible refine a0f (N := 1) rfl ?_); refine qev_ 1 #[.int .i64 a0_0, .int .i64 a0_1, .int .i64 a0_2, .int .i64 a0_3, .bool a0_4, .int .i64 a0_5, .int .i64 a0_6, .int .i64 a0_7, .slice A0_8 l0_8.length c0_8, .slice A0_9 l0_9.length c0_9, .slice A0_10 l0_10.length c0_10, .string a0_11, .slice A0_12 l0_12.length c0_12] 62 ?_; intro gb210 hg w2 hbox hb; have BK210 := am_ (hbox); have GW210 := qga_ hg; have GE210 := qga_ hg; replace HB := qbs_ hb; clear hb hbox hg; obtain ⟨z'3_0, z'3_1, z'3_2, z'3_3, z'3_4, z'3_5, z'3_6, z'3_7, z'3_8, z'3_9, z'3_10, z'3_11, z'3_12⟩ := a1u BK210; obtain ⟨y'3_0, y'3_1, y'3_2, y'3_3, y'3_4, y'3_5, y'3_6, y'3_7, y'3_8, y'3_9, y'3_10, y'3_11, y'3_12⟩ := a1v BK210)); try go_wp2_with (first | ((with_reducible refine a0f (N := 1) rfl ?_); refine qev_ 1 #[.int .i64 a0_0, .int .i64 a0_1, .int .i64 a0_2, .int .i64 a0_3, .bool a0_4, .int .i64 a0_5, .int .i64 a0_6, .int .i64 a0_7, .slice A0_8 l0_8.length c0_8, .slice A0_9 l0_9.length c0_9, .slice A0_10 l0_10.length c0_10, .string a0_11, .slice A0_12 l0_12.length c0_12] 62 ?_; intro gb210 hg w2 hbox hb; have BK210 := am_ (hbox); have GW210 := qga_ hg; have GE210 := qga_ hg; replace HB := qbs_ hb; clear hb hbox hg; obtain ⟨z'3_0, z'3_1, z'3_2, z'3_3, z'3_4, z'3_5, z'3_6, z'3_7, z'3_8, z'3_9, z'3_10, z'3_11, z'3_12⟩ := a1u BK210; obtain ⟨y'3_0, y'3_1, y'3_2, y'3_3, y'3_4, y'3_5, y'3_6, y'3_7, y'3_8, y'3_9, y'3_10, y'3_11, y'3_12⟩ := a1v BK210)))
 go_loopg [13] k (fun kq v13 w' => ∃ (x13_1 : Int), v13 = .int .i64 x13_1 ∧ Aside0 (a0c.l0 kq l0_9 (l0_9.length : Int) x13_1 a0_0 a0_1 a0_2 a0_3 a0_4 a0_5 a0_6 a0_7 l0_8 l0_9 l0_10 a0_11 l0_12 = some r) ∧ Aside0 (kq ≤ k) ∧ Aside0 (w'.heap[gb210]? = some (.cells #[.int .i64 a0_0, .int .i64 a0_1, .int .i64 a0_2, .int .i64 a0_3, .bool a0_4, .int .i64 a0_5, .int .i64 a0_6, .int .i64 a0_7, (.slice A0_8 l0_8.length c0_8), (.slice A0_9 l0_9.length c0_9), (.slice A0_10 l0_10.length c0_10), .string a0_11, (.slice A0_12 l0_12.length c0_12)] 62 (0, 0))) ∧ Aside0 (Below w.heap.size w w'))
 case atStart => exact ⟨(0), qs_, H', ⟨Nat.le_refl _⟩, ⟨qk_ BK210⟩, ⟨qb_⟩⟩
 case round =>
  clear H'
  try clear p2
  try clear z'3_0 z'3_1 z'3_10 z'3_11 z'3_12 z'3_2 z'3_3 z'3_4 z'3_5 z'3_6 z'3_7 z'3_8 z'3_9
  try clear y'3_0 y'3_1 y'3_10 y'3_11 y'3_12 y'3_2 y'3_3 y'3_4 y'3_5 y'3_6 y'3_7 y'3_8 y'3_9
  obtain ⟨x13_1, rfl, HA, HK1, BK210, HB⟩ := hrel
  cases gk with
  | zero => exact absurd HA.out (by simp [a0c.l0])
  | succ k1 =>
   have H := HA.out
   clear HA
   simp only [a0c.l0] at H
   by_cases c4 : x13_1 < (l0_9.length : Int)
   ·rw [if_pos c4] at H
    have c4b0 : decide (x13_1 < (l0_9.length : Int)) = true := decide_eq_true c4
    clear c4
    by_cases c5 : 0 ≤ x13_1
    ·rw [if_pos c5] at H
     have c5b0 : decide (0 ≤ x13_1) = true := decide_eq_true c5
     clear c5
     by_cases c6 : x13_1 < (l0_9.length : Int)
     ·rw [if_pos c6] at H
      have c6b0 : decide (x13_1 < (l0_9.length : Int)) = true := decide_eq_true c6
      clear c6
      have HC7 := am_ H
      clear H
      have p211 : 0 ≤ (x13_1 : Int) := ot_
      have q211 : x13_1 < (l0_9.length : Int) := ot_
      obtain ⟨ad211, e211, hx211_0, hx211_1, hx211_2⟩ := a2p HR0_9.out x13_1 p211 q211
      cases e211
      replace hx211_0 := qh_ HB hx211_0
      replace hx211_1 := qh_ HB hx211_1
      replace hx211_2 := qh_ HB hx211_2
      replace p211 := eq_true p211
      replace q211 := eq_true q211
      go_upto_region 4 with (first | ((with_reducible refine a0f (N := 4) rfl ?_); refine qev_ 4 #[.int .i64 0, .int .i64 0, .int .i64 0] 43 ?_; intro gb212 hg w8 hbox hb; have BK212 := am_ (hbox); have GW212 := qga_ hg; have GE212 := qga_ hg; replace HB := qbs_ hb; have NB210_212 := am_ ((by rw [hg]; exact Nat.ne_of_lt (a0u (qk_ BK210)) : gb210 ≠ gb212)); have NB212_210 := am_ ((by rw [hg]; exact Nat.ne_of_gt (a0u (qk_ BK210)) : gb212 ≠ gb210)); replace BK210 := qkb_ BK210 hb; clear hb hbox hg; have hnb9 := NB212_210.out; have hnc9 := NB210_212.out; obtain ⟨z'10_0, z'10_1, z'10_2⟩ := qz3_ BK212; obtain ⟨y'10_0, y'10_1, y'10_2⟩ := qf3_ BK212))
      repeat (go_quiet (first | ((with_reducible refine a0f (N := 4) rfl ?_); refine qev_ 4 #[.int .i64 0, .int .i64 0, .int .i64 0] 43 ?_; intro gb212 hg w8 hbox hb; have BK212 := am_ (hbox); have GW212 := qga_ hg; have GE212 := qga_ hg; replace HB := qbs_ hb; have NB210_212 := am_ ((by rw [hg]; exact Nat.ne_of_lt (a0u (qk_ BK210)) : gb210 ≠ gb212)); have NB212_210 := am_ ((by rw [hg]; exact Nat.ne_of_gt (a0u (qk_ BK210)) : gb212 ≠ gb210)); replace BK210 := qkb_ BK210 hb; clear hb hbox hg; have hnb9 := NB212_210.out; have hnc9 := NB210_212.out; obtain ⟨z'10_0, z'10_1, z'10_2⟩ := qz3_ BK212; obtain ⟨y'10_0, y'10_1, y'10_2⟩ := qf3_ BK212)); go_upto_region 4 with (first | ((with_reducible refine a0f (N := 4) rfl ?_); refine qev_ 4 #[.int .i64 0, .int .i64 0, .int .i64 0] 43 ?_; intro gb212 hg w8 hbox hb; have BK212 := am_ (hbox); have GW212 := qga_ hg; have GE212 := qga_ hg; replace HB := qbs_ hb; have NB210_212 := am_ ((by rw [hg]; exact Nat.ne_of_lt (a0u (qk_ BK210)) : gb210 ≠ gb212)); have NB212_210 := am_ ((by rw [hg]; exact Nat.ne_of_gt (a0u (qk_ BK210)) : gb212 ≠ gb210)); replace BK210 := qkb_ BK210 hb; clear hb hbox hg; have hnb9 := NB212_210.out; have hnc9 := NB210_212.out; obtain ⟨z'10_0, z'10_1, z'10_2⟩ := qz3_ BK212; obtain ⟨y'10_0, y'10_1, y'10_2⟩ := qf3_ BK212)))
      (try simp only [Act.put, List.setIfInBounds_toArray, List.set_cons_zero, List.set_cons_succ])
      go_cut [44] (fun v44 wc => ∃ (kq : Nat) (x44_6 : Bool), v44 = .bool x44_6 ∧ Aside0 (a0c.j1 kq l0_9 (l0_9.length : Int) x13_1 x44_6 a0_0 a0_1 a0_2 a0_3 a0_4 a0_5 a0_6 a0_7 l0_8 l0_9 l0_10 a0_11 l0_12 = some r) ∧ Aside0 (kq ≤ k1) ∧ Aside0 (wc.heap[gb210]? = some (.cells #[.int .i64 a0_0, .int .i64 a0_1, .int .i64 a0_2, .int .i64 a0_3, .bool a0_4, .int .i64 a0_5, .int .i64 a0_6, .int .i64 a0_7, (.slice A0_8 l0_8.length c0_8), (.slice (some ad211) l0_9.length c0_9), (.slice A0_10 l0_10.length c0_10), .string a0_11, (.slice A0_12 l0_12.length c0_12)] 62 (0, 0))) ∧ Aside0 (wc.heap[gb212]? = some (.cells #[.int .i64 ((a0a l0_9 x13_1).f0), .int .i64 ((a0a l0_9 x13_1).f1), .int .i64 ((a0a l0_9 x13_1).f2)] 43 (0, 0))) ∧ Aside0 (Below w.heap.size w wc))
      case first =>
       have H := HC7.out
       clear HC7
       replace H := bm_ H
       obtain ⟨t213, A110, H⟩ := H
       replace H : (if t213 = true then (if x13_1 > 0 then (if 0 ≤ (wrap64 (x13_1 - 1)) then (if (wrap64 (x13_1 - 1)) < (l0_9.length : Int) then (if ((a0a l0_9 x13_1).f0) ≤ ((a0a l0_9 (wrap64 (x13_1 - 1))).f0) then (a0c.j1 k1 l0_9 (l0_9.length : Int) x13_1 true a0_0 a0_1 a0_2 a0_3 a0_4 a0_5 a0_6 a0_7 l0_8 l0_9 l0_10 a0_11 l0_12) else ((a0s.f ((a0a l0_9 x13_1).f1) 0 1000).bind fun t215 => (a0c.j1 k1 l0_9 (l0_9.length : Int) x13_1 (!t215) a0_0 a0_1 a0_2 a0_3 a0_4 a0_5 a0_6 a0_7 l0_8 l0_9 l0_10 a0_11 l0_12))) else (none)) else (none)) else ((a0s.f ((a0a l0_9 x13_1).f1) 0 1000).bind fun t216 => (a0c.j1 k1 l0_9 (l0_9.length : Int) x13_1 (!t216) a0_0 a0_1 a0_2 a0_3 a0_4 a0_5 a0_6 a0_7 l0_8 l0_9 l0_10 a0_11 l0_12))) else (a0c.j1 k1 l0_9 (l0_9.length : Int) x13_1 true a0_0 a0_1 a0_2 a0_3 a0_4 a0_5 a0_6 a0_7 l0_8 l0_9 l0_10 a0_11 l0_12)) = some r := H
       have A11 := am_ A110
       clear A110
       by_cases c12 : t213 = true
       ·subst c12
        have H1 : (if x13_1 > 0 then (if 0 ≤ (wrap64 (x13_1 - 1)) then (if (wrap64 (x13_1 - 1)) < (l0_9.length : Int) then (if ((a0a l0_9 x13_1).f0) ≤ ((a0a l0_9 (wrap64 (x13_1 - 1))).f0) then (a0c.j1 k1 l0_9 (l0_9.length : Int) x13_1 true a0_0 a0_1 a0_2 a0_3 a0_4 a0_5 a0_6 a0_7 l0_8 l0_9 l0_10 a0_11 l0_12) else ((a0s.f ((a0a l0_9 x13_1).f1) 0 1000).bind fun t215 => (a0c.j1 k1 l0_9 (l0_9.length : Int) x13_1 (!t215) a0_0 a0_1 a0_2 a0_3 a0_4 a0_5 a0_6 a0_7 l0_8 l0_9 l0_10 a0_11 l0_12))) else (none)) else (none)) else ((a0s.f ((a0a l0_9 x13_1).f1) 0 1000).bind fun t216 => (a0c.j1 k1 l0_9 (l0_9.length : Int) x13_1 (!t216) a0_0 a0_1 a0_2 a0_3 a0_4 a0_5 a0_6 a0_7 l0_8 l0_9 l0_10 a0_11 l0_12))) = some r := by rw [if_pos rfl] at H; exact H
        clear H
        have H := H1
        clear H1
        by_cases c13 : x13_1 > 0
        ·rw [if_pos c13] at H
         have c13b0 : decide (0 < x13_1) = true := decide_eq_true c13
         clear c13
         (first | rw [c13b0] | (simp only [a3h, a3u]; rw [c13b0]) | skip)
         obtain ⟨ji14, hji14⟩ : ∃ j_ : Int, (wrap64 (x13_1 - 1)) = j_ := ⟨_, rfl⟩
         replace H : (if 0 ≤ (ji14) then (if (ji14) < (l0_9.length : Int) then (if ((a0a l0_9 x13_1).f0) ≤ ((a0a l0_9 (ji14)).f0) then (a0c.j1 k1 l0_9 (l0_9.length : Int) x13_1 true a0_0 a0_1 a0_2 a0_3 a0_4 a0_5 a0_6 a0_7 l0_8 l0_9 l0_10 a0_11 l0_12) else ((a0s.f ((a0a l0_9 x13_1).f1) 0 1000).bind fun t215 => (a0c.j1 k1 l0_9 (l0_9.length : Int) x13_1 (!t215) a0_0 a0_1 a0_2 a0_3 a0_4 a0_5 a0_6 a0_7 l0_8 l0_9 l0_10 a0_11 l0_12))) else (none)) else (none)) = some r := by first | (rw [hji14] at H; exact H) | (simp only [hji14] at H ⊢; exact H)
         (try rw [hji14] at A11)
         have hji14w : (IntKind.i64.wrap (x13_1 - 1)) = ji14 := (a3h _).trans hji14
         by_cases c15 : 0 ≤ (ji14)
         ·rw [if_pos c15] at H
          have c15b0 : decide (0 ≤ (ji14)) = true := decide_eq_true c15
          clear c15
          by_cases c16 : (ji14) < (l0_9.length : Int)
          ·rw [if_pos c16] at H
           have c16b0 : decide ((ji14) < (l0_9.length : Int)) = true := decide_eq_true c16
           clear c16
           by_cases c17 : ((a0a l0_9 x13_1).f0) ≤ ((a0a l0_9 (ji14)).f0)
           ·rw [if_pos c17] at H
            have c17b0 : decide (((a0a l0_9 x13_1).f0) ≤ ((a0a l0_9 (ji14)).f0)) = true := decide_eq_true c17
            clear c17
            have H' := am_ H
            clear H
            have hnb18 := NB212_210.out
            have hnc18 := NB210_212.out
            obtain ⟨z'19_0, z'19_1, z'19_2⟩ := qz3_ BK212; obtain ⟨y'19_0, y'19_1, y'19_2⟩ := qf3_ BK212
            go_wp2_with (first | (go_at_call 51; (with_reducible refine (a0s.calls ((a0a l0_9 x13_1).f0) 1 64 true _ A11.out).mono ?_); rintro e w' ⟨rfl, ⟨nd, rfl⟩⟩; (try exact qw_); obtain ⟨z'20_0, z'20_1, z'20_2, z'20_3, z'20_4, z'20_5, z'20_6, z'20_7, z'20_8, z'20_9, z'20_10, z'20_11, z'20_12⟩ := a1u BK210; obtain ⟨y'20_0, y'20_1, y'20_2, y'20_3, y'20_4, y'20_5, y'20_6, y'20_7, y'20_8, y'20_9, y'20_10, y'20_11, y'20_12⟩ := a1v BK210; have p214 : 0 ≤ ((ji14) : Int) := ot_; have q214 : (ji14) < (l0_9.length : Int) := ot_; obtain ⟨ad214, e214, hx214_0, hx214_1, hx214_2⟩ := a2p HR0_9.out (ji14) p214 q214; obtain rfl : ad211 = ad214 := (by injection e214); have hn214_0 : ad211.block ≠ gb212 := Nat.ne_of_lt (Nat.lt_of_lt_of_le (by have := World.block_lt_of_cell? _ _ hx214_0; first | rwa [add_block] at this | exact this) GW212.out); have hn214_1 : ad211.block ≠ gb212 := Nat.ne_of_lt (Nat.lt_of_lt_of_le (by have := World.block_lt_of_cell? _ _ hx214_0; first | rwa [add_block] at this | exact this) GW212.out); have hn214_2 : ad211.block ≠ gb212 := Nat.ne_of_lt (Nat.lt_of_lt_of_le (by have := World.block_lt_of_cell? _ _ hx214_0; first | rwa [add_block] at this | exact this) GW212.out); replace hx214_0 := qh_ HB hx214_0; replace hx214_1 := qh_ HB hx214_1; replace hx214_2 := qh_ HB hx214_2; replace hx214_0 := (cell_far (p := ⟨gb212, 0, none⟩) (qn_ hn214_0) (.int .i64 ((a0a l0_9 x13_1).f0))).trans hx214_0; replace hx214_1 := (cell_far (p := ⟨gb212, 0, none⟩) (qn_ hn214_0) (.int .i64 ((a0a l0_9 x13_1).f0))).trans hx214_1; replace hx214_2 := (cell_far (p := ⟨gb212, 0, none⟩) (qn_ hn214_0) (.int .i64 ((a0a l0_9 x13_1).f0))).trans hx214_2; replace hx214_0 := (cell_far (p := ⟨gb212, 1, none⟩) (qn_ hn214_1) (.int .i64 ((a0a l0_9 x13_1).f1))).trans hx214_0; replace hx214_1 := (cell_far (p := ⟨gb212, 1, none⟩) (qn_ hn214_1) (.int .i64 ((a0a l0_9 x13_1).f1))).trans hx214_1; replace hx214_2 := (cell_far (p := ⟨gb212, 1, none⟩) (qn_ hn214_1) (.int .i64 ((a0a l0_9 x13_1).f1))).trans hx214_2; replace hx214_0 := (cell_far (p := ⟨gb212, 2, none⟩) (qn_ hn214_2) (.int .i64 ((a0a l0_9 x13_1).f2))).trans hx214_0; replace hx214_1 := (cell_far (p := ⟨gb212, 2, none⟩) (qn_ hn214_2) (.int .i64 ((a0a l0_9 x13_1).f2))).trans hx214_1; replace hx214_2 := (cell_far (p := ⟨gb212, 2, none⟩) (qn_ hn214_2) (.int .i64 ((a0a l0_9 x13_1).f2))).trans hx214_2; (try have hy214_0 := fun (n_ : Nat) => (show (((((w8.drewN n_).setCell ⟨gb212, 0, none⟩ (.int .i64 ((a0a l0_9 x13_1).f0))).setCell ⟨gb212, 1, none⟩ (.int .i64 ((a0a l0_9 x13_1).f1))).setCell ⟨gb212, 2, none⟩ (.int .i64 ((a0a l0_9 x13_1).f2)))).cell? _ = some _ from hx214_0)); (try have hy214_1 := fun (n_ : Nat) => (show (((((w8.drewN n_).setCell ⟨gb212, 0, none⟩ (.int .i64 ((a0a l0_9 x13_1).f0))).setCell ⟨gb212, 1, none⟩ (.int .i64 ((a0a l0_9 x13_1).f1))).setCell ⟨gb212, 2, none⟩ (.int .i64 ((a0a l0_9 x13_1).f2)))).cell? _ = some _ from hx214_1)); (try have hy214_2 := fun (n_ : Nat) => (show (((((w8.drewN n_).setCell ⟨gb212, 0, none⟩ (.int .i64 ((a0a l0_9 x13_1).f0))).setCell ⟨gb212, 1, none⟩ (.int .i64 ((a0a l0_9 x13_1).f1))).setCell ⟨gb212, 2, none⟩ (.int .i64 ((a0a l0_9 x13_1).f2)))).cell? _ = some _ from hx214_2)); clear hn214_0 hn214_1 hn214_2; replace p214 := eq_true p214; replace q214 := eq_true q214))
            repeat (go_quiet (first | (go_at_call 51; (with_reducible refine (a0s.calls ((a0a l0_9 x13_1).f0) 1 64 true _ A11.out).mono ?_); rintro e w' ⟨rfl, ⟨nd, rfl⟩⟩; (try exact qw_); obtain ⟨z'20_0, z'20_1, z'20_2, z'20_3, z'20_4, z'20_5, z'20_6, z'20_7, z'20_8, z'20_9, z'20_10, z'20_11, z'20_12⟩ := a1u BK210; obtain ⟨y'20_0, y'20_1, y'20_2, y'20_3, y'20_4, y'20_5, y'20_6, y'20_7, y'20_8, y'20_9, y'20_10, y'20_11, y'20_12⟩ := a1v BK210; have p214 : 0 ≤ ((ji14) : Int) := ot_; have q214 : (ji14) < (l0_9.length : Int) := ot_; obtain ⟨ad214, e214, hx214_0, hx214_1, hx214_2⟩ := a2p HR0_9.out (ji14) p214 q214; obtain rfl : ad211 = ad214 := (by injection e214); have hn214_0 : ad211.block ≠ gb212 := Nat.ne_of_lt (Nat.lt_of_lt_of_le (by have := World.block_lt_of_cell? _ _ hx214_0; first | rwa [add_block] at this | exact this) GW212.out); have hn214_1 : ad211.block ≠ gb212 := Nat.ne_of_lt (Nat.lt_of_lt_of_le (by have := World.block_lt_of_cell? _ _ hx214_0; first | rwa [add_block] at this | exact this) GW212.out); have hn214_2 : ad211.block ≠ gb212 := Nat.ne_of_lt (Nat.lt_of_lt_of_le (by have := World.block_lt_of_cell? _ _ hx214_0; first | rwa [add_block] at this | exact this) GW212.out); replace hx214_0 := qh_ HB hx214_0; replace hx214_1 := qh_ HB hx214_1; replace hx214_2 := qh_ HB hx214_2; replace hx214_0 := (cell_far (p := ⟨gb212, 0, none⟩) (qn_ hn214_0) (.int .i64 ((a0a l0_9 x13_1).f0))).trans hx214_0; replace hx214_1 := (cell_far (p := ⟨gb212, 0, none⟩) (qn_ hn214_0) (.int .i64 ((a0a l0_9 x13_1).f0))).trans hx214_1; replace hx214_2 := (cell_far (p := ⟨gb212, 0, none⟩) (qn_ hn214_0) (.int .i64 ((a0a l0_9 x13_1).f0))).trans hx214_2; replace hx214_0 := (cell_far (p := ⟨gb212, 1, none⟩) (qn_ hn214_1) (.int .i64 ((a0a l0_9 x13_1).f1))).trans hx214_0; replace hx214_1 := (cell_far (p := ⟨gb212, 1, none⟩) (qn_ hn214_1) (.int .i64 ((a0a l0_9 x13_1).f1))).trans hx214_1; replace hx214_2 := (cell_far (p := ⟨gb212, 1, none⟩) (qn_ hn214_1) (.int .i64 ((a0a l0_9 x13_1).f1))).trans hx214_2; replace hx214_0 := (cell_far (p := ⟨gb212, 2, none⟩) (qn_ hn214_2) (.int .i64 ((a0a l0_9 x13_1).f2))).trans hx214_0; replace hx214_1 := (cell_far (p := ⟨gb212, 2, none⟩) (qn_ hn214_2) (.int .i64 ((a0a l0_9 x13_1).f2))).trans hx214_1; replace hx214_2 := (cell_far (p := ⟨gb212, 2, none⟩) (qn_ hn214_2) (.int .i64 ((a0a l0_9 x13_1).f2))).trans hx214_2; (try have hy214_0 := fun (n_ : Nat) => (show (((((w8.drewN n_).setCell ⟨gb212, 0, none⟩ (.int .i64 ((a0a l0_9 x13_1).f0))).setCell ⟨gb212, 1, none⟩ (.int .i64 ((a0a l0_9 x13_1).f1))).setCell ⟨gb212, 2, none⟩ (.int .i64 ((a0a l0_9 x13_1).f2)))).cell? _ = some _ from hx214_0)); (try have hy214_1 := fun (n_ : Nat) => (show (((((w8.drewN n_).setCell ⟨gb212, 0, none⟩ (.int .i64 ((a0a l0_9 x13_1).f0))).setCell ⟨gb212, 1, none⟩ (.int .i64 ((a0a l0_9 x13_1).f1))).setCell ⟨gb212, 2, none⟩ (.int .i64 ((a0a l0_9 x13_1).f2)))).cell? _ = some _ from hx214_1)); (try have hy214_2 := fun (n_ : Nat) => (show (((((w8.drewN n_).setCell ⟨gb212, 0, none⟩ (.int .i64 ((a0a l0_9 x13_1).f0))).setCell ⟨gb212, 1, none⟩ (.int .i64 ((a0a l0_9 x13_1).f1))).setCell ⟨gb212, 2, none⟩ (.int .i64 ((a0a l0_9 x13_1).f2)))).cell? _ = some _ from hx214_2)); clear hn214_0 hn214_1 hn214_2; replace p214 := eq_true p214; replace q214 := eq_true q214)); try go_wp2_with (first | (go_at_call 51; (with_reducible refine (a0s.calls ((a0a l0_9 x13_1).f0) 1 64 true _ A11.out).mono ?_); rintro e w' ⟨rfl, ⟨nd, rfl⟩⟩; (try exact qw_); obtain ⟨z'20_0, z'20_1, z'20_2, z'20_3, z'20_4, z'20_5, z'20_6, z'20_7, z'20_8, z'20_9, z'20_10, z'20_11, z'20_12⟩ := a1u BK210; obtain ⟨y'20_0, y'20_1, y'20_2, y'20_3, y'20_4, y'20_5, y'20_6, y'20_7, y'20_8, y'20_9, y'20_10, y'20_11, y'20_12⟩ := a1v BK210; have p214 : 0 ≤ ((ji14) : Int) := ot_; have q214 : (ji14) < (l0_9.length : Int) := ot_; obtain ⟨ad214, e214, hx214_0, hx214_1, hx214_2⟩ := a2p HR0_9.out (ji14) p214 q214; obtain rfl : ad211 = ad214 := (by injection e214); have hn214_0 : ad211.block ≠ gb212 := Nat.ne_of_lt (Nat.lt_of_lt_of_le (by have := World.block_lt_of_cell? _ _ hx214_0; first | rwa [add_block] at this | exact this) GW212.out); have hn214_1 : ad211.block ≠ gb212 := Nat.ne_of_lt (Nat.lt_of_lt_of_le (by have := World.block_lt_of_cell? _ _ hx214_0; first | rwa [add_block] at this | exact this) GW212.out); have hn214_2 : ad211.block ≠ gb212 := Nat.ne_of_lt (Nat.lt_of_lt_of_le (by have := World.block_lt_of_cell? _ _ hx214_0; first | rwa [add_block] at this | exact this) GW212.out); replace hx214_0 := qh_ HB hx214_0; replace hx214_1 := qh_ HB hx214_1; replace hx214_2 := qh_ HB hx214_2; replace hx214_0 := (cell_far (p := ⟨gb212, 0, none⟩) (qn_ hn214_0) (.int .i64 ((a0a l0_9 x13_1).f0))).trans hx214_0; replace hx214_1 := (cell_far (p := ⟨gb212, 0, none⟩) (qn_ hn214_0) (.int .i64 ((a0a l0_9 x13_1).f0))).trans hx214_1; replace hx214_2 := (cell_far (p := ⟨gb212, 0, none⟩) (qn_ hn214_0) (.int .i64 ((a0a l0_9 x13_1).f0))).trans hx214_2; replace hx214_0 := (cell_far (p := ⟨gb212, 1, none⟩) (qn_ hn214_1) (.int .i64 ((a0a l0_9 x13_1).f1))).trans hx214_0; replace hx214_1 := (cell_far (p := ⟨gb212, 1, none⟩) (qn_ hn214_1) (.int .i64 ((a0a l0_9 x13_1).f1))).trans hx214_1; replace hx214_2 := (cell_far (p := ⟨gb212, 1, none⟩) (qn_ hn214_1) (.int .i64 ((a0a l0_9 x13_1).f1))).trans hx214_2; replace hx214_0 := (cell_far (p := ⟨gb212, 2, none⟩) (qn_ hn214_2) (.int .i64 ((a0a l0_9 x13_1).f2))).trans hx214_0; replace hx214_1 := (cell_far (p := ⟨gb212, 2, none⟩) (qn_ hn214_2) (.int .i64 ((a0a l0_9 x13_1).f2))).trans hx214_1; replace hx214_2 := (cell_far (p := ⟨gb212, 2, none⟩) (qn_ hn214_2) (.int .i64 ((a0a l0_9 x13_1).f2))).trans hx214_2; (try have hy214_0 := fun (n_ : Nat) => (show (((((w8.drewN n_).setCell ⟨gb212, 0, none⟩ (.int .i64 ((a0a l0_9 x13_1).f0))).setCell ⟨gb212, 1, none⟩ (.int .i64 ((a0a l0_9 x13_1).f1))).setCell ⟨gb212, 2, none⟩ (.int .i64 ((a0a l0_9 x13_1).f2)))).cell? _ = some _ from hx214_0)); (try have hy214_1 := fun (n_ : Nat) => (show (((((w8.drewN n_).setCell ⟨gb212, 0, none⟩ (.int .i64 ((a0a l0_9 x13_1).f0))).setCell ⟨gb212, 1, none⟩ (.int .i64 ((a0a l0_9 x13_1).f1))).setCell ⟨gb212, 2, none⟩ (.int .i64 ((a0a l0_9 x13_1).f2)))).cell? _ = some _ from hx214_1)); (try have hy214_2 := fun (n_ : Nat) => (show (((((w8.drewN n_).setCell ⟨gb212, 0, none⟩ (.int .i64 ((a0a l0_9 x13_1).f0))).setCell ⟨gb212, 1, none⟩ (.int .i64 ((a0a l0_9 x13_1).f1))).setCell ⟨gb212, 2, none⟩ (.int .i64 ((a0a l0_9 x13_1).f2)))).cell? _ = some _ from hx214_2)); clear hn214_0 hn214_1 hn214_2; replace p214 := eq_true p214; replace q214 := eq_true q214)))
            try subst hji14
            go_meet
            case rel => exact ⟨_, (true), qs_, H', ⟨by have := HK1.out; first | omega | exact Nat.le_refl _⟩, ⟨by refine qd_ ?_; refine a0b ?_ NB210_212.out _; refine qd_ ?_; refine a0b ?_ NB210_212.out _; refine qd_ ?_; refine a0b ?_ NB210_212.out _; refine qd_ ?_; exact BK210.out⟩, ⟨by refine qd_ ?_; refine a0d (cs := #[.int .i64 ((a0a l0_9 x13_1).f0), .int .i64 ((a0a l0_9 x13_1).f1), .int .i64 0]) ?_ 2 _ rfl; refine qd_ ?_; refine a0d (cs := #[.int .i64 ((a0a l0_9 x13_1).f0), .int .i64 0, .int .i64 0]) ?_ 1 _ rfl; refine qd_ ?_; refine a0d (cs := #[.int .i64 0, .int .i64 0, .int .i64 0]) ?_ 0 _ rfl; refine qd_ ?_; exact BK212.out⟩, ⟨qb_⟩⟩
           ·rw [if_neg c17] at H
            have c17b0 : decide (((a0a l0_9 x13_1).f0) ≤ ((a0a l0_9 (ji14)).f0)) = false := decide_eq_false c17
            clear c17
            replace H := bm_ H
            obtain ⟨t215, A210, H⟩ := H
            replace H : (a0c.j1 k1 l0_9 (l0_9.length : Int) x13_1 (!t215) a0_0 a0_1 a0_2 a0_3 a0_4 a0_5 a0_6 a0_7 l0_8 l0_9 l0_10 a0_11 l0_12) = some r := H
            have A21 := am_ A210
            clear A210
            have H' := am_ H
            clear H
            have hnb22 := NB212_210.out
            have hnc22 := NB210_212.out
            obtain ⟨z'23_0, z'23_1, z'23_2⟩ := qz3_ BK212; obtain ⟨y'23_0, y'23_1, y'23_2⟩ := qf3_ BK212
            go_wp2_with (first | (go_at_call 51; (with_reducible refine (a0s.calls ((a0a l0_9 x13_1).f0) 1 64 true _ A11.out).mono ?_); rintro e w' ⟨rfl, ⟨nd, rfl⟩⟩; (try exact qw_); obtain ⟨z'24_0, z'24_1, z'24_2, z'24_3, z'24_4, z'24_5, z'24_6, z'24_7, z'24_8, z'24_9, z'24_10, z'24_11, z'24_12⟩ := a1u BK210; obtain ⟨y'24_0, y'24_1, y'24_2, y'24_3, y'24_4, y'24_5, y'24_6, y'24_7, y'24_8, y'24_9, y'24_10, y'24_11, y'24_12⟩ := a1v BK210; have p214 : 0 ≤ ((ji14) : Int) := ot_; have q214 : (ji14) < (l0_9.length : Int) := ot_; obtain ⟨ad214, e214, hx214_0, hx214_1, hx214_2⟩ := a2p HR0_9.out (ji14) p214 q214; obtain rfl : ad211 = ad214 := (by injection e214); have hn214_0 : ad211.block ≠ gb212 := Nat.ne_of_lt (Nat.lt_of_lt_of_le (by have := World.block_lt_of_cell? _ _ hx214_0; first | rwa [add_block] at this | exact this) GW212.out); have hn214_1 : ad211.block ≠ gb212 := Nat.ne_of_lt (Nat.lt_of_lt_of_le (by have := World.block_lt_of_cell? _ _ hx214_0; first | rwa [add_block] at this | exact this) GW212.out); have hn214_2 : ad211.block ≠ gb212 := Nat.ne_of_lt (Nat.lt_of_lt_of_le (by have := World.block_lt_of_cell? _ _ hx214_0; first | rwa [add_block] at this | exact this) GW212.out); replace hx214_0 := qh_ HB hx214_0; replace hx214_1 := qh_ HB hx214_1; replace hx214_2 := qh_ HB hx214_2; replace hx214_0 := (cell_far (p := ⟨gb212, 0, none⟩) (qn_ hn214_0) (.int .i64 ((a0a l0_9 x13_1).f0))).trans hx214_0; replace hx214_1 := (cell_far (p := ⟨gb212, 0, none⟩) (qn_ hn214_0) (.int .i64 ((a0a l0_9 x13_1).f0))).trans hx214_1; replace hx214_2 := (cell_far (p := ⟨gb212, 0, none⟩) (qn_ hn214_0) (.int .i64 ((a0a l0_9 x13_1).f0))).trans hx214_2; replace hx214_0 := (cell_far (p := ⟨gb212, 1, none⟩) (qn_ hn214_1) (.int .i64 ((a0a l0_9 x13_1).f1))).trans hx214_0; replace hx214_1 := (cell_far (p := ⟨gb212, 1, none⟩) (qn_ hn214_1) (.int .i64 ((a0a l0_9 x13_1).f1))).trans hx214_1; replace hx214_2 := (cell_far (p := ⟨gb212, 1, none⟩) (qn_ hn214_1) (.int .i64 ((a0a l0_9 x13_1).f1))).trans hx214_2; replace hx214_0 := (cell_far (p := ⟨gb212, 2, none⟩) (qn_ hn214_2) (.int .i64 ((a0a l0_9 x13_1).f2))).trans hx214_0; replace hx214_1 := (cell_far (p := ⟨gb212, 2, none⟩) (qn_ hn214_2) (.int .i64 ((a0a l0_9 x13_1).f2))).trans hx214_1; replace hx214_2 := (cell_far (p := ⟨gb212, 2, none⟩) (qn_ hn214_2) (.int .i64 ((a0a l0_9 x13_1).f2))).trans hx214_2; (try have hy214_0 := fun (n_ : Nat) => (show (((((w8.drewN n_).setCell ⟨gb212, 0, none⟩ (.int .i64 ((a0a l0_9 x13_1).f0))).setCell ⟨gb212, 1, none⟩ (.int .i64 ((a0a l0_9 x13_1).f1))).setCell ⟨gb212, 2, none⟩ (.int .i64 ((a0a l0_9 x13_1).f2)))).cell? _ = some _ from hx214_0)); (try have hy214_1 := fun (n_ : Nat) => (show (((((w8.drewN n_).setCell ⟨gb212, 0, none⟩ (.int .i64 ((a0a l0_9 x13_1).f0))).setCell ⟨gb212, 1, none⟩ (.int .i64 ((a0a l0_9 x13_1).f1))).setCell ⟨gb212, 2, none⟩ (.int .i64 ((a0a l0_9 x13_1).f2)))).cell? _ = some _ from hx214_1)); (try have hy214_2 := fun (n_ : Nat) => (show (((((w8.drewN n_).setCell ⟨gb212, 0, none⟩ (.int .i64 ((a0a l0_9 x13_1).f0))).setCell ⟨gb212, 1, none⟩ (.int .i64 ((a0a l0_9 x13_1).f1))).setCell ⟨gb212, 2, none⟩ (.int .i64 ((a0a l0_9 x13_1).f2)))).cell? _ = some _ from hx214_2)); clear hn214_0 hn214_1 hn214_2; replace p214 := eq_true p214; replace q214 := eq_true q214) | (go_at_call 51; (with_reducible refine (a0s.calls ((a0a l0_9 x13_1).f1) 0 1000 t215 _ A21.out).mono ?_); rintro e w' ⟨rfl, ⟨nd, rfl⟩⟩; (try exact qw_)))
            repeat (go_quiet (first | (go_at_call 51; (with_reducible refine (a0s.calls ((a0a l0_9 x13_1).f0) 1 64 true _ A11.out).mono ?_); rintro e w' ⟨rfl, ⟨nd, rfl⟩⟩; (try exact qw_); obtain ⟨z'24_0, z'24_1, z'24_2, z'24_3, z'24_4, z'24_5, z'24_6, z'24_7, z'24_8, z'24_9, z'24_10, z'24_11, z'24_12⟩ := a1u BK210; obtain ⟨y'24_0, y'24_1, y'24_2, y'24_3, y'24_4, y'24_5, y'24_6, y'24_7, y'24_8, y'24_9, y'24_10, y'24_11, y'24_12⟩ := a1v BK210; have p214 : 0 ≤ ((ji14) : Int) := ot_; have q214 : (ji14) < (l0_9.length : Int) := ot_; obtain ⟨ad214, e214, hx214_0, hx214_1, hx214_2⟩ := a2p HR0_9.out (ji14) p214 q214; obtain rfl : ad211 = ad214 := (by injection e214); have hn214_0 : ad211.block ≠ gb212 := Nat.ne_of_lt (Nat.lt_of_lt_of_le (by have := World.block_lt_of_cell? _ _ hx214_0; first | rwa [add_block] at this | exact this) GW212.out); have hn214_1 : ad211.block ≠ gb212 := Nat.ne_of_lt (Nat.lt_of_lt_of_le (by have := World.block_lt_of_cell? _ _ hx214_0; first | rwa [add_block] at this | exact this) GW212.out); have hn214_2 : ad211.block ≠ gb212 := Nat.ne_of_lt (Nat.lt_of_lt_of_le (by have := World.block_lt_of_cell? _ _ hx214_0; first | rwa [add_block] at this | exact this) GW212.out); replace hx214_0 := qh_ HB hx214_0; replace hx214_1 := qh_ HB hx214_1; replace hx214_2 := qh_ HB hx214_2; replace hx214_0 := (cell_far (p := ⟨gb212, 0, none⟩) (qn_ hn214_0) (.int .i64 ((a0a l0_9 x13_1).f0))).trans hx214_0; replace hx214_1 := (cell_far (p := ⟨gb212, 0, none⟩) (qn_ hn214_0) (.int .i64 ((a0a l0_9 x13_1).f0))).trans hx214_1; replace hx214_2 := (cell_far (p := ⟨gb212, 0, none⟩) (qn_ hn214_0) (.int .i64 ((a0a l0_9 x13_1).f0))).trans hx214_2; replace hx214_0 := (cell_far (p := ⟨gb212, 1, none⟩) (qn_ hn214_1) (.int .i64 ((a0a l0_9 x13_1).f1))).trans hx214_0; replace hx214_1 := (cell_far (p := ⟨gb212, 1, none⟩) (qn_ hn214_1) (.int .i64 ((a0a l0_9 x13_1).f1))).trans hx214_1; replace hx214_2 := (cell_far (p := ⟨gb212, 1, none⟩) (qn_ hn214_1) (.int .i64 ((a0a l0_9 x13_1).f1))).trans hx214_2; replace hx214_0 := (cell_far (p := ⟨gb212, 2, none⟩) (qn_ hn214_2) (.int .i64 ((a0a l0_9 x13_1).f2))).trans hx214_0; replace hx214_1 := (cell_far (p := ⟨gb212, 2, none⟩) (qn_ hn214_2) (.int .i64 ((a0a l0_9 x13_1).f2))).trans hx214_1; replace hx214_2 := (cell_far (p := ⟨gb212, 2, none⟩) (qn_ hn214_2) (.int .i64 ((a0a l0_9 x13_1).f2))).trans hx214_2; (try have hy214_0 := fun (n_ : Nat) => (show (((((w8.drewN n_).setCell ⟨gb212, 0, none⟩ (.int .i64 ((a0a l0_9 x13_1).f0))).setCell ⟨gb212, 1, none⟩ (.int .i64 ((a0a l0_9 x13_1).f1))).setCell ⟨gb212, 2, none⟩ (.int .i64 ((a0a l0_9 x13_1).f2)))).cell? _ = some _ from hx214_0)); (try have hy214_1 := fun (n_ : Nat) => (show (((((w8.drewN n_).setCell ⟨gb212, 0, none⟩ (.int .i64 ((a0a l0_9 x13_1).f0))).setCell ⟨gb212, 1, none⟩ (.int .i64 ((a0a l0_9 x13_1).f1))).setCell ⟨gb212, 2, none⟩ (.int .i64 ((a0a l0_9 x13_1).f2)))).cell? _ = some _ from hx214_1)); (try have hy214_2 := fun (n_ : Nat) => (show (((((w8.drewN n_).setCell ⟨gb212, 0, none⟩ (.int .i64 ((a0a l0_9 x13_1).f0))).setCell ⟨gb212, 1, none⟩ (.int .i64 ((a0a l0_9 x13_1).f1))).setCell ⟨gb212, 2, none⟩ (.int .i64 ((a0a l0_9 x13_1).f2)))).cell? _ = some _ from hx214_2)); clear hn214_0 hn214_1 hn214_2; replace p214 := eq_true p214; replace q214 := eq_true q214) | (go_at_call 51; (with_reducible refine (a0s.calls ((a0a l0_9 x13_1).f1) 0 1000 t215 _ A21.out).mono ?_); rintro e w' ⟨rfl, ⟨nd, rfl⟩⟩; (try exact qw_))); try go_wp2_with (first | (go_at_call 51; (with_reducible refine (a0s.calls ((a0a l0_9 x13_1).f0) 1 64 true _ A11.out).mono ?_); rintro e w' ⟨rfl, ⟨nd, rfl⟩⟩; (try exact qw_); obtain ⟨z'24_0, z'24_1, z'24_2, z'24_3, z'24_4, z'24_5, z'24_6, z'24_7, z'24_8, z'24_9, z'24_10, z'24_11, z'24_12⟩ := a1u BK210; obtain ⟨y'24_0, y'24_1, y'24_2, y'24_3, y'24_4, y'24_5, y'24_6, y'24_7, y'24_8, y'24_9, y'24_10, y'24_11, y'24_12⟩ := a1v BK210; have p214 : 0 ≤ ((ji14) : Int) := ot_; have q214 : (ji14) < (l0_9.length : Int) := ot_; obtain ⟨ad214, e214, hx214_0, hx214_1, hx214_2⟩ := a2p HR0_9.out (ji14) p214 q214; obtain rfl : ad211 = ad214 := (by injection e214); have hn214_0 : ad211.block ≠ gb212 := Nat.ne_of_lt (Nat.lt_of_lt_of_le (by have := World.block_lt_of_cell? _ _ hx214_0; first | rwa [add_block] at this | exact this) GW212.out); have hn214_1 : ad211.block ≠ gb212 := Nat.ne_of_lt (Nat.lt_of_lt_of_le (by have := World.block_lt_of_cell? _ _ hx214_0; first | rwa [add_block] at this | exact this) GW212.out); have hn214_2 : ad211.block ≠ gb212 := Nat.ne_of_lt (Nat.lt_of_lt_of_le (by have := World.block_lt_of_cell? _ _ hx214_0; first | rwa [add_block] at this | exact this) GW212.out); replace hx214_0 := qh_ HB hx214_0; replace hx214_1 := qh_ HB hx214_1; replace hx214_2 := qh_ HB hx214_2; replace hx214_0 := (cell_far (p := ⟨gb212, 0, none⟩) (qn_ hn214_0) (.int .i64 ((a0a l0_9 x13_1).f0))).trans hx214_0; replace hx214_1 := (cell_far (p := ⟨gb212, 0, none⟩) (qn_ hn214_0) (.int .i64 ((a0a l0_9 x13_1).f0))).trans hx214_1; replace hx214_2 := (cell_far (p := ⟨gb212, 0, none⟩) (qn_ hn214_0) (.int .i64 ((a0a l0_9 x13_1).f0))).trans hx214_2; replace hx214_0 := (cell_far (p := ⟨gb212, 1, none⟩) (qn_ hn214_1) (.int .i64 ((a0a l0_9 x13_1).f1))).trans hx214_0; replace hx214_1 := (cell_far (p := ⟨gb212, 1, none⟩) (qn_ hn214_1) (.int .i64 ((a0a l0_9 x13_1).f1))).trans hx214_1; replace hx214_2 := (cell_far (p := ⟨gb212, 1, none⟩) (qn_ hn214_1) (.int .i64 ((a0a l0_9 x13_1).f1))).trans hx214_2; replace hx214_0 := (cell_far (p := ⟨gb212, 2, none⟩) (qn_ hn214_2) (.int .i64 ((a0a l0_9 x13_1).f2))).trans hx214_0; replace hx214_1 := (cell_far (p := ⟨gb212, 2, none⟩) (qn_ hn214_2) (.int .i64 ((a0a l0_9 x13_1).f2))).trans hx214_1; replace hx214_2 := (cell_far (p := ⟨gb212, 2, none⟩) (qn_ hn214_2) (.int .i64 ((a0a l0_9 x13_1).f2))).trans hx214_2; (try have hy214_0 := fun (n_ : Nat) => (show (((((w8.drewN n_).setCell ⟨gb212, 0, none⟩ (.int .i64 ((a0a l0_9 x13_1).f0))).setCell ⟨gb212, 1, none⟩ (.int .i64 ((a0a l0_9 x13_1).f1))).setCell ⟨gb212, 2, none⟩ (.int .i64 ((a0a l0_9 x13_1).f2)))).cell? _ = some _ from hx214_0)); (try have hy214_1 := fun (n_ : Nat) => (show (((((w8.drewN n_).setCell ⟨gb212, 0, none⟩ (.int .i64 ((a0a l0_9 x13_1).f0))).setCell ⟨gb212, 1, none⟩ (.int .i64 ((a0a l0_9 x13_1).f1))).setCell ⟨gb212, 2, none⟩ (.int .i64 ((a0a l0_9 x13_1).f2)))).cell? _ = some _ from hx214_1)); (try have hy214_2 := fun (n_ : Nat) => (show (((((w8.drewN n_).setCell ⟨gb212, 0, none⟩ (.int .i64 ((a0a l0_9 x13_1).f0))).setCell ⟨gb212, 1, none⟩ (.int .i64 ((a0a l0_9 x13_1).f1))).setCell ⟨gb212, 2, none⟩ (.int .i64 ((a0a l0_9 x13_1).f2)))).cell? _ = some _ from hx214_2)); clear hn214_0 hn214_1 hn214_2; replace p214 := eq_true p214; replace q214 := eq_true q214) | (go_at_call 51; (with_reducible refine (a0s.calls ((a0a l0_9 x13_1).f1) 0 1000 t215 _ A21.out).mono ?_); rintro e w' ⟨rfl, ⟨nd, rfl⟩⟩; (try exact qw_))))
            try subst hji14
            go_meet
            case rel => exact ⟨_, (!t215), qs_, H', ⟨by have := HK1.out; first | omega | exact Nat.le_refl _⟩, ⟨by refine qd_ ?_; refine a0b ?_ NB210_212.out _; refine qd_ ?_; refine a0b ?_ NB210_212.out _; refine qd_ ?_; refine a0b ?_ NB210_212.out _; refine qd_ ?_; exact BK210.out⟩, ⟨by refine qd_ ?_; refine a0d (cs := #[.int .i64 ((a0a l0_9 x13_1).f0), .int .i64 ((a0a l0_9 x13_1).f1), .int .i64 0]) ?_ 2 _ rfl; refine qd_ ?_; refine a0d (cs := #[.int .i64 ((a0a l0_9 x13_1).f0), .int .i64 0, .int .i64 0]) ?_ 1 _ rfl; refine qd_ ?_; refine a0d (cs := #[.int .i64 0, .int .i64 0, .int .i64 0]) ?_ 0 _ rfl; refine qd_ ?_; exact BK212.out⟩, ⟨qb_⟩⟩
          ·rw [if_neg c16] at H
           exact absurd H (by simp)
         ·rw [if_neg c15] at H
          exact absurd H (by simp)
        ·rw [if_neg c13] at H
         have c13b0 : decide (0 < x13_1) = false := decide_eq_false c13
         clear c13
         (first | rw [c13b0] | (simp only [a3h, a3u]; rw [c13b0]) | skip)
         replace H := bm_ H
         obtain ⟨t216, A250, H⟩ := H
         replace H : (a0c.j1 k1 l0_9 (l0_9.length : Int) x13_1 (!t216) a0_0 a0_1 a0_2 a0_3 a0_4 a0_5 a0_6 a0_7 l0_8 l0_9 l0_10 a0_11 l0_12) = some r := H
         have A25 := am_ A250
         clear A250
         have H' := am_ H
         clear H
         have hnb26 := NB212_210.out
         have hnc26 := NB210_212.out
         obtain ⟨z'27_0, z'27_1, z'27_2⟩ := qz3_ BK212; obtain ⟨y'27_0, y'27_1, y'27_2⟩ := qf3_ BK212
         go_wp2_with (first | (go_at_call 51; (with_reducible refine (a0s.calls ((a0a l0_9 x13_1).f0) 1 64 true _ A11.out).mono ?_); rintro e w' ⟨rfl, ⟨nd, rfl⟩⟩; (try exact qw_)) | (go_at_call 51; (with_reducible refine (a0s.calls ((a0a l0_9 x13_1).f1) 0 1000 t216 _ A25.out).mono ?_); rintro e w' ⟨rfl, ⟨nd, rfl⟩⟩; (try exact qw_)))
         repeat (go_quiet (first | (go_at_call 51; (with_reducible refine (a0s.calls ((a0a l0_9 x13_1).f0) 1 64 true _ A11.out).mono ?_); rintro e w' ⟨rfl, ⟨nd, rfl⟩⟩; (try exact qw_)) | (go_at_call 51; (with_reducible refine (a0s.calls ((a0a l0_9 x13_1).f1) 0 1000 t216 _ A25.out).mono ?_); rintro e w' ⟨rfl, ⟨nd, rfl⟩⟩; (try exact qw_))); try go_wp2_with (first | (go_at_call 51; (with_reducible refine (a0s.calls ((a0a l0_9 x13_1).f0) 1 64 true _ A11.out).mono ?_); rintro e w' ⟨rfl, ⟨nd, rfl⟩⟩; (try exact qw_)) | (go_at_call 51; (with_reducible refine (a0s.calls ((a0a l0_9 x13_1).f1) 0 1000 t216 _ A25.out).mono ?_); rintro e w' ⟨rfl, ⟨nd, rfl⟩⟩; (try exact qw_))))
         go_meet
         case rel => exact ⟨_, (!t216), qs_, H', ⟨by have := HK1.out; first | omega | exact Nat.le_refl _⟩, ⟨by refine qd_ ?_; refine a0b ?_ NB210_212.out _; refine qd_ ?_; refine a0b ?_ NB210_212.out _; refine qd_ ?_; refine a0b ?_ NB210_212.out _; refine qd_ ?_; exact BK210.out⟩, ⟨by refine qd_ ?_; refine a0d (cs := #[.int .i64 ((a0a l0_9 x13_1).f0), .int .i64 ((a0a l0_9 x13_1).f1), .int .i64 0]) ?_ 2 _ rfl; refine qd_ ?_; refine a0d (cs := #[.int .i64 ((a0a l0_9 x13_1).f0), .int .i64 0, .int .i64 0]) ?_ 1 _ rfl; refine qd_ ?_; refine a0d (cs := #[.int .i64 0, .int .i64 0, .int .i64 0]) ?_ 0 _ rfl; refine qd_ ?_; exact BK212.out⟩, ⟨qb_⟩⟩
       ·replace c12 := be_ c12
        subst c12
        have H1 : (a0c.j1 k1 l0_9 (l0_9.length : Int) x13_1 true a0_0 a0_1 a0_2 a0_3 a0_4 a0_5 a0_6 a0_7 l0_8 l0_9 l0_10 a0_11 l0_12) = some r := by rw [if_neg (show ¬ (false = true) by decide)] at H; exact H
        clear H
        have H := H1
        clear H1
        have H' := am_ H
        clear H
        have hnb28 := NB212_210.out
        have hnc28 := NB210_212.out
        obtain ⟨z'29_0, z'29_1, z'29_2⟩ := qz3_ BK212; obtain ⟨y'29_0, y'29_1, y'29_2⟩ := qf3_ BK212
        go_wp2_with (first | (go_at_call 51; (with_reducible refine (a0s.calls ((a0a l0_9 x13_1).f0) 1 64 false _ A11.out).mono ?_); rintro e w' ⟨rfl, ⟨nd, rfl⟩⟩; (try exact qw_)))
        repeat (go_quiet (first | (go_at_call 51; (with_reducible refine (a0s.calls ((a0a l0_9 x13_1).f0) 1 64 false _ A11.out).mono ?_); rintro e w' ⟨rfl, ⟨nd, rfl⟩⟩; (try exact qw_))); try go_wp2_with (first | (go_at_call 51; (with_reducible refine (a0s.calls ((a0a l0_9 x13_1).f0) 1 64 false _ A11.out).mono ?_); rintro e w' ⟨rfl, ⟨nd, rfl⟩⟩; (try exact qw_))))
        go_meet
        case rel => exact ⟨_, (true), qs_, H', ⟨by have := HK1.out; first | omega | exact Nat.le_refl _⟩, ⟨by refine qd_ ?_; refine a0b ?_ NB210_212.out _; refine qd_ ?_; refine a0b ?_ NB210_212.out _; refine qd_ ?_; refine a0b ?_ NB210_212.out _; refine qd_ ?_; exact BK210.out⟩, ⟨by refine qd_ ?_; refine a0d (cs := #[.int .i64 ((a0a l0_9 x13_1).f0), .int .i64 ((a0a l0_9 x13_1).f1), .int .i64 0]) ?_ 2 _ rfl; refine qd_ ?_; refine a0d (cs := #[.int .i64 ((a0a l0_9 x13_1).f0), .int .i64 0, .int .i64 0]) ?_ 1 _ rfl; refine qd_ ?_; refine a0d (cs := #[.int .i64 0, .int .i64 0, .int .i64 0]) ?_ 0 _ rfl; refine qd_ ?_; exact BK212.out⟩, ⟨qb_⟩⟩
      case rest =>
       clear HC7
       try clear c1
       try clear c2
       try clear p2
       try clear q2
       try clear hx2
       try clear c4
       try clear c4b0
       try clear c5
       try clear c5b0
       try clear c6
       try clear c6b0
       try clear p6
       try clear c9
       try clear c12
       try clear c13
       try clear c13b0
       try clear c15
       try clear c15b0
       try clear c16
       try clear c16b0
       try clear c17
       try clear c17b0
       try clear c18
       try clear p21
       try clear q21
       try clear hx21
       try clear c22
       try clear c26
       try clear c28
       try clear z'10_0 z'10_1 z'10_2
       try clear z'19_0 z'19_1 z'19_2
       try clear z'20_0 z'20_1 z'20_10 z'20_11 z'20_12 z'20_2 z'20_3 z'20_4 z'20_5 z'20_6 z'20_7 z'20_8 z'20_9
       try clear z'23_0 z'23_1 z'23_2
       try clear z'24_0 z'24_1 z'24_10 z'24_11 z'24_12 z'24_2 z'24_3 z'24_4 z'24_5 z'24_6 z'24_7 z'24_8 z'24_9
       try clear z'27_0 z'27_1 z'27_2
       try clear z'29_0 z'29_1 z'29_2
       try clear z'3_0 z'3_1 z'3_10 z'3_11 z'3_12 z'3_2 z'3_3 z'3_4 z'3_5 z'3_6 z'3_7 z'3_8 z'3_9
       try clear y'10_0 y'10_1 y'10_2
       try clear y'19_0 y'19_1 y'19_2
       try clear y'20_0 y'20_1 y'20_10 y'20_11 y'20_12 y'20_2 y'20_3 y'20_4 y'20_5 y'20_6 y'20_7 y'20_8 y'20_9
       try clear y'23_0 y'23_1 y'23_2
       try clear y'24_0 y'24_1 y'24_10 y'24_11 y'24_12 y'24_2 y'24_3 y'24_4 y'24_5 y'24_6 y'24_7 y'24_8 y'24_9
       try clear y'27_0 y'27_1 y'27_2
       try clear y'29_0 y'29_1 y'29_2
       try clear y'3_0 y'3_1 y'3_10 y'3_11 y'3_12 y'3_2 y'3_3 y'3_4 y'3_5 y'3_6 y'3_7 y'3_8 y'3_9
       try clear hx211_0
       try clear hx211_1
       try clear hx211_2
       try clear hx214_0
       try clear hx214_1
       try clear hx214_2
       try clear p2
       try clear p211
       try clear p214
       try clear q211
       try clear q214
       obtain ⟨kq, x44_6, rfl, HA, HJ6, BK210, BK212, HB⟩ := hcut
       cases kq with
       | zero => exact absurd HA.out (by simp [a0c.j1])
       | succ kj6 =>
        have H := HA.out
        clear HA
        simp only [a0c.j1] at H
        by_cases c30 : x44_6 = true
        ·subst c30
         have H1 : (some false) = some r := by rw [if_pos rfl] at H; exact H
         clear H
         have H := H1
         clear H1
         obtain rfl := si_ H
         go_wp2
         repeat (go_quiet (fail); try go_wp2)
         go_ret
         exact ⟨qx_, qb_⟩
        ·replace c30 := be_ c30
         subst c30
         have H1 : (a0c.l0 kj6 l0_9 (l0_9.length : Int) (wrap64 (x13_1 + 1)) a0_0 a0_1 a0_2 a0_3 a0_4 a0_5 a0_6 a0_7 l0_8 l0_9 l0_10 a0_11 l0_12) = some r := by rw [if_neg (show ¬ (false = true) by decide)] at H; exact H
         clear H
         have H := H1
         clear H1
         have H' := am_ H
         clear H
         go_wp2
         repeat (go_quiet (fail); try go_wp2)
         go_roundg kj6
         case measure => have := HK1.out; have := HJ6.out; omega
         case rel => exact ⟨(wrap64 (x13_1 + 1)), qs_, H', ⟨by have := HK1.out; have := HJ6.out; omega⟩, ⟨qk_ BK210⟩, ⟨qb_⟩⟩
     ·rw [if_neg c6] at H
      exact absurd H (by simp)
    ·rw [if_neg c5] at H
     exact absurd H (by simp)
   ·rw [if_neg c4] at H
    have c4b0 : decide (x13_1 < (l0_9.length : Int)) = false := decide_eq_false c4
    clear c4
    have H' := am_ H
    clear H
    obtain ⟨z'31_0, z'31_1, z'31_2, z'31_3, z'31_4, z'31_5, z'31_6, z'31_7, z'31_8, z'31_9, z'31_10, z'31_11, z'31_12⟩ := a1u BK210; obtain ⟨y'31_0, y'31_1, y'31_2, y'31_3, y'31_4, y'31_5, y'31_6, y'31_7, y'31_8, y'31_9, y'31_10, y'31_11, y'31_12⟩ := a1v BK210
    go_wp2
    repeat (go_quiet (fail); try go_wp2)
    go_loopg [50] k1 (fun kq v50 w' => ∃ (x50_2 : Int), v50 = .int .i64 x50_2 ∧ Aside0 (a0c.l1 kq l0_9 (l0_9.length : Int) x50_2 a0_0 a0_1 a0_2 a0_3 a0_4 a0_5 a0_6 a0_7 l0_8 l0_9 l0_10 a0_11 l0_12 = some r) ∧ Aside0 (kq ≤ k1) ∧ Aside0 (w'.heap[gb210]? = some (.cells #[.int .i64 a0_0, .int .i64 a0_1, .int .i64 a0_2, .int .i64 a0_3, .bool a0_4, .int .i64 a0_5, .int .i64 a0_6, .int .i64 a0_7, (.slice A0_8 l0_8.length c0_8), (.slice A0_9 l0_9.length c0_9), (.slice A0_10 l0_10.length c0_10), .string a0_11, (.slice A0_12 l0_12.length c0_12)] 62 (0, 0))) ∧ Aside0 (Below w.heap.size w w'))
    case atStart => exact ⟨(0), qs_, H', ⟨Nat.le_refl _⟩, ⟨qk_ BK210⟩, ⟨qb_⟩⟩
    case round =>
     clear H'
     try clear c1
     try clear c2
     try clear p2
     try clear q2
     try clear hx2
     try clear c3
     try clear c4
     try clear c4b0
     try clear c5
     try clear c5b0
     try clear c6
     try clear c6b0
     try clear p6
     try clear c9
     try clear c12
     try clear c13
     try clear c13b0
     try clear c15
     try clear c15b0
     try clear c16
     try clear c16b0
     try clear c17
     try clear c17b0
     try clear c18
     try clear p21
     try clear q21
     try clear hx21
     try clear c22
     try clear c26
     try clear c28
     try clear c30
     try clear z'10_0 z'10_1 z'10_2
     try clear z'19_0 z'19_1 z'19_2
     try clear z'20_0 z'20_1 z'20_10 z'20_11 z'20_12 z'20_2 z'20_3 z'20_4 z'20_5 z'20_6 z'20_7 z'20_8 z'20_9
     try clear z'23_0 z'23_1 z'23_2
     try clear z'24_0 z'24_1 z'24_10 z'24_11 z'24_12 z'24_2 z'24_3 z'24_4 z'24_5 z'24_6 z'24_7 z'24_8 z'24_9
     try clear z'27_0 z'27_1 z'27_2
     try clear z'29_0 z'29_1 z'29_2
     try clear z'31_0 z'31_1 z'31_10 z'31_11 z'31_12 z'31_2 z'31_3 z'31_4 z'31_5 z'31_6 z'31_7 z'31_8 z'31_9
     try clear z'3_0 z'3_1 z'3_10 z'3_11 z'3_12 z'3_2 z'3_3 z'3_4 z'3_5 z'3_6 z'3_7 z'3_8 z'3_9
     try clear y'10_0 y'10_1 y'10_2
     try clear y'19_0 y'19_1 y'19_2
     try clear y'20_0 y'20_1 y'20_10 y'20_11 y'20_12 y'20_2 y'20_3 y'20_4 y'20_5 y'20_6 y'20_7 y'20_8 y'20_9
     try clear y'23_0 y'23_1 y'23_2
     try clear y'24_0 y'24_1 y'24_10 y'24_11 y'24_12 y'24_2 y'24_3 y'24_4 y'24_5 y'24_6 y'24_7 y'24_8 y'24_9
     try clear y'27_0 y'27_1 y'27_2
     try clear y'29_0 y'29_1 y'29_2
     try clear y'31_0 y'31_1 y'31_10 y'31_11 y'31_12 y'31_2 y'31_3 y'31_4 y'31_5 y'31_6 y'31_7 y'31_8 y'31_9
     try clear y'3_0 y'3_1 y'3_10 y'3_11 y'3_12 y'3_2 y'3_3 y'3_4 y'3_5 y'3_6 y'3_7 y'3_8 y'3_9
     try clear hx211_0
     try clear hx211_1
     try clear hx211_2
     try clear hx214_0
     try clear hx214_1
     try clear hx214_2
     try clear p2
     try clear p21
     try clear p211
     try clear p214
     try clear p6
     try clear q2
     try clear q21
     try clear q211
     try clear q214
     obtain ⟨x50_2, rfl, HA, HK2, BK210, HB⟩ := hrel
     cases gk with
     | zero => exact absurd HA.out (by simp [a0c.l1])
     | succ k2 =>
      have H := HA.out
      clear HA
      simp only [a0c.l1] at H
      by_cases c32 : x50_2 < (l0_9.length : Int)
      ·rw [if_pos c32] at H
       have c32b0 : decide (x50_2 < (l0_9.length : Int)) = true := decide_eq_true c32
       clear c32
       by_cases c33 : 0 ≤ x50_2
       ·rw [if_pos c33] at H
        have c33b0 : decide (0 ≤ x50_2) = true := decide_eq_true c33
        clear c33
        by_cases c34 : x50_2 < (l0_9.length : Int)
        ·rw [if_pos c34] at H
         have c34b0 : decide (x50_2 < (l0_9.length : Int)) = true := decide_eq_true c34
         clear c34
         replace H := bm_ H
         obtain ⟨⟨t219, t220⟩, A350, H⟩ := H
         replace H : (if ((a0a l0_9 x50_2).f2) = 0 then (a0c.j3 k2 l0_9 (l0_9.length : Int) x50_2 false a0_0 a0_1 a0_2 a0_3 a0_4 a0_5 a0_6 a0_7 l0_8 l0_9 l0_10 a0_11 l0_12) else (if t220 = true then (a0c.j3 k2 l0_9 (l0_9.length : Int) x50_2 (((a0a l0_9 x50_2).f2) == ((a0a l0_9 x50_2).f0)) a0_0 a0_1 a0_2 a0_3 a0_4 a0_5 a0_6 a0_7 l0_8 l0_9 l0_10 a0_11 l0_12) else (a0c.j3 k2 l0_9 (l0_9.length : Int) x50_2 true a0_0 a0_1 a0_2 a0_3 a0_4 a0_5 a0_6 a0_7 l0_8 l0_9 l0_10 a0_11 l0_12))) = some r := H
         have A35 := am_ A350
         clear A350
         have HC36 := am_ H
         clear H
         have p217 : 0 ≤ (x50_2 : Int) := ot_
         have q217 : x50_2 < (l0_9.length : Int) := ot_
         obtain ⟨ad217, e217, hx217_0, hx217_1, hx217_2⟩ := a2p HR0_9.out x50_2 p217 q217
         cases e217
         replace hx217_0 := qh_ HB hx217_0
         replace hx217_1 := qh_ HB hx217_1
         replace hx217_2 := qh_ HB hx217_2
         replace p217 := eq_true p217
         replace q217 := eq_true q217
         go_upto_region 11 with (first | ((with_reducible refine a0f (N := 6) rfl ?_); refine qev_ 6 #[.int .i64 0, .int .i64 0, .int .i64 0] 43 ?_; intro gb218 hg w37 hbox hb; have BK218 := am_ (hbox); have GW218 := qga_ hg; have GE218 := qga_ hg; replace HB := qbs_ hb; have NB210_218 := am_ ((by rw [hg]; exact Nat.ne_of_lt (a0u (qk_ BK210)) : gb210 ≠ gb218)); have NB218_210 := am_ ((by rw [hg]; exact Nat.ne_of_gt (a0u (qk_ BK210)) : gb218 ≠ gb210)); replace BK210 := qkb_ BK210 hb; clear hb hbox hg; have hnb38 := NB218_210.out; have hnc38 := NB210_218.out; obtain ⟨z'39_0, z'39_1, z'39_2⟩ := qz3_ BK218; obtain ⟨y'39_0, y'39_1, y'39_2⟩ := qf3_ BK218; obtain ⟨z'40_0, z'40_1, z'40_2, z'40_3, z'40_4, z'40_5, z'40_6, z'40_7, z'40_8, z'40_9, z'40_10, z'40_11, z'40_12⟩ := a1u BK210; obtain ⟨y'40_0, y'40_1, y'40_2, y'40_3, y'40_4, y'40_5, y'40_6, y'40_7, y'40_8, y'40_9, y'40_10, y'40_11, y'40_12⟩ := a1v BK210) | (go_at_call 56; (with_reducible refine (a3c.calls k2 a0_0 a0_1 a0_2 a0_3 a0_4 a0_5 a0_6 a0_7 _ _ l0_8 _ _ l0_9 _ _ l0_10 a0_11 _ _ l0_12 ((a0a l0_9 x50_2).f2) t219 t220 _ ?s1 ?s2 ?s3 ?s4 ?s5 ?s6 ?s7 ?s8 A35.out).mono ?_); (case s1 => exact Kd.a1g HR0_8.out qb_); (case s2 => exact HC0_8.out); (case s3 => exact Kd.a1g HR0_9.out qb_); (case s4 => exact HC0_9.out); (case s5 => exact Kd.a1g HR0_10.out qb_); (case s6 => exact HC0_10.out); (case s7 => exact Kd.a1g HR0_12.out qb_); (case s8 => exact HC0_12.out); rintro e w41 ⟨rfl, hb⟩; replace BK210 := am_ (a1o (g := gb210) (o := .cells #[.int .i64 a0_0, .int .i64 a0_1, .int .i64 a0_2, .int .i64 a0_3, .bool a0_4, .int .i64 a0_5, .int .i64 a0_6, .int .i64 a0_7, .slice A0_8 l0_8.length c0_8, .slice (some ad217) l0_9.length c0_9, .slice A0_10 l0_10.length c0_10, .string a0_11, .slice A0_12 l0_12.length c0_12] 62 (0, 0)) (by refine qd_ ?_; refine a0b ?_ NB210_218.out _; refine qd_ ?_; refine a0b ?_ NB210_218.out _; refine qd_ ?_; refine a0b ?_ NB210_218.out _; refine qd_ ?_; exact BK210.out) hb); replace BK218 := am_ (a1o (g := gb218) (o := .cells #[.int .i64 ((a0a l0_9 x50_2).f0), .int .i64 ((a0a l0_9 x50_2).f1), .int .i64 ((a0a l0_9 x50_2).f2)] 43 (0, 0)) (by refine qd_ ?_; refine a0d (cs := #[.int .i64 ((a0a l0_9 x50_2).f0), .int .i64 ((a0a l0_9 x50_2).f1), .int .i64 0]) ?_ 2 _ rfl; refine qd_ ?_; refine a0d (cs := #[.int .i64 ((a0a l0_9 x50_2).f0), .int .i64 0, .int .i64 0]) ?_ 1 _ rfl; refine qd_ ?_; refine a0d (cs := #[.int .i64 0, .int .i64 0, .int .i64 0]) ?_ 0 _ rfl; refine qd_ ?_; exact BK218.out) hb); replace HB := qbs_ hb; (try clear hb); (try clear hb2); (try clear hk); (try clear hi)))
         repeat (go_quiet (first | ((with_reducible refine a0f (N := 6) rfl ?_); refine qev_ 6 #[.int .i64 0, .int .i64 0, .int .i64 0] 43 ?_; intro gb218 hg w37 hbox hb; have BK218 := am_ (hbox); have GW218 := qga_ hg; have GE218 := qga_ hg; replace HB := qbs_ hb; have NB210_218 := am_ ((by rw [hg]; exact Nat.ne_of_lt (a0u (qk_ BK210)) : gb210 ≠ gb218)); have NB218_210 := am_ ((by rw [hg]; exact Nat.ne_of_gt (a0u (qk_ BK210)) : gb218 ≠ gb210)); replace BK210 := qkb_ BK210 hb; clear hb hbox hg; have hnb38 := NB218_210.out; have hnc38 := NB210_218.out; obtain ⟨z'39_0, z'39_1, z'39_2⟩ := qz3_ BK218; obtain ⟨y'39_0, y'39_1, y'39_2⟩ := qf3_ BK218; obtain ⟨z'40_0, z'40_1, z'40_2, z'40_3, z'40_4, z'40_5, z'40_6, z'40_7, z'40_8, z'40_9, z'40_10, z'40_11, z'40_12⟩ := a1u BK210; obtain ⟨y'40_0, y'40_1, y'40_2, y'40_3, y'40_4, y'40_5, y'40_6, y'40_7, y'40_8, y'40_9, y'40_10, y'40_11, y'40_12⟩ := a1v BK210) | (go_at_call 56; (with_reducible refine (a3c.calls k2 a0_0 a0_1 a0_2 a0_3 a0_4 a0_5 a0_6 a0_7 _ _ l0_8 _ _ l0_9 _ _ l0_10 a0_11 _ _ l0_12 ((a0a l0_9 x50_2).f2) t219 t220 _ ?s1 ?s2 ?s3 ?s4 ?s5 ?s6 ?s7 ?s8 A35.out).mono ?_); (case s1 => exact Kd.a1g HR0_8.out qb_); (case s2 => exact HC0_8.out); (case s3 => exact Kd.a1g HR0_9.out qb_); (case s4 => exact HC0_9.out); (case s5 => exact Kd.a1g HR0_10.out qb_); (case s6 => exact HC0_10.out); (case s7 => exact Kd.a1g HR0_12.out qb_); (case s8 => exact HC0_12.out); rintro e w41 ⟨rfl, hb⟩; replace BK210 := am_ (a1o (g := gb210) (o := .cells #[.int .i64 a0_0, .int .i64 a0_1, .int .i64 a0_2, .int .i64 a0_3, .bool a0_4, .int .i64 a0_5, .int .i64 a0_6, .int .i64 a0_7, .slice A0_8 l0_8.length c0_8, .slice (some ad217) l0_9.length c0_9, .slice A0_10 l0_10.length c0_10, .string a0_11, .slice A0_12 l0_12.length c0_12] 62 (0, 0)) (by refine qd_ ?_; refine a0b ?_ NB210_218.out _; refine qd_ ?_; refine a0b ?_ NB210_218.out _; refine qd_ ?_; refine a0b ?_ NB210_218.out _; refine qd_ ?_; exact BK210.out) hb); replace BK218 := am_ (a1o (g := gb218) (o := .cells #[.int .i64 ((a0a l0_9 x50_2).f0), .int .i64 ((a0a l0_9 x50_2).f1), .int .i64 ((a0a l0_9 x50_2).f2)] 43 (0, 0)) (by refine qd_ ?_; refine a0d (cs := #[.int .i64 ((a0a l0_9 x50_2).f0), .int .i64 ((a0a l0_9 x50_2).f1), .int .i64 0]) ?_ 2 _ rfl; refine qd_ ?_; refine a0d (cs := #[.int .i64 ((a0a l0_9 x50_2).f0), .int .i64 0, .int .i64 0]) ?_ 1 _ rfl; refine qd_ ?_; refine a0d (cs := #[.int .i64 0, .int .i64 0, .int .i64 0]) ?_ 0 _ rfl; refine qd_ ?_; exact BK218.out) hb); replace HB := qbs_ hb; (try clear hb); (try clear hb2); (try clear hk); (try clear hi))); go_upto_region 11 with (first | ((with_reducible refine a0f (N := 6) rfl ?_); refine qev_ 6 #[.int .i64 0, .int .i64 0, .int .i64 0] 43 ?_; intro gb218 hg w37 hbox hb; have BK218 := am_ (hbox); have GW218 := qga_ hg; have GE218 := qga_ hg; replace HB := qbs_ hb; have NB210_218 := am_ ((by rw [hg]; exact Nat.ne_of_lt (a0u (qk_ BK210)) : gb210 ≠ gb218)); have NB218_210 := am_ ((by rw [hg]; exact Nat.ne_of_gt (a0u (qk_ BK210)) : gb218 ≠ gb210)); replace BK210 := qkb_ BK210 hb; clear hb hbox hg; have hnb38 := NB218_210.out; have hnc38 := NB210_218.out; obtain ⟨z'39_0, z'39_1, z'39_2⟩ := qz3_ BK218; obtain ⟨y'39_0, y'39_1, y'39_2⟩ := qf3_ BK218; obtain ⟨z'40_0, z'40_1, z'40_2, z'40_3, z'40_4, z'40_5, z'40_6, z'40_7, z'40_8, z'40_9, z'40_10, z'40_11, z'40_12⟩ := a1u BK210; obtain ⟨y'40_0, y'40_1, y'40_2, y'40_3, y'40_4, y'40_5, y'40_6, y'40_7, y'40_8, y'40_9, y'40_10, y'40_11, y'40_12⟩ := a1v BK210) | (go_at_call 56; (with_reducible refine (a3c.calls k2 a0_0 a0_1 a0_2 a0_3 a0_4 a0_5 a0_6 a0_7 _ _ l0_8 _ _ l0_9 _ _ l0_10 a0_11 _ _ l0_12 ((a0a l0_9 x50_2).f2) t219 t220 _ ?s1 ?s2 ?s3 ?s4 ?s5 ?s6 ?s7 ?s8 A35.out).mono ?_); (case s1 => exact Kd.a1g HR0_8.out qb_); (case s2 => exact HC0_8.out); (case s3 => exact Kd.a1g HR0_9.out qb_); (case s4 => exact HC0_9.out); (case s5 => exact Kd.a1g HR0_10.out qb_); (case s6 => exact HC0_10.out); (case s7 => exact Kd.a1g HR0_12.out qb_); (case s8 => exact HC0_12.out); rintro e w41 ⟨rfl, hb⟩; replace BK210 := am_ (a1o (g := gb210) (o := .cells #[.int .i64 a0_0, .int .i64 a0_1, .int .i64 a0_2, .int .i64 a0_3, .bool a0_4, .int .i64 a0_5, .int .i64 a0_6, .int .i64 a0_7, .slice A0_8 l0_8.length c0_8, .slice (some ad217) l0_9.length c0_9, .slice A0_10 l0_10.length c0_10, .string a0_11, .slice A0_12 l0_12.length c0_12] 62 (0, 0)) (by refine qd_ ?_; refine a0b ?_ NB210_218.out _; refine qd_ ?_; refine a0b ?_ NB210_218.out _; refine qd_ ?_; refine a0b ?_ NB210_218.out _; refine qd_ ?_; exact BK210.out) hb); replace BK218 := am_ (a1o (g := gb218) (o := .cells #[.int .i64 ((a0a l0_9 x50_2).f0), .int .i64 ((a0a l0_9 x50_2).f1), .int .i64 ((a0a l0_9 x50_2).f2)] 43 (0, 0)) (by refine qd_ ?_; refine a0d (cs := #[.int .i64 ((a0a l0_9 x50_2).f0), .int .i64 ((a0a l0_9 x50_2).f1), .int .i64 0]) ?_ 2 _ rfl; refine qd_ ?_; refine a0d (cs := #[.int .i64 ((a0a l0_9 x50_2).f0), .int .i64 0, .int .i64 0]) ?_ 1 _ rfl; refine qd_ ?_; refine a0d (cs := #[.int .i64 0, .int .i64 0, .int .i64 0]) ?_ 0 _ rfl; refine qd_ ?_; exact BK218.out) hb); replace HB := qbs_ hb; (try clear hb); (try clear hb2); (try clear hk); (try clear hi))))
         (try simp only [Act.put, List.setIfInBounds_toArray, List.set_cons_zero, List.set_cons_succ])
         go_cut [74] (fun v74 wc => ∃ (kq : Nat) (x74_35 : Bool), v74 = .bool x74_35 ∧ Aside0 (a0c.j3 kq l0_9 (l0_9.length : Int) x50_2 x74_35 a0_0 a0_1 a0_2 a0_3 a0_4 a0_5 a0_6 a0_7 l0_8 l0_9 l0_10 a0_11 l0_12 = some r) ∧ Aside0 (kq ≤ k2) ∧ Aside0 (wc.heap[gb210]? = some (.cells #[.int .i64 a0_0, .int .i64 a0_1, .int .i64 a0_2, .int .i64 a0_3, .bool a0_4, .int .i64 a0_5, .int .i64 a0_6, .int .i64 a0_7, (.slice A0_8 l0_8.length c0_8), (.slice (some ad217) l0_9.length c0_9), (.slice A0_10 l0_10.length c0_10), .string a0_11, (.slice A0_12 l0_12.length c0_12)] 62 (0, 0))) ∧ Aside0 (wc.heap[gb218]? = some (.cells #[.int .i64 ((a0a l0_9 x50_2).f0), .int .i64 ((a0a l0_9 x50_2).f1), .int .i64 ((a0a l0_9 x50_2).f2)] 43 (0, 0))) ∧ Aside0 (Below w.heap.size w wc))
         case first =>
          have H := HC36.out
          clear HC36
          by_cases c42 : ((a0a l0_9 x50_2).f2) = 0
          ·rw [if_pos c42] at H
           have c42b0 : (((a0a l0_9 x50_2).f2) == 0) = true := beq_iff_eq.mpr c42
           have c42b1 : (((a0a l0_9 x50_2).f2) != 0) = false := bne_eq_false_iff_eq.mpr c42
           clear c42
           (first | rw [c42b0] | (simp only [a3h, a3u]; rw [c42b0]) | skip)
           have H' := am_ H
           clear H
           have hnb43 := NB218_210.out
           have hnc43 := NB210_218.out
           obtain ⟨z'44_0, z'44_1, z'44_2⟩ := qz3_ BK218; obtain ⟨y'44_0, y'44_1, y'44_2⟩ := qf3_ BK218
           go_wp2
           repeat (go_quiet (fail); try go_wp2)
           go_meet
           case rel => exact ⟨_, (false), qs_, H', ⟨by have := HK1.out; have := HK2.out; first | omega | exact Nat.le_refl _⟩, ⟨qk_ BK210⟩, ⟨qk_ BK218⟩, ⟨qb_⟩⟩
          ·rw [if_neg c42] at H
           have c42b0 : (((a0a l0_9 x50_2).f2) == 0) = false := beq_eq_false_iff_ne.mpr c42
           have c42b1 : (((a0a l0_9 x50_2).f2) != 0) = true := bne_iff_ne.mpr c42
           (first | rw [c42b0] | (simp only [a3h, a3u]; rw [c42b0]) | skip)
           by_cases c45 : t220 = true
           ·subst c45
            have H1 : (a0c.j3 k2 l0_9 (l0_9.length : Int) x50_2 (((a0a l0_9 x50_2).f2) == ((a0a l0_9 x50_2).f0)) a0_0 a0_1 a0_2 a0_3 a0_4 a0_5 a0_6 a0_7 l0_8 l0_9 l0_10 a0_11 l0_12) = some r := by rw [if_pos rfl] at H; exact H
            clear H
            have H := H1
            clear H1
            have H' := am_ H
            clear H
            have hnb46 := NB218_210.out
            have hnc46 := NB210_218.out
            obtain ⟨z'47_0, z'47_1, z'47_2⟩ := qz3_ BK218; obtain ⟨y'47_0, y'47_1, y'47_2⟩ := qf3_ BK218
            go_wp2
            repeat (go_quiet (fail); try go_wp2)
            go_meet
            case rel => exact ⟨_, ((((a0a l0_9 x50_2).f2) == ((a0a l0_9 x50_2).f0))), qs_, H', ⟨by have := HK1.out; have := HK2.out; first | omega | exact Nat.le_refl _⟩, ⟨qk_ BK210⟩, ⟨qk_ BK218⟩, ⟨qb_⟩⟩
           ·replace c45 := be_ c45
            subst c45
            have H1 : (a0c.j3 k2 l0_9 (l0_9.length : Int) x50_2 true a0_0 a0_1 a0_2 a0_3 a0_4 a0_5 a0_6 a0_7 l0_8 l0_9 l0_10 a0_11 l0_12) = some r := by rw [if_neg (show ¬ (false = true) by decide)] at H; exact H
            clear H
            have H := H1
            clear H1
            have H' := am_ H
            clear H
            have hnb48 := NB218_210.out
            have hnc48 := NB210_218.out
            obtain ⟨z'49_0, z'49_1, z'49_2⟩ := qz3_ BK218; obtain ⟨y'49_0, y'49_1, y'49_2⟩ := qf3_ BK218
            go_wp2
            repeat (go_quiet (fail); try go_wp2)
            go_meet
            case rel => exact ⟨_, (true), qs_, H', ⟨by have := HK1.out; have := HK2.out; first | omega | exact Nat.le_refl _⟩, ⟨qk_ BK210⟩, ⟨qk_ BK218⟩, ⟨qb_⟩⟩
         case rest =>
          clear HC36
          try clear c1
          try clear c2
          try clear p2
          try clear q2
          try clear hx2
          try clear c3
          try clear c4
          try clear c4b0
          try clear c5
          try clear c5b0
          try clear c6
          try clear c6b0
          try clear p6
          try clear c9
          try clear c12
          try clear c13
          try clear c13b0
          try clear c15
          try clear c15b0
          try clear c16
          try clear c16b0
          try clear c17
          try clear c17b0
          try clear c18
          try clear p21
          try clear q21
          try clear hx21
          try clear c22
          try clear c26
          try clear c28
          try clear c30
          try clear c32
          try clear c32b0
          try clear c33
          try clear c33b0
          try clear c34
          try clear c34b0
          try clear c38
          try clear c42
          try clear c42b0
          try clear c42b1
          try clear c43
          try clear c45
          try clear c46
          try clear c48
          try clear z'10_0 z'10_1 z'10_2
          try clear z'19_0 z'19_1 z'19_2
          try clear z'20_0 z'20_1 z'20_10 z'20_11 z'20_12 z'20_2 z'20_3 z'20_4 z'20_5 z'20_6 z'20_7 z'20_8 z'20_9
          try clear z'23_0 z'23_1 z'23_2
          try clear z'24_0 z'24_1 z'24_10 z'24_11 z'24_12 z'24_2 z'24_3 z'24_4 z'24_5 z'24_6 z'24_7 z'24_8 z'24_9
          try clear z'27_0 z'27_1 z'27_2
          try clear z'29_0 z'29_1 z'29_2
          try clear z'31_0 z'31_1 z'31_10 z'31_11 z'31_12 z'31_2 z'31_3 z'31_4 z'31_5 z'31_6 z'31_7 z'31_8 z'31_9
          try clear z'39_0 z'39_1 z'39_2
          try clear z'3_0 z'3_1 z'3_10 z'3_11 z'3_12 z'3_2 z'3_3 z'3_4 z'3_5 z'3_6 z'3_7 z'3_8 z'3_9
          try clear z'40_0 z'40_1 z'40_10 z'40_11 z'40_12 z'40_2 z'40_3 z'40_4 z'40_5 z'40_6 z'40_7 z'40_8 z'40_9
          try clear z'44_0 z'44_1 z'44_2
          try clear z'47_0 z'47_1 z'47_2
          try clear z'49_0 z'49_1 z'49_2
          try clear y'10_0 y'10_1 y'10_2
          try clear y'19_0 y'19_1 y'19_2
          try clear y'20_0 y'20_1 y'20_10 y'20_11 y'20_12 y'20_2 y'20_3 y'20_4 y'20_5 y'20_6 y'20_7 y'20_8 y'20_9
          try clear y'23_0 y'23_1 y'23_2
          try clear y'24_0 y'24_1 y'24_10 y'24_11 y'24_12 y'24_2 y'24_3 y'24_4 y'24_5 y'24_6 y'24_7 y'24_8 y'24_9
          try clear y'27_0 y'27_1 y'27_2
          try clear y'29_0 y'29_1 y'29_2
          try clear y'31_0 y'31_1 y'31_10 y'31_11 y'31_12 y'31_2 y'31_3 y'31_4 y'31_5 y'31_6 y'31_7 y'31_8 y'31_9
          try clear y'39_0 y'39_1 y'39_2
          try clear y'3_0 y'3_1 y'3_10 y'3_11 y'3_12 y'3_2 y'3_3 y'3_4 y'3_5 y'3_6 y'3_7 y'3_8 y'3_9
          try clear y'40_0 y'40_1 y'40_10 y'40_11 y'40_12 y'40_2 y'40_3 y'40_4 y'40_5 y'40_6 y'40_7 y'40_8 y'40_9
          try clear y'44_0 y'44_1 y'44_2
          try clear y'47_0 y'47_1 y'47_2
          try clear y'49_0 y'49_1 y'49_2
          try clear hx211_0
          try clear hx211_1
          try clear hx211_2
          try clear hx214_0
          try clear hx214_1
          try clear hx214_2
          try clear hx217_0
          try clear hx217_1
          try clear hx217_2
          try clear p2
          try clear p21
          try clear p211
          try clear p214
          try clear p217
          try clear p6
          try clear q2
          try clear q21
          try clear q211
          try clear q214
          try clear q217
          obtain ⟨kq, x74_35, rfl, HA, HJ35, BK210, BK218, HB⟩ := hcut
          cases kq with
          | zero => exact absurd HA.out (by simp [a0c.j3])
          | succ kj35 =>
           have H := HA.out
           clear HA
           simp only [a0c.j3] at H
           by_cases c50 : x74_35 = true
           ·subst c50
            have H1 : (some false) = some r := by rw [if_pos rfl] at H; exact H
            clear H
            have H := H1
            clear H1
            obtain rfl := si_ H
            go_wp2
            repeat (go_quiet (fail); try go_wp2)
            go_ret
            exact ⟨qx_, qb_⟩
           ·replace c50 := be_ c50
            subst c50
            have H1 : (a0c.l1 kj35 l0_9 (l0_9.length : Int) (wrap64 (x50_2 + 1)) a0_0 a0_1 a0_2 a0_3 a0_4 a0_5 a0_6 a0_7 l0_8 l0_9 l0_10 a0_11 l0_12) = some r := by rw [if_neg (show ¬ (false = true) by decide)] at H; exact H
            clear H
            have H := H1
            clear H1
            have H' := am_ H
            clear H
            go_wp2
            repeat (go_quiet (fail); try go_wp2)
            go_roundg kj35
            case measure => have := HK1.out; have := HK2.out; have := HJ35.out; omega
            case rel => exact ⟨(wrap64 (x50_2 + 1)), qs_, H', ⟨by have := HK1.out; have := HK2.out; have := HJ35.out; omega⟩, ⟨qk_ BK210⟩, ⟨qb_⟩⟩
        ·rw [if_neg c34] at H
         exact absurd H (by simp)
       ·rw [if_neg c33] at H
        exact absurd H (by simp)
      ·rw [if_neg c32] at H
       have c32b0 : decide (x50_2 < (l0_9.length : Int)) = false := decide_eq_false c32
       clear c32
       obtain rfl := si_ H
       obtain ⟨z'51_0, z'51_1, z'51_2, z'51_3, z'51_4, z'51_5, z'51_6, z'51_7, z'51_8, z'51_9, z'51_10, z'51_11, z'51_12⟩ := a1u BK210; obtain ⟨y'51_0, y'51_1, y'51_2, y'51_3, y'51_4, y'51_5, y'51_6, y'51_7, y'51_8, y'51_9, y'51_10, y'51_11, y'51_12⟩ := a1v BK210
       go_wp2
       repeat (go_quiet (fail); try go_wp2)
       go_ret
       exact ⟨qx_, qb_⟩
end Go.Proofs.Ytemnlgefngjliaa.Px
