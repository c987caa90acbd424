/- Contracts of Go functions, printed. Conditions: as each theorem states. -/
import Derived.Test.YtemnlgefngjliaaPx0
import Derived.Test.YtemnlgefngjliaaGMap
import Derived.Test.YtemnlgefngjliaaPx15
import Derived.Test.YtemnlgefngjliaaPx17
import Derived.Test.YtemnlgefngjliaaPx22
import Derived.Test.YtemnlgefngjliaaPx31
import Derived.Test.YtemnlgefngjliaaPx34
namespace Go.Proofs.Ytemnlgefngjliaa.Px
open Go.Proofs.Ytemnlgefngjliaa.Given
open Go.RowKit Go.Proofs.YtemnlgefngjliaaW.PrintWords Go.Proofs.YtemnlgefngjliaaW.PrintLast Go.Proofs.YtemnlgefngjliaaW.PrintMore
attribute [local go_sem] a2h a2i a2t a2u a1x a1y a2j a2k
set_option linter.unusedVariables false
set_option linter.unusedSimpArgs false
mutual
def a0e.j0 : Nat → ByteArray → Bool → Bool → Int → Int → Int → Int → Bool → Int → Int → Int → List ByteArray → List (S43) → List Int → Option (Bool)
 | 0, _, _, _, _, _, _, _, _, _, _, _, _, _, _ => none
 | k + 1, x2, x7, x26, u0, u1, u2, u3, u4, u5, u6, u7, u8, u9, u10 => if x26 = true then (some x7) else (a0e.l0 k x2 x7 0 u9 (u9.length : Int) 0 u0 u1 u2 u3 u4 u5 u6 u7 u8 u9 u10 ([] : List (Int × Int)))
def a0e.l0 : Nat → ByteArray → Bool → Int → List (S43) → Int → Int → Int → Int → Int → Int → Bool → Int → Int → Int → List ByteArray → List (S43) → List Int → List (Int × Int) → Option (Bool)
 | 0, _, _, _, _, _, _, _, _, _, _, _, _, _, _, _, _, _, _ => none
 | k + 1, x2, x7, x9, x30, x31, x32, u0, u1, u2, u3, u4, u5, u6, u7, u8, u9, u10, u11 => if x32 < x31 then (if 0 ≤ x32 then (if x32 < (x30.length : Int) then (if ((a0a x30 x32).f2) = 0 then (a0e.j2 k x2 x7 x9 x30 x31 x32 false u0 u1 u2 u3 u4 u5 u6 u7 u8 u9 u10 u11 ((a0a x30 x32).f0) ((a0a x30 x32).f1) ((a0a x30 x32).f2)) else ((a2b.f k u5 u6 u7 u8 u9 u10 ((a0a x30 x32).f0)).bind fun t634 => (if t634 = true then (a0e.j2 k x2 x7 x9 x30 x31 x32 false u0 u1 u2 u3 u4 u5 u6 u7 u8 u9 u10 u11 ((a0a x30 x32).f0) ((a0a x30 x32).f1) ((a0a x30 x32).f2)) else ((a2b.f k u5 u6 u7 u8 u9 u10 ((a0a x30 x32).f2)).bind fun t635 => (a0e.j2 k x2 x7 x9 x30 x31 x32 t635 u0 u1 u2 u3 u4 u5 u6 u7 u8 u9 u10 u11 ((a0a x30 x32).f0) ((a0a x30 x32).f1) ((a0a x30 x32).f2)))))) else (none)) else (none)) else ((a2c.f k u0 u1 u2 u3 u4 u5 u6 u7 u8 u9 u10 x2 ([] : List Int) 4).bind fun bt636 => ((a2c.f k u0 u1 u2 (mn (wrap64 (u3 + 1)) 64) u4 u5 u6 u7 u8 u9 u10 x2 ([] : List Int) 4).bind fun bt638 => (if x7 = true then (if bt636.2 = true then (if bt638.2 = true then (if (bt636.1 == (decide (x9 > u3))) = true then (if bt636.1 = true then (some true) else (some (!bt638.1))) else (some false)) else (some false)) else (some false)) else (some false))))
def a0e.j2 : Nat → ByteArray → Bool → Int → List (S43) → Int → Int → Bool → Int → Int → Int → Int → Bool → Int → Int → Int → List ByteArray → List (S43) → List Int → List (Int × Int) → Int → Int → Int → Option (Bool)
 | 0, _, _, _, _, _, _, _, _, _, _, _, _, _, _, _, _, _, _, _, _, _, _ => none
 | k + 1, x2, x7, x9, x30, x31, x32, x51, u0, u1, u2, u3, u4, u5, u6, u7, u8, u9, u10, u11, u12, u13, u14 => if x51 = true then (a0e.l0 k x2 x7 (mx x9 (a3r (mput u11 u14 (wrap64 ((a3r u11 u14) + 1))) u14)) x30 x31 (wrap64 (x32 + 1)) u0 u1 u2 u3 u4 u5 u6 u7 u8 u9 u10 (mput u11 u14 (wrap64 ((a3r u11 u14) + 1)))) else (a0e.l0 k x2 x7 x9 x30 x31 (wrap64 (x32 + 1)) u0 u1 u2 u3 u4 u5 u6 u7 u8 u9 u10 u11)
end
def a0e.f (k : Nat) (a0_0 a0_1 a0_2 a0_3 : Int) (a0_4 : Bool) (a1_0 a1_1 a1_2 : Int) (l1_3 : List ByteArray) (l1_4 : List (S43)) (l1_5 : List Int) (a2 : ByteArray) : Option (Bool) := (a0h.f k).bind fun t628 => ((a3q.f k a0_0 a0_1 a0_2 a0_3 a0_4 a1_0 a1_1 a1_2 l1_3 l1_4 l1_5).bind fun t629 => (if t629 = true then ((a1e.f k a2).bind fun t630 => (a0e.j0 k a2 t628 (!t630) a0_0 a0_1 a0_2 a0_3 a0_4 a1_0 a1_1 a1_2 l1_3 l1_4 l1_5)) else (a0e.j0 k a2 t628 true a0_0 a0_1 a0_2 a0_3 a0_4 a1_0 a1_1 a1_2 l1_3 l1_4 l1_5)))
theorem a0e.a0v : ∀ k, (∀ y0 y1 y2 y3 y4 y5 y6 y7 y8 y9 y10 y11 y12 y13, LeO (a0e.j0 k y0 y1 y2 y3 y4 y5 y6 y7 y8 y9 y10 y11 y12 y13) (a0e.j0 (k + 1) y0 y1 y2 y3 y4 y5 y6 y7 y8 y9 y10 y11 y12 y13)) ∧ (∀ y0 y1 y2 y3 y4 y5 y6 y7 y8 y9 y10 y11 y12 y13 y14 y15 y16 y17, LeO (a0e.l0 k y0 y1 y2 y3 y4 y5 y6 y7 y8 y9 y10 y11 y12 y13 y14 y15 y16 y17) (a0e.l0 (k + 1) y0 y1 y2 y3 y4 y5 y6 y7 y8 y9 y10 y11 y12 y13 y14 y15 y16 y17)) ∧ (∀ y0 y1 y2 y3 y4 y5 y6 y7 y8 y9 y10 y11 y12 y13 y14 y15 y16 y17 y18 y19 y20 y21, LeO (a0e.j2 k y0 y1 y2 y3 y4 y5 y6 y7 y8 y9 y10 y11 y12 y13 y14 y15 y16 y17 y18 y19 y20 y21) (a0e.j2 (k + 1) y0 y1 y2 y3 y4 y5 y6 y7 y8 y9 y10 y11 y12 y13 y14 y15 y16 y17 y18 y19 y20 y21))
 | 0 => ⟨fun _ _ _ _ _ _ _ _ _ _ _ _ _ _ r h => by simp [a0e.j0] at h, fun _ _ _ _ _ _ _ _ _ _ _ _ _ _ _ _ _ _ r h => by simp [a0e.l0] at h, fun _ _ _ _ _ _ _ _ _ _ _ _ _ _ _ _ _ _ _ _ _ _ r h => by simp [a0e.j2] at h⟩
 | k + 1 => by
  obtain ⟨ih0, ih1, ih2⟩ := a0e.a0v k
  refine ⟨?_, ?_, ?_⟩
  ·intro y0 y1 y2 y3 y4 y5 y6 y7 y8 y9 y10 y11 y12 y13
   unfold a0e.j0
   with_reducible (repeat' first | apply ih0 | apply ih1 | apply ih2 | apply a2c.mono | apply a0h.mono | apply a3q.mono | apply a2b.mono | apply a1e.mono | apply LeO.refl | apply LeO.none | apply LeO.ite | refine LeO.bind ?_ (fun _ => ?_))
  ·intro y0 y1 y2 y3 y4 y5 y6 y7 y8 y9 y10 y11 y12 y13 y14 y15 y16 y17
   unfold a0e.l0
   with_reducible (repeat' first | apply ih0 | apply ih1 | apply ih2 | apply a2c.mono | apply a0h.mono | apply a3q.mono | apply a2b.mono | apply a1e.mono | apply LeO.refl | apply LeO.none | apply LeO.ite | refine LeO.bind ?_ (fun _ => ?_))
  ·intro y0 y1 y2 y3 y4 y5 y6 y7 y8 y9 y10 y11 y12 y13 y14 y15 y16 y17 y18 y19 y20 y21
   unfold a0e.j2
   with_reducible (repeat' first | apply ih0 | apply ih1 | apply ih2 | apply a2c.mono | apply a0h.mono | apply a3q.mono | apply a2b.mono | apply a1e.mono | apply LeO.refl | apply LeO.none | apply LeO.ite | refine LeO.bind ?_ (fun _ => ?_))
theorem a0e.mono : ∀ a0 a1 a2 a3 a4 a5 a6 a7 a8 a9 a10 a11 k, LeO (a0e.f k a0 a1 a2 a3 a4 a5 a6 a7 a8 a9 a10 a11) (a0e.f (k + 1) a0 a1 a2 a3 a4 a5 a6 a7 a8 a9 a10 a11) := by
 intro a0 a1 a2 a3 a4 a5 a6 a7 a8 a9 a10 a11 k
 obtain ⟨ih0, ih1, ih2⟩ := a0e.a0v k
 unfold a0e.f
 with_reducible (repeat' first | apply ih0 | apply ih1 | apply ih2 | apply a2c.mono | apply a0h.mono | apply a3q.mono | apply a2b.mono | apply a1e.mono | apply LeO.refl | apply LeO.none | apply LeO.ite | refine LeO.bind ?_ (fun _ => ?_))
set_option maxHeartbeats 8000000 in
set_option maxRecDepth 100000 in
theorem a0e.calls (k : Nat) (a0_0 a0_1 a0_2 a0_3 : Int) (a0_4 : Bool) (a1_0 a1_1 a1_2 : Int) (A1_3 : Option Addr) (c1_3 : Nat) (l1_3 : List ByteArray) (A1_4 : Option Addr) (c1_4 : Nat) (l1_4 : List (S43)) (A1_5 : Option Addr) (c1_5 : Nat) (l1_5 : List Int) (a2 : ByteArray) (r : Bool) (w : World) (hr1_3 : Kd.C Kd.string w A1_3 l1_3.length l1_3) (hc1_3 : l1_3.length ≤ c1_3) (hr1_4 : Kd.C k43 w A1_4 l1_4.length l1_4) (hc1_4 : l1_4.length ≤ c1_4) (hr1_5 : Kd.C (Kd.int .i64) w A1_5 l1_5.length l1_5) (hc1_5 : l1_5.length ≤ c1_5) (h : a0e.f k a0_0 a0_1 a0_2 a0_3 a0_4 a1_0 a1_1 a1_2 l1_3 l1_4 l1_5 a2 = some r) :
  Calls Try.prog 10 #[.agg #[.int .i64 a0_0, .int .i64 a0_1, .int .i64 a0_2, .int .i64 a0_3, .bool a0_4], .agg #[.int .i64 a1_0, .int .i64 a1_1, .int .i64 a1_2, .slice A1_3 l1_3.length c1_3, .slice A1_4 l1_4.length c1_4, .slice A1_5 l1_5.length c1_5], .string a2] w fun e w' => e = .returned (.bool r) ∧ Below w.heap.size w w' := by
 have hu25 := Try.underlying25
 have hu30 := Try.underlying30
 have hu43 := Try.underlying43
 have HR1_3 := am_ hr1_3
 have HC1_3 := am_ hc1_3
 clear hr1_3 hc1_3
 have HR1_4 := am_ hr1_4
 have HC1_4 := am_ hc1_4
 clear hr1_4 hc1_4
 have HR1_5 := am_ hr1_5
 have HC1_5 := am_ hc1_5
 clear hr1_5 hc1_5
 have HB := am_ (Below.refl w.heap.size w)
 have H : ((a0h.f k).bind fun t628 => ((a3q.f k a0_0 a0_1 a0_2 a0_3 a0_4 a1_0 a1_1 a1_2 l1_3 l1_4 l1_5).bind fun t629 => (if t629 = true then ((a1e.f k a2).bind fun t630 => (a0e.j0 k a2 t628 (!t630) a0_0 a0_1 a0_2 a0_3 a0_4 a1_0 a1_1 a1_2 l1_3 l1_4 l1_5)) else (a0e.j0 k a2 t628 true a0_0 a0_1 a0_2 a0_3 a0_4 a1_0 a1_1 a1_2 l1_3 l1_4 l1_5)))) = some r := h
 clear h
 replace H := bm_ H
 obtain ⟨t628, A40, H⟩ := H
 replace H : ((a3q.f k a0_0 a0_1 a0_2 a0_3 a0_4 a1_0 a1_1 a1_2 l1_3 l1_4 l1_5).bind fun t629 => (if t629 = true then ((a1e.f k a2).bind fun t630 => (a0e.j0 k a2 t628 (!t630) a0_0 a0_1 a0_2 a0_3 a0_4 a1_0 a1_1 a1_2 l1_3 l1_4 l1_5)) else (a0e.j0 k a2 t628 true a0_0 a0_1 a0_2 a0_3 a0_4 a1_0 a1_1 a1_2 l1_3 l1_4 l1_5))) = some r := H
 have A4 := am_ A40
 clear A40
 have HC5 := am_ H
 clear H
 go_enter Try.func10, Try.ntmps10
 go_upto_region 2 with (first | ((with_reducible refine a0d (N := 3) rfl ?_); refine qev_ 3 #[.int .i64 a0_0, .int .i64 a0_1, .int .i64 a0_2, .int .i64 a0_3, .bool a0_4] 25 ?_; intro gb626 hg w6 hbox hb; have BK626 := am_ (hbox); have GW626 := qga_ hg; have GE626 := qga_ hg; replace HB := qbs_ hb; clear hb hbox hg) | ((with_reducible refine a0d (N := 4) rfl ?_); refine qev_ 4 #[.int .i64 a1_0, .int .i64 a1_1, .int .i64 a1_2, .slice A1_3 l1_3.length c1_3, .slice A1_4 l1_4.length c1_4, .slice A1_5 l1_5.length c1_5] 30 ?_; intro gb627 hg w7 hbox hb; have BK627 := am_ (hbox); have GW627 := qga_ hg; have GE627 := qga_ hg; replace HB := qbs_ hb; have NB626_627 := am_ ((by rw [hg]; exact Nat.ne_of_lt (a0y (qk_ BK626)) : gb626 ≠ gb627)); have NB627_626 := am_ ((by rw [hg]; exact Nat.ne_of_gt (a0y (qk_ BK626)) : gb627 ≠ gb626)); replace BK626 := qkb_ BK626 hb; clear hb hbox hg) | ((with_reducible refine a0b (f := 11) rfl ?_); refine a0p (some 17) rfl rfl Try.func11 (by kernel_rfl) rfl #[] rfl ql_ ?_; (with_reducible refine (a0h.calls k  t628 _ A4.out).mono ?_); rintro e w8 ⟨rfl, hb⟩; refine ⟨_, rfl, ?_⟩; replace BK626 := qkb_ BK626 hb; replace BK627 := qkb_ BK627 hb; replace HB := qbs_ hb; (try clear hb); (try clear hb2); (try clear hk); (try clear hi)))
 (try simp only [Act.put, List.setIfInBounds_toArray, List.set_cons_zero, List.set_cons_succ])
 go_cut [26] (fun v26 wc => ∃ (kq : Nat) (x26_4 : Bool), v26 = .bool x26_4 ∧ Aside0 (a0e.j0 kq a2 t628 x26_4 a0_0 a0_1 a0_2 a0_3 a0_4 a1_0 a1_1 a1_2 l1_3 l1_4 l1_5 = some r) ∧ Aside0 (kq ≤ k) ∧ Aside0 (wc.heap[gb626]? = some (.cells #[.int .i64 a0_0, .int .i64 a0_1, .int .i64 a0_2, .int .i64 a0_3, .bool a0_4] 25 (0, 0))) ∧ Aside0 (wc.heap[gb627]? = some (.cells #[.int .i64 a1_0, .int .i64 a1_1, .int .i64 a1_2, (.slice A1_3 l1_3.length c1_3), (.slice A1_4 l1_4.length c1_4), (.slice A1_5 l1_5.length c1_5)] 30 (0, 0))) ∧ Aside0 (Below w.heap.size w wc))
 case first =>
  have H := HC5.out
  clear HC5
  replace H := bm_ H
  obtain ⟨t629, A90, H⟩ := H
  replace H : (if t629 = true then ((a1e.f k a2).bind fun t630 => (a0e.j0 k a2 t628 (!t630) a0_0 a0_1 a0_2 a0_3 a0_4 a1_0 a1_1 a1_2 l1_3 l1_4 l1_5)) else (a0e.j0 k a2 t628 true a0_0 a0_1 a0_2 a0_3 a0_4 a1_0 a1_1 a1_2 l1_3 l1_4 l1_5)) = some r := H
  have A9 := am_ A90
  clear A90
  by_cases c10 : t629 = true
  ·subst c10
   have H1 : ((a1e.f k a2).bind fun t630 => (a0e.j0 k a2 t628 (!t630) a0_0 a0_1 a0_2 a0_3 a0_4 a1_0 a1_1 a1_2 l1_3 l1_4 l1_5)) = some r := by rw [if_pos rfl] at H; exact H
   clear H
   have H := H1
   clear H1
   replace H := bm_ H
   obtain ⟨t630, A110, H⟩ := H
   replace H : (a0e.j0 k a2 t628 (!t630) a0_0 a0_1 a0_2 a0_3 a0_4 a1_0 a1_1 a1_2 l1_3 l1_4 l1_5) = some r := H
   have A11 := am_ A110
   clear A110
   have H' := am_ H
   clear H
   have hnb12 := NB626_627.out
   have hnc12 := NB627_626.out
   obtain ⟨z'13_0, z'13_1, z'13_2, z'13_3, z'13_4⟩ := qz5_ BK626; obtain ⟨y'13_0, y'13_1, y'13_2, y'13_3, y'13_4⟩ := qf5_ BK626
   obtain ⟨z'14_0, z'14_1, z'14_2, z'14_3, z'14_4, z'14_5⟩ := qz6_ BK627; obtain ⟨y'14_0, y'14_1, y'14_2, y'14_3, y'14_4, y'14_5⟩ := qf6_ BK627
   go_wp2_with (first | ((with_reducible refine a0b (f := 22) rfl ?_); refine a0p (some 20) rfl rfl Try.func22 (by kernel_rfl) rfl #[.agg #[.int .i64 a0_0, .int .i64 a0_1, .int .i64 a0_2, .int .i64 a0_3, .bool a0_4], .agg #[.int .i64 a1_0, .int .i64 a1_1, .int .i64 a1_2, .slice A1_3 l1_3.length c1_3, .slice A1_4 l1_4.length c1_4, .slice A1_5 l1_5.length c1_5]] rfl ql_ ?_; (with_reducible refine (a3q.calls k a0_0 a0_1 a0_2 a0_3 a0_4 a1_0 a1_1 a1_2 _ _ l1_3 _ _ l1_4 _ _ l1_5 true _ ?s1 ?s2 ?s3 ?s4 ?s5 ?s6 A9.out).mono ?_); (case s1 => exact qc_ HR1_3); (case s2 => exact HC1_3.out); (case s3 => exact qc_ HR1_4); (case s4 => exact HC1_4.out); (case s5 => exact qc_ HR1_5); (case s6 => exact HC1_5.out); rintro e w15 ⟨rfl, hb⟩; refine ⟨_, rfl, ?_⟩; replace BK626 := qkb_ BK626 hb; replace BK627 := qkb_ BK627 hb; replace HB := qbs_ hb; (try clear hb); (try clear hb2); (try clear hk); (try clear hi)) | (go_at_call 25; (with_reducible refine (a1e.calls k a2 t630 _ A11.out).mono ?_); rintro e w' ⟨rfl, ⟨nd, rfl⟩⟩))
   go_meet
   case rel => exact ⟨_, (!t630), qs_, H', ⟨qo_⟩, ⟨qk_ BK626⟩, ⟨qk_ BK627⟩, ⟨qb_⟩⟩
  ·replace c10 := be_ c10
   subst c10
   have H1 : (a0e.j0 k a2 t628 true a0_0 a0_1 a0_2 a0_3 a0_4 a1_0 a1_1 a1_2 l1_3 l1_4 l1_5) = some r := by rw [if_neg (show ¬ (false = true) by decide)] at H; exact H
   clear H
   have H := H1
   clear H1
   have H' := am_ H
   clear H
   have hnb16 := NB626_627.out
   have hnc16 := NB627_626.out
   obtain ⟨z'17_0, z'17_1, z'17_2, z'17_3, z'17_4⟩ := qz5_ BK626; obtain ⟨y'17_0, y'17_1, y'17_2, y'17_3, y'17_4⟩ := qf5_ BK626
   obtain ⟨z'18_0, z'18_1, z'18_2, z'18_3, z'18_4, z'18_5⟩ := qz6_ BK627; obtain ⟨y'18_0, y'18_1, y'18_2, y'18_3, y'18_4, y'18_5⟩ := qf6_ BK627
   go_wp2_with (first | ((with_reducible refine a0b (f := 22) rfl ?_); refine a0p (some 20) rfl rfl Try.func22 (by kernel_rfl) rfl #[.agg #[.int .i64 a0_0, .int .i64 a0_1, .int .i64 a0_2, .int .i64 a0_3, .bool a0_4], .agg #[.int .i64 a1_0, .int .i64 a1_1, .int .i64 a1_2, .slice A1_3 l1_3.length c1_3, .slice A1_4 l1_4.length c1_4, .slice A1_5 l1_5.length c1_5]] rfl ql_ ?_; (with_reducible refine (a3q.calls k a0_0 a0_1 a0_2 a0_3 a0_4 a1_0 a1_1 a1_2 _ _ l1_3 _ _ l1_4 _ _ l1_5 false _ ?s1 ?s2 ?s3 ?s4 ?s5 ?s6 A9.out).mono ?_); (case s1 => exact qc_ HR1_3); (case s2 => exact HC1_3.out); (case s3 => exact qc_ HR1_4); (case s4 => exact HC1_4.out); (case s5 => exact qc_ HR1_5); (case s6 => exact HC1_5.out); rintro e w19 ⟨rfl, hb⟩; refine ⟨_, rfl, ?_⟩; replace BK626 := qkb_ BK626 hb; replace BK627 := qkb_ BK627 hb; replace HB := qbs_ hb; (try clear hb); (try clear hb2); (try clear hk); (try clear hi)))
   go_meet
   case rel => exact ⟨_, (true), qs_, H', ⟨qo_⟩, ⟨qk_ BK626⟩, ⟨qk_ BK627⟩, ⟨qb_⟩⟩
 case rest =>
  clear HC5
  try clear c1
  try clear c2
  try clear p2
  try clear c10
  try clear c11
  try clear c12
  try clear c16
  try clear z'13_0 z'13_1 z'13_2 z'13_3 z'13_4
  try clear z'14_0 z'14_1 z'14_2 z'14_3 z'14_4 z'14_5
  try clear z'17_0 z'17_1 z'17_2 z'17_3 z'17_4
  try clear z'18_0 z'18_1 z'18_2 z'18_3 z'18_4 z'18_5
  try clear y'13_0 y'13_1 y'13_2 y'13_3 y'13_4
  try clear y'14_0 y'14_1 y'14_2 y'14_3 y'14_4 y'14_5
  try clear y'17_0 y'17_1 y'17_2 y'17_3 y'17_4
  try clear y'18_0 y'18_1 y'18_2 y'18_3 y'18_4 y'18_5
  obtain ⟨kq, x26_4, rfl, HA, HJ4, BK626, BK627, HB⟩ := hcut
  cases kq with
  | zero => exact absurd HA.out (by simp [a0e.j0])
  | succ kj4 =>
   have H := HA.out
   clear HA
   simp only [a0e.j0] at H
   by_cases c20 : x26_4 = true
   ·subst c20
    have H1 : (some t628) = some r := by rw [if_pos rfl] at H; exact H
    clear H
    have H := H1
    clear H1
    obtain rfl := si_ H
    go_wp2
    go_ret
    exact ⟨qx_, qb_⟩
   ·replace c20 := be_ c20
    subst c20
    have H1 : (a0e.l0 kj4 a2 t628 0 l1_4 (l1_4.length : Int) 0 a0_0 a0_1 a0_2 a0_3 a0_4 a1_0 a1_1 a1_2 l1_3 l1_4 l1_5 ([] : List (Int × Int))) = some r := by rw [if_neg (show ¬ (false = true) by decide)] at H; exact H
    clear H
    have H := H1
    clear H1
    have H' := am_ H
    clear H
    go_wp2_with (first | ((with_reducible refine a0d (N := 28) rfl ?_); refine b4f (Value.int .i64) ?hg (N := 28) ?hd (T := 58) ?ho ?_; (case hg => rfl); (case hd => rfl); (case ho => rfl); intro gb631 hg w21 hbox hb; have BK631 := am_ (hbox); have GW631 := qga_ hg; have GE631 := qga_ hg; replace HB := qbs_ hb; have NB626_631 := am_ ((by rw [hg]; exact Nat.ne_of_lt (a0y (qk_ BK626)) : gb626 ≠ gb631)); have NB631_626 := am_ ((by rw [hg]; exact Nat.ne_of_gt (a0y (qk_ BK626)) : gb631 ≠ gb626)); replace BK626 := qkb_ BK626 hb; have NB627_631 := am_ ((by rw [hg]; exact Nat.ne_of_lt (a0y (qk_ BK627)) : gb627 ≠ gb631)); have NB631_627 := am_ ((by rw [hg]; exact Nat.ne_of_gt (a0y (qk_ BK627)) : gb631 ≠ gb627)); replace BK627 := qkb_ BK627 hb; clear hb hbox hg; have hnb22 := NB627_626.out; have hnc22 := NB626_627.out; have hnb23 := NB627_631.out; have hnc23 := NB631_627.out; obtain ⟨z'24_0, z'24_1, z'24_2, z'24_3, z'24_4, z'24_5⟩ := qz6_ BK627; obtain ⟨y'24_0, y'24_1, y'24_2, y'24_3, y'24_4, y'24_5⟩ := qf6_ BK627))
    go_loopg [9, 32] kj4 (fun kq v9 v32 w' => ∃ (x9_2 : Int) (x32_2 : Int) (x632000_2 : List (Int × Int)), v9 = .int .i64 x9_2 ∧ v32 = .int .i64 x32_2 ∧ Aside0 (a0e.l0 kq a2 t628 x9_2 l1_4 (l1_4.length : Int) x32_2 a0_0 a0_1 a0_2 a0_3 a0_4 a1_0 a1_1 a1_2 l1_3 l1_4 l1_5 x632000_2 = some r) ∧ Aside0 (kq ≤ kj4) ∧ Aside0 (w'.heap[gb626]? = some (.cells #[.int .i64 a0_0, .int .i64 a0_1, .int .i64 a0_2, .int .i64 a0_3, .bool a0_4] 25 (0, 0))) ∧ Aside0 (w'.heap[gb627]? = some (.cells #[.int .i64 a1_0, .int .i64 a1_1, .int .i64 a1_2, (.slice A1_3 l1_3.length c1_3), (.slice A1_4 l1_4.length c1_4), (.slice A1_5 l1_5.length c1_5)] 30 (0, 0))) ∧ Aside0 (w'.heap[gb631]? = some (a3b (Value.int .i64) x632000_2)) ∧ Aside0 (Below w.heap.size w w'))
    case atStart => exact ⟨(0), (0), (([] : List (Int × Int))), qs_, qs_, H', ⟨Nat.le_refl _⟩, ⟨qk_ BK626⟩, ⟨qk_ BK627⟩, ⟨qk_ BK631⟩, ⟨qb_⟩⟩
    case round =>
     clear H'
     try clear c1
     try clear c2
     try clear p2
     try clear c10
     try clear c11
     try clear c12
     try clear c16
     try clear c20
     try clear c22
     try clear c23
     try clear z'13_0 z'13_1 z'13_2 z'13_3 z'13_4
     try clear z'14_0 z'14_1 z'14_2 z'14_3 z'14_4 z'14_5
     try clear z'17_0 z'17_1 z'17_2 z'17_3 z'17_4
     try clear z'18_0 z'18_1 z'18_2 z'18_3 z'18_4 z'18_5
     try clear z'24_0 z'24_1 z'24_2 z'24_3 z'24_4 z'24_5
     try clear y'13_0 y'13_1 y'13_2 y'13_3 y'13_4
     try clear y'14_0 y'14_1 y'14_2 y'14_3 y'14_4 y'14_5
     try clear y'17_0 y'17_1 y'17_2 y'17_3 y'17_4
     try clear y'18_0 y'18_1 y'18_2 y'18_3 y'18_4 y'18_5
     try clear y'24_0 y'24_1 y'24_2 y'24_3 y'24_4 y'24_5
     try clear p2
     obtain ⟨x9_2, x32_2, x632000_2, rfl, rfl, HA, HK2, BK626, BK627, BK631, HB⟩ := hrel
     cases gk with
     | zero => exact absurd HA.out (by simp [a0e.l0])
     | succ k2 =>
      have H := HA.out
      clear HA
      simp only [a0e.l0] at H
      by_cases c25 : x32_2 < (l1_4.length : Int)
      ·rw [if_pos c25] at H
       have c25b0 : decide (x32_2 < (l1_4.length : Int)) = true := decide_eq_true c25
       clear c25
       by_cases c26 : 0 ≤ x32_2
       ·rw [if_pos c26] at H
        have c26b0 : decide (0 ≤ x32_2) = true := decide_eq_true c26
        clear c26
        by_cases c27 : x32_2 < (l1_4.length : Int)
        ·rw [if_pos c27] at H
         have c27b0 : decide (x32_2 < (l1_4.length : Int)) = true := decide_eq_true c27
         clear c27
         have HC28 := am_ H
         clear H
         have p632 : 0 ≤ (x32_2 : Int) := ot_
         have q632 : x32_2 < (l1_4.length : Int) := ot_
         obtain ⟨ad632, e632, hx632_0, hx632_1, hx632_2⟩ := a2d HR1_4.out x32_2 p632 q632
         cases e632
         replace hx632_0 := qh_ HB hx632_0
         replace hx632_1 := qh_ HB hx632_1
         replace hx632_2 := qh_ HB hx632_2
         replace p632 := eq_true p632
         replace q632 := eq_true q632
         go_upto_region 9 with (first | ((with_reducible refine a0d (N := 11) rfl ?_); refine qev_ 11 #[.int .i64 0, .int .i64 0, .int .i64 0] 43 ?_; intro gb633 hg w29 hbox hb; have BK633 := am_ (hbox); have GW633 := qga_ hg; have GE633 := qga_ hg; replace HB := qbs_ hb; have NB626_633 := am_ ((by rw [hg]; exact Nat.ne_of_lt (a0y (qk_ BK626)) : gb626 ≠ gb633)); have NB633_626 := am_ ((by rw [hg]; exact Nat.ne_of_gt (a0y (qk_ BK626)) : gb633 ≠ gb626)); replace BK626 := qkb_ BK626 hb; have NB627_633 := am_ ((by rw [hg]; exact Nat.ne_of_lt (a0y (qk_ BK627)) : gb627 ≠ gb633)); have NB633_627 := am_ ((by rw [hg]; exact Nat.ne_of_gt (a0y (qk_ BK627)) : gb633 ≠ gb627)); replace BK627 := qkb_ BK627 hb; have NB631_633 := am_ ((by rw [hg]; exact Nat.ne_of_lt (a0y (g := gb631) (o := a3b (Value.int .i64) x632000_2) (qk_ BK631)) : gb631 ≠ gb633)); have NB633_631 := am_ ((by rw [hg]; exact Nat.ne_of_gt (a0y (g := gb631) (o := a3b (Value.int .i64) x632000_2) (qk_ BK631)) : gb633 ≠ gb631)); replace BK631 := am_ (a1f (g := gb631) (o := a3b (Value.int .i64) x632000_2) (qk_ BK631) hb); clear hb hbox hg; have hnb30 := NB633_626.out; have hnc30 := NB626_633.out; have hnb31 := NB633_627.out; have hnc31 := NB627_633.out; have hnb32 := NB633_631.out; have hnc32 := NB631_633.out; obtain ⟨z'33_0, z'33_1, z'33_2⟩ := qz3_ BK633; obtain ⟨y'33_0, y'33_1, y'33_2⟩ := qf3_ BK633))
         (try simp only [Act.put, List.setIfInBounds_toArray, List.set_cons_zero, List.set_cons_succ])
         go_cut [51] (fun v51 wc => ∃ (kq : Nat) (x51_27 : Bool), v51 = .bool x51_27 ∧ Aside0 (a0e.j2 kq a2 t628 x9_2 l1_4 (l1_4.length : Int) x32_2 x51_27 a0_0 a0_1 a0_2 a0_3 a0_4 a1_0 a1_1 a1_2 l1_3 l1_4 l1_5 x632000_2 ((a0a l1_4 x32_2).f0) ((a0a l1_4 x32_2).f1) ((a0a l1_4 x32_2).f2) = some r) ∧ Aside0 (kq ≤ k2) ∧ Aside0 (wc.heap[gb626]? = some (.cells #[.int .i64 a0_0, .int .i64 a0_1, .int .i64 a0_2, .int .i64 a0_3, .bool a0_4] 25 (0, 0))) ∧ Aside0 (wc.heap[gb627]? = some (.cells #[.int .i64 a1_0, .int .i64 a1_1, .int .i64 a1_2, (.slice A1_3 l1_3.length c1_3), (.slice (some ad632) l1_4.length c1_4), (.slice A1_5 l1_5.length c1_5)] 30 (0, 0))) ∧ Aside0 (wc.heap[gb631]? = some (a3b (Value.int .i64) x632000_2)) ∧ Aside0 (wc.heap[gb633]? = some (.cells #[.int .i64 ((a0a l1_4 x32_2).f0), .int .i64 ((a0a l1_4 x32_2).f1), .int .i64 ((a0a l1_4 x32_2).f2)] 43 (0, 0))) ∧ Aside0 (Below w.heap.size w wc))
         case first =>
          have H := HC28.out
          clear HC28
          by_cases c34 : ((a0a l1_4 x32_2).f2) = 0
          ·rw [if_pos c34] at H
           have c34b0 : (((a0a l1_4 x32_2).f2) == 0) = true := beq_iff_eq.mpr c34
           have c34b1 : (((a0a l1_4 x32_2).f2) != 0) = false := bne_eq_false_iff_eq.mpr c34
           clear c34
           (first | rw [c34b0] | (simp only [a2r, a2y]; rw [c34b0]) | skip)
           have H' := am_ H
           clear H
           have hnb35 := NB633_626.out
           have hnc35 := NB626_633.out
           have hnb36 := NB633_627.out
           have hnc36 := NB627_633.out
           have hnb37 := NB633_631.out
           have hnc37 := NB631_633.out
           obtain ⟨z'38_0, z'38_1, z'38_2⟩ := qz3_ BK633; obtain ⟨y'38_0, y'38_1, y'38_2⟩ := qf3_ BK633
           go_wp2
           go_meet
           case rel => exact ⟨_, (false), qs_, H', ⟨by have := HJ4.out; have := HK2.out; first | omega | exact Nat.le_refl _⟩, ⟨by refine qd_ ?_; refine a0i ?_ NB626_633.out _; refine qd_ ?_; refine a0i ?_ NB626_633.out _; refine qd_ ?_; refine a0i ?_ NB626_633.out _; refine qd_ ?_; exact BK626.out⟩, ⟨by refine qd_ ?_; refine a0i ?_ NB627_633.out _; refine qd_ ?_; refine a0i ?_ NB627_633.out _; refine qd_ ?_; refine a0i ?_ NB627_633.out _; refine qd_ ?_; exact BK627.out⟩, ⟨by refine qd_ ?_; refine a4i ?_ NB631_633.out _; refine qd_ ?_; refine a4i ?_ NB631_633.out _; refine qd_ ?_; refine a4i ?_ NB631_633.out _; refine qd_ ?_; exact BK631.out⟩, ⟨by refine qd_ ?_; refine a0g (cs := #[.int .i64 ((a0a l1_4 x32_2).f0), .int .i64 ((a0a l1_4 x32_2).f1), .int .i64 0]) ?_ 2 _ rfl; refine qd_ ?_; refine a0g (cs := #[.int .i64 ((a0a l1_4 x32_2).f0), .int .i64 0, .int .i64 0]) ?_ 1 _ rfl; refine qd_ ?_; refine a0g (cs := #[.int .i64 0, .int .i64 0, .int .i64 0]) ?_ 0 _ rfl; refine qd_ ?_; exact BK633.out⟩, ⟨qb_⟩⟩
          ·rw [if_neg c34] at H
           have c34b0 : (((a0a l1_4 x32_2).f2) == 0) = false := beq_eq_false_iff_ne.mpr c34
           have c34b1 : (((a0a l1_4 x32_2).f2) != 0) = true := bne_iff_ne.mpr c34
           (first | rw [c34b0] | (simp only [a2r, a2y]; rw [c34b0]) | skip)
           replace H := bm_ H
           obtain ⟨t634, A390, H⟩ := H
           replace H : (if t634 = true then (a0e.j2 k2 a2 t628 x9_2 l1_4 (l1_4.length : Int) x32_2 false a0_0 a0_1 a0_2 a0_3 a0_4 a1_0 a1_1 a1_2 l1_3 l1_4 l1_5 x632000_2 ((a0a l1_4 x32_2).f0) ((a0a l1_4 x32_2).f1) ((a0a l1_4 x32_2).f2)) else ((a2b.f k2 a1_0 a1_1 a1_2 l1_3 l1_4 l1_5 ((a0a l1_4 x32_2).f2)).bind fun t635 => (a0e.j2 k2 a2 t628 x9_2 l1_4 (l1_4.length : Int) x32_2 t635 a0_0 a0_1 a0_2 a0_3 a0_4 a1_0 a1_1 a1_2 l1_3 l1_4 l1_5 x632000_2 ((a0a l1_4 x32_2).f0) ((a0a l1_4 x32_2).f1) ((a0a l1_4 x32_2).f2)))) = some r := H
           have A39 := am_ A390
           clear A390
           by_cases c40 : t634 = true
           ·subst c40
            have H1 : (a0e.j2 k2 a2 t628 x9_2 l1_4 (l1_4.length : Int) x32_2 false a0_0 a0_1 a0_2 a0_3 a0_4 a1_0 a1_1 a1_2 l1_3 l1_4 l1_5 x632000_2 ((a0a l1_4 x32_2).f0) ((a0a l1_4 x32_2).f1) ((a0a l1_4 x32_2).f2)) = some r := by rw [if_pos rfl] at H; exact H
            clear H
            have H := H1
            clear H1
            have H' := am_ H
            clear H
            have hnb41 := NB633_626.out
            have hnc41 := NB626_633.out
            have hnb42 := NB633_627.out
            have hnc42 := NB627_633.out
            have hnb43 := NB633_631.out
            have hnc43 := NB631_633.out
            obtain ⟨z'44_0, z'44_1, z'44_2⟩ := qz3_ BK633; obtain ⟨y'44_0, y'44_1, y'44_2⟩ := qf3_ BK633
            have hnb45 := NB627_626.out
            have hnc45 := NB626_627.out
            have hnb46 := NB627_631.out
            have hnc46 := NB631_627.out
            obtain ⟨z'47_0, z'47_1, z'47_2, z'47_3, z'47_4, z'47_5⟩ := qz6_ BK627; obtain ⟨y'47_0, y'47_1, y'47_2, y'47_3, y'47_4, y'47_5⟩ := qf6_ BK627
            go_wp2_with (first | (go_at_call 23; (with_reducible refine (a2b.calls k2 a1_0 a1_1 a1_2 _ _ l1_3 _ _ l1_4 _ _ l1_5 ((a0a l1_4 x32_2).f0) true _ ?s1 ?s2 ?s3 ?s4 ?s5 ?s6 A39.out).mono ?_); (case s1 => exact Kd.a0w HR1_3.out qb_); (case s2 => exact HC1_3.out); (case s3 => exact Kd.a0w HR1_4.out qb_); (case s4 => exact HC1_4.out); (case s5 => exact Kd.a0w HR1_5.out qb_); (case s6 => exact HC1_5.out); rintro e w48 ⟨rfl, hb⟩; replace BK626 := am_ (a1f (g := gb626) (o := .cells #[.int .i64 a0_0, .int .i64 a0_1, .int .i64 a0_2, .int .i64 a0_3, .bool a0_4] 25 (0, 0)) (by refine qd_ ?_; refine a0i ?_ NB626_633.out _; refine qd_ ?_; refine a0i ?_ NB626_633.out _; refine qd_ ?_; refine a0i ?_ NB626_633.out _; refine qd_ ?_; exact BK626.out) hb); replace BK627 := am_ (a1f (g := gb627) (o := .cells #[.int .i64 a1_0, .int .i64 a1_1, .int .i64 a1_2, .slice A1_3 l1_3.length c1_3, .slice (some ad632) l1_4.length c1_4, .slice A1_5 l1_5.length c1_5] 30 (0, 0)) (by refine qd_ ?_; refine a0i ?_ NB627_633.out _; refine qd_ ?_; refine a0i ?_ NB627_633.out _; refine qd_ ?_; refine a0i ?_ NB627_633.out _; refine qd_ ?_; exact BK627.out) hb); replace BK631 := am_ (a1f (g := gb631) (o := a3b (Value.int .i64) x632000_2) (by refine qd_ ?_; refine a4i ?_ NB631_633.out _; refine qd_ ?_; refine a4i ?_ NB631_633.out _; refine qd_ ?_; refine a4i ?_ NB631_633.out _; refine qd_ ?_; exact BK631.out) hb); replace BK633 := am_ (a1f (g := gb633) (o := .cells #[.int .i64 ((a0a l1_4 x32_2).f0), .int .i64 ((a0a l1_4 x32_2).f1), .int .i64 ((a0a l1_4 x32_2).f2)] 43 (0, 0)) (by refine qd_ ?_; refine a0g (cs := #[.int .i64 ((a0a l1_4 x32_2).f0), .int .i64 ((a0a l1_4 x32_2).f1), .int .i64 0]) ?_ 2 _ rfl; refine qd_ ?_; refine a0g (cs := #[.int .i64 ((a0a l1_4 x32_2).f0), .int .i64 0, .int .i64 0]) ?_ 1 _ rfl; refine qd_ ?_; refine a0g (cs := #[.int .i64 0, .int .i64 0, .int .i64 0]) ?_ 0 _ rfl; refine qd_ ?_; exact BK633.out) hb); replace HB := qbs_ hb; (try clear hb); (try clear hb2); (try clear hk); (try clear hi)))
            go_meet
            case rel => exact ⟨_, (false), qs_, H', ⟨by have := HJ4.out; have := HK2.out; first | omega | exact Nat.le_refl _⟩, ⟨qk_ BK626⟩, ⟨qk_ BK627⟩, ⟨qk_ BK631⟩, ⟨qk_ BK633⟩, ⟨qb_⟩⟩
           ·replace c40 := be_ c40
            subst c40
            have H1 : ((a2b.f k2 a1_0 a1_1 a1_2 l1_3 l1_4 l1_5 ((a0a l1_4 x32_2).f2)).bind fun t635 => (a0e.j2 k2 a2 t628 x9_2 l1_4 (l1_4.length : Int) x32_2 t635 a0_0 a0_1 a0_2 a0_3 a0_4 a1_0 a1_1 a1_2 l1_3 l1_4 l1_5 x632000_2 ((a0a l1_4 x32_2).f0) ((a0a l1_4 x32_2).f1) ((a0a l1_4 x32_2).f2))) = some r := by rw [if_neg (show ¬ (false = true) by decide)] at H; exact H
            clear H
            have H := H1
            clear H1
            replace H := bm_ H
            obtain ⟨t635, A490, H⟩ := H
            replace H : (a0e.j2 k2 a2 t628 x9_2 l1_4 (l1_4.length : Int) x32_2 t635 a0_0 a0_1 a0_2 a0_3 a0_4 a1_0 a1_1 a1_2 l1_3 l1_4 l1_5 x632000_2 ((a0a l1_4 x32_2).f0) ((a0a l1_4 x32_2).f1) ((a0a l1_4 x32_2).f2)) = some r := H
            have A49 := am_ A490
            clear A490
            have H' := am_ H
            clear H
            have hnb50 := NB633_626.out
            have hnc50 := NB626_633.out
            have hnb51 := NB633_627.out
            have hnc51 := NB627_633.out
            have hnb52 := NB633_631.out
            have hnc52 := NB631_633.out
            obtain ⟨z'53_0, z'53_1, z'53_2⟩ := qz3_ BK633; obtain ⟨y'53_0, y'53_1, y'53_2⟩ := qf3_ BK633
            have hnb54 := NB627_626.out
            have hnc54 := NB626_627.out
            have hnb55 := NB627_631.out
            have hnc55 := NB631_627.out
            obtain ⟨z'56_0, z'56_1, z'56_2, z'56_3, z'56_4, z'56_5⟩ := qz6_ BK627; obtain ⟨y'56_0, y'56_1, y'56_2, y'56_3, y'56_4, y'56_5⟩ := qf6_ BK627
            go_wp2_with (first | (go_at_call 23; (with_reducible refine (a2b.calls k2 a1_0 a1_1 a1_2 _ _ l1_3 _ _ l1_4 _ _ l1_5 ((a0a l1_4 x32_2).f0) false _ ?s1 ?s2 ?s3 ?s4 ?s5 ?s6 A39.out).mono ?_); (case s1 => exact Kd.a0w HR1_3.out qb_); (case s2 => exact HC1_3.out); (case s3 => exact Kd.a0w HR1_4.out qb_); (case s4 => exact HC1_4.out); (case s5 => exact Kd.a0w HR1_5.out qb_); (case s6 => exact HC1_5.out); rintro e w57 ⟨rfl, hb⟩; replace BK626 := am_ (a1f (g := gb626) (o := .cells #[.int .i64 a0_0, .int .i64 a0_1, .int .i64 a0_2, .int .i64 a0_3, .bool a0_4] 25 (0, 0)) (by refine qd_ ?_; refine a0i ?_ NB626_633.out _; refine qd_ ?_; refine a0i ?_ NB626_633.out _; refine qd_ ?_; refine a0i ?_ NB626_633.out _; refine qd_ ?_; exact BK626.out) hb); replace BK627 := am_ (a1f (g := gb627) (o := .cells #[.int .i64 a1_0, .int .i64 a1_1, .int .i64 a1_2, .slice A1_3 l1_3.length c1_3, .slice (some ad632) l1_4.length c1_4, .slice A1_5 l1_5.length c1_5] 30 (0, 0)) (by refine qd_ ?_; refine a0i ?_ NB627_633.out _; refine qd_ ?_; refine a0i ?_ NB627_633.out _; refine qd_ ?_; refine a0i ?_ NB627_633.out _; refine qd_ ?_; exact BK627.out) hb); replace BK631 := am_ (a1f (g := gb631) (o := a3b (Value.int .i64) x632000_2) (by refine qd_ ?_; refine a4i ?_ NB631_633.out _; refine qd_ ?_; refine a4i ?_ NB631_633.out _; refine qd_ ?_; refine a4i ?_ NB631_633.out _; refine qd_ ?_; exact BK631.out) hb); replace BK633 := am_ (a1f (g := gb633) (o := .cells #[.int .i64 ((a0a l1_4 x32_2).f0), .int .i64 ((a0a l1_4 x32_2).f1), .int .i64 ((a0a l1_4 x32_2).f2)] 43 (0, 0)) (by refine qd_ ?_; refine a0g (cs := #[.int .i64 ((a0a l1_4 x32_2).f0), .int .i64 ((a0a l1_4 x32_2).f1), .int .i64 0]) ?_ 2 _ rfl; refine qd_ ?_; refine a0g (cs := #[.int .i64 ((a0a l1_4 x32_2).f0), .int .i64 0, .int .i64 0]) ?_ 1 _ rfl; refine qd_ ?_; refine a0g (cs := #[.int .i64 0, .int .i64 0, .int .i64 0]) ?_ 0 _ rfl; refine qd_ ?_; exact BK633.out) hb); replace HB := qbs_ hb; (try clear hb); (try clear hb2); (try clear hk); (try clear hi); obtain ⟨z'58_0, z'58_1, z'58_2, z'58_3, z'58_4, z'58_5⟩ := qz6_ BK627; obtain ⟨y'58_0, y'58_1, y'58_2, y'58_3, y'58_4, y'58_5⟩ := qf6_ BK627; obtain ⟨z'59_0, z'59_1, z'59_2⟩ := qz3_ BK633; obtain ⟨y'59_0, y'59_1, y'59_2⟩ := qf3_ BK633) | (go_at_call 23; (with_reducible refine (a2b.calls k2 a1_0 a1_1 a1_2 _ _ l1_3 _ _ l1_4 _ _ l1_5 ((a0a l1_4 x32_2).f2) t635 _ ?s1 ?s2 ?s3 ?s4 ?s5 ?s6 A49.out).mono ?_); (case s1 => exact qc_ HR1_3); (case s2 => exact HC1_3.out); (case s3 => exact qc_ HR1_4); (case s4 => exact HC1_4.out); (case s5 => exact qc_ HR1_5); (case s6 => exact HC1_5.out); rintro e w60 ⟨rfl, hb⟩; replace BK626 := qkb_ BK626 hb; replace BK627 := qkb_ BK627 hb; replace BK631 := am_ (a1f (g := gb631) (o := a3b (Value.int .i64) x632000_2) (qk_ BK631) hb); replace BK633 := qkb_ BK633 hb; replace HB := qbs_ hb; (try clear hb); (try clear hb2); (try clear hk); (try clear hi)))
            go_meet
            case rel => exact ⟨_, (t635), qs_, H', ⟨by have := HJ4.out; have := HK2.out; first | omega | exact Nat.le_refl _⟩, ⟨qk_ BK626⟩, ⟨qk_ BK627⟩, ⟨qk_ BK631⟩, ⟨qk_ BK633⟩, ⟨qb_⟩⟩
         case rest =>
          clear HC28
          try clear c1
          try clear c2
          try clear p2
          try clear c3
          try clear c4
          try clear c5
          try clear p6
          try clear q6
          try clear hx6
          try clear c10
          try clear c11
          try clear c12
          try clear c16
          try clear c20
          try clear c22
          try clear c23
          try clear c25
          try clear c25b0
          try clear c26
          try clear c26b0
          try clear c27
          try clear c27b0
          try clear c30
          try clear c31
          try clear c32
          try clear c34
          try clear c34b0
          try clear c34b1
          try clear c35
          try clear c36
          try clear c37
          try clear c40
          try clear c41
          try clear c42
          try clear c43
          try clear c45
          try clear c46
          try clear c50
          try clear c51
          try clear c52
          try clear c54
          try clear c55
          try clear z'13_0 z'13_1 z'13_2 z'13_3 z'13_4
          try clear z'14_0 z'14_1 z'14_2 z'14_3 z'14_4 z'14_5
          try clear z'17_0 z'17_1 z'17_2 z'17_3 z'17_4
          try clear z'18_0 z'18_1 z'18_2 z'18_3 z'18_4 z'18_5
          try clear z'24_0 z'24_1 z'24_2 z'24_3 z'24_4 z'24_5
          try clear z'33_0 z'33_1 z'33_2
          try clear z'38_0 z'38_1 z'38_2
          try clear z'44_0 z'44_1 z'44_2
          try clear z'47_0 z'47_1 z'47_2 z'47_3 z'47_4 z'47_5
          try clear z'53_0 z'53_1 z'53_2
          try clear z'56_0 z'56_1 z'56_2 z'56_3 z'56_4 z'56_5
          try clear z'58_0 z'58_1 z'58_2 z'58_3 z'58_4 z'58_5
          try clear z'59_0 z'59_1 z'59_2
          try clear y'13_0 y'13_1 y'13_2 y'13_3 y'13_4
          try clear y'14_0 y'14_1 y'14_2 y'14_3 y'14_4 y'14_5
          try clear y'17_0 y'17_1 y'17_2 y'17_3 y'17_4
          try clear y'18_0 y'18_1 y'18_2 y'18_3 y'18_4 y'18_5
          try clear y'24_0 y'24_1 y'24_2 y'24_3 y'24_4 y'24_5
          try clear y'33_0 y'33_1 y'33_2
          try clear y'38_0 y'38_1 y'38_2
          try clear y'44_0 y'44_1 y'44_2
          try clear y'47_0 y'47_1 y'47_2 y'47_3 y'47_4 y'47_5
          try clear y'53_0 y'53_1 y'53_2
          try clear y'56_0 y'56_1 y'56_2 y'56_3 y'56_4 y'56_5
          try clear y'58_0 y'58_1 y'58_2 y'58_3 y'58_4 y'58_5
          try clear y'59_0 y'59_1 y'59_2
          try clear hx632_0
          try clear hx632_1
          try clear hx632_2
          try clear p2
          try clear p632
          try clear q632
          obtain ⟨kq, x51_27, rfl, HA, HJ27, BK626, BK627, BK631, BK633, HB⟩ := hcut
          cases kq with
          | zero => exact absurd HA.out (by simp [a0e.j2])
          | succ kj27 =>
           have H := HA.out
           clear HA
           simp only [a0e.j2] at H
           by_cases c61 : x51_27 = true
           ·subst c61
            have H1 : (a0e.l0 kj27 a2 t628 (mx x9_2 (a3r (mput x632000_2 ((a0a l1_4 x32_2).f2) (wrap64 ((a3r x632000_2 ((a0a l1_4 x32_2).f2)) + 1))) ((a0a l1_4 x32_2).f2))) l1_4 (l1_4.length : Int) (wrap64 (x32_2 + 1)) a0_0 a0_1 a0_2 a0_3 a0_4 a1_0 a1_1 a1_2 l1_3 l1_4 l1_5 (mput x632000_2 ((a0a l1_4 x32_2).f2) (wrap64 ((a3r x632000_2 ((a0a l1_4 x32_2).f2)) + 1)))) = some r := by rw [if_pos rfl] at H; exact H
            clear H
            have H := H1
            clear H1
            obtain ⟨ji62, hji62⟩ : ∃ j_ : Int, (mx x9_2 (a3r (mput x632000_2 ((a0a l1_4 x32_2).f2) (wrap64 ((a3r x632000_2 ((a0a l1_4 x32_2).f2)) + 1))) ((a0a l1_4 x32_2).f2))) = j_ := ⟨_, rfl⟩
            replace H : (a0e.l0 kj27 a2 t628 ji62 l1_4 (l1_4.length : Int) (wrap64 (x32_2 + 1)) a0_0 a0_1 a0_2 a0_3 a0_4 a1_0 a1_1 a1_2 l1_3 l1_4 l1_5 (mput x632000_2 ((a0a l1_4 x32_2).f2) (wrap64 ((a3r x632000_2 ((a0a l1_4 x32_2).f2)) + 1)))) = some r := by first | (rw [hji62] at H; exact H) | (simp only [hji62] at H ⊢; exact H)
            have hji62_ : (if x9_2 < (a3r (mput x632000_2 ((a0a l1_4 x32_2).f2) (wrap64 ((a3r x632000_2 ((a0a l1_4 x32_2).f2)) + 1))) ((a0a l1_4 x32_2).f2)) then (a3r (mput x632000_2 ((a0a l1_4 x32_2).f2) (wrap64 ((a3r x632000_2 ((a0a l1_4 x32_2).f2)) + 1))) ((a0a l1_4 x32_2).f2)) else x9_2) = ji62 := hji62
            have H' := am_ H
            clear H
            have hnb63 := NB633_626.out
            have hnc63 := NB626_633.out
            have hnb64 := NB633_627.out
            have hnc64 := NB627_633.out
            have hnb65 := NB633_631.out
            have hnc65 := NB631_633.out
            obtain ⟨z'66_0, z'66_1, z'66_2⟩ := qz3_ BK633; obtain ⟨y'66_0, y'66_1, y'66_2⟩ := qf3_ BK633
            go_wp2_with (first | ((with_reducible refine a0d (N := 55) rfl ?_); refine a8i rfl (N := 55) rfl rfl (M := x632000_2) (k := ((a0a l1_4 x32_2).f2)) Try.underlying58 Try.underlying3 (b1n _) (qk_ BK631) rfl ?hx ?_; (case hx => first | rfl | (go_simp; done) | (go_simp; rfl))) | ((with_reducible refine b4e (t := 58) (p := 52) rfl ?_); refine b3d rfl rfl (M := x632000_2) (k := ((a0a l1_4 x32_2).f2)) (y := wrap64 ((a3r x632000_2 ((a0a l1_4 x32_2).f2)) + 1)) Try.underlying58 Try.underlying3 (qk_ BK631) rfl ?hx ?hv ?_; (case hx => first | rfl | (go_simp; done) | (go_simp; rfl)); (case hv => first | rfl | (go_simp; done) | (go_simp; rfl)); intro w67 hM hg; replace BK626 := am_ (a3k (g := gb626) (o := .cells #[.int .i64 a0_0, .int .i64 a0_1, .int .i64 a0_2, .int .i64 a0_3, .bool a0_4] 25 (0, 0)) (qk_ BK626) hg (fun h_ => NB626_631.out (si_ h_))); replace BK627 := am_ (a3k (g := gb627) (o := .cells #[.int .i64 a1_0, .int .i64 a1_1, .int .i64 a1_2, .slice A1_3 l1_3.length c1_3, .slice (some ad632) l1_4.length c1_4, .slice A1_5 l1_5.length c1_5] 30 (0, 0)) (qk_ BK627) hg (fun h_ => NB627_631.out (si_ h_))); replace BK631 := am_ (hM); replace BK633 := am_ (a3k (g := gb633) (o := .cells #[.int .i64 ((a0a l1_4 x32_2).f0), .int .i64 ((a0a l1_4 x32_2).f1), .int .i64 ((a0a l1_4 x32_2).f2)] 43 (0, 0)) (qk_ BK633) hg (fun h_ => NB633_631.out (si_ h_))); replace HB := am_ (b1m qb_ hg GE631.out); clear hg hM; obtain ⟨z'68_0, z'68_1, z'68_2⟩ := qz3_ BK633; obtain ⟨y'68_0, y'68_1, y'68_2⟩ := qf3_ BK633) | ((with_reducible refine a0d (N := 61) rfl ?_); refine a8i rfl (N := 61) rfl rfl (M := mput x632000_2 ((a0a l1_4 x32_2).f2) (wrap64 ((a3r x632000_2 ((a0a l1_4 x32_2).f2)) + 1))) (k := ((a0a l1_4 x32_2).f2)) Try.underlying58 Try.underlying3 (b1n _) (qk_ BK631) rfl ?hx ?_; (case hx => first | rfl | (go_simp; done) | (go_simp; rfl))))
            go_roundg kj27
            case measure => have := HJ4.out; have := HK2.out; have := HJ27.out; omega
            case rel => exact ⟨(ji62), (wrap64 (x32_2 + 1)), (mput x632000_2 ((a0a l1_4 x32_2).f2) (wrap64 ((a3r x632000_2 ((a0a l1_4 x32_2).f2)) + 1))), (by first | rfl | (simp; done) | (simp only [← hji62] <;> (first | rfl | simp)) | (simp [*]; done)), qs_, H', ⟨by have := HJ4.out; have := HK2.out; have := HJ27.out; omega⟩, ⟨qk_ BK626⟩, ⟨qk_ BK627⟩, ⟨qk_ BK631⟩, ⟨qb_⟩⟩
           ·replace c61 := be_ c61
            subst c61
            have H1 : (a0e.l0 kj27 a2 t628 x9_2 l1_4 (l1_4.length : Int) (wrap64 (x32_2 + 1)) a0_0 a0_1 a0_2 a0_3 a0_4 a1_0 a1_1 a1_2 l1_3 l1_4 l1_5 x632000_2) = some r := by rw [if_neg (show ¬ (false = true) by decide)] at H; exact H
            clear H
            have H := H1
            clear H1
            have H' := am_ H
            clear H
            go_wp2
            go_roundg kj27
            case measure => have := HJ4.out; have := HK2.out; have := HJ27.out; omega
            case rel => exact ⟨(x9_2), (wrap64 (x32_2 + 1)), (x632000_2), qs_, qs_, H', ⟨by have := HJ4.out; have := HK2.out; have := HJ27.out; omega⟩, ⟨qk_ BK626⟩, ⟨qk_ BK627⟩, ⟨qk_ BK631⟩, ⟨qb_⟩⟩
        ·rw [if_neg c27] at H
         exact absurd H (by simp)
       ·rw [if_neg c26] at H
        exact absurd H (by simp)
      ·rw [if_neg c25] at H
       have c25b0 : decide (x32_2 < (l1_4.length : Int)) = false := decide_eq_false c25
       clear c25
       replace H := bm_ H
       obtain ⟨⟨t636, t637⟩, A690, H⟩ := H
       replace H : ((a2c.f k2 a0_0 a0_1 a0_2 (mn (wrap64 (a0_3 + 1)) 64) a0_4 a1_0 a1_1 a1_2 l1_3 l1_4 l1_5 a2 ([] : List Int) 4).bind fun bt638 => (if t628 = true then (if t637 = true then (if bt638.2 = true then (if (t636 == (decide (x9_2 > a0_3))) = true then (if t636 = true then (some true) else (some (!bt638.1))) else (some false)) else (some false)) else (some false)) else (some false))) = some r := H
       have A69 := am_ A690
       clear A690
       obtain ⟨ji70, hji70⟩ : ∃ j_ : Int, (mn (wrap64 (a0_3 + 1)) 64) = j_ := ⟨_, rfl⟩
       replace H : ((a2c.f k2 a0_0 a0_1 a0_2 (ji70) a0_4 a1_0 a1_1 a1_2 l1_3 l1_4 l1_5 a2 ([] : List Int) 4).bind fun bt638 => (if t628 = true then (if t637 = true then (if bt638.2 = true then (if (t636 == (decide (x9_2 > a0_3))) = true then (if t636 = true then (some true) else (some (!bt638.1))) else (some false)) else (some false)) else (some false)) else (some false))) = some r := by first | (rw [hji70] at H; exact H) | (simp only [hji70] at H ⊢; exact H)
       (try rw [hji70] at A69)
       have hji70_ : (if 64 < (wrap64 (a0_3 + 1)) then 64 else (wrap64 (a0_3 + 1))) = ji70 := hji70
       replace H := bm_ H
       obtain ⟨⟨t638, t639⟩, A710, H⟩ := H
       replace H : (if t628 = true then (if t637 = true then (if t639 = true then (if (t636 == (decide (x9_2 > a0_3))) = true then (if t636 = true then (some true) else (some (!t638))) else (some false)) else (some false)) else (some false)) else (some false)) = some r := H
       have A71 := am_ A710
       clear A710
       by_cases c72 : t628 = true
       ·subst c72
        have H1 : (if t637 = true then (if t639 = true then (if (t636 == (decide (x9_2 > a0_3))) = true then (if t636 = true then (some true) else (some (!t638))) else (some false)) else (some false)) else (some false)) = some r := by rw [if_pos rfl] at H; exact H
        clear H
        have H := H1
        clear H1
        by_cases c73 : t637 = true
        ·subst c73
         have H1 : (if t639 = true then (if (t636 == (decide (x9_2 > a0_3))) = true then (if t636 = true then (some true) else (some (!t638))) else (some false)) else (some false)) = some r := by rw [if_pos rfl] at H; exact H
         clear H
         have H := H1
         clear H1
         by_cases c74 : t639 = true
         ·subst c74
          have H1 : (if (t636 == (decide (x9_2 > a0_3))) = true then (if t636 = true then (some true) else (some (!t638))) else (some false)) = some r := by rw [if_pos rfl] at H; exact H
          clear H
          have H := H1
          clear H1
          by_cases c75 : (t636 == (decide (x9_2 > a0_3))) = true
          ·rw [if_pos c75] at H
           have c75b0 : (t636 == (decide (x9_2 > a0_3))) = true := c75
           (try (have c75b1 : decide (t636 = (decide (x9_2 > a0_3))) = true := by simpa using c75))
           (try (have c75b2 : (t636 == (decide (x9_2 > a0_3))) = true := by simpa using c75))
           clear c75
           by_cases c76 : t636 = true
           ·subst c76
            have H1 : (some true) = some r := by rw [if_pos rfl] at H; exact H
            clear H
            have H := H1
            clear H1
            obtain rfl := si_ H
            have hnb77 := NB626_627.out
            have hnc77 := NB627_626.out
            have hnb78 := NB626_631.out
            have hnc78 := NB631_626.out
            obtain ⟨z'79_0, z'79_1, z'79_2, z'79_3, z'79_4⟩ := qz5_ BK626; obtain ⟨y'79_0, y'79_1, y'79_2, y'79_3, y'79_4⟩ := qf5_ BK626
            have hnb80 := NB627_631.out
            have hnc80 := NB631_627.out
            obtain ⟨z'81_0, z'81_1, z'81_2, z'81_3, z'81_4, z'81_5⟩ := qz6_ BK627; obtain ⟨y'81_0, y'81_1, y'81_2, y'81_3, y'81_4, y'81_5⟩ := qf6_ BK627
            go_wp2_with (first | ((with_reducible refine a0b (f := 27) rfl ?_); refine a0p (some 70) rfl rfl Try.func27 (by kernel_rfl) rfl #[.agg #[.int .i64 a0_0, .int .i64 a0_1, .int .i64 a0_2, .int .i64 a0_3, .bool a0_4], .agg #[.int .i64 a1_0, .int .i64 a1_1, .int .i64 a1_2, .slice A1_3 l1_3.length c1_3, .slice A1_4 l1_4.length c1_4, .slice A1_5 l1_5.length c1_5], .string a2, .slice none 0 0, .int .i64 4] rfl ql_ ?_; (refine (a2c.calls k2 a0_0 a0_1 a0_2 a0_3 a0_4 a1_0 a1_1 a1_2 _ _ l1_3 _ _ l1_4 _ _ l1_5 a2 _ _ ([] : List Int) 4 true true _ ?s1 ?s2 ?s3 ?s4 ?s5 ?s6 ?s7 ?s8 A69.out).mono ?_); (case s1 => exact qc_ HR1_3); (case s2 => exact HC1_3.out); (case s3 => exact qc_ HR1_4); (case s4 => exact HC1_4.out); (case s5 => exact qc_ HR1_5); (case s6 => exact HC1_5.out); (case s7 => exact Kd.a4o _ _); (case s8 => exact Nat.le_refl _); rintro e w82 ⟨rfl, hb⟩; refine ⟨_, rfl, ?_⟩; replace BK626 := qkb_ BK626 hb; replace BK627 := qkb_ BK627 hb; replace BK631 := am_ (a1f (g := gb631) (o := a3b (Value.int .i64) x632000_2) (qk_ BK631) hb); replace HB := qbs_ hb; (try clear hb); (try clear hb2); (try clear hk); (try clear hi); obtain ⟨z'83_0, z'83_1, z'83_2, z'83_3, z'83_4⟩ := qz5_ BK626; obtain ⟨y'83_0, y'83_1, y'83_2, y'83_3, y'83_4⟩ := qf5_ BK626; obtain ⟨z'84_0, z'84_1, z'84_2, z'84_3, z'84_4, z'84_5⟩ := qz6_ BK627; obtain ⟨y'84_0, y'84_1, y'84_2, y'84_3, y'84_4, y'84_5⟩ := qf6_ BK627) | ((with_reducible refine a0b (f := 27) rfl ?_); refine a0p (some 81) rfl rfl Try.func27 (by kernel_rfl) rfl #[.agg #[.int .i64 a0_0, .int .i64 a0_1, .int .i64 a0_2, .int .i64 ji70, .bool a0_4], .agg #[.int .i64 a1_0, .int .i64 a1_1, .int .i64 a1_2, .slice A1_3 l1_3.length c1_3, .slice A1_4 l1_4.length c1_4, .slice A1_5 l1_5.length c1_5], .string a2, .slice none 0 0, .int .i64 4] rfl (by (try simp only [List.map_toArray, List.map_cons, List.map_nil]); first | done | (simp only [hji70]; rfl) | rfl | (simp only [List.length_drop, List.length_take]; rfl)) ?_; (refine (a2c.calls k2 a0_0 a0_1 a0_2 ji70 a0_4 a1_0 a1_1 a1_2 _ _ l1_3 _ _ l1_4 _ _ l1_5 a2 _ _ ([] : List Int) 4 t638 true _ ?s1 ?s2 ?s3 ?s4 ?s5 ?s6 ?s7 ?s8 A71.out).mono ?_); (case s1 => exact Kd.a0w HR1_3.out qb_); (case s2 => exact HC1_3.out); (case s3 => exact Kd.a0w HR1_4.out qb_); (case s4 => exact HC1_4.out); (case s5 => exact Kd.a0w HR1_5.out qb_); (case s6 => exact HC1_5.out); (case s7 => exact Kd.a4o _ _); (case s8 => exact Nat.le_refl _); rintro e w85 ⟨rfl, hb⟩; refine ⟨_, rfl, ?_⟩; replace BK626 := am_ (a1f (g := gb626) (o := .cells #[.int .i64 a0_0, .int .i64 a0_1, .int .i64 a0_2, .int .i64 ji70, .bool a0_4] 25 (0, 0)) (by refine qd_ ?_; refine a0g (cs := #[.int .i64 a0_0, .int .i64 a0_1, .int .i64 a0_2, .int .i64 a0_3, .bool a0_4]) ?_ 3 _ rfl; refine qd_ ?_; exact BK626.out) hb); replace BK627 := am_ (a1f (g := gb627) (o := .cells #[.int .i64 a1_0, .int .i64 a1_1, .int .i64 a1_2, .slice A1_3 l1_3.length c1_3, .slice A1_4 l1_4.length c1_4, .slice A1_5 l1_5.length c1_5] 30 (0, 0)) (by refine qd_ ?_; refine a0i ?_ NB627_626.out _; refine qd_ ?_; exact BK627.out) hb); replace BK631 := am_ (a1f (g := gb631) (o := a3b (Value.int .i64) x632000_2) (by refine qd_ ?_; refine a4i ?_ NB631_626.out _; refine qd_ ?_; exact BK631.out) hb); replace HB := qbs_ hb; (try clear hb); (try clear hb2); (try clear hk); (try clear hi)))
            go_ret
            exact ⟨by first | rfl | (simp [a3h, a3i] <;> rfl) | (simp only [← hji70]; first | rfl | (simp [a3h, a3i] <;> rfl)) | (simp [*, a3h, a3i] <;> rfl), qb_⟩
           ·replace c76 := be_ c76
            subst c76
            have H1 : (some (!t638)) = some r := by rw [if_neg (show ¬ (false = true) by decide)] at H; exact H
            clear H
            have H := H1
            clear H1
            obtain rfl := si_ H
            have hnb86 := NB626_627.out
            have hnc86 := NB627_626.out
            have hnb87 := NB626_631.out
            have hnc87 := NB631_626.out
            obtain ⟨z'88_0, z'88_1, z'88_2, z'88_3, z'88_4⟩ := qz5_ BK626; obtain ⟨y'88_0, y'88_1, y'88_2, y'88_3, y'88_4⟩ := qf5_ BK626
            have hnb89 := NB627_631.out
            have hnc89 := NB631_627.out
            obtain ⟨z'90_0, z'90_1, z'90_2, z'90_3, z'90_4, z'90_5⟩ := qz6_ BK627; obtain ⟨y'90_0, y'90_1, y'90_2, y'90_3, y'90_4, y'90_5⟩ := qf6_ BK627
            go_wp2_with (first | ((with_reducible refine a0b (f := 27) rfl ?_); refine a0p (some 70) rfl rfl Try.func27 (by kernel_rfl) rfl #[.agg #[.int .i64 a0_0, .int .i64 a0_1, .int .i64 a0_2, .int .i64 a0_3, .bool a0_4], .agg #[.int .i64 a1_0, .int .i64 a1_1, .int .i64 a1_2, .slice A1_3 l1_3.length c1_3, .slice A1_4 l1_4.length c1_4, .slice A1_5 l1_5.length c1_5], .string a2, .slice none 0 0, .int .i64 4] rfl ql_ ?_; (refine (a2c.calls k2 a0_0 a0_1 a0_2 a0_3 a0_4 a1_0 a1_1 a1_2 _ _ l1_3 _ _ l1_4 _ _ l1_5 a2 _ _ ([] : List Int) 4 false true _ ?s1 ?s2 ?s3 ?s4 ?s5 ?s6 ?s7 ?s8 A69.out).mono ?_); (case s1 => exact qc_ HR1_3); (case s2 => exact HC1_3.out); (case s3 => exact qc_ HR1_4); (case s4 => exact HC1_4.out); (case s5 => exact qc_ HR1_5); (case s6 => exact HC1_5.out); (case s7 => exact Kd.a4o _ _); (case s8 => exact Nat.le_refl _); rintro e w91 ⟨rfl, hb⟩; refine ⟨_, rfl, ?_⟩; replace BK626 := qkb_ BK626 hb; replace BK627 := qkb_ BK627 hb; replace BK631 := am_ (a1f (g := gb631) (o := a3b (Value.int .i64) x632000_2) (qk_ BK631) hb); replace HB := qbs_ hb; (try clear hb); (try clear hb2); (try clear hk); (try clear hi); obtain ⟨z'92_0, z'92_1, z'92_2, z'92_3, z'92_4⟩ := qz5_ BK626; obtain ⟨y'92_0, y'92_1, y'92_2, y'92_3, y'92_4⟩ := qf5_ BK626; obtain ⟨z'93_0, z'93_1, z'93_2, z'93_3, z'93_4, z'93_5⟩ := qz6_ BK627; obtain ⟨y'93_0, y'93_1, y'93_2, y'93_3, y'93_4, y'93_5⟩ := qf6_ BK627) | ((with_reducible refine a0b (f := 27) rfl ?_); refine a0p (some 81) rfl rfl Try.func27 (by kernel_rfl) rfl #[.agg #[.int .i64 a0_0, .int .i64 a0_1, .int .i64 a0_2, .int .i64 ji70, .bool a0_4], .agg #[.int .i64 a1_0, .int .i64 a1_1, .int .i64 a1_2, .slice A1_3 l1_3.length c1_3, .slice A1_4 l1_4.length c1_4, .slice A1_5 l1_5.length c1_5], .string a2, .slice none 0 0, .int .i64 4] rfl (by (try simp only [List.map_toArray, List.map_cons, List.map_nil]); first | done | (simp only [hji70]; rfl) | rfl | (simp only [List.length_drop, List.length_take]; rfl)) ?_; (refine (a2c.calls k2 a0_0 a0_1 a0_2 ji70 a0_4 a1_0 a1_1 a1_2 _ _ l1_3 _ _ l1_4 _ _ l1_5 a2 _ _ ([] : List Int) 4 t638 true _ ?s1 ?s2 ?s3 ?s4 ?s5 ?s6 ?s7 ?s8 A71.out).mono ?_); (case s1 => exact Kd.a0w HR1_3.out qb_); (case s2 => exact HC1_3.out); (case s3 => exact Kd.a0w HR1_4.out qb_); (case s4 => exact HC1_4.out); (case s5 => exact Kd.a0w HR1_5.out qb_); (case s6 => exact HC1_5.out); (case s7 => exact Kd.a4o _ _); (case s8 => exact Nat.le_refl _); rintro e w94 ⟨rfl, hb⟩; refine ⟨_, rfl, ?_⟩; replace BK626 := am_ (a1f (g := gb626) (o := .cells #[.int .i64 a0_0, .int .i64 a0_1, .int .i64 a0_2, .int .i64 ji70, .bool a0_4] 25 (0, 0)) (by refine qd_ ?_; refine a0g (cs := #[.int .i64 a0_0, .int .i64 a0_1, .int .i64 a0_2, .int .i64 a0_3, .bool a0_4]) ?_ 3 _ rfl; refine qd_ ?_; exact BK626.out) hb); replace BK627 := am_ (a1f (g := gb627) (o := .cells #[.int .i64 a1_0, .int .i64 a1_1, .int .i64 a1_2, .slice A1_3 l1_3.length c1_3, .slice A1_4 l1_4.length c1_4, .slice A1_5 l1_5.length c1_5] 30 (0, 0)) (by refine qd_ ?_; refine a0i ?_ NB627_626.out _; refine qd_ ?_; exact BK627.out) hb); replace BK631 := am_ (a1f (g := gb631) (o := a3b (Value.int .i64) x632000_2) (by refine qd_ ?_; refine a4i ?_ NB631_626.out _; refine qd_ ?_; exact BK631.out) hb); replace HB := qbs_ hb; (try clear hb); (try clear hb2); (try clear hk); (try clear hi)))
            go_ret
            exact ⟨by first | rfl | (simp [a3h, a3i] <;> rfl) | (simp only [← hji70]; first | rfl | (simp [a3h, a3i] <;> rfl)) | (simp [*, a3h, a3i] <;> rfl), qb_⟩
          ·rw [if_neg c75] at H
           have c75b0 : (t636 == (decide (x9_2 > a0_3))) = false := by simpa using c75
           (try (have c75b1 : decide (t636 = (decide (x9_2 > a0_3))) = false := by simpa using c75))
           (try (have c75b2 : (t636 == (decide (x9_2 > a0_3))) = false := by simpa using c75))
           (try (have c75b3 : ¬ (t636 = (decide (x9_2 > a0_3))) := by simpa using c75))
           clear c75
           obtain rfl := si_ H
           have hnb95 := NB626_627.out
           have hnc95 := NB627_626.out
           have hnb96 := NB626_631.out
           have hnc96 := NB631_626.out
           obtain ⟨z'97_0, z'97_1, z'97_2, z'97_3, z'97_4⟩ := qz5_ BK626; obtain ⟨y'97_0, y'97_1, y'97_2, y'97_3, y'97_4⟩ := qf5_ BK626
           have hnb98 := NB627_631.out
           have hnc98 := NB631_627.out
           obtain ⟨z'99_0, z'99_1, z'99_2, z'99_3, z'99_4, z'99_5⟩ := qz6_ BK627; obtain ⟨y'99_0, y'99_1, y'99_2, y'99_3, y'99_4, y'99_5⟩ := qf6_ BK627
           go_wp2_with (first | ((with_reducible refine a0b (f := 27) rfl ?_); refine a0p (some 70) rfl rfl Try.func27 (by kernel_rfl) rfl #[.agg #[.int .i64 a0_0, .int .i64 a0_1, .int .i64 a0_2, .int .i64 a0_3, .bool a0_4], .agg #[.int .i64 a1_0, .int .i64 a1_1, .int .i64 a1_2, .slice A1_3 l1_3.length c1_3, .slice A1_4 l1_4.length c1_4, .slice A1_5 l1_5.length c1_5], .string a2, .slice none 0 0, .int .i64 4] rfl ql_ ?_; (refine (a2c.calls k2 a0_0 a0_1 a0_2 a0_3 a0_4 a1_0 a1_1 a1_2 _ _ l1_3 _ _ l1_4 _ _ l1_5 a2 _ _ ([] : List Int) 4 t636 true _ ?s1 ?s2 ?s3 ?s4 ?s5 ?s6 ?s7 ?s8 A69.out).mono ?_); (case s1 => exact qc_ HR1_3); (case s2 => exact HC1_3.out); (case s3 => exact qc_ HR1_4); (case s4 => exact HC1_4.out); (case s5 => exact qc_ HR1_5); (case s6 => exact HC1_5.out); (case s7 => exact Kd.a4o _ _); (case s8 => exact Nat.le_refl _); rintro e w100 ⟨rfl, hb⟩; refine ⟨_, rfl, ?_⟩; replace BK626 := qkb_ BK626 hb; replace BK627 := qkb_ BK627 hb; replace BK631 := am_ (a1f (g := gb631) (o := a3b (Value.int .i64) x632000_2) (qk_ BK631) hb); replace HB := qbs_ hb; (try clear hb); (try clear hb2); (try clear hk); (try clear hi); obtain ⟨z'101_0, z'101_1, z'101_2, z'101_3, z'101_4⟩ := qz5_ BK626; obtain ⟨y'101_0, y'101_1, y'101_2, y'101_3, y'101_4⟩ := qf5_ BK626; obtain ⟨z'102_0, z'102_1, z'102_2, z'102_3, z'102_4, z'102_5⟩ := qz6_ BK627; obtain ⟨y'102_0, y'102_1, y'102_2, y'102_3, y'102_4, y'102_5⟩ := qf6_ BK627) | ((with_reducible refine a0b (f := 27) rfl ?_); refine a0p (some 81) rfl rfl Try.func27 (by kernel_rfl) rfl #[.agg #[.int .i64 a0_0, .int .i64 a0_1, .int .i64 a0_2, .int .i64 ji70, .bool a0_4], .agg #[.int .i64 a1_0, .int .i64 a1_1, .int .i64 a1_2, .slice A1_3 l1_3.length c1_3, .slice A1_4 l1_4.length c1_4, .slice A1_5 l1_5.length c1_5], .string a2, .slice none 0 0, .int .i64 4] rfl (by (try simp only [List.map_toArray, List.map_cons, List.map_nil]); first | done | (simp only [hji70]; rfl) | rfl | (simp only [List.length_drop, List.length_take]; rfl)) ?_; (refine (a2c.calls k2 a0_0 a0_1 a0_2 ji70 a0_4 a1_0 a1_1 a1_2 _ _ l1_3 _ _ l1_4 _ _ l1_5 a2 _ _ ([] : List Int) 4 t638 true _ ?s1 ?s2 ?s3 ?s4 ?s5 ?s6 ?s7 ?s8 A71.out).mono ?_); (case s1 => exact Kd.a0w HR1_3.out qb_); (case s2 => exact HC1_3.out); (case s3 => exact Kd.a0w HR1_4.out qb_); (case s4 => exact HC1_4.out); (case s5 => exact Kd.a0w HR1_5.out qb_); (case s6 => exact HC1_5.out); (case s7 => exact Kd.a4o _ _); (case s8 => exact Nat.le_refl _); rintro e w103 ⟨rfl, hb⟩; refine ⟨_, rfl, ?_⟩; replace BK626 := am_ (a1f (g := gb626) (o := .cells #[.int .i64 a0_0, .int .i64 a0_1, .int .i64 a0_2, .int .i64 ji70, .bool a0_4] 25 (0, 0)) (by refine qd_ ?_; refine a0g (cs := #[.int .i64 a0_0, .int .i64 a0_1, .int .i64 a0_2, .int .i64 a0_3, .bool a0_4]) ?_ 3 _ rfl; refine qd_ ?_; exact BK626.out) hb); replace BK627 := am_ (a1f (g := gb627) (o := .cells #[.int .i64 a1_0, .int .i64 a1_1, .int .i64 a1_2, .slice A1_3 l1_3.length c1_3, .slice A1_4 l1_4.length c1_4, .slice A1_5 l1_5.length c1_5] 30 (0, 0)) (by refine qd_ ?_; refine a0i ?_ NB627_626.out _; refine qd_ ?_; exact BK627.out) hb); replace BK631 := am_ (a1f (g := gb631) (o := a3b (Value.int .i64) x632000_2) (by refine qd_ ?_; refine a4i ?_ NB631_626.out _; refine qd_ ?_; exact BK631.out) hb); replace HB := qbs_ hb; (try clear hb); (try clear hb2); (try clear hk); (try clear hi)))
           go_ret
           exact ⟨by first | rfl | (simp [a3h, a3i] <;> rfl) | (simp only [← hji70]; first | rfl | (simp [a3h, a3i] <;> rfl)) | (simp [*, a3h, a3i] <;> rfl), qb_⟩
         ·replace c74 := be_ c74
          subst c74
          have H1 : (some false) = some r := by rw [if_neg (show ¬ (false = true) by decide)] at H; exact H
          clear H
          have H := H1
          clear H1
          obtain rfl := si_ H
          have hnb104 := NB626_627.out
          have hnc104 := NB627_626.out
          have hnb105 := NB626_631.out
          have hnc105 := NB631_626.out
          obtain ⟨z'106_0, z'106_1, z'106_2, z'106_3, z'106_4⟩ := qz5_ BK626; obtain ⟨y'106_0, y'106_1, y'106_2, y'106_3, y'106_4⟩ := qf5_ BK626
          have hnb107 := NB627_631.out
          have hnc107 := NB631_627.out
          obtain ⟨z'108_0, z'108_1, z'108_2, z'108_3, z'108_4, z'108_5⟩ := qz6_ BK627; obtain ⟨y'108_0, y'108_1, y'108_2, y'108_3, y'108_4, y'108_5⟩ := qf6_ BK627
          go_wp2_with (first | ((with_reducible refine a0b (f := 27) rfl ?_); refine a0p (some 70) rfl rfl Try.func27 (by kernel_rfl) rfl #[.agg #[.int .i64 a0_0, .int .i64 a0_1, .int .i64 a0_2, .int .i64 a0_3, .bool a0_4], .agg #[.int .i64 a1_0, .int .i64 a1_1, .int .i64 a1_2, .slice A1_3 l1_3.length c1_3, .slice A1_4 l1_4.length c1_4, .slice A1_5 l1_5.length c1_5], .string a2, .slice none 0 0, .int .i64 4] rfl ql_ ?_; (refine (a2c.calls k2 a0_0 a0_1 a0_2 a0_3 a0_4 a1_0 a1_1 a1_2 _ _ l1_3 _ _ l1_4 _ _ l1_5 a2 _ _ ([] : List Int) 4 t636 true _ ?s1 ?s2 ?s3 ?s4 ?s5 ?s6 ?s7 ?s8 A69.out).mono ?_); (case s1 => exact qc_ HR1_3); (case s2 => exact HC1_3.out); (case s3 => exact qc_ HR1_4); (case s4 => exact HC1_4.out); (case s5 => exact qc_ HR1_5); (case s6 => exact HC1_5.out); (case s7 => exact Kd.a4o _ _); (case s8 => exact Nat.le_refl _); rintro e w109 ⟨rfl, hb⟩; refine ⟨_, rfl, ?_⟩; replace BK626 := qkb_ BK626 hb; replace BK627 := qkb_ BK627 hb; replace BK631 := am_ (a1f (g := gb631) (o := a3b (Value.int .i64) x632000_2) (qk_ BK631) hb); replace HB := qbs_ hb; (try clear hb); (try clear hb2); (try clear hk); (try clear hi); obtain ⟨z'110_0, z'110_1, z'110_2, z'110_3, z'110_4⟩ := qz5_ BK626; obtain ⟨y'110_0, y'110_1, y'110_2, y'110_3, y'110_4⟩ := qf5_ BK626; obtain ⟨z'111_0, z'111_1, z'111_2, z'111_3, z'111_4, z'111_5⟩ := qz6_ BK627; obtain ⟨y'111_0, y'111_1, y'111_2, y'111_3, y'111_4, y'111_5⟩ := qf6_ BK627) | ((with_reducible refine a0b (f := 27) rfl ?_); refine a0p (some 81) rfl rfl Try.func27 (by kernel_rfl) rfl #[.agg #[.int .i64 a0_0, .int .i64 a0_1, .int .i64 a0_2, .int .i64 ji70, .bool a0_4], .agg #[.int .i64 a1_0, .int .i64 a1_1, .int .i64 a1_2, .slice A1_3 l1_3.length c1_3, .slice A1_4 l1_4.length c1_4, .slice A1_5 l1_5.length c1_5], .string a2, .slice none 0 0, .int .i64 4] rfl (by (try simp only [List.map_toArray, List.map_cons, List.map_nil]); first | done | (simp only [hji70]; rfl) | rfl | (simp only [List.length_drop, List.length_take]; rfl)) ?_; (refine (a2c.calls k2 a0_0 a0_1 a0_2 ji70 a0_4 a1_0 a1_1 a1_2 _ _ l1_3 _ _ l1_4 _ _ l1_5 a2 _ _ ([] : List Int) 4 t638 false _ ?s1 ?s2 ?s3 ?s4 ?s5 ?s6 ?s7 ?s8 A71.out).mono ?_); (case s1 => exact Kd.a0w HR1_3.out qb_); (case s2 => exact HC1_3.out); (case s3 => exact Kd.a0w HR1_4.out qb_); (case s4 => exact HC1_4.out); (case s5 => exact Kd.a0w HR1_5.out qb_); (case s6 => exact HC1_5.out); (case s7 => exact Kd.a4o _ _); (case s8 => exact Nat.le_refl _); rintro e w112 ⟨rfl, hb⟩; refine ⟨_, rfl, ?_⟩; replace BK626 := am_ (a1f (g := gb626) (o := .cells #[.int .i64 a0_0, .int .i64 a0_1, .int .i64 a0_2, .int .i64 ji70, .bool a0_4] 25 (0, 0)) (by refine qd_ ?_; refine a0g (cs := #[.int .i64 a0_0, .int .i64 a0_1, .int .i64 a0_2, .int .i64 a0_3, .bool a0_4]) ?_ 3 _ rfl; refine qd_ ?_; exact BK626.out) hb); replace BK627 := am_ (a1f (g := gb627) (o := .cells #[.int .i64 a1_0, .int .i64 a1_1, .int .i64 a1_2, .slice A1_3 l1_3.length c1_3, .slice A1_4 l1_4.length c1_4, .slice A1_5 l1_5.length c1_5] 30 (0, 0)) (by refine qd_ ?_; refine a0i ?_ NB627_626.out _; refine qd_ ?_; exact BK627.out) hb); replace BK631 := am_ (a1f (g := gb631) (o := a3b (Value.int .i64) x632000_2) (by refine qd_ ?_; refine a4i ?_ NB631_626.out _; refine qd_ ?_; exact BK631.out) hb); replace HB := qbs_ hb; (try clear hb); (try clear hb2); (try clear hk); (try clear hi)))
          go_ret
          exact ⟨by first | rfl | (simp [a3h, a3i] <;> rfl) | (simp only [← hji70]; first | rfl | (simp [a3h, a3i] <;> rfl)) | (simp [*, a3h, a3i] <;> rfl), qb_⟩
        ·replace c73 := be_ c73
         subst c73
         have H1 : (some false) = some r := by rw [if_neg (show ¬ (false = true) by decide)] at H; exact H
         clear H
         have H := H1
         clear H1
         obtain rfl := si_ H
         have hnb113 := NB626_627.out
         have hnc113 := NB627_626.out
         have hnb114 := NB626_631.out
         have hnc114 := NB631_626.out
         obtain ⟨z'115_0, z'115_1, z'115_2, z'115_3, z'115_4⟩ := qz5_ BK626; obtain ⟨y'115_0, y'115_1, y'115_2, y'115_3, y'115_4⟩ := qf5_ BK626
         have hnb116 := NB627_631.out
         have hnc116 := NB631_627.out
         obtain ⟨z'117_0, z'117_1, z'117_2, z'117_3, z'117_4, z'117_5⟩ := qz6_ BK627; obtain ⟨y'117_0, y'117_1, y'117_2, y'117_3, y'117_4, y'117_5⟩ := qf6_ BK627
         go_wp2_with (first | ((with_reducible refine a0b (f := 27) rfl ?_); refine a0p (some 70) rfl rfl Try.func27 (by kernel_rfl) rfl #[.agg #[.int .i64 a0_0, .int .i64 a0_1, .int .i64 a0_2, .int .i64 a0_3, .bool a0_4], .agg #[.int .i64 a1_0, .int .i64 a1_1, .int .i64 a1_2, .slice A1_3 l1_3.length c1_3, .slice A1_4 l1_4.length c1_4, .slice A1_5 l1_5.length c1_5], .string a2, .slice none 0 0, .int .i64 4] rfl ql_ ?_; (refine (a2c.calls k2 a0_0 a0_1 a0_2 a0_3 a0_4 a1_0 a1_1 a1_2 _ _ l1_3 _ _ l1_4 _ _ l1_5 a2 _ _ ([] : List Int) 4 t636 false _ ?s1 ?s2 ?s3 ?s4 ?s5 ?s6 ?s7 ?s8 A69.out).mono ?_); (case s1 => exact qc_ HR1_3); (case s2 => exact HC1_3.out); (case s3 => exact qc_ HR1_4); (case s4 => exact HC1_4.out); (case s5 => exact qc_ HR1_5); (case s6 => exact HC1_5.out); (case s7 => exact Kd.a4o _ _); (case s8 => exact Nat.le_refl _); rintro e w118 ⟨rfl, hb⟩; refine ⟨_, rfl, ?_⟩; replace BK626 := qkb_ BK626 hb; replace BK627 := qkb_ BK627 hb; replace BK631 := am_ (a1f (g := gb631) (o := a3b (Value.int .i64) x632000_2) (qk_ BK631) hb); replace HB := qbs_ hb; (try clear hb); (try clear hb2); (try clear hk); (try clear hi); obtain ⟨z'119_0, z'119_1, z'119_2, z'119_3, z'119_4⟩ := qz5_ BK626; obtain ⟨y'119_0, y'119_1, y'119_2, y'119_3, y'119_4⟩ := qf5_ BK626; obtain ⟨z'120_0, z'120_1, z'120_2, z'120_3, z'120_4, z'120_5⟩ := qz6_ BK627; obtain ⟨y'120_0, y'120_1, y'120_2, y'120_3, y'120_4, y'120_5⟩ := qf6_ BK627) | ((with_reducible refine a0b (f := 27) rfl ?_); refine a0p (some 81) rfl rfl Try.func27 (by kernel_rfl) rfl #[.agg #[.int .i64 a0_0, .int .i64 a0_1, .int .i64 a0_2, .int .i64 ji70, .bool a0_4], .agg #[.int .i64 a1_0, .int .i64 a1_1, .int .i64 a1_2, .slice A1_3 l1_3.length c1_3, .slice A1_4 l1_4.length c1_4, .slice A1_5 l1_5.length c1_5], .string a2, .slice none 0 0, .int .i64 4] rfl (by (try simp only [List.map_toArray, List.map_cons, List.map_nil]); first | done | (simp only [hji70]; rfl) | rfl | (simp only [List.length_drop, List.length_take]; rfl)) ?_; (refine (a2c.calls k2 a0_0 a0_1 a0_2 ji70 a0_4 a1_0 a1_1 a1_2 _ _ l1_3 _ _ l1_4 _ _ l1_5 a2 _ _ ([] : List Int) 4 t638 t639 _ ?s1 ?s2 ?s3 ?s4 ?s5 ?s6 ?s7 ?s8 A71.out).mono ?_); (case s1 => exact Kd.a0w HR1_3.out qb_); (case s2 => exact HC1_3.out); (case s3 => exact Kd.a0w HR1_4.out qb_); (case s4 => exact HC1_4.out); (case s5 => exact Kd.a0w HR1_5.out qb_); (case s6 => exact HC1_5.out); (case s7 => exact Kd.a4o _ _); (case s8 => exact Nat.le_refl _); rintro e w121 ⟨rfl, hb⟩; refine ⟨_, rfl, ?_⟩; replace BK626 := am_ (a1f (g := gb626) (o := .cells #[.int .i64 a0_0, .int .i64 a0_1, .int .i64 a0_2, .int .i64 ji70, .bool a0_4] 25 (0, 0)) (by refine qd_ ?_; refine a0g (cs := #[.int .i64 a0_0, .int .i64 a0_1, .int .i64 a0_2, .int .i64 a0_3, .bool a0_4]) ?_ 3 _ rfl; refine qd_ ?_; exact BK626.out) hb); replace BK627 := am_ (a1f (g := gb627) (o := .cells #[.int .i64 a1_0, .int .i64 a1_1, .int .i64 a1_2, .slice A1_3 l1_3.length c1_3, .slice A1_4 l1_4.length c1_4, .slice A1_5 l1_5.length c1_5] 30 (0, 0)) (by refine qd_ ?_; refine a0i ?_ NB627_626.out _; refine qd_ ?_; exact BK627.out) hb); replace BK631 := am_ (a1f (g := gb631) (o := a3b (Value.int .i64) x632000_2) (by refine qd_ ?_; refine a4i ?_ NB631_626.out _; refine qd_ ?_; exact BK631.out) hb); replace HB := qbs_ hb; (try clear hb); (try clear hb2); (try clear hk); (try clear hi)))
         go_ret
         exact ⟨by first | rfl | (simp [a3h, a3i] <;> rfl) | (simp only [← hji70]; first | rfl | (simp [a3h, a3i] <;> rfl)) | (simp [*, a3h, a3i] <;> rfl), qb_⟩
       ·replace c72 := be_ c72
        subst c72
        have H1 : (some false) = some r := by rw [if_neg (show ¬ (false = true) by decide)] at H; exact H
        clear H
        have H := H1
        clear H1
        obtain rfl := si_ H
        have hnb122 := NB626_627.out
        have hnc122 := NB627_626.out
        have hnb123 := NB626_631.out
        have hnc123 := NB631_626.out
        obtain ⟨z'124_0, z'124_1, z'124_2, z'124_3, z'124_4⟩ := qz5_ BK626; obtain ⟨y'124_0, y'124_1, y'124_2, y'124_3, y'124_4⟩ := qf5_ BK626
        have hnb125 := NB627_631.out
        have hnc125 := NB631_627.out
        obtain ⟨z'126_0, z'126_1, z'126_2, z'126_3, z'126_4, z'126_5⟩ := qz6_ BK627; obtain ⟨y'126_0, y'126_1, y'126_2, y'126_3, y'126_4, y'126_5⟩ := qf6_ BK627
        go_wp2_with (first | ((with_reducible refine a0b (f := 27) rfl ?_); refine a0p (some 70) rfl rfl Try.func27 (by kernel_rfl) rfl #[.agg #[.int .i64 a0_0, .int .i64 a0_1, .int .i64 a0_2, .int .i64 a0_3, .bool a0_4], .agg #[.int .i64 a1_0, .int .i64 a1_1, .int .i64 a1_2, .slice A1_3 l1_3.length c1_3, .slice A1_4 l1_4.length c1_4, .slice A1_5 l1_5.length c1_5], .string a2, .slice none 0 0, .int .i64 4] rfl ql_ ?_; (refine (a2c.calls k2 a0_0 a0_1 a0_2 a0_3 a0_4 a1_0 a1_1 a1_2 _ _ l1_3 _ _ l1_4 _ _ l1_5 a2 _ _ ([] : List Int) 4 t636 t637 _ ?s1 ?s2 ?s3 ?s4 ?s5 ?s6 ?s7 ?s8 A69.out).mono ?_); (case s1 => exact qc_ HR1_3); (case s2 => exact HC1_3.out); (case s3 => exact qc_ HR1_4); (case s4 => exact HC1_4.out); (case s5 => exact qc_ HR1_5); (case s6 => exact HC1_5.out); (case s7 => exact Kd.a4o _ _); (case s8 => exact Nat.le_refl _); rintro e w127 ⟨rfl, hb⟩; refine ⟨_, rfl, ?_⟩; replace BK626 := qkb_ BK626 hb; replace BK627 := qkb_ BK627 hb; replace BK631 := am_ (a1f (g := gb631) (o := a3b (Value.int .i64) x632000_2) (qk_ BK631) hb); replace HB := qbs_ hb; (try clear hb); (try clear hb2); (try clear hk); (try clear hi); obtain ⟨z'128_0, z'128_1, z'128_2, z'128_3, z'128_4⟩ := qz5_ BK626; obtain ⟨y'128_0, y'128_1, y'128_2, y'128_3, y'128_4⟩ := qf5_ BK626; obtain ⟨z'129_0, z'129_1, z'129_2, z'129_3, z'129_4, z'129_5⟩ := qz6_ BK627; obtain ⟨y'129_0, y'129_1, y'129_2, y'129_3, y'129_4, y'129_5⟩ := qf6_ BK627) | ((with_reducible refine a0b (f := 27) rfl ?_); refine a0p (some 81) rfl rfl Try.func27 (by kernel_rfl) rfl #[.agg #[.int .i64 a0_0, .int .i64 a0_1, .int .i64 a0_2, .int .i64 ji70, .bool a0_4], .agg #[.int .i64 a1_0, .int .i64 a1_1, .int .i64 a1_2, .slice A1_3 l1_3.length c1_3, .slice A1_4 l1_4.length c1_4, .slice A1_5 l1_5.length c1_5], .string a2, .slice none 0 0, .int .i64 4] rfl (by (try simp only [List.map_toArray, List.map_cons, List.map_nil]); first | done | (simp only [hji70]; rfl) | rfl | (simp only [List.length_drop, List.length_take]; rfl)) ?_; (refine (a2c.calls k2 a0_0 a0_1 a0_2 ji70 a0_4 a1_0 a1_1 a1_2 _ _ l1_3 _ _ l1_4 _ _ l1_5 a2 _ _ ([] : List Int) 4 t638 t639 _ ?s1 ?s2 ?s3 ?s4 ?s5 ?s6 ?s7 ?s8 A71.out).mono ?_); (case s1 => exact Kd.a0w HR1_3.out qb_); (case s2 => exact HC1_3.out); (case s3 => exact Kd.a0w HR1_4.out qb_); (case s4 => exact HC1_4.out); (case s5 => exact Kd.a0w HR1_5.out qb_); (case s6 => exact HC1_5.out); (case s7 => exact Kd.a4o _ _); (case s8 => exact Nat.le_refl _); rintro e w130 ⟨rfl, hb⟩; refine ⟨_, rfl, ?_⟩; replace BK626 := am_ (a1f (g := gb626) (o := .cells #[.int .i64 a0_0, .int .i64 a0_1, .int .i64 a0_2, .int .i64 ji70, .bool a0_4] 25 (0, 0)) (by refine qd_ ?_; refine a0g (cs := #[.int .i64 a0_0, .int .i64 a0_1, .int .i64 a0_2, .int .i64 a0_3, .bool a0_4]) ?_ 3 _ rfl; refine qd_ ?_; exact BK626.out) hb); replace BK627 := am_ (a1f (g := gb627) (o := .cells #[.int .i64 a1_0, .int .i64 a1_1, .int .i64 a1_2, .slice A1_3 l1_3.length c1_3, .slice A1_4 l1_4.length c1_4, .slice A1_5 l1_5.length c1_5] 30 (0, 0)) (by refine qd_ ?_; refine a0i ?_ NB627_626.out _; refine qd_ ?_; exact BK627.out) hb); replace BK631 := am_ (a1f (g := gb631) (o := a3b (Value.int .i64) x632000_2) (by refine qd_ ?_; refine a4i ?_ NB631_626.out _; refine qd_ ?_; exact BK631.out) hb); replace HB := qbs_ hb; (try clear hb); (try clear hb2); (try clear hk); (try clear hi)))
        go_ret
        exact ⟨by first | rfl | (simp [a3h, a3i] <;> rfl) | (simp only [← hji70]; first | rfl | (simp [a3h, a3i] <;> rfl)) | (simp [*, a3h, a3i] <;> rfl), qb_⟩
end Go.Proofs.Ytemnlgefngjliaa.Px
