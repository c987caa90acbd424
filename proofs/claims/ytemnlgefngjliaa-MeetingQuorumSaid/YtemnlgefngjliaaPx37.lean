/- Contracts of Go functions, printed. Conditions: as each theorem states. -/
import Derived.Test.YtemnlgefngjliaaPx0
import Derived.Test.YtemnlgefngjliaaPx15
import Derived.Test.YtemnlgefngjliaaPx17
import Derived.Test.YtemnlgefngjliaaPx31
import Derived.Test.YtemnlgefngjliaaPx33
import Derived.Test.YtemnlgefngjliaaPx35
namespace Go.Proofs.Ytemnlgefngjliaa.Px
open Go.Proofs.Ytemnlgefngjliaa.Given
open Go.RowKit Go.Proofs.YtemnlgefngjliaaW.PrintWords Go.Proofs.YtemnlgefngjliaaW.PrintLast Go.Proofs.YtemnlgefngjliaaW.PrintMore
attribute [local go_sem] a2f a2g a2r a2s a1x a1y a2h a2i
set_option linter.unusedVariables false
set_option linter.unusedSimpArgs false
mutual
def a0j.j0 : Nat → ByteArray → Int → Bool → Bool → Int → Int → Int → Int → Bool → Int → Int → Int → List ByteArray → List (S43) → List Int → Option (Bool)
 | 0, _, _, _, _, _, _, _, _, _, _, _, _, _, _, _ => none
 | k + 1, x2, x3, x9, x34, z0, z1, z2, z3, z4, z5, z6, z7, z8, z9, z10 => if x34 = true then (some x9) else ((a2k.f k z0 z1 z2 z3 z4 z5 z6 z7 z8 z9 z10 x2 ([] : List Int) 3).bind fun bt611 => (a0j.l0 k x2 x3 x9 bt611.1 bt611.2 z9 (z9.length : Int) 0 z0 z1 z2 z3 z4 z5 z6 z7 z8 z9 z10 z5 z6 z7 z8 z9 ([] : List Int)))
def a0j.l0 : Nat → ByteArray → Int → Bool → Bool → Bool → List (S43) → Int → Int → Int → Int → Int → Int → Bool → Int → Int → Int → List ByteArray → List (S43) → List Int → Int → Int → Int → List ByteArray → List (S43) → List Int → Option (Bool)
 | 0, _, _, _, _, _, _, _, _, _, _, _, _, _, _, _, _, _, _, _, _, _, _, _, _, _ => none
 | k + 1, x2, x3, x9, x10, x11, x46, x47, x48, z0, z1, z2, z3, z4, z5, z6, z7, z8, z9, z10, z11, z12, z13, z14, z15, z16 => if x48 < x47 then (if 0 ≤ x48 then (if x48 < (x46.length : Int) then (if z16.length < 17592186044416 then (a0j.l0 k x2 x3 x9 x10 x11 x46 x47 (wrap64 (x48 + 1)) z0 z1 z2 z3 z4 z5 z6 z7 z8 z9 z10 z11 z12 z13 z14 z15 (z16 ++ [(a0a x46 x48).f0])) else (none)) else (none)) else (none)) else ((a2k.f k z0 z1 z2 z3 z4 z11 z12 z13 z14 z15 z16 x2 ([] : List Int) 3).bind fun bt619 => ((a2k.f k z0 0 1 z3 z4 z5 z6 z7 z8 z9 z10 x2 ([] : List Int) 3).bind fun bt622 => ((a1i.f k z5 z6 z7 z8 z9 z10 x3).bind fun bt624 => ((a2k.f k z0 z1 z2 z3 z4 bt624.1 bt624.2.1 bt624.2.2.1 bt624.2.2.2.1 bt624.2.2.2.2.1 bt624.2.2.2.2.2.1 x2 ([] : List Int) 3).bind fun bt639 => (if x9 = true then (if x11 = true then (if bt619.2 = true then (if bt622.2 = true then (if bt639.2 = true then (if bt619.1 = true then (some false) else (if bt622.1 = true then (some false) else (if bt624.2.2.2.2.2.2.2 = true then (if x10 = true then (some true) else (some (!bt639.1))) else (some true)))) else (some false)) else (some false)) else (some false)) else (some false)) else (some false))))))
end
def a0j.f (k : Nat) (a0_0 a0_1 a0_2 a0_3 : Int) (a0_4 : Bool) (a1_0 a1_1 a1_2 : Int) (l1_3 : List ByteArray) (l1_4 : List (S43)) (l1_5 : List Int) (a2 : ByteArray) (a3 : Int) : Option (Bool) := (a0h.f k).bind fun t608 => ((a3s.f k a0_0 a0_1 a0_2 a0_3 a0_4 a1_0 a1_1 a1_2 l1_3 l1_4 l1_5).bind fun t609 => (if t609 = true then ((a1d.f k a2).bind fun t610 => (a0j.j0 k a2 a3 t608 (!t610) a0_0 a0_1 a0_2 a0_3 a0_4 a1_0 a1_1 a1_2 l1_3 l1_4 l1_5)) else (a0j.j0 k a2 a3 t608 true a0_0 a0_1 a0_2 a0_3 a0_4 a1_0 a1_1 a1_2 l1_3 l1_4 l1_5)))
theorem a0j.a0t : ∀ k, (∀ y0 y1 y2 y3 y4 y5 y6 y7 y8 y9 y10 y11 y12 y13 y14, LeO (a0j.j0 k y0 y1 y2 y3 y4 y5 y6 y7 y8 y9 y10 y11 y12 y13 y14) (a0j.j0 (k + 1) y0 y1 y2 y3 y4 y5 y6 y7 y8 y9 y10 y11 y12 y13 y14)) ∧ (∀ y0 y1 y2 y3 y4 y5 y6 y7 y8 y9 y10 y11 y12 y13 y14 y15 y16 y17 y18 y19 y20 y21 y22 y23 y24, LeO (a0j.l0 k y0 y1 y2 y3 y4 y5 y6 y7 y8 y9 y10 y11 y12 y13 y14 y15 y16 y17 y18 y19 y20 y21 y22 y23 y24) (a0j.l0 (k + 1) y0 y1 y2 y3 y4 y5 y6 y7 y8 y9 y10 y11 y12 y13 y14 y15 y16 y17 y18 y19 y20 y21 y22 y23 y24))
 | 0 => ⟨fun _ _ _ _ _ _ _ _ _ _ _ _ _ _ _ r h => by simp [a0j.j0] at h, fun _ _ _ _ _ _ _ _ _ _ _ _ _ _ _ _ _ _ _ _ _ _ _ _ _ r h => by simp [a0j.l0] at h⟩
 | k + 1 => by
  obtain ⟨ih0, ih1⟩ := a0j.a0t k
  refine ⟨?_, ?_⟩
  ·intro y0 y1 y2 y3 y4 y5 y6 y7 y8 y9 y10 y11 y12 y13 y14
   unfold a0j.j0
   with_reducible (repeat' first | apply ih0 | apply ih1 | apply a2k.mono | apply a0h.mono | apply a3s.mono | apply a1i.mono | apply a1d.mono | apply LeO.refl | apply LeO.none | apply LeO.ite | refine LeO.bind ?_ (fun _ => ?_))
  ·intro y0 y1 y2 y3 y4 y5 y6 y7 y8 y9 y10 y11 y12 y13 y14 y15 y16 y17 y18 y19 y20 y21 y22 y23 y24
   unfold a0j.l0
   with_reducible (repeat' first | apply ih0 | apply ih1 | apply a2k.mono | apply a0h.mono | apply a3s.mono | apply a1i.mono | apply a1d.mono | apply LeO.refl | apply LeO.none | apply LeO.ite | refine LeO.bind ?_ (fun _ => ?_))
theorem a0j.mono : ∀ a0 a1 a2 a3 a4 a5 a6 a7 a8 a9 a10 a11 a12 k, LeO (a0j.f k a0 a1 a2 a3 a4 a5 a6 a7 a8 a9 a10 a11 a12) (a0j.f (k + 1) a0 a1 a2 a3 a4 a5 a6 a7 a8 a9 a10 a11 a12) := by
 intro a0 a1 a2 a3 a4 a5 a6 a7 a8 a9 a10 a11 a12 k
 obtain ⟨ih0, ih1⟩ := a0j.a0t k
 unfold a0j.f
 with_reducible (repeat' first | apply ih0 | apply ih1 | apply a2k.mono | apply a0h.mono | apply a3s.mono | apply a1i.mono | apply a1d.mono | apply LeO.refl | apply LeO.none | apply LeO.ite | refine LeO.bind ?_ (fun _ => ?_))
set_option maxHeartbeats 60000000 in
set_option maxRecDepth 100000 in
theorem a0j.calls (k : Nat) (a0_0 a0_1 a0_2 a0_3 : Int) (a0_4 : Bool) (a1_0 a1_1 a1_2 : Int) (A1_3 : Option Addr) (c1_3 : Nat) (l1_3 : List ByteArray) (A1_4 : Option Addr) (c1_4 : Nat) (l1_4 : List (S43)) (A1_5 : Option Addr) (c1_5 : Nat) (l1_5 : List Int) (a2 : ByteArray) (a3 : Int) (r : Bool) (w : World) (hr1_3 : Kd.C Kd.string w A1_3 l1_3.length l1_3) (hc1_3 : l1_3.length ≤ c1_3) (hr1_4 : Kd.C k43 w A1_4 l1_4.length l1_4) (hc1_4 : l1_4.length ≤ c1_4) (hr1_5 : Kd.C (Kd.int .i64) w A1_5 l1_5.length l1_5) (hc1_5 : l1_5.length ≤ c1_5) (h : a0j.f k a0_0 a0_1 a0_2 a0_3 a0_4 a1_0 a1_1 a1_2 l1_3 l1_4 l1_5 a2 a3 = some r) :
  Calls Try.prog 7 #[.agg #[.int .i64 a0_0, .int .i64 a0_1, .int .i64 a0_2, .int .i64 a0_3, .bool a0_4], .agg #[.int .i64 a1_0, .int .i64 a1_1, .int .i64 a1_2, .slice A1_3 l1_3.length c1_3, .slice A1_4 l1_4.length c1_4, .slice A1_5 l1_5.length c1_5], .string a2, .int .u8 a3] w fun e w' => e = .returned (.bool r) ∧ Below w.heap.size w w' := by
 have hu25 := Try.underlying25
 have hu30 := Try.underlying30
 have hu43 := Try.underlying43
 have hu23 := Try.underlying23
 have HR1_3 := am_ hr1_3
 have HC1_3 := am_ hc1_3
 clear hr1_3 hc1_3
 have HR1_4 := am_ hr1_4
 have HC1_4 := am_ hc1_4
 clear hr1_4 hc1_4
 have HR1_5 := am_ hr1_5
 have HC1_5 := am_ hc1_5
 clear hr1_5 hc1_5
 have HB := am_ (Below.refl w.heap.size w)
 have H : ((a0h.f k).bind fun t608 => ((a3s.f k a0_0 a0_1 a0_2 a0_3 a0_4 a1_0 a1_1 a1_2 l1_3 l1_4 l1_5).bind fun t609 => (if t609 = true then ((a1d.f k a2).bind fun t610 => (a0j.j0 k a2 a3 t608 (!t610) a0_0 a0_1 a0_2 a0_3 a0_4 a1_0 a1_1 a1_2 l1_3 l1_4 l1_5)) else (a0j.j0 k a2 a3 t608 true a0_0 a0_1 a0_2 a0_3 a0_4 a1_0 a1_1 a1_2 l1_3 l1_4 l1_5)))) = some r := h
 clear h
 replace H := bm_ H
 obtain ⟨t608, A50, H⟩ := H
 replace H : ((a3s.f k a0_0 a0_1 a0_2 a0_3 a0_4 a1_0 a1_1 a1_2 l1_3 l1_4 l1_5).bind fun t609 => (if t609 = true then ((a1d.f k a2).bind fun t610 => (a0j.j0 k a2 a3 t608 (!t610) a0_0 a0_1 a0_2 a0_3 a0_4 a1_0 a1_1 a1_2 l1_3 l1_4 l1_5)) else (a0j.j0 k a2 a3 t608 true a0_0 a0_1 a0_2 a0_3 a0_4 a1_0 a1_1 a1_2 l1_3 l1_4 l1_5))) = some r := H
 have A5 := am_ A50
 clear A50
 have HC6 := am_ H
 clear H
 go_enter Try.func7, Try.ntmps7
 go_upto_region 2 with (first | ((with_reducible refine a0f (N := 4) rfl ?_); refine qev_ 4 #[.int .i64 a0_0, .int .i64 a0_1, .int .i64 a0_2, .int .i64 a0_3, .bool a0_4] 25 ?_; intro gb606 hg w7 hbox hb; have BK606 := am_ (hbox); have GW606 := qga_ hg; have GE606 := qga_ hg; replace HB := qbs_ hb; clear hb hbox hg) | ((with_reducible refine a0f (N := 5) rfl ?_); refine qev_ 5 #[.int .i64 a1_0, .int .i64 a1_1, .int .i64 a1_2, .slice A1_3 l1_3.length c1_3, .slice A1_4 l1_4.length c1_4, .slice A1_5 l1_5.length c1_5] 30 ?_; intro gb607 hg w8 hbox hb; have BK607 := am_ (hbox); have GW607 := qga_ hg; have GE607 := qga_ hg; replace HB := qbs_ hb; have NB606_607 := am_ ((by rw [hg]; exact Nat.ne_of_lt (a0u (qk_ BK606)) : gb606 ≠ gb607)); have NB607_606 := am_ ((by rw [hg]; exact Nat.ne_of_gt (a0u (qk_ BK606)) : gb607 ≠ gb606)); replace BK606 := qkb_ BK606 hb; clear hb hbox hg) | ((with_reducible refine a0e (f := 11) rfl ?_); refine a0w (some 25) rfl rfl Try.func11 (by kernel_rfl) rfl #[] rfl ql_ ?_; (with_reducible refine (a0h.calls k  t608 _ A5.out).mono ?_); rintro e w9 ⟨rfl, hb⟩; refine ⟨_, rfl, ?_⟩; replace BK606 := qkb_ BK606 hb; replace BK607 := qkb_ BK607 hb; replace HB := qbs_ hb; (try clear hb); (try clear hb2); (try clear hk); (try clear hi)))
 (try simp only [Act.put, List.setIfInBounds_toArray, List.set_cons_zero, List.set_cons_succ])
 go_cut [34] (fun v34 wc => ∃ (kq : Nat) (x34_5 : Bool), v34 = .bool x34_5 ∧ Aside0 (a0j.j0 kq a2 a3 t608 x34_5 a0_0 a0_1 a0_2 a0_3 a0_4 a1_0 a1_1 a1_2 l1_3 l1_4 l1_5 = some r) ∧ Aside0 (kq ≤ k) ∧ Aside0 (wc.heap[gb606]? = some (.cells #[.int .i64 a0_0, .int .i64 a0_1, .int .i64 a0_2, .int .i64 a0_3, .bool a0_4] 25 (0, 0))) ∧ Aside0 (wc.heap[gb607]? = some (.cells #[.int .i64 a1_0, .int .i64 a1_1, .int .i64 a1_2, (.slice A1_3 l1_3.length c1_3), (.slice A1_4 l1_4.length c1_4), (.slice A1_5 l1_5.length c1_5)] 30 (0, 0))) ∧ Aside0 (Below w.heap.size w wc))
 case first =>
  have H := HC6.out
  clear HC6
  replace H := bm_ H
  obtain ⟨t609, A100, H⟩ := H
  replace H : (if t609 = true then ((a1d.f k a2).bind fun t610 => (a0j.j0 k a2 a3 t608 (!t610) a0_0 a0_1 a0_2 a0_3 a0_4 a1_0 a1_1 a1_2 l1_3 l1_4 l1_5)) else (a0j.j0 k a2 a3 t608 true a0_0 a0_1 a0_2 a0_3 a0_4 a1_0 a1_1 a1_2 l1_3 l1_4 l1_5)) = some r := H
  have A10 := am_ A100
  clear A100
  by_cases c11 : t609 = true
  ·subst c11
   have H1 : ((a1d.f k a2).bind fun t610 => (a0j.j0 k a2 a3 t608 (!t610) a0_0 a0_1 a0_2 a0_3 a0_4 a1_0 a1_1 a1_2 l1_3 l1_4 l1_5)) = some r := by rw [if_pos rfl] at H; exact H
   clear H
   have H := H1
   clear H1
   replace H := bm_ H
   obtain ⟨t610, A120, H⟩ := H
   replace H : (a0j.j0 k a2 a3 t608 (!t610) a0_0 a0_1 a0_2 a0_3 a0_4 a1_0 a1_1 a1_2 l1_3 l1_4 l1_5) = some r := H
   have A12 := am_ A120
   clear A120
   have H' := am_ H
   clear H
   have hnb13 := NB606_607.out
   have hnc13 := NB607_606.out
   obtain ⟨z'14_0, z'14_1, z'14_2, z'14_3, z'14_4⟩ := qz5_ BK606; obtain ⟨y'14_0, y'14_1, y'14_2, y'14_3, y'14_4⟩ := qf5_ BK606
   obtain ⟨z'15_0, z'15_1, z'15_2, z'15_3, z'15_4, z'15_5⟩ := qz6_ BK607; obtain ⟨y'15_0, y'15_1, y'15_2, y'15_3, y'15_4, y'15_5⟩ := qf6_ BK607
   go_wp2_with (first | ((with_reducible refine a0e (f := 22) rfl ?_); refine a0w (some 28) rfl rfl Try.func22 (by kernel_rfl) rfl #[.agg #[.int .i64 a0_0, .int .i64 a0_1, .int .i64 a0_2, .int .i64 a0_3, .bool a0_4], .agg #[.int .i64 a1_0, .int .i64 a1_1, .int .i64 a1_2, .slice A1_3 l1_3.length c1_3, .slice A1_4 l1_4.length c1_4, .slice A1_5 l1_5.length c1_5]] rfl ql_ ?_; (with_reducible refine (a3s.calls k a0_0 a0_1 a0_2 a0_3 a0_4 a1_0 a1_1 a1_2 _ _ l1_3 _ _ l1_4 _ _ l1_5 true _ ?s1 ?s2 ?s3 ?s4 ?s5 ?s6 A10.out).mono ?_); (case s1 => exact qc_ HR1_3); (case s2 => exact HC1_3.out); (case s3 => exact qc_ HR1_4); (case s4 => exact HC1_4.out); (case s5 => exact qc_ HR1_5); (case s6 => exact HC1_5.out); rintro e w16 ⟨rfl, hb⟩; refine ⟨_, rfl, ?_⟩; replace BK606 := qkb_ BK606 hb; replace BK607 := qkb_ BK607 hb; replace HB := qbs_ hb; (try clear hb); (try clear hb2); (try clear hk); (try clear hi)) | (go_at_call 25; (with_reducible refine (a1d.calls k a2 t610 _ A12.out).mono ?_); rintro e w' ⟨rfl, ⟨nd, rfl⟩⟩))
   go_meet
   case rel => exact ⟨_, (!t610), qs_, H', ⟨qo_⟩, ⟨qk_ BK606⟩, ⟨qk_ BK607⟩, ⟨qb_⟩⟩
  ·replace c11 := be_ c11
   subst c11
   have H1 : (a0j.j0 k a2 a3 t608 true a0_0 a0_1 a0_2 a0_3 a0_4 a1_0 a1_1 a1_2 l1_3 l1_4 l1_5) = some r := by rw [if_neg (show ¬ (false = true) by decide)] at H; exact H
   clear H
   have H := H1
   clear H1
   have H' := am_ H
   clear H
   have hnb17 := NB606_607.out
   have hnc17 := NB607_606.out
   obtain ⟨z'18_0, z'18_1, z'18_2, z'18_3, z'18_4⟩ := qz5_ BK606; obtain ⟨y'18_0, y'18_1, y'18_2, y'18_3, y'18_4⟩ := qf5_ BK606
   obtain ⟨z'19_0, z'19_1, z'19_2, z'19_3, z'19_4, z'19_5⟩ := qz6_ BK607; obtain ⟨y'19_0, y'19_1, y'19_2, y'19_3, y'19_4, y'19_5⟩ := qf6_ BK607
   go_wp2_with (first | ((with_reducible refine a0e (f := 22) rfl ?_); refine a0w (some 28) rfl rfl Try.func22 (by kernel_rfl) rfl #[.agg #[.int .i64 a0_0, .int .i64 a0_1, .int .i64 a0_2, .int .i64 a0_3, .bool a0_4], .agg #[.int .i64 a1_0, .int .i64 a1_1, .int .i64 a1_2, .slice A1_3 l1_3.length c1_3, .slice A1_4 l1_4.length c1_4, .slice A1_5 l1_5.length c1_5]] rfl ql_ ?_; (with_reducible refine (a3s.calls k a0_0 a0_1 a0_2 a0_3 a0_4 a1_0 a1_1 a1_2 _ _ l1_3 _ _ l1_4 _ _ l1_5 false _ ?s1 ?s2 ?s3 ?s4 ?s5 ?s6 A10.out).mono ?_); (case s1 => exact qc_ HR1_3); (case s2 => exact HC1_3.out); (case s3 => exact qc_ HR1_4); (case s4 => exact HC1_4.out); (case s5 => exact qc_ HR1_5); (case s6 => exact HC1_5.out); rintro e w20 ⟨rfl, hb⟩; refine ⟨_, rfl, ?_⟩; replace BK606 := qkb_ BK606 hb; replace BK607 := qkb_ BK607 hb; replace HB := qbs_ hb; (try clear hb); (try clear hb2); (try clear hk); (try clear hi)))
   go_meet
   case rel => exact ⟨_, (true), qs_, H', ⟨qo_⟩, ⟨qk_ BK606⟩, ⟨qk_ BK607⟩, ⟨qb_⟩⟩
 case rest =>
  clear HC6
  try clear c1
  try clear c2
  try clear p2
  try clear c7
  try clear c11
  try clear c13
  try clear c17
  try clear z'14_0 z'14_1 z'14_2 z'14_3 z'14_4
  try clear z'15_0 z'15_1 z'15_2 z'15_3 z'15_4 z'15_5
  try clear z'18_0 z'18_1 z'18_2 z'18_3 z'18_4
  try clear z'19_0 z'19_1 z'19_2 z'19_3 z'19_4 z'19_5
  try clear y'14_0 y'14_1 y'14_2 y'14_3 y'14_4
  try clear y'15_0 y'15_1 y'15_2 y'15_3 y'15_4 y'15_5
  try clear y'18_0 y'18_1 y'18_2 y'18_3 y'18_4
  try clear y'19_0 y'19_1 y'19_2 y'19_3 y'19_4 y'19_5
  obtain ⟨kq, x34_5, rfl, HA, HJ5, BK606, BK607, HB⟩ := hcut
  cases kq with
  | zero => exact absurd HA.out (by simp [a0j.j0])
  | succ kj5 =>
   have H := HA.out
   clear HA
   simp only [a0j.j0] at H
   by_cases c21 : x34_5 = true
   ·subst c21
    have H1 : (some t608) = some r := by rw [if_pos rfl] at H; exact H
    clear H
    have H := H1
    clear H1
    obtain rfl := si_ H
    go_wp2
    go_ret
    exact ⟨qx_, qb_⟩
   ·replace c21 := be_ c21
    subst c21
    have H1 : ((a2k.f kj5 a0_0 a0_1 a0_2 a0_3 a0_4 a1_0 a1_1 a1_2 l1_3 l1_4 l1_5 a2 ([] : List Int) 3).bind fun bt611 => (a0j.l0 kj5 a2 a3 t608 bt611.1 bt611.2 l1_4 (l1_4.length : Int) 0 a0_0 a0_1 a0_2 a0_3 a0_4 a1_0 a1_1 a1_2 l1_3 l1_4 l1_5 a1_0 a1_1 a1_2 l1_3 l1_4 ([] : List Int))) = some r := by rw [if_neg (show ¬ (false = true) by decide)] at H; exact H
    clear H
    have H := H1
    clear H1
    replace H := bm_ H
    obtain ⟨⟨t611, t612⟩, A220, H⟩ := H
    replace H : (a0j.l0 kj5 a2 a3 t608 t611 t612 l1_4 (l1_4.length : Int) 0 a0_0 a0_1 a0_2 a0_3 a0_4 a1_0 a1_1 a1_2 l1_3 l1_4 l1_5 a1_0 a1_1 a1_2 l1_3 l1_4 ([] : List Int)) = some r := H
    have A22 := am_ A220
    clear A220
    have H' := am_ H
    clear H
    have hnb23 := NB606_607.out
    have hnc23 := NB607_606.out
    obtain ⟨z'24_0, z'24_1, z'24_2, z'24_3, z'24_4⟩ := qz5_ BK606; obtain ⟨y'24_0, y'24_1, y'24_2, y'24_3, y'24_4⟩ := qf5_ BK606
    obtain ⟨z'25_0, z'25_1, z'25_2, z'25_3, z'25_4, z'25_5⟩ := qz6_ BK607; obtain ⟨y'25_0, y'25_1, y'25_2, y'25_3, y'25_4, y'25_5⟩ := qf6_ BK607
    go_wp2_with (first | ((with_reducible refine a0e (f := 27) rfl ?_); refine a0w (some 40) rfl rfl Try.func27 (by kernel_rfl) rfl #[.agg #[.int .i64 a0_0, .int .i64 a0_1, .int .i64 a0_2, .int .i64 a0_3, .bool a0_4], .agg #[.int .i64 a1_0, .int .i64 a1_1, .int .i64 a1_2, .slice A1_3 l1_3.length c1_3, .slice A1_4 l1_4.length c1_4, .slice A1_5 l1_5.length c1_5], .string a2, .slice none 0 0, .int .i64 3] rfl ql_ ?_; (refine (a2k.calls kj5 a0_0 a0_1 a0_2 a0_3 a0_4 a1_0 a1_1 a1_2 _ _ l1_3 _ _ l1_4 _ _ l1_5 a2 _ _ ([] : List Int) 3 t611 t612 _ ?s1 ?s2 ?s3 ?s4 ?s5 ?s6 ?s7 ?s8 A22.out).mono ?_); (case s1 => exact qc_ HR1_3); (case s2 => exact HC1_3.out); (case s3 => exact qc_ HR1_4); (case s4 => exact HC1_4.out); (case s5 => exact qc_ HR1_5); (case s6 => exact HC1_5.out); (case s7 => exact Kd.a5s _ _); (case s8 => exact Nat.le_refl _); rintro e w26 ⟨rfl, hb⟩; refine ⟨_, rfl, ?_⟩; replace BK606 := qkb_ BK606 hb; replace BK607 := qkb_ BK607 hb; replace HB := qbs_ hb; (try clear hb); (try clear hb2); (try clear hk); (try clear hi); obtain ⟨z'27_0, z'27_1, z'27_2, z'27_3, z'27_4, z'27_5⟩ := qz6_ BK607; obtain ⟨y'27_0, y'27_1, y'27_2, y'27_3, y'27_4, y'27_5⟩ := qf6_ BK607) | ((with_reducible refine a0f (N := 12) rfl ?_); refine qev_ 12 #[.int .i64 0, .int .i64 0, .int .i64 0, .slice none 0 0, .slice none 0 0, .slice none 0 0] 30 ?_; intro gb613 hg w28 hbox hb; have BK613 := am_ (hbox); have GW613 := qga_ hg; have GE613 := qga_ hg; replace HB := qbs_ hb; have NB606_613 := am_ ((by rw [hg]; exact Nat.ne_of_lt (a0u (qk_ BK606)) : gb606 ≠ gb613)); have NB613_606 := am_ ((by rw [hg]; exact Nat.ne_of_gt (a0u (qk_ BK606)) : gb613 ≠ gb606)); replace BK606 := qkb_ BK606 hb; have NB607_613 := am_ ((by rw [hg]; exact Nat.ne_of_lt (a0u (qk_ BK607)) : gb607 ≠ gb613)); have NB613_607 := am_ ((by rw [hg]; exact Nat.ne_of_gt (a0u (qk_ BK607)) : gb613 ≠ gb607)); replace BK607 := qkb_ BK607 hb; clear hb hbox hg; have hnb29 := NB613_606.out; have hnc29 := NB606_613.out; have hnb30 := NB613_607.out; have hnc30 := NB607_613.out; obtain ⟨z'31_0, z'31_1, z'31_2, z'31_3, z'31_4, z'31_5⟩ := qz6_ BK613; obtain ⟨y'31_0, y'31_1, y'31_2, y'31_3, y'31_4, y'31_5⟩ := qf6_ BK613; obtain ⟨z'32_0, z'32_1, z'32_2, z'32_3, z'32_4, z'32_5⟩ := qz6_ BK607; obtain ⟨y'32_0, y'32_1, y'32_2, y'32_3, y'32_4, y'32_5⟩ := qf6_ BK607))
    go_loopg [48] kj5 (fun kq v48 w' => ∃ (x48_2 : Int) (x614005_2 : List Int) (u614005 : Value), v48 = .int .i64 x48_2 ∧ Aside0 (a0j.l0 kq a2 a3 t608 t611 t612 l1_4 (l1_4.length : Int) x48_2 a0_0 a0_1 a0_2 a0_3 a0_4 a1_0 a1_1 a1_2 l1_3 l1_4 l1_5 a1_0 a1_1 a1_2 l1_3 l1_4 x614005_2 = some r) ∧ Aside0 (kq ≤ kj5) ∧ Aside0 (Kd.R (Kd.int .i64) 3 w' w.heap.size (fun _ => True) u614005 x614005_2) ∧ Aside0 (w'.heap[gb606]? = some (.cells #[.int .i64 a0_0, .int .i64 a0_1, .int .i64 a0_2, .int .i64 a0_3, .bool a0_4] 25 (0, 0))) ∧ Aside0 (w'.heap[gb607]? = some (.cells #[.int .i64 a1_0, .int .i64 a1_1, .int .i64 a1_2, (.slice A1_3 l1_3.length c1_3), (.slice A1_4 l1_4.length c1_4), (.slice A1_5 l1_5.length c1_5)] 30 (0, 0))) ∧ Aside0 (w'.heap[gb613]? = some (.cells #[.int .i64 a1_0, .int .i64 a1_1, .int .i64 a1_2, (.slice A1_3 l1_3.length c1_3), (.slice A1_4 l1_4.length c1_4), u614005] 30 (0, 0))) ∧ Aside0 (Below w.heap.size w w'))
    case atStart => exact ⟨(0), (([] : List Int)), (.slice none 0 0), qs_, H', ⟨Nat.le_refl _⟩, ⟨by first | exact Kd.a6u _ _ _ _ _ | exact Kd.N_nil _ _ _ _ _ | exact Kd.V_nil _ _ _ _ _ | exact Kd.Q_nil _ _ _ _ _ | exact Kd.S_nil _ _ _ _ _⟩, ⟨by refine qd_ ?_; refine a0b ?_ NB606_613.out _; refine qd_ ?_; refine a0b ?_ NB606_613.out _; refine qd_ ?_; refine a0b ?_ NB606_613.out _; refine qd_ ?_; refine a0b ?_ NB606_613.out _; refine qd_ ?_; refine a0b ?_ NB606_613.out _; refine qd_ ?_; refine a0b ?_ NB606_613.out _; refine qd_ ?_; refine a0b ?_ NB606_613.out _; refine qd_ ?_; exact BK606.out⟩, ⟨by refine qd_ ?_; refine a0b ?_ NB607_613.out _; refine qd_ ?_; refine a0b ?_ NB607_613.out _; refine qd_ ?_; refine a0b ?_ NB607_613.out _; refine qd_ ?_; refine a0b ?_ NB607_613.out _; refine qd_ ?_; refine a0b ?_ NB607_613.out _; refine qd_ ?_; refine a0b ?_ NB607_613.out _; refine qd_ ?_; refine a0b ?_ NB607_613.out _; refine qd_ ?_; exact BK607.out⟩, ⟨by refine qd_ ?_; refine a0d (cs := #[.int .i64 a1_0, .int .i64 a1_1, .int .i64 a1_2, .slice A1_3 l1_3.length c1_3, .slice A1_4 l1_4.length c1_4, .slice A1_5 l1_5.length c1_5]) ?_ 5 _ rfl; refine qd_ ?_; refine a0d (cs := #[.int .i64 a1_0, .int .i64 a1_1, .int .i64 a1_2, .slice A1_3 l1_3.length c1_3, .slice A1_4 l1_4.length c1_4, .slice none 0 0]) ?_ 5 _ rfl; refine qd_ ?_; refine a0d (cs := #[.int .i64 a1_0, .int .i64 a1_1, .int .i64 a1_2, .slice A1_3 l1_3.length c1_3, .slice none 0 0, .slice none 0 0]) ?_ 4 _ rfl; refine qd_ ?_; refine a0d (cs := #[.int .i64 a1_0, .int .i64 a1_1, .int .i64 a1_2, .slice none 0 0, .slice none 0 0, .slice none 0 0]) ?_ 3 _ rfl; refine qd_ ?_; refine a0d (cs := #[.int .i64 a1_0, .int .i64 a1_1, .int .i64 0, .slice none 0 0, .slice none 0 0, .slice none 0 0]) ?_ 2 _ rfl; refine qd_ ?_; refine a0d (cs := #[.int .i64 a1_0, .int .i64 0, .int .i64 0, .slice none 0 0, .slice none 0 0, .slice none 0 0]) ?_ 1 _ rfl; refine qd_ ?_; refine a0d (cs := #[.int .i64 0, .int .i64 0, .int .i64 0, .slice none 0 0, .slice none 0 0, .slice none 0 0]) ?_ 0 _ rfl; refine qd_ ?_; exact BK613.out⟩, ⟨qb_⟩⟩
    case round =>
     clear H'
     try clear c1
     try clear c2
     try clear p2
     try clear c3
     try clear c7
     try clear c11
     try clear c13
     try clear c17
     try clear c21
     try clear c22
     try clear c23
     try clear c27
     try clear c29
     try clear c30
     try clear z'14_0 z'14_1 z'14_2 z'14_3 z'14_4
     try clear z'15_0 z'15_1 z'15_2 z'15_3 z'15_4 z'15_5
     try clear z'18_0 z'18_1 z'18_2 z'18_3 z'18_4
     try clear z'19_0 z'19_1 z'19_2 z'19_3 z'19_4 z'19_5
     try clear z'24_0 z'24_1 z'24_2 z'24_3 z'24_4
     try clear z'25_0 z'25_1 z'25_2 z'25_3 z'25_4 z'25_5
     try clear z'27_0 z'27_1 z'27_2 z'27_3 z'27_4 z'27_5
     try clear z'31_0 z'31_1 z'31_2 z'31_3 z'31_4 z'31_5
     try clear z'32_0 z'32_1 z'32_2 z'32_3 z'32_4 z'32_5
     try clear y'14_0 y'14_1 y'14_2 y'14_3 y'14_4
     try clear y'15_0 y'15_1 y'15_2 y'15_3 y'15_4 y'15_5
     try clear y'18_0 y'18_1 y'18_2 y'18_3 y'18_4
     try clear y'19_0 y'19_1 y'19_2 y'19_3 y'19_4 y'19_5
     try clear y'24_0 y'24_1 y'24_2 y'24_3 y'24_4
     try clear y'25_0 y'25_1 y'25_2 y'25_3 y'25_4 y'25_5
     try clear y'27_0 y'27_1 y'27_2 y'27_3 y'27_4 y'27_5
     try clear y'31_0 y'31_1 y'31_2 y'31_3 y'31_4 y'31_5
     try clear y'32_0 y'32_1 y'32_2 y'32_3 y'32_4 y'32_5
     try clear p2
     obtain ⟨x48_2, x614005_2, u614005, rfl, HA, HK2, HO_614005, BK606, BK607, BK613, HB⟩ := hrel
     cases gk with
     | zero => exact absurd HA.out (by simp [a0j.l0])
     | succ k2 =>
      have H := HA.out
      clear HA
      simp only [a0j.l0] at H
      by_cases c33 : x48_2 < (l1_4.length : Int)
      ·rw [if_pos c33] at H
       have c33b0 : decide (x48_2 < (l1_4.length : Int)) = true := decide_eq_true c33
       clear c33
       by_cases c34 : 0 ≤ x48_2
       ·rw [if_pos c34] at H
        have c34b0 : decide (0 ≤ x48_2) = true := decide_eq_true c34
        clear c34
        by_cases c35 : x48_2 < (l1_4.length : Int)
        ·rw [if_pos c35] at H
         have c35b0 : decide (x48_2 < (l1_4.length : Int)) = true := decide_eq_true c35
         clear c35
         by_cases c36 : x614005_2.length < 17592186044416
         ·rw [if_pos c36] at H
          have LMc36 := am_ c36
          clear c36
          obtain ⟨y616, hy616⟩ : ∃ y_ : List Int, y_ = (x614005_2 ++ [(a0a l1_4 x48_2).f0]) := ⟨_, rfl⟩
          replace H : (a0j.l0 k2 a2 a3 t608 t611 t612 l1_4 (l1_4.length : Int) (wrap64 (x48_2 + 1)) a0_0 a0_1 a0_2 a0_3 a0_4 a1_0 a1_1 a1_2 l1_3 l1_4 l1_5 a1_0 a1_1 a1_2 l1_3 l1_4 y616) = some r := by first | (rw [hy616]; with_reducible exact H) | (have H2_ := (Option.bind_some _ _).symm.trans H; rw [hy616]; with_reducible exact H2_) | (have H2_ := (Option.bind_some _ _).symm.trans H; with_reducible exact H2_) | with_reducible exact H | (rw [hy616]; exact H) | exact H
          have Ny616 := am_ hy616
          clear hy616
          have H' := am_ H
          clear H
          have p614 : 0 ≤ (x48_2 : Int) := ot_
          have q614 : x48_2 < (l1_4.length : Int) := ot_
          obtain ⟨ad614, e614, hx614_0, hx614_1, hx614_2⟩ := a2p HR1_4.out x48_2 p614 q614
          cases e614
          replace hx614_0 := qh_ HB hx614_0
          replace hx614_1 := qh_ HB hx614_1
          replace hx614_2 := qh_ HB hx614_2
          replace p614 := eq_true p614
          replace q614 := eq_true q614
          go_wp2_with (first | ((with_reducible refine a0f (N := 14) rfl ?_); refine qev_ 14 #[.int .i64 0, .int .i64 0, .int .i64 0] 43 ?_; intro gb615 hg w37 hbox hb; replace HO_614005 := qrb_ HO_614005 hb; have BK615 := am_ (hbox); have GW615 := qga_ hg; have GE615 := qga_ hg; replace HB := qbs_ hb; have NB606_615 := am_ ((by rw [hg]; exact Nat.ne_of_lt (a0u (qk_ BK606)) : gb606 ≠ gb615)); have NB615_606 := am_ ((by rw [hg]; exact Nat.ne_of_gt (a0u (qk_ BK606)) : gb615 ≠ gb606)); replace BK606 := qkb_ BK606 hb; have NB607_615 := am_ ((by rw [hg]; exact Nat.ne_of_lt (a0u (qk_ BK607)) : gb607 ≠ gb615)); have NB615_607 := am_ ((by rw [hg]; exact Nat.ne_of_gt (a0u (qk_ BK607)) : gb615 ≠ gb607)); replace BK607 := qkb_ BK607 hb; have NB613_615 := am_ ((by rw [hg]; exact Nat.ne_of_lt (a0u (qk_ BK613)) : gb613 ≠ gb615)); have NB615_613 := am_ ((by rw [hg]; exact Nat.ne_of_gt (a0u (qk_ BK613)) : gb615 ≠ gb613)); replace BK613 := qkb_ BK613 hb; clear hb hbox hg; have hnb38 := NB615_606.out; have hnc38 := NB606_615.out; have hnb39 := NB615_607.out; have hnc39 := NB607_615.out; have hnb40 := NB615_613.out; have hnc40 := NB613_615.out; obtain ⟨z'41_0, z'41_1, z'41_2⟩ := qz3_ BK615; obtain ⟨y'41_0, y'41_1, y'41_2⟩ := qf3_ BK615; have hnb42 := NB613_606.out; have hnc42 := NB606_613.out; have hnb43 := NB613_607.out; have hnc43 := NB607_613.out; obtain ⟨z'44_0, z'44_1, z'44_2, z'44_3, z'44_4, z'44_5⟩ := qz6_ BK613; obtain ⟨y'44_0, y'44_1, y'44_2, y'44_3, y'44_4, y'44_5⟩ := qf6_ BK613) | ((with_reducible refine a4q (b := .append) (xs := #[.tmp 53, .tmp 56]) rfl ?_); at_builtin; refine Kd.a5u (Kd.int .i64) (w0 := w) w.heap.size rfl (.tmp 53) (.tmp 56) 28 3 (.int .i64 0) 8 rfl Try.underlying28 info3 rfl (by decide) (by omega) u614005 x614005_2 ((a0a l1_4 x48_2).f0) [.int .i64 ((a0a l1_4 x48_2).f0)] (fun _ => True) (fun _ => False) rfl (by first | (go_simp; done) | (go_simp; rfl)) ?aP (fun _ hk => hk.elim) ?aF ?aO ?aB ?aS ?aL ?_; (case aP => exact rfl); (case aB => exact qb_); (case aF => exact (fun _ _ => trivial)); (case aO => exact (by (with_reducible repeat (first | apply Kd.a1e | apply Kd.a1f | apply Kd.a0y)); exact Kd.a2w (Kd.a1c (p := ⟨gb615, 2, none⟩) (Kd.a1c (p := ⟨gb615, 1, none⟩) (Kd.a1c (p := ⟨gb615, 0, none⟩) (Kd.a3d HO_614005.out BK615.out (by decide)) (fun _ hk => hk.2) (.int .i64 ((a0a l1_4 x48_2).f0))) (fun _ hk => hk.2) (.int .i64 ((a0a l1_4 x48_2).f1))) (fun _ hk => hk.2) (.int .i64 ((a0a l1_4 x48_2).f2))) (fun _ hk => trivial))); (case aS => exact (a0x qb_)); (case aL => have := LMc36.out; omega); intro v617 w45 ho hb hg hat; rw [← Ny616.out] at ho; replace BK606 := am_ (a3a (g := gb606) (o := .cells #[.int .i64 a0_0, .int .i64 a0_1, .int .i64 a0_2, .int .i64 a0_3, .bool a0_4] 25 (0, 0)) (by refine qd_ ?_; refine a0b ?_ NB606_615.out _; refine qd_ ?_; refine a0b ?_ NB606_615.out _; refine qd_ ?_; refine a0b ?_ NB606_615.out _; refine qd_ ?_; exact BK606.out) hg (Kd.R_ne HO_614005.out BK606.out (by decide))); replace BK607 := am_ (a3a (g := gb607) (o := .cells #[.int .i64 a1_0, .int .i64 a1_1, .int .i64 a1_2, .slice A1_3 l1_3.length c1_3, .slice (some ad614) l1_4.length c1_4, .slice A1_5 l1_5.length c1_5] 30 (0, 0)) (by refine qd_ ?_; refine a0b ?_ NB607_615.out _; refine qd_ ?_; refine a0b ?_ NB607_615.out _; refine qd_ ?_; refine a0b ?_ NB607_615.out _; refine qd_ ?_; exact BK607.out) hg (Kd.R_ne HO_614005.out BK607.out (by decide))); replace BK613 := am_ (a3a (g := gb613) (o := .cells #[.int .i64 a1_0, .int .i64 a1_1, .int .i64 a1_2, .slice A1_3 l1_3.length c1_3, .slice (some ad614) l1_4.length c1_4, u614005] 30 (0, 0)) (by refine qd_ ?_; refine a0b ?_ NB613_615.out _; refine qd_ ?_; refine a0b ?_ NB613_615.out _; refine qd_ ?_; refine a0b ?_ NB613_615.out _; refine qd_ ?_; exact BK613.out) hg (Kd.R_ne HO_614005.out BK613.out (by decide))); replace BK615 := am_ (a3a (g := gb615) (o := .cells #[.int .i64 ((a0a l1_4 x48_2).f0), .int .i64 ((a0a l1_4 x48_2).f1), .int .i64 ((a0a l1_4 x48_2).f2)] 43 (0, 0)) (by refine qd_ ?_; refine a0d (cs := #[.int .i64 ((a0a l1_4 x48_2).f0), .int .i64 ((a0a l1_4 x48_2).f1), .int .i64 0]) ?_ 2 _ rfl; refine qd_ ?_; refine a0d (cs := #[.int .i64 ((a0a l1_4 x48_2).f0), .int .i64 0, .int .i64 0]) ?_ 1 _ rfl; refine qd_ ?_; refine a0d (cs := #[.int .i64 0, .int .i64 0, .int .i64 0]) ?_ 0 _ rfl; refine qd_ ?_; exact BK615.out) hg (Kd.R_ne HO_614005.out BK615.out (by decide))); replace HB := am_ (hb); have HO618 := am_ (ho); clear HO_614005 ho hb hg hat; obtain ⟨Ao46, co46, eo46⟩ := Kd.a1p HO618.out; subst eo46; obtain ⟨z'47_0, z'47_1, z'47_2, z'47_3, z'47_4, z'47_5⟩ := qz6_ BK613; obtain ⟨y'47_0, y'47_1, y'47_2, y'47_3, y'47_4, y'47_5⟩ := qf6_ BK613))
          go_roundg k2
          case measure => have := HJ5.out; have := HK2.out; omega
          case rel => exact ⟨(wrap64 (x48_2 + 1)), (y616), (.slice Ao46 y616.length co46), qs_, H', ⟨by have := HJ5.out; have := HK2.out; omega⟩, ⟨by (with_reducible repeat (first | apply Kd.a1e | apply Kd.a1f | apply Kd.a0y)); exact Kd.a2w (Kd.a1c (p := ⟨gb613, 5, none⟩) (Kd.a3d HO618.out BK613.out (by decide)) (fun _ hk => hk.2) (.slice Ao46 y616.length co46)) (fun _ hk => trivial)⟩, ⟨by refine qd_ ?_; refine a0b ?_ NB606_613.out _; refine qd_ ?_; exact BK606.out⟩, ⟨by refine qd_ ?_; refine a0b ?_ NB607_613.out _; refine qd_ ?_; exact BK607.out⟩, ⟨by refine qd_ ?_; refine a0d (cs := #[.int .i64 a1_0, .int .i64 a1_1, .int .i64 a1_2, .slice A1_3 l1_3.length c1_3, .slice (some ad614) l1_4.length c1_4, u614005]) ?_ 5 _ rfl; refine qd_ ?_; exact BK613.out⟩, ⟨qb_⟩⟩
         ·rw [if_neg c36] at H
          exact absurd H (by simp)
        ·rw [if_neg c35] at H
         exact absurd H (by simp)
       ·rw [if_neg c34] at H
        exact absurd H (by simp)
      ·rw [if_neg c33] at H
       have c33b0 : decide (x48_2 < (l1_4.length : Int)) = false := decide_eq_false c33
       clear c33
       replace H := bm_ H
       obtain ⟨⟨t619, t620⟩, A480, H⟩ := H
       replace H : ((a2k.f k2 a0_0 0 1 a0_3 a0_4 a1_0 a1_1 a1_2 l1_3 l1_4 l1_5 a2 ([] : List Int) 3).bind fun bt622 => ((a1i.f k2 a1_0 a1_1 a1_2 l1_3 l1_4 l1_5 a3).bind fun bt624 => ((a2k.f k2 a0_0 a0_1 a0_2 a0_3 a0_4 bt624.1 bt624.2.1 bt624.2.2.1 bt624.2.2.2.1 bt624.2.2.2.2.1 bt624.2.2.2.2.2.1 a2 ([] : List Int) 3).bind fun bt639 => (if t608 = true then (if t612 = true then (if t620 = true then (if bt622.2 = true then (if bt639.2 = true then (if t619 = true then (some false) else (if bt622.1 = true then (some false) else (if bt624.2.2.2.2.2.2.2 = true then (if t611 = true then (some true) else (some (!bt639.1))) else (some true)))) else (some false)) else (some false)) else (some false)) else (some false)) else (some false))))) = some r := H
       have A48 := am_ A480
       clear A480
       replace H := bm_ H
       obtain ⟨⟨t622, t623⟩, A490, H⟩ := H
       replace H : ((a1i.f k2 a1_0 a1_1 a1_2 l1_3 l1_4 l1_5 a3).bind fun bt624 => ((a2k.f k2 a0_0 a0_1 a0_2 a0_3 a0_4 bt624.1 bt624.2.1 bt624.2.2.1 bt624.2.2.2.1 bt624.2.2.2.2.1 bt624.2.2.2.2.2.1 a2 ([] : List Int) 3).bind fun bt639 => (if t608 = true then (if t612 = true then (if t620 = true then (if t623 = true then (if bt639.2 = true then (if t619 = true then (some false) else (if t622 = true then (some false) else (if bt624.2.2.2.2.2.2.2 = true then (if t611 = true then (some true) else (some (!bt639.1))) else (some true)))) else (some false)) else (some false)) else (some false)) else (some false)) else (some false)))) = some r := H
       have A49 := am_ A490
       clear A490
       replace H := bm_ H
       obtain ⟨⟨t624, t625, t626, t627, t630, t633, t636, t637⟩, A500, H⟩ := H
       replace H : ((a2k.f k2 a0_0 a0_1 a0_2 a0_3 a0_4 t624 t625 t626 t627 t630 t633 a2 ([] : List Int) 3).bind fun bt639 => (if t608 = true then (if t612 = true then (if t620 = true then (if t623 = true then (if bt639.2 = true then (if t619 = true then (some false) else (if t622 = true then (some false) else (if t637 = true then (if t611 = true then (some true) else (some (!bt639.1))) else (some true)))) else (some false)) else (some false)) else (some false)) else (some false)) else (some false))) = some r := H
       have A50 := am_ A500
       clear A500
       replace H := bm_ H
       obtain ⟨⟨t639, t640⟩, A510, H⟩ := H
       replace H : (if t608 = true then (if t612 = true then (if t620 = true then (if t623 = true then (if t640 = true then (if t619 = true then (some false) else (if t622 = true then (some false) else (if t637 = true then (if t611 = true then (some true) else (some (!t639))) else (some true)))) else (some false)) else (some false)) else (some false)) else (some false)) else (some false)) = some r := H
       have A51 := am_ A510
       clear A510
       have hnb313 := NB606_607.out
       have hnc313 := NB607_606.out
       have hnb314 := NB606_613.out
       have hnc314 := NB613_606.out
       obtain ⟨z'315_0, z'315_1, z'315_2, z'315_3, z'315_4⟩ := qz5_ BK606; obtain ⟨y'315_0, y'315_1, y'315_2, y'315_3, y'315_4⟩ := qf5_ BK606
       have hnb316 := NB613_607.out
       have hnc316 := NB607_613.out
       obtain ⟨z'317_0, z'317_1, z'317_2, z'317_3, z'317_4, z'317_5⟩ := qz6_ BK613; obtain ⟨y'317_0, y'317_1, y'317_2, y'317_3, y'317_4, y'317_5⟩ := qf6_ BK613
       obtain ⟨Ao318, co318, eo318⟩ := Kd.a1p HO_614005.out
       subst eo318
       go_upto_region 18 with (first | ((with_reducible refine a0f (N := 71) rfl ?_); (try (refine a3n (by rfl) ?_; dsimp only)); refine wpList_load_row rfl 25 _ rfl gb621 rfl 25 #[.int .i64 a0_0, .int .i64 0, .int .i64 1, .int .i64 a0_3, .bool a0_4] (0, 0) _ (by refine qd_ ?_; refine a0d (cs := #[.int .i64 a0_0, .int .i64 0, .int .i64 a0_2, .int .i64 a0_3, .bool a0_4]) ?_ 2 _ rfl; refine qd_ ?_; refine a0d (cs := #[.int .i64 a0_0, .int .i64 a0_1, .int .i64 a0_2, .int .i64 a0_3, .bool a0_4]) ?_ 1 _ rfl; refine qd_ ?_; refine a0d (cs := #[.int .i64 a0_0, .int .i64 a0_1, .int .i64 a0_2, .int .i64 a0_3, .bool false]) ?_ 4 _ rfl; refine qd_ ?_; refine a0d (cs := #[.int .i64 a0_0, .int .i64 a0_1, .int .i64 a0_2, .int .i64 0, .bool false]) ?_ 3 _ rfl; refine qd_ ?_; refine a0d (cs := #[.int .i64 a0_0, .int .i64 a0_1, .int .i64 0, .int .i64 0, .bool false]) ?_ 2 _ rfl; refine qd_ ?_; refine a0d (cs := #[.int .i64 a0_0, .int .i64 0, .int .i64 0, .int .i64 0, .bool false]) ?_ 1 _ rfl; refine qd_ ?_; refine a0d (cs := #[.int .i64 0, .int .i64 0, .int .i64 0, .int .i64 0, .bool false]) ?_ 0 _ rfl; refine qd_ ?_; exact BK621.out) Try.underlying25 rfl (by kernel_rfl) ?_) | ((with_reducible refine a0f (N := 72) rfl ?_); (try (refine a3n (by rfl) ?_; dsimp only)); refine wpList_load_row rfl 30 _ rfl gb638 rfl 30 #[.int .i64 a1_0, .int .i64 a1_1, .int .i64 a1_2, .slice A1_3 l1_3.length c1_3, .slice A1_4 l1_4.length c1_4, .slice A1_5 l1_5.length c1_5] (0, 0) _ (by (iterate 7 (refine qd_ ?_; refine a0b ?_ NB638_621.out _)); refine qd_ ?_; exact BK638.out) Try.underlying30 rfl (by kernel_rfl) ?_) | ((with_reducible refine a0e (f := 27) rfl ?_); refine a0w (some 64) rfl rfl Try.func27 (by kernel_rfl) rfl #[.agg #[.int .i64 a0_0, .int .i64 a0_1, .int .i64 a0_2, .int .i64 a0_3, .bool a0_4], .agg #[.int .i64 a1_0, .int .i64 a1_1, .int .i64 a1_2, .slice A1_3 l1_3.length c1_3, .slice A1_4 l1_4.length c1_4, .slice Ao318 x614005_2.length co318], .string a2, .slice none 0 0, .int .i64 3] rfl ql_ ?_; (refine (a2k.calls k2 a0_0 a0_1 a0_2 a0_3 a0_4 a1_0 a1_1 a1_2 _ _ l1_3 _ _ l1_4 _ _ x614005_2 a2 _ _ ([] : List Int) 3 t619 t620 _ ?s1 ?s2 ?s3 ?s4 ?s5 ?s6 ?s7 ?s8 A48.out).mono ?_); (case s1 => exact qc_ HR1_3); (case s2 => exact HC1_3.out); (case s3 => exact qc_ HR1_4); (case s4 => exact HC1_4.out); (case s5 => exact qv_ (Kd.a0q HO_614005.out).2.2); (case s6 => exact (Kd.a0q HO_614005.out).2.1); (case s7 => exact Kd.a5s _ _); (case s8 => exact Nat.le_refl _); rintro e w319 ⟨rfl, hb⟩; refine ⟨_, rfl, ?_⟩; replace HO_614005 := qrb_ HO_614005 hb; replace BK606 := qkb_ BK606 hb; replace BK607 := qkb_ BK607 hb; replace BK613 := qkb_ BK613 hb; replace HB := qbs_ hb; (try clear hb); (try clear hb2); (try clear hk); (try clear hi); obtain ⟨z'320_0, z'320_1, z'320_2, z'320_3, z'320_4⟩ := qz5_ BK606; obtain ⟨y'320_0, y'320_1, y'320_2, y'320_3, y'320_4⟩ := qf5_ BK606) | ((with_reducible refine a0f (N := 17) rfl ?_); refine qev_ 17 #[.int .i64 0, .int .i64 0, .int .i64 0, .int .i64 0, .bool false] 25 ?_; intro gb621 hg w321 hbox hb; replace HO_614005 := qrb_ HO_614005 hb; have BK621 := am_ (hbox); have GW621 := qga_ hg; have GE621 := qga_ hg; replace HB := qbs_ hb; have NB606_621 := am_ ((by rw [hg]; exact Nat.ne_of_lt (a0u (qk_ BK606)) : gb606 ≠ gb621)); have NB621_606 := am_ ((by rw [hg]; exact Nat.ne_of_gt (a0u (qk_ BK606)) : gb621 ≠ gb606)); replace BK606 := qkb_ BK606 hb; have NB607_621 := am_ ((by rw [hg]; exact Nat.ne_of_lt (a0u (qk_ BK607)) : gb607 ≠ gb621)); have NB621_607 := am_ ((by rw [hg]; exact Nat.ne_of_gt (a0u (qk_ BK607)) : gb621 ≠ gb607)); replace BK607 := qkb_ BK607 hb; have NB613_621 := am_ ((by rw [hg]; exact Nat.ne_of_lt (a0u (qk_ BK613)) : gb613 ≠ gb621)); have NB621_613 := am_ ((by rw [hg]; exact Nat.ne_of_gt (a0u (qk_ BK613)) : gb621 ≠ gb613)); replace BK613 := qkb_ BK613 hb; clear hb hbox hg; have hnb322 := NB621_606.out; have hnc322 := NB606_621.out; have hnb323 := NB621_607.out; have hnc323 := NB607_621.out; have hnb324 := NB621_613.out; have hnc324 := NB613_621.out; obtain ⟨z'325_0, z'325_1, z'325_2, z'325_3, z'325_4⟩ := qz5_ BK621; obtain ⟨y'325_0, y'325_1, y'325_2, y'325_3, y'325_4⟩ := qf5_ BK621; obtain ⟨z'326_0, z'326_1, z'326_2, z'326_3, z'326_4, z'326_5⟩ := qz6_ BK607; obtain ⟨y'326_0, y'326_1, y'326_2, y'326_3, y'326_4, y'326_5⟩ := qf6_ BK607) | ((with_reducible refine a0e (f := 27) rfl ?_); refine a0w (some 74) rfl rfl Try.func27 (by kernel_rfl) rfl #[.agg #[.int .i64 a0_0, .int .i64 0, .int .i64 1, .int .i64 a0_3, .bool a0_4], .agg #[.int .i64 a1_0, .int .i64 a1_1, .int .i64 a1_2, .slice A1_3 l1_3.length c1_3, .slice A1_4 l1_4.length c1_4, .slice A1_5 l1_5.length c1_5], .string a2, .slice none 0 0, .int .i64 3] rfl ql_ ?_; (refine (a2k.calls k2 a0_0 0 1 a0_3 a0_4 a1_0 a1_1 a1_2 _ _ l1_3 _ _ l1_4 _ _ l1_5 a2 _ _ ([] : List Int) 3 t622 t623 _ ?s1 ?s2 ?s3 ?s4 ?s5 ?s6 ?s7 ?s8 A49.out).mono ?_); (case s1 => exact Kd.a1g HR1_3.out qb_); (case s2 => exact HC1_3.out); (case s3 => exact Kd.a1g HR1_4.out qb_); (case s4 => exact HC1_4.out); (case s5 => exact Kd.a1g HR1_5.out qb_); (case s6 => exact HC1_5.out); (case s7 => exact Kd.a5s _ _); (case s8 => exact Nat.le_refl _); rintro e w327 ⟨rfl, hb⟩; refine ⟨_, rfl, ?_⟩; replace HO_614005 := am_ (Kd.a3m (by (with_reducible repeat (first | apply Kd.a1e | apply Kd.a1f | apply Kd.a0y)); exact (Kd.a2w (Kd.a1c (p := ⟨gb621, 2, none⟩) (Kd.a1c (p := ⟨gb621, 1, none⟩) (Kd.a1c (p := ⟨gb621, 4, none⟩) (Kd.a1c (p := ⟨gb621, 3, none⟩) (Kd.a1c (p := ⟨gb621, 2, none⟩) (Kd.a1c (p := ⟨gb621, 1, none⟩) (Kd.a1c (p := ⟨gb621, 0, none⟩) (Kd.a3d HO_614005.out BK621.out (by decide)) (fun _ hk => hk.2) (.int .i64 a0_0)) (fun _ hk => hk.2) (.int .i64 a0_1)) (fun _ hk => hk.2) (.int .i64 a0_2)) (fun _ hk => hk.2) (.int .i64 a0_3)) (fun _ hk => hk.2) (.bool a0_4)) (fun _ hk => hk.2) (.int .i64 0)) (fun _ hk => hk.2) (.int .i64 1)) (fun _ h_ => h_.1))) hb); replace BK606 := am_ (a1o (g := gb606) (o := .cells #[.int .i64 a0_0, .int .i64 a0_1, .int .i64 a0_2, .int .i64 a0_3, .bool a0_4] 25 (0, 0)) (by refine qd_ ?_; refine a0b ?_ NB606_621.out _; refine qd_ ?_; refine a0b ?_ NB606_621.out _; refine qd_ ?_; refine a0b ?_ NB606_621.out _; refine qd_ ?_; refine a0b ?_ NB606_621.out _; refine qd_ ?_; refine a0b ?_ NB606_621.out _; refine qd_ ?_; refine a0b ?_ NB606_621.out _; refine qd_ ?_; refine a0b ?_ NB606_621.out _; refine qd_ ?_; exact BK606.out) hb); replace BK607 := am_ (a1o (g := gb607) (o := .cells #[.int .i64 a1_0, .int .i64 a1_1, .int .i64 a1_2, .slice A1_3 l1_3.length c1_3, .slice A1_4 l1_4.length c1_4, .slice A1_5 l1_5.length c1_5] 30 (0, 0)) (by refine qd_ ?_; refine a0b ?_ NB607_621.out _; refine qd_ ?_; refine a0b ?_ NB607_621.out _; refine qd_ ?_; refine a0b ?_ NB607_621.out _; refine qd_ ?_; refine a0b ?_ NB607_621.out _; refine qd_ ?_; refine a0b ?_ NB607_621.out _; refine qd_ ?_; refine a0b ?_ NB607_621.out _; refine qd_ ?_; refine a0b ?_ NB607_621.out _; refine qd_ ?_; exact BK607.out) hb); replace BK613 := am_ (a1o (g := gb613) (o := .cells #[.int .i64 a1_0, .int .i64 a1_1, .int .i64 a1_2, .slice A1_3 l1_3.length c1_3, .slice A1_4 l1_4.length c1_4, .slice Ao318 x614005_2.length co318] 30 (0, 0)) (by refine qd_ ?_; refine a0b ?_ NB613_621.out _; refine qd_ ?_; refine a0b ?_ NB613_621.out _; refine qd_ ?_; refine a0b ?_ NB613_621.out _; refine qd_ ?_; refine a0b ?_ NB613_621.out _; refine qd_ ?_; refine a0b ?_ NB613_621.out _; refine qd_ ?_; refine a0b ?_ NB613_621.out _; refine qd_ ?_; refine a0b ?_ NB613_621.out _; refine qd_ ?_; exact BK613.out) hb); replace BK621 := am_ (a1o (g := gb621) (o := .cells #[.int .i64 a0_0, .int .i64 0, .int .i64 1, .int .i64 a0_3, .bool a0_4] 25 (0, 0)) (by refine qd_ ?_; refine a0d (cs := #[.int .i64 a0_0, .int .i64 0, .int .i64 a0_2, .int .i64 a0_3, .bool a0_4]) ?_ 2 _ rfl; refine qd_ ?_; refine a0d (cs := #[.int .i64 a0_0, .int .i64 a0_1, .int .i64 a0_2, .int .i64 a0_3, .bool a0_4]) ?_ 1 _ rfl; refine qd_ ?_; refine a0d (cs := #[.int .i64 a0_0, .int .i64 a0_1, .int .i64 a0_2, .int .i64 a0_3, .bool false]) ?_ 4 _ rfl; refine qd_ ?_; refine a0d (cs := #[.int .i64 a0_0, .int .i64 a0_1, .int .i64 a0_2, .int .i64 0, .bool false]) ?_ 3 _ rfl; refine qd_ ?_; refine a0d (cs := #[.int .i64 a0_0, .int .i64 a0_1, .int .i64 0, .int .i64 0, .bool false]) ?_ 2 _ rfl; refine qd_ ?_; refine a0d (cs := #[.int .i64 a0_0, .int .i64 0, .int .i64 0, .int .i64 0, .bool false]) ?_ 1 _ rfl; refine qd_ ?_; refine a0d (cs := #[.int .i64 0, .int .i64 0, .int .i64 0, .int .i64 0, .bool false]) ?_ 0 _ rfl; refine qd_ ?_; exact BK621.out) hb); replace HB := qbs_ hb; (try clear hb); (try clear hb2); (try clear hk); (try clear hi); obtain ⟨z'328_0, z'328_1, z'328_2, z'328_3, z'328_4, z'328_5⟩ := qz6_ BK607; obtain ⟨y'328_0, y'328_1, y'328_2, y'328_3, y'328_4, y'328_5⟩ := qf6_ BK607) | ((with_reducible refine a0e (f := 24) rfl ?_); refine a0w (some 80) rfl rfl Try.func24 (by kernel_rfl) rfl #[.agg #[.int .i64 a1_0, .int .i64 a1_1, .int .i64 a1_2, .slice A1_3 l1_3.length c1_3, .slice A1_4 l1_4.length c1_4, .slice A1_5 l1_5.length c1_5], .int .u8 a3] rfl ql_ ?_; (with_reducible refine (a1i.calls k2 a1_0 a1_1 a1_2 (fun k_ => k_ < w.heap.size) _ _ l1_3 (fun k_ => k_ < w.heap.size) _ _ l1_4 (fun k_ => k_ < w.heap.size) _ _ l1_5 a3 t624 t625 t626 t627 t630 t633 t636 t637 _ ?s1 ?s2 ?s3 A50.out).mono ?_); (case s1 => exact Kd.V_mk HC1_3.out (Kd.a7q (Kd.C_F Kd.b2c HR1_3.out) qb_)); (case s2 => exact Kd.V_mk HC1_4.out (Kd.a7q (Kd.C_F b5i HR1_4.out) qb_)); (case s3 => exact Kd.V_mk HC1_5.out (Kd.a7q (Kd.C_F (Kd.a7v .i64) HR1_5.out) qb_)); rintro e w329 ⟨v628, v631, v634, rfl, ho0, ho1, ho2, hb⟩; refine ⟨_, rfl, ?_⟩; have HO629 := am_ (Kd.b0d (Kd.a0p (ok' := fun k_ => some k_ ≠ (.slice Ao318 x614005_2.length co318 : Value).ownBlock ∧ k_ ≠ gb606 ∧ k_ ≠ gb607 ∧ k_ ≠ gb613 ∧ k_ ≠ gb621) ho0 (fun k_ hk_ => ⟨Or.elim hk_ (fun hs_ => Or.elim hs_ (fun hs_ => fun e_ => Nat.not_le.2 hs_ (Kd.a6c HO_614005.out k_ e_.symm)) (fun hs_ => Or.elim hs_ (fun hs_ => fun e_ => Nat.not_le.2 hs_ (Kd.a6c HO_614005.out k_ e_.symm)) (fun hs_ => fun e_ => Nat.not_le.2 hs_ (Kd.a6c HO_614005.out k_ e_.symm)))) (fun hn_ => (Kd.fresh' (Kd.R_lt (qr_ HO_614005)) k_ hn_)), Or.elim hk_ (fun hs_ => Or.elim hs_ (fun hs_ => fun e_ => Nat.not_le.2 hs_ (by rw [e_]; exact GW606.out)) (fun hs_ => Or.elim hs_ (fun hs_ => fun e_ => Nat.not_le.2 hs_ (by rw [e_]; exact GW606.out)) (fun hs_ => fun e_ => Nat.not_le.2 hs_ (by rw [e_]; exact GW606.out)))) (fun hn_ => (Kd.a5q (g := gb606) (o := .cells #[.int .i64 a0_0, .int .i64 a0_1, .int .i64 a0_2, .int .i64 a0_3, .bool a0_4] 25 (0, 0)) (qk_ BK606) k_ hn_)), Or.elim hk_ (fun hs_ => Or.elim hs_ (fun hs_ => fun e_ => Nat.not_le.2 hs_ (by rw [e_]; exact GW607.out)) (fun hs_ => Or.elim hs_ (fun hs_ => fun e_ => Nat.not_le.2 hs_ (by rw [e_]; exact GW607.out)) (fun hs_ => fun e_ => Nat.not_le.2 hs_ (by rw [e_]; exact GW607.out)))) (fun hn_ => (Kd.a5q (g := gb607) (o := .cells #[.int .i64 a1_0, .int .i64 a1_1, .int .i64 a1_2, .slice A1_3 l1_3.length c1_3, .slice A1_4 l1_4.length c1_4, .slice A1_5 l1_5.length c1_5] 30 (0, 0)) (qk_ BK607) k_ hn_)), Or.elim hk_ (fun hs_ => Or.elim hs_ (fun hs_ => fun e_ => Nat.not_le.2 hs_ (by rw [e_]; exact GW613.out)) (fun hs_ => Or.elim hs_ (fun hs_ => fun e_ => Nat.not_le.2 hs_ (by rw [e_]; exact GW613.out)) (fun hs_ => fun e_ => Nat.not_le.2 hs_ (by rw [e_]; exact GW613.out)))) (fun hn_ => (Kd.a5q (g := gb613) (o := .cells #[.int .i64 a1_0, .int .i64 a1_1, .int .i64 a1_2, .slice A1_3 l1_3.length c1_3, .slice A1_4 l1_4.length c1_4, .slice Ao318 x614005_2.length co318] 30 (0, 0)) (qk_ BK613) k_ hn_)), Or.elim hk_ (fun hs_ => Or.elim hs_ (fun hs_ => fun e_ => Nat.not_le.2 hs_ (by rw [e_]; exact GW621.out)) (fun hs_ => Or.elim hs_ (fun hs_ => fun e_ => Nat.not_le.2 hs_ (by rw [e_]; exact GW621.out)) (fun hs_ => fun e_ => Nat.not_le.2 hs_ (by rw [e_]; exact GW621.out)))) (fun hn_ => (Kd.a5q (g := gb621) (o := .cells #[.int .i64 a0_0, .int .i64 0, .int .i64 1, .int .i64 a0_3, .bool a0_4] 25 (0, 0)) (qk_ BK621) k_ hn_))⟩)) (a0x qb_)); have HO632 := am_ (Kd.b0d (Kd.a0p (ok' := fun k_ => some k_ ≠ (.slice Ao318 x614005_2.length co318 : Value).ownBlock ∧ k_ ≠ gb606 ∧ k_ ≠ gb607 ∧ k_ ≠ gb613 ∧ k_ ≠ gb621) ho1 (fun k_ hk_ => ⟨Or.elim hk_ (fun hs_ => Or.elim hs_ (fun hs_ => fun e_ => Nat.not_le.2 hs_ (Kd.a6c HO_614005.out k_ e_.symm)) (fun hs_ => Or.elim hs_ (fun hs_ => fun e_ => Nat.not_le.2 hs_ (Kd.a6c HO_614005.out k_ e_.symm)) (fun hs_ => fun e_ => Nat.not_le.2 hs_ (Kd.a6c HO_614005.out k_ e_.symm)))) (fun hn_ => (Kd.fresh' (Kd.R_lt (qr_ HO_614005)) k_ hn_)), Or.elim hk_ (fun hs_ => Or.elim hs_ (fun hs_ => fun e_ => Nat.not_le.2 hs_ (by rw [e_]; exact GW606.out)) (fun hs_ => Or.elim hs_ (fun hs_ => fun e_ => Nat.not_le.2 hs_ (by rw [e_]; exact GW606.out)) (fun hs_ => fun e_ => Nat.not_le.2 hs_ (by rw [e_]; exact GW606.out)))) (fun hn_ => (Kd.a5q (g := gb606) (o := .cells #[.int .i64 a0_0, .int .i64 a0_1, .int .i64 a0_2, .int .i64 a0_3, .bool a0_4] 25 (0, 0)) (qk_ BK606) k_ hn_)), Or.elim hk_ (fun hs_ => Or.elim hs_ (fun hs_ => fun e_ => Nat.not_le.2 hs_ (by rw [e_]; exact GW607.out)) (fun hs_ => Or.elim hs_ (fun hs_ => fun e_ => Nat.not_le.2 hs_ (by rw [e_]; exact GW607.out)) (fun hs_ => fun e_ => Nat.not_le.2 hs_ (by rw [e_]; exact GW607.out)))) (fun hn_ => (Kd.a5q (g := gb607) (o := .cells #[.int .i64 a1_0, .int .i64 a1_1, .int .i64 a1_2, .slice A1_3 l1_3.length c1_3, .slice A1_4 l1_4.length c1_4, .slice A1_5 l1_5.length c1_5] 30 (0, 0)) (qk_ BK607) k_ hn_)), Or.elim hk_ (fun hs_ => Or.elim hs_ (fun hs_ => fun e_ => Nat.not_le.2 hs_ (by rw [e_]; exact GW613.out)) (fun hs_ => Or.elim hs_ (fun hs_ => fun e_ => Nat.not_le.2 hs_ (by rw [e_]; exact GW613.out)) (fun hs_ => fun e_ => Nat.not_le.2 hs_ (by rw [e_]; exact GW613.out)))) (fun hn_ => (Kd.a5q (g := gb613) (o := .cells #[.int .i64 a1_0, .int .i64 a1_1, .int .i64 a1_2, .slice A1_3 l1_3.length c1_3, .slice A1_4 l1_4.length c1_4, .slice Ao318 x614005_2.length co318] 30 (0, 0)) (qk_ BK613) k_ hn_)), Or.elim hk_ (fun hs_ => Or.elim hs_ (fun hs_ => fun e_ => Nat.not_le.2 hs_ (by rw [e_]; exact GW621.out)) (fun hs_ => Or.elim hs_ (fun hs_ => fun e_ => Nat.not_le.2 hs_ (by rw [e_]; exact GW621.out)) (fun hs_ => fun e_ => Nat.not_le.2 hs_ (by rw [e_]; exact GW621.out)))) (fun hn_ => (Kd.a5q (g := gb621) (o := .cells #[.int .i64 a0_0, .int .i64 0, .int .i64 1, .int .i64 a0_3, .bool a0_4] 25 (0, 0)) (qk_ BK621) k_ hn_))⟩)) (a0x qb_)); have HO635 := am_ (Kd.b0d (Kd.a0p (ok' := fun k_ => some k_ ≠ (.slice Ao318 x614005_2.length co318 : Value).ownBlock ∧ k_ ≠ gb606 ∧ k_ ≠ gb607 ∧ k_ ≠ gb613 ∧ k_ ≠ gb621) ho2 (fun k_ hk_ => ⟨Or.elim hk_ (fun hs_ => Or.elim hs_ (fun hs_ => fun e_ => Nat.not_le.2 hs_ (Kd.a6c HO_614005.out k_ e_.symm)) (fun hs_ => Or.elim hs_ (fun hs_ => fun e_ => Nat.not_le.2 hs_ (Kd.a6c HO_614005.out k_ e_.symm)) (fun hs_ => fun e_ => Nat.not_le.2 hs_ (Kd.a6c HO_614005.out k_ e_.symm)))) (fun hn_ => (Kd.fresh' (Kd.R_lt (qr_ HO_614005)) k_ hn_)), Or.elim hk_ (fun hs_ => Or.elim hs_ (fun hs_ => fun e_ => Nat.not_le.2 hs_ (by rw [e_]; exact GW606.out)) (fun hs_ => Or.elim hs_ (fun hs_ => fun e_ => Nat.not_le.2 hs_ (by rw [e_]; exact GW606.out)) (fun hs_ => fun e_ => Nat.not_le.2 hs_ (by rw [e_]; exact GW606.out)))) (fun hn_ => (Kd.a5q (g := gb606) (o := .cells #[.int .i64 a0_0, .int .i64 a0_1, .int .i64 a0_2, .int .i64 a0_3, .bool a0_4] 25 (0, 0)) (qk_ BK606) k_ hn_)), Or.elim hk_ (fun hs_ => Or.elim hs_ (fun hs_ => fun e_ => Nat.not_le.2 hs_ (by rw [e_]; exact GW607.out)) (fun hs_ => Or.elim hs_ (fun hs_ => fun e_ => Nat.not_le.2 hs_ (by rw [e_]; exact GW607.out)) (fun hs_ => fun e_ => Nat.not_le.2 hs_ (by rw [e_]; exact GW607.out)))) (fun hn_ => (Kd.a5q (g := gb607) (o := .cells #[.int .i64 a1_0, .int .i64 a1_1, .int .i64 a1_2, .slice A1_3 l1_3.length c1_3, .slice A1_4 l1_4.length c1_4, .slice A1_5 l1_5.length c1_5] 30 (0, 0)) (qk_ BK607) k_ hn_)), Or.elim hk_ (fun hs_ => Or.elim hs_ (fun hs_ => fun e_ => Nat.not_le.2 hs_ (by rw [e_]; exact GW613.out)) (fun hs_ => Or.elim hs_ (fun hs_ => fun e_ => Nat.not_le.2 hs_ (by rw [e_]; exact GW613.out)) (fun hs_ => fun e_ => Nat.not_le.2 hs_ (by rw [e_]; exact GW613.out)))) (fun hn_ => (Kd.a5q (g := gb613) (o := .cells #[.int .i64 a1_0, .int .i64 a1_1, .int .i64 a1_2, .slice A1_3 l1_3.length c1_3, .slice A1_4 l1_4.length c1_4, .slice Ao318 x614005_2.length co318] 30 (0, 0)) (qk_ BK613) k_ hn_)), Or.elim hk_ (fun hs_ => Or.elim hs_ (fun hs_ => fun e_ => Nat.not_le.2 hs_ (by rw [e_]; exact GW621.out)) (fun hs_ => Or.elim hs_ (fun hs_ => fun e_ => Nat.not_le.2 hs_ (by rw [e_]; exact GW621.out)) (fun hs_ => fun e_ => Nat.not_le.2 hs_ (by rw [e_]; exact GW621.out)))) (fun hn_ => (Kd.a5q (g := gb621) (o := .cells #[.int .i64 a0_0, .int .i64 0, .int .i64 1, .int .i64 a0_3, .bool a0_4] 25 (0, 0)) (qk_ BK621) k_ hn_))⟩)) (a0x qb_)); replace HO_614005 := qrb_ HO_614005 hb; replace BK606 := qkb_ BK606 hb; replace BK607 := qkb_ BK607 hb; replace BK613 := qkb_ BK613 hb; replace BK621 := qkb_ BK621 hb; replace HB := qbs_ hb; (try clear hb); (try clear hb2); (try clear hk); (try clear hi); (try clear ho0); (try clear ho1); (try clear ho2)) | ((with_reducible refine a0f (N := 20) rfl ?_); refine qev_ 20 #[.int .i64 0, .int .i64 0, .int .i64 0, .slice none 0 0, .slice none 0 0, .slice none 0 0] 30 ?_; intro gb638 hg w330 hbox hb; replace HO_614005 := qrb_ HO_614005 hb; replace HO629 := am_ (Kd.a1q (Kd.a2t (by (with_reducible repeat (first | apply Kd.V_alloc | apply Kd.V_drewN | apply Kd.a0m)); exact HO629.out) gb638 (Nat.le_of_eq hg.symm)) hb); replace HO632 := am_ (Kd.a1q (Kd.a2t (by (with_reducible repeat (first | apply Kd.V_alloc | apply Kd.V_drewN | apply Kd.a0m)); exact HO632.out) gb638 (Nat.le_of_eq hg.symm)) hb); replace HO635 := am_ (Kd.a1q (Kd.a2t (by (with_reducible repeat (first | apply Kd.V_alloc | apply Kd.V_drewN | apply Kd.a0m)); exact HO635.out) gb638 (Nat.le_of_eq hg.symm)) hb); have BK638 := am_ (hbox); have GW638 := qga_ hg; have GE638 := qga_ hg; replace HB := qbs_ hb; have NB606_638 := am_ ((by rw [hg]; exact Nat.ne_of_lt (a0u (qk_ BK606)) : gb606 ≠ gb638)); have NB638_606 := am_ ((by rw [hg]; exact Nat.ne_of_gt (a0u (qk_ BK606)) : gb638 ≠ gb606)); replace BK606 := qkb_ BK606 hb; have NB607_638 := am_ ((by rw [hg]; exact Nat.ne_of_lt (a0u (qk_ BK607)) : gb607 ≠ gb638)); have NB638_607 := am_ ((by rw [hg]; exact Nat.ne_of_gt (a0u (qk_ BK607)) : gb638 ≠ gb607)); replace BK607 := qkb_ BK607 hb; have NB613_638 := am_ ((by rw [hg]; exact Nat.ne_of_lt (a0u (qk_ BK613)) : gb613 ≠ gb638)); have NB638_613 := am_ ((by rw [hg]; exact Nat.ne_of_gt (a0u (qk_ BK613)) : gb638 ≠ gb613)); replace BK613 := qkb_ BK613 hb; have NB621_638 := am_ ((by rw [hg]; exact Nat.ne_of_lt (a0u (qk_ BK621)) : gb621 ≠ gb638)); have NB638_621 := am_ ((by rw [hg]; exact Nat.ne_of_gt (a0u (qk_ BK621)) : gb638 ≠ gb621)); replace BK621 := qkb_ BK621 hb; clear hb hbox hg; have hnb331 := NB638_606.out; have hnc331 := NB606_638.out; have hnb332 := NB638_607.out; have hnc332 := NB607_638.out; have hnb333 := NB638_613.out; have hnc333 := NB613_638.out; have hnb334 := NB638_621.out; have hnc334 := NB621_638.out; obtain ⟨z'335_0, z'335_1, z'335_2, z'335_3, z'335_4, z'335_5⟩ := qz6_ BK638; obtain ⟨y'335_0, y'335_1, y'335_2, y'335_3, y'335_4, y'335_5⟩ := qf6_ BK638; obtain ⟨Ao336, co336, eo336⟩ := Kd.b0c HO629.out; subst eo336; obtain ⟨Ao337, co337, eo337⟩ := Kd.b0c HO632.out; subst eo337; obtain ⟨Ao338, co338, eo338⟩ := Kd.b0c HO635.out; subst eo338; obtain ⟨z'339_0, z'339_1, z'339_2, z'339_3, z'339_4⟩ := qz5_ BK606; obtain ⟨y'339_0, y'339_1, y'339_2, y'339_3, y'339_4⟩ := qf5_ BK606) | ((with_reducible refine a0e (f := 27) rfl ?_); refine a0w (some 88) rfl rfl Try.func27 (by kernel_rfl) rfl #[.agg #[.int .i64 a0_0, .int .i64 a0_1, .int .i64 a0_2, .int .i64 a0_3, .bool a0_4], .agg #[.int .i64 t624, .int .i64 t625, .int .i64 t626, .slice Ao336 t627.length co336, .slice Ao337 t630.length co337, .slice Ao338 t633.length co338], .string a2, .slice none 0 0, .int .i64 3] rfl ql_ ?_; (refine (a2k.calls k2 a0_0 a0_1 a0_2 a0_3 a0_4 t624 t625 t626 _ _ t627 _ _ t630 _ _ t633 a2 _ _ ([] : List Int) 3 t639 t640 _ ?s1 ?s2 ?s3 ?s4 ?s5 ?s6 ?s7 ?s8 A51.out).mono ?_); (case s1 => refine (Kd.a1w (e := 9) (base := w.heap.size) (ok := fun k_ => ((some k_ ≠ (.slice Ao318 x614005_2.length co318 : Value).ownBlock ∧ (k_ ≠ gb606 ∧ (k_ ≠ gb607 ∧ (k_ ≠ gb613 ∧ k_ ≠ gb621)))) ∧ k_ ≠ gb638)) (n := t627.length) (c := co336) ?_).2.2; exact (by (with_reducible repeat (first | apply Kd.V_alloc | apply Kd.V_drewN | apply Kd.a0m)); exact (Kd.a0p (Kd.a0r (p := ⟨gb638, 5, none⟩) (Kd.a0r (p := ⟨gb638, 4, none⟩) (Kd.a0r (p := ⟨gb638, 3, none⟩) (Kd.a0r (p := ⟨gb638, 2, none⟩) (Kd.a0r (p := ⟨gb638, 1, none⟩) (Kd.a0r (p := ⟨gb638, 0, none⟩) (Kd.a0p HO629.out (fun k_ hk => (⟨hk, hk.2⟩ : _ ∧ k_ ≠ gb638))) (fun _ hk => hk.2) (.int .i64 t624)) (fun _ hk => hk.2) (.int .i64 t625)) (fun _ hk => hk.2) (.int .i64 t626)) (fun _ hk => hk.2) (.slice Ao336 t627.length co336)) (fun _ hk => hk.2) (.slice Ao337 t630.length co337)) (fun _ hk => hk.2) (.slice Ao338 t633.length co338)) (fun _ h_ => h_.1)))); (case s2 => exact (Kd.a1w HO629.out).2.1); (case s3 => refine (Kd.a1w (e := 43) (base := w.heap.size) (ok := fun k_ => ((some k_ ≠ (.slice Ao318 x614005_2.length co318 : Value).ownBlock ∧ (k_ ≠ gb606 ∧ (k_ ≠ gb607 ∧ (k_ ≠ gb613 ∧ k_ ≠ gb621)))) ∧ k_ ≠ gb638)) (n := t630.length) (c := co337) ?_).2.2; exact (by (with_reducible repeat (first | apply Kd.V_alloc | apply Kd.V_drewN | apply Kd.a0m)); exact (Kd.a0p (Kd.a0r (p := ⟨gb638, 5, none⟩) (Kd.a0r (p := ⟨gb638, 4, none⟩) (Kd.a0r (p := ⟨gb638, 3, none⟩) (Kd.a0r (p := ⟨gb638, 2, none⟩) (Kd.a0r (p := ⟨gb638, 1, none⟩) (Kd.a0r (p := ⟨gb638, 0, none⟩) (Kd.a0p HO632.out (fun k_ hk => (⟨hk, hk.2⟩ : _ ∧ k_ ≠ gb638))) (fun _ hk => hk.2) (.int .i64 t624)) (fun _ hk => hk.2) (.int .i64 t625)) (fun _ hk => hk.2) (.int .i64 t626)) (fun _ hk => hk.2) (.slice Ao336 t627.length co336)) (fun _ hk => hk.2) (.slice Ao337 t630.length co337)) (fun _ hk => hk.2) (.slice Ao338 t633.length co338)) (fun _ h_ => h_.1)))); (case s4 => exact (Kd.a1w HO632.out).2.1); (case s5 => refine (Kd.a1w (e := 3) (base := w.heap.size) (ok := fun k_ => ((some k_ ≠ (.slice Ao318 x614005_2.length co318 : Value).ownBlock ∧ (k_ ≠ gb606 ∧ (k_ ≠ gb607 ∧ (k_ ≠ gb613 ∧ k_ ≠ gb621)))) ∧ k_ ≠ gb638)) (n := t633.length) (c := co338) ?_).2.2; exact (by (with_reducible repeat (first | apply Kd.V_alloc | apply Kd.V_drewN | apply Kd.a0m)); exact (Kd.a0p (Kd.a0r (p := ⟨gb638, 5, none⟩) (Kd.a0r (p := ⟨gb638, 4, none⟩) (Kd.a0r (p := ⟨gb638, 3, none⟩) (Kd.a0r (p := ⟨gb638, 2, none⟩) (Kd.a0r (p := ⟨gb638, 1, none⟩) (Kd.a0r (p := ⟨gb638, 0, none⟩) (Kd.a0p HO635.out (fun k_ hk => (⟨hk, hk.2⟩ : _ ∧ k_ ≠ gb638))) (fun _ hk => hk.2) (.int .i64 t624)) (fun _ hk => hk.2) (.int .i64 t625)) (fun _ hk => hk.2) (.int .i64 t626)) (fun _ hk => hk.2) (.slice Ao336 t627.length co336)) (fun _ hk => hk.2) (.slice Ao337 t630.length co337)) (fun _ hk => hk.2) (.slice Ao338 t633.length co338)) (fun _ h_ => h_.1)))); (case s6 => exact (Kd.a1w HO635.out).2.1); (case s7 => exact Kd.a5s _ _); (case s8 => exact Nat.le_refl _); rintro e w340 ⟨rfl, hb⟩; refine ⟨_, rfl, ?_⟩; replace HO_614005 := am_ (Kd.a3m (by (with_reducible repeat (first | apply Kd.a1e | apply Kd.a1f | apply Kd.a0y)); exact (Kd.a2w (Kd.a1c (p := ⟨gb638, 5, none⟩) (Kd.a1c (p := ⟨gb638, 4, none⟩) (Kd.a1c (p := ⟨gb638, 3, none⟩) (Kd.a1c (p := ⟨gb638, 2, none⟩) (Kd.a1c (p := ⟨gb638, 1, none⟩) (Kd.a1c (p := ⟨gb638, 0, none⟩) (Kd.a3d HO_614005.out BK638.out (by decide)) (fun _ hk => hk.2) (.int .i64 t624)) (fun _ hk => hk.2) (.int .i64 t625)) (fun _ hk => hk.2) (.int .i64 t626)) (fun _ hk => hk.2) (.slice Ao336 t627.length co336)) (fun _ hk => hk.2) (.slice Ao337 t630.length co337)) (fun _ hk => hk.2) (.slice Ao338 t633.length co338)) (fun _ h_ => h_.1))) hb); replace HO629 := am_ (Kd.a1q (by (with_reducible repeat (first | apply Kd.V_alloc | apply Kd.V_drewN | apply Kd.a0m)); exact (Kd.a0p (Kd.a0r (p := ⟨gb638, 5, none⟩) (Kd.a0r (p := ⟨gb638, 4, none⟩) (Kd.a0r (p := ⟨gb638, 3, none⟩) (Kd.a0r (p := ⟨gb638, 2, none⟩) (Kd.a0r (p := ⟨gb638, 1, none⟩) (Kd.a0r (p := ⟨gb638, 0, none⟩) (Kd.a0p HO629.out (fun k_ hk => (⟨hk, hk.2⟩ : _ ∧ k_ ≠ gb638))) (fun _ hk => hk.2) (.int .i64 t624)) (fun _ hk => hk.2) (.int .i64 t625)) (fun _ hk => hk.2) (.int .i64 t626)) (fun _ hk => hk.2) (.slice Ao336 t627.length co336)) (fun _ hk => hk.2) (.slice Ao337 t630.length co337)) (fun _ hk => hk.2) (.slice Ao338 t633.length co338)) (fun _ h_ => h_.1))) hb); replace HO632 := am_ (Kd.a1q (by (with_reducible repeat (first | apply Kd.V_alloc | apply Kd.V_drewN | apply Kd.a0m)); exact (Kd.a0p (Kd.a0r (p := ⟨gb638, 5, none⟩) (Kd.a0r (p := ⟨gb638, 4, none⟩) (Kd.a0r (p := ⟨gb638, 3, none⟩) (Kd.a0r (p := ⟨gb638, 2, none⟩) (Kd.a0r (p := ⟨gb638, 1, none⟩) (Kd.a0r (p := ⟨gb638, 0, none⟩) (Kd.a0p HO632.out (fun k_ hk => (⟨hk, hk.2⟩ : _ ∧ k_ ≠ gb638))) (fun _ hk => hk.2) (.int .i64 t624)) (fun _ hk => hk.2) (.int .i64 t625)) (fun _ hk => hk.2) (.int .i64 t626)) (fun _ hk => hk.2) (.slice Ao336 t627.length co336)) (fun _ hk => hk.2) (.slice Ao337 t630.length co337)) (fun _ hk => hk.2) (.slice Ao338 t633.length co338)) (fun _ h_ => h_.1))) hb); replace HO635 := am_ (Kd.a1q (by (with_reducible repeat (first | apply Kd.V_alloc | apply Kd.V_drewN | apply Kd.a0m)); exact (Kd.a0p (Kd.a0r (p := ⟨gb638, 5, none⟩) (Kd.a0r (p := ⟨gb638, 4, none⟩) (Kd.a0r (p := ⟨gb638, 3, none⟩) (Kd.a0r (p := ⟨gb638, 2, none⟩) (Kd.a0r (p := ⟨gb638, 1, none⟩) (Kd.a0r (p := ⟨gb638, 0, none⟩) (Kd.a0p HO635.out (fun k_ hk => (⟨hk, hk.2⟩ : _ ∧ k_ ≠ gb638))) (fun _ hk => hk.2) (.int .i64 t624)) (fun _ hk => hk.2) (.int .i64 t625)) (fun _ hk => hk.2) (.int .i64 t626)) (fun _ hk => hk.2) (.slice Ao336 t627.length co336)) (fun _ hk => hk.2) (.slice Ao337 t630.length co337)) (fun _ hk => hk.2) (.slice Ao338 t633.length co338)) (fun _ h_ => h_.1))) hb); replace BK606 := am_ (a1o (g := gb606) (o := .cells #[.int .i64 a0_0, .int .i64 a0_1, .int .i64 a0_2, .int .i64 a0_3, .bool a0_4] 25 (0, 0)) (by refine qd_ ?_; refine a0b ?_ NB606_638.out _; refine qd_ ?_; refine a0b ?_ NB606_638.out _; refine qd_ ?_; refine a0b ?_ NB606_638.out _; refine qd_ ?_; refine a0b ?_ NB606_638.out _; refine qd_ ?_; refine a0b ?_ NB606_638.out _; refine qd_ ?_; refine a0b ?_ NB606_638.out _; refine qd_ ?_; exact BK606.out) hb); replace BK607 := am_ (a1o (g := gb607) (o := .cells #[.int .i64 a1_0, .int .i64 a1_1, .int .i64 a1_2, .slice A1_3 l1_3.length c1_3, .slice A1_4 l1_4.length c1_4, .slice A1_5 l1_5.length c1_5] 30 (0, 0)) (by refine qd_ ?_; refine a0b ?_ NB607_638.out _; refine qd_ ?_; refine a0b ?_ NB607_638.out _; refine qd_ ?_; refine a0b ?_ NB607_638.out _; refine qd_ ?_; refine a0b ?_ NB607_638.out _; refine qd_ ?_; refine a0b ?_ NB607_638.out _; refine qd_ ?_; refine a0b ?_ NB607_638.out _; refine qd_ ?_; exact BK607.out) hb); replace BK613 := am_ (a1o (g := gb613) (o := .cells #[.int .i64 a1_0, .int .i64 a1_1, .int .i64 a1_2, .slice A1_3 l1_3.length c1_3, .slice A1_4 l1_4.length c1_4, .slice Ao318 x614005_2.length co318] 30 (0, 0)) (by refine qd_ ?_; refine a0b ?_ NB613_638.out _; refine qd_ ?_; refine a0b ?_ NB613_638.out _; refine qd_ ?_; refine a0b ?_ NB613_638.out _; refine qd_ ?_; refine a0b ?_ NB613_638.out _; refine qd_ ?_; refine a0b ?_ NB613_638.out _; refine qd_ ?_; refine a0b ?_ NB613_638.out _; refine qd_ ?_; exact BK613.out) hb); replace BK621 := am_ (a1o (g := gb621) (o := .cells #[.int .i64 a0_0, .int .i64 0, .int .i64 1, .int .i64 a0_3, .bool a0_4] 25 (0, 0)) (by refine qd_ ?_; refine a0b ?_ NB621_638.out _; refine qd_ ?_; refine a0b ?_ NB621_638.out _; refine qd_ ?_; refine a0b ?_ NB621_638.out _; refine qd_ ?_; refine a0b ?_ NB621_638.out _; refine qd_ ?_; refine a0b ?_ NB621_638.out _; refine qd_ ?_; refine a0b ?_ NB621_638.out _; refine qd_ ?_; exact BK621.out) hb); replace BK638 := am_ (a1o (g := gb638) (o := .cells #[.int .i64 t624, .int .i64 t625, .int .i64 t626, .slice Ao336 t627.length co336, .slice Ao337 t630.length co337, .slice Ao338 t633.length co338] 30 (0, 0)) (by refine qd_ ?_; refine a0d (cs := #[.int .i64 t624, .int .i64 t625, .int .i64 t626, .slice Ao336 t627.length co336, .slice Ao337 t630.length co337, .slice none 0 0]) ?_ 5 _ rfl; refine qd_ ?_; refine a0d (cs := #[.int .i64 t624, .int .i64 t625, .int .i64 t626, .slice Ao336 t627.length co336, .slice none 0 0, .slice none 0 0]) ?_ 4 _ rfl; refine qd_ ?_; refine a0d (cs := #[.int .i64 t624, .int .i64 t625, .int .i64 t626, .slice none 0 0, .slice none 0 0, .slice none 0 0]) ?_ 3 _ rfl; refine qd_ ?_; refine a0d (cs := #[.int .i64 t624, .int .i64 t625, .int .i64 0, .slice none 0 0, .slice none 0 0, .slice none 0 0]) ?_ 2 _ rfl; refine qd_ ?_; refine a0d (cs := #[.int .i64 t624, .int .i64 0, .int .i64 0, .slice none 0 0, .slice none 0 0, .slice none 0 0]) ?_ 1 _ rfl; refine qd_ ?_; refine a0d (cs := #[.int .i64 0, .int .i64 0, .int .i64 0, .slice none 0 0, .slice none 0 0, .slice none 0 0]) ?_ 0 _ rfl; refine qd_ ?_; exact BK638.out) hb); replace HB := qbs_ hb; (try clear hb); (try clear hb2); (try clear hk); (try clear hi)))
       (try simp only [Act.put, List.setIfInBounds_toArray, List.set_cons_zero, List.set_cons_succ])
       by_cases c52 : t608 = true
       ·subst c52
        have H1 : (if t612 = true then (if t620 = true then (if t623 = true then (if t640 = true then (if t619 = true then (some false) else (if t622 = true then (some false) else (if t637 = true then (if t611 = true then (some true) else (some (!t639))) else (some true)))) else (some false)) else (some false)) else (some false)) else (some false)) = some r := by rw [if_pos rfl] at H; exact H
        clear H
        have H := H1
        clear H1
        by_cases c53 : t612 = true
        ·subst c53
         have H1 : (if t620 = true then (if t623 = true then (if t640 = true then (if t619 = true then (some false) else (if t622 = true then (some false) else (if t637 = true then (if t611 = true then (some true) else (some (!t639))) else (some true)))) else (some false)) else (some false)) else (some false)) = some r := by rw [if_pos rfl] at H; exact H
         clear H
         have H := H1
         clear H1
         by_cases c54 : t620 = true
         ·subst c54
          have H1 : (if t623 = true then (if t640 = true then (if t619 = true then (some false) else (if t622 = true then (some false) else (if t637 = true then (if t611 = true then (some true) else (some (!t639))) else (some true)))) else (some false)) else (some false)) = some r := by rw [if_pos rfl] at H; exact H
          clear H
          have H := H1
          clear H1
          by_cases c55 : t623 = true
          ·subst c55
           have H1 : (if t640 = true then (if t619 = true then (some false) else (if t622 = true then (some false) else (if t637 = true then (if t611 = true then (some true) else (some (!t639))) else (some true)))) else (some false)) = some r := by rw [if_pos rfl] at H; exact H
           clear H
           have H := H1
           clear H1
           by_cases c56 : t640 = true
           ·subst c56
            have H1 : (if t619 = true then (some false) else (if t622 = true then (some false) else (if t637 = true then (if t611 = true then (some true) else (some (!t639))) else (some true)))) = some r := by rw [if_pos rfl] at H; exact H
            clear H
            have H := H1
            clear H1
            by_cases c57 : t619 = true
            ·subst c57
             have H1 : (some false) = some r := by rw [if_pos rfl] at H; exact H
             clear H
             have H := H1
             clear H1
             obtain rfl := si_ H
             go_wp2
             go_ret
             exact ⟨qx_, qb_⟩
            ·replace c57 := be_ c57
             subst c57
             have H1 : (if t622 = true then (some false) else (if t637 = true then (if t611 = true then (some true) else (some (!t639))) else (some true))) = some r := by rw [if_neg (show ¬ (false = true) by decide)] at H; exact H
             clear H
             have H := H1
             clear H1
             by_cases c86 : t622 = true
             ·subst c86
              have H1 : (some false) = some r := by rw [if_pos rfl] at H; exact H
              clear H
              have H := H1
              clear H1
              obtain rfl := si_ H
              go_wp2
              go_ret
              exact ⟨qx_, qb_⟩
             ·replace c86 := be_ c86
              subst c86
              have H1 : (if t637 = true then (if t611 = true then (some true) else (some (!t639))) else (some true)) = some r := by rw [if_neg (show ¬ (false = true) by decide)] at H; exact H
              clear H
              have H := H1
              clear H1
              by_cases c115 : t637 = true
              ·subst c115
               have H1 : (if t611 = true then (some true) else (some (!t639))) = some r := by rw [if_pos rfl] at H; exact H
               clear H
               have H := H1
               clear H1
               by_cases c116 : t611 = true
               ·subst c116
                have H1 : (some true) = some r := by rw [if_pos rfl] at H; exact H
                clear H
                have H := H1
                clear H1
                obtain rfl := si_ H
                go_wp2
                go_ret
                exact ⟨qx_, qb_⟩
               ·replace c116 := be_ c116
                subst c116
                have H1 : (some (!t639)) = some r := by rw [if_neg (show ¬ (false = true) by decide)] at H; exact H
                clear H
                have H := H1
                clear H1
                obtain rfl := si_ H
                go_wp2
                go_ret
                exact ⟨qx_, qb_⟩
              ·replace c115 := be_ c115
               subst c115
               have H1 : (some true) = some r := by rw [if_neg (show ¬ (false = true) by decide)] at H; exact H
               clear H
               have H := H1
               clear H1
               obtain rfl := si_ H
               go_wp2
               go_ret
               exact ⟨qx_, qb_⟩
           ·replace c56 := be_ c56
            subst c56
            have H1 : (some false) = some r := by rw [if_neg (show ¬ (false = true) by decide)] at H; exact H
            clear H
            have H := H1
            clear H1
            obtain rfl := si_ H
            go_wp2
            go_ret
            exact ⟨qx_, qb_⟩
          ·replace c55 := be_ c55
           subst c55
           have H1 : (some false) = some r := by rw [if_neg (show ¬ (false = true) by decide)] at H; exact H
           clear H
           have H := H1
           clear H1
           obtain rfl := si_ H
           go_wp2
           go_ret
           exact ⟨qx_, qb_⟩
         ·replace c54 := be_ c54
          subst c54
          have H1 : (some false) = some r := by rw [if_neg (show ¬ (false = true) by decide)] at H; exact H
          clear H
          have H := H1
          clear H1
          obtain rfl := si_ H
          go_wp2
          go_ret
          exact ⟨qx_, qb_⟩
        ·replace c53 := be_ c53
         subst c53
         have H1 : (some false) = some r := by rw [if_neg (show ¬ (false = true) by decide)] at H; exact H
         clear H
         have H := H1
         clear H1
         obtain rfl := si_ H
         go_wp2
         go_ret
         exact ⟨qx_, qb_⟩
       ·replace c52 := be_ c52
        subst c52
        have H1 : (some false) = some r := by rw [if_neg (show ¬ (false = true) by decide)] at H; exact H
        clear H
        have H := H1
        clear H1
        obtain rfl := si_ H
        go_wp2
        go_ret
        exact ⟨qx_, qb_⟩
end Go.Proofs.Ytemnlgefngjliaa.Px
