/- Contracts of Go functions, printed. Conditions: as each theorem states. -/
import Derived.Test.YtemnlgefngjliaaPx0
import Derived.Test.YtemnlgefngjliaaPx16
import Derived.Test.YtemnlgefngjliaaPx17
import Derived.Test.YtemnlgefngjliaaPx21
namespace Go.Proofs.Ytemnlgefngjliaa.Px
open Go.Proofs.Ytemnlgefngjliaa.Given
open Go.RowKit Go.Proofs.YtemnlgefngjliaaW.PrintWords Go.Proofs.YtemnlgefngjliaaW.PrintLast Go.Proofs.YtemnlgefngjliaaW.PrintMore
attribute [local go_sem] a2f a2g a2r a2s a1x a1y a2h a2i
set_option linter.unusedVariables false
set_option linter.unusedSimpArgs false
def a3s.f (k : Nat) (a0_0 a0_1 a0_2 a0_3 : Int) (a0_4 : Bool) (a1_0 a1_1 a1_2 : Int) (l1_3 : List ByteArray) (l1_4 : List (S43)) (l1_5 : List Int) : Option (Bool) := (a2u.f k a1_0 a1_1 a1_2 l1_3 l1_4 l1_5).bind fun t491 => (if t491 = true then ((a3e.f k a0_0 a0_1 a0_2 a0_3 a0_4).bind fun t492 => (if t492 = true then ((a0g.f k a1_0 a1_1 a1_2 l1_3 l1_4 l1_5).bind fun t493 => (some t493)) else (some false))) else (some false))
theorem a3s.mono : ∀ a0 a1 a2 a3 a4 a5 a6 a7 a8 a9 a10 k, LeO (a3s.f k a0 a1 a2 a3 a4 a5 a6 a7 a8 a9 a10) (a3s.f (k + 1) a0 a1 a2 a3 a4 a5 a6 a7 a8 a9 a10) := by
 intro a0 a1 a2 a3 a4 a5 a6 a7 a8 a9 a10 k
 unfold a3s.f
 with_reducible (repeat' first | apply a2u.mono | apply a3e.mono | apply a0g.mono | apply LeO.refl | apply LeO.none | apply LeO.ite | refine LeO.bind ?_ (fun _ => ?_))
set_option maxHeartbeats 8000000 in
set_option maxRecDepth 100000 in
theorem a3s.calls (k : Nat) (a0_0 a0_1 a0_2 a0_3 : Int) (a0_4 : Bool) (a1_0 a1_1 a1_2 : Int) (A1_3 : Option Addr) (c1_3 : Nat) (l1_3 : List ByteArray) (A1_4 : Option Addr) (c1_4 : Nat) (l1_4 : List (S43)) (A1_5 : Option Addr) (c1_5 : Nat) (l1_5 : List Int) (r : Bool) (w : World) (hr1_3 : Kd.C Kd.string w A1_3 l1_3.length l1_3) (hc1_3 : l1_3.length ≤ c1_3) (hr1_4 : Kd.C k43 w A1_4 l1_4.length l1_4) (hc1_4 : l1_4.length ≤ c1_4) (hr1_5 : Kd.C (Kd.int .i64) w A1_5 l1_5.length l1_5) (hc1_5 : l1_5.length ≤ c1_5) (h : a3s.f k a0_0 a0_1 a0_2 a0_3 a0_4 a1_0 a1_1 a1_2 l1_3 l1_4 l1_5 = some r) :
  Calls Try.prog 22 #[.agg #[.int .i64 a0_0, .int .i64 a0_1, .int .i64 a0_2, .int .i64 a0_3, .bool a0_4], .agg #[.int .i64 a1_0, .int .i64 a1_1, .int .i64 a1_2, .slice A1_3 l1_3.length c1_3, .slice A1_4 l1_4.length c1_4, .slice A1_5 l1_5.length c1_5]] w fun e w' => e = .returned (.bool r) ∧ Below w.heap.size w w' := by
 have hu25 := Try.underlying25
 have hu30 := Try.underlying30
 have HR1_3 := am_ hr1_3
 have HC1_3 := am_ hc1_3
 clear hr1_3 hc1_3
 have HR1_4 := am_ hr1_4
 have HC1_4 := am_ hc1_4
 clear hr1_4 hc1_4
 have HR1_5 := am_ hr1_5
 have HC1_5 := am_ hc1_5
 clear hr1_5 hc1_5
 have HB := am_ (Below.refl w.heap.size w)
 have H : ((a2u.f k a1_0 a1_1 a1_2 l1_3 l1_4 l1_5).bind fun t491 => (if t491 = true then ((a3e.f k a0_0 a0_1 a0_2 a0_3 a0_4).bind fun t492 => (if t492 = true then ((a0g.f k a1_0 a1_1 a1_2 l1_3 l1_4 l1_5).bind fun t493 => (some t493)) else (some false))) else (some false))) = some r := h
 clear h
 replace H := bm_ H
 obtain ⟨t491, A30, H⟩ := H
 replace H : (if t491 = true then ((a3e.f k a0_0 a0_1 a0_2 a0_3 a0_4).bind fun t492 => (if t492 = true then ((a0g.f k a1_0 a1_1 a1_2 l1_3 l1_4 l1_5).bind fun t493 => (some t493)) else (some false))) else (some false)) = some r := H
 have A3 := am_ A30
 clear A30
 by_cases c4 : t491 = true
 ·subst c4
  have H1 : ((a3e.f k a0_0 a0_1 a0_2 a0_3 a0_4).bind fun t492 => (if t492 = true then ((a0g.f k a1_0 a1_1 a1_2 l1_3 l1_4 l1_5).bind fun t493 => (some t493)) else (some false))) = some r := by rw [if_pos rfl] at H; exact H
  clear H
  have H := H1
  clear H1
  replace H := bm_ H
  obtain ⟨t492, A50, H⟩ := H
  replace H : (if t492 = true then ((a0g.f k a1_0 a1_1 a1_2 l1_3 l1_4 l1_5).bind fun t493 => (some t493)) else (some false)) = some r := H
  have A5 := am_ A50
  clear A50
  by_cases c6 : t492 = true
  ·subst c6
   have H1 : ((a0g.f k a1_0 a1_1 a1_2 l1_3 l1_4 l1_5).bind fun t493 => (some t493)) = some r := by rw [if_pos rfl] at H; exact H
   clear H
   have H := H1
   clear H1
   replace H := bm_ H
   obtain ⟨t493, A70, H⟩ := H
   replace H : (some t493) = some r := H
   have A7 := am_ A70
   clear A70
   obtain rfl := si_ H
   go_enter Try.func22, Try.ntmps22
   go_wp2_with (first | ((with_reducible refine a0f (N := 2) rfl ?_); refine qev_ 2 #[.int .i64 a0_0, .int .i64 a0_1, .int .i64 a0_2, .int .i64 a0_3, .bool a0_4] 25 ?_; intro gb489 hg w8 hbox hb; have BK489 := am_ (hbox); have GW489 := qga_ hg; have GE489 := qga_ hg; replace HB := qbs_ hb; clear hb hbox hg) | ((with_reducible refine a0f (N := 3) rfl ?_); refine qev_ 3 #[.int .i64 a1_0, .int .i64 a1_1, .int .i64 a1_2, .slice A1_3 l1_3.length c1_3, .slice A1_4 l1_4.length c1_4, .slice A1_5 l1_5.length c1_5] 30 ?_; intro gb490 hg w9 hbox hb; have BK490 := am_ (hbox); have GW490 := qga_ hg; have GE490 := qga_ hg; replace HB := qbs_ hb; have NB489_490 := am_ ((by rw [hg]; exact Nat.ne_of_lt (a0u (qk_ BK489)) : gb489 ≠ gb490)); have NB490_489 := am_ ((by rw [hg]; exact Nat.ne_of_gt (a0u (qk_ BK489)) : gb490 ≠ gb489)); replace BK489 := qkb_ BK489 hb; clear hb hbox hg; have hnb10 := NB490_489.out; have hnc10 := NB489_490.out; obtain ⟨z'11_0, z'11_1, z'11_2, z'11_3, z'11_4, z'11_5⟩ := qz6_ BK490; obtain ⟨y'11_0, y'11_1, y'11_2, y'11_3, y'11_4, y'11_5⟩ := qf6_ BK490) | ((with_reducible refine a0e (f := 12) rfl ?_); refine a0w (some 6) rfl rfl Try.func12 (by kernel_rfl) rfl #[.agg #[.int .i64 a1_0, .int .i64 a1_1, .int .i64 a1_2, .slice A1_3 l1_3.length c1_3, .slice A1_4 l1_4.length c1_4, .slice A1_5 l1_5.length c1_5]] rfl ql_ ?_; (with_reducible refine (a2u.calls k a1_0 a1_1 a1_2 _ _ l1_3 _ _ l1_4 _ _ l1_5 true _ ?s1 ?s2 ?s3 ?s4 ?s5 ?s6 A3.out).mono ?_); (case s1 => exact qc_ HR1_3); (case s2 => exact HC1_3.out); (case s3 => exact qc_ HR1_4); (case s4 => exact HC1_4.out); (case s5 => exact qc_ HR1_5); (case s6 => exact HC1_5.out); rintro e w12 ⟨rfl, hb⟩; refine ⟨_, rfl, ?_⟩; replace BK489 := qkb_ BK489 hb; replace BK490 := qkb_ BK490 hb; replace HB := qbs_ hb; (try clear hb); (try clear hb2); (try clear hk); (try clear hi); obtain ⟨z'13_0, z'13_1, z'13_2, z'13_3, z'13_4⟩ := qz5_ BK489; obtain ⟨y'13_0, y'13_1, y'13_2, y'13_3, y'13_4⟩ := qf5_ BK489) | (go_at_call 35; (with_reducible refine (a3e.calls k a0_0 a0_1 a0_2 a0_3 a0_4 true _ A5.out).mono ?_); rintro e w14 ⟨rfl, hb⟩; replace BK489 := qkb_ BK489 hb; replace BK490 := qkb_ BK490 hb; replace HB := qbs_ hb; (try clear hb); (try clear hb2); (try clear hk); (try clear hi); obtain ⟨z'15_0, z'15_1, z'15_2, z'15_3, z'15_4, z'15_5⟩ := qz6_ BK490; obtain ⟨y'15_0, y'15_1, y'15_2, y'15_3, y'15_4, y'15_5⟩ := qf6_ BK490) | (go_at_call 16; (with_reducible refine (a0g.calls k a1_0 a1_1 a1_2 _ _ l1_3 _ _ l1_4 _ _ l1_5 t493 _ ?s1 ?s2 ?s3 ?s4 ?s5 ?s6 A7.out).mono ?_); (case s1 => exact qc_ HR1_3); (case s2 => exact HC1_3.out); (case s3 => exact qc_ HR1_4); (case s4 => exact HC1_4.out); (case s5 => exact qc_ HR1_5); (case s6 => exact HC1_5.out); rintro e w16 ⟨rfl, hb⟩; replace BK489 := qkb_ BK489 hb; replace BK490 := qkb_ BK490 hb; replace HB := qbs_ hb; (try clear hb); (try clear hb2); (try clear hk); (try clear hi)))
   go_ret
   exact ⟨qx_, qb_⟩
  ·replace c6 := be_ c6
   subst c6
   have H1 : (some false) = some r := by rw [if_neg (show ¬ (false = true) by decide)] at H; exact H
   clear H
   have H := H1
   clear H1
   obtain rfl := si_ H
   go_enter Try.func22, Try.ntmps22
   go_wp2_with (first | ((with_reducible refine a0f (N := 2) rfl ?_); refine qev_ 2 #[.int .i64 a0_0, .int .i64 a0_1, .int .i64 a0_2, .int .i64 a0_3, .bool a0_4] 25 ?_; intro gb489 hg w17 hbox hb; have BK489 := am_ (hbox); have GW489 := qga_ hg; have GE489 := qga_ hg; replace HB := qbs_ hb; clear hb hbox hg) | ((with_reducible refine a0f (N := 3) rfl ?_); refine qev_ 3 #[.int .i64 a1_0, .int .i64 a1_1, .int .i64 a1_2, .slice A1_3 l1_3.length c1_3, .slice A1_4 l1_4.length c1_4, .slice A1_5 l1_5.length c1_5] 30 ?_; intro gb490 hg w18 hbox hb; have BK490 := am_ (hbox); have GW490 := qga_ hg; have GE490 := qga_ hg; replace HB := qbs_ hb; have NB489_490 := am_ ((by rw [hg]; exact Nat.ne_of_lt (a0u (qk_ BK489)) : gb489 ≠ gb490)); have NB490_489 := am_ ((by rw [hg]; exact Nat.ne_of_gt (a0u (qk_ BK489)) : gb490 ≠ gb489)); replace BK489 := qkb_ BK489 hb; clear hb hbox hg; have hnb19 := NB490_489.out; have hnc19 := NB489_490.out; obtain ⟨z'20_0, z'20_1, z'20_2, z'20_3, z'20_4, z'20_5⟩ := qz6_ BK490; obtain ⟨y'20_0, y'20_1, y'20_2, y'20_3, y'20_4, y'20_5⟩ := qf6_ BK490) | ((with_reducible refine a0e (f := 12) rfl ?_); refine a0w (some 6) rfl rfl Try.func12 (by kernel_rfl) rfl #[.agg #[.int .i64 a1_0, .int .i64 a1_1, .int .i64 a1_2, .slice A1_3 l1_3.length c1_3, .slice A1_4 l1_4.length c1_4, .slice A1_5 l1_5.length c1_5]] rfl ql_ ?_; (with_reducible refine (a2u.calls k a1_0 a1_1 a1_2 _ _ l1_3 _ _ l1_4 _ _ l1_5 true _ ?s1 ?s2 ?s3 ?s4 ?s5 ?s6 A3.out).mono ?_); (case s1 => exact qc_ HR1_3); (case s2 => exact HC1_3.out); (case s3 => exact qc_ HR1_4); (case s4 => exact HC1_4.out); (case s5 => exact qc_ HR1_5); (case s6 => exact HC1_5.out); rintro e w21 ⟨rfl, hb⟩; refine ⟨_, rfl, ?_⟩; replace BK489 := qkb_ BK489 hb; replace BK490 := qkb_ BK490 hb; replace HB := qbs_ hb; (try clear hb); (try clear hb2); (try clear hk); (try clear hi); obtain ⟨z'22_0, z'22_1, z'22_2, z'22_3, z'22_4⟩ := qz5_ BK489; obtain ⟨y'22_0, y'22_1, y'22_2, y'22_3, y'22_4⟩ := qf5_ BK489) | (go_at_call 35; (with_reducible refine (a3e.calls k a0_0 a0_1 a0_2 a0_3 a0_4 false _ A5.out).mono ?_); rintro e w23 ⟨rfl, hb⟩; replace BK489 := qkb_ BK489 hb; replace BK490 := qkb_ BK490 hb; replace HB := qbs_ hb; (try clear hb); (try clear hb2); (try clear hk); (try clear hi)))
   go_ret
   exact ⟨qx_, qb_⟩
 ·replace c4 := be_ c4
  subst c4
  have H1 : (some false) = some r := by rw [if_neg (show ¬ (false = true) by decide)] at H; exact H
  clear H
  have H := H1
  clear H1
  obtain rfl := si_ H
  go_enter Try.func22, Try.ntmps22
  go_wp2_with (first | ((with_reducible refine a0f (N := 2) rfl ?_); refine qev_ 2 #[.int .i64 a0_0, .int .i64 a0_1, .int .i64 a0_2, .int .i64 a0_3, .bool a0_4] 25 ?_; intro gb489 hg w24 hbox hb; have BK489 := am_ (hbox); have GW489 := qga_ hg; have GE489 := qga_ hg; replace HB := qbs_ hb; clear hb hbox hg) | ((with_reducible refine a0f (N := 3) rfl ?_); refine qev_ 3 #[.int .i64 a1_0, .int .i64 a1_1, .int .i64 a1_2, .slice A1_3 l1_3.length c1_3, .slice A1_4 l1_4.length c1_4, .slice A1_5 l1_5.length c1_5] 30 ?_; intro gb490 hg w25 hbox hb; have BK490 := am_ (hbox); have GW490 := qga_ hg; have GE490 := qga_ hg; replace HB := qbs_ hb; have NB489_490 := am_ ((by rw [hg]; exact Nat.ne_of_lt (a0u (qk_ BK489)) : gb489 ≠ gb490)); have NB490_489 := am_ ((by rw [hg]; exact Nat.ne_of_gt (a0u (qk_ BK489)) : gb490 ≠ gb489)); replace BK489 := qkb_ BK489 hb; clear hb hbox hg; have hnb26 := NB490_489.out; have hnc26 := NB489_490.out; obtain ⟨z'27_0, z'27_1, z'27_2, z'27_3, z'27_4, z'27_5⟩ := qz6_ BK490; obtain ⟨y'27_0, y'27_1, y'27_2, y'27_3, y'27_4, y'27_5⟩ := qf6_ BK490) | ((with_reducible refine a0e (f := 12) rfl ?_); refine a0w (some 6) rfl rfl Try.func12 (by kernel_rfl) rfl #[.agg #[.int .i64 a1_0, .int .i64 a1_1, .int .i64 a1_2, .slice A1_3 l1_3.length c1_3, .slice A1_4 l1_4.length c1_4, .slice A1_5 l1_5.length c1_5]] rfl ql_ ?_; (with_reducible refine (a2u.calls k a1_0 a1_1 a1_2 _ _ l1_3 _ _ l1_4 _ _ l1_5 false _ ?s1 ?s2 ?s3 ?s4 ?s5 ?s6 A3.out).mono ?_); (case s1 => exact qc_ HR1_3); (case s2 => exact HC1_3.out); (case s3 => exact qc_ HR1_4); (case s4 => exact HC1_4.out); (case s5 => exact qc_ HR1_5); (case s6 => exact HC1_5.out); rintro e w28 ⟨rfl, hb⟩; refine ⟨_, rfl, ?_⟩; replace BK489 := qkb_ BK489 hb; replace BK490 := qkb_ BK490 hb; replace HB := qbs_ hb; (try clear hb); (try clear hb2); (try clear hk); (try clear hi)))
  go_ret
  exact ⟨qx_, qb_⟩
end Go.Proofs.Ytemnlgefngjliaa.Px
