/- Contracts of Go functions, printed. Conditions: as each theorem states. -/
import Derived.Test.YtemnlgefngjliaaPx0
import Derived.Test.YtemnlgefngjliaaPx3
import Derived.Test.YtemnlgefngjliaaPx4
namespace Go.Proofs.Ytemnlgefngjliaa.Px
open Go.Proofs.Ytemnlgefngjliaa.Given
open Go.RowKit Go.Proofs.YtemnlgefngjliaaW.PrintWords Go.Proofs.YtemnlgefngjliaaW.PrintLast Go.Proofs.YtemnlgefngjliaaW.PrintMore
attribute [local go_sem] a2f a2g a2r a2s a1x a1y a2h a2i
set_option linter.unusedVariables false
set_option linter.unusedSimpArgs false
def Mhby.f (k : Nat) (a0_0 a0_1 a0_2 a0_3 : Int) (a0_4 : Bool) (a0_5 a0_6 a0_7 : Int) (l0_8 : List ByteArray) (l0_9 : List (S43)) (l0_10 : List Int) (a0_11 : ByteArray) (l0_12 : List Int) (a1 : Int) : Option (Int × Bool) := if 0 ≤ a1 then (if a1 < (l0_9.length : Int) then ((a3b.f k a0_0 a0_1 a0_2 a0_3 a0_4 a0_5 a0_6 a0_7 l0_8 l0_9 l0_10 a0_11 l0_12 ((a0a l0_9 a1).f0)).bind fun t150 => (if t150 = true then (some (a1, true)) else ((a3b.f k a0_0 a0_1 a0_2 a0_3 a0_4 a0_5 a0_6 a0_7 l0_8 l0_9 l0_10 a0_11 l0_12 ((a0a l0_9 a1).f2)).bind fun t151 => (if t151 = true then ((a3c.f k a0_0 a0_1 a0_2 a0_3 a0_4 a0_5 a0_6 a0_7 l0_8 l0_9 l0_10 a0_11 l0_12 ((a0a l0_9 a1).f2)).bind fun bt152 => (some (bt152.1, bt152.2))) else (some (0, false)))))) else (none)) else (none)
theorem Mhby.mono : ∀ a0 a1 a2 a3 a4 a5 a6 a7 a8 a9 a10 a11 a12 a13 k, LeO (Mhby.f k a0 a1 a2 a3 a4 a5 a6 a7 a8 a9 a10 a11 a12 a13) (Mhby.f (k + 1) a0 a1 a2 a3 a4 a5 a6 a7 a8 a9 a10 a11 a12 a13) := by
 intro a0 a1 a2 a3 a4 a5 a6 a7 a8 a9 a10 a11 a12 a13 k
 unfold Mhby.f
 with_reducible (repeat' first | apply a3c.mono | apply a3b.mono | apply LeO.refl | apply LeO.none | apply LeO.ite | refine LeO.bind ?_ (fun _ => ?_))
set_option maxHeartbeats 8000000 in
set_option maxRecDepth 100000 in
theorem Mhby.calls (k : Nat) (a0_0 a0_1 a0_2 a0_3 : Int) (a0_4 : Bool) (a0_5 a0_6 a0_7 : Int) (A0_8 : Option Addr) (c0_8 : Nat) (l0_8 : List ByteArray) (A0_9 : Option Addr) (c0_9 : Nat) (l0_9 : List (S43)) (A0_10 : Option Addr) (c0_10 : Nat) (l0_10 : List Int) (a0_11 : ByteArray) (A0_12 : Option Addr) (c0_12 : Nat) (l0_12 : List Int) (a1 r1 : Int) (r2 : Bool) (w : World) (hr0_8 : Kd.C Kd.string w A0_8 l0_8.length l0_8) (hc0_8 : l0_8.length ≤ c0_8) (hr0_9 : Kd.C k43 w A0_9 l0_9.length l0_9) (hc0_9 : l0_9.length ≤ c0_9) (hr0_10 : Kd.C (Kd.int .i64) w A0_10 l0_10.length l0_10) (hc0_10 : l0_10.length ≤ c0_10) (hr0_12 : Kd.C (Kd.int .i64) w A0_12 l0_12.length l0_12) (hc0_12 : l0_12.length ≤ c0_12) (h : Mhby.f k a0_0 a0_1 a0_2 a0_3 a0_4 a0_5 a0_6 a0_7 l0_8 l0_9 l0_10 a0_11 l0_12 a1 = some (r1, r2)) :
  Calls Try.prog 57 #[.agg #[.int .i64 a0_0, .int .i64 a0_1, .int .i64 a0_2, .int .i64 a0_3, .bool a0_4, .int .i64 a0_5, .int .i64 a0_6, .int .i64 a0_7, .slice A0_8 l0_8.length c0_8, .slice A0_9 l0_9.length c0_9, .slice A0_10 l0_10.length c0_10, .string a0_11, .slice A0_12 l0_12.length c0_12], .int .i64 a1] w fun e w' => e = .returned (.tuple #[.int .i64 r1, .bool r2]) ∧ Below w.heap.size w w' := by
 have hu62 := Try.underlying62
 have hu43 := Try.underlying43
 have HR0_8 := am_ hr0_8
 have HC0_8 := am_ hc0_8
 clear hr0_8 hc0_8
 have HR0_9 := am_ hr0_9
 have HC0_9 := am_ hc0_9
 clear hr0_9 hc0_9
 have HR0_10 := am_ hr0_10
 have HC0_10 := am_ hc0_10
 clear hr0_10 hc0_10
 have HR0_12 := am_ hr0_12
 have HC0_12 := am_ hc0_12
 clear hr0_12 hc0_12
 have HB := am_ (Below.refl w.heap.size w)
 have H : (if 0 ≤ a1 then (if a1 < (l0_9.length : Int) then ((a3b.f k a0_0 a0_1 a0_2 a0_3 a0_4 a0_5 a0_6 a0_7 l0_8 l0_9 l0_10 a0_11 l0_12 ((a0a l0_9 a1).f0)).bind fun t150 => (if t150 = true then (some (a1, true)) else ((a3b.f k a0_0 a0_1 a0_2 a0_3 a0_4 a0_5 a0_6 a0_7 l0_8 l0_9 l0_10 a0_11 l0_12 ((a0a l0_9 a1).f2)).bind fun t151 => (if t151 = true then ((a3c.f k a0_0 a0_1 a0_2 a0_3 a0_4 a0_5 a0_6 a0_7 l0_8 l0_9 l0_10 a0_11 l0_12 ((a0a l0_9 a1).f2)).bind fun bt152 => (some (bt152.1, bt152.2))) else (some (0, false)))))) else (none)) else (none)) = some (r1, r2) := h
 clear h
 by_cases c3 : 0 ≤ a1
 ·rw [if_pos c3] at H
  have c3b0 : decide (0 ≤ a1) = true := decide_eq_true c3
  clear c3
  by_cases c4 : a1 < (l0_9.length : Int)
  ·rw [if_pos c4] at H
   have c4b0 : decide (a1 < (l0_9.length : Int)) = true := decide_eq_true c4
   clear c4
   replace H := bm_ H
   obtain ⟨t150, A50, H⟩ := H
   replace H : (if t150 = true then (some (a1, true)) else ((a3b.f k a0_0 a0_1 a0_2 a0_3 a0_4 a0_5 a0_6 a0_7 l0_8 l0_9 l0_10 a0_11 l0_12 ((a0a l0_9 a1).f2)).bind fun t151 => (if t151 = true then ((a3c.f k a0_0 a0_1 a0_2 a0_3 a0_4 a0_5 a0_6 a0_7 l0_8 l0_9 l0_10 a0_11 l0_12 ((a0a l0_9 a1).f2)).bind fun bt152 => (some (bt152.1, bt152.2))) else (some (0, false))))) = some (r1, r2) := H
   have A5 := am_ A50
   clear A50
   by_cases c6 : t150 = true
   ·subst c6
    have H1 : (some (a1, true)) = some (r1, r2) := by rw [if_pos rfl] at H; exact H
    clear H
    have H := H1
    clear H1
    simp only [Option.some.injEq, Prod.mk.injEq] at H
    obtain ⟨rfl, rfl⟩ := H
    go_enter Try.func57, Try.ntmps57
    go_wp2_with (first | ((with_reducible refine a0f (N := 2) rfl ?_); refine qev_ 2 #[.int .i64 a0_0, .int .i64 a0_1, .int .i64 a0_2, .int .i64 a0_3, .bool a0_4, .int .i64 a0_5, .int .i64 a0_6, .int .i64 a0_7, .slice A0_8 l0_8.length c0_8, .slice A0_9 l0_9.length c0_9, .slice A0_10 l0_10.length c0_10, .string a0_11, .slice A0_12 l0_12.length c0_12] 62 ?_; intro gb147 hg w7 hbox hb; have BK147 := am_ (hbox); have GW147 := qga_ hg; have GE147 := qga_ hg; replace HB := qbs_ hb; clear hb hbox hg; obtain ⟨z'8_0, z'8_1, z'8_2, z'8_3, z'8_4, z'8_5, z'8_6, z'8_7, z'8_8, z'8_9, z'8_10, z'8_11, z'8_12⟩ := a1u BK147; obtain ⟨y'8_0, y'8_1, y'8_2, y'8_3, y'8_4, y'8_5, y'8_6, y'8_7, y'8_8, y'8_9, y'8_10, y'8_11, y'8_12⟩ := a1v BK147; have p148 : 0 ≤ (a1 : Int) := ot_; have q148 : a1 < (l0_9.length : Int) := ot_; obtain ⟨ad148, e148, hx148_0, hx148_1, hx148_2⟩ := a2p HR0_9.out a1 p148 q148; cases e148; replace hx148_0 := qh_ HB hx148_0; replace hx148_1 := qh_ HB hx148_1; replace hx148_2 := qh_ HB hx148_2; replace p148 := eq_true p148; replace q148 := eq_true q148) | ((with_reducible refine a0f (N := 6) rfl ?_); refine qev_ 6 #[.int .i64 0, .int .i64 0, .int .i64 0] 43 ?_; intro gb149 hg w9 hbox hb; have BK149 := am_ (hbox); have GW149 := qga_ hg; have GE149 := qga_ hg; replace HB := qbs_ hb; have NB147_149 := am_ ((by rw [hg]; exact Nat.ne_of_lt (a0u (qk_ BK147)) : gb147 ≠ gb149)); have NB149_147 := am_ ((by rw [hg]; exact Nat.ne_of_gt (a0u (qk_ BK147)) : gb149 ≠ gb147)); replace BK147 := qkb_ BK147 hb; clear hb hbox hg; have hnb10 := NB149_147.out; have hnc10 := NB147_149.out; obtain ⟨z'11_0, z'11_1, z'11_2⟩ := qz3_ BK149; obtain ⟨y'11_0, y'11_1, y'11_2⟩ := qf3_ BK149; obtain ⟨z'12_0, z'12_1, z'12_2, z'12_3, z'12_4, z'12_5, z'12_6, z'12_7, z'12_8, z'12_9, z'12_10, z'12_11, z'12_12⟩ := a1u BK147; obtain ⟨y'12_0, y'12_1, y'12_2, y'12_3, y'12_4, y'12_5, y'12_6, y'12_7, y'12_8, y'12_9, y'12_10, y'12_11, y'12_12⟩ := a1v BK147) | ((with_reducible refine a0e (f := 72) rfl ?_); refine a0w (some 16) rfl rfl Try.func72 (by kernel_rfl) rfl #[.agg #[.int .i64 a0_0, .int .i64 a0_1, .int .i64 a0_2, .int .i64 a0_3, .bool a0_4, .int .i64 a0_5, .int .i64 a0_6, .int .i64 a0_7, .slice A0_8 l0_8.length c0_8, .slice (some ad148) l0_9.length c0_9, .slice A0_10 l0_10.length c0_10, .string a0_11, .slice A0_12 l0_12.length c0_12], .int .i64 ((a0a l0_9 a1).f0)] rfl ql_ ?_; (with_reducible refine (a3b.calls k a0_0 a0_1 a0_2 a0_3 a0_4 a0_5 a0_6 a0_7 _ _ l0_8 _ _ l0_9 _ _ l0_10 a0_11 _ _ l0_12 ((a0a l0_9 a1).f0) true _ ?s1 ?s2 ?s3 ?s4 ?s5 ?s6 ?s7 ?s8 A5.out).mono ?_); (case s1 => exact Kd.a1g HR0_8.out qb_); (case s2 => exact HC0_8.out); (case s3 => exact Kd.a1g HR0_9.out qb_); (case s4 => exact HC0_9.out); (case s5 => exact Kd.a1g HR0_10.out qb_); (case s6 => exact HC0_10.out); (case s7 => exact Kd.a1g HR0_12.out qb_); (case s8 => exact HC0_12.out); rintro e w13 ⟨rfl, hb⟩; refine ⟨_, rfl, ?_⟩; replace BK147 := am_ (a1o (g := gb147) (o := .cells #[.int .i64 a0_0, .int .i64 a0_1, .int .i64 a0_2, .int .i64 a0_3, .bool a0_4, .int .i64 a0_5, .int .i64 a0_6, .int .i64 a0_7, .slice A0_8 l0_8.length c0_8, .slice (some ad148) l0_9.length c0_9, .slice A0_10 l0_10.length c0_10, .string a0_11, .slice A0_12 l0_12.length c0_12] 62 (0, 0)) (by refine qd_ ?_; refine a0b ?_ NB147_149.out _; refine qd_ ?_; refine a0b ?_ NB147_149.out _; refine qd_ ?_; refine a0b ?_ NB147_149.out _; refine qd_ ?_; exact BK147.out) hb); replace BK149 := am_ (a1o (g := gb149) (o := .cells #[.int .i64 ((a0a l0_9 a1).f0), .int .i64 ((a0a l0_9 a1).f1), .int .i64 ((a0a l0_9 a1).f2)] 43 (0, 0)) (by refine qd_ ?_; refine a0d (cs := #[.int .i64 ((a0a l0_9 a1).f0), .int .i64 ((a0a l0_9 a1).f1), .int .i64 0]) ?_ 2 _ rfl; refine qd_ ?_; refine a0d (cs := #[.int .i64 ((a0a l0_9 a1).f0), .int .i64 0, .int .i64 0]) ?_ 1 _ rfl; refine qd_ ?_; refine a0d (cs := #[.int .i64 0, .int .i64 0, .int .i64 0]) ?_ 0 _ rfl; refine qd_ ?_; exact BK149.out) hb); replace HB := qbs_ hb; (try clear hb); (try clear hb2); (try clear hk); (try clear hi)))
    go_ret2
    exact ⟨qx_, qb_⟩
   ·replace c6 := be_ c6
    subst c6
    have H1 : ((a3b.f k a0_0 a0_1 a0_2 a0_3 a0_4 a0_5 a0_6 a0_7 l0_8 l0_9 l0_10 a0_11 l0_12 ((a0a l0_9 a1).f2)).bind fun t151 => (if t151 = true then ((a3c.f k a0_0 a0_1 a0_2 a0_3 a0_4 a0_5 a0_6 a0_7 l0_8 l0_9 l0_10 a0_11 l0_12 ((a0a l0_9 a1).f2)).bind fun bt152 => (some (bt152.1, bt152.2))) else (some (0, false)))) = some (r1, r2) := by rw [if_neg (show ¬ (false = true) by decide)] at H; exact H
    clear H
    have H := H1
    clear H1
    replace H := bm_ H
    obtain ⟨t151, A140, H⟩ := H
    replace H : (if t151 = true then ((a3c.f k a0_0 a0_1 a0_2 a0_3 a0_4 a0_5 a0_6 a0_7 l0_8 l0_9 l0_10 a0_11 l0_12 ((a0a l0_9 a1).f2)).bind fun bt152 => (some (bt152.1, bt152.2))) else (some (0, false))) = some (r1, r2) := H
    have A14 := am_ A140
    clear A140
    by_cases c15 : t151 = true
    ·subst c15
     have H1 : ((a3c.f k a0_0 a0_1 a0_2 a0_3 a0_4 a0_5 a0_6 a0_7 l0_8 l0_9 l0_10 a0_11 l0_12 ((a0a l0_9 a1).f2)).bind fun bt152 => (some (bt152.1, bt152.2))) = some (r1, r2) := by rw [if_pos rfl] at H; exact H
     clear H
     have H := H1
     clear H1
     replace H := bm_ H
     obtain ⟨⟨t152, t153⟩, A160, H⟩ := H
     replace H : (some (t152, t153)) = some (r1, r2) := H
     have A16 := am_ A160
     clear A160
     simp only [Option.some.injEq, Prod.mk.injEq] at H
     obtain ⟨rfl, rfl⟩ := H
     go_enter Try.func57, Try.ntmps57
     go_wp2_with (first | ((with_reducible refine a0f (N := 2) rfl ?_); refine qev_ 2 #[.int .i64 a0_0, .int .i64 a0_1, .int .i64 a0_2, .int .i64 a0_3, .bool a0_4, .int .i64 a0_5, .int .i64 a0_6, .int .i64 a0_7, .slice A0_8 l0_8.length c0_8, .slice A0_9 l0_9.length c0_9, .slice A0_10 l0_10.length c0_10, .string a0_11, .slice A0_12 l0_12.length c0_12] 62 ?_; intro gb147 hg w17 hbox hb; have BK147 := am_ (hbox); have GW147 := qga_ hg; have GE147 := qga_ hg; replace HB := qbs_ hb; clear hb hbox hg; obtain ⟨z'18_0, z'18_1, z'18_2, z'18_3, z'18_4, z'18_5, z'18_6, z'18_7, z'18_8, z'18_9, z'18_10, z'18_11, z'18_12⟩ := a1u BK147; obtain ⟨y'18_0, y'18_1, y'18_2, y'18_3, y'18_4, y'18_5, y'18_6, y'18_7, y'18_8, y'18_9, y'18_10, y'18_11, y'18_12⟩ := a1v BK147; have p148 : 0 ≤ (a1 : Int) := ot_; have q148 : a1 < (l0_9.length : Int) := ot_; obtain ⟨ad148, e148, hx148_0, hx148_1, hx148_2⟩ := a2p HR0_9.out a1 p148 q148; cases e148; replace hx148_0 := qh_ HB hx148_0; replace hx148_1 := qh_ HB hx148_1; replace hx148_2 := qh_ HB hx148_2; replace p148 := eq_true p148; replace q148 := eq_true q148) | ((with_reducible refine a0f (N := 6) rfl ?_); refine qev_ 6 #[.int .i64 0, .int .i64 0, .int .i64 0] 43 ?_; intro gb149 hg w19 hbox hb; have BK149 := am_ (hbox); have GW149 := qga_ hg; have GE149 := qga_ hg; replace HB := qbs_ hb; have NB147_149 := am_ ((by rw [hg]; exact Nat.ne_of_lt (a0u (qk_ BK147)) : gb147 ≠ gb149)); have NB149_147 := am_ ((by rw [hg]; exact Nat.ne_of_gt (a0u (qk_ BK147)) : gb149 ≠ gb147)); replace BK147 := qkb_ BK147 hb; clear hb hbox hg; have hnb20 := NB149_147.out; have hnc20 := NB147_149.out; obtain ⟨z'21_0, z'21_1, z'21_2⟩ := qz3_ BK149; obtain ⟨y'21_0, y'21_1, y'21_2⟩ := qf3_ BK149; obtain ⟨z'22_0, z'22_1, z'22_2, z'22_3, z'22_4, z'22_5, z'22_6, z'22_7, z'22_8, z'22_9, z'22_10, z'22_11, z'22_12⟩ := a1u BK147; obtain ⟨y'22_0, y'22_1, y'22_2, y'22_3, y'22_4, y'22_5, y'22_6, y'22_7, y'22_8, y'22_9, y'22_10, y'22_11, y'22_12⟩ := a1v BK147) | ((with_reducible refine a0e (f := 72) rfl ?_); refine a0w (some 16) rfl rfl Try.func72 (by kernel_rfl) rfl #[.agg #[.int .i64 a0_0, .int .i64 a0_1, .int .i64 a0_2, .int .i64 a0_3, .bool a0_4, .int .i64 a0_5, .int .i64 a0_6, .int .i64 a0_7, .slice A0_8 l0_8.length c0_8, .slice (some ad148) l0_9.length c0_9, .slice A0_10 l0_10.length c0_10, .string a0_11, .slice A0_12 l0_12.length c0_12], .int .i64 ((a0a l0_9 a1).f0)] rfl ql_ ?_; (with_reducible refine (a3b.calls k a0_0 a0_1 a0_2 a0_3 a0_4 a0_5 a0_6 a0_7 _ _ l0_8 _ _ l0_9 _ _ l0_10 a0_11 _ _ l0_12 ((a0a l0_9 a1).f0) false _ ?s1 ?s2 ?s3 ?s4 ?s5 ?s6 ?s7 ?s8 A5.out).mono ?_); (case s1 => exact Kd.a1g HR0_8.out qb_); (case s2 => exact HC0_8.out); (case s3 => exact Kd.a1g HR0_9.out qb_); (case s4 => exact HC0_9.out); (case s5 => exact Kd.a1g HR0_10.out qb_); (case s6 => exact HC0_10.out); (case s7 => exact Kd.a1g HR0_12.out qb_); (case s8 => exact HC0_12.out); rintro e w23 ⟨rfl, hb⟩; refine ⟨_, rfl, ?_⟩; replace BK147 := am_ (a1o (g := gb147) (o := .cells #[.int .i64 a0_0, .int .i64 a0_1, .int .i64 a0_2, .int .i64 a0_3, .bool a0_4, .int .i64 a0_5, .int .i64 a0_6, .int .i64 a0_7, .slice A0_8 l0_8.length c0_8, .slice (some ad148) l0_9.length c0_9, .slice A0_10 l0_10.length c0_10, .string a0_11, .slice A0_12 l0_12.length c0_12] 62 (0, 0)) (by refine qd_ ?_; refine a0b ?_ NB147_149.out _; refine qd_ ?_; refine a0b ?_ NB147_149.out _; refine qd_ ?_; refine a0b ?_ NB147_149.out _; refine qd_ ?_; exact BK147.out) hb); replace BK149 := am_ (a1o (g := gb149) (o := .cells #[.int .i64 ((a0a l0_9 a1).f0), .int .i64 ((a0a l0_9 a1).f1), .int .i64 ((a0a l0_9 a1).f2)] 43 (0, 0)) (by refine qd_ ?_; refine a0d (cs := #[.int .i64 ((a0a l0_9 a1).f0), .int .i64 ((a0a l0_9 a1).f1), .int .i64 0]) ?_ 2 _ rfl; refine qd_ ?_; refine a0d (cs := #[.int .i64 ((a0a l0_9 a1).f0), .int .i64 0, .int .i64 0]) ?_ 1 _ rfl; refine qd_ ?_; refine a0d (cs := #[.int .i64 0, .int .i64 0, .int .i64 0]) ?_ 0 _ rfl; refine qd_ ?_; exact BK149.out) hb); replace HB := qbs_ hb; (try clear hb); (try clear hb2); (try clear hk); (try clear hi); obtain ⟨z'24_0, z'24_1, z'24_2, z'24_3, z'24_4, z'24_5, z'24_6, z'24_7, z'24_8, z'24_9, z'24_10, z'24_11, z'24_12⟩ := a1u BK147; obtain ⟨y'24_0, y'24_1, y'24_2, y'24_3, y'24_4, y'24_5, y'24_6, y'24_7, y'24_8, y'24_9, y'24_10, y'24_11, y'24_12⟩ := a1v BK147; obtain ⟨z'25_0, z'25_1, z'25_2⟩ := qz3_ BK149; obtain ⟨y'25_0, y'25_1, y'25_2⟩ := qf3_ BK149) | ((with_reducible refine a0e (f := 72) rfl ?_); refine a0w (some 21) rfl rfl Try.func72 (by kernel_rfl) rfl #[.agg #[.int .i64 a0_0, .int .i64 a0_1, .int .i64 a0_2, .int .i64 a0_3, .bool a0_4, .int .i64 a0_5, .int .i64 a0_6, .int .i64 a0_7, .slice A0_8 l0_8.length c0_8, .slice (some ad148) l0_9.length c0_9, .slice A0_10 l0_10.length c0_10, .string a0_11, .slice A0_12 l0_12.length c0_12], .int .i64 ((a0a l0_9 a1).f2)] rfl ql_ ?_; (with_reducible refine (a3b.calls k a0_0 a0_1 a0_2 a0_3 a0_4 a0_5 a0_6 a0_7 _ _ l0_8 _ _ l0_9 _ _ l0_10 a0_11 _ _ l0_12 ((a0a l0_9 a1).f2) true _ ?s1 ?s2 ?s3 ?s4 ?s5 ?s6 ?s7 ?s8 A14.out).mono ?_); (case s1 => exact qc_ HR0_8); (case s2 => exact HC0_8.out); (case s3 => exact qc_ HR0_9); (case s4 => exact HC0_9.out); (case s5 => exact qc_ HR0_10); (case s6 => exact HC0_10.out); (case s7 => exact qc_ HR0_12); (case s8 => exact HC0_12.out); rintro e w26 ⟨rfl, hb⟩; refine ⟨_, rfl, ?_⟩; replace BK147 := qkb_ BK147 hb; replace BK149 := qkb_ BK149 hb; replace HB := qbs_ hb; (try clear hb); (try clear hb2); (try clear hk); (try clear hi); obtain ⟨z'27_0, z'27_1, z'27_2, z'27_3, z'27_4, z'27_5, z'27_6, z'27_7, z'27_8, z'27_9, z'27_10, z'27_11, z'27_12⟩ := a1u BK147; obtain ⟨y'27_0, y'27_1, y'27_2, y'27_3, y'27_4, y'27_5, y'27_6, y'27_7, y'27_8, y'27_9, y'27_10, y'27_11, y'27_12⟩ := a1v BK147; obtain ⟨z'28_0, z'28_1, z'28_2⟩ := qz3_ BK149; obtain ⟨y'28_0, y'28_1, y'28_2⟩ := qf3_ BK149) | ((with_reducible refine a0e (f := 56) rfl ?_); refine a0w (some 25) rfl rfl Try.func56 (by kernel_rfl) rfl #[.agg #[.int .i64 a0_0, .int .i64 a0_1, .int .i64 a0_2, .int .i64 a0_3, .bool a0_4, .int .i64 a0_5, .int .i64 a0_6, .int .i64 a0_7, .slice A0_8 l0_8.length c0_8, .slice (some ad148) l0_9.length c0_9, .slice A0_10 l0_10.length c0_10, .string a0_11, .slice A0_12 l0_12.length c0_12], .int .i64 ((a0a l0_9 a1).f2)] rfl ql_ ?_; (with_reducible refine (a3c.calls k a0_0 a0_1 a0_2 a0_3 a0_4 a0_5 a0_6 a0_7 _ _ l0_8 _ _ l0_9 _ _ l0_10 a0_11 _ _ l0_12 ((a0a l0_9 a1).f2) t152 t153 _ ?s1 ?s2 ?s3 ?s4 ?s5 ?s6 ?s7 ?s8 A16.out).mono ?_); (case s1 => exact qc_ HR0_8); (case s2 => exact HC0_8.out); (case s3 => exact qc_ HR0_9); (case s4 => exact HC0_9.out); (case s5 => exact qc_ HR0_10); (case s6 => exact HC0_10.out); (case s7 => exact qc_ HR0_12); (case s8 => exact HC0_12.out); rintro e w29 ⟨rfl, hb⟩; refine ⟨_, rfl, ?_⟩; replace BK147 := qkb_ BK147 hb; replace BK149 := qkb_ BK149 hb; replace HB := qbs_ hb; (try clear hb); (try clear hb2); (try clear hk); (try clear hi)))
     go_ret2
     exact ⟨qx_, qb_⟩
    ·replace c15 := be_ c15
     subst c15
     have H1 : (some (0, false)) = some (r1, r2) := by rw [if_neg (show ¬ (false = true) by decide)] at H; exact H
     clear H
     have H := H1
     clear H1
     simp only [Option.some.injEq, Prod.mk.injEq] at H
     obtain ⟨rfl, rfl⟩ := H
     go_enter Try.func57, Try.ntmps57
     go_wp2_with (first | ((with_reducible refine a0f (N := 2) rfl ?_); refine qev_ 2 #[.int .i64 a0_0, .int .i64 a0_1, .int .i64 a0_2, .int .i64 a0_3, .bool a0_4, .int .i64 a0_5, .int .i64 a0_6, .int .i64 a0_7, .slice A0_8 l0_8.length c0_8, .slice A0_9 l0_9.length c0_9, .slice A0_10 l0_10.length c0_10, .string a0_11, .slice A0_12 l0_12.length c0_12] 62 ?_; intro gb147 hg w30 hbox hb; have BK147 := am_ (hbox); have GW147 := qga_ hg; have GE147 := qga_ hg; replace HB := qbs_ hb; clear hb hbox hg; obtain ⟨z'31_0, z'31_1, z'31_2, z'31_3, z'31_4, z'31_5, z'31_6, z'31_7, z'31_8, z'31_9, z'31_10, z'31_11, z'31_12⟩ := a1u BK147; obtain ⟨y'31_0, y'31_1, y'31_2, y'31_3, y'31_4, y'31_5, y'31_6, y'31_7, y'31_8, y'31_9, y'31_10, y'31_11, y'31_12⟩ := a1v BK147; have p148 : 0 ≤ (a1 : Int) := ot_; have q148 : a1 < (l0_9.length : Int) := ot_; obtain ⟨ad148, e148, hx148_0, hx148_1, hx148_2⟩ := a2p HR0_9.out a1 p148 q148; cases e148; replace hx148_0 := qh_ HB hx148_0; replace hx148_1 := qh_ HB hx148_1; replace hx148_2 := qh_ HB hx148_2; replace p148 := eq_true p148; replace q148 := eq_true q148) | ((with_reducible refine a0f (N := 6) rfl ?_); refine qev_ 6 #[.int .i64 0, .int .i64 0, .int .i64 0] 43 ?_; intro gb149 hg w32 hbox hb; have BK149 := am_ (hbox); have GW149 := qga_ hg; have GE149 := qga_ hg; replace HB := qbs_ hb; have NB147_149 := am_ ((by rw [hg]; exact Nat.ne_of_lt (a0u (qk_ BK147)) : gb147 ≠ gb149)); have NB149_147 := am_ ((by rw [hg]; exact Nat.ne_of_gt (a0u (qk_ BK147)) : gb149 ≠ gb147)); replace BK147 := qkb_ BK147 hb; clear hb hbox hg; have hnb33 := NB149_147.out; have hnc33 := NB147_149.out; obtain ⟨z'34_0, z'34_1, z'34_2⟩ := qz3_ BK149; obtain ⟨y'34_0, y'34_1, y'34_2⟩ := qf3_ BK149; obtain ⟨z'35_0, z'35_1, z'35_2, z'35_3, z'35_4, z'35_5, z'35_6, z'35_7, z'35_8, z'35_9, z'35_10, z'35_11, z'35_12⟩ := a1u BK147; obtain ⟨y'35_0, y'35_1, y'35_2, y'35_3, y'35_4, y'35_5, y'35_6, y'35_7, y'35_8, y'35_9, y'35_10, y'35_11, y'35_12⟩ := a1v BK147) | ((with_reducible refine a0e (f := 72) rfl ?_); refine a0w (some 16) rfl rfl Try.func72 (by kernel_rfl) rfl #[.agg #[.int .i64 a0_0, .int .i64 a0_1, .int .i64 a0_2, .int .i64 a0_3, .bool a0_4, .int .i64 a0_5, .int .i64 a0_6, .int .i64 a0_7, .slice A0_8 l0_8.length c0_8, .slice (some ad148) l0_9.length c0_9, .slice A0_10 l0_10.length c0_10, .string a0_11, .slice A0_12 l0_12.length c0_12], .int .i64 ((a0a l0_9 a1).f0)] rfl ql_ ?_; (with_reducible refine (a3b.calls k a0_0 a0_1 a0_2 a0_3 a0_4 a0_5 a0_6 a0_7 _ _ l0_8 _ _ l0_9 _ _ l0_10 a0_11 _ _ l0_12 ((a0a l0_9 a1).f0) false _ ?s1 ?s2 ?s3 ?s4 ?s5 ?s6 ?s7 ?s8 A5.out).mono ?_); (case s1 => exact Kd.a1g HR0_8.out qb_); (case s2 => exact HC0_8.out); (case s3 => exact Kd.a1g HR0_9.out qb_); (case s4 => exact HC0_9.out); (case s5 => exact Kd.a1g HR0_10.out qb_); (case s6 => exact HC0_10.out); (case s7 => exact Kd.a1g HR0_12.out qb_); (case s8 => exact HC0_12.out); rintro e w36 ⟨rfl, hb⟩; refine ⟨_, rfl, ?_⟩; replace BK147 := am_ (a1o (g := gb147) (o := .cells #[.int .i64 a0_0, .int .i64 a0_1, .int .i64 a0_2, .int .i64 a0_3, .bool a0_4, .int .i64 a0_5, .int .i64 a0_6, .int .i64 a0_7, .slice A0_8 l0_8.length c0_8, .slice (some ad148) l0_9.length c0_9, .slice A0_10 l0_10.length c0_10, .string a0_11, .slice A0_12 l0_12.length c0_12] 62 (0, 0)) (by refine qd_ ?_; refine a0b ?_ NB147_149.out _; refine qd_ ?_; refine a0b ?_ NB147_149.out _; refine qd_ ?_; refine a0b ?_ NB147_149.out _; refine qd_ ?_; exact BK147.out) hb); replace BK149 := am_ (a1o (g := gb149) (o := .cells #[.int .i64 ((a0a l0_9 a1).f0), .int .i64 ((a0a l0_9 a1).f1), .int .i64 ((a0a l0_9 a1).f2)] 43 (0, 0)) (by refine qd_ ?_; refine a0d (cs := #[.int .i64 ((a0a l0_9 a1).f0), .int .i64 ((a0a l0_9 a1).f1), .int .i64 0]) ?_ 2 _ rfl; refine qd_ ?_; refine a0d (cs := #[.int .i64 ((a0a l0_9 a1).f0), .int .i64 0, .int .i64 0]) ?_ 1 _ rfl; refine qd_ ?_; refine a0d (cs := #[.int .i64 0, .int .i64 0, .int .i64 0]) ?_ 0 _ rfl; refine qd_ ?_; exact BK149.out) hb); replace HB := qbs_ hb; (try clear hb); (try clear hb2); (try clear hk); (try clear hi); obtain ⟨z'37_0, z'37_1, z'37_2, z'37_3, z'37_4, z'37_5, z'37_6, z'37_7, z'37_8, z'37_9, z'37_10, z'37_11, z'37_12⟩ := a1u BK147; obtain ⟨y'37_0, y'37_1, y'37_2, y'37_3, y'37_4, y'37_5, y'37_6, y'37_7, y'37_8, y'37_9, y'37_10, y'37_11, y'37_12⟩ := a1v BK147; obtain ⟨z'38_0, z'38_1, z'38_2⟩ := qz3_ BK149; obtain ⟨y'38_0, y'38_1, y'38_2⟩ := qf3_ BK149) | ((with_reducible refine a0e (f := 72) rfl ?_); refine a0w (some 21) rfl rfl Try.func72 (by kernel_rfl) rfl #[.agg #[.int .i64 a0_0, .int .i64 a0_1, .int .i64 a0_2, .int .i64 a0_3, .bool a0_4, .int .i64 a0_5, .int .i64 a0_6, .int .i64 a0_7, .slice A0_8 l0_8.length c0_8, .slice (some ad148) l0_9.length c0_9, .slice A0_10 l0_10.length c0_10, .string a0_11, .slice A0_12 l0_12.length c0_12], .int .i64 ((a0a l0_9 a1).f2)] rfl ql_ ?_; (with_reducible refine (a3b.calls k a0_0 a0_1 a0_2 a0_3 a0_4 a0_5 a0_6 a0_7 _ _ l0_8 _ _ l0_9 _ _ l0_10 a0_11 _ _ l0_12 ((a0a l0_9 a1).f2) false _ ?s1 ?s2 ?s3 ?s4 ?s5 ?s6 ?s7 ?s8 A14.out).mono ?_); (case s1 => exact qc_ HR0_8); (case s2 => exact HC0_8.out); (case s3 => exact qc_ HR0_9); (case s4 => exact HC0_9.out); (case s5 => exact qc_ HR0_10); (case s6 => exact HC0_10.out); (case s7 => exact qc_ HR0_12); (case s8 => exact HC0_12.out); rintro e w39 ⟨rfl, hb⟩; refine ⟨_, rfl, ?_⟩; replace BK147 := qkb_ BK147 hb; replace BK149 := qkb_ BK149 hb; replace HB := qbs_ hb; (try clear hb); (try clear hb2); (try clear hk); (try clear hi)))
     go_ret2
     exact ⟨qx_, qb_⟩
  ·rw [if_neg c4] at H
   exact absurd H (by simp)
 ·rw [if_neg c3] at H
  exact absurd H (by simp)
def a0o.l0 : Nat → List Int → List (S43) → Int → Int → Int → Int → Int → Int → Bool → Int → Int → Int → List ByteArray → List (S43) → List Int → ByteArray → List Int → Option (List Int)
 | 0, _, _, _, _, _, _, _, _, _, _, _, _, _, _, _, _, _ => none
 | k + 1, x5, x17, x18, x19, u0, u1, u2, u3, u4, u5, u6, u7, u8, u9, u10, u11, u12 => if x19 < x18 then (if 0 ≤ x19 then (if x19 < (x17.length : Int) then ((Mhby.f k u0 u1 u2 u3 u4 u5 u6 u7 u8 u9 u10 u11 u12 x19).bind fun bt160 => (if bt160.2 = true then (if 0 ≤ bt160.1 then (if bt160.1 < (x5.length : Int) then ((a6f.f ((a0a x17 x19).f0) ((a0a x17 x19).f1) ((a0a x17 x19).f2)).bind fun t163 => (a0o.l0 k (x5.set (bt160.1 : Int).toNat (wrap64 ((rd x5 bt160.1) + t163))) x17 x18 (wrap64 (x19 + 1)) u0 u1 u2 u3 u4 u5 u6 u7 u8 u9 u10 u11 u12)) else (none)) else (none)) else (a0o.l0 k x5 x17 x18 (wrap64 (x19 + 1)) u0 u1 u2 u3 u4 u5 u6 u7 u8 u9 u10 u11 u12))) else (none)) else (none)) else (some x5)
def a0o.f (k : Nat) (a0_0 a0_1 a0_2 a0_3 : Int) (a0_4 : Bool) (a0_5 a0_6 a0_7 : Int) (l0_8 : List ByteArray) (l0_9 : List (S43)) (l0_10 : List Int) (a0_11 : ByteArray) (l0_12 : List Int)  : Option (List Int) := if 0 ≤ (l0_9.length : Int) then (if ((l0_9.length : Int) : Int).toNat ≤ 35184372088832 then (a0o.l0 k (List.replicate ((l0_9.length : Int) : Int).toNat 0) l0_9 (l0_9.length : Int) 0 a0_0 a0_1 a0_2 a0_3 a0_4 a0_5 a0_6 a0_7 l0_8 l0_9 l0_10 a0_11 l0_12) else (none)) else (none)
theorem a0o.a0t : ∀ k, (∀ y0 y1 y2 y3 y4 y5 y6 y7 y8 y9 y10 y11 y12 y13 y14 y15 y16, LeO (a0o.l0 k y0 y1 y2 y3 y4 y5 y6 y7 y8 y9 y10 y11 y12 y13 y14 y15 y16) (a0o.l0 (k + 1) y0 y1 y2 y3 y4 y5 y6 y7 y8 y9 y10 y11 y12 y13 y14 y15 y16))
 | 0 => fun _ _ _ _ _ _ _ _ _ _ _ _ _ _ _ _ _ r h => by simp [a0o.l0] at h
 | k + 1 => by
  have ih0 := a0o.a0t k
  ·intro y0 y1 y2 y3 y4 y5 y6 y7 y8 y9 y10 y11 y12 y13 y14 y15 y16
   unfold a0o.l0
   with_reducible (repeat' first | apply ih0 | apply Mhby.mono | apply LeO.refl | apply LeO.none | apply LeO.ite | refine LeO.bind ?_ (fun _ => ?_))
theorem a0o.mono : ∀ a0 a1 a2 a3 a4 a5 a6 a7 a8 a9 a10 a11 a12 k, LeO (a0o.f k a0 a1 a2 a3 a4 a5 a6 a7 a8 a9 a10 a11 a12) (a0o.f (k + 1) a0 a1 a2 a3 a4 a5 a6 a7 a8 a9 a10 a11 a12) := by
 intro a0 a1 a2 a3 a4 a5 a6 a7 a8 a9 a10 a11 a12 k
 have ih0 := a0o.a0t k
 unfold a0o.f
 with_reducible (repeat' first | apply ih0 | apply Mhby.mono | apply LeO.refl | apply LeO.none | apply LeO.ite | refine LeO.bind ?_ (fun _ => ?_))
def a0o.T7 : Bool × List (List Nat × List Nat) := (true, [([], []), ([], []), ([0, 1], [0, 1]), ([2], [2]), ([], []), ([], []), ([4, 5], [4, 5]), ([3, 6], [3, 6]), ([0, 1, 0, 1, 2, 3, 4, 5, 6, 7], [0, 1]), ([8, 7, 6, 0, 1, 2, 3, 4, 5, 6, 7], [7, 8])])
def a0o.B7 : List Nat := [0, 0, 3, 7, 0, 0, 48, 127, 255, 511]
theorem a0o.tab7 : rtab .any (opsOf Try.f32 7) = a0o.T7 := by kernel_rfl
theorem a0o.a9m : a4z a0o.T7.2 a0o.B7 = true := by kernel_rfl
set_option maxHeartbeats 8000000 in
set_option maxRecDepth 100000 in
theorem a0o.calls (k : Nat) (a0_0 a0_1 a0_2 a0_3 : Int) (a0_4 : Bool) (a0_5 a0_6 a0_7 : Int) (A0_8 : Option Addr) (c0_8 : Nat) (l0_8 : List ByteArray) (A0_9 : Option Addr) (c0_9 : Nat) (l0_9 : List (S43)) (A0_10 : Option Addr) (c0_10 : Nat) (l0_10 : List Int) (a0_11 : ByteArray) (A0_12 : Option Addr) (c0_12 : Nat) (l0_12 : List Int)  (r : List Int) (w : World) (hr0_8 : Kd.C Kd.string w A0_8 l0_8.length l0_8) (hc0_8 : l0_8.length ≤ c0_8) (hr0_9 : Kd.C k43 w A0_9 l0_9.length l0_9) (hc0_9 : l0_9.length ≤ c0_9) (hr0_10 : Kd.C (Kd.int .i64) w A0_10 l0_10.length l0_10) (hc0_10 : l0_10.length ≤ c0_10) (hr0_12 : Kd.C (Kd.int .i64) w A0_12 l0_12.length l0_12) (hc0_12 : l0_12.length ≤ c0_12) (h : a0o.f k a0_0 a0_1 a0_2 a0_3 a0_4 a0_5 a0_6 a0_7 l0_8 l0_9 l0_10 a0_11 l0_12 = some r) :
  Calls Try.prog 32 #[.agg #[.int .i64 a0_0, .int .i64 a0_1, .int .i64 a0_2, .int .i64 a0_3, .bool a0_4, .int .i64 a0_5, .int .i64 a0_6, .int .i64 a0_7, .slice A0_8 l0_8.length c0_8, .slice A0_9 l0_9.length c0_9, .slice A0_10 l0_10.length c0_10, .string a0_11, .slice A0_12 l0_12.length c0_12], .func (.func 34) #[] #[]] w fun e w' => ∃ v0_ : Value, e = .returned (v0_) ∧ Kd.R (Kd.int .i64) 3 w' w.heap.size (fun _ => True) v0_ r ∧ Below w.heap.size w w' := by
 have hu62 := Try.underlying62
 have hu43 := Try.underlying43
 have HR0_8 := am_ hr0_8
 have HC0_8 := am_ hc0_8
 clear hr0_8 hc0_8
 have HR0_9 := am_ hr0_9
 have HC0_9 := am_ hc0_9
 clear hr0_9 hc0_9
 have HR0_10 := am_ hr0_10
 have HC0_10 := am_ hc0_10
 clear hr0_10 hc0_10
 have HR0_12 := am_ hr0_12
 have HC0_12 := am_ hc0_12
 clear hr0_12 hc0_12
 have HB := am_ (Below.refl w.heap.size w)
 have H : (if 0 ≤ (l0_9.length : Int) then (if ((l0_9.length : Int) : Int).toNat ≤ 35184372088832 then (a0o.l0 k (List.replicate ((l0_9.length : Int) : Int).toNat 0) l0_9 (l0_9.length : Int) 0 a0_0 a0_1 a0_2 a0_3 a0_4 a0_5 a0_6 a0_7 l0_8 l0_9 l0_10 a0_11 l0_12) else (none)) else (none)) = some r := h
 clear h
 by_cases c3 : 0 ≤ (l0_9.length : Int)
 ·rw [if_pos c3] at H
  have c3b0 := eq_true c3
  have c3b1 : decide (0 ≤ (l0_9.length : Int)) = true := decide_eq_true c3
  clear c3
  by_cases c4 : ((l0_9.length : Int) : Int).toNat ≤ 35184372088832
  ·rw [if_pos c4] at H
   have c4b0 := eq_true c4
   have c4b1 : decide (((l0_9.length : Int) : Int).toNat ≤ 35184372088832) = true := decide_eq_true c4
   clear c4
   obtain ⟨y155, hy155⟩ : ∃ y_ : List Int, y_ = (List.replicate ((l0_9.length : Int) : Int).toNat 0) := ⟨_, rfl⟩
   replace H : (a0o.l0 k y155 l0_9 (l0_9.length : Int) 0 a0_0 a0_1 a0_2 a0_3 a0_4 a0_5 a0_6 a0_7 l0_8 l0_9 l0_10 a0_11 l0_12) = some r := by first | (rw [hy155]; with_reducible exact H) | (have H2_ := (Option.bind_some _ _).symm.trans H; rw [hy155]; with_reducible exact H2_) | (have H2_ := (Option.bind_some _ _).symm.trans H; with_reducible exact H2_) | with_reducible exact H | (rw [hy155]; exact H) | exact H
   have Ny155 := am_ hy155
   clear hy155
   have H' := am_ H
   clear H
   go_enter Try.func32, Try.ntmps32
   go_wp2_with (first | ((with_reducible refine a0f (N := 2) rfl ?_); refine qev_ 2 #[.int .i64 a0_0, .int .i64 a0_1, .int .i64 a0_2, .int .i64 a0_3, .bool a0_4, .int .i64 a0_5, .int .i64 a0_6, .int .i64 a0_7, .slice A0_8 l0_8.length c0_8, .slice A0_9 l0_9.length c0_9, .slice A0_10 l0_10.length c0_10, .string a0_11, .slice A0_12 l0_12.length c0_12] 62 ?_; intro gb154 hg w5 hbox hb; have BK154 := am_ (hbox); have GW154 := qga_ hg; have GE154 := qga_ hg; replace HB := qbs_ hb; clear hb hbox hg; obtain ⟨z'6_0, z'6_1, z'6_2, z'6_3, z'6_4, z'6_5, z'6_6, z'6_7, z'6_8, z'6_9, z'6_10, z'6_11, z'6_12⟩ := a1u BK154; obtain ⟨y'6_0, y'6_1, y'6_2, y'6_3, y'6_4, y'6_5, y'6_6, y'6_7, y'6_8, y'6_9, y'6_10, y'6_11, y'6_12⟩ := a1v BK154) | ((with_reducible refine a0f (N := 14) rfl ?_); refine Kd.b3v (Kd.int .i64) _ 3 rfl (N := 14) rfl 28 _ _ rfl (l0_9.length : Int) rfl rfl Try.underlying28 (.int .i64 0) 8 info3 rfl (by decide) (by omega) 0 (ok := fun _ => True) (okp := fun _ => True) rfl (fun _ hk => hk) trivial (ot_) (Nat.le_trans (Nat.mul_le_mul_right _ (ot_ : (l0_9.length : Int).toNat ≤ 35184372088832)) (by omega)) (Below.refl _ _) (Nat.le_refl _) ?_; intro v156 w7 ho8 hb hg_ hnew_; clear hg_ hnew_; (first | rw [← Ny155.out] at ho8 | (simp only [Int.reduceToNat] at ho8; rw [← Ny155.out] at ho8)); have HO157 := am_ (Kd.a2d ho8 (a0x qb_)); replace BK154 := qkb_ BK154 hb; replace HB := qbs_ hb; clear hb ho8; obtain ⟨z'9_0, z'9_1, z'9_2, z'9_3, z'9_4, z'9_5, z'9_6, z'9_7, z'9_8, z'9_9, z'9_10, z'9_11, z'9_12⟩ := a1u BK154; obtain ⟨y'9_0, y'9_1, y'9_2, y'9_3, y'9_4, y'9_5, y'9_6, y'9_7, y'9_8, y'9_9, y'9_10, y'9_11, y'9_12⟩ := a1v BK154))
   go_loopg [19] k (fun kq v19 w' => ∃ (x5_1 : List Int) (x19_1 : Int), v19 = .int .i64 x19_1 ∧ Aside0 (a0o.l0 kq x5_1 l0_9 (l0_9.length : Int) x19_1 a0_0 a0_1 a0_2 a0_3 a0_4 a0_5 a0_6 a0_7 l0_8 l0_9 l0_10 a0_11 l0_12 = some r) ∧ Aside0 (kq ≤ k) ∧ Aside0 (Kd.R (Kd.int .i64) 3 w' w.heap.size (fun _ => True) v156 x5_1) ∧ Aside0 (w'.heap[gb154]? = some (.cells #[.int .i64 a0_0, .int .i64 a0_1, .int .i64 a0_2, .int .i64 a0_3, .bool a0_4, .int .i64 a0_5, .int .i64 a0_6, .int .i64 a0_7, (.slice A0_8 l0_8.length c0_8), (.slice A0_9 l0_9.length c0_9), (.slice A0_10 l0_10.length c0_10), .string a0_11, (.slice A0_12 l0_12.length c0_12)] 62 (0, 0))) ∧ Aside0 (Below w.heap.size w w'))
   case atStart => exact ⟨(y155), (0), qs_, H', ⟨Nat.le_refl _⟩, ⟨by (with_reducible repeat (first | apply Kd.a1e | apply Kd.a1f | apply Kd.a0y)); exact HO157.out⟩, ⟨qk_ BK154⟩, ⟨qb_⟩⟩
   case round =>
    clear H'
    try clear p2
    try clear c3
    try clear c3b0
    try clear c3b1
    try clear c4
    try clear c4b0
    try clear c4b1
    try clear c9
    try clear z'6_0 z'6_1 z'6_10 z'6_11 z'6_12 z'6_2 z'6_3 z'6_4 z'6_5 z'6_6 z'6_7 z'6_8 z'6_9
    try clear z'9_0 z'9_1 z'9_10 z'9_11 z'9_12 z'9_2 z'9_3 z'9_4 z'9_5 z'9_6 z'9_7 z'9_8 z'9_9
    try clear y'6_0 y'6_1 y'6_10 y'6_11 y'6_12 y'6_2 y'6_3 y'6_4 y'6_5 y'6_6 y'6_7 y'6_8 y'6_9
    try clear y'9_0 y'9_1 y'9_10 y'9_11 y'9_12 y'9_2 y'9_3 y'9_4 y'9_5 y'9_6 y'9_7 y'9_8 y'9_9
    obtain ⟨x5_1, x19_1, rfl, HA, HK1, HO_5, BK154, HB⟩ := hrel
    cases gk with
    | zero => exact absurd HA.out (by simp [a0o.l0])
    | succ k1 =>
     have H := HA.out
     clear HA
     simp only [a0o.l0] at H
     by_cases c10 : x19_1 < (l0_9.length : Int)
     ·rw [if_pos c10] at H
      have c10b0 : decide (x19_1 < (l0_9.length : Int)) = true := decide_eq_true c10
      clear c10
      by_cases c11 : 0 ≤ x19_1
      ·rw [if_pos c11] at H
       have c11b0 : decide (0 ≤ x19_1) = true := decide_eq_true c11
       clear c11
       by_cases c12 : x19_1 < (l0_9.length : Int)
       ·rw [if_pos c12] at H
        have c12b0 : decide (x19_1 < (l0_9.length : Int)) = true := decide_eq_true c12
        clear c12
        replace H := bm_ H
        obtain ⟨⟨t160, t161⟩, A130, H⟩ := H
        replace H : (if t161 = true then (if 0 ≤ t160 then (if t160 < (x5_1.length : Int) then ((a6f.f ((a0a l0_9 x19_1).f0) ((a0a l0_9 x19_1).f1) ((a0a l0_9 x19_1).f2)).bind fun t163 => (a0o.l0 k1 (x5_1.set (t160 : Int).toNat (wrap64 ((rd x5_1 t160) + t163))) l0_9 (l0_9.length : Int) (wrap64 (x19_1 + 1)) a0_0 a0_1 a0_2 a0_3 a0_4 a0_5 a0_6 a0_7 l0_8 l0_9 l0_10 a0_11 l0_12)) else (none)) else (none)) else (a0o.l0 k1 x5_1 l0_9 (l0_9.length : Int) (wrap64 (x19_1 + 1)) a0_0 a0_1 a0_2 a0_3 a0_4 a0_5 a0_6 a0_7 l0_8 l0_9 l0_10 a0_11 l0_12)) = some r := H
        have A13 := am_ A130
        clear A130
        by_cases c14 : t161 = true
        ·subst c14
         have H1 : (if 0 ≤ t160 then (if t160 < (x5_1.length : Int) then ((a6f.f ((a0a l0_9 x19_1).f0) ((a0a l0_9 x19_1).f1) ((a0a l0_9 x19_1).f2)).bind fun t163 => (a0o.l0 k1 (x5_1.set (t160 : Int).toNat (wrap64 ((rd x5_1 t160) + t163))) l0_9 (l0_9.length : Int) (wrap64 (x19_1 + 1)) a0_0 a0_1 a0_2 a0_3 a0_4 a0_5 a0_6 a0_7 l0_8 l0_9 l0_10 a0_11 l0_12)) else (none)) else (none)) = some r := by rw [if_pos rfl] at H; exact H
         clear H
         have H := H1
         clear H1
         by_cases c15 : 0 ≤ t160
         ·rw [if_pos c15] at H
          have c15b0 : decide (0 ≤ t160) = true := decide_eq_true c15
          clear c15
          by_cases c16 : t160 < (x5_1.length : Int)
          ·rw [if_pos c16] at H
           have c16b0 : decide (t160 < (x5_1.length : Int)) = true := decide_eq_true c16
           clear c16
           replace H := bm_ H
           obtain ⟨t163, A170, H⟩ := H
           replace H : (a0o.l0 k1 (x5_1.set (t160 : Int).toNat (wrap64 ((rd x5_1 t160) + t163))) l0_9 (l0_9.length : Int) (wrap64 (x19_1 + 1)) a0_0 a0_1 a0_2 a0_3 a0_4 a0_5 a0_6 a0_7 l0_8 l0_9 l0_10 a0_11 l0_12) = some r := H
           have A17 := am_ A170
           clear A170
           obtain ⟨y164, hy164⟩ : ∃ y_ : List Int, y_ = (x5_1.set (t160 : Int).toNat (wrap64 ((rd x5_1 t160) + t163))) := ⟨_, rfl⟩
           replace H : (a0o.l0 k1 y164 l0_9 (l0_9.length : Int) (wrap64 (x19_1 + 1)) a0_0 a0_1 a0_2 a0_3 a0_4 a0_5 a0_6 a0_7 l0_8 l0_9 l0_10 a0_11 l0_12) = some r := by first | (rw [hy164]; with_reducible exact H) | (have H2_ := (Option.bind_some _ _).symm.trans H; rw [hy164]; with_reducible exact H2_) | (have H2_ := (Option.bind_some _ _).symm.trans H; with_reducible exact H2_) | with_reducible exact H | (rw [hy164]; exact H) | exact H
           have Ny164 := am_ hy164
           clear hy164
           have H' := am_ H
           clear H
           have p158 : 0 ≤ (x19_1 : Int) := ot_
           have q158 : x19_1 < (l0_9.length : Int) := ot_
           obtain ⟨ad158, e158, hx158_0, hx158_1, hx158_2⟩ := a2p HR0_9.out x19_1 p158 q158
           cases e158
           replace hx158_0 := qh_ HB hx158_0
           replace hx158_1 := qh_ HB hx158_1
           replace hx158_2 := qh_ HB hx158_2
           replace p158 := eq_true p158
           replace q158 := eq_true q158
           try go_wp2_with (first | ((with_reducible refine a0f (N := 7) rfl ?_); refine qev_ 7 #[.int .i64 0, .int .i64 0, .int .i64 0] 43 ?_; intro gb159 hg w19 hbox hb; replace HO_5 := qrb_ HO_5 hb; have BK159 := am_ (hbox); have GW159 := qga_ hg; have GE159 := qga_ hg; replace HB := qbs_ hb; have NB154_159 := am_ ((by rw [hg]; exact Nat.ne_of_lt (a0u (qk_ BK154)) : gb154 ≠ gb159)); have NB159_154 := am_ ((by rw [hg]; exact Nat.ne_of_gt (a0u (qk_ BK154)) : gb159 ≠ gb154)); replace BK154 := qkb_ BK154 hb; clear hb hbox hg; have hnb20 := NB159_154.out; have hnc20 := NB154_159.out; obtain ⟨z'21_0, z'21_1, z'21_2⟩ := qz3_ BK159; obtain ⟨y'21_0, y'21_1, y'21_2⟩ := qf3_ BK159; obtain ⟨z'22_0, z'22_1, z'22_2, z'22_3, z'22_4, z'22_5, z'22_6, z'22_7, z'22_8, z'22_9, z'22_10, z'22_11, z'22_12⟩ := a1u BK154; obtain ⟨y'22_0, y'22_1, y'22_2, y'22_3, y'22_4, y'22_5, y'22_6, y'22_7, y'22_8, y'22_9, y'22_10, y'22_11, y'22_12⟩ := a1v BK154) | ((with_reducible refine a0e (f := 57) rfl ?_); refine a0w (some 27) rfl rfl Try.func57 (by kernel_rfl) rfl #[.agg #[.int .i64 a0_0, .int .i64 a0_1, .int .i64 a0_2, .int .i64 a0_3, .bool a0_4, .int .i64 a0_5, .int .i64 a0_6, .int .i64 a0_7, .slice A0_8 l0_8.length c0_8, .slice (some ad158) l0_9.length c0_9, .slice A0_10 l0_10.length c0_10, .string a0_11, .slice A0_12 l0_12.length c0_12], .int .i64 x19_1] rfl ql_ ?_; (with_reducible refine (Mhby.calls k1 a0_0 a0_1 a0_2 a0_3 a0_4 a0_5 a0_6 a0_7 _ _ l0_8 _ _ l0_9 _ _ l0_10 a0_11 _ _ l0_12 x19_1 t160 true _ ?s1 ?s2 ?s3 ?s4 ?s5 ?s6 ?s7 ?s8 A13.out).mono ?_); (case s1 => exact Kd.a1g HR0_8.out qb_); (case s2 => exact HC0_8.out); (case s3 => exact Kd.a1g HR0_9.out qb_); (case s4 => exact HC0_9.out); (case s5 => exact Kd.a1g HR0_10.out qb_); (case s6 => exact HC0_10.out); (case s7 => exact Kd.a1g HR0_12.out qb_); (case s8 => exact HC0_12.out); rintro e w23 ⟨rfl, hb⟩; refine ⟨_, rfl, ?_⟩; replace HO_5 := am_ (Kd.a3m (by (with_reducible repeat (first | apply Kd.a1e | apply Kd.a1f | apply Kd.a0y)); exact (Kd.a2w (Kd.a1c (p := ⟨gb159, 2, none⟩) (Kd.a1c (p := ⟨gb159, 1, none⟩) (Kd.a1c (p := ⟨gb159, 0, none⟩) (Kd.a3d HO_5.out BK159.out (by decide)) (fun _ hk => hk.2) (.int .i64 ((a0a l0_9 x19_1).f0))) (fun _ hk => hk.2) (.int .i64 ((a0a l0_9 x19_1).f1))) (fun _ hk => hk.2) (.int .i64 ((a0a l0_9 x19_1).f2))) (fun _ h_ => h_.1))) hb); replace BK154 := am_ (a1o (g := gb154) (o := .cells #[.int .i64 a0_0, .int .i64 a0_1, .int .i64 a0_2, .int .i64 a0_3, .bool a0_4, .int .i64 a0_5, .int .i64 a0_6, .int .i64 a0_7, .slice A0_8 l0_8.length c0_8, .slice (some ad158) l0_9.length c0_9, .slice A0_10 l0_10.length c0_10, .string a0_11, .slice A0_12 l0_12.length c0_12] 62 (0, 0)) (by refine qd_ ?_; refine a0b ?_ NB154_159.out _; refine qd_ ?_; refine a0b ?_ NB154_159.out _; refine qd_ ?_; refine a0b ?_ NB154_159.out _; refine qd_ ?_; exact BK154.out) hb); replace BK159 := am_ (a1o (g := gb159) (o := .cells #[.int .i64 ((a0a l0_9 x19_1).f0), .int .i64 ((a0a l0_9 x19_1).f1), .int .i64 ((a0a l0_9 x19_1).f2)] 43 (0, 0)) (by refine qd_ ?_; refine a0d (cs := #[.int .i64 ((a0a l0_9 x19_1).f0), .int .i64 ((a0a l0_9 x19_1).f1), .int .i64 0]) ?_ 2 _ rfl; refine qd_ ?_; refine a0d (cs := #[.int .i64 ((a0a l0_9 x19_1).f0), .int .i64 0, .int .i64 0]) ?_ 1 _ rfl; refine qd_ ?_; refine a0d (cs := #[.int .i64 0, .int .i64 0, .int .i64 0]) ?_ 0 _ rfl; refine qd_ ?_; exact BK159.out) hb); replace HB := qbs_ hb; (try clear hb); (try clear hb2); (try clear hk); (try clear hi)))
           replace HO_5 := am_ (Kd.a0y HO_5.out)
           replace BK154 := am_ (bd_ BK154.out)
           replace BK159 := am_ (bd_ BK159.out)
           replace HB := am_ (ld_ HB.out)
           obtain ⟨Ao25, co25, eo25⟩ := Kd.a1p HO_5.out
           (first | subst eo25 | (injection eo25 with f1_ f2_ f3_; have f4_ := f1_.symm; have f5_ := f3_.symm; clear f1_ f2_ f3_; subst f4_; subst f5_))
           have p162 : 0 ≤ (t160 : Int) := ot_
           have q162 : t160 < (x5_1.length : Int) := ot_
           obtain ⟨ad162, e162, hx162_0⟩ := Kd.a2o (Kd.a0q HO_5.out).2.2 t160 p162 q162
           cases e162
           replace p162 := eq_true p162
           replace q162 := eq_true q162
           refine a5m (n := 10) (S := fun w' => w'.cell? ⟨gb159, 0, none⟩ = some (.int .i64 ((a0a l0_9 x19_1).f0)) ∧ w'.cell? ⟨gb159, 1, none⟩ = some (.int .i64 ((a0a l0_9 x19_1).f1)) ∧ w'.cell? ⟨gb159, 2, none⟩ = some (.int .i64 ((a0a l0_9 x19_1).f2)) ∧ w'.cell? (ad162.add (t160).toNat) = some (.int .i64 (rd x5_1 t160))) (ds := [9]) #[i_,i_,i_,i_,i_,i_,i_,i_,i_,i_] (by kernel_rfl) rfl rfl ⟨(bc_ BK159.out 0).trans rfl, (bc_ BK159.out 1).trans rfl, (bc_ BK159.out 2).trans rfl, hx162_0⟩ (fun hHeld => ?_); refine a4g a0o.tab7 a0o.a9m (fun HT_ HW_ => ?_)
           generalize w23.drew = w24 at HO_5 BK154 BK159 HB hx162_0 hHeld ⊢
           refine qpu_ 0 (some 31) #[o_,i_,i_,i_,i_,i_,i_,i_,i_,i_] ?_
           refine qpu_ 1 (some 32) #[o_,o_,i_,i_,i_,i_,i_,i_,i_,i_] ?_
           refine qpu_ 2 (some 33) #[o_,o_,o_,i_,i_,i_,i_,i_,i_,i_] ?_
           refine qpu_ 4 (some 35) #[o_,o_,o_,i_,o_,i_,i_,i_,i_,i_] ?_
           refine a3r (i := 3) (N := some 34) (v := ?_) (a' := ?_) #[o_,o_,o_,o_,o_,i_,i_,i_,i_,i_] rfl rfl (a2v HT_.out HW_.out (by kernel_rfl)) (fun _ _ _ h => h) (Or.inl ⟨by rfl, ?_⟩) hHeld ?_ ?_
           rotate_left
           ·rintro w' ⟨s0, s1, s2, s3⟩
            go_simp
            with_reducible rfl
           rotate_left
           ·exact qp_
           refine a3r (i := 5) (N := some 36) (v := ?_) (a' := ?_) #[o_,o_,o_,o_,o_,o_,i_,i_,i_,i_] rfl rfl (a2v HT_.out HW_.out (by kernel_rfl)) (fun _ _ _ h => h) (Or.inl ⟨by rfl, ?_⟩) hHeld ?_ ?_
           rotate_left
           ·rintro w' ⟨s0, s1, s2, s3⟩
            go_simp
            with_reducible rfl
           rotate_left
           ·exact qp_
           refine one_ (i := 6) (N := some 37) #[o_,o_,o_,o_,o_,o_,o_,i_,i_,i_] rfl rfl (a4c HT_.out (by kernel_rfl)) (by decide) (fun K hK => ?_)
           refine b4d Try.func34 (by kernel_rfl) rfl #[.agg #[.int .i64 ((a0a l0_9 x19_1).f0), .int .i64 ((a0a l0_9 x19_1).f1), .int .i64 ((a0a l0_9 x19_1).f2)]] (by rfl) rfl rfl (by rfl) ql_ ?_
           with_reducible refine (a6f.calls ((a0a l0_9 x19_1).f0) ((a0a l0_9 x19_1).f1) ((a0a l0_9 x19_1).f2) t163 _ A17.out).mono ?_
           rintro e w26 ⟨rfl, hb⟩
           have HS3_ := (hb.cell (World.block_lt_of_cell? _ _ (hHeld.2.2.2))).trans (hHeld.2.2.2)
           refine ⟨_, rfl, ?_⟩
           replace HO_5 := qrb_ HO_5 hb
           replace BK154 := qkb_ BK154 hb
           replace BK159 := qkb_ BK159 hb
           replace HB := qbs_ hb
           (try clear hb)
           (try clear hb2)
           (try clear hk)
           (try clear hi)
           have p18 : 0 ≤ (t160 : Int) := ot_
           have q18 : (t160 : Int) < ((x5_1.length : Int) : Int) := ot_
           obtain ⟨go18, co18, eo18, gb18, gl18, cl18, HG18⟩ := Kd.b3t HO_5.out (by omega)
           (first | cases eo18 | (injection eo18 with ea_ en_ ec_; (first | subst ea_ | (injection ea_ with ea_; subst ea_)); subst ec_; clear en_))
           have GB18 := am_ gb18
           have GG18 := am_ HG18
           clear gb18 gl18 HG18
           (first | simp only [add_plain] at hx162_0 | skip)
           obtain ⟨hx18_0, hf18_0⟩ := Kd.b2s 0 HO_5.out (t160 : Int) p18 q18
           replace p18 := eq_true p18
           replace q18 := eq_true q18
           have HP27 := Kd.b3y HO_5.out (t160 : Int) (wrap64 ((rd x5_1 t160) + t163))
           rw [← Ny164.out] at HP27
           have HQ27 := am_ HP27
           clear HP27
           refine hK.out _ _ ⟨(bc_ BK159.out 0).trans rfl, (bc_ BK159.out 1).trans rfl, (bc_ BK159.out 2).trans rfl, HS3_⟩ (fun hHeld => ?_)
           clear hK K
           refine a4s (a' := ?_) ?_ ?_
           rotate_left
           ·show Act.put _ (some 37) _ = _
            exact qp_
           refine qpu_ 7 (some 38) #[o_,o_,o_,o_,o_,o_,o_,o_,i_,i_] ?_
           refine qpu_ 8 (some 39) #[o_,o_,o_,o_,o_,o_,o_,o_,o_,i_] ?_
           refine b6a (i := 9) (N := none) #[o_,o_,o_,o_,o_,o_,o_,o_,o_,o_] rfl rfl (a4c HT_.out (by kernel_rfl)) (by decide) (fun K hK => ?_)
           refine b6b (w1 := ?_) (by rfl) rfl ?_ ?_
           rotate_left
           ·go_simp
            rfl
           refine hK.out _ _ ?_
           clear hK K
           refine a5z (a4y HT_.out (by kernel_rfl)) ?_
           try go_wp2
           go_roundg k1
           case measure => have := HK1.out; omega
           case rel => exact ⟨(y164), (wrap64 (x19_1 + 1)), qs_, H', ⟨by have := HK1.out; omega⟩, ⟨by (with_reducible repeat (first | apply Kd.a1e | apply Kd.a1f | apply Kd.a0y)); exact HQ27.out⟩, ⟨by refine qd_ ?_; refine a0b ?_ (by have h_ := Kd.R_ne HO_5.out BK154.out (by decide); intro e_; exact h_ (by rw [e_]; rfl)) _; refine qd_ ?_; exact BK154.out⟩, ⟨by repeat (first | (with_reducible first | exact HB.out | apply la_ | apply ln_ | apply ld_ | refine ls_ ?_ GB18.out | refine ls_ ?_ GE154.out | refine ls_ ?_ GE159.out) | exact HB.out)⟩⟩
          ·rw [if_neg c16] at H
           exact absurd H (by simp)
         ·rw [if_neg c15] at H
          exact absurd H (by simp)
        ·replace c14 := be_ c14
         subst c14
         have H1 : (a0o.l0 k1 x5_1 l0_9 (l0_9.length : Int) (wrap64 (x19_1 + 1)) a0_0 a0_1 a0_2 a0_3 a0_4 a0_5 a0_6 a0_7 l0_8 l0_9 l0_10 a0_11 l0_12) = some r := by rw [if_neg (show ¬ (false = true) by decide)] at H; exact H
         clear H
         have H := H1
         clear H1
         have H' := am_ H
         clear H
         have p158 : 0 ≤ (x19_1 : Int) := ot_
         have q158 : x19_1 < (l0_9.length : Int) := ot_
         obtain ⟨ad158, e158, hx158_0, hx158_1, hx158_2⟩ := a2p HR0_9.out x19_1 p158 q158
         cases e158
         replace hx158_0 := qh_ HB hx158_0
         replace hx158_1 := qh_ HB hx158_1
         replace hx158_2 := qh_ HB hx158_2
         replace p158 := eq_true p158
         replace q158 := eq_true q158
         go_wp2_with (first | ((with_reducible refine a0f (N := 7) rfl ?_); refine qev_ 7 #[.int .i64 0, .int .i64 0, .int .i64 0] 43 ?_; intro gb159 hg w28 hbox hb; replace HO_5 := qrb_ HO_5 hb; have BK159 := am_ (hbox); have GW159 := qga_ hg; have GE159 := qga_ hg; replace HB := qbs_ hb; have NB154_159 := am_ ((by rw [hg]; exact Nat.ne_of_lt (a0u (qk_ BK154)) : gb154 ≠ gb159)); have NB159_154 := am_ ((by rw [hg]; exact Nat.ne_of_gt (a0u (qk_ BK154)) : gb159 ≠ gb154)); replace BK154 := qkb_ BK154 hb; clear hb hbox hg; have hnb29 := NB159_154.out; have hnc29 := NB154_159.out; obtain ⟨z'30_0, z'30_1, z'30_2⟩ := qz3_ BK159; obtain ⟨y'30_0, y'30_1, y'30_2⟩ := qf3_ BK159; obtain ⟨z'31_0, z'31_1, z'31_2, z'31_3, z'31_4, z'31_5, z'31_6, z'31_7, z'31_8, z'31_9, z'31_10, z'31_11, z'31_12⟩ := a1u BK154; obtain ⟨y'31_0, y'31_1, y'31_2, y'31_3, y'31_4, y'31_5, y'31_6, y'31_7, y'31_8, y'31_9, y'31_10, y'31_11, y'31_12⟩ := a1v BK154) | ((with_reducible refine a0e (f := 57) rfl ?_); refine a0w (some 27) rfl rfl Try.func57 (by kernel_rfl) rfl #[.agg #[.int .i64 a0_0, .int .i64 a0_1, .int .i64 a0_2, .int .i64 a0_3, .bool a0_4, .int .i64 a0_5, .int .i64 a0_6, .int .i64 a0_7, .slice A0_8 l0_8.length c0_8, .slice (some ad158) l0_9.length c0_9, .slice A0_10 l0_10.length c0_10, .string a0_11, .slice A0_12 l0_12.length c0_12], .int .i64 x19_1] rfl ql_ ?_; (with_reducible refine (Mhby.calls k1 a0_0 a0_1 a0_2 a0_3 a0_4 a0_5 a0_6 a0_7 _ _ l0_8 _ _ l0_9 _ _ l0_10 a0_11 _ _ l0_12 x19_1 t160 false _ ?s1 ?s2 ?s3 ?s4 ?s5 ?s6 ?s7 ?s8 A13.out).mono ?_); (case s1 => exact Kd.a1g HR0_8.out qb_); (case s2 => exact HC0_8.out); (case s3 => exact Kd.a1g HR0_9.out qb_); (case s4 => exact HC0_9.out); (case s5 => exact Kd.a1g HR0_10.out qb_); (case s6 => exact HC0_10.out); (case s7 => exact Kd.a1g HR0_12.out qb_); (case s8 => exact HC0_12.out); rintro e w32 ⟨rfl, hb⟩; refine ⟨_, rfl, ?_⟩; replace HO_5 := am_ (Kd.a3m (by (with_reducible repeat (first | apply Kd.a1e | apply Kd.a1f | apply Kd.a0y)); exact (Kd.a2w (Kd.a1c (p := ⟨gb159, 2, none⟩) (Kd.a1c (p := ⟨gb159, 1, none⟩) (Kd.a1c (p := ⟨gb159, 0, none⟩) (Kd.a3d HO_5.out BK159.out (by decide)) (fun _ hk => hk.2) (.int .i64 ((a0a l0_9 x19_1).f0))) (fun _ hk => hk.2) (.int .i64 ((a0a l0_9 x19_1).f1))) (fun _ hk => hk.2) (.int .i64 ((a0a l0_9 x19_1).f2))) (fun _ h_ => h_.1))) hb); replace BK154 := am_ (a1o (g := gb154) (o := .cells #[.int .i64 a0_0, .int .i64 a0_1, .int .i64 a0_2, .int .i64 a0_3, .bool a0_4, .int .i64 a0_5, .int .i64 a0_6, .int .i64 a0_7, .slice A0_8 l0_8.length c0_8, .slice (some ad158) l0_9.length c0_9, .slice A0_10 l0_10.length c0_10, .string a0_11, .slice A0_12 l0_12.length c0_12] 62 (0, 0)) (by refine qd_ ?_; refine a0b ?_ NB154_159.out _; refine qd_ ?_; refine a0b ?_ NB154_159.out _; refine qd_ ?_; refine a0b ?_ NB154_159.out _; refine qd_ ?_; exact BK154.out) hb); replace BK159 := am_ (a1o (g := gb159) (o := .cells #[.int .i64 ((a0a l0_9 x19_1).f0), .int .i64 ((a0a l0_9 x19_1).f1), .int .i64 ((a0a l0_9 x19_1).f2)] 43 (0, 0)) (by refine qd_ ?_; refine a0d (cs := #[.int .i64 ((a0a l0_9 x19_1).f0), .int .i64 ((a0a l0_9 x19_1).f1), .int .i64 0]) ?_ 2 _ rfl; refine qd_ ?_; refine a0d (cs := #[.int .i64 ((a0a l0_9 x19_1).f0), .int .i64 0, .int .i64 0]) ?_ 1 _ rfl; refine qd_ ?_; refine a0d (cs := #[.int .i64 0, .int .i64 0, .int .i64 0]) ?_ 0 _ rfl; refine qd_ ?_; exact BK159.out) hb); replace HB := qbs_ hb; (try clear hb); (try clear hb2); (try clear hk); (try clear hi)))
         go_roundg k1
         case measure => have := HK1.out; omega
         case rel => exact ⟨(x5_1), (wrap64 (x19_1 + 1)), qs_, H', ⟨by have := HK1.out; omega⟩, ⟨by (with_reducible repeat (first | apply Kd.a1e | apply Kd.a1f | apply Kd.a0y)); exact HO_5.out⟩, ⟨qk_ BK154⟩, ⟨qb_⟩⟩
       ·rw [if_neg c12] at H
        exact absurd H (by simp)
      ·rw [if_neg c11] at H
       exact absurd H (by simp)
     ·rw [if_neg c10] at H
      have c10b0 : decide (x19_1 < (l0_9.length : Int)) = false := decide_eq_false c10
      clear c10
      obtain rfl := si_ H
      go_wp2
      go_ret
      exact ⟨_, qx_, by (with_reducible repeat (first | apply Kd.a1e | apply Kd.a1f | apply Kd.a0y)); exact HO_5.out, qb_⟩
  ·rw [if_neg c4] at H
   exact absurd H (by simp)
 ·rw [if_neg c3] at H
  exact absurd H (by simp)
def a3v.l0 : Nat → Int → List Int → Int → Int → Option (Int)
 | 0, _, _, _, _ => none
 | k + 1, x3, x6, x7, x8 => if x8 < x7 then (if 0 ≤ x8 then (if x8 < (x6.length : Int) then (a3v.l0 k (wrap64 (x3 + (rd x6 x8))) x6 x7 (wrap64 (x8 + 1))) else (none)) else (none)) else (some x3)
def a3v.f (k : Nat) (l0 : List Int) : Option (Int) := a3v.l0 k 0 l0 (l0.length : Int) 0
theorem a3v.a0t : ∀ k, (∀ y0 y1 y2 y3, LeO (a3v.l0 k y0 y1 y2 y3) (a3v.l0 (k + 1) y0 y1 y2 y3))
 | 0 => fun _ _ _ _ r h => by simp [a3v.l0] at h
 | k + 1 => by
  have ih0 := a3v.a0t k
  ·intro y0 y1 y2 y3
   unfold a3v.l0
   with_reducible (repeat' first | apply ih0 | apply LeO.refl | apply LeO.none | apply LeO.ite | refine LeO.bind ?_ (fun _ => ?_))
theorem a3v.mono : ∀ a0 k, LeO (a3v.f k a0) (a3v.f (k + 1) a0) := by
 intro a0 k
 have ih0 := a3v.a0t k
 unfold a3v.f
 with_reducible (repeat' first | apply ih0 | apply LeO.refl | apply LeO.none | apply LeO.ite | refine LeO.bind ?_ (fun _ => ?_))
set_option maxHeartbeats 8000000 in
set_option maxRecDepth 100000 in
theorem a3v.calls (k : Nat) (A0 : Option Addr) (c0 : Nat) (l0 : List Int) (r : Int) (w : World) (hr0 : Kd.C (Kd.int .i64) w A0 l0.length l0) (hc0 : l0.length ≤ c0) (h : a3v.f k l0 = some r) :
  Calls Try.prog 63 #[.slice A0 l0.length c0] w fun e w' => e = .returned (.int .i64 r) ∧ a1j w w' := by
 have HR0 := am_ hr0
 have HC0 := am_ hc0
 clear hr0 hc0
 have H : (a3v.l0 k 0 l0 (l0.length : Int) 0) = some r := h
 clear h
 have H' := am_ H
 clear H
 go_enter Try.func63, Try.ntmps63
 go_wp2
 go_loopg [3, 8] k (fun kq v3 v8 w' => ∃ (x3_1 : Int) (x8_1 : Int), v3 = .int .i64 x3_1 ∧ v8 = .int .i64 x8_1 ∧ Aside0 (a3v.l0 kq x3_1 l0 (l0.length : Int) x8_1 = some r) ∧ Aside0 (kq ≤ k) ∧ a1j w w')
 case atStart => exact ⟨(0), (0), qs_, qs_, H', ⟨Nat.le_refl _⟩, qy_⟩
 case round =>
  clear H'
  obtain ⟨x3_1, x8_1, rfl, rfl, HA, HK1, ⟨m1, rfl⟩⟩ := hrel
  cases gk with
  | zero => exact absurd HA.out (by simp [a3v.l0])
  | succ k1 =>
   have H := HA.out
   clear HA
   simp only [a3v.l0] at H
   by_cases c2 : x8_1 < (l0.length : Int)
   ·rw [if_pos c2] at H
    have c2b0 : decide (x8_1 < (l0.length : Int)) = true := decide_eq_true c2
    clear c2
    by_cases c3 : 0 ≤ x8_1
    ·rw [if_pos c3] at H
     have c3b0 : decide (0 ≤ x8_1) = true := decide_eq_true c3
     clear c3
     by_cases c4 : x8_1 < (l0.length : Int)
     ·rw [if_pos c4] at H
      have c4b0 : decide (x8_1 < (l0.length : Int)) = true := decide_eq_true c4
      clear c4
      have H' := am_ H
      clear H
      have p165 : 0 ≤ (x8_1 : Int) := ot_
      have q165 : x8_1 < (l0.length : Int) := ot_
      obtain ⟨ad165, e165, hx165_0⟩ := Kd.a2o HR0.out x8_1 p165 q165
      cases e165
      replace p165 := eq_true p165
      replace q165 := eq_true q165
      go_wp2
      go_roundg k1
      case measure => have := HK1.out; omega
      case rel => exact ⟨(wrap64 (x3_1 + (rd l0 x8_1))), (wrap64 (x8_1 + 1)), qs_, qs_, H', ⟨by have := HK1.out; omega⟩, qy_⟩
     ·rw [if_neg c4] at H
      exact absurd H (by simp)
    ·rw [if_neg c3] at H
     exact absurd H (by simp)
   ·rw [if_neg c2] at H
    have c2b0 : decide (x8_1 < (l0.length : Int)) = false := decide_eq_false c2
    clear c2
    obtain rfl := si_ H
    go_wp2
    go_ret
    exact ⟨qs_, qy_⟩
end Go.Proofs.Ytemnlgefngjliaa.Px
