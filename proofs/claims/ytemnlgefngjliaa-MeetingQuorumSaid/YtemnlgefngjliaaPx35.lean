/- Contracts of Go functions, printed. Conditions: as each theorem states. -/
import Derived.Test.YtemnlgefngjliaaPx0
import Derived.Test.YtemnlgefngjliaaGFlaws
namespace Go.Proofs.Ytemnlgefngjliaa.Px
open Go.Proofs.Ytemnlgefngjliaa.Given
open Go.RowKit Go.Proofs.YtemnlgefngjliaaW.PrintWords Go.Proofs.YtemnlgefngjliaaW.PrintLast Go.Proofs.YtemnlgefngjliaaW.PrintMore
attribute [local go_sem] a2f a2g a2r a2s a1x a1y a2h a2i
set_option linter.unusedVariables false
set_option linter.unusedSimpArgs false
def a2k.l0 : Nat → Int → Int → List Int → Int → Int → Option (Bool × Bool)
 | 0, _, _, _, _, _ => none
 | k + 1, x4, x13, x24, x25, x26 => if x26 < x25 then (if 0 ≤ x26 then (if x26 < (x24.length : Int) then (if (rd x24 x26) = x4 then (some (true, (x13 == 0))) else (a2k.l0 k x4 x13 x24 x25 (wrap64 (x26 + 1)))) else (none)) else (none)) else (some (false, (x13 == 0)))
def a2k.f (k : Nat) (a0_0 a0_1 a0_2 a0_3 : Int) (a0_4 : Bool) (a1_0 a1_1 a1_2 : Int) (l1_3 : List ByteArray) (l1_4 : List (S43)) (l1_5 : List Int) (a2 : ByteArray) (l3 : List Int) (a4 : Int) : Option (Bool × Bool) := (a2q.f k a0_0 a0_1 a0_2 a0_3 a0_4 a1_0 a1_1 a1_2 l1_3 l1_4 l1_5 a2 l3).bind fun bt584 => (a2k.l0 k a4 bt584.2 bt584.1 (bt584.1.length : Int) 0)
theorem a2k.a0t : ∀ k, (∀ y0 y1 y2 y3 y4, LeO (a2k.l0 k y0 y1 y2 y3 y4) (a2k.l0 (k + 1) y0 y1 y2 y3 y4))
 | 0 => fun _ _ _ _ _ r h => by simp [a2k.l0] at h
 | k + 1 => by
  have ih0 := a2k.a0t k
  ·intro y0 y1 y2 y3 y4
   unfold a2k.l0
   with_reducible (repeat' first | apply ih0 | apply a2q.mono | apply LeO.refl | apply LeO.none | apply LeO.ite | refine LeO.bind ?_ (fun _ => ?_))
theorem a2k.mono : ∀ a0 a1 a2 a3 a4 a5 a6 a7 a8 a9 a10 a11 a12 a13 k, LeO (a2k.f k a0 a1 a2 a3 a4 a5 a6 a7 a8 a9 a10 a11 a12 a13) (a2k.f (k + 1) a0 a1 a2 a3 a4 a5 a6 a7 a8 a9 a10 a11 a12 a13) := by
 intro a0 a1 a2 a3 a4 a5 a6 a7 a8 a9 a10 a11 a12 a13 k
 have ih0 := a2k.a0t k
 unfold a2k.f
 with_reducible (repeat' first | apply ih0 | apply a2q.mono | apply LeO.refl | apply LeO.none | apply LeO.ite | refine LeO.bind ?_ (fun _ => ?_))
set_option maxHeartbeats 8000000 in
set_option maxRecDepth 100000 in
theorem a2k.calls (k : Nat) (a0_0 a0_1 a0_2 a0_3 : Int) (a0_4 : Bool) (a1_0 a1_1 a1_2 : Int) (A1_3 : Option Addr) (c1_3 : Nat) (l1_3 : List ByteArray) (A1_4 : Option Addr) (c1_4 : Nat) (l1_4 : List (S43)) (A1_5 : Option Addr) (c1_5 : Nat) (l1_5 : List Int) (a2 : ByteArray) (A3 : Option Addr) (c3 : Nat) (l3 : List Int) (a4 : Int) (r1 r2 : Bool) (w : World) (hr1_3 : Kd.C Kd.string w A1_3 l1_3.length l1_3) (hc1_3 : l1_3.length ≤ c1_3) (hr1_4 : Kd.C k43 w A1_4 l1_4.length l1_4) (hc1_4 : l1_4.length ≤ c1_4) (hr1_5 : Kd.C (Kd.int .i64) w A1_5 l1_5.length l1_5) (hc1_5 : l1_5.length ≤ c1_5) (hr3 : Kd.C (Kd.int .i64) w A3 l3.length l3) (hc3 : l3.length ≤ c3) (h : a2k.f k a0_0 a0_1 a0_2 a0_3 a0_4 a1_0 a1_1 a1_2 l1_3 l1_4 l1_5 a2 l3 a4 = some (r1, r2)) :
  Calls Try.prog 27 #[.agg #[.int .i64 a0_0, .int .i64 a0_1, .int .i64 a0_2, .int .i64 a0_3, .bool a0_4], .agg #[.int .i64 a1_0, .int .i64 a1_1, .int .i64 a1_2, .slice A1_3 l1_3.length c1_3, .slice A1_4 l1_4.length c1_4, .slice A1_5 l1_5.length c1_5], .string a2, .slice A3 l3.length c3, .int .i64 a4] w fun e w' => e = .returned (.tuple #[.bool r1, .bool r2]) ∧ Below w.heap.size w w' := by
 have hu25 := Try.underlying25
 have hu30 := Try.underlying30
 have HR1_3 := am_ hr1_3
 have HC1_3 := am_ hc1_3
 clear hr1_3 hc1_3
 have HR1_4 := am_ hr1_4
 have HC1_4 := am_ hc1_4
 clear hr1_4 hc1_4
 have HR1_5 := am_ hr1_5
 have HC1_5 := am_ hc1_5
 clear hr1_5 hc1_5
 have HR3 := am_ hr3
 have HC3 := am_ hc3
 clear hr3 hc3
 have HB := am_ (Below.refl w.heap.size w)
 have H : ((a2q.f k a0_0 a0_1 a0_2 a0_3 a0_4 a1_0 a1_1 a1_2 l1_3 l1_4 l1_5 a2 l3).bind fun bt584 => (a2k.l0 k a4 bt584.2 bt584.1 (bt584.1.length : Int) 0)) = some (r1, r2) := h
 clear h
 replace H := bm_ H
 obtain ⟨⟨t584, t587⟩, A60, H⟩ := H
 replace H : (a2k.l0 k a4 t587 t584 (t584.length : Int) 0) = some (r1, r2) := H
 have A6 := am_ A60
 clear A60
 have H' := am_ H
 clear H
 go_enter Try.func27, Try.ntmps27
 go_wp2_with (first | ((with_reducible refine a0f (N := 5) rfl ?_); refine qev_ 5 #[.int .i64 a0_0, .int .i64 a0_1, .int .i64 a0_2, .int .i64 a0_3, .bool a0_4] 25 ?_; intro gb582 hg w7 hbox hb; have BK582 := am_ (hbox); have GW582 := qga_ hg; have GE582 := qga_ hg; replace HB := qbs_ hb; clear hb hbox hg) | ((with_reducible refine a0f (N := 6) rfl ?_); refine qev_ 6 #[.int .i64 a1_0, .int .i64 a1_1, .int .i64 a1_2, .slice A1_3 l1_3.length c1_3, .slice A1_4 l1_4.length c1_4, .slice A1_5 l1_5.length c1_5] 30 ?_; intro gb583 hg w8 hbox hb; have BK583 := am_ (hbox); have GW583 := qga_ hg; have GE583 := qga_ hg; replace HB := qbs_ hb; have NB582_583 := am_ ((by rw [hg]; exact Nat.ne_of_lt (a0u (qk_ BK582)) : gb582 ≠ gb583)); have NB583_582 := am_ ((by rw [hg]; exact Nat.ne_of_gt (a0u (qk_ BK582)) : gb583 ≠ gb582)); replace BK582 := qkb_ BK582 hb; clear hb hbox hg; have hnb9 := NB582_583.out; have hnc9 := NB583_582.out; obtain ⟨z'10_0, z'10_1, z'10_2, z'10_3, z'10_4⟩ := qz5_ BK582; obtain ⟨y'10_0, y'10_1, y'10_2, y'10_3, y'10_4⟩ := qf5_ BK582; obtain ⟨z'11_0, z'11_1, z'11_2, z'11_3, z'11_4, z'11_5⟩ := qz6_ BK583; obtain ⟨y'11_0, y'11_1, y'11_2, y'11_3, y'11_4, y'11_5⟩ := qf6_ BK583) | ((with_reducible refine a0e (f := 18) rfl ?_); refine a0w (some 21) rfl rfl Try.func18 (by kernel_rfl) rfl #[.agg #[.int .i64 a0_0, .int .i64 a0_1, .int .i64 a0_2, .int .i64 a0_3, .bool a0_4], .agg #[.int .i64 a1_0, .int .i64 a1_1, .int .i64 a1_2, .slice A1_3 l1_3.length c1_3, .slice A1_4 l1_4.length c1_4, .slice A1_5 l1_5.length c1_5], .string a2, .slice A3 l3.length c3] rfl ql_ ?_; (with_reducible refine (a2q.calls k a0_0 a0_1 a0_2 a0_3 a0_4 a1_0 a1_1 a1_2 _ _ l1_3 _ _ l1_4 _ _ l1_5 a2 _ _ l3 t584 t587 _ ?s1 ?s2 ?s3 ?s4 ?s5 ?s6 ?s7 ?s8 A6.out).mono ?_); (case s1 => exact qc_ HR1_3); (case s2 => exact HC1_3.out); (case s3 => exact qc_ HR1_4); (case s4 => exact HC1_4.out); (case s5 => exact qc_ HR1_5); (case s6 => exact HC1_5.out); (case s7 => exact qc_ HR3); (case s8 => exact HC3.out); rintro e w12 ⟨v585, rfl, ho0, hb⟩; refine ⟨_, rfl, ?_⟩; have HO586 := am_ (Kd.a2d ho0 (a0x qb_)); replace BK582 := qkb_ BK582 hb; replace BK583 := qkb_ BK583 hb; replace HB := qbs_ hb; (try clear hb); (try clear hb2); (try clear hk); (try clear hi); (try clear ho0); obtain ⟨Ao13, co13, eo13⟩ := Kd.a1p HO586.out; subst eo13))
 go_loopg [26] k (fun kq v26 w' => ∃ (x26_1 : Int), v26 = .int .i64 x26_1 ∧ Aside0 (a2k.l0 kq a4 t587 t584 (t584.length : Int) x26_1 = some (r1, r2)) ∧ Aside0 (kq ≤ k) ∧ Aside0 (Kd.R (Kd.int .i64) 3 w' w.heap.size (fun _ => True) (.slice Ao13 t584.length co13) t584) ∧ Aside0 (w'.heap[gb582]? = some (.cells #[.int .i64 a0_0, .int .i64 a0_1, .int .i64 a0_2, .int .i64 a0_3, .bool a0_4] 25 (0, 0))) ∧ Aside0 (w'.heap[gb583]? = some (.cells #[.int .i64 a1_0, .int .i64 a1_1, .int .i64 a1_2, (.slice A1_3 l1_3.length c1_3), (.slice A1_4 l1_4.length c1_4), (.slice A1_5 l1_5.length c1_5)] 30 (0, 0))) ∧ Aside0 (Below w.heap.size w w'))
 case atStart => exact ⟨(0), qs_, H', ⟨Nat.le_refl _⟩, ⟨by (with_reducible repeat (first | apply Kd.a1e | apply Kd.a1f | apply Kd.a0y)); exact HO586.out⟩, ⟨qk_ BK582⟩, ⟨qk_ BK583⟩, ⟨qb_⟩⟩
 case round =>
  clear H'
  try clear c1
  try clear c2
  try clear p2
  try clear c3
  try clear c9
  try clear z'10_0 z'10_1 z'10_2 z'10_3 z'10_4
  try clear z'11_0 z'11_1 z'11_2 z'11_3 z'11_4 z'11_5
  try clear y'10_0 y'10_1 y'10_2 y'10_3 y'10_4
  try clear y'11_0 y'11_1 y'11_2 y'11_3 y'11_4 y'11_5
  obtain ⟨x26_1, rfl, HA, HK1, HO_24, BK582, BK583, HB⟩ := hrel
  cases gk with
  | zero => exact absurd HA.out (by simp [a2k.l0])
  | succ k1 =>
   have H := HA.out
   clear HA
   simp only [a2k.l0] at H
   by_cases c14 : x26_1 < (t584.length : Int)
   ·rw [if_pos c14] at H
    have c14b0 : decide (x26_1 < (t584.length : Int)) = true := decide_eq_true c14
    clear c14
    by_cases c15 : 0 ≤ x26_1
    ·rw [if_pos c15] at H
     have c15b0 : decide (0 ≤ x26_1) = true := decide_eq_true c15
     clear c15
     by_cases c16 : x26_1 < (t584.length : Int)
     ·rw [if_pos c16] at H
      have c16b0 : decide (x26_1 < (t584.length : Int)) = true := decide_eq_true c16
      clear c16
      by_cases c17 : (rd t584 x26_1) = a4
      ·rw [if_pos c17] at H
       have c17b0 : ((rd t584 x26_1) == a4) = true := beq_iff_eq.mpr c17
       have c17b1 : ((rd t584 x26_1) != a4) = false := bne_eq_false_iff_eq.mpr c17
       clear c17
       simp only [Option.some.injEq, Prod.mk.injEq] at H
       obtain ⟨rfl, rfl⟩ := H
       have p588 : 0 ≤ (x26_1 : Int) := ot_
       have q588 : x26_1 < (t584.length : Int) := ot_
       obtain ⟨ad588, e588, hx588_0⟩ := Kd.a2o (Kd.a0q HO_24.out).2.2 x26_1 p588 q588
       cases e588
       replace p588 := eq_true p588
       replace q588 := eq_true q588
       go_wp2
       go_ret2
       exact ⟨qx_, qb_⟩
      ·rw [if_neg c17] at H
       have c17b0 : ((rd t584 x26_1) == a4) = false := beq_eq_false_iff_ne.mpr c17
       have c17b1 : ((rd t584 x26_1) != a4) = true := bne_iff_ne.mpr c17
       have H' := am_ H
       clear H
       have p588 : 0 ≤ (x26_1 : Int) := ot_
       have q588 : x26_1 < (t584.length : Int) := ot_
       obtain ⟨ad588, e588, hx588_0⟩ := Kd.a2o (Kd.a0q HO_24.out).2.2 x26_1 p588 q588
       cases e588
       replace p588 := eq_true p588
       replace q588 := eq_true q588
       go_wp2
       go_roundg k1
       case measure => have := HK1.out; omega
       case rel => exact ⟨(wrap64 (x26_1 + 1)), qs_, H', ⟨by have := HK1.out; omega⟩, ⟨by (with_reducible repeat (first | apply Kd.a1e | apply Kd.a1f | apply Kd.a0y)); exact HO_24.out⟩, ⟨qk_ BK582⟩, ⟨qk_ BK583⟩, ⟨qb_⟩⟩
     ·rw [if_neg c16] at H
      exact absurd H (by simp)
    ·rw [if_neg c15] at H
     exact absurd H (by simp)
   ·rw [if_neg c14] at H
    have c14b0 : decide (x26_1 < (t584.length : Int)) = false := decide_eq_false c14
    clear c14
    simp only [Option.some.injEq, Prod.mk.injEq] at H
    obtain ⟨rfl, rfl⟩ := H
    go_wp2
    go_ret2
    exact ⟨qx_, qb_⟩
end Go.Proofs.Ytemnlgefngjliaa.Px
