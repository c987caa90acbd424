/- Contracts of Go functions, printed. Conditions: as each theorem states. -/
import Derived.Test.YtemnlgefngjliaaPx0
import Derived.Test.YtemnlgefngjliaaPx19
namespace Go.Proofs.Ytemnlgefngjliaa.Px
open Go.Proofs.Ytemnlgefngjliaa.Given
open Go.RowKit Go.Proofs.YtemnlgefngjliaaW.PrintWords Go.Proofs.YtemnlgefngjliaaW.PrintLast Go.Proofs.YtemnlgefngjliaaW.PrintMore
attribute [local go_sem] a2f a2g a2r a2s a1x a1y a2h a2i
set_option linter.unusedVariables false
set_option linter.unusedSimpArgs false
mutual
def a0i.l0 : Nat → List (S43) → Int → Option (Bool)
 | 0, _, _ => none
 | k + 1, x0, x3 => if x3 < (x0.length : Int) then (if 0 ≤ x3 then (if ((a0a x0 x3).f0) < 1 then (a0i.j1 k x0 x3 true) else (if ((a0a x0 x3).f0) > 64 then (a0i.j1 k x0 x3 true) else (if x3 > 0 then (if 0 ≤ (wrap64 (x3 - 1)) then (if (wrap64 (x3 - 1)) < (x0.length : Int) then (if ((a0a x0 x3).f0) ≤ ((a0a x0 (wrap64 (x3 - 1))).f0) then (a0i.j1 k x0 x3 true) else (if ((a0a x0 x3).f1) < 0 then (a0i.j1 k x0 x3 true) else (a0i.j1 k x0 x3 (decide (((a0a x0 x3).f1) > 1000))))) else (none)) else (none)) else (if ((a0a x0 x3).f1) < 0 then (a0i.j1 k x0 x3 true) else (a0i.j1 k x0 x3 (decide (((a0a x0 x3).f1) > 1000))))))) else (none)) else (a0i.l1 k x0 0)
def a0i.j1 : Nat → List (S43) → Int → Bool → Option (Bool)
 | 0, _, _, _ => none
 | k + 1, x0, x3, x51 => if x51 = true then (some false) else (a0i.l0 k x0 (wrap64 (x3 + 1)))
def a0i.l1 : Nat → List (S43) → Int → Option (Bool)
 | 0, _, _ => none
 | k + 1, x0, x5 => if x5 < (x0.length : Int) then (if 0 ≤ x5 then (if ((a0a x0 x5).f2) = 0 then (a0i.j3 k x0 x5 false) else (if ((a0a x0 x5).f2) = ((a0a x0 x5).f0) then (a0i.j3 k x0 x5 true) else ((a1r.f k x0 ((a0a x0 x5).f2)).bind fun t378 => (a0i.j3 k x0 x5 (decide (t378 < 0)))))) else (none)) else (some true)
def a0i.j3 : Nat → List (S43) → Int → Bool → Option (Bool)
 | 0, _, _, _ => none
 | k + 1, x0, x5, x86 => if x86 = true then (some false) else (a0i.l1 k x0 (wrap64 (x5 + 1)))
end
def a0i.f (k : Nat) (l0 : List (S43)) : Option (Bool) := if (l0.length : Int) > 64 then (some false) else (a0i.l0 k l0 0)
theorem a0i.a0t : ∀ k, (∀ y0 y1, LeO (a0i.l0 k y0 y1) (a0i.l0 (k + 1) y0 y1)) ∧ (∀ y0 y1 y2, LeO (a0i.j1 k y0 y1 y2) (a0i.j1 (k + 1) y0 y1 y2)) ∧ (∀ y0 y1, LeO (a0i.l1 k y0 y1) (a0i.l1 (k + 1) y0 y1)) ∧ (∀ y0 y1 y2, LeO (a0i.j3 k y0 y1 y2) (a0i.j3 (k + 1) y0 y1 y2))
 | 0 => ⟨fun _ _ r h => by simp [a0i.l0] at h, fun _ _ _ r h => by simp [a0i.j1] at h, fun _ _ r h => by simp [a0i.l1] at h, fun _ _ _ r h => by simp [a0i.j3] at h⟩
 | k + 1 => by
  obtain ⟨ih0, ih1, ih2, ih3⟩ := a0i.a0t k
  refine ⟨?_, ?_, ?_, ?_⟩
  ·intro y0 y1
   unfold a0i.l0
   with_reducible (repeat' first | apply ih0 | apply ih1 | apply ih2 | apply ih3 | apply a1r.mono | apply LeO.refl | apply LeO.none | apply LeO.ite | refine LeO.bind ?_ (fun _ => ?_))
  ·intro y0 y1 y2
   unfold a0i.j1
   with_reducible (repeat' first | apply ih0 | apply ih1 | apply ih2 | apply ih3 | apply a1r.mono | apply LeO.refl | apply LeO.none | apply LeO.ite | refine LeO.bind ?_ (fun _ => ?_))
  ·intro y0 y1
   unfold a0i.l1
   with_reducible (repeat' first | apply ih0 | apply ih1 | apply ih2 | apply ih3 | apply a1r.mono | apply LeO.refl | apply LeO.none | apply LeO.ite | refine LeO.bind ?_ (fun _ => ?_))
  ·intro y0 y1 y2
   unfold a0i.j3
   with_reducible (repeat' first | apply ih0 | apply ih1 | apply ih2 | apply ih3 | apply a1r.mono | apply LeO.refl | apply LeO.none | apply LeO.ite | refine LeO.bind ?_ (fun _ => ?_))
theorem a0i.mono : ∀ a0 k, LeO (a0i.f k a0) (a0i.f (k + 1) a0) := by
 intro a0 k
 obtain ⟨ih0, ih1, ih2, ih3⟩ := a0i.a0t k
 unfold a0i.f
 with_reducible (repeat' first | apply ih0 | apply ih1 | apply ih2 | apply ih3 | apply a1r.mono | apply LeO.refl | apply LeO.none | apply LeO.ite | refine LeO.bind ?_ (fun _ => ?_))
set_option maxHeartbeats 8000000 in
set_option maxRecDepth 100000 in
theorem a0i.calls (k : Nat) (A0 : Option Addr) (c0 : Nat) (l0 : List (S43)) (r : Bool) (w : World) (hr0 : Kd.C k43 w A0 l0.length l0) (hc0 : l0.length ≤ c0) (h : a0i.f k l0 = some r) :
  Calls Try.prog 41 #[.slice A0 l0.length c0] w fun e w' => e = .returned (.bool r) ∧ Below w.heap.size w w' := by
 have hu43 := Try.underlying43
 have HR0 := am_ hr0
 have HC0 := am_ hc0
 clear hr0 hc0
 have HB := am_ (Below.refl w.heap.size w)
 have H : (if (l0.length : Int) > 64 then (some false) else (a0i.l0 k l0 0)) = some r := h
 clear h
 by_cases c2 : (l0.length : Int) > 64
 ·rw [if_pos c2] at H
  have c2b0 : decide (64 < (l0.length : Int)) = true := decide_eq_true c2
  have c2b1 : decide (64 < l0.length) = true := decide_eq_true (by omega)
  clear c2
  obtain rfl := si_ H
  go_enter Try.func41, Try.ntmps41
  go_wp2
  repeat (go_quiet (fail); try go_wp2)
  go_ret
  exact ⟨qx_, qb_⟩
 ·rw [if_neg c2] at H
  have c2b0 : decide (64 < (l0.length : Int)) = false := decide_eq_false c2
  have c2b1 : decide (64 < l0.length) = false := decide_eq_false (by omega)
  clear c2
  have H' := am_ H
  clear H
  go_enter Try.func41, Try.ntmps41
  go_wp2
  repeat (go_quiet (fail); try go_wp2)
  go_loopg [3] k (fun kq v3 w' => ∃ (x3_1 : Int), v3 = .int .i64 x3_1 ∧ Aside0 (a0i.l0 kq l0 x3_1 = some r) ∧ Aside0 (kq ≤ k) ∧ Aside0 (Below w.heap.size w w'))
  case atStart => exact ⟨(0), qs_, H', ⟨Nat.le_refl _⟩, ⟨qb_⟩⟩
  case round =>
   clear H'
   try clear c2
   try clear c2b0
   try clear c2b1
   try clear p2
   obtain ⟨x3_1, rfl, HA, HK1, HB⟩ := hrel
   cases gk with
   | zero => exact absurd HA.out (by simp [a0i.l0])
   | succ k1 =>
    have H := HA.out
    clear HA
    simp only [a0i.l0] at H
    by_cases c3 : x3_1 < (l0.length : Int)
    ·rw [if_pos c3] at H
     have c3b0 : decide (x3_1 < (l0.length : Int)) = true := decide_eq_true c3
     clear c3
     by_cases c4 : 0 ≤ x3_1
     ·rw [if_pos c4] at H
      have c4b0 : decide (0 ≤ x3_1) = true := decide_eq_true c4
      clear c4
      have HC5 := am_ H
      clear H
      have p371 : 0 ≤ (x3_1 : Int) := ot_
      have q371 : x3_1 < (l0.length : Int) := ot_
      obtain ⟨ad371, e371, hx371_0, hx371_1, hx371_2⟩ := a2p HR0.out x3_1 p371 q371
      cases e371
      replace hx371_0 := qh_ HB hx371_0
      replace hx371_1 := qh_ HB hx371_1
      replace hx371_2 := qh_ HB hx371_2
      replace p371 := eq_true p371
      replace q371 := eq_true q371
      go_upto_region 7 with (first | ((with_reducible refine a0f (N := 4) rfl ?_); refine qev_ 4 #[.int .i64 0, .int .i64 0, .int .i64 0] 43 ?_; intro gb372 hg w6 hbox hb; have BK372 := am_ (hbox); have GW372 := qga_ hg; have GE372 := qga_ hg; replace HB := qbs_ hb; clear hb hbox hg; obtain ⟨z'7_0, z'7_1, z'7_2⟩ := qz3_ BK372; obtain ⟨y'7_0, y'7_1, y'7_2⟩ := qf3_ BK372))
      repeat (go_quiet (first | ((with_reducible refine a0f (N := 4) rfl ?_); refine qev_ 4 #[.int .i64 0, .int .i64 0, .int .i64 0] 43 ?_; intro gb372 hg w6 hbox hb; have BK372 := am_ (hbox); have GW372 := qga_ hg; have GE372 := qga_ hg; replace HB := qbs_ hb; clear hb hbox hg; obtain ⟨z'7_0, z'7_1, z'7_2⟩ := qz3_ BK372; obtain ⟨y'7_0, y'7_1, y'7_2⟩ := qf3_ BK372)); go_upto_region 7 with (first | ((with_reducible refine a0f (N := 4) rfl ?_); refine qev_ 4 #[.int .i64 0, .int .i64 0, .int .i64 0] 43 ?_; intro gb372 hg w6 hbox hb; have BK372 := am_ (hbox); have GW372 := qga_ hg; have GE372 := qga_ hg; replace HB := qbs_ hb; clear hb hbox hg; obtain ⟨z'7_0, z'7_1, z'7_2⟩ := qz3_ BK372; obtain ⟨y'7_0, y'7_1, y'7_2⟩ := qf3_ BK372)))
      (try simp only [Act.put, List.setIfInBounds_toArray, List.set_cons_zero, List.set_cons_succ])
      go_cut [51] (fun v51 wc => ∃ (kq : Nat) (x51_4 : Bool), v51 = .bool x51_4 ∧ Aside0 (a0i.j1 kq l0 x3_1 x51_4 = some r) ∧ Aside0 (kq ≤ k1) ∧ Aside0 (wc.heap[gb372]? = some (.cells #[.int .i64 ((a0a l0 x3_1).f0), .int .i64 ((a0a l0 x3_1).f1), .int .i64 ((a0a l0 x3_1).f2)] 43 (0, 0))) ∧ Aside0 (Below w.heap.size w wc))
      case first =>
       have H := HC5.out
       clear HC5
       by_cases c8 : ((a0a l0 x3_1).f0) < 1
       ·rw [if_pos c8] at H
        have c8b0 : decide (((a0a l0 x3_1).f0) < 1) = true := decide_eq_true c8
        clear c8
        (first | rw [c8b0] | (simp only [a3h, a3u]; rw [c8b0]) | skip)
        have H' := am_ H
        clear H
        obtain ⟨z'9_0, z'9_1, z'9_2⟩ := qz3_ BK372; obtain ⟨y'9_0, y'9_1, y'9_2⟩ := qf3_ BK372
        go_wp2
        repeat (go_quiet (fail); try go_wp2)
        go_meet
        case rel => exact ⟨_, (true), qs_, H', ⟨by have := HK1.out; first | omega | exact Nat.le_refl _⟩, ⟨by refine qd_ ?_; refine a0d (cs := #[.int .i64 ((a0a l0 x3_1).f0), .int .i64 ((a0a l0 x3_1).f1), .int .i64 0]) ?_ 2 _ rfl; refine qd_ ?_; refine a0d (cs := #[.int .i64 ((a0a l0 x3_1).f0), .int .i64 0, .int .i64 0]) ?_ 1 _ rfl; refine qd_ ?_; refine a0d (cs := #[.int .i64 0, .int .i64 0, .int .i64 0]) ?_ 0 _ rfl; refine qd_ ?_; exact BK372.out⟩, ⟨qb_⟩⟩
       ·rw [if_neg c8] at H
        have c8b0 : decide (((a0a l0 x3_1).f0) < 1) = false := decide_eq_false c8
        clear c8
        (first | rw [c8b0] | (simp only [a3h, a3u]; rw [c8b0]) | skip)
        by_cases c10 : ((a0a l0 x3_1).f0) > 64
        ·rw [if_pos c10] at H
         have c10b0 : decide (64 < ((a0a l0 x3_1).f0)) = true := decide_eq_true c10
         clear c10
         have H' := am_ H
         clear H
         obtain ⟨z'11_0, z'11_1, z'11_2⟩ := qz3_ BK372; obtain ⟨y'11_0, y'11_1, y'11_2⟩ := qf3_ BK372
         go_wp2
         repeat (go_quiet (fail); try go_wp2)
         go_meet
         case rel => exact ⟨_, (true), qs_, H', ⟨by have := HK1.out; first | omega | exact Nat.le_refl _⟩, ⟨by refine qd_ ?_; refine a0d (cs := #[.int .i64 ((a0a l0 x3_1).f0), .int .i64 ((a0a l0 x3_1).f1), .int .i64 0]) ?_ 2 _ rfl; refine qd_ ?_; refine a0d (cs := #[.int .i64 ((a0a l0 x3_1).f0), .int .i64 0, .int .i64 0]) ?_ 1 _ rfl; refine qd_ ?_; refine a0d (cs := #[.int .i64 0, .int .i64 0, .int .i64 0]) ?_ 0 _ rfl; refine qd_ ?_; exact BK372.out⟩, ⟨qb_⟩⟩
        ·rw [if_neg c10] at H
         have c10b0 : decide (64 < ((a0a l0 x3_1).f0)) = false := decide_eq_false c10
         clear c10
         by_cases c12 : x3_1 > 0
         ·rw [if_pos c12] at H
          have c12b0 : decide (0 < x3_1) = true := decide_eq_true c12
          clear c12
          obtain ⟨ji13, hji13⟩ : ∃ j_ : Int, (wrap64 (x3_1 - 1)) = j_ := ⟨_, rfl⟩
          replace H : (if 0 ≤ (ji13) then (if (ji13) < (l0.length : Int) then (if ((a0a l0 x3_1).f0) ≤ ((a0a l0 (ji13)).f0) then (a0i.j1 k1 l0 x3_1 true) else (if ((a0a l0 x3_1).f1) < 0 then (a0i.j1 k1 l0 x3_1 true) else (a0i.j1 k1 l0 x3_1 (decide (((a0a l0 x3_1).f1) > 1000))))) else (none)) else (none)) = some r := by first | (rw [hji13] at H; exact H) | (simp only [hji13] at H ⊢; exact H)
          have hji13w : (IntKind.i64.wrap (x3_1 - 1)) = ji13 := (a3h _).trans hji13
          by_cases c14 : 0 ≤ (ji13)
          ·rw [if_pos c14] at H
           have c14b0 : decide (0 ≤ (ji13)) = true := decide_eq_true c14
           clear c14
           by_cases c15 : (ji13) < (l0.length : Int)
           ·rw [if_pos c15] at H
            have c15b0 : decide ((ji13) < (l0.length : Int)) = true := decide_eq_true c15
            clear c15
            by_cases c16 : ((a0a l0 x3_1).f0) ≤ ((a0a l0 (ji13)).f0)
            ·rw [if_pos c16] at H
             have c16b0 : decide (((a0a l0 x3_1).f0) ≤ ((a0a l0 (ji13)).f0)) = true := decide_eq_true c16
             clear c16
             have H' := am_ H
             clear H
             obtain ⟨z'17_0, z'17_1, z'17_2⟩ := qz3_ BK372; obtain ⟨y'17_0, y'17_1, y'17_2⟩ := qf3_ BK372
             have p373 : 0 ≤ ((ji13) : Int) := ot_
             have q373 : (ji13) < (l0.length : Int) := ot_
             obtain ⟨ad373, e373, hx373_0, hx373_1, hx373_2⟩ := a2p HR0.out (ji13) p373 q373
             obtain rfl : ad371 = ad373 := (by injection e373)
             have hn373_0 : ad371.block ≠ gb372 := Nat.ne_of_lt (Nat.lt_of_lt_of_le (by have := World.block_lt_of_cell? _ _ hx373_0; first | rwa [add_block] at this | exact this) GW372.out)
             have hn373_1 : ad371.block ≠ gb372 := Nat.ne_of_lt (Nat.lt_of_lt_of_le (by have := World.block_lt_of_cell? _ _ hx373_0; first | rwa [add_block] at this | exact this) GW372.out)
             have hn373_2 : ad371.block ≠ gb372 := Nat.ne_of_lt (Nat.lt_of_lt_of_le (by have := World.block_lt_of_cell? _ _ hx373_0; first | rwa [add_block] at this | exact this) GW372.out)
             replace hx373_0 := qh_ HB hx373_0
             replace hx373_1 := qh_ HB hx373_1
             replace hx373_2 := qh_ HB hx373_2
             replace hx373_0 := (cell_far (p := ⟨gb372, 0, none⟩) (qn_ hn373_0) (.int .i64 ((a0a l0 x3_1).f0))).trans hx373_0
             replace hx373_1 := (cell_far (p := ⟨gb372, 0, none⟩) (qn_ hn373_0) (.int .i64 ((a0a l0 x3_1).f0))).trans hx373_1
             replace hx373_2 := (cell_far (p := ⟨gb372, 0, none⟩) (qn_ hn373_0) (.int .i64 ((a0a l0 x3_1).f0))).trans hx373_2
             replace hx373_0 := (cell_far (p := ⟨gb372, 1, none⟩) (qn_ hn373_1) (.int .i64 ((a0a l0 x3_1).f1))).trans hx373_0
             replace hx373_1 := (cell_far (p := ⟨gb372, 1, none⟩) (qn_ hn373_1) (.int .i64 ((a0a l0 x3_1).f1))).trans hx373_1
             replace hx373_2 := (cell_far (p := ⟨gb372, 1, none⟩) (qn_ hn373_1) (.int .i64 ((a0a l0 x3_1).f1))).trans hx373_2
             replace hx373_0 := (cell_far (p := ⟨gb372, 2, none⟩) (qn_ hn373_2) (.int .i64 ((a0a l0 x3_1).f2))).trans hx373_0
             replace hx373_1 := (cell_far (p := ⟨gb372, 2, none⟩) (qn_ hn373_2) (.int .i64 ((a0a l0 x3_1).f2))).trans hx373_1
             replace hx373_2 := (cell_far (p := ⟨gb372, 2, none⟩) (qn_ hn373_2) (.int .i64 ((a0a l0 x3_1).f2))).trans hx373_2
             (try have hy373_0 := fun (n_ : Nat) => (show (((((w6.drewN n_).setCell ⟨gb372, 0, none⟩ (.int .i64 ((a0a l0 x3_1).f0))).setCell ⟨gb372, 1, none⟩ (.int .i64 ((a0a l0 x3_1).f1))).setCell ⟨gb372, 2, none⟩ (.int .i64 ((a0a l0 x3_1).f2)))).cell? _ = some _ from hx373_0))
             (try have hy373_1 := fun (n_ : Nat) => (show (((((w6.drewN n_).setCell ⟨gb372, 0, none⟩ (.int .i64 ((a0a l0 x3_1).f0))).setCell ⟨gb372, 1, none⟩ (.int .i64 ((a0a l0 x3_1).f1))).setCell ⟨gb372, 2, none⟩ (.int .i64 ((a0a l0 x3_1).f2)))).cell? _ = some _ from hx373_1))
             (try have hy373_2 := fun (n_ : Nat) => (show (((((w6.drewN n_).setCell ⟨gb372, 0, none⟩ (.int .i64 ((a0a l0 x3_1).f0))).setCell ⟨gb372, 1, none⟩ (.int .i64 ((a0a l0 x3_1).f1))).setCell ⟨gb372, 2, none⟩ (.int .i64 ((a0a l0 x3_1).f2)))).cell? _ = some _ from hx373_2))
             clear hn373_0 hn373_1 hn373_2
             replace p373 := eq_true p373
             replace q373 := eq_true q373
             go_wp2
             repeat (go_quiet (fail); try go_wp2)
             try subst hji13
             go_meet
             case rel => exact ⟨_, (true), qs_, H', ⟨by have := HK1.out; first | omega | exact Nat.le_refl _⟩, ⟨by refine qd_ ?_; refine a0d (cs := #[.int .i64 ((a0a l0 x3_1).f0), .int .i64 ((a0a l0 x3_1).f1), .int .i64 0]) ?_ 2 _ rfl; refine qd_ ?_; refine a0d (cs := #[.int .i64 ((a0a l0 x3_1).f0), .int .i64 0, .int .i64 0]) ?_ 1 _ rfl; refine qd_ ?_; refine a0d (cs := #[.int .i64 0, .int .i64 0, .int .i64 0]) ?_ 0 _ rfl; refine qd_ ?_; exact BK372.out⟩, ⟨qb_⟩⟩
            ·rw [if_neg c16] at H
             have c16b0 : decide (((a0a l0 x3_1).f0) ≤ ((a0a l0 (ji13)).f0)) = false := decide_eq_false c16
             clear c16
             by_cases c18 : ((a0a l0 x3_1).f1) < 0
             ·rw [if_pos c18] at H
              have c18b0 : decide (((a0a l0 x3_1).f1) < 0) = true := decide_eq_true c18
              clear c18
              have H' := am_ H
              clear H
              obtain ⟨z'19_0, z'19_1, z'19_2⟩ := qz3_ BK372; obtain ⟨y'19_0, y'19_1, y'19_2⟩ := qf3_ BK372
              have p373 : 0 ≤ ((ji13) : Int) := ot_
              have q373 : (ji13) < (l0.length : Int) := ot_
              obtain ⟨ad373, e373, hx373_0, hx373_1, hx373_2⟩ := a2p HR0.out (ji13) p373 q373
              obtain rfl : ad371 = ad373 := (by injection e373)
              have hn373_0 : ad371.block ≠ gb372 := Nat.ne_of_lt (Nat.lt_of_lt_of_le (by have := World.block_lt_of_cell? _ _ hx373_0; first | rwa [add_block] at this | exact this) GW372.out)
              have hn373_1 : ad371.block ≠ gb372 := Nat.ne_of_lt (Nat.lt_of_lt_of_le (by have := World.block_lt_of_cell? _ _ hx373_0; first | rwa [add_block] at this | exact this) GW372.out)
              have hn373_2 : ad371.block ≠ gb372 := Nat.ne_of_lt (Nat.lt_of_lt_of_le (by have := World.block_lt_of_cell? _ _ hx373_0; first | rwa [add_block] at this | exact this) GW372.out)
              replace hx373_0 := qh_ HB hx373_0
              replace hx373_1 := qh_ HB hx373_1
              replace hx373_2 := qh_ HB hx373_2
              replace hx373_0 := (cell_far (p := ⟨gb372, 0, none⟩) (qn_ hn373_0) (.int .i64 ((a0a l0 x3_1).f0))).trans hx373_0
              replace hx373_1 := (cell_far (p := ⟨gb372, 0, none⟩) (qn_ hn373_0) (.int .i64 ((a0a l0 x3_1).f0))).trans hx373_1
              replace hx373_2 := (cell_far (p := ⟨gb372, 0, none⟩) (qn_ hn373_0) (.int .i64 ((a0a l0 x3_1).f0))).trans hx373_2
              replace hx373_0 := (cell_far (p := ⟨gb372, 1, none⟩) (qn_ hn373_1) (.int .i64 ((a0a l0 x3_1).f1))).trans hx373_0
              replace hx373_1 := (cell_far (p := ⟨gb372, 1, none⟩) (qn_ hn373_1) (.int .i64 ((a0a l0 x3_1).f1))).trans hx373_1
              replace hx373_2 := (cell_far (p := ⟨gb372, 1, none⟩) (qn_ hn373_1) (.int .i64 ((a0a l0 x3_1).f1))).trans hx373_2
              replace hx373_0 := (cell_far (p := ⟨gb372, 2, none⟩) (qn_ hn373_2) (.int .i64 ((a0a l0 x3_1).f2))).trans hx373_0
              replace hx373_1 := (cell_far (p := ⟨gb372, 2, none⟩) (qn_ hn373_2) (.int .i64 ((a0a l0 x3_1).f2))).trans hx373_1
              replace hx373_2 := (cell_far (p := ⟨gb372, 2, none⟩) (qn_ hn373_2) (.int .i64 ((a0a l0 x3_1).f2))).trans hx373_2
              (try have hy373_0 := fun (n_ : Nat) => (show (((((w6.drewN n_).setCell ⟨gb372, 0, none⟩ (.int .i64 ((a0a l0 x3_1).f0))).setCell ⟨gb372, 1, none⟩ (.int .i64 ((a0a l0 x3_1).f1))).setCell ⟨gb372, 2, none⟩ (.int .i64 ((a0a l0 x3_1).f2)))).cell? _ = some _ from hx373_0))
              (try have hy373_1 := fun (n_ : Nat) => (show (((((w6.drewN n_).setCell ⟨gb372, 0, none⟩ (.int .i64 ((a0a l0 x3_1).f0))).setCell ⟨gb372, 1, none⟩ (.int .i64 ((a0a l0 x3_1).f1))).setCell ⟨gb372, 2, none⟩ (.int .i64 ((a0a l0 x3_1).f2)))).cell? _ = some _ from hx373_1))
              (try have hy373_2 := fun (n_ : Nat) => (show (((((w6.drewN n_).setCell ⟨gb372, 0, none⟩ (.int .i64 ((a0a l0 x3_1).f0))).setCell ⟨gb372, 1, none⟩ (.int .i64 ((a0a l0 x3_1).f1))).setCell ⟨gb372, 2, none⟩ (.int .i64 ((a0a l0 x3_1).f2)))).cell? _ = some _ from hx373_2))
              clear hn373_0 hn373_1 hn373_2
              replace p373 := eq_true p373
              replace q373 := eq_true q373
              go_wp2
              repeat (go_quiet (fail); try go_wp2)
              try subst hji13
              go_meet
              case rel => exact ⟨_, (true), qs_, H', ⟨by have := HK1.out; first | omega | exact Nat.le_refl _⟩, ⟨by refine qd_ ?_; refine a0d (cs := #[.int .i64 ((a0a l0 x3_1).f0), .int .i64 ((a0a l0 x3_1).f1), .int .i64 0]) ?_ 2 _ rfl; refine qd_ ?_; refine a0d (cs := #[.int .i64 ((a0a l0 x3_1).f0), .int .i64 0, .int .i64 0]) ?_ 1 _ rfl; refine qd_ ?_; refine a0d (cs := #[.int .i64 0, .int .i64 0, .int .i64 0]) ?_ 0 _ rfl; refine qd_ ?_; exact BK372.out⟩, ⟨qb_⟩⟩
             ·rw [if_neg c18] at H
              have c18b0 : decide (((a0a l0 x3_1).f1) < 0) = false := decide_eq_false c18
              clear c18
              have H' := am_ H
              clear H
              obtain ⟨z'20_0, z'20_1, z'20_2⟩ := qz3_ BK372; obtain ⟨y'20_0, y'20_1, y'20_2⟩ := qf3_ BK372
              have p373 : 0 ≤ ((ji13) : Int) := ot_
              have q373 : (ji13) < (l0.length : Int) := ot_
              obtain ⟨ad373, e373, hx373_0, hx373_1, hx373_2⟩ := a2p HR0.out (ji13) p373 q373
              obtain rfl : ad371 = ad373 := (by injection e373)
              have hn373_0 : ad371.block ≠ gb372 := Nat.ne_of_lt (Nat.lt_of_lt_of_le (by have := World.block_lt_of_cell? _ _ hx373_0; first | rwa [add_block] at this | exact this) GW372.out)
              have hn373_1 : ad371.block ≠ gb372 := Nat.ne_of_lt (Nat.lt_of_lt_of_le (by have := World.block_lt_of_cell? _ _ hx373_0; first | rwa [add_block] at this | exact this) GW372.out)
              have hn373_2 : ad371.block ≠ gb372 := Nat.ne_of_lt (Nat.lt_of_lt_of_le (by have := World.block_lt_of_cell? _ _ hx373_0; first | rwa [add_block] at this | exact this) GW372.out)
              replace hx373_0 := qh_ HB hx373_0
              replace hx373_1 := qh_ HB hx373_1
              replace hx373_2 := qh_ HB hx373_2
              replace hx373_0 := (cell_far (p := ⟨gb372, 0, none⟩) (qn_ hn373_0) (.int .i64 ((a0a l0 x3_1).f0))).trans hx373_0
              replace hx373_1 := (cell_far (p := ⟨gb372, 0, none⟩) (qn_ hn373_0) (.int .i64 ((a0a l0 x3_1).f0))).trans hx373_1
              replace hx373_2 := (cell_far (p := ⟨gb372, 0, none⟩) (qn_ hn373_0) (.int .i64 ((a0a l0 x3_1).f0))).trans hx373_2
              replace hx373_0 := (cell_far (p := ⟨gb372, 1, none⟩) (qn_ hn373_1) (.int .i64 ((a0a l0 x3_1).f1))).trans hx373_0
              replace hx373_1 := (cell_far (p := ⟨gb372, 1, none⟩) (qn_ hn373_1) (.int .i64 ((a0a l0 x3_1).f1))).trans hx373_1
              replace hx373_2 := (cell_far (p := ⟨gb372, 1, none⟩) (qn_ hn373_1) (.int .i64 ((a0a l0 x3_1).f1))).trans hx373_2
              replace hx373_0 := (cell_far (p := ⟨gb372, 2, none⟩) (qn_ hn373_2) (.int .i64 ((a0a l0 x3_1).f2))).trans hx373_0
              replace hx373_1 := (cell_far (p := ⟨gb372, 2, none⟩) (qn_ hn373_2) (.int .i64 ((a0a l0 x3_1).f2))).trans hx373_1
              replace hx373_2 := (cell_far (p := ⟨gb372, 2, none⟩) (qn_ hn373_2) (.int .i64 ((a0a l0 x3_1).f2))).trans hx373_2
              (try have hy373_0 := fun (n_ : Nat) => (show (((((w6.drewN n_).setCell ⟨gb372, 0, none⟩ (.int .i64 ((a0a l0 x3_1).f0))).setCell ⟨gb372, 1, none⟩ (.int .i64 ((a0a l0 x3_1).f1))).setCell ⟨gb372, 2, none⟩ (.int .i64 ((a0a l0 x3_1).f2)))).cell? _ = some _ from hx373_0))
              (try have hy373_1 := fun (n_ : Nat) => (show (((((w6.drewN n_).setCell ⟨gb372, 0, none⟩ (.int .i64 ((a0a l0 x3_1).f0))).setCell ⟨gb372, 1, none⟩ (.int .i64 ((a0a l0 x3_1).f1))).setCell ⟨gb372, 2, none⟩ (.int .i64 ((a0a l0 x3_1).f2)))).cell? _ = some _ from hx373_1))
              (try have hy373_2 := fun (n_ : Nat) => (show (((((w6.drewN n_).setCell ⟨gb372, 0, none⟩ (.int .i64 ((a0a l0 x3_1).f0))).setCell ⟨gb372, 1, none⟩ (.int .i64 ((a0a l0 x3_1).f1))).setCell ⟨gb372, 2, none⟩ (.int .i64 ((a0a l0 x3_1).f2)))).cell? _ = some _ from hx373_2))
              clear hn373_0 hn373_1 hn373_2
              replace p373 := eq_true p373
              replace q373 := eq_true q373
              go_wp2
              repeat (go_quiet (fail); try go_wp2)
              try subst hji13
              go_meet
              case rel => exact ⟨_, (decide (((a0a l0 x3_1).f1) > 1000)), qs_, H', ⟨by have := HK1.out; first | omega | exact Nat.le_refl _⟩, ⟨by refine qd_ ?_; refine a0d (cs := #[.int .i64 ((a0a l0 x3_1).f0), .int .i64 ((a0a l0 x3_1).f1), .int .i64 0]) ?_ 2 _ rfl; refine qd_ ?_; refine a0d (cs := #[.int .i64 ((a0a l0 x3_1).f0), .int .i64 0, .int .i64 0]) ?_ 1 _ rfl; refine qd_ ?_; refine a0d (cs := #[.int .i64 0, .int .i64 0, .int .i64 0]) ?_ 0 _ rfl; refine qd_ ?_; exact BK372.out⟩, ⟨qb_⟩⟩
           ·rw [if_neg c15] at H
            exact absurd H (by simp)
          ·rw [if_neg c14] at H
           exact absurd H (by simp)
         ·rw [if_neg c12] at H
          have c12b0 : decide (0 < x3_1) = false := decide_eq_false c12
          clear c12
          by_cases c21 : ((a0a l0 x3_1).f1) < 0
          ·rw [if_pos c21] at H
           have c21b0 : decide (((a0a l0 x3_1).f1) < 0) = true := decide_eq_true c21
           clear c21
           have H' := am_ H
           clear H
           obtain ⟨z'22_0, z'22_1, z'22_2⟩ := qz3_ BK372; obtain ⟨y'22_0, y'22_1, y'22_2⟩ := qf3_ BK372
           go_wp2
           repeat (go_quiet (fail); try go_wp2)
           go_meet
           case rel => exact ⟨_, (true), qs_, H', ⟨by have := HK1.out; first | omega | exact Nat.le_refl _⟩, ⟨by refine qd_ ?_; refine a0d (cs := #[.int .i64 ((a0a l0 x3_1).f0), .int .i64 ((a0a l0 x3_1).f1), .int .i64 0]) ?_ 2 _ rfl; refine qd_ ?_; refine a0d (cs := #[.int .i64 ((a0a l0 x3_1).f0), .int .i64 0, .int .i64 0]) ?_ 1 _ rfl; refine qd_ ?_; refine a0d (cs := #[.int .i64 0, .int .i64 0, .int .i64 0]) ?_ 0 _ rfl; refine qd_ ?_; exact BK372.out⟩, ⟨qb_⟩⟩
          ·rw [if_neg c21] at H
           have c21b0 : decide (((a0a l0 x3_1).f1) < 0) = false := decide_eq_false c21
           clear c21
           have H' := am_ H
           clear H
           obtain ⟨z'23_0, z'23_1, z'23_2⟩ := qz3_ BK372; obtain ⟨y'23_0, y'23_1, y'23_2⟩ := qf3_ BK372
           go_wp2
           repeat (go_quiet (fail); try go_wp2)
           go_meet
           case rel => exact ⟨_, (decide (((a0a l0 x3_1).f1) > 1000)), qs_, H', ⟨by have := HK1.out; first | omega | exact Nat.le_refl _⟩, ⟨by refine qd_ ?_; refine a0d (cs := #[.int .i64 ((a0a l0 x3_1).f0), .int .i64 ((a0a l0 x3_1).f1), .int .i64 0]) ?_ 2 _ rfl; refine qd_ ?_; refine a0d (cs := #[.int .i64 ((a0a l0 x3_1).f0), .int .i64 0, .int .i64 0]) ?_ 1 _ rfl; refine qd_ ?_; refine a0d (cs := #[.int .i64 0, .int .i64 0, .int .i64 0]) ?_ 0 _ rfl; refine qd_ ?_; exact BK372.out⟩, ⟨qb_⟩⟩
      case rest =>
       clear HC5
       try clear c1
       try clear c2
       try clear c2b0
       try clear c2b1
       try clear p2
       try clear c3
       try clear c3b0
       try clear p3
       try clear q3
       try clear hx3
       try clear c4
       try clear c4b0
       try clear p6
       try clear c8
       try clear c8b0
       try clear c10
       try clear c10b0
       try clear c12
       try clear c12b0
       try clear c14
       try clear c14b0
       try clear c15
       try clear c15b0
       try clear c16
       try clear c16b0
       try clear c18
       try clear c18b0
       try clear c21
       try clear c21b0
       try clear z'11_0 z'11_1 z'11_2
       try clear z'17_0 z'17_1 z'17_2
       try clear z'19_0 z'19_1 z'19_2
       try clear z'20_0 z'20_1 z'20_2
       try clear z'22_0 z'22_1 z'22_2
       try clear z'23_0 z'23_1 z'23_2
       try clear z'7_0 z'7_1 z'7_2
       try clear z'9_0 z'9_1 z'9_2
       try clear y'11_0 y'11_1 y'11_2
       try clear y'17_0 y'17_1 y'17_2
       try clear y'19_0 y'19_1 y'19_2
       try clear y'20_0 y'20_1 y'20_2
       try clear y'22_0 y'22_1 y'22_2
       try clear y'23_0 y'23_1 y'23_2
       try clear y'7_0 y'7_1 y'7_2
       try clear y'9_0 y'9_1 y'9_2
       try clear hx371_0
       try clear hx371_1
       try clear hx371_2
       try clear hx373_0
       try clear hx373_1
       try clear hx373_2
       try clear p2
       try clear p371
       try clear p373
       try clear q371
       try clear q373
       obtain ⟨kq, x51_4, rfl, HA, HJ4, BK372, HB⟩ := hcut
       cases kq with
       | zero => exact absurd HA.out (by simp [a0i.j1])
       | succ kj4 =>
        have H := HA.out
        clear HA
        simp only [a0i.j1] at H
        by_cases c24 : x51_4 = true
        ·subst c24
         have H1 : (some false) = some r := by rw [if_pos rfl] at H; exact H
         clear H
         have H := H1
         clear H1
         obtain rfl := si_ H
         go_wp2
         repeat (go_quiet (fail); try go_wp2)
         go_ret
         exact ⟨qx_, qb_⟩
        ·replace c24 := be_ c24
         subst c24
         have H1 : (a0i.l0 kj4 l0 (wrap64 (x3_1 + 1))) = some r := by rw [if_neg (show ¬ (false = true) by decide)] at H; exact H
         clear H
         have H := H1
         clear H1
         have H' := am_ H
         clear H
         go_wp2
         repeat (go_quiet (fail); try go_wp2)
         go_roundg kj4
         case measure => have := HK1.out; have := HJ4.out; omega
         case rel => exact ⟨(wrap64 (x3_1 + 1)), qs_, H', ⟨by have := HK1.out; have := HJ4.out; omega⟩, ⟨qb_⟩⟩
     ·rw [if_neg c4] at H
      exact absurd H (by simp)
    ·rw [if_neg c3] at H
     have c3b0 : decide (x3_1 < (l0.length : Int)) = false := decide_eq_false c3
     clear c3
     have H' := am_ H
     clear H
     go_wp2
     repeat (go_quiet (fail); try go_wp2)
     go_loopg [5] k1 (fun kq v5 w' => ∃ (x5_2 : Int), v5 = .int .i64 x5_2 ∧ Aside0 (a0i.l1 kq l0 x5_2 = some r) ∧ Aside0 (kq ≤ k1) ∧ Aside0 (Below w.heap.size w w'))
     case atStart => exact ⟨(0), qs_, H', ⟨Nat.le_refl _⟩, ⟨qb_⟩⟩
     case round =>
      clear H'
      try clear c1
      try clear c2
      try clear c2b0
      try clear c2b1
      try clear p2
      try clear c3
      try clear c3b0
      try clear p3
      try clear q3
      try clear hx3
      try clear c4
      try clear c4b0
      try clear p6
      try clear c8
      try clear c8b0
      try clear c10
      try clear c10b0
      try clear c12
      try clear c12b0
      try clear c14
      try clear c14b0
      try clear c15
      try clear c15b0
      try clear c16
      try clear c16b0
      try clear c18
      try clear c18b0
      try clear c21
      try clear c21b0
      try clear c24
      try clear z'11_0 z'11_1 z'11_2
      try clear z'17_0 z'17_1 z'17_2
      try clear z'19_0 z'19_1 z'19_2
      try clear z'20_0 z'20_1 z'20_2
      try clear z'22_0 z'22_1 z'22_2
      try clear z'23_0 z'23_1 z'23_2
      try clear z'7_0 z'7_1 z'7_2
      try clear z'9_0 z'9_1 z'9_2
      try clear y'11_0 y'11_1 y'11_2
      try clear y'17_0 y'17_1 y'17_2
      try clear y'19_0 y'19_1 y'19_2
      try clear y'20_0 y'20_1 y'20_2
      try clear y'22_0 y'22_1 y'22_2
      try clear y'23_0 y'23_1 y'23_2
      try clear y'7_0 y'7_1 y'7_2
      try clear y'9_0 y'9_1 y'9_2
      try clear hx371_0
      try clear hx371_1
      try clear hx371_2
      try clear hx373_0
      try clear hx373_1
      try clear hx373_2
      try clear p2
      try clear p3
      try clear p371
      try clear p373
      try clear p6
      try clear q3
      try clear q371
      try clear q373
      obtain ⟨x5_2, rfl, HA, HK2, HB⟩ := hrel
      cases gk with
      | zero => exact absurd HA.out (by simp [a0i.l1])
      | succ k2 =>
       have H := HA.out
       clear HA
       simp only [a0i.l1] at H
       by_cases c25 : x5_2 < (l0.length : Int)
       ·rw [if_pos c25] at H
        have c25b0 : decide (x5_2 < (l0.length : Int)) = true := decide_eq_true c25
        clear c25
        have HC26 := am_ H
        clear H
        go_upto_region 12 with (fail)
        repeat (go_quiet (fail); go_upto_region 12 with (fail))
        go_cut [86] (fun v86 wc => ∃ (kq : Nat) (x86_25 : Bool), v86 = .bool x86_25 ∧ Aside0 (a0i.j3 kq l0 x5_2 x86_25 = some r) ∧ Aside0 (kq ≤ k2) ∧ Aside0 (Below w.heap.size w wc))
        case first =>
         have H := HC26.out
         clear HC26
         by_cases c27 : 0 ≤ x5_2
         ·rw [if_pos c27] at H
          have c27b0 : decide (0 ≤ x5_2) = true := decide_eq_true c27
          clear c27
          (first | rw [c27b0] | (simp only [a3h, a3u]; rw [c27b0]) | skip)
          by_cases c28 : ((a0a l0 x5_2).f2) = 0
          ·rw [if_pos c28] at H
           have c28b0 : (((a0a l0 x5_2).f2) == 0) = true := beq_iff_eq.mpr c28
           have c28b1 : (((a0a l0 x5_2).f2) != 0) = false := bne_eq_false_iff_eq.mpr c28
           clear c28
           have H' := am_ H
           clear H
           have p374 : 0 ≤ (x5_2 : Int) := ot_
           have q374 : x5_2 < (l0.length : Int) := ot_
           obtain ⟨ad374, e374, hx374_0, hx374_1, hx374_2⟩ := a2p HR0.out x5_2 p374 q374
           cases e374
           replace hx374_0 := qh_ HB hx374_0
           replace hx374_1 := qh_ HB hx374_1
           replace hx374_2 := qh_ HB hx374_2
           replace p374 := eq_true p374
           replace q374 := eq_true q374
           go_wp2
           repeat (go_quiet (fail); try go_wp2)
           go_meet
           case rel => exact ⟨_, (false), qs_, H', ⟨by have := HK1.out; have := HK2.out; first | omega | exact Nat.le_refl _⟩, ⟨qb_⟩⟩
          ·rw [if_neg c28] at H
           have c28b0 : (((a0a l0 x5_2).f2) == 0) = false := beq_eq_false_iff_ne.mpr c28
           have c28b1 : (((a0a l0 x5_2).f2) != 0) = true := bne_iff_ne.mpr c28
           by_cases c29 : ((a0a l0 x5_2).f2) = ((a0a l0 x5_2).f0)
           ·rw [if_pos c29] at H
            have c29b0 : (((a0a l0 x5_2).f2) == ((a0a l0 x5_2).f0)) = true := beq_iff_eq.mpr c29
            have c29b1 : (((a0a l0 x5_2).f2) != ((a0a l0 x5_2).f0)) = false := bne_eq_false_iff_eq.mpr c29
            clear c29
            have H' := am_ H
            clear H
            have p374 : 0 ≤ (x5_2 : Int) := ot_
            have q374 : x5_2 < (l0.length : Int) := ot_
            obtain ⟨ad374, e374, hx374_0, hx374_1, hx374_2⟩ := a2p HR0.out x5_2 p374 q374
            cases e374
            replace hx374_0 := qh_ HB hx374_0
            replace hx374_1 := qh_ HB hx374_1
            replace hx374_2 := qh_ HB hx374_2
            replace p374 := eq_true p374
            replace q374 := eq_true q374
            have p375 : 0 ≤ (x5_2 : Int) := ot_
            have q375 : x5_2 < (l0.length : Int) := ot_
            obtain ⟨ad375, e375, hx375_0, hx375_1, hx375_2⟩ := a2p HR0.out x5_2 p375 q375
            obtain rfl : ad374 = ad375 := (by injection e375)
            replace hx375_0 := qh_ HB hx375_0
            replace hx375_1 := qh_ HB hx375_1
            replace hx375_2 := qh_ HB hx375_2
            replace p375 := eq_true p375
            replace q375 := eq_true q375
            have p376 : 0 ≤ (x5_2 : Int) := ot_
            have q376 : x5_2 < (l0.length : Int) := ot_
            obtain ⟨ad376, e376, hx376_0, hx376_1, hx376_2⟩ := a2p HR0.out x5_2 p376 q376
            obtain rfl : ad374 = ad376 := (by injection e376)
            replace hx376_0 := qh_ HB hx376_0
            replace hx376_1 := qh_ HB hx376_1
            replace hx376_2 := qh_ HB hx376_2
            replace p376 := eq_true p376
            replace q376 := eq_true q376
            go_wp2
            repeat (go_quiet (fail); try go_wp2)
            go_meet
            case rel => exact ⟨_, (true), qs_, H', ⟨by have := HK1.out; have := HK2.out; first | omega | exact Nat.le_refl _⟩, ⟨qb_⟩⟩
           ·rw [if_neg c29] at H
            have c29b0 : (((a0a l0 x5_2).f2) == ((a0a l0 x5_2).f0)) = false := beq_eq_false_iff_ne.mpr c29
            have c29b1 : (((a0a l0 x5_2).f2) != ((a0a l0 x5_2).f0)) = true := bne_iff_ne.mpr c29
            replace H := bm_ H
            obtain ⟨t378, A300, H⟩ := H
            replace H : (a0i.j3 k2 l0 x5_2 (decide (t378 < 0))) = some r := H
            have A30 := am_ A300
            clear A300
            have H' := am_ H
            clear H
            have p374 : 0 ≤ (x5_2 : Int) := ot_
            have q374 : x5_2 < (l0.length : Int) := ot_
            obtain ⟨ad374, e374, hx374_0, hx374_1, hx374_2⟩ := a2p HR0.out x5_2 p374 q374
            cases e374
            replace hx374_0 := qh_ HB hx374_0
            replace hx374_1 := qh_ HB hx374_1
            replace hx374_2 := qh_ HB hx374_2
            replace p374 := eq_true p374
            replace q374 := eq_true q374
            have p375 : 0 ≤ (x5_2 : Int) := ot_
            have q375 : x5_2 < (l0.length : Int) := ot_
            obtain ⟨ad375, e375, hx375_0, hx375_1, hx375_2⟩ := a2p HR0.out x5_2 p375 q375
            obtain rfl : ad374 = ad375 := (by injection e375)
            replace hx375_0 := qh_ HB hx375_0
            replace hx375_1 := qh_ HB hx375_1
            replace hx375_2 := qh_ HB hx375_2
            replace p375 := eq_true p375
            replace q375 := eq_true q375
            have p376 : 0 ≤ (x5_2 : Int) := ot_
            have q376 : x5_2 < (l0.length : Int) := ot_
            obtain ⟨ad376, e376, hx376_0, hx376_1, hx376_2⟩ := a2p HR0.out x5_2 p376 q376
            obtain rfl : ad374 = ad376 := (by injection e376)
            replace hx376_0 := qh_ HB hx376_0
            replace hx376_1 := qh_ HB hx376_1
            replace hx376_2 := qh_ HB hx376_2
            replace p376 := eq_true p376
            replace q376 := eq_true q376
            have p377 : 0 ≤ (x5_2 : Int) := ot_
            have q377 : x5_2 < (l0.length : Int) := ot_
            obtain ⟨ad377, e377, hx377_0, hx377_1, hx377_2⟩ := a2p HR0.out x5_2 p377 q377
            obtain rfl : ad374 = ad377 := (by injection e377)
            replace hx377_0 := qh_ HB hx377_0
            replace hx377_1 := qh_ HB hx377_1
            replace hx377_2 := qh_ HB hx377_2
            replace p377 := eq_true p377
            replace q377 := eq_true q377
            go_wp2_with (first | (go_at_call 36; (with_reducible refine (a1r.calls k2 _ _ l0 ((a0a l0 x5_2).f2) t378 _ ?s1 ?s2 A30.out).mono ?_); (case s1 => exact qc_ HR0); (case s2 => exact HC0.out); rintro e w' ⟨rfl, ⟨nd, rfl⟩⟩; (try exact qw_)))
            repeat (go_quiet (first | (go_at_call 36; (with_reducible refine (a1r.calls k2 _ _ l0 ((a0a l0 x5_2).f2) t378 _ ?s1 ?s2 A30.out).mono ?_); (case s1 => exact qc_ HR0); (case s2 => exact HC0.out); rintro e w' ⟨rfl, ⟨nd, rfl⟩⟩; (try exact qw_))); try go_wp2_with (first | (go_at_call 36; (with_reducible refine (a1r.calls k2 _ _ l0 ((a0a l0 x5_2).f2) t378 _ ?s1 ?s2 A30.out).mono ?_); (case s1 => exact qc_ HR0); (case s2 => exact HC0.out); rintro e w' ⟨rfl, ⟨nd, rfl⟩⟩; (try exact qw_))))
            go_meet
            case rel => exact ⟨_, (decide (t378 < 0)), qs_, H', ⟨by have := HK1.out; have := HK2.out; first | omega | exact Nat.le_refl _⟩, ⟨qb_⟩⟩
         ·rw [if_neg c27] at H
          exact absurd H (by simp)
        case rest =>
         clear HC26
         try clear c1
         try clear c2
         try clear c2b0
         try clear c2b1
         try clear p2
         try clear c3
         try clear c3b0
         try clear p3
         try clear q3
         try clear hx3
         try clear c4
         try clear c4b0
         try clear p6
         try clear c8
         try clear c8b0
         try clear c10
         try clear c10b0
         try clear c12
         try clear c12b0
         try clear c14
         try clear c14b0
         try clear c15
         try clear c15b0
         try clear c16
         try clear c16b0
         try clear c18
         try clear c18b0
         try clear c21
         try clear c21b0
         try clear c24
         try clear c25
         try clear c25b0
         try clear c27
         try clear c27b0
         try clear c28
         try clear c28b0
         try clear c28b1
         try clear c29
         try clear c29b0
         try clear c29b1
         try clear z'11_0 z'11_1 z'11_2
         try clear z'17_0 z'17_1 z'17_2
         try clear z'19_0 z'19_1 z'19_2
         try clear z'20_0 z'20_1 z'20_2
         try clear z'22_0 z'22_1 z'22_2
         try clear z'23_0 z'23_1 z'23_2
         try clear z'7_0 z'7_1 z'7_2
         try clear z'9_0 z'9_1 z'9_2
         try clear y'11_0 y'11_1 y'11_2
         try clear y'17_0 y'17_1 y'17_2
         try clear y'19_0 y'19_1 y'19_2
         try clear y'20_0 y'20_1 y'20_2
         try clear y'22_0 y'22_1 y'22_2
         try clear y'23_0 y'23_1 y'23_2
         try clear y'7_0 y'7_1 y'7_2
         try clear y'9_0 y'9_1 y'9_2
         try clear hx371_0
         try clear hx371_1
         try clear hx371_2
         try clear hx373_0
         try clear hx373_1
         try clear hx373_2
         try clear hx374_0
         try clear hx374_1
         try clear hx374_2
         try clear hx375_0
         try clear hx375_1
         try clear hx375_2
         try clear hx376_0
         try clear hx376_1
         try clear hx376_2
         try clear hx377_0
         try clear hx377_1
         try clear hx377_2
         try clear p2
         try clear p3
         try clear p371
         try clear p373
         try clear p374
         try clear p375
         try clear p376
         try clear p377
         try clear p6
         try clear q3
         try clear q371
         try clear q373
         try clear q374
         try clear q375
         try clear q376
         try clear q377
         obtain ⟨kq, x86_25, rfl, HA, HJ25, HB⟩ := hcut
         cases kq with
         | zero => exact absurd HA.out (by simp [a0i.j3])
         | succ kj25 =>
          have H := HA.out
          clear HA
          simp only [a0i.j3] at H
          by_cases c31 : x86_25 = true
          ·subst c31
           have H1 : (some false) = some r := by rw [if_pos rfl] at H; exact H
           clear H
           have H := H1
           clear H1
           obtain rfl := si_ H
           go_wp2
           repeat (go_quiet (fail); try go_wp2)
           go_ret
           exact ⟨qx_, qb_⟩
          ·replace c31 := be_ c31
           subst c31
           have H1 : (a0i.l1 kj25 l0 (wrap64 (x5_2 + 1))) = some r := by rw [if_neg (show ¬ (false = true) by decide)] at H; exact H
           clear H
           have H := H1
           clear H1
           have H' := am_ H
           clear H
           go_wp2
           repeat (go_quiet (fail); try go_wp2)
           go_roundg kj25
           case measure => have := HK1.out; have := HK2.out; have := HJ25.out; omega
           case rel => exact ⟨(wrap64 (x5_2 + 1)), qs_, H', ⟨by have := HK1.out; have := HK2.out; have := HJ25.out; omega⟩, ⟨qb_⟩⟩
       ·rw [if_neg c25] at H
        have c25b0 : decide (x5_2 < (l0.length : Int)) = false := decide_eq_false c25
        clear c25
        obtain rfl := si_ H
        go_wp2
        repeat (go_quiet (fail); try go_wp2)
        go_ret
        exact ⟨qx_, qb_⟩
end Go.Proofs.Ytemnlgefngjliaa.Px
