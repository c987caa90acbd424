/- Contracts of Go functions, printed. Conditions: as each theorem states. -/
import Derived.Test.YtemnlgefngjliaaPx0
import Derived.Test.YtemnlgefngjliaaPx22
namespace Go.Proofs.Ytemnlgefngjliaa.Px
open Go.Proofs.Ytemnlgefngjliaa.Given
open Go.RowKit Go.Proofs.YtemnlgefngjliaaW.PrintWords Go.Proofs.YtemnlgefngjliaaW.PrintLast Go.Proofs.YtemnlgefngjliaaW.PrintMore
attribute [local go_sem] a2h a2i a2t a2u a1x a1y a2j a2k
set_option linter.unusedVariables false
set_option linter.unusedSimpArgs false
def a1q.l0 : Nat → Int → Int → Int → Int → Int → Int → List ByteArray → List (S43) → List Int → Option (Int)
 | 0, _, _, _, _, _, _, _, _, _ => none
 | k + 1, x1, x5, x6, u0, u1, u2, u3, u4, u5 => if x6 < (u4.length : Int) then (if 0 ≤ x6 then (if ((a0a u4 x6).f0) = x1 then (a1q.l0 k x1 x5 (wrap64 (x6 + 1)) u0 u1 u2 u3 u4 u5) else ((a3t.f k u0 u1 u2 u3 u4 u5 ((a0a u4 x6).f0) ((a0a u4 x6).f1) ((a0a u4 x6).f2)).bind fun t434 => (if t434 = x1 then (a1q.l0 k x1 (wrap64 (x5 + 1)) (wrap64 (x6 + 1)) u0 u1 u2 u3 u4 u5) else (a1q.l0 k x1 x5 (wrap64 (x6 + 1)) u0 u1 u2 u3 u4 u5)))) else (none)) else (some x5)
def a1q.f (k : Nat) (a0_0 a0_1 a0_2 : Int) (l0_3 : List ByteArray) (l0_4 : List (S43)) (l0_5 : List Int) (a1 : Int) : Option (Int) := a1q.l0 k a1 0 0 a0_0 a0_1 a0_2 l0_3 l0_4 l0_5
theorem a1q.a0v : ∀ k, (∀ y0 y1 y2 y3 y4 y5 y6 y7 y8, LeO (a1q.l0 k y0 y1 y2 y3 y4 y5 y6 y7 y8) (a1q.l0 (k + 1) y0 y1 y2 y3 y4 y5 y6 y7 y8))
 | 0 => fun _ _ _ _ _ _ _ _ _ r h => by simp [a1q.l0] at h
 | k + 1 => by
  have ih0 := a1q.a0v k
  ·intro y0 y1 y2 y3 y4 y5 y6 y7 y8
   unfold a1q.l0
   with_reducible (repeat' first | apply ih0 | apply a3t.mono | apply LeO.refl | apply LeO.none | apply LeO.ite | refine LeO.bind ?_ (fun _ => ?_))
theorem a1q.mono : ∀ a0 a1 a2 a3 a4 a5 a6 k, LeO (a1q.f k a0 a1 a2 a3 a4 a5 a6) (a1q.f (k + 1) a0 a1 a2 a3 a4 a5 a6) := by
 intro a0 a1 a2 a3 a4 a5 a6 k
 have ih0 := a1q.a0v k
 unfold a1q.f
 with_reducible (repeat' first | apply ih0 | apply a3t.mono | apply LeO.refl | apply LeO.none | apply LeO.ite | refine LeO.bind ?_ (fun _ => ?_))
def a1q.T5 : Bool × List (List Nat × List Nat) := (true, [([], []), ([0], [0]), ([], []), ([1, 2], [1, 2]), ([3], [3]), ([4], [4]), ([], []), ([5, 6], [5, 6]), ([7], [7]), ([8], [8]), ([8], [8]), ([10, 8], [8, 10]), ([8], [8]), ([11, 12, 8], [8, 11, 12]), ([13, 8], [8, 13]), ([9, 14, 8, 8], [8, 9, 14]), ([8], [8]), ([15, 16, 8], [8, 15, 16]), ([8, 17], [8, 17])])
def a1q.B5 : List Nat := [0, 1, 0, 7, 15, 31, 0, 127, 255, 511, 511, 1535, 511, 7679, 15871, 32767, 511, 131071, 262143]
theorem a1q.tab5 : rtab .any (opsOf Try.f50 5) = a1q.T5 := by kernel_rfl
theorem a1q.a9k : a4j a1q.T5.2 a1q.B5 = true := by kernel_rfl
set_option maxHeartbeats 8000000 in
set_option maxRecDepth 100000 in
theorem a1q.calls (k : Nat) (a0_0 a0_1 a0_2 : Int) (A0_3 : Option Addr) (c0_3 : Nat) (l0_3 : List ByteArray) (A0_4 : Option Addr) (c0_4 : Nat) (l0_4 : List (S43)) (A0_5 : Option Addr) (c0_5 : Nat) (l0_5 : List Int) (a1 r : Int) (w : World) (hr0_3 : Kd.C Kd.string w A0_3 l0_3.length l0_3) (hc0_3 : l0_3.length ≤ c0_3) (hr0_4 : Kd.C k43 w A0_4 l0_4.length l0_4) (hc0_4 : l0_4.length ≤ c0_4) (hr0_5 : Kd.C (Kd.int .i64) w A0_5 l0_5.length l0_5) (hc0_5 : l0_5.length ≤ c0_5) (h : a1q.f k a0_0 a0_1 a0_2 l0_3 l0_4 l0_5 a1 = some r) :
  Calls Try.prog 50 #[.agg #[.int .i64 a0_0, .int .i64 a0_1, .int .i64 a0_2, .slice A0_3 l0_3.length c0_3, .slice A0_4 l0_4.length c0_4, .slice A0_5 l0_5.length c0_5], .int .i64 a1] w fun e w' => e = .returned (.int .i64 r) ∧ Below w.heap.size w w' := by
 have hu30 := Try.underlying30
 have hu43 := Try.underlying43
 have HR0_3 := am_ hr0_3
 have HC0_3 := am_ hc0_3
 clear hr0_3 hc0_3
 have HR0_4 := am_ hr0_4
 have HC0_4 := am_ hc0_4
 clear hr0_4 hc0_4
 have HR0_5 := am_ hr0_5
 have HC0_5 := am_ hc0_5
 clear hr0_5 hc0_5
 have HB := am_ (Below.refl w.heap.size w)
 have H : (a1q.l0 k a1 0 0 a0_0 a0_1 a0_2 l0_3 l0_4 l0_5) = some r := h
 clear h
 have H' := am_ H
 clear H
 go_enter Try.func50, Try.ntmps50
 go_wp2_with (first | ((with_reducible refine a0d (N := 2) rfl ?_); refine qev_ 2 #[.int .i64 a0_0, .int .i64 a0_1, .int .i64 a0_2, .slice A0_3 l0_3.length c0_3, .slice A0_4 l0_4.length c0_4, .slice A0_5 l0_5.length c0_5] 30 ?_; intro gb431 hg w3 hbox hb; have BK431 := am_ (hbox); have GW431 := qga_ hg; have GE431 := qga_ hg; replace HB := qbs_ hb; clear hb hbox hg))
 go_loopg [5, 6] k (fun kq v5 v6 w' => ∃ (x5_1 : Int) (x6_1 : Int), v5 = .int .i64 x5_1 ∧ v6 = .int .i64 x6_1 ∧ Aside0 (a1q.l0 kq a1 x5_1 x6_1 a0_0 a0_1 a0_2 l0_3 l0_4 l0_5 = some r) ∧ Aside0 (kq ≤ k) ∧ Aside0 (w'.heap[gb431]? = some (.cells #[.int .i64 a0_0, .int .i64 a0_1, .int .i64 a0_2, (.slice A0_3 l0_3.length c0_3), (.slice A0_4 l0_4.length c0_4), (.slice A0_5 l0_5.length c0_5)] 30 (0, 0))) ∧ Aside0 (Below w.heap.size w w'))
 case atStart => exact ⟨(0), (0), qs_, qs_, H', ⟨Nat.le_refl _⟩, ⟨qk_ BK431⟩, ⟨qb_⟩⟩
 case round =>
  clear H'
  try clear p2
  obtain ⟨x5_1, x6_1, rfl, rfl, HA, HK1, BK431, HB⟩ := hrel
  cases gk with
  | zero => exact absurd HA.out (by simp [a1q.l0])
  | succ k1 =>
   have H := HA.out
   clear HA
   simp only [a1q.l0] at H
   by_cases c4 : x6_1 < (l0_4.length : Int)
   ·rw [if_pos c4] at H
    have c4b0 : decide (x6_1 < (l0_4.length : Int)) = true := decide_eq_true c4
    clear c4
    by_cases c5 : 0 ≤ x6_1
    ·rw [if_pos c5] at H
     have c5b0 : decide (0 ≤ x6_1) = true := decide_eq_true c5
     clear c5
     by_cases c6 : ((a0a l0_4 x6_1).f0) = a1
     ·rw [if_pos c6] at H
      have c6b0 : (((a0a l0_4 x6_1).f0) == a1) = true := beq_iff_eq.mpr c6
      have c6b1 : (((a0a l0_4 x6_1).f0) != a1) = false := bne_eq_false_iff_eq.mpr c6
      clear c6
      have H' := am_ H
      clear H
      obtain ⟨z'7_0, z'7_1, z'7_2, z'7_3, z'7_4, z'7_5⟩ := qz6_ BK431; obtain ⟨y'7_0, y'7_1, y'7_2, y'7_3, y'7_4, y'7_5⟩ := qf6_ BK431
      try go_wp2
      replace BK431 := am_ (bd_ BK431.out)
      replace HB := am_ (ld_ HB.out)
      have p432 : 0 ≤ (x6_1 : Int) := ot_
      have q432 : x6_1 < (l0_4.length : Int) := ot_
      obtain ⟨ad432, e432, hx432_0, hx432_1, hx432_2⟩ := a2d HR0_4.out x6_1 p432 q432
      have hw432_2 := hx432_2
      have hw432_1 := hx432_1
      have hw432_0 := hx432_0
      cases e432
      replace hx432_0 := qh_ HB hx432_0
      replace hx432_1 := qh_ HB hx432_1
      replace hx432_2 := qh_ HB hx432_2
      replace p432 := eq_true p432
      replace q432 := eq_true q432
      refine a4p (n := 19) (S := fun w' => w'.cell? ⟨gb431, 0, none⟩ = some (.int .i64 a0_0) ∧ w'.cell? ⟨gb431, 1, none⟩ = some (.int .i64 a0_1) ∧ w'.cell? ⟨gb431, 2, none⟩ = some (.int .i64 a0_2) ∧ w'.cell? ⟨gb431, 3, none⟩ = some (.slice A0_3 l0_3.length c0_3) ∧ w'.cell? ⟨gb431, 4, none⟩ = some (.slice (some ad432) l0_4.length c0_4) ∧ w'.cell? ⟨gb431, 5, none⟩ = some (.slice A0_5 l0_5.length c0_5) ∧ w'.cell? (ad432.add ((x6_1).toNat * 3)) = some (.int .i64 ((a0a l0_4 x6_1).f0)) ∧ w'.cell? ⟨(ad432.add ((x6_1).toNat * 3)).block, (ad432.add ((x6_1).toNat * 3)).off + 1, none⟩ = some (.int .i64 ((a0a l0_4 x6_1).f1)) ∧ w'.cell? ⟨(ad432.add ((x6_1).toNat * 3)).block, (ad432.add ((x6_1).toNat * 3)).off + 2, none⟩ = some (.int .i64 ((a0a l0_4 x6_1).f2))) (ds := []) #[i_,i_,i_,i_,i_,i_,i_,i_,i_,i_,i_,i_,i_,i_,i_,i_,i_,i_,i_] (by kernel_rfl) rfl rfl ⟨(bc_ BK431.out 0).trans rfl, (bc_ BK431.out 1).trans rfl, (bc_ BK431.out 2).trans rfl, (bc_ BK431.out 3).trans rfl, (bc_ BK431.out 4).trans rfl, (bc_ BK431.out 5).trans rfl, ((HB.out.cell (World.block_lt_of_cell? w _ hw432_0)).trans hw432_0), ((HB.out.cell (World.block_lt_of_cell? w _ hw432_1)).trans hw432_1), ((HB.out.cell (World.block_lt_of_cell? w _ hw432_2)).trans hw432_2)⟩ (fun hHeld => ?_); refine a3l a1q.tab5 a1q.a9k (fun HT_ HW_ => ?_)
      generalize wr.drew = w8 at BK431 HB hx432_0 hx432_1 hx432_2 hHeld ⊢
      refine qpu_ 0 (some 14) #[o_,i_,i_,i_,i_,i_,i_,i_,i_,i_,i_,i_,i_,i_,i_,i_,i_,i_,i_] ?_
      refine qpu_ 2 (some 16) #[o_,i_,o_,i_,i_,i_,i_,i_,i_,i_,i_,i_,i_,i_,i_,i_,i_,i_,i_] ?_
      refine qpu_ 6 (some 20) #[o_,i_,o_,i_,i_,i_,o_,i_,i_,i_,i_,i_,i_,i_,i_,i_,i_,i_,i_] ?_
      refine a2m (i := 1) (N := some 15) (v := ?_) (a' := ?_) #[o_,o_,o_,i_,i_,i_,o_,i_,i_,i_,i_,i_,i_,i_,i_,i_,i_,i_,i_] rfl rfl (a1m HT_.out HW_.out (by kernel_rfl)) (fun _ _ _ h => h) (Or.inl ⟨by rfl, ?_⟩) hHeld ?_ ?_
      rotate_left
      ·rintro w' ⟨s0, s1, s2, s3, s4, s5, s6, s7, s8⟩
       go_simp
       with_reducible rfl
      rotate_left
      ·exact qp_
      refine qpu_ 3 (some 17) #[o_,o_,o_,o_,i_,i_,o_,i_,i_,i_,i_,i_,i_,i_,i_,i_,i_,i_,i_] ?_
      refine qpu_ 4 (some 18) #[o_,o_,o_,o_,o_,i_,o_,i_,i_,i_,i_,i_,i_,i_,i_,i_,i_,i_,i_] ?_
      refine a2m (i := 5) (N := some 19) (v := ?_) (a' := ?_) #[o_,o_,o_,o_,o_,o_,o_,i_,i_,i_,i_,i_,i_,i_,i_,i_,i_,i_,i_] rfl rfl (a1m HT_.out HW_.out (by kernel_rfl)) (fun _ _ _ h => h) (Or.inl ⟨by rfl, ?_⟩) hHeld ?_ ?_
      rotate_left
      ·rintro w' ⟨s0, s1, s2, s3, s4, s5, s6, s7, s8⟩
       go_simp
       with_reducible rfl
      rotate_left
      ·exact qp_
      refine qpu_ 7 (some 21) #[o_,o_,o_,o_,o_,o_,o_,o_,i_,i_,i_,i_,i_,i_,i_,i_,i_,i_,i_] ?_
      refine qpu_ 8 (some 22) #[o_,o_,o_,o_,o_,o_,o_,o_,o_,i_,i_,i_,i_,i_,i_,i_,i_,i_,i_] ?_
      refine qpv_ 9 (some 23) #[o_,o_,o_,o_,o_,o_,o_,o_,o_,o_,i_,i_,i_,i_,i_,i_,i_,i_,i_] ?_
      refine qpv_ 10 (some 24) #[o_,o_,o_,o_,o_,o_,o_,o_,o_,o_,o_,i_,i_,i_,i_,i_,i_,i_,i_] ?_
      refine qpv_ 11 (some 25) #[o_,o_,o_,o_,o_,o_,o_,o_,o_,o_,o_,o_,i_,i_,i_,i_,i_,i_,i_] ?_
      refine qpv_ 12 (some 26) #[o_,o_,o_,o_,o_,o_,o_,o_,o_,o_,o_,o_,o_,i_,i_,i_,i_,i_,i_] ?_
      refine qpv_ 13 (some 27) #[o_,o_,o_,o_,o_,o_,o_,o_,o_,o_,o_,o_,o_,o_,i_,i_,i_,i_,i_] ?_
      refine qpv_ 14 (some 28) #[o_,o_,o_,o_,o_,o_,o_,o_,o_,o_,o_,o_,o_,o_,o_,i_,i_,i_,i_] ?_
      refine qpv_ 15 (some 29) #[o_,o_,o_,o_,o_,o_,o_,o_,o_,o_,o_,o_,o_,o_,o_,o_,i_,i_,i_] ?_
      refine qpv_ 16 (some 30) #[o_,o_,o_,o_,o_,o_,o_,o_,o_,o_,o_,o_,o_,o_,o_,o_,o_,i_,i_] ?_
      refine qpv_ 17 (some 31) #[o_,o_,o_,o_,o_,o_,o_,o_,o_,o_,o_,o_,o_,o_,o_,o_,o_,o_,i_] ?_
      refine qpu_ 18 (some 32) #[o_,o_,o_,o_,o_,o_,o_,o_,o_,o_,o_,o_,o_,o_,o_,o_,o_,o_,o_] ?_
      refine a4y (a4c HT_.out (by kernel_rfl)) ?_
      try go_wp2
      go_roundg k1
      case measure => have := HK1.out; omega
      case rel => exact ⟨(x5_1), (wrap64 (x6_1 + 1)), qs_, qs_, H', ⟨by have := HK1.out; omega⟩, ⟨qk_ BK431⟩, ⟨qb_⟩⟩
     ·rw [if_neg c6] at H
      have c6b0 : (((a0a l0_4 x6_1).f0) == a1) = false := beq_eq_false_iff_ne.mpr c6
      have c6b1 : (((a0a l0_4 x6_1).f0) != a1) = true := bne_iff_ne.mpr c6
      replace H := bm_ H
      obtain ⟨t434, A90, H⟩ := H
      replace H : (if t434 = a1 then (a1q.l0 k1 a1 (wrap64 (x5_1 + 1)) (wrap64 (x6_1 + 1)) a0_0 a0_1 a0_2 l0_3 l0_4 l0_5) else (a1q.l0 k1 a1 x5_1 (wrap64 (x6_1 + 1)) a0_0 a0_1 a0_2 l0_3 l0_4 l0_5)) = some r := H
      have A9 := am_ A90
      clear A90
      by_cases c10 : t434 = a1
      ·rw [if_pos c10] at H
       have c10b0 : (t434 == a1) = true := beq_iff_eq.mpr c10
       have c10b1 : (t434 != a1) = false := bne_eq_false_iff_eq.mpr c10
       clear c10
       have H' := am_ H
       clear H
       obtain ⟨z'11_0, z'11_1, z'11_2, z'11_3, z'11_4, z'11_5⟩ := qz6_ BK431; obtain ⟨y'11_0, y'11_1, y'11_2, y'11_3, y'11_4, y'11_5⟩ := qf6_ BK431
       try go_wp2
       replace BK431 := am_ (bd_ BK431.out)
       replace HB := am_ (ld_ HB.out)
       have p432 : 0 ≤ (x6_1 : Int) := ot_
       have q432 : x6_1 < (l0_4.length : Int) := ot_
       obtain ⟨ad432, e432, hx432_0, hx432_1, hx432_2⟩ := a2d HR0_4.out x6_1 p432 q432
       have hw432_2 := hx432_2
       have hw432_1 := hx432_1
       have hw432_0 := hx432_0
       cases e432
       replace hx432_0 := qh_ HB hx432_0
       replace hx432_1 := qh_ HB hx432_1
       replace hx432_2 := qh_ HB hx432_2
       replace p432 := eq_true p432
       replace q432 := eq_true q432
       have p433 : 0 ≤ (x6_1 : Int) := ot_
       have q433 : x6_1 < (l0_4.length : Int) := ot_
       obtain ⟨ad433, e433, hx433_0, hx433_1, hx433_2⟩ := a2d HR0_4.out x6_1 p433 q433
       have hw433_2 := hx433_2
       have hw433_1 := hx433_1
       have hw433_0 := hx433_0
       obtain rfl : ad432 = ad433 := (by injection e433)
       replace hx433_0 := qh_ HB hx433_0
       replace hx433_1 := qh_ HB hx433_1
       replace hx433_2 := qh_ HB hx433_2
       replace p433 := eq_true p433
       replace q433 := eq_true q433
       refine a4p (n := 19) (S := fun w' => w'.cell? ⟨gb431, 0, none⟩ = some (.int .i64 a0_0) ∧ w'.cell? ⟨gb431, 1, none⟩ = some (.int .i64 a0_1) ∧ w'.cell? ⟨gb431, 2, none⟩ = some (.int .i64 a0_2) ∧ w'.cell? ⟨gb431, 3, none⟩ = some (.slice A0_3 l0_3.length c0_3) ∧ w'.cell? ⟨gb431, 4, none⟩ = some (.slice (some ad432) l0_4.length c0_4) ∧ w'.cell? ⟨gb431, 5, none⟩ = some (.slice A0_5 l0_5.length c0_5) ∧ w'.cell? (ad432.add ((x6_1).toNat * 3)) = some (.int .i64 ((a0a l0_4 x6_1).f0)) ∧ w'.cell? ⟨(ad432.add ((x6_1).toNat * 3)).block, (ad432.add ((x6_1).toNat * 3)).off + 1, none⟩ = some (.int .i64 ((a0a l0_4 x6_1).f1)) ∧ w'.cell? ⟨(ad432.add ((x6_1).toNat * 3)).block, (ad432.add ((x6_1).toNat * 3)).off + 2, none⟩ = some (.int .i64 ((a0a l0_4 x6_1).f2)) ∧ w'.cell? (ad432.add ((x6_1).toNat * 3)) = some (.int .i64 ((a0a l0_4 x6_1).f0)) ∧ w'.cell? ⟨(ad432.add ((x6_1).toNat * 3)).block, (ad432.add ((x6_1).toNat * 3)).off + 1, none⟩ = some (.int .i64 ((a0a l0_4 x6_1).f1)) ∧ w'.cell? ⟨(ad432.add ((x6_1).toNat * 3)).block, (ad432.add ((x6_1).toNat * 3)).off + 2, none⟩ = some (.int .i64 ((a0a l0_4 x6_1).f2))) (ds := []) #[i_,i_,i_,i_,i_,i_,i_,i_,i_,i_,i_,i_,i_,i_,i_,i_,i_,i_,i_] (by kernel_rfl) rfl rfl ⟨(bc_ BK431.out 0).trans rfl, (bc_ BK431.out 1).trans rfl, (bc_ BK431.out 2).trans rfl, (bc_ BK431.out 3).trans rfl, (bc_ BK431.out 4).trans rfl, (bc_ BK431.out 5).trans rfl, ((HB.out.cell (World.block_lt_of_cell? w _ hw432_0)).trans hw432_0), ((HB.out.cell (World.block_lt_of_cell? w _ hw432_1)).trans hw432_1), ((HB.out.cell (World.block_lt_of_cell? w _ hw432_2)).trans hw432_2), ((HB.out.cell (World.block_lt_of_cell? w _ hw433_0)).trans hw433_0), ((HB.out.cell (World.block_lt_of_cell? w _ hw433_1)).trans hw433_1), ((HB.out.cell (World.block_lt_of_cell? w _ hw433_2)).trans hw433_2)⟩ (fun hHeld => ?_); refine a3l a1q.tab5 a1q.a9k (fun HT_ HW_ => ?_)
       generalize wr.drew = w12 at BK431 HB hx432_0 hx432_1 hx432_2 hx433_0 hx433_1 hx433_2 hHeld ⊢
       refine qpu_ 0 (some 14) #[o_,i_,i_,i_,i_,i_,i_,i_,i_,i_,i_,i_,i_,i_,i_,i_,i_,i_,i_] ?_
       refine qpu_ 2 (some 16) #[o_,i_,o_,i_,i_,i_,i_,i_,i_,i_,i_,i_,i_,i_,i_,i_,i_,i_,i_] ?_
       refine qpu_ 6 (some 20) #[o_,i_,o_,i_,i_,i_,o_,i_,i_,i_,i_,i_,i_,i_,i_,i_,i_,i_,i_] ?_
       refine a2m (i := 1) (N := some 15) (v := ?_) (a' := ?_) #[o_,o_,o_,i_,i_,i_,o_,i_,i_,i_,i_,i_,i_,i_,i_,i_,i_,i_,i_] rfl rfl (a1m HT_.out HW_.out (by kernel_rfl)) (fun _ _ _ h => h) (Or.inl ⟨by rfl, ?_⟩) hHeld ?_ ?_
       rotate_left
       ·rintro w' ⟨s0, s1, s2, s3, s4, s5, s6, s7, s8, s9, s10, s11⟩
        go_simp
        with_reducible rfl
       rotate_left
       ·exact qp_
       refine qpu_ 3 (some 17) #[o_,o_,o_,o_,i_,i_,o_,i_,i_,i_,i_,i_,i_,i_,i_,i_,i_,i_,i_] ?_
       refine qpu_ 4 (some 18) #[o_,o_,o_,o_,o_,i_,o_,i_,i_,i_,i_,i_,i_,i_,i_,i_,i_,i_,i_] ?_
       refine a2m (i := 5) (N := some 19) (v := ?_) (a' := ?_) #[o_,o_,o_,o_,o_,o_,o_,i_,i_,i_,i_,i_,i_,i_,i_,i_,i_,i_,i_] rfl rfl (a1m HT_.out HW_.out (by kernel_rfl)) (fun _ _ _ h => h) (Or.inl ⟨by rfl, ?_⟩) hHeld ?_ ?_
       rotate_left
       ·rintro w' ⟨s0, s1, s2, s3, s4, s5, s6, s7, s8, s9, s10, s11⟩
        go_simp
        with_reducible rfl
       rotate_left
       ·exact qp_
       refine qpu_ 7 (some 21) #[o_,o_,o_,o_,o_,o_,o_,o_,i_,i_,i_,i_,i_,i_,i_,i_,i_,i_,i_] ?_
       refine qpu_ 8 (some 22) #[o_,o_,o_,o_,o_,o_,o_,o_,o_,i_,i_,i_,i_,i_,i_,i_,i_,i_,i_] ?_
       refine qpu_ 10 (some 24) #[o_,o_,o_,o_,o_,o_,o_,o_,o_,i_,o_,i_,i_,i_,i_,i_,i_,i_,i_] ?_
       refine qpu_ 12 (some 26) #[o_,o_,o_,o_,o_,o_,o_,o_,o_,i_,o_,i_,o_,i_,i_,i_,i_,i_,i_] ?_
       refine qpu_ 16 (some 30) #[o_,o_,o_,o_,o_,o_,o_,o_,o_,i_,o_,i_,o_,i_,i_,i_,o_,i_,i_] ?_
       refine a2m (i := 9) (N := some 23) (v := ?_) (a' := ?_) #[o_,o_,o_,o_,o_,o_,o_,o_,o_,o_,o_,i_,o_,i_,i_,i_,o_,i_,i_] rfl rfl (a1m HT_.out HW_.out (by kernel_rfl)) (fun _ _ _ h => h) (Or.inl ⟨by rfl, ?_⟩) hHeld ?_ ?_
       rotate_left
       ·rintro w' ⟨s0, s1, s2, s3, s4, s5, s6, s7, s8, s9, s10, s11⟩
        go_simp
        with_reducible rfl
       rotate_left
       ·exact qp_
       refine a2m (i := 11) (N := some 25) (v := ?_) (a' := ?_) #[o_,o_,o_,o_,o_,o_,o_,o_,o_,o_,o_,o_,o_,i_,i_,i_,o_,i_,i_] rfl rfl (a1m HT_.out HW_.out (by kernel_rfl)) (fun _ _ _ h => h) (Or.inl ⟨by rfl, ?_⟩) hHeld ?_ ?_
       rotate_left
       ·rintro w' ⟨s0, s1, s2, s3, s4, s5, s6, s7, s8, s9, s10, s11⟩
        go_simp
        with_reducible rfl
       rotate_left
       ·exact qp_
       refine qpu_ 13 (some 27) #[o_,o_,o_,o_,o_,o_,o_,o_,o_,o_,o_,o_,o_,o_,i_,i_,o_,i_,i_] ?_
       refine a2m (i := 14) (N := some 28) (v := ?_) (a' := ?_) #[o_,o_,o_,o_,o_,o_,o_,o_,o_,o_,o_,o_,o_,o_,o_,i_,o_,i_,i_] rfl rfl (a1m HT_.out HW_.out (by kernel_rfl)) (fun _ _ _ h => h) (Or.inl ⟨by rfl, ?_⟩) hHeld ?_ ?_
       rotate_left
       ·rintro w' ⟨s0, s1, s2, s3, s4, s5, s6, s7, s8, s9, s10, s11⟩
        go_simp
        with_reducible rfl
       rotate_left
       ·exact qp_
       refine one_ (i := 15) (N := some 29) #[o_,o_,o_,o_,o_,o_,o_,o_,o_,o_,o_,o_,o_,o_,o_,o_,o_,i_,i_] rfl rfl (a3j HT_.out (by kernel_rfl)) (by decide) (fun K hK => ?_)
       refine a4h Try.func37 (by kernel_rfl) rfl #[.agg #[.int .i64 a0_0, .int .i64 a0_1, .int .i64 a0_2, .slice A0_3 l0_3.length c0_3, .slice (some ad432) l0_4.length c0_4, .slice A0_5 l0_5.length c0_5], .agg #[.int .i64 ((a0a l0_4 x6_1).f0), .int .i64 ((a0a l0_4 x6_1).f1), .int .i64 ((a0a l0_4 x6_1).f2)]] (by rfl) rfl rfl ql_ ?_
       with_reducible refine (a3t.calls k1 a0_0 a0_1 a0_2 _ _ l0_3 _ _ l0_4 _ _ l0_5 ((a0a l0_4 x6_1).f0) ((a0a l0_4 x6_1).f1) ((a0a l0_4 x6_1).f2) t434 _ ?s1 ?s2 ?s3 ?s4 ?s5 ?s6 A9.out).mono ?_
       (case s1 => exact qc_ HR0_3)
       (case s2 => exact HC0_3.out)
       (case s3 => exact qc_ HR0_4)
       (case s4 => exact HC0_4.out)
       (case s5 => exact qc_ HR0_5)
       (case s6 => exact HC0_5.out)
       rintro e w13 ⟨rfl, hb⟩
       refine ⟨_, rfl, ?_⟩
       replace BK431 := qkb_ BK431 hb
       replace HB := qbs_ hb
       (try clear hb)
       (try clear hb2)
       (try clear hk)
       (try clear hi)
       refine hK.out _ _ ⟨(bc_ BK431.out 0).trans rfl, (bc_ BK431.out 1).trans rfl, (bc_ BK431.out 2).trans rfl, (bc_ BK431.out 3).trans rfl, (bc_ BK431.out 4).trans rfl, (bc_ BK431.out 5).trans rfl, ((HB.out.cell (World.block_lt_of_cell? w _ hw432_0)).trans hw432_0), ((HB.out.cell (World.block_lt_of_cell? w _ hw432_1)).trans hw432_1), ((HB.out.cell (World.block_lt_of_cell? w _ hw432_2)).trans hw432_2), ((HB.out.cell (World.block_lt_of_cell? w _ hw433_0)).trans hw433_0), ((HB.out.cell (World.block_lt_of_cell? w _ hw433_1)).trans hw433_1), ((HB.out.cell (World.block_lt_of_cell? w _ hw433_2)).trans hw433_2)⟩ (fun hHeld => ?_)
       clear hK K
       refine a4b (a' := ?_) ?_ ?_
       rotate_left
       ·show Act.put _ (some 29) _ = _
        exact qp_
       refine qpu_ 17 (some 31) #[o_,o_,o_,o_,o_,o_,o_,o_,o_,o_,o_,o_,o_,o_,o_,o_,o_,o_,i_] ?_
       refine qpu_ 18 (some 32) #[o_,o_,o_,o_,o_,o_,o_,o_,o_,o_,o_,o_,o_,o_,o_,o_,o_,o_,o_] ?_
       refine a4y (a4c HT_.out (by kernel_rfl)) ?_
       try go_wp2
       go_roundg k1
       case measure => have := HK1.out; omega
       case rel => exact ⟨(wrap64 (x5_1 + 1)), (wrap64 (x6_1 + 1)), qs_, qs_, H', ⟨by have := HK1.out; omega⟩, ⟨qk_ BK431⟩, ⟨qb_⟩⟩
      ·rw [if_neg c10] at H
       have c10b0 : (t434 == a1) = false := beq_eq_false_iff_ne.mpr c10
       have c10b1 : (t434 != a1) = true := bne_iff_ne.mpr c10
       have H' := am_ H
       clear H
       obtain ⟨z'14_0, z'14_1, z'14_2, z'14_3, z'14_4, z'14_5⟩ := qz6_ BK431; obtain ⟨y'14_0, y'14_1, y'14_2, y'14_3, y'14_4, y'14_5⟩ := qf6_ BK431
       try go_wp2
       replace BK431 := am_ (bd_ BK431.out)
       replace HB := am_ (ld_ HB.out)
       have p432 : 0 ≤ (x6_1 : Int) := ot_
       have q432 : x6_1 < (l0_4.length : Int) := ot_
       obtain ⟨ad432, e432, hx432_0, hx432_1, hx432_2⟩ := a2d HR0_4.out x6_1 p432 q432
       have hw432_2 := hx432_2
       have hw432_1 := hx432_1
       have hw432_0 := hx432_0
       cases e432
       replace hx432_0 := qh_ HB hx432_0
       replace hx432_1 := qh_ HB hx432_1
       replace hx432_2 := qh_ HB hx432_2
       replace p432 := eq_true p432
       replace q432 := eq_true q432
       have p433 : 0 ≤ (x6_1 : Int) := ot_
       have q433 : x6_1 < (l0_4.length : Int) := ot_
       obtain ⟨ad433, e433, hx433_0, hx433_1, hx433_2⟩ := a2d HR0_4.out x6_1 p433 q433
       have hw433_2 := hx433_2
       have hw433_1 := hx433_1
       have hw433_0 := hx433_0
       obtain rfl : ad432 = ad433 := (by injection e433)
       replace hx433_0 := qh_ HB hx433_0
       replace hx433_1 := qh_ HB hx433_1
       replace hx433_2 := qh_ HB hx433_2
       replace p433 := eq_true p433
       replace q433 := eq_true q433
       refine a4p (n := 19) (S := fun w' => w'.cell? ⟨gb431, 0, none⟩ = some (.int .i64 a0_0) ∧ w'.cell? ⟨gb431, 1, none⟩ = some (.int .i64 a0_1) ∧ w'.cell? ⟨gb431, 2, none⟩ = some (.int .i64 a0_2) ∧ w'.cell? ⟨gb431, 3, none⟩ = some (.slice A0_3 l0_3.length c0_3) ∧ w'.cell? ⟨gb431, 4, none⟩ = some (.slice (some ad432) l0_4.length c0_4) ∧ w'.cell? ⟨gb431, 5, none⟩ = some (.slice A0_5 l0_5.length c0_5) ∧ w'.cell? (ad432.add ((x6_1).toNat * 3)) = some (.int .i64 ((a0a l0_4 x6_1).f0)) ∧ w'.cell? ⟨(ad432.add ((x6_1).toNat * 3)).block, (ad432.add ((x6_1).toNat * 3)).off + 1, none⟩ = some (.int .i64 ((a0a l0_4 x6_1).f1)) ∧ w'.cell? ⟨(ad432.add ((x6_1).toNat * 3)).block, (ad432.add ((x6_1).toNat * 3)).off + 2, none⟩ = some (.int .i64 ((a0a l0_4 x6_1).f2)) ∧ w'.cell? (ad432.add ((x6_1).toNat * 3)) = some (.int .i64 ((a0a l0_4 x6_1).f0)) ∧ w'.cell? ⟨(ad432.add ((x6_1).toNat * 3)).block, (ad432.add ((x6_1).toNat * 3)).off + 1, none⟩ = some (.int .i64 ((a0a l0_4 x6_1).f1)) ∧ w'.cell? ⟨(ad432.add ((x6_1).toNat * 3)).block, (ad432.add ((x6_1).toNat * 3)).off + 2, none⟩ = some (.int .i64 ((a0a l0_4 x6_1).f2))) (ds := []) #[i_,i_,i_,i_,i_,i_,i_,i_,i_,i_,i_,i_,i_,i_,i_,i_,i_,i_,i_] (by kernel_rfl) rfl rfl ⟨(bc_ BK431.out 0).trans rfl, (bc_ BK431.out 1).trans rfl, (bc_ BK431.out 2).trans rfl, (bc_ BK431.out 3).trans rfl, (bc_ BK431.out 4).trans rfl, (bc_ BK431.out 5).trans rfl, ((HB.out.cell (World.block_lt_of_cell? w _ hw432_0)).trans hw432_0), ((HB.out.cell (World.block_lt_of_cell? w _ hw432_1)).trans hw432_1), ((HB.out.cell (World.block_lt_of_cell? w _ hw432_2)).trans hw432_2), ((HB.out.cell (World.block_lt_of_cell? w _ hw433_0)).trans hw433_0), ((HB.out.cell (World.block_lt_of_cell? w _ hw433_1)).trans hw433_1), ((HB.out.cell (World.block_lt_of_cell? w _ hw433_2)).trans hw433_2)⟩ (fun hHeld => ?_); refine a3l a1q.tab5 a1q.a9k (fun HT_ HW_ => ?_)
       generalize wr.drew = w15 at BK431 HB hx432_0 hx432_1 hx432_2 hx433_0 hx433_1 hx433_2 hHeld ⊢
       refine qpu_ 0 (some 14) #[o_,i_,i_,i_,i_,i_,i_,i_,i_,i_,i_,i_,i_,i_,i_,i_,i_,i_,i_] ?_
       refine qpu_ 2 (some 16) #[o_,i_,o_,i_,i_,i_,i_,i_,i_,i_,i_,i_,i_,i_,i_,i_,i_,i_,i_] ?_
       refine qpu_ 6 (some 20) #[o_,i_,o_,i_,i_,i_,o_,i_,i_,i_,i_,i_,i_,i_,i_,i_,i_,i_,i_] ?_
       refine a2m (i := 1) (N := some 15) (v := ?_) (a' := ?_) #[o_,o_,o_,i_,i_,i_,o_,i_,i_,i_,i_,i_,i_,i_,i_,i_,i_,i_,i_] rfl rfl (a1m HT_.out HW_.out (by kernel_rfl)) (fun _ _ _ h => h) (Or.inl ⟨by rfl, ?_⟩) hHeld ?_ ?_
       rotate_left
       ·rintro w' ⟨s0, s1, s2, s3, s4, s5, s6, s7, s8, s9, s10, s11⟩
        go_simp
        with_reducible rfl
       rotate_left
       ·exact qp_
       refine qpu_ 3 (some 17) #[o_,o_,o_,o_,i_,i_,o_,i_,i_,i_,i_,i_,i_,i_,i_,i_,i_,i_,i_] ?_
       refine qpu_ 4 (some 18) #[o_,o_,o_,o_,o_,i_,o_,i_,i_,i_,i_,i_,i_,i_,i_,i_,i_,i_,i_] ?_
       refine a2m (i := 5) (N := some 19) (v := ?_) (a' := ?_) #[o_,o_,o_,o_,o_,o_,o_,i_,i_,i_,i_,i_,i_,i_,i_,i_,i_,i_,i_] rfl rfl (a1m HT_.out HW_.out (by kernel_rfl)) (fun _ _ _ h => h) (Or.inl ⟨by rfl, ?_⟩) hHeld ?_ ?_
       rotate_left
       ·rintro w' ⟨s0, s1, s2, s3, s4, s5, s6, s7, s8, s9, s10, s11⟩
        go_simp
        with_reducible rfl
       rotate_left
       ·exact qp_
       refine qpu_ 7 (some 21) #[o_,o_,o_,o_,o_,o_,o_,o_,i_,i_,i_,i_,i_,i_,i_,i_,i_,i_,i_] ?_
       refine qpu_ 8 (some 22) #[o_,o_,o_,o_,o_,o_,o_,o_,o_,i_,i_,i_,i_,i_,i_,i_,i_,i_,i_] ?_
       refine qpu_ 10 (some 24) #[o_,o_,o_,o_,o_,o_,o_,o_,o_,i_,o_,i_,i_,i_,i_,i_,i_,i_,i_] ?_
       refine qpu_ 12 (some 26) #[o_,o_,o_,o_,o_,o_,o_,o_,o_,i_,o_,i_,o_,i_,i_,i_,i_,i_,i_] ?_
       refine qpu_ 16 (some 30) #[o_,o_,o_,o_,o_,o_,o_,o_,o_,i_,o_,i_,o_,i_,i_,i_,o_,i_,i_] ?_
       refine a2m (i := 9) (N := some 23) (v := ?_) (a' := ?_) #[o_,o_,o_,o_,o_,o_,o_,o_,o_,o_,o_,i_,o_,i_,i_,i_,o_,i_,i_] rfl rfl (a1m HT_.out HW_.out (by kernel_rfl)) (fun _ _ _ h => h) (Or.inl ⟨by rfl, ?_⟩) hHeld ?_ ?_
       rotate_left
       ·rintro w' ⟨s0, s1, s2, s3, s4, s5, s6, s7, s8, s9, s10, s11⟩
        go_simp
        with_reducible rfl
       rotate_left
       ·exact qp_
       refine a2m (i := 11) (N := some 25) (v := ?_) (a' := ?_) #[o_,o_,o_,o_,o_,o_,o_,o_,o_,o_,o_,o_,o_,i_,i_,i_,o_,i_,i_] rfl rfl (a1m HT_.out HW_.out (by kernel_rfl)) (fun _ _ _ h => h) (Or.inl ⟨by rfl, ?_⟩) hHeld ?_ ?_
       rotate_left
       ·rintro w' ⟨s0, s1, s2, s3, s4, s5, s6, s7, s8, s9, s10, s11⟩
        go_simp
        with_reducible rfl
       rotate_left
       ·exact qp_
       refine qpu_ 13 (some 27) #[o_,o_,o_,o_,o_,o_,o_,o_,o_,o_,o_,o_,o_,o_,i_,i_,o_,i_,i_] ?_
       refine a2m (i := 14) (N := some 28) (v := ?_) (a' := ?_) #[o_,o_,o_,o_,o_,o_,o_,o_,o_,o_,o_,o_,o_,o_,o_,i_,o_,i_,i_] rfl rfl (a1m HT_.out HW_.out (by kernel_rfl)) (fun _ _ _ h => h) (Or.inl ⟨by rfl, ?_⟩) hHeld ?_ ?_
       rotate_left
       ·rintro w' ⟨s0, s1, s2, s3, s4, s5, s6, s7, s8, s9, s10, s11⟩
        go_simp
        with_reducible rfl
       rotate_left
       ·exact qp_
       refine one_ (i := 15) (N := some 29) #[o_,o_,o_,o_,o_,o_,o_,o_,o_,o_,o_,o_,o_,o_,o_,o_,o_,i_,i_] rfl rfl (a3j HT_.out (by kernel_rfl)) (by decide) (fun K hK => ?_)
       refine a4h Try.func37 (by kernel_rfl) rfl #[.agg #[.int .i64 a0_0, .int .i64 a0_1, .int .i64 a0_2, .slice A0_3 l0_3.length c0_3, .slice (some ad432) l0_4.length c0_4, .slice A0_5 l0_5.length c0_5], .agg #[.int .i64 ((a0a l0_4 x6_1).f0), .int .i64 ((a0a l0_4 x6_1).f1), .int .i64 ((a0a l0_4 x6_1).f2)]] (by rfl) rfl rfl ql_ ?_
       with_reducible refine (a3t.calls k1 a0_0 a0_1 a0_2 _ _ l0_3 _ _ l0_4 _ _ l0_5 ((a0a l0_4 x6_1).f0) ((a0a l0_4 x6_1).f1) ((a0a l0_4 x6_1).f2) t434 _ ?s1 ?s2 ?s3 ?s4 ?s5 ?s6 A9.out).mono ?_
       (case s1 => exact qc_ HR0_3)
       (case s2 => exact HC0_3.out)
       (case s3 => exact qc_ HR0_4)
       (case s4 => exact HC0_4.out)
       (case s5 => exact qc_ HR0_5)
       (case s6 => exact HC0_5.out)
       rintro e w16 ⟨rfl, hb⟩
       refine ⟨_, rfl, ?_⟩
       replace BK431 := qkb_ BK431 hb
       replace HB := qbs_ hb
       (try clear hb)
       (try clear hb2)
       (try clear hk)
       (try clear hi)
       refine hK.out _ _ ⟨(bc_ BK431.out 0).trans rfl, (bc_ BK431.out 1).trans rfl, (bc_ BK431.out 2).trans rfl, (bc_ BK431.out 3).trans rfl, (bc_ BK431.out 4).trans rfl, (bc_ BK431.out 5).trans rfl, ((HB.out.cell (World.block_lt_of_cell? w _ hw432_0)).trans hw432_0), ((HB.out.cell (World.block_lt_of_cell? w _ hw432_1)).trans hw432_1), ((HB.out.cell (World.block_lt_of_cell? w _ hw432_2)).trans hw432_2), ((HB.out.cell (World.block_lt_of_cell? w _ hw433_0)).trans hw433_0), ((HB.out.cell (World.block_lt_of_cell? w _ hw433_1)).trans hw433_1), ((HB.out.cell (World.block_lt_of_cell? w _ hw433_2)).trans hw433_2)⟩ (fun hHeld => ?_)
       clear hK K
       refine a4b (a' := ?_) ?_ ?_
       rotate_left
       ·show Act.put _ (some 29) _ = _
        exact qp_
       refine qpu_ 17 (some 31) #[o_,o_,o_,o_,o_,o_,o_,o_,o_,o_,o_,o_,o_,o_,o_,o_,o_,o_,i_] ?_
       refine qpu_ 18 (some 32) #[o_,o_,o_,o_,o_,o_,o_,o_,o_,o_,o_,o_,o_,o_,o_,o_,o_,o_,o_] ?_
       refine a4y (a4c HT_.out (by kernel_rfl)) ?_
       try go_wp2
       go_roundg k1
       case measure => have := HK1.out; omega
       case rel => exact ⟨(x5_1), (wrap64 (x6_1 + 1)), qs_, qs_, H', ⟨by have := HK1.out; omega⟩, ⟨qk_ BK431⟩, ⟨qb_⟩⟩
    ·rw [if_neg c5] at H
     exact absurd H (by simp)
   ·rw [if_neg c4] at H
    have c4b0 : decide (x6_1 < (l0_4.length : Int)) = false := decide_eq_false c4
    clear c4
    obtain rfl := si_ H
    obtain ⟨z'17_0, z'17_1, z'17_2, z'17_3, z'17_4, z'17_5⟩ := qz6_ BK431; obtain ⟨y'17_0, y'17_1, y'17_2, y'17_3, y'17_4, y'17_5⟩ := qf6_ BK431
    go_wp2
    go_ret
    exact ⟨qx_, qb_⟩
end Go.Proofs.Ytemnlgefngjliaa.Px
