/- Contracts of Go functions, printed. Conditions: as each theorem states. -/
import Derived.Test.YtemnlgefngjliaaPx0
import Derived.Test.YtemnlgefngjliaaPx22
namespace Go.Proofs.Ytemnlgefngjliaa.Px
open Go.Proofs.Ytemnlgefngjliaa.Given
open Go.RowKit Go.Proofs.YtemnlgefngjliaaW.PrintWords Go.Proofs.YtemnlgefngjliaaW.PrintLast Go.Proofs.YtemnlgefngjliaaW.PrintMore
attribute [local go_sem] a2h a2i a2t a2u a1x a1y a2j a2k
set_option linter.unusedVariables false
set_option linter.unusedSimpArgs false
def a1v.l0 : Nat → Int → Int → Int → Int → Int → Int → Int → Bool → Int → Int → Int → List ByteArray → List (S43) → List Int → Option (Bool)
 | 0, _, _, _, _, _, _, _, _, _, _, _, _, _, _ => none
 | k + 1, x5, x6, x7, u0, u1, u2, u3, u4, u5, u6, u7, u8, u9, u10 => if x7 < (u9.length : Int) then (if 0 ≤ x7 then ((a3t.f k u5 u6 u7 u8 u9 u10 ((a0a u9 x7).f0) ((a0a u9 x7).f1) ((a0a u9 x7).f2)).bind fun t429 => (if t429 = 0 then (a1v.l0 k (wrap64 (x5 + ((a0a u9 x7).f1))) x6 (wrap64 (x7 + 1)) u0 u1 u2 u3 u4 u5 u6 u7 u8 u9 u10) else (a1v.l0 k (wrap64 (x5 + ((a0a u9 x7).f1))) (wrap64 (x6 + ((a0a u9 x7).f1))) (wrap64 (x7 + 1)) u0 u1 u2 u3 u4 u5 u6 u7 u8 u9 u10))) else (none)) else (some (decide ((wrap64 (x6 * u2)) ≥ (wrap64 (u1 * x5)))))
def a1v.f (k : Nat) (a0_0 a0_1 a0_2 a0_3 : Int) (a0_4 : Bool) (a1_0 a1_1 a1_2 : Int) (l1_3 : List ByteArray) (l1_4 : List (S43)) (l1_5 : List Int) : Option (Bool) := a1v.l0 k 0 0 0 a0_0 a0_1 a0_2 a0_3 a0_4 a1_0 a1_1 a1_2 l1_3 l1_4 l1_5
theorem a1v.a0v : ∀ k, (∀ y0 y1 y2 y3 y4 y5 y6 y7 y8 y9 y10 y11 y12 y13, LeO (a1v.l0 k y0 y1 y2 y3 y4 y5 y6 y7 y8 y9 y10 y11 y12 y13) (a1v.l0 (k + 1) y0 y1 y2 y3 y4 y5 y6 y7 y8 y9 y10 y11 y12 y13))
 | 0 => fun _ _ _ _ _ _ _ _ _ _ _ _ _ _ r h => by simp [a1v.l0] at h
 | k + 1 => by
  have ih0 := a1v.a0v k
  ·intro y0 y1 y2 y3 y4 y5 y6 y7 y8 y9 y10 y11 y12 y13
   unfold a1v.l0
   with_reducible (repeat' first | apply ih0 | apply a3t.mono | apply LeO.refl | apply LeO.none | apply LeO.ite | refine LeO.bind ?_ (fun _ => ?_))
theorem a1v.mono : ∀ a0 a1 a2 a3 a4 a5 a6 a7 a8 a9 a10 k, LeO (a1v.f k a0 a1 a2 a3 a4 a5 a6 a7 a8 a9 a10) (a1v.f (k + 1) a0 a1 a2 a3 a4 a5 a6 a7 a8 a9 a10) := by
 intro a0 a1 a2 a3 a4 a5 a6 a7 a8 a9 a10 k
 have ih0 := a1v.a0v k
 unfold a1v.f
 with_reducible (repeat' first | apply ih0 | apply a3t.mono | apply LeO.refl | apply LeO.none | apply LeO.ite | refine LeO.bind ?_ (fun _ => ?_))
def a1v.T7 : Bool × List (List Nat × List Nat) := (true, [([], []), ([], []), ([1], [1]), ([], []), ([2, 3], [2, 3]), ([4], [4]), ([0, 5], [0, 5]), ([6], [6])])
def a1v.B7 : List Nat := [0, 0, 2, 0, 14, 30, 63, 127]
theorem a1v.tab7 : rtab .any (opsOf Try.f49 7) = a1v.T7 := by kernel_rfl
theorem a1v.a6i : a4j a1v.T7.2 a1v.B7 = true := by kernel_rfl
set_option maxHeartbeats 8000000 in
set_option maxRecDepth 100000 in
theorem a1v.calls (k : Nat) (a0_0 a0_1 a0_2 a0_3 : Int) (a0_4 : Bool) (a1_0 a1_1 a1_2 : Int) (A1_3 : Option Addr) (c1_3 : Nat) (l1_3 : List ByteArray) (A1_4 : Option Addr) (c1_4 : Nat) (l1_4 : List (S43)) (A1_5 : Option Addr) (c1_5 : Nat) (l1_5 : List Int) (r : Bool) (w : World) (hr1_3 : Kd.C Kd.string w A1_3 l1_3.length l1_3) (hc1_3 : l1_3.length ≤ c1_3) (hr1_4 : Kd.C k43 w A1_4 l1_4.length l1_4) (hc1_4 : l1_4.length ≤ c1_4) (hr1_5 : Kd.C (Kd.int .i64) w A1_5 l1_5.length l1_5) (hc1_5 : l1_5.length ≤ c1_5) (h : a1v.f k a0_0 a0_1 a0_2 a0_3 a0_4 a1_0 a1_1 a1_2 l1_3 l1_4 l1_5 = some r) :
  Calls Try.prog 49 #[.agg #[.int .i64 a0_0, .int .i64 a0_1, .int .i64 a0_2, .int .i64 a0_3, .bool a0_4], .agg #[.int .i64 a1_0, .int .i64 a1_1, .int .i64 a1_2, .slice A1_3 l1_3.length c1_3, .slice A1_4 l1_4.length c1_4, .slice A1_5 l1_5.length c1_5]] w fun e w' => e = .returned (.bool r) ∧ Below w.heap.size w w' := by
 have hu25 := Try.underlying25
 have hu30 := Try.underlying30
 have hu43 := Try.underlying43
 have HR1_3 := am_ hr1_3
 have HC1_3 := am_ hc1_3
 clear hr1_3 hc1_3
 have HR1_4 := am_ hr1_4
 have HC1_4 := am_ hc1_4
 clear hr1_4 hc1_4
 have HR1_5 := am_ hr1_5
 have HC1_5 := am_ hc1_5
 clear hr1_5 hc1_5
 have HB := am_ (Below.refl w.heap.size w)
 have H : (a1v.l0 k 0 0 0 a0_0 a0_1 a0_2 a0_3 a0_4 a1_0 a1_1 a1_2 l1_3 l1_4 l1_5) = some r := h
 clear h
 have H' := am_ H
 clear H
 go_enter Try.func49, Try.ntmps49
 go_wp2_with (first | ((with_reducible refine a0d (N := 2) rfl ?_); refine qev_ 2 #[.int .i64 a0_0, .int .i64 a0_1, .int .i64 a0_2, .int .i64 a0_3, .bool a0_4] 25 ?_; intro gb425 hg w3 hbox hb; have BK425 := am_ (hbox); have GW425 := qga_ hg; have GE425 := qga_ hg; replace HB := qbs_ hb; clear hb hbox hg) | ((with_reducible refine a0d (N := 3) rfl ?_); refine qev_ 3 #[.int .i64 a1_0, .int .i64 a1_1, .int .i64 a1_2, .slice A1_3 l1_3.length c1_3, .slice A1_4 l1_4.length c1_4, .slice A1_5 l1_5.length c1_5] 30 ?_; intro gb426 hg w4 hbox hb; have BK426 := am_ (hbox); have GW426 := qga_ hg; have GE426 := qga_ hg; replace HB := qbs_ hb; have NB425_426 := am_ ((by rw [hg]; exact Nat.ne_of_lt (a0y (qk_ BK425)) : gb425 ≠ gb426)); have NB426_425 := am_ ((by rw [hg]; exact Nat.ne_of_gt (a0y (qk_ BK425)) : gb426 ≠ gb425)); replace BK425 := qkb_ BK425 hb; clear hb hbox hg))
 go_loopg [5, 6, 7] k (fun kq v5 v6 v7 w' => ∃ (x5_1 : Int) (x6_1 : Int) (x7_1 : Int), v5 = .int .i64 x5_1 ∧ v6 = .int .i64 x6_1 ∧ v7 = .int .i64 x7_1 ∧ Aside0 (a1v.l0 kq x5_1 x6_1 x7_1 a0_0 a0_1 a0_2 a0_3 a0_4 a1_0 a1_1 a1_2 l1_3 l1_4 l1_5 = some r) ∧ Aside0 (kq ≤ k) ∧ Aside0 (w'.heap[gb425]? = some (.cells #[.int .i64 a0_0, .int .i64 a0_1, .int .i64 a0_2, .int .i64 a0_3, .bool a0_4] 25 (0, 0))) ∧ Aside0 (w'.heap[gb426]? = some (.cells #[.int .i64 a1_0, .int .i64 a1_1, .int .i64 a1_2, (.slice A1_3 l1_3.length c1_3), (.slice A1_4 l1_4.length c1_4), (.slice A1_5 l1_5.length c1_5)] 30 (0, 0))) ∧ Aside0 (Below w.heap.size w w'))
 case atStart => exact ⟨(0), (0), (0), qs_, qs_, qs_, H', ⟨Nat.le_refl _⟩, ⟨qk_ BK425⟩, ⟨qk_ BK426⟩, ⟨qb_⟩⟩
 case round =>
  clear H'
  try clear c1
  try clear p2
  try clear c4
  obtain ⟨x5_1, x6_1, x7_1, rfl, rfl, rfl, HA, HK1, BK425, BK426, HB⟩ := hrel
  cases gk with
  | zero => exact absurd HA.out (by simp [a1v.l0])
  | succ k1 =>
   have H := HA.out
   clear HA
   simp only [a1v.l0] at H
   by_cases c5 : x7_1 < (l1_4.length : Int)
   ·rw [if_pos c5] at H
    have c5b0 : decide (x7_1 < (l1_4.length : Int)) = true := decide_eq_true c5
    clear c5
    by_cases c6 : 0 ≤ x7_1
    ·rw [if_pos c6] at H
     have c6b0 : decide (0 ≤ x7_1) = true := decide_eq_true c6
     clear c6
     replace H := bm_ H
     obtain ⟨t429, A70, H⟩ := H
     replace H : (if t429 = 0 then (a1v.l0 k1 (wrap64 (x5_1 + ((a0a l1_4 x7_1).f1))) x6_1 (wrap64 (x7_1 + 1)) a0_0 a0_1 a0_2 a0_3 a0_4 a1_0 a1_1 a1_2 l1_3 l1_4 l1_5) else (a1v.l0 k1 (wrap64 (x5_1 + ((a0a l1_4 x7_1).f1))) (wrap64 (x6_1 + ((a0a l1_4 x7_1).f1))) (wrap64 (x7_1 + 1)) a0_0 a0_1 a0_2 a0_3 a0_4 a1_0 a1_1 a1_2 l1_3 l1_4 l1_5)) = some r := H
     have A7 := am_ A70
     clear A70
     by_cases c8 : t429 = 0
     ·rw [if_pos c8] at H
      have c8b0 : (t429 == 0) = true := beq_iff_eq.mpr c8
      have c8b1 : (t429 != 0) = false := bne_eq_false_iff_eq.mpr c8
      clear c8
      have H' := am_ H
      clear H
      have hnb9 := NB426_425.out
      have hnc9 := NB425_426.out
      obtain ⟨z'10_0, z'10_1, z'10_2, z'10_3, z'10_4, z'10_5⟩ := qz6_ BK426; obtain ⟨y'10_0, y'10_1, y'10_2, y'10_3, y'10_4, y'10_5⟩ := qf6_ BK426
      have p427 : 0 ≤ (x7_1 : Int) := ot_
      have q427 : x7_1 < (l1_4.length : Int) := ot_
      obtain ⟨ad427, e427, hx427_0, hx427_1, hx427_2⟩ := a2d HR1_4.out x7_1 p427 q427
      cases e427
      replace hx427_0 := qh_ HB hx427_0
      replace hx427_1 := qh_ HB hx427_1
      replace hx427_2 := qh_ HB hx427_2
      replace p427 := eq_true p427
      replace q427 := eq_true q427
      try go_wp2
      replace BK425 := am_ (bd_ BK425.out)
      replace BK426 := am_ (bd_ BK426.out)
      replace HB := am_ (ld_ HB.out)
      have p428 : 0 ≤ (x7_1 : Int) := ot_
      have q428 : x7_1 < (l1_4.length : Int) := ot_
      obtain ⟨ad428, e428, hx428_0, hx428_1, hx428_2⟩ := a2d HR1_4.out x7_1 p428 q428
      have hw428_2 := hx428_2
      have hw428_1 := hx428_1
      have hw428_0 := hx428_0
      obtain rfl : ad427 = ad428 := (by injection e428)
      replace hx428_0 := qh_ HB hx428_0
      replace hx428_1 := qh_ HB hx428_1
      replace hx428_2 := qh_ HB hx428_2
      replace p428 := eq_true p428
      replace q428 := eq_true q428
      refine a4p (n := 8) (S := fun w' => w'.cell? ⟨gb426, 0, none⟩ = some (.int .i64 a1_0) ∧ w'.cell? ⟨gb426, 1, none⟩ = some (.int .i64 a1_1) ∧ w'.cell? ⟨gb426, 2, none⟩ = some (.int .i64 a1_2) ∧ w'.cell? ⟨gb426, 3, none⟩ = some (.slice A1_3 l1_3.length c1_3) ∧ w'.cell? ⟨gb426, 4, none⟩ = some (.slice (some ad427) l1_4.length c1_4) ∧ w'.cell? ⟨gb426, 5, none⟩ = some (.slice A1_5 l1_5.length c1_5) ∧ w'.cell? (ad427.add ((x7_1).toNat * 3)) = some (.int .i64 ((a0a l1_4 x7_1).f0)) ∧ w'.cell? ⟨(ad427.add ((x7_1).toNat * 3)).block, (ad427.add ((x7_1).toNat * 3)).off + 1, none⟩ = some (.int .i64 ((a0a l1_4 x7_1).f1)) ∧ w'.cell? ⟨(ad427.add ((x7_1).toNat * 3)).block, (ad427.add ((x7_1).toNat * 3)).off + 2, none⟩ = some (.int .i64 ((a0a l1_4 x7_1).f2))) (ds := []) #[i_,i_,i_,i_,i_,i_,i_,i_] (by kernel_rfl) rfl rfl ⟨(bc_ BK426.out 0).trans rfl, (bc_ BK426.out 1).trans rfl, (bc_ BK426.out 2).trans rfl, (bc_ BK426.out 3).trans rfl, (bc_ BK426.out 4).trans rfl, (bc_ BK426.out 5).trans rfl, ((HB.out.cell (World.block_lt_of_cell? w _ hw428_0)).trans hw428_0), ((HB.out.cell (World.block_lt_of_cell? w _ hw428_1)).trans hw428_1), ((HB.out.cell (World.block_lt_of_cell? w _ hw428_2)).trans hw428_2)⟩ (fun hHeld => ?_); refine a3l a1v.tab7 a1v.a6i (fun HT_ HW_ => ?_)
      generalize wr.drew = w11 at BK425 BK426 HB hx428_0 hx428_1 hx428_2 hHeld ⊢
      refine qpu_ 1 (some 24) #[i_,o_,i_,i_,i_,i_,i_,i_] ?_
      refine qpu_ 3 (some 26) #[i_,o_,i_,o_,i_,i_,i_,i_] ?_
      refine a2m (i := 0) (N := some 23) (v := ?_) (a' := ?_) #[o_,o_,i_,o_,i_,i_,i_,i_] rfl rfl (a1m HT_.out HW_.out (by kernel_rfl)) (fun _ _ _ h => h) (Or.inl ⟨by rfl, ?_⟩) hHeld ?_ ?_
      rotate_left
      ·rintro w' ⟨s0, s1, s2, s3, s4, s5, s6, s7, s8⟩
       go_simp
       with_reducible rfl
      rotate_left
      ·exact qp_
      refine a2m (i := 2) (N := some 25) (v := ?_) (a' := ?_) #[o_,o_,o_,o_,i_,i_,i_,i_] rfl rfl (a1m HT_.out HW_.out (by kernel_rfl)) (fun _ _ _ h => h) (Or.inl ⟨by rfl, ?_⟩) hHeld ?_ ?_
      rotate_left
      ·rintro w' ⟨s0, s1, s2, s3, s4, s5, s6, s7, s8⟩
       go_simp
       with_reducible rfl
      rotate_left
      ·exact qp_
      refine qpu_ 4 (some 27) #[o_,o_,o_,o_,o_,i_,i_,i_] ?_
      refine a2m (i := 5) (N := some 28) (v := ?_) (a' := ?_) #[o_,o_,o_,o_,o_,o_,i_,i_] rfl rfl (a1m HT_.out HW_.out (by kernel_rfl)) (fun _ _ _ h => h) (Or.inl ⟨by rfl, ?_⟩) hHeld ?_ ?_
      rotate_left
      ·rintro w' ⟨s0, s1, s2, s3, s4, s5, s6, s7, s8⟩
       go_simp
       with_reducible rfl
      rotate_left
      ·exact qp_
      refine one_ (i := 6) (N := some 29) #[o_,o_,o_,o_,o_,o_,o_,i_] rfl rfl (a3j HT_.out (by kernel_rfl)) (by decide) (fun K hK => ?_)
      refine a4h Try.func37 (by kernel_rfl) rfl #[.agg #[.int .i64 a1_0, .int .i64 a1_1, .int .i64 a1_2, .slice A1_3 l1_3.length c1_3, .slice (some ad427) l1_4.length c1_4, .slice A1_5 l1_5.length c1_5], .agg #[.int .i64 ((a0a l1_4 x7_1).f0), .int .i64 ((a0a l1_4 x7_1).f1), .int .i64 ((a0a l1_4 x7_1).f2)]] (by rfl) rfl rfl ql_ ?_
      with_reducible refine (a3t.calls k1 a1_0 a1_1 a1_2 _ _ l1_3 _ _ l1_4 _ _ l1_5 ((a0a l1_4 x7_1).f0) ((a0a l1_4 x7_1).f1) ((a0a l1_4 x7_1).f2) t429 _ ?s1 ?s2 ?s3 ?s4 ?s5 ?s6 A7.out).mono ?_
      (case s1 => exact qc_ HR1_3)
      (case s2 => exact HC1_3.out)
      (case s3 => exact qc_ HR1_4)
      (case s4 => exact HC1_4.out)
      (case s5 => exact qc_ HR1_5)
      (case s6 => exact HC1_5.out)
      rintro e w12 ⟨rfl, hb⟩
      refine ⟨_, rfl, ?_⟩
      replace BK425 := qkb_ BK425 hb
      replace BK426 := qkb_ BK426 hb
      replace HB := qbs_ hb
      (try clear hb)
      (try clear hb2)
      (try clear hk)
      (try clear hi)
      refine hK.out _ _ ⟨(bc_ BK426.out 0).trans rfl, (bc_ BK426.out 1).trans rfl, (bc_ BK426.out 2).trans rfl, (bc_ BK426.out 3).trans rfl, (bc_ BK426.out 4).trans rfl, (bc_ BK426.out 5).trans rfl, ((HB.out.cell (World.block_lt_of_cell? w _ hw428_0)).trans hw428_0), ((HB.out.cell (World.block_lt_of_cell? w _ hw428_1)).trans hw428_1), ((HB.out.cell (World.block_lt_of_cell? w _ hw428_2)).trans hw428_2)⟩ (fun hHeld => ?_)
      clear hK K
      refine a4b (a' := ?_) ?_ ?_
      rotate_left
      ·show Act.put _ (some 29) _ = _
       exact qp_
      refine qpu_ 7 (some 30) #[o_,o_,o_,o_,o_,o_,o_,o_] ?_
      refine a4y (a4c HT_.out (by kernel_rfl)) ?_
      try go_wp2
      go_roundg k1
      case measure => have := HK1.out; omega
      case rel => exact ⟨(wrap64 (x5_1 + ((a0a l1_4 x7_1).f1))), (x6_1), (wrap64 (x7_1 + 1)), qs_, qs_, qs_, H', ⟨by have := HK1.out; omega⟩, ⟨qk_ BK425⟩, ⟨qk_ BK426⟩, ⟨qb_⟩⟩
     ·rw [if_neg c8] at H
      have c8b0 : (t429 == 0) = false := beq_eq_false_iff_ne.mpr c8
      have c8b1 : (t429 != 0) = true := bne_iff_ne.mpr c8
      have H' := am_ H
      clear H
      have hnb13 := NB426_425.out
      have hnc13 := NB425_426.out
      obtain ⟨z'14_0, z'14_1, z'14_2, z'14_3, z'14_4, z'14_5⟩ := qz6_ BK426; obtain ⟨y'14_0, y'14_1, y'14_2, y'14_3, y'14_4, y'14_5⟩ := qf6_ BK426
      have p427 : 0 ≤ (x7_1 : Int) := ot_
      have q427 : x7_1 < (l1_4.length : Int) := ot_
      obtain ⟨ad427, e427, hx427_0, hx427_1, hx427_2⟩ := a2d HR1_4.out x7_1 p427 q427
      cases e427
      replace hx427_0 := qh_ HB hx427_0
      replace hx427_1 := qh_ HB hx427_1
      replace hx427_2 := qh_ HB hx427_2
      replace p427 := eq_true p427
      replace q427 := eq_true q427
      try go_wp2
      replace BK425 := am_ (bd_ BK425.out)
      replace BK426 := am_ (bd_ BK426.out)
      replace HB := am_ (ld_ HB.out)
      have p428 : 0 ≤ (x7_1 : Int) := ot_
      have q428 : x7_1 < (l1_4.length : Int) := ot_
      obtain ⟨ad428, e428, hx428_0, hx428_1, hx428_2⟩ := a2d HR1_4.out x7_1 p428 q428
      have hw428_2 := hx428_2
      have hw428_1 := hx428_1
      have hw428_0 := hx428_0
      obtain rfl : ad427 = ad428 := (by injection e428)
      replace hx428_0 := qh_ HB hx428_0
      replace hx428_1 := qh_ HB hx428_1
      replace hx428_2 := qh_ HB hx428_2
      replace p428 := eq_true p428
      replace q428 := eq_true q428
      refine a4p (n := 8) (S := fun w' => w'.cell? ⟨gb426, 0, none⟩ = some (.int .i64 a1_0) ∧ w'.cell? ⟨gb426, 1, none⟩ = some (.int .i64 a1_1) ∧ w'.cell? ⟨gb426, 2, none⟩ = some (.int .i64 a1_2) ∧ w'.cell? ⟨gb426, 3, none⟩ = some (.slice A1_3 l1_3.length c1_3) ∧ w'.cell? ⟨gb426, 4, none⟩ = some (.slice (some ad427) l1_4.length c1_4) ∧ w'.cell? ⟨gb426, 5, none⟩ = some (.slice A1_5 l1_5.length c1_5) ∧ w'.cell? (ad427.add ((x7_1).toNat * 3)) = some (.int .i64 ((a0a l1_4 x7_1).f0)) ∧ w'.cell? ⟨(ad427.add ((x7_1).toNat * 3)).block, (ad427.add ((x7_1).toNat * 3)).off + 1, none⟩ = some (.int .i64 ((a0a l1_4 x7_1).f1)) ∧ w'.cell? ⟨(ad427.add ((x7_1).toNat * 3)).block, (ad427.add ((x7_1).toNat * 3)).off + 2, none⟩ = some (.int .i64 ((a0a l1_4 x7_1).f2))) (ds := []) #[i_,i_,i_,i_,i_,i_,i_,i_] (by kernel_rfl) rfl rfl ⟨(bc_ BK426.out 0).trans rfl, (bc_ BK426.out 1).trans rfl, (bc_ BK426.out 2).trans rfl, (bc_ BK426.out 3).trans rfl, (bc_ BK426.out 4).trans rfl, (bc_ BK426.out 5).trans rfl, ((HB.out.cell (World.block_lt_of_cell? w _ hw428_0)).trans hw428_0), ((HB.out.cell (World.block_lt_of_cell? w _ hw428_1)).trans hw428_1), ((HB.out.cell (World.block_lt_of_cell? w _ hw428_2)).trans hw428_2)⟩ (fun hHeld => ?_); refine a3l a1v.tab7 a1v.a6i (fun HT_ HW_ => ?_)
      generalize wr.drew = w15 at BK425 BK426 HB hx428_0 hx428_1 hx428_2 hHeld ⊢
      refine qpu_ 1 (some 24) #[i_,o_,i_,i_,i_,i_,i_,i_] ?_
      refine qpu_ 3 (some 26) #[i_,o_,i_,o_,i_,i_,i_,i_] ?_
      refine a2m (i := 0) (N := some 23) (v := ?_) (a' := ?_) #[o_,o_,i_,o_,i_,i_,i_,i_] rfl rfl (a1m HT_.out HW_.out (by kernel_rfl)) (fun _ _ _ h => h) (Or.inl ⟨by rfl, ?_⟩) hHeld ?_ ?_
      rotate_left
      ·rintro w' ⟨s0, s1, s2, s3, s4, s5, s6, s7, s8⟩
       go_simp
       with_reducible rfl
      rotate_left
      ·exact qp_
      refine a2m (i := 2) (N := some 25) (v := ?_) (a' := ?_) #[o_,o_,o_,o_,i_,i_,i_,i_] rfl rfl (a1m HT_.out HW_.out (by kernel_rfl)) (fun _ _ _ h => h) (Or.inl ⟨by rfl, ?_⟩) hHeld ?_ ?_
      rotate_left
      ·rintro w' ⟨s0, s1, s2, s3, s4, s5, s6, s7, s8⟩
       go_simp
       with_reducible rfl
      rotate_left
      ·exact qp_
      refine qpu_ 4 (some 27) #[o_,o_,o_,o_,o_,i_,i_,i_] ?_
      refine a2m (i := 5) (N := some 28) (v := ?_) (a' := ?_) #[o_,o_,o_,o_,o_,o_,i_,i_] rfl rfl (a1m HT_.out HW_.out (by kernel_rfl)) (fun _ _ _ h => h) (Or.inl ⟨by rfl, ?_⟩) hHeld ?_ ?_
      rotate_left
      ·rintro w' ⟨s0, s1, s2, s3, s4, s5, s6, s7, s8⟩
       go_simp
       with_reducible rfl
      rotate_left
      ·exact qp_
      refine one_ (i := 6) (N := some 29) #[o_,o_,o_,o_,o_,o_,o_,i_] rfl rfl (a3j HT_.out (by kernel_rfl)) (by decide) (fun K hK => ?_)
      refine a4h Try.func37 (by kernel_rfl) rfl #[.agg #[.int .i64 a1_0, .int .i64 a1_1, .int .i64 a1_2, .slice A1_3 l1_3.length c1_3, .slice (some ad427) l1_4.length c1_4, .slice A1_5 l1_5.length c1_5], .agg #[.int .i64 ((a0a l1_4 x7_1).f0), .int .i64 ((a0a l1_4 x7_1).f1), .int .i64 ((a0a l1_4 x7_1).f2)]] (by rfl) rfl rfl ql_ ?_
      with_reducible refine (a3t.calls k1 a1_0 a1_1 a1_2 _ _ l1_3 _ _ l1_4 _ _ l1_5 ((a0a l1_4 x7_1).f0) ((a0a l1_4 x7_1).f1) ((a0a l1_4 x7_1).f2) t429 _ ?s1 ?s2 ?s3 ?s4 ?s5 ?s6 A7.out).mono ?_
      (case s1 => exact qc_ HR1_3)
      (case s2 => exact HC1_3.out)
      (case s3 => exact qc_ HR1_4)
      (case s4 => exact HC1_4.out)
      (case s5 => exact qc_ HR1_5)
      (case s6 => exact HC1_5.out)
      rintro e w16 ⟨rfl, hb⟩
      refine ⟨_, rfl, ?_⟩
      replace BK425 := qkb_ BK425 hb
      replace BK426 := qkb_ BK426 hb
      replace HB := qbs_ hb
      (try clear hb)
      (try clear hb2)
      (try clear hk)
      (try clear hi)
      refine hK.out _ _ ⟨(bc_ BK426.out 0).trans rfl, (bc_ BK426.out 1).trans rfl, (bc_ BK426.out 2).trans rfl, (bc_ BK426.out 3).trans rfl, (bc_ BK426.out 4).trans rfl, (bc_ BK426.out 5).trans rfl, ((HB.out.cell (World.block_lt_of_cell? w _ hw428_0)).trans hw428_0), ((HB.out.cell (World.block_lt_of_cell? w _ hw428_1)).trans hw428_1), ((HB.out.cell (World.block_lt_of_cell? w _ hw428_2)).trans hw428_2)⟩ (fun hHeld => ?_)
      clear hK K
      refine a4b (a' := ?_) ?_ ?_
      rotate_left
      ·show Act.put _ (some 29) _ = _
       exact qp_
      refine qpu_ 7 (some 30) #[o_,o_,o_,o_,o_,o_,o_,o_] ?_
      refine a4y (a4c HT_.out (by kernel_rfl)) ?_
      obtain ⟨z'17_0, z'17_1, z'17_2, z'17_3, z'17_4, z'17_5⟩ := qz6_ BK426; obtain ⟨y'17_0, y'17_1, y'17_2, y'17_3, y'17_4, y'17_5⟩ := qf6_ BK426
      have p430 : 0 ≤ (x7_1 : Int) := ot_
      have q430 : x7_1 < (l1_4.length : Int) := ot_
      obtain ⟨ad430, e430, hx430_0, hx430_1, hx430_2⟩ := a2d HR1_4.out x7_1 p430 q430
      obtain rfl : ad427 = ad430 := (by injection e430)
      replace hx430_0 := qh_ HB hx430_0
      replace hx430_1 := qh_ HB hx430_1
      replace hx430_2 := qh_ HB hx430_2
      replace p430 := eq_true p430
      replace q430 := eq_true q430
      try go_wp2
      go_roundg k1
      case measure => have := HK1.out; omega
      case rel => exact ⟨(wrap64 (x5_1 + ((a0a l1_4 x7_1).f1))), (wrap64 (x6_1 + ((a0a l1_4 x7_1).f1))), (wrap64 (x7_1 + 1)), qs_, qs_, qs_, H', ⟨by have := HK1.out; omega⟩, ⟨qk_ BK425⟩, ⟨qk_ BK426⟩, ⟨qb_⟩⟩
    ·rw [if_neg c6] at H
     exact absurd H (by simp)
   ·rw [if_neg c5] at H
    have c5b0 : decide (x7_1 < (l1_4.length : Int)) = false := decide_eq_false c5
    clear c5
    obtain rfl := si_ H
    have hnb18 := NB426_425.out
    have hnc18 := NB425_426.out
    obtain ⟨z'19_0, z'19_1, z'19_2, z'19_3, z'19_4, z'19_5⟩ := qz6_ BK426; obtain ⟨y'19_0, y'19_1, y'19_2, y'19_3, y'19_4, y'19_5⟩ := qf6_ BK426
    obtain ⟨z'20_0, z'20_1, z'20_2, z'20_3, z'20_4⟩ := qz5_ BK425; obtain ⟨y'20_0, y'20_1, y'20_2, y'20_3, y'20_4⟩ := qf5_ BK425
    go_wp2
    go_ret
    exact ⟨qx_, qb_⟩
end Go.Proofs.Ytemnlgefngjliaa.Px
