/- Contracts of Go functions, printed. Conditions: as each theorem states. -/
import Derived.Test.YtfbgkcadnmcakaaPx0
import Derived.Test.YtfbgkcadnmcakaaPx2
namespace Go.Proofs.Ytfbgkcadnmcakaa.Px
open Go.Proofs.Ytfbgkcadnmcakaa.Given
open Go.RowKit Go.Proofs.YtfbgkcadnmcakaaW.PrintWords Go.Proofs.YtfbgkcadnmcakaaW.PrintLast Go.Proofs.YtfbgkcadnmcakaaW.PrintMore
attribute [local go_sem] a2w a2u a3d a3c a2q a2r a2x a2y
set_option linter.unusedVariables false
set_option linter.unusedSimpArgs false
mutual
def a1b.l0 : Nat → List (S28) → Int → Int → Option (Bool)
 | 0, _, _, _ => none
 | k + 1, x0, x5, x6 => if x6 < x5 then (if 0 ≤ x6 then (if x6 < (x0.length : Int) then ((a4d.f ((a2o x0 x6).f0) ((a2o x0 x6).f1)).bind fun t110 => (if t110 = true then (if x6 > 0 then (if 0 ≤ (wrap64 (x6 - 1)) then (if (wrap64 (x6 - 1)) < (x0.length : Int) then (a1b.j1 k x0 x5 x6 (decide (((a2o x0 (wrap64 (x6 - 1))).f1) ≥ ((a2o x0 x6).f0)))) else (none)) else (none)) else (a1b.j1 k x0 x5 x6 false)) else (a1b.j1 k x0 x5 x6 true))) else (none)) else (none)) else (some (decide ((x0.length : Int) ≤ 1000)))
def a1b.j1 : Nat → List (S28) → Int → Int → Bool → Option (Bool)
 | 0, _, _, _, _ => none
 | k + 1, x0, x5, x6, x32 => if x32 = true then (some false) else (a1b.l0 k x0 x5 (wrap64 (x6 + 1)))
end
def a1b.f (k : Nat) (l0 : List (S28)) : Option (Bool) := a1b.l0 k l0 (l0.length : Int) 0
theorem a1b.a1k : ∀ k, (∀ y0 y1 y2, LeO (a1b.l0 k y0 y1 y2) (a1b.l0 (k + 1) y0 y1 y2)) ∧ (∀ y0 y1 y2 y3, LeO (a1b.j1 k y0 y1 y2 y3) (a1b.j1 (k + 1) y0 y1 y2 y3))
 | 0 => ⟨fun _ _ _ r h => by simp [a1b.l0] at h, fun _ _ _ _ r h => by simp [a1b.j1] at h⟩
 | k + 1 => by
  obtain ⟨ih0, ih1⟩ := a1b.a1k k
  refine ⟨?_, ?_⟩
  ·intro y0 y1 y2
   unfold a1b.l0
   with_reducible (repeat' first | apply ih0 | apply ih1 | apply LeO.refl | apply LeO.none | apply LeO.ite | refine LeO.bind ?_ (fun _ => ?_))
  ·intro y0 y1 y2 y3
   unfold a1b.j1
   with_reducible (repeat' first | apply ih0 | apply ih1 | apply LeO.refl | apply LeO.none | apply LeO.ite | refine LeO.bind ?_ (fun _ => ?_))
theorem a1b.mono : ∀ a0 k, LeO (a1b.f k a0) (a1b.f (k + 1) a0) := by
 intro a0 k
 obtain ⟨ih0, ih1⟩ := a1b.a1k k
 unfold a1b.f
 with_reducible (repeat' first | apply ih0 | apply ih1 | apply LeO.refl | apply LeO.none | apply LeO.ite | refine LeO.bind ?_ (fun _ => ?_))
def a1b.T4 : Bool × List (List Nat × List Nat) := (true, [([], []), ([], []), ([0, 1], [0, 1]), ([2], [2]), ([3], [3]), ([4], [4]), ([5, 4], [5]), ([6], [6]), ([7, 6], [6, 7]), ([8, 6, 6], [6, 8]), ([9], [9]), ([9], [9]), ([11, 9], [9, 11]), ([10, 12, 9], [9, 10, 12]), ([13, 9], [9, 13]), ([14, 9], [9, 14]), ([9], [9]), ([9], [9]), ([16, 17, 9], [9, 16, 17]), ([18, 9], [9, 18]), ([19, 9], [9, 19]), ([15, 20, 9], [9, 15, 20]), ([9, 21, 6], [6, 9, 21]), ([6, 22], [6, 22])])
def a1b.B4 : List Nat := [0, 0, 3, 7, 15, 31, 63, 127, 255, 511, 1023, 1023, 3071, 8191, 16383, 32767, 1023, 1023, 197631, 459775, 984063, 2097151, 4194303, 8388607]
theorem a1b.tab4 : rtab .any (opsOf Try.f39 4) = a1b.T4 := by kernel_rfl
theorem a1b.a7a : a3w a1b.T4.2 a1b.B4 = true := by kernel_rfl
set_option maxHeartbeats 8000000 in
set_option maxRecDepth 100000 in
theorem a1b.calls (k : Nat) (A0 : Option Addr) (c0 : Nat) (l0 : List (S28)) (r : Bool) (w : World) (hr0 : Kd.C k28 w A0 l0.length l0) (hc0 : l0.length ≤ c0) (h : a1b.f k l0 = some r) :
  Calls Try.prog 39 #[.slice A0 l0.length c0] w fun e w' => e = .returned (.bool r) ∧ Below w.heap.size w w' := by
 have hu28 := Try.underlying28
 have HR0 := am_ hr0
 have HC0 := am_ hc0
 clear hr0 hc0
 have HB := am_ (Below.refl w.heap.size w)
 have H : (a1b.l0 k l0 (l0.length : Int) 0) = some r := h
 clear h
 have H' := am_ H
 clear H
 go_enter Try.func39, Try.ntmps39
 go_wp2
 go_loopg [6] k (fun kq v6 w' => ∃ (x6_1 : Int), v6 = .int .i64 x6_1 ∧ Aside0 (a1b.l0 kq l0 (l0.length : Int) x6_1 = some r) ∧ Aside0 (kq ≤ k) ∧ Aside0 (Below w.heap.size w w'))
 case atStart => exact ⟨(0), qs_, H', ⟨Nat.le_refl _⟩, ⟨qb_⟩⟩
 case round =>
  clear H'
  obtain ⟨x6_1, rfl, HA, HK1, HB⟩ := hrel
  cases gk with
  | zero => exact absurd HA.out (by simp [a1b.l0])
  | succ k1 =>
   have H := HA.out
   clear HA
   simp only [a1b.l0] at H
   by_cases c2 : x6_1 < (l0.length : Int)
   ·rw [if_pos c2] at H
    have c2b0 : decide (x6_1 < (l0.length : Int)) = true := decide_eq_true c2
    clear c2
    have HC3 := am_ H
    clear H
    go_upto_region 4 with (fail)
    go_cut [32] (fun v32 wc => ∃ (kq : Nat) (x32_2 : Bool), v32 = .bool x32_2 ∧ Aside0 (a1b.j1 kq l0 (l0.length : Int) x6_1 x32_2 = some r) ∧ Aside0 (kq ≤ k1) ∧ Aside0 (Below w.heap.size w wc))
    case first =>
     have H := HC3.out
     clear HC3
     by_cases c4 : 0 ≤ x6_1
     ·rw [if_pos c4] at H
      have c4b0 : decide (0 ≤ x6_1) = true := decide_eq_true c4
      clear c4
      (first | rw [c4b0] | (simp only [a3k, a4i]; rw [c4b0]) | skip)
      by_cases c5 : x6_1 < (l0.length : Int)
      ·rw [if_pos c5] at H
       have c5b0 : decide (x6_1 < (l0.length : Int)) = true := decide_eq_true c5
       clear c5
       replace H := bm_ H
       obtain ⟨t110, A60, H⟩ := H
       replace H : (if t110 = true then (if x6_1 > 0 then (if 0 ≤ (wrap64 (x6_1 - 1)) then (if (wrap64 (x6_1 - 1)) < (l0.length : Int) then (a1b.j1 k1 l0 (l0.length : Int) x6_1 (decide (((a2o l0 (wrap64 (x6_1 - 1))).f1) ≥ ((a2o l0 x6_1).f0)))) else (none)) else (none)) else (a1b.j1 k1 l0 (l0.length : Int) x6_1 false)) else (a1b.j1 k1 l0 (l0.length : Int) x6_1 true)) = some r := H
       have A6 := am_ A60
       clear A60
       by_cases c7 : t110 = true
       ·subst c7
        have H1 : (if x6_1 > 0 then (if 0 ≤ (wrap64 (x6_1 - 1)) then (if (wrap64 (x6_1 - 1)) < (l0.length : Int) then (a1b.j1 k1 l0 (l0.length : Int) x6_1 (decide (((a2o l0 (wrap64 (x6_1 - 1))).f1) ≥ ((a2o l0 x6_1).f0)))) else (none)) else (none)) else (a1b.j1 k1 l0 (l0.length : Int) x6_1 false)) = some r := by rw [if_pos rfl] at H; exact H
        clear H
        have H := H1
        clear H1
        by_cases c8 : x6_1 > 0
        ·rw [if_pos c8] at H
         have c8b0 : decide (0 < x6_1) = true := decide_eq_true c8
         clear c8
         obtain ⟨ji9, hji9⟩ : ∃ j_ : Int, (wrap64 (x6_1 - 1)) = j_ := ⟨_, rfl⟩
         replace H : (if 0 ≤ (ji9) then (if (ji9) < (l0.length : Int) then (a1b.j1 k1 l0 (l0.length : Int) x6_1 (decide (((a2o l0 (ji9)).f1) ≥ ((a2o l0 x6_1).f0)))) else (none)) else (none)) = some r := by first | (rw [hji9] at H; exact H) | (simp only [hji9] at H ⊢; exact H)
         (try rw [hji9] at A6)
         have hji9w : (IntKind.i64.wrap (x6_1 - 1)) = ji9 := (a3k _).trans hji9
         by_cases c10 : 0 ≤ (ji9)
         ·rw [if_pos c10] at H
          have c10b0 : decide (0 ≤ (ji9)) = true := decide_eq_true c10
          clear c10
          by_cases c11 : (ji9) < (l0.length : Int)
          ·rw [if_pos c11] at H
           have c11b0 : decide ((ji9) < (l0.length : Int)) = true := decide_eq_true c11
           clear c11
           have H' := am_ H
           clear H
           try go_wp2
           replace HB := am_ (ld_ HB.out)
           have p109 : 0 ≤ (x6_1 : Int) := ot_
           have q109 : x6_1 < (l0.length : Int) := ot_
           obtain ⟨ad109, e109, hx109_0, hx109_1⟩ := a7q HR0.out x6_1 p109 q109
           have hw109_1 := hx109_1
           have hw109_0 := hx109_0
           cases e109
           replace hx109_0 := qh_ HB hx109_0
           replace hx109_1 := qh_ HB hx109_1
           replace p109 := eq_true p109
           replace q109 := eq_true q109
           have p111 : 0 ≤ ((ji9) : Int) := ot_
           have q111 : (ji9) < (l0.length : Int) := ot_
           obtain ⟨ad111, e111, hx111_0, hx111_1⟩ := a7q HR0.out (ji9) p111 q111
           have hw111_1 := hx111_1
           have hw111_0 := hx111_0
           obtain rfl : ad109 = ad111 := (by injection e111)
           replace hx111_0 := qh_ HB hx111_0
           replace hx111_1 := qh_ HB hx111_1
           replace p111 := eq_true p111
           replace q111 := eq_true q111
           have p112 : 0 ≤ (x6_1 : Int) := ot_
           have q112 : x6_1 < (l0.length : Int) := ot_
           obtain ⟨ad112, e112, hx112_0, hx112_1⟩ := a7q HR0.out x6_1 p112 q112
           have hw112_1 := hx112_1
           have hw112_0 := hx112_0
           obtain rfl : ad109 = ad112 := (by injection e112)
           replace hx112_0 := qh_ HB hx112_0
           replace hx112_1 := qh_ HB hx112_1
           replace p112 := eq_true p112
           replace q112 := eq_true q112
           refine a3g (n := 24) (S := fun w' => w'.cell? (ad109.add ((x6_1).toNat * 2)) = some (.int .i64 ((a2o l0 x6_1).f0)) ∧ w'.cell? ⟨(ad109.add ((x6_1).toNat * 2)).block, (ad109.add ((x6_1).toNat * 2)).off + 1, none⟩ = some (.int .i64 ((a2o l0 x6_1).f1)) ∧ w'.cell? (ad109.add (((ji9)).toNat * 2)) = some (.int .i64 ((a2o l0 (ji9)).f0)) ∧ w'.cell? ⟨(ad109.add (((ji9)).toNat * 2)).block, (ad109.add (((ji9)).toNat * 2)).off + 1, none⟩ = some (.int .i64 ((a2o l0 (ji9)).f1)) ∧ w'.cell? (ad109.add ((x6_1).toNat * 2)) = some (.int .i64 ((a2o l0 x6_1).f0)) ∧ w'.cell? ⟨(ad109.add ((x6_1).toNat * 2)).block, (ad109.add ((x6_1).toNat * 2)).off + 1, none⟩ = some (.int .i64 ((a2o l0 x6_1).f1))) (ds := []) #[i_,i_,i_,i_,i_,i_,i_,i_,i_,i_,i_,i_,i_,i_,i_,i_,i_,i_,i_,i_,i_,i_,i_,i_] (by kernel_rfl) rfl rfl ⟨((HB.out.cell (World.block_lt_of_cell? w _ hw109_0)).trans hw109_0), ((HB.out.cell (World.block_lt_of_cell? w _ hw109_1)).trans hw109_1), ((HB.out.cell (World.block_lt_of_cell? w _ hw111_0)).trans hw111_0), ((HB.out.cell (World.block_lt_of_cell? w _ hw111_1)).trans hw111_1), ((HB.out.cell (World.block_lt_of_cell? w _ hw112_0)).trans hw112_0), ((HB.out.cell (World.block_lt_of_cell? w _ hw112_1)).trans hw112_1)⟩ (fun hHeld => ?_); refine a2l a1b.tab4 a1b.a7a (fun HT_ HW_ => ?_)
           generalize wr.drew = w12 at HB hx109_0 hx109_1 hx111_0 hx111_1 hx112_0 hx112_1 hHeld ⊢
           refine qpu_ 0 (some 9) #[o_,i_,i_,i_,i_,i_,i_,i_,i_,i_,i_,i_,i_,i_,i_,i_,i_,i_,i_,i_,i_,i_,i_,i_] ?_
           refine qpu_ 1 (some 10) #[o_,o_,i_,i_,i_,i_,i_,i_,i_,i_,i_,i_,i_,i_,i_,i_,i_,i_,i_,i_,i_,i_,i_,i_] ?_
           refine qpu_ 2 (some 11) #[o_,o_,o_,i_,i_,i_,i_,i_,i_,i_,i_,i_,i_,i_,i_,i_,i_,i_,i_,i_,i_,i_,i_,i_] ?_
           refine a2g (i := 3) (N := some 12) (v := ?_) (a' := ?_) #[o_,o_,o_,o_,i_,i_,i_,i_,i_,i_,i_,i_,i_,i_,i_,i_,i_,i_,i_,i_,i_,i_,i_,i_] rfl rfl (a1r HT_.out HW_.out (by kernel_rfl)) (fun _ _ _ h => h) (Or.inl ⟨by rfl, ?_⟩) hHeld ?_ ?_
           rotate_left
           ·rintro w' ⟨s0, s1, s2, s3, s4, s5⟩
            go_simp
            with_reducible rfl
           rotate_left
           ·exact qp_
           refine one_ (i := 4) (N := some 13) #[o_,o_,o_,o_,o_,i_,i_,i_,i_,i_,i_,i_,i_,i_,i_,i_,i_,i_,i_,i_,i_,i_,i_,i_] rfl rfl (a3h HT_.out (by kernel_rfl)) (by decide) (fun K hK => ?_)
           refine a5g Try.func53 (by kernel_rfl) rfl #[.agg #[.int .i64 ((a2o l0 x6_1).f0), .int .i64 ((a2o l0 x6_1).f1)]] (by rfl) rfl rfl ql_ ?_
           with_reducible refine (a4d.calls ((a2o l0 x6_1).f0) ((a2o l0 x6_1).f1) true _ A6.out).mono ?_
           rintro e w13 ⟨rfl, hb⟩
           refine ⟨_, rfl, ?_⟩
           replace HB := qbs_ hb
           (try clear hb)
           (try clear hb2)
           (try clear hk)
           (try clear hi)
           refine hK.out _ _ ⟨((HB.out.cell (World.block_lt_of_cell? w _ hw109_0)).trans hw109_0), ((HB.out.cell (World.block_lt_of_cell? w _ hw109_1)).trans hw109_1), ((HB.out.cell (World.block_lt_of_cell? w _ hw111_0)).trans hw111_0), ((HB.out.cell (World.block_lt_of_cell? w _ hw111_1)).trans hw111_1), ((HB.out.cell (World.block_lt_of_cell? w _ hw112_0)).trans hw112_0), ((HB.out.cell (World.block_lt_of_cell? w _ hw112_1)).trans hw112_1)⟩ (fun hHeld => ?_)
           clear hK K
           refine a4b (a' := ?_) ?_ ?_
           rotate_left
           ·show Act.put _ (some 13) _ = _
            exact qp_
           refine qpu_ 5 (some 14) #[o_,o_,o_,o_,o_,o_,i_,i_,i_,i_,i_,i_,i_,i_,i_,i_,i_,i_,i_,i_,i_,i_,i_,i_] ?_
           refine qpu_ 6 (some 15) #[o_,o_,o_,o_,o_,o_,o_,i_,i_,i_,i_,i_,i_,i_,i_,i_,i_,i_,i_,i_,i_,i_,i_,i_] ?_
           refine qpu_ 7 (some 16) #[o_,o_,o_,o_,o_,o_,o_,o_,i_,i_,i_,i_,i_,i_,i_,i_,i_,i_,i_,i_,i_,i_,i_,i_] ?_
           refine qpu_ 8 (some 17) #[o_,o_,o_,o_,o_,o_,o_,o_,o_,i_,i_,i_,i_,i_,i_,i_,i_,i_,i_,i_,i_,i_,i_,i_] ?_
           refine qpu_ 9 (some 18) #[o_,o_,o_,o_,o_,o_,o_,o_,o_,o_,i_,i_,i_,i_,i_,i_,i_,i_,i_,i_,i_,i_,i_,i_] ?_
           refine qpu_ 10 (some 19) #[o_,o_,o_,o_,o_,o_,o_,o_,o_,o_,o_,i_,i_,i_,i_,i_,i_,i_,i_,i_,i_,i_,i_,i_] ?_
           refine qpu_ 11 (some 20) #[o_,o_,o_,o_,o_,o_,o_,o_,o_,o_,o_,o_,i_,i_,i_,i_,i_,i_,i_,i_,i_,i_,i_,i_] ?_
           refine qpu_ 12 (some 21) #[o_,o_,o_,o_,o_,o_,o_,o_,o_,o_,o_,o_,o_,i_,i_,i_,i_,i_,i_,i_,i_,i_,i_,i_] ?_
           refine qpu_ 13 (some 22) #[o_,o_,o_,o_,o_,o_,o_,o_,o_,o_,o_,o_,o_,o_,i_,i_,i_,i_,i_,i_,i_,i_,i_,i_] ?_
           refine qpu_ 14 (some 23) #[o_,o_,o_,o_,o_,o_,o_,o_,o_,o_,o_,o_,o_,o_,o_,i_,i_,i_,i_,i_,i_,i_,i_,i_] ?_
           refine qpu_ 16 (some 25) #[o_,o_,o_,o_,o_,o_,o_,o_,o_,o_,o_,o_,o_,o_,o_,i_,o_,i_,i_,i_,i_,i_,i_,i_] ?_
           refine qpu_ 17 (some 26) #[o_,o_,o_,o_,o_,o_,o_,o_,o_,o_,o_,o_,o_,o_,o_,i_,o_,o_,i_,i_,i_,i_,i_,i_] ?_
           refine qpu_ 18 (some 27) #[o_,o_,o_,o_,o_,o_,o_,o_,o_,o_,o_,o_,o_,o_,o_,i_,o_,o_,o_,i_,i_,i_,i_,i_] ?_
           refine qpu_ 19 (some 28) #[o_,o_,o_,o_,o_,o_,o_,o_,o_,o_,o_,o_,o_,o_,o_,i_,o_,o_,o_,o_,i_,i_,i_,i_] ?_
           refine a2g (i := 15) (N := some 24) (v := ?_) (a' := ?_) #[o_,o_,o_,o_,o_,o_,o_,o_,o_,o_,o_,o_,o_,o_,o_,o_,o_,o_,o_,o_,i_,i_,i_,i_] rfl rfl (a1r HT_.out HW_.out (by kernel_rfl)) (fun _ _ _ h => h) (Or.inl ⟨by rfl, ?_⟩) hHeld ?_ ?_
           rotate_left
           ·rintro w' ⟨s0, s1, s2, s3, s4, s5⟩
            go_simp
            with_reducible rfl
           rotate_left
           ·exact qp_
           refine a2g (i := 20) (N := some 29) (v := ?_) (a' := ?_) #[o_,o_,o_,o_,o_,o_,o_,o_,o_,o_,o_,o_,o_,o_,o_,o_,o_,o_,o_,o_,o_,i_,i_,i_] rfl rfl (a1r HT_.out HW_.out (by kernel_rfl)) (fun _ _ _ h => h) (Or.inl ⟨by rfl, ?_⟩) hHeld ?_ ?_
           rotate_left
           ·rintro w' ⟨s0, s1, s2, s3, s4, s5⟩
            go_simp
            with_reducible rfl
           rotate_left
           ·exact qp_
           refine qpu_ 21 (some 30) #[o_,o_,o_,o_,o_,o_,o_,o_,o_,o_,o_,o_,o_,o_,o_,o_,o_,o_,o_,o_,o_,o_,i_,i_] ?_
           refine qpu_ 22 (some 31) #[o_,o_,o_,o_,o_,o_,o_,o_,o_,o_,o_,o_,o_,o_,o_,o_,o_,o_,o_,o_,o_,o_,o_,i_] ?_
           refine qpu_ 23 (some 32) #[o_,o_,o_,o_,o_,o_,o_,o_,o_,o_,o_,o_,o_,o_,o_,o_,o_,o_,o_,o_,o_,o_,o_,o_] ?_
           refine a3o (a3b HT_.out (by kernel_rfl)) ?_
           try go_wp2
           try subst hji9
           go_meet
           case rel => exact ⟨_, (decide (((a2o l0 ((wrap64 (x6_1 - 1)))).f1) ≥ ((a2o l0 x6_1).f0))), (by first | rfl | (simp; done) | (simp only [← hji9] <;> (first | rfl | simp)) | (simp [*]; done)), H', ⟨by have := HK1.out; first | omega | exact Nat.le_refl _⟩, ⟨qb_⟩⟩
          ·rw [if_neg c11] at H
           exact absurd H (by simp)
         ·rw [if_neg c10] at H
          exact absurd H (by simp)
        ·rw [if_neg c8] at H
         have c8b0 : decide (0 < x6_1) = false := decide_eq_false c8
         clear c8
         have H' := am_ H
         clear H
         try go_wp2
         replace HB := am_ (ld_ HB.out)
         have p109 : 0 ≤ (x6_1 : Int) := ot_
         have q109 : x6_1 < (l0.length : Int) := ot_
         obtain ⟨ad109, e109, hx109_0, hx109_1⟩ := a7q HR0.out x6_1 p109 q109
         have hw109_1 := hx109_1
         have hw109_0 := hx109_0
         cases e109
         replace hx109_0 := qh_ HB hx109_0
         replace hx109_1 := qh_ HB hx109_1
         replace p109 := eq_true p109
         replace q109 := eq_true q109
         refine a3g (n := 24) (S := fun w' => w'.cell? (ad109.add ((x6_1).toNat * 2)) = some (.int .i64 ((a2o l0 x6_1).f0)) ∧ w'.cell? ⟨(ad109.add ((x6_1).toNat * 2)).block, (ad109.add ((x6_1).toNat * 2)).off + 1, none⟩ = some (.int .i64 ((a2o l0 x6_1).f1))) (ds := []) #[i_,i_,i_,i_,i_,i_,i_,i_,i_,i_,i_,i_,i_,i_,i_,i_,i_,i_,i_,i_,i_,i_,i_,i_] (by kernel_rfl) rfl rfl ⟨((HB.out.cell (World.block_lt_of_cell? w _ hw109_0)).trans hw109_0), ((HB.out.cell (World.block_lt_of_cell? w _ hw109_1)).trans hw109_1)⟩ (fun hHeld => ?_); refine a2l a1b.tab4 a1b.a7a (fun HT_ HW_ => ?_)
         generalize wr.drew = w14 at HB hx109_0 hx109_1 hHeld ⊢
         refine qpu_ 0 (some 9) #[o_,i_,i_,i_,i_,i_,i_,i_,i_,i_,i_,i_,i_,i_,i_,i_,i_,i_,i_,i_,i_,i_,i_,i_] ?_
         refine qpu_ 1 (some 10) #[o_,o_,i_,i_,i_,i_,i_,i_,i_,i_,i_,i_,i_,i_,i_,i_,i_,i_,i_,i_,i_,i_,i_,i_] ?_
         refine qpu_ 2 (some 11) #[o_,o_,o_,i_,i_,i_,i_,i_,i_,i_,i_,i_,i_,i_,i_,i_,i_,i_,i_,i_,i_,i_,i_,i_] ?_
         refine a2g (i := 3) (N := some 12) (v := ?_) (a' := ?_) #[o_,o_,o_,o_,i_,i_,i_,i_,i_,i_,i_,i_,i_,i_,i_,i_,i_,i_,i_,i_,i_,i_,i_,i_] rfl rfl (a1r HT_.out HW_.out (by kernel_rfl)) (fun _ _ _ h => h) (Or.inl ⟨by rfl, ?_⟩) hHeld ?_ ?_
         rotate_left
         ·rintro w' ⟨s0, s1⟩
          go_simp
          with_reducible rfl
         rotate_left
         ·exact qp_
         refine one_ (i := 4) (N := some 13) #[o_,o_,o_,o_,o_,i_,i_,i_,i_,i_,i_,i_,i_,i_,i_,i_,i_,i_,i_,i_,i_,i_,i_,i_] rfl rfl (a3h HT_.out (by kernel_rfl)) (by decide) (fun K hK => ?_)
         refine a5g Try.func53 (by kernel_rfl) rfl #[.agg #[.int .i64 ((a2o l0 x6_1).f0), .int .i64 ((a2o l0 x6_1).f1)]] (by rfl) rfl rfl ql_ ?_
         with_reducible refine (a4d.calls ((a2o l0 x6_1).f0) ((a2o l0 x6_1).f1) true _ A6.out).mono ?_
         rintro e w15 ⟨rfl, hb⟩
         refine ⟨_, rfl, ?_⟩
         replace HB := qbs_ hb
         (try clear hb)
         (try clear hb2)
         (try clear hk)
         (try clear hi)
         refine hK.out _ _ ⟨((HB.out.cell (World.block_lt_of_cell? w _ hw109_0)).trans hw109_0), ((HB.out.cell (World.block_lt_of_cell? w _ hw109_1)).trans hw109_1)⟩ (fun hHeld => ?_)
         clear hK K
         refine a4b (a' := ?_) ?_ ?_
         rotate_left
         ·show Act.put _ (some 13) _ = _
          exact qp_
         refine qpu_ 5 (some 14) #[o_,o_,o_,o_,o_,o_,i_,i_,i_,i_,i_,i_,i_,i_,i_,i_,i_,i_,i_,i_,i_,i_,i_,i_] ?_
         refine qpu_ 6 (some 15) #[o_,o_,o_,o_,o_,o_,o_,i_,i_,i_,i_,i_,i_,i_,i_,i_,i_,i_,i_,i_,i_,i_,i_,i_] ?_
         refine qpu_ 7 (some 16) #[o_,o_,o_,o_,o_,o_,o_,o_,i_,i_,i_,i_,i_,i_,i_,i_,i_,i_,i_,i_,i_,i_,i_,i_] ?_
         refine qpu_ 8 (some 17) #[o_,o_,o_,o_,o_,o_,o_,o_,o_,i_,i_,i_,i_,i_,i_,i_,i_,i_,i_,i_,i_,i_,i_,i_] ?_
         refine qpu_ 9 (some 18) #[o_,o_,o_,o_,o_,o_,o_,o_,o_,o_,i_,i_,i_,i_,i_,i_,i_,i_,i_,i_,i_,i_,i_,i_] ?_
         refine qpv_ 10 (some 19) #[o_,o_,o_,o_,o_,o_,o_,o_,o_,o_,o_,i_,i_,i_,i_,i_,i_,i_,i_,i_,i_,i_,i_,i_] ?_
         refine qpv_ 11 (some 20) #[o_,o_,o_,o_,o_,o_,o_,o_,o_,o_,o_,o_,i_,i_,i_,i_,i_,i_,i_,i_,i_,i_,i_,i_] ?_
         refine qpv_ 12 (some 21) #[o_,o_,o_,o_,o_,o_,o_,o_,o_,o_,o_,o_,o_,i_,i_,i_,i_,i_,i_,i_,i_,i_,i_,i_] ?_
         refine qpv_ 13 (some 22) #[o_,o_,o_,o_,o_,o_,o_,o_,o_,o_,o_,o_,o_,o_,i_,i_,i_,i_,i_,i_,i_,i_,i_,i_] ?_
         refine qpv_ 14 (some 23) #[o_,o_,o_,o_,o_,o_,o_,o_,o_,o_,o_,o_,o_,o_,o_,i_,i_,i_,i_,i_,i_,i_,i_,i_] ?_
         refine qpv_ 15 (some 24) #[o_,o_,o_,o_,o_,o_,o_,o_,o_,o_,o_,o_,o_,o_,o_,o_,i_,i_,i_,i_,i_,i_,i_,i_] ?_
         refine qpv_ 16 (some 25) #[o_,o_,o_,o_,o_,o_,o_,o_,o_,o_,o_,o_,o_,o_,o_,o_,o_,i_,i_,i_,i_,i_,i_,i_] ?_
         refine qpv_ 17 (some 26) #[o_,o_,o_,o_,o_,o_,o_,o_,o_,o_,o_,o_,o_,o_,o_,o_,o_,o_,i_,i_,i_,i_,i_,i_] ?_
         refine qpv_ 18 (some 27) #[o_,o_,o_,o_,o_,o_,o_,o_,o_,o_,o_,o_,o_,o_,o_,o_,o_,o_,o_,i_,i_,i_,i_,i_] ?_
         refine qpv_ 19 (some 28) #[o_,o_,o_,o_,o_,o_,o_,o_,o_,o_,o_,o_,o_,o_,o_,o_,o_,o_,o_,o_,i_,i_,i_,i_] ?_
         refine qpv_ 20 (some 29) #[o_,o_,o_,o_,o_,o_,o_,o_,o_,o_,o_,o_,o_,o_,o_,o_,o_,o_,o_,o_,o_,i_,i_,i_] ?_
         refine qpv_ 21 (some 30) #[o_,o_,o_,o_,o_,o_,o_,o_,o_,o_,o_,o_,o_,o_,o_,o_,o_,o_,o_,o_,o_,o_,i_,i_] ?_
         refine qpu_ 22 (some 31) #[o_,o_,o_,o_,o_,o_,o_,o_,o_,o_,o_,o_,o_,o_,o_,o_,o_,o_,o_,o_,o_,o_,o_,i_] ?_
         refine qpu_ 23 (some 32) #[o_,o_,o_,o_,o_,o_,o_,o_,o_,o_,o_,o_,o_,o_,o_,o_,o_,o_,o_,o_,o_,o_,o_,o_] ?_
         refine a3o (a3b HT_.out (by kernel_rfl)) ?_
         try go_wp2
         go_meet
         case rel => exact ⟨_, (false), qs_, H', ⟨by have := HK1.out; first | omega | exact Nat.le_refl _⟩, ⟨qb_⟩⟩
       ·replace c7 := be_ c7
        subst c7
        have H1 : (a1b.j1 k1 l0 (l0.length : Int) x6_1 true) = some r := by rw [if_neg (show ¬ (false = true) by decide)] at H; exact H
        clear H
        have H := H1
        clear H1
        have H' := am_ H
        clear H
        try go_wp2
        replace HB := am_ (ld_ HB.out)
        have p109 : 0 ≤ (x6_1 : Int) := ot_
        have q109 : x6_1 < (l0.length : Int) := ot_
        obtain ⟨ad109, e109, hx109_0, hx109_1⟩ := a7q HR0.out x6_1 p109 q109
        have hw109_1 := hx109_1
        have hw109_0 := hx109_0
        cases e109
        replace hx109_0 := qh_ HB hx109_0
        replace hx109_1 := qh_ HB hx109_1
        replace p109 := eq_true p109
        replace q109 := eq_true q109
        refine a3g (n := 24) (S := fun w' => w'.cell? (ad109.add ((x6_1).toNat * 2)) = some (.int .i64 ((a2o l0 x6_1).f0)) ∧ w'.cell? ⟨(ad109.add ((x6_1).toNat * 2)).block, (ad109.add ((x6_1).toNat * 2)).off + 1, none⟩ = some (.int .i64 ((a2o l0 x6_1).f1))) (ds := []) #[i_,i_,i_,i_,i_,i_,i_,i_,i_,i_,i_,i_,i_,i_,i_,i_,i_,i_,i_,i_,i_,i_,i_,i_] (by kernel_rfl) rfl rfl ⟨((HB.out.cell (World.block_lt_of_cell? w _ hw109_0)).trans hw109_0), ((HB.out.cell (World.block_lt_of_cell? w _ hw109_1)).trans hw109_1)⟩ (fun hHeld => ?_); refine a2l a1b.tab4 a1b.a7a (fun HT_ HW_ => ?_)
        generalize wr.drew = w16 at HB hx109_0 hx109_1 hHeld ⊢
        refine qpu_ 0 (some 9) #[o_,i_,i_,i_,i_,i_,i_,i_,i_,i_,i_,i_,i_,i_,i_,i_,i_,i_,i_,i_,i_,i_,i_,i_] ?_
        refine qpu_ 1 (some 10) #[o_,o_,i_,i_,i_,i_,i_,i_,i_,i_,i_,i_,i_,i_,i_,i_,i_,i_,i_,i_,i_,i_,i_,i_] ?_
        refine qpu_ 2 (some 11) #[o_,o_,o_,i_,i_,i_,i_,i_,i_,i_,i_,i_,i_,i_,i_,i_,i_,i_,i_,i_,i_,i_,i_,i_] ?_
        refine a2g (i := 3) (N := some 12) (v := ?_) (a' := ?_) #[o_,o_,o_,o_,i_,i_,i_,i_,i_,i_,i_,i_,i_,i_,i_,i_,i_,i_,i_,i_,i_,i_,i_,i_] rfl rfl (a1r HT_.out HW_.out (by kernel_rfl)) (fun _ _ _ h => h) (Or.inl ⟨by rfl, ?_⟩) hHeld ?_ ?_
        rotate_left
        ·rintro w' ⟨s0, s1⟩
         go_simp
         with_reducible rfl
        rotate_left
        ·exact qp_
        refine one_ (i := 4) (N := some 13) #[o_,o_,o_,o_,o_,i_,i_,i_,i_,i_,i_,i_,i_,i_,i_,i_,i_,i_,i_,i_,i_,i_,i_,i_] rfl rfl (a3h HT_.out (by kernel_rfl)) (by decide) (fun K hK => ?_)
        refine a5g Try.func53 (by kernel_rfl) rfl #[.agg #[.int .i64 ((a2o l0 x6_1).f0), .int .i64 ((a2o l0 x6_1).f1)]] (by rfl) rfl rfl ql_ ?_
        with_reducible refine (a4d.calls ((a2o l0 x6_1).f0) ((a2o l0 x6_1).f1) false _ A6.out).mono ?_
        rintro e w17 ⟨rfl, hb⟩
        refine ⟨_, rfl, ?_⟩
        replace HB := qbs_ hb
        (try clear hb)
        (try clear hb2)
        (try clear hk)
        (try clear hi)
        refine hK.out _ _ ⟨((HB.out.cell (World.block_lt_of_cell? w _ hw109_0)).trans hw109_0), ((HB.out.cell (World.block_lt_of_cell? w _ hw109_1)).trans hw109_1)⟩ (fun hHeld => ?_)
        clear hK K
        refine a4b (a' := ?_) ?_ ?_
        rotate_left
        ·show Act.put _ (some 13) _ = _
         exact qp_
        refine qpu_ 5 (some 14) #[o_,o_,o_,o_,o_,o_,i_,i_,i_,i_,i_,i_,i_,i_,i_,i_,i_,i_,i_,i_,i_,i_,i_,i_] ?_
        refine qpu_ 6 (some 15) #[o_,o_,o_,o_,o_,o_,o_,i_,i_,i_,i_,i_,i_,i_,i_,i_,i_,i_,i_,i_,i_,i_,i_,i_] ?_
        refine qpv_ 7 (some 16) #[o_,o_,o_,o_,o_,o_,o_,o_,i_,i_,i_,i_,i_,i_,i_,i_,i_,i_,i_,i_,i_,i_,i_,i_] ?_
        refine qpv_ 8 (some 17) #[o_,o_,o_,o_,o_,o_,o_,o_,o_,i_,i_,i_,i_,i_,i_,i_,i_,i_,i_,i_,i_,i_,i_,i_] ?_
        refine qpv_ 9 (some 18) #[o_,o_,o_,o_,o_,o_,o_,o_,o_,o_,i_,i_,i_,i_,i_,i_,i_,i_,i_,i_,i_,i_,i_,i_] ?_
        refine qpv_ 10 (some 19) #[o_,o_,o_,o_,o_,o_,o_,o_,o_,o_,o_,i_,i_,i_,i_,i_,i_,i_,i_,i_,i_,i_,i_,i_] ?_
        refine qpv_ 11 (some 20) #[o_,o_,o_,o_,o_,o_,o_,o_,o_,o_,o_,o_,i_,i_,i_,i_,i_,i_,i_,i_,i_,i_,i_,i_] ?_
        refine qpv_ 12 (some 21) #[o_,o_,o_,o_,o_,o_,o_,o_,o_,o_,o_,o_,o_,i_,i_,i_,i_,i_,i_,i_,i_,i_,i_,i_] ?_
        refine qpv_ 13 (some 22) #[o_,o_,o_,o_,o_,o_,o_,o_,o_,o_,o_,o_,o_,o_,i_,i_,i_,i_,i_,i_,i_,i_,i_,i_] ?_
        refine qpv_ 14 (some 23) #[o_,o_,o_,o_,o_,o_,o_,o_,o_,o_,o_,o_,o_,o_,o_,i_,i_,i_,i_,i_,i_,i_,i_,i_] ?_
        refine qpv_ 15 (some 24) #[o_,o_,o_,o_,o_,o_,o_,o_,o_,o_,o_,o_,o_,o_,o_,o_,i_,i_,i_,i_,i_,i_,i_,i_] ?_
        refine qpv_ 16 (some 25) #[o_,o_,o_,o_,o_,o_,o_,o_,o_,o_,o_,o_,o_,o_,o_,o_,o_,i_,i_,i_,i_,i_,i_,i_] ?_
        refine qpv_ 17 (some 26) #[o_,o_,o_,o_,o_,o_,o_,o_,o_,o_,o_,o_,o_,o_,o_,o_,o_,o_,i_,i_,i_,i_,i_,i_] ?_
        refine qpv_ 18 (some 27) #[o_,o_,o_,o_,o_,o_,o_,o_,o_,o_,o_,o_,o_,o_,o_,o_,o_,o_,o_,i_,i_,i_,i_,i_] ?_
        refine qpv_ 19 (some 28) #[o_,o_,o_,o_,o_,o_,o_,o_,o_,o_,o_,o_,o_,o_,o_,o_,o_,o_,o_,o_,i_,i_,i_,i_] ?_
        refine qpv_ 20 (some 29) #[o_,o_,o_,o_,o_,o_,o_,o_,o_,o_,o_,o_,o_,o_,o_,o_,o_,o_,o_,o_,o_,i_,i_,i_] ?_
        refine qpv_ 21 (some 30) #[o_,o_,o_,o_,o_,o_,o_,o_,o_,o_,o_,o_,o_,o_,o_,o_,o_,o_,o_,o_,o_,o_,i_,i_] ?_
        refine qpv_ 22 (some 31) #[o_,o_,o_,o_,o_,o_,o_,o_,o_,o_,o_,o_,o_,o_,o_,o_,o_,o_,o_,o_,o_,o_,o_,i_] ?_
        refine qpu_ 23 (some 32) #[o_,o_,o_,o_,o_,o_,o_,o_,o_,o_,o_,o_,o_,o_,o_,o_,o_,o_,o_,o_,o_,o_,o_,o_] ?_
        refine a3o (a3b HT_.out (by kernel_rfl)) ?_
        try go_wp2
        go_meet
        case rel => exact ⟨_, (true), qs_, H', ⟨by have := HK1.out; first | omega | exact Nat.le_refl _⟩, ⟨qb_⟩⟩
      ·rw [if_neg c5] at H
       exact absurd H (by simp)
     ·rw [if_neg c4] at H
      exact absurd H (by simp)
    case rest =>
     clear HC3
     try clear c1
     try clear p1
     try clear q1
     try clear hx1
     try clear p2
     try clear c4
     try clear c5
     try clear c7
     try clear c8
     try clear c8b0
     try clear c10
     try clear p10
     try clear q10
     try clear hx10
     try clear c11
     try clear p11
     try clear q11
     try clear hx11
     try clear hx109_0
     try clear hx109_1
     try clear hx111_0
     try clear hx111_1
     try clear hx112_0
     try clear hx112_1
     try clear p109
     try clear p111
     try clear p112
     try clear q109
     try clear q111
     try clear q112
     obtain ⟨kq, x32_2, rfl, HA, HJ2, HB⟩ := hcut
     cases kq with
     | zero => exact absurd HA.out (by simp [a1b.j1])
     | succ kj2 =>
      have H := HA.out
      clear HA
      simp only [a1b.j1] at H
      by_cases c18 : x32_2 = true
      ·subst c18
       have H1 : (some false) = some r := by rw [if_pos rfl] at H; exact H
       clear H
       have H := H1
       clear H1
       obtain rfl := si_ H
       go_wp2
       go_ret
       exact ⟨qx_, qb_⟩
      ·replace c18 := be_ c18
       subst c18
       have H1 : (a1b.l0 kj2 l0 (l0.length : Int) (wrap64 (x6_1 + 1))) = some r := by rw [if_neg (show ¬ (false = true) by decide)] at H; exact H
       clear H
       have H := H1
       clear H1
       have H' := am_ H
       clear H
       go_wp2
       go_roundg kj2
       case measure => have := HK1.out; have := HJ2.out; omega
       case rel => exact ⟨(wrap64 (x6_1 + 1)), qs_, H', ⟨by have := HK1.out; have := HJ2.out; omega⟩, ⟨qb_⟩⟩
   ·rw [if_neg c2] at H
    have c2b0 : decide (x6_1 < (l0.length : Int)) = false := decide_eq_false c2
    clear c2
    obtain rfl := si_ H
    go_wp2
    go_ret
    exact ⟨qx_, qb_⟩
end Go.Proofs.Ytfbgkcadnmcakaa.Px
