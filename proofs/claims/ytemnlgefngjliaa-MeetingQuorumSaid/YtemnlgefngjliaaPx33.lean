/- Contracts of Go functions, printed. Conditions: as each theorem states. -/
import Derived.Test.YtemnlgefngjliaaPx0
import Derived.Test.YtemnlgefngjliaaPx22
namespace Go.Proofs.Ytemnlgefngjliaa.Px
open Go.Proofs.Ytemnlgefngjliaa.Given
open Go.RowKit Go.Proofs.YtemnlgefngjliaaW.PrintWords Go.Proofs.YtemnlgefngjliaaW.PrintLast Go.Proofs.YtemnlgefngjliaaW.PrintMore
attribute [local go_sem] a2f a2g a2r a2s a1x a1y a2h a2i
set_option linter.unusedVariables false
set_option linter.unusedSimpArgs false
mutual
def a1i.l0 : Nat → Int → List Int → List (S43) → Int → Int → Int → Int → Int → List ByteArray → List (S43) → List Int → Option (Int × Int × Int × List ByteArray × (List (S43)) × List Int × Int × Bool)
 | 0, _, _, _, _, _, _, _, _, _, _, _ => none
 | k + 1, x1, x7, x15, x16, x17, z0, z1, z2, z3, z4, z5 => if x17 < x16 then (if 0 ≤ x17 then (if x17 < (x15.length : Int) then ((a2x.f k z0 z1 z2 z3 z4 z5 ((a0a x15 x17).f0)).bind fun t530 => (if t530 = true then (a1i.l0 k x1 x7 x15 x16 (wrap64 (x17 + 1)) z0 z1 z2 z3 z4 z5) else (if x7.length < 17592186044416 then (a1i.l0 k x1 (x7 ++ [x17]) x15 x16 (wrap64 (x17 + 1)) z0 z1 z2 z3 z4 z5) else (none)))) else (none)) else (none)) else (if (x7.length : Int) = 0 then (some (z0, z1, z2, z3, z4, z5, 0, false)) else (if 0 ≤ (Int.tmod (wrap64 (x1)) (x7.length : Int)) then (if (Int.tmod (wrap64 (x1)) (x7.length : Int)) < (x7.length : Int) then (a1i.l1 k (rd x7 (Int.tmod (wrap64 (x1)) (x7.length : Int))) ([] : List Int) z4 (z4.length : Int) 0 z0 z1 z2 z3 z4 z5) else (none)) else (none)))
def a1i.l1 : Nat → Int → List Int → List (S43) → Int → Int → Int → Int → Int → List ByteArray → List (S43) → List Int → Option (Int × Int × Int × List ByteArray × (List (S43)) × List Int × Int × Bool)
 | 0, _, _, _, _, _, _, _, _, _, _, _ => none
 | k + 1, x10, x11, x45, x46, x47, z0, z1, z2, z3, z4, z5 => if x47 < x46 then (if 0 ≤ x47 then (if x47 < (x45.length : Int) then ((a2x.f k z0 z1 z2 z3 z4 z5 ((a0a x45 x47).f0)).bind fun t537 => (if t537 = true then (if x11.length < 17592186044416 then (a1i.l1 k x10 (x11 ++ [(a0a x45 x47).f0]) x45 x46 (wrap64 (x47 + 1)) z0 z1 z2 z3 z4 z5) else (none)) else (if 0 ≤ x10 then (if x10 < (z4.length : Int) then (if ((a0a x45 x47).f0) = ((a0a z4 x10).f0) then (if x11.length < 17592186044416 then (a1i.l1 k x10 (x11 ++ [(a0a x45 x47).f0]) x45 x46 (wrap64 (x47 + 1)) z0 z1 z2 z3 z4 z5) else (none)) else (a1i.l1 k x10 x11 x45 x46 (wrap64 (x47 + 1)) z0 z1 z2 z3 z4 z5)) else (none)) else (none)))) else (none)) else (none)) else (some (z0, z1, z2, z3, z4, x11, x10, true))
end
def a1i.f (k : Nat) (a0_0 a0_1 a0_2 : Int) (l0_3 : List ByteArray) (l0_4 : List (S43)) (l0_5 : List Int) (a1 : Int) : Option (Int × Int × Int × List ByteArray × (List (S43)) × List Int × Int × Bool) := a1i.l0 k a1 ([] : List Int) l0_4 (l0_4.length : Int) 0 a0_0 a0_1 a0_2 l0_3 l0_4 l0_5
theorem a1i.a0t : ∀ k, (∀ y0 y1 y2 y3 y4 y5 y6 y7 y8 y9 y10, LeO (a1i.l0 k y0 y1 y2 y3 y4 y5 y6 y7 y8 y9 y10) (a1i.l0 (k + 1) y0 y1 y2 y3 y4 y5 y6 y7 y8 y9 y10)) ∧ (∀ y0 y1 y2 y3 y4 y5 y6 y7 y8 y9 y10, LeO (a1i.l1 k y0 y1 y2 y3 y4 y5 y6 y7 y8 y9 y10) (a1i.l1 (k + 1) y0 y1 y2 y3 y4 y5 y6 y7 y8 y9 y10))
 | 0 => ⟨fun _ _ _ _ _ _ _ _ _ _ _ r h => by simp [a1i.l0] at h, fun _ _ _ _ _ _ _ _ _ _ _ r h => by simp [a1i.l1] at h⟩
 | k + 1 => by
  obtain ⟨ih0, ih1⟩ := a1i.a0t k
  refine ⟨?_, ?_⟩
  ·intro y0 y1 y2 y3 y4 y5 y6 y7 y8 y9 y10
   unfold a1i.l0
   with_reducible (repeat' first | apply ih0 | apply ih1 | apply a2x.mono | apply LeO.refl | apply LeO.none | apply LeO.ite | refine LeO.bind ?_ (fun _ => ?_))
  ·intro y0 y1 y2 y3 y4 y5 y6 y7 y8 y9 y10
   unfold a1i.l1
   with_reducible (repeat' first | apply ih0 | apply ih1 | apply a2x.mono | apply LeO.refl | apply LeO.none | apply LeO.ite | refine LeO.bind ?_ (fun _ => ?_))
theorem a1i.mono : ∀ a0 a1 a2 a3 a4 a5 a6 k, LeO (a1i.f k a0 a1 a2 a3 a4 a5 a6) (a1i.f (k + 1) a0 a1 a2 a3 a4 a5 a6) := by
 intro a0 a1 a2 a3 a4 a5 a6 k
 obtain ⟨ih0, ih1⟩ := a1i.a0t k
 unfold a1i.f
 with_reducible (repeat' first | apply ih0 | apply ih1 | apply a2x.mono | apply LeO.refl | apply LeO.none | apply LeO.ite | refine LeO.bind ?_ (fun _ => ?_))
def a1i.T15 : Bool × List (List Nat × List Nat) := (true, [([], []), ([], []), ([1], [1]), ([0, 2], [0, 2]), ([3, 3], [3]), ([4], [4]), ([5, 4], [4, 5]), ([4], [4]), ([7, 4], [4, 7]), ([4], [4]), ([8, 9, 4], [4, 8, 9]), ([10, 4], [4, 10]), ([11, 4], [4, 11]), ([6, 12, 4], [4, 6, 12]), ([4, 13], [4, 13])])
def a1i.B15 : List Nat := [0, 0, 2, 7, 15, 31, 63, 31, 159, 31, 927, 1951, 3999, 8191, 16383]
theorem a1i.b3g : rtab .any (opsOf Try.f24 15) = a1i.T15 := by kernel_rfl
theorem a1i.b1r : a4z a1i.T15.2 a1i.B15 = true := by kernel_rfl
set_option maxHeartbeats 8000000 in
set_option maxRecDepth 100000 in
theorem a1i.calls (k : Nat) (a0_0 a0_1 a0_2 : Int) (P0_3_ : Nat → Prop) (A0_3 : Option Addr) (c0_3 : Nat) (l0_3 : List ByteArray) (P0_4_ : Nat → Prop) (A0_4 : Option Addr) (c0_4 : Nat) (l0_4 : List (S43)) (P0_5_ : Nat → Prop) (A0_5 : Option Addr) (c0_5 : Nat) (l0_5 : List Int) (a1 r1 r2 r3 : Int) (r4 : List ByteArray) (r5 : List (S43)) (r6 : List Int) (r7 : Int) (r8 : Bool) (w : World) (hs0_3 : Kd.V Kd.string 9 w w.heap.size (fun k_ => P0_3_ k_) (.slice A0_3 l0_3.length c0_3) l0_3) (hs0_4 : Kd.V k43 43 w w.heap.size (fun k_ => P0_4_ k_) (.slice A0_4 l0_4.length c0_4) l0_4) (hs0_5 : Kd.V (Kd.int .i64) 3 w w.heap.size (fun k_ => P0_5_ k_) (.slice A0_5 l0_5.length c0_5) l0_5) (h : a1i.f k a0_0 a0_1 a0_2 l0_3 l0_4 l0_5 a1 = some (r1, r2, r3, r4, r5, r6, r7, r8)) :
  Calls Try.prog 24 #[.agg #[.int .i64 a0_0, .int .i64 a0_1, .int .i64 a0_2, .slice A0_3 l0_3.length c0_3, .slice A0_4 l0_4.length c0_4, .slice A0_5 l0_5.length c0_5], .int .u8 a1] w fun e w' => ∃ v3_ v4_ v5_ : Value, e = .returned (.tuple #[.agg #[.int .i64 r1, .int .i64 r2, .int .i64 r3, v3_, v4_, v5_], .int .i64 r7, .bool r8]) ∧ Kd.V Kd.string 9 w' w.heap.size (fun k_ => ((P0_3_ k_ ∨ P0_4_ k_ ∨ P0_5_ k_) ∨ w.heap.size ≤ k_)) v3_ r4 ∧ Kd.V k43 43 w' w.heap.size (fun k_ => ((P0_3_ k_ ∨ P0_4_ k_ ∨ P0_5_ k_) ∨ w.heap.size ≤ k_)) v4_ r5 ∧ Kd.V (Kd.int .i64) 3 w' w.heap.size (fun k_ => ((P0_3_ k_ ∨ P0_4_ k_ ∨ P0_5_ k_) ∨ w.heap.size ≤ k_)) v5_ r6 ∧ Below w.heap.size w w' := by
 have hu30 := Try.underlying30
 have hu43 := Try.underlying43
 have HO0_3 := am_ (show Kd.V Kd.string 9 w w.heap.size (fun k_ => ((P0_3_ k_ ∨ P0_4_ k_ ∨ P0_5_ k_) ∨ w.heap.size ≤ k_)) (.slice A0_3 l0_3.length c0_3) l0_3 from Kd.a0p hs0_3 (fun k_ hk => .inl (.inl hk)))
 have HO0_4 := am_ (show Kd.V k43 43 w w.heap.size (fun k_ => ((P0_3_ k_ ∨ P0_4_ k_ ∨ P0_5_ k_) ∨ w.heap.size ≤ k_)) (.slice A0_4 l0_4.length c0_4) l0_4 from Kd.a0p hs0_4 (fun k_ hk => .inl (.inr (.inl hk))))
 have HO0_5 := am_ (show Kd.V (Kd.int .i64) 3 w w.heap.size (fun k_ => ((P0_3_ k_ ∨ P0_4_ k_ ∨ P0_5_ k_) ∨ w.heap.size ≤ k_)) (.slice A0_5 l0_5.length c0_5) l0_5 from Kd.a0p hs0_5 (fun k_ hk => .inl (.inr (.inr hk))))
 have HB := am_ (Below.refl w.heap.size w)
 have H : (a1i.l0 k a1 ([] : List Int) l0_4 (l0_4.length : Int) 0 a0_0 a0_1 a0_2 l0_3 l0_4 l0_5) = some (r1, r2, r3, r4, r5, r6, r7, r8) := h
 clear h
 have H' := am_ H
 clear H
 go_enter Try.func24, Try.ntmps24
 go_wp2_with (first | ((with_reducible refine a0f (N := 2) rfl ?_); refine qev_ 2 #[.int .i64 a0_0, .int .i64 a0_1, .int .i64 a0_2, .slice A0_3 l0_3.length c0_3, .slice A0_4 l0_4.length c0_4, .slice A0_5 l0_5.length c0_5] 30 ?_; intro gb526 hg w3 hbox hb; replace HO0_3 := am_ (Kd.a1q (Kd.a2t (by (with_reducible repeat (first | apply Kd.V_alloc | apply Kd.V_drewN | apply Kd.a0m)); exact HO0_3.out) gb526 (Nat.le_of_eq hg.symm)) hb); replace HO0_4 := am_ (Kd.a1q (Kd.a2t (by (with_reducible repeat (first | apply Kd.V_alloc | apply Kd.V_drewN | apply Kd.a0m)); exact HO0_4.out) gb526 (Nat.le_of_eq hg.symm)) hb); replace HO0_5 := am_ (Kd.a1q (Kd.a2t (by (with_reducible repeat (first | apply Kd.V_alloc | apply Kd.V_drewN | apply Kd.a0m)); exact HO0_5.out) gb526 (Nat.le_of_eq hg.symm)) hb); have BK526 := am_ (hbox); have GW526 := qga_ hg; have GE526 := qga_ hg; replace HB := qbs_ hb; clear hb hbox hg) | ((with_reducible refine a0f (N := 4) rfl ?_); refine qev_ 4 #[.int .i64 0, .int .i64 0, .int .i64 0, .slice none 0 0, .slice none 0 0, .slice none 0 0] 30 ?_; intro gb527 hg w4 hbox hb; replace HO0_3 := am_ (Kd.a1q (Kd.a2t (by (with_reducible repeat (first | apply Kd.V_alloc | apply Kd.V_drewN | apply Kd.a0m)); exact HO0_3.out) gb527 (Nat.le_of_eq hg.symm)) hb); replace HO0_4 := am_ (Kd.a1q (Kd.a2t (by (with_reducible repeat (first | apply Kd.V_alloc | apply Kd.V_drewN | apply Kd.a0m)); exact HO0_4.out) gb527 (Nat.le_of_eq hg.symm)) hb); replace HO0_5 := am_ (Kd.a1q (Kd.a2t (by (with_reducible repeat (first | apply Kd.V_alloc | apply Kd.V_drewN | apply Kd.a0m)); exact HO0_5.out) gb527 (Nat.le_of_eq hg.symm)) hb); have BK527 := am_ (hbox); have GW527 := qga_ hg; have GE527 := qga_ hg; replace HB := qbs_ hb; have NB526_527 := am_ ((by rw [hg]; exact Nat.ne_of_lt (a0u (qk_ BK526)) : gb526 ≠ gb527)); have NB527_526 := am_ ((by rw [hg]; exact Nat.ne_of_gt (a0u (qk_ BK526)) : gb527 ≠ gb526)); replace BK526 := qkb_ BK526 hb; clear hb hbox hg; have hnb5 := NB526_527.out; have hnc5 := NB527_526.out; obtain ⟨z'6_0, z'6_1, z'6_2, z'6_3, z'6_4, z'6_5⟩ := qz6_ BK526; obtain ⟨y'6_0, y'6_1, y'6_2, y'6_3, y'6_4, y'6_5⟩ := qf6_ BK526))
 go_loopg [7, 17] k (fun kq v7 v17 w' => ∃ (x7_1 : List Int) (x17_1 : Int), v17 = .int .i64 x17_1 ∧ Aside0 (a1i.l0 kq a1 x7_1 l0_4 (l0_4.length : Int) x17_1 a0_0 a0_1 a0_2 l0_3 l0_4 l0_5 = some (r1, r2, r3, r4, r5, r6, r7, r8)) ∧ Aside0 (kq ≤ k) ∧ Aside0 (Kd.R (Kd.int .i64) 3 w' w.heap.size (fun k_ => (w.heap.size ≤ k_)) v7 x7_1) ∧ Aside0 (Kd.V k43 43 w' w.heap.size (fun k_ => ((P0_3_ k_ ∨ P0_4_ k_ ∨ P0_5_ k_) ∨ w.heap.size ≤ k_) ∧ some k_ ≠ (v7 : Value).ownBlock ∧ k_ ≠ gb526 ∧ k_ ≠ gb527) (.slice A0_4 l0_4.length c0_4) l0_4) ∧ Aside0 (Kd.V Kd.string 9 w' w.heap.size (fun k_ => ((P0_3_ k_ ∨ P0_4_ k_ ∨ P0_5_ k_) ∨ w.heap.size ≤ k_) ∧ some k_ ≠ (v7 : Value).ownBlock ∧ k_ ≠ gb526 ∧ k_ ≠ gb527) (.slice A0_3 l0_3.length c0_3) l0_3) ∧ Aside0 (Kd.V k43 43 w' w.heap.size (fun k_ => ((P0_3_ k_ ∨ P0_4_ k_ ∨ P0_5_ k_) ∨ w.heap.size ≤ k_) ∧ some k_ ≠ (v7 : Value).ownBlock ∧ k_ ≠ gb526 ∧ k_ ≠ gb527) (.slice A0_4 l0_4.length c0_4) l0_4) ∧ Aside0 (Kd.V (Kd.int .i64) 3 w' w.heap.size (fun k_ => ((P0_3_ k_ ∨ P0_4_ k_ ∨ P0_5_ k_) ∨ w.heap.size ≤ k_) ∧ some k_ ≠ (v7 : Value).ownBlock ∧ k_ ≠ gb526 ∧ k_ ≠ gb527) (.slice A0_5 l0_5.length c0_5) l0_5) ∧ Aside0 (w'.heap[gb526]? = some (.cells #[.int .i64 a0_0, .int .i64 a0_1, .int .i64 a0_2, (.slice A0_3 l0_3.length c0_3), (.slice A0_4 l0_4.length c0_4), (.slice A0_5 l0_5.length c0_5)] 30 (0, 0))) ∧ Aside0 (w'.heap[gb527]? = some (.cells #[.int .i64 0, .int .i64 0, .int .i64 0, (.slice none 0 0), (.slice none 0 0), (.slice none 0 0)] 30 (0, 0))) ∧ Aside0 (Below w.heap.size w w'))
 case atStart => exact ⟨(([] : List Int)), (0), qs_, H', ⟨Nat.le_refl _⟩, ⟨by first | exact Kd.a6u _ _ _ _ _ | exact Kd.N_nil _ _ _ _ _ | exact Kd.V_nil _ _ _ _ _ | exact Kd.Q_nil _ _ _ _ _ | exact Kd.S_nil _ _ _ _ _⟩, ⟨by (with_reducible repeat (first | apply Kd.V_alloc | apply Kd.V_drewN | apply Kd.a0m)); exact Kd.a0p HO0_4.out (fun _ hk => ⟨hk.1.1, ⟨(by simp [Value.ownBlock]), ⟨hk.1.2, hk.2⟩⟩⟩)⟩, ⟨by (with_reducible repeat (first | apply Kd.V_alloc | apply Kd.V_drewN | apply Kd.a0m)); exact Kd.a0p HO0_3.out (fun _ hk => ⟨hk.1.1, ⟨(by simp [Value.ownBlock]), ⟨hk.1.2, hk.2⟩⟩⟩)⟩, ⟨by (with_reducible repeat (first | apply Kd.V_alloc | apply Kd.V_drewN | apply Kd.a0m)); exact Kd.a0p HO0_4.out (fun _ hk => ⟨hk.1.1, ⟨(by simp [Value.ownBlock]), ⟨hk.1.2, hk.2⟩⟩⟩)⟩, ⟨by (with_reducible repeat (first | apply Kd.V_alloc | apply Kd.V_drewN | apply Kd.a0m)); exact Kd.a0p HO0_5.out (fun _ hk => ⟨hk.1.1, ⟨(by simp [Value.ownBlock]), ⟨hk.1.2, hk.2⟩⟩⟩)⟩, ⟨qk_ BK526⟩, ⟨qk_ BK527⟩, ⟨qb_⟩⟩
 case round =>
  clear H'
  try clear c2
  try clear p2
  try clear c5
  try clear z'6_0 z'6_1 z'6_2 z'6_3 z'6_4 z'6_5
  try clear y'6_0 y'6_1 y'6_2 y'6_3 y'6_4 y'6_5
  obtain ⟨x7_1, x17_1, rfl, HA, HK1, HO_7, HO_15, HO_527003, HO_527004, HO_527005, BK526, BK527, HB⟩ := hrel
  cases gk with
  | zero => exact absurd HA.out (by simp [a1i.l0])
  | succ k1 =>
   have H := HA.out
   clear HA
   simp only [a1i.l0] at H
   by_cases c7 : x17_1 < (l0_4.length : Int)
   ·rw [if_pos c7] at H
    have c7b0 : decide (x17_1 < (l0_4.length : Int)) = true := decide_eq_true c7
    clear c7
    by_cases c8 : 0 ≤ x17_1
    ·rw [if_pos c8] at H
     have c8b0 : decide (0 ≤ x17_1) = true := decide_eq_true c8
     clear c8
     by_cases c9 : x17_1 < (l0_4.length : Int)
     ·rw [if_pos c9] at H
      have c9b0 : decide (x17_1 < (l0_4.length : Int)) = true := decide_eq_true c9
      clear c9
      replace H := bm_ H
      obtain ⟨t530, A100, H⟩ := H
      replace H : (if t530 = true then (a1i.l0 k1 a1 x7_1 l0_4 (l0_4.length : Int) (wrap64 (x17_1 + 1)) a0_0 a0_1 a0_2 l0_3 l0_4 l0_5) else (if x7_1.length < 17592186044416 then (a1i.l0 k1 a1 (x7_1 ++ [x17_1]) l0_4 (l0_4.length : Int) (wrap64 (x17_1 + 1)) a0_0 a0_1 a0_2 l0_3 l0_4 l0_5) else (none))) = some (r1, r2, r3, r4, r5, r6, r7, r8) := H
      have A10 := am_ A100
      clear A100
      by_cases c11 : t530 = true
      ·subst c11
       have H1 : (a1i.l0 k1 a1 x7_1 l0_4 (l0_4.length : Int) (wrap64 (x17_1 + 1)) a0_0 a0_1 a0_2 l0_3 l0_4 l0_5) = some (r1, r2, r3, r4, r5, r6, r7, r8) := by rw [if_pos rfl] at H; exact H
       clear H
       have H := H1
       clear H1
       have H' := am_ H
       clear H
       have p528 : 0 ≤ (x17_1 : Int) := ot_
       have q528 : x17_1 < (l0_4.length : Int) := ot_
       obtain ⟨ad528, e528, hx528_0, hx528_1, hx528_2⟩ := a2p (Kd.a1w HO_15.out).2.2 x17_1 p528 q528
       cases e528
       replace p528 := eq_true p528
       replace q528 := eq_true q528
       go_wp2_with (first | ((with_reducible refine a0f (N := 9) rfl ?_); refine qev_ 9 #[.int .i64 0, .int .i64 0, .int .i64 0] 43 ?_; intro gb529 hg w12 hbox hb; replace HO_7 := qrb_ HO_7 hb; replace HO_15 := am_ (Kd.a1q (Kd.a2t (by (with_reducible repeat (first | apply Kd.V_alloc | apply Kd.V_drewN | apply Kd.a0m)); exact HO_15.out) gb529 (Nat.le_of_eq hg.symm)) hb); replace HO_527003 := am_ (Kd.a1q (Kd.a2t (by (with_reducible repeat (first | apply Kd.V_alloc | apply Kd.V_drewN | apply Kd.a0m)); exact HO_527003.out) gb529 (Nat.le_of_eq hg.symm)) hb); replace HO_527004 := am_ (Kd.a1q (Kd.a2t (by (with_reducible repeat (first | apply Kd.V_alloc | apply Kd.V_drewN | apply Kd.a0m)); exact HO_527004.out) gb529 (Nat.le_of_eq hg.symm)) hb); replace HO_527005 := am_ (Kd.a1q (Kd.a2t (by (with_reducible repeat (first | apply Kd.V_alloc | apply Kd.V_drewN | apply Kd.a0m)); exact HO_527005.out) gb529 (Nat.le_of_eq hg.symm)) hb); have BK529 := am_ (hbox); have GW529 := qga_ hg; have GE529 := qga_ hg; replace HB := qbs_ hb; have NB526_529 := am_ ((by rw [hg]; exact Nat.ne_of_lt (a0u (qk_ BK526)) : gb526 ≠ gb529)); have NB529_526 := am_ ((by rw [hg]; exact Nat.ne_of_gt (a0u (qk_ BK526)) : gb529 ≠ gb526)); replace BK526 := qkb_ BK526 hb; have NB527_529 := am_ ((by rw [hg]; exact Nat.ne_of_lt (a0u (qk_ BK527)) : gb527 ≠ gb529)); have NB529_527 := am_ ((by rw [hg]; exact Nat.ne_of_gt (a0u (qk_ BK527)) : gb529 ≠ gb527)); replace BK527 := qkb_ BK527 hb; clear hb hbox hg; have hnb13 := NB529_526.out; have hnc13 := NB526_529.out; have hnb14 := NB529_527.out; have hnc14 := NB527_529.out; obtain ⟨z'15_0, z'15_1, z'15_2⟩ := qz3_ BK529; obtain ⟨y'15_0, y'15_1, y'15_2⟩ := qf3_ BK529; have hnb16 := NB526_527.out; have hnc16 := NB527_526.out; obtain ⟨z'17_0, z'17_1, z'17_2, z'17_3, z'17_4, z'17_5⟩ := qz6_ BK526; obtain ⟨y'17_0, y'17_1, y'17_2, y'17_3, y'17_4, y'17_5⟩ := qf6_ BK526) | ((with_reducible refine a0e (f := 23) rfl ?_); refine a0w (some 25) rfl rfl Try.func23 (by kernel_rfl) rfl #[.agg #[.int .i64 a0_0, .int .i64 a0_1, .int .i64 a0_2, .slice A0_3 l0_3.length c0_3, .slice (some ad528) l0_4.length c0_4, .slice A0_5 l0_5.length c0_5], .int .i64 ((a0a l0_4 x17_1).f0)] rfl ql_ ?_; (with_reducible refine (a2x.calls k1 a0_0 a0_1 a0_2 _ _ l0_3 _ _ l0_4 _ _ l0_5 ((a0a l0_4 x17_1).f0) true _ ?s1 ?s2 ?s3 ?s4 ?s5 ?s6 A10.out).mono ?_); (case s1 => refine (Kd.a1w (e := 9) (base := w.heap.size) (ok := fun k_ => ((((P0_3_ k_ ∨ P0_4_ k_ ∨ P0_5_ k_) ∨ w.heap.size ≤ k_) ∧ (some k_ ≠ (u7 : Value).ownBlock ∧ (k_ ≠ gb526 ∧ k_ ≠ gb527))) ∧ k_ ≠ gb529)) (n := l0_3.length) (c := c0_3) ?_).2.2; exact (by (with_reducible repeat (first | apply Kd.V_alloc | apply Kd.V_drewN | apply Kd.a0m)); exact (Kd.a0p (Kd.a0r (p := ⟨gb529, 2, none⟩) (Kd.a0r (p := ⟨gb529, 1, none⟩) (Kd.a0r (p := ⟨gb529, 0, none⟩) (Kd.a0p HO_527003.out (fun k_ hk => (⟨hk, hk.2⟩ : _ ∧ k_ ≠ gb529))) (fun _ hk => hk.2) (.int .i64 ((a0a l0_4 x17_1).f0))) (fun _ hk => hk.2) (.int .i64 ((a0a l0_4 x17_1).f1))) (fun _ hk => hk.2) (.int .i64 ((a0a l0_4 x17_1).f2))) (fun _ h_ => h_.1)))); (case s2 => exact (Kd.a1w HO_527003.out).2.1); (case s3 => refine (Kd.a1w (e := 43) (base := w.heap.size) (ok := fun k_ => ((((P0_3_ k_ ∨ P0_4_ k_ ∨ P0_5_ k_) ∨ w.heap.size ≤ k_) ∧ (some k_ ≠ (u7 : Value).ownBlock ∧ (k_ ≠ gb526 ∧ k_ ≠ gb527))) ∧ k_ ≠ gb529)) (n := l0_4.length) (c := c0_4) ?_).2.2; exact (by (with_reducible repeat (first | apply Kd.V_alloc | apply Kd.V_drewN | apply Kd.a0m)); exact (Kd.a0p (Kd.a0r (p := ⟨gb529, 2, none⟩) (Kd.a0r (p := ⟨gb529, 1, none⟩) (Kd.a0r (p := ⟨gb529, 0, none⟩) (Kd.a0p HO_527004.out (fun k_ hk => (⟨hk, hk.2⟩ : _ ∧ k_ ≠ gb529))) (fun _ hk => hk.2) (.int .i64 ((a0a l0_4 x17_1).f0))) (fun _ hk => hk.2) (.int .i64 ((a0a l0_4 x17_1).f1))) (fun _ hk => hk.2) (.int .i64 ((a0a l0_4 x17_1).f2))) (fun _ h_ => h_.1)))); (case s4 => exact (Kd.a1w HO_527004.out).2.1); (case s5 => refine (Kd.a1w (e := 3) (base := w.heap.size) (ok := fun k_ => ((((P0_3_ k_ ∨ P0_4_ k_ ∨ P0_5_ k_) ∨ w.heap.size ≤ k_) ∧ (some k_ ≠ (u7 : Value).ownBlock ∧ (k_ ≠ gb526 ∧ k_ ≠ gb527))) ∧ k_ ≠ gb529)) (n := l0_5.length) (c := c0_5) ?_).2.2; exact (by (with_reducible repeat (first | apply Kd.V_alloc | apply Kd.V_drewN | apply Kd.a0m)); exact (Kd.a0p (Kd.a0r (p := ⟨gb529, 2, none⟩) (Kd.a0r (p := ⟨gb529, 1, none⟩) (Kd.a0r (p := ⟨gb529, 0, none⟩) (Kd.a0p HO_527005.out (fun k_ hk => (⟨hk, hk.2⟩ : _ ∧ k_ ≠ gb529))) (fun _ hk => hk.2) (.int .i64 ((a0a l0_4 x17_1).f0))) (fun _ hk => hk.2) (.int .i64 ((a0a l0_4 x17_1).f1))) (fun _ hk => hk.2) (.int .i64 ((a0a l0_4 x17_1).f2))) (fun _ h_ => h_.1)))); (case s6 => exact (Kd.a1w HO_527005.out).2.1); rintro e w18 ⟨rfl, hb⟩; refine ⟨_, rfl, ?_⟩; replace HO_7 := am_ (Kd.a3m (by (with_reducible repeat (first | apply Kd.a1e | apply Kd.a1f | apply Kd.a0y)); exact (Kd.a2w (Kd.a1c (p := ⟨gb529, 2, none⟩) (Kd.a1c (p := ⟨gb529, 1, none⟩) (Kd.a1c (p := ⟨gb529, 0, none⟩) (Kd.a3d HO_7.out BK529.out (by decide)) (fun _ hk => hk.2) (.int .i64 ((a0a l0_4 x17_1).f0))) (fun _ hk => hk.2) (.int .i64 ((a0a l0_4 x17_1).f1))) (fun _ hk => hk.2) (.int .i64 ((a0a l0_4 x17_1).f2))) (fun _ h_ => h_.1))) hb); replace HO_15 := am_ (Kd.a1q (by (with_reducible repeat (first | apply Kd.V_alloc | apply Kd.V_drewN | apply Kd.a0m)); exact (Kd.a0p (Kd.a0r (p := ⟨gb529, 2, none⟩) (Kd.a0r (p := ⟨gb529, 1, none⟩) (Kd.a0r (p := ⟨gb529, 0, none⟩) (Kd.a0p HO_15.out (fun k_ hk => (⟨hk, hk.2⟩ : _ ∧ k_ ≠ gb529))) (fun _ hk => hk.2) (.int .i64 ((a0a l0_4 x17_1).f0))) (fun _ hk => hk.2) (.int .i64 ((a0a l0_4 x17_1).f1))) (fun _ hk => hk.2) (.int .i64 ((a0a l0_4 x17_1).f2))) (fun _ h_ => h_.1))) hb); replace HO_527003 := am_ (Kd.a1q (by (with_reducible repeat (first | apply Kd.V_alloc | apply Kd.V_drewN | apply Kd.a0m)); exact (Kd.a0p (Kd.a0r (p := ⟨gb529, 2, none⟩) (Kd.a0r (p := ⟨gb529, 1, none⟩) (Kd.a0r (p := ⟨gb529, 0, none⟩) (Kd.a0p HO_527003.out (fun k_ hk => (⟨hk, hk.2⟩ : _ ∧ k_ ≠ gb529))) (fun _ hk => hk.2) (.int .i64 ((a0a l0_4 x17_1).f0))) (fun _ hk => hk.2) (.int .i64 ((a0a l0_4 x17_1).f1))) (fun _ hk => hk.2) (.int .i64 ((a0a l0_4 x17_1).f2))) (fun _ h_ => h_.1))) hb); replace HO_527004 := am_ (Kd.a1q (by (with_reducible repeat (first | apply Kd.V_alloc | apply Kd.V_drewN | apply Kd.a0m)); exact (Kd.a0p (Kd.a0r (p := ⟨gb529, 2, none⟩) (Kd.a0r (p := ⟨gb529, 1, none⟩) (Kd.a0r (p := ⟨gb529, 0, none⟩) (Kd.a0p HO_527004.out (fun k_ hk => (⟨hk, hk.2⟩ : _ ∧ k_ ≠ gb529))) (fun _ hk => hk.2) (.int .i64 ((a0a l0_4 x17_1).f0))) (fun _ hk => hk.2) (.int .i64 ((a0a l0_4 x17_1).f1))) (fun _ hk => hk.2) (.int .i64 ((a0a l0_4 x17_1).f2))) (fun _ h_ => h_.1))) hb); replace HO_527005 := am_ (Kd.a1q (by (with_reducible repeat (first | apply Kd.V_alloc | apply Kd.V_drewN | apply Kd.a0m)); exact (Kd.a0p (Kd.a0r (p := ⟨gb529, 2, none⟩) (Kd.a0r (p := ⟨gb529, 1, none⟩) (Kd.a0r (p := ⟨gb529, 0, none⟩) (Kd.a0p HO_527005.out (fun k_ hk => (⟨hk, hk.2⟩ : _ ∧ k_ ≠ gb529))) (fun _ hk => hk.2) (.int .i64 ((a0a l0_4 x17_1).f0))) (fun _ hk => hk.2) (.int .i64 ((a0a l0_4 x17_1).f1))) (fun _ hk => hk.2) (.int .i64 ((a0a l0_4 x17_1).f2))) (fun _ h_ => h_.1))) hb); replace BK526 := am_ (a1o (g := gb526) (o := .cells #[.int .i64 a0_0, .int .i64 a0_1, .int .i64 a0_2, .slice A0_3 l0_3.length c0_3, .slice (some ad528) l0_4.length c0_4, .slice A0_5 l0_5.length c0_5] 30 (0, 0)) (by refine qd_ ?_; refine a0b ?_ NB526_529.out _; refine qd_ ?_; refine a0b ?_ NB526_529.out _; refine qd_ ?_; refine a0b ?_ NB526_529.out _; refine qd_ ?_; exact BK526.out) hb); replace BK527 := am_ (a1o (g := gb527) (o := .cells #[.int .i64 0, .int .i64 0, .int .i64 0, .slice none 0 0, .slice none 0 0, .slice none 0 0] 30 (0, 0)) (by refine qd_ ?_; refine a0b ?_ NB527_529.out _; refine qd_ ?_; refine a0b ?_ NB527_529.out _; refine qd_ ?_; refine a0b ?_ NB527_529.out _; refine qd_ ?_; exact BK527.out) hb); replace BK529 := am_ (a1o (g := gb529) (o := .cells #[.int .i64 ((a0a l0_4 x17_1).f0), .int .i64 ((a0a l0_4 x17_1).f1), .int .i64 ((a0a l0_4 x17_1).f2)] 43 (0, 0)) (by refine qd_ ?_; refine a0d (cs := #[.int .i64 ((a0a l0_4 x17_1).f0), .int .i64 ((a0a l0_4 x17_1).f1), .int .i64 0]) ?_ 2 _ rfl; refine qd_ ?_; refine a0d (cs := #[.int .i64 ((a0a l0_4 x17_1).f0), .int .i64 0, .int .i64 0]) ?_ 1 _ rfl; refine qd_ ?_; refine a0d (cs := #[.int .i64 0, .int .i64 0, .int .i64 0]) ?_ 0 _ rfl; refine qd_ ?_; exact BK529.out) hb); replace HB := qbs_ hb; (try clear hb); (try clear hb2); (try clear hk); (try clear hi)))
       go_roundg k1
       case measure => have := HK1.out; omega
       case rel => exact ⟨(x7_1), (wrap64 (x17_1 + 1)), qs_, H', ⟨by have := HK1.out; omega⟩, ⟨by (with_reducible repeat (first | apply Kd.a1e | apply Kd.a1f | apply Kd.a0y)); exact HO_7.out⟩, ⟨by (with_reducible repeat (first | apply Kd.V_alloc | apply Kd.V_drewN | apply Kd.a0m)); exact Kd.a0p HO_15.out (fun _ hk => ⟨hk.1.1, ⟨hk.1.2.1, ⟨hk.1.2.2.1, hk.1.2.2.2⟩⟩⟩)⟩, ⟨by (with_reducible repeat (first | apply Kd.V_alloc | apply Kd.V_drewN | apply Kd.a0m)); exact Kd.a0p HO_527003.out (fun _ hk => ⟨hk.1.1, ⟨hk.1.2.1, ⟨hk.1.2.2.1, hk.1.2.2.2⟩⟩⟩)⟩, ⟨by (with_reducible repeat (first | apply Kd.V_alloc | apply Kd.V_drewN | apply Kd.a0m)); exact Kd.a0p HO_527004.out (fun _ hk => ⟨hk.1.1, ⟨hk.1.2.1, ⟨hk.1.2.2.1, hk.1.2.2.2⟩⟩⟩)⟩, ⟨by (with_reducible repeat (first | apply Kd.V_alloc | apply Kd.V_drewN | apply Kd.a0m)); exact Kd.a0p HO_527005.out (fun _ hk => ⟨hk.1.1, ⟨hk.1.2.1, ⟨hk.1.2.2.1, hk.1.2.2.2⟩⟩⟩)⟩, ⟨qk_ BK526⟩, ⟨qk_ BK527⟩, ⟨qb_⟩⟩
      ·replace c11 := be_ c11
       subst c11
       have H1 : (if x7_1.length < 17592186044416 then (a1i.l0 k1 a1 (x7_1 ++ [x17_1]) l0_4 (l0_4.length : Int) (wrap64 (x17_1 + 1)) a0_0 a0_1 a0_2 l0_3 l0_4 l0_5) else (none)) = some (r1, r2, r3, r4, r5, r6, r7, r8) := by rw [if_neg (show ¬ (false = true) by decide)] at H; exact H
       clear H
       have H := H1
       clear H1
       by_cases c19 : x7_1.length < 17592186044416
       ·rw [if_pos c19] at H
        have LMc19 := am_ c19
        clear c19
        obtain ⟨y531, hy531⟩ : ∃ y_ : List Int, y_ = (x7_1 ++ [x17_1]) := ⟨_, rfl⟩
        replace H : (a1i.l0 k1 a1 y531 l0_4 (l0_4.length : Int) (wrap64 (x17_1 + 1)) a0_0 a0_1 a0_2 l0_3 l0_4 l0_5) = some (r1, r2, r3, r4, r5, r6, r7, r8) := by first | (rw [hy531]; with_reducible exact H) | (have H2_ := (Option.bind_some _ _).symm.trans H; rw [hy531]; with_reducible exact H2_) | (have H2_ := (Option.bind_some _ _).symm.trans H; with_reducible exact H2_) | with_reducible exact H | (rw [hy531]; exact H) | exact H
        have Ny531 := am_ hy531
        clear hy531
        have H' := am_ H
        clear H
        have p528 : 0 ≤ (x17_1 : Int) := ot_
        have q528 : x17_1 < (l0_4.length : Int) := ot_
        obtain ⟨ad528, e528, hx528_0, hx528_1, hx528_2⟩ := a2p (Kd.a1w HO_15.out).2.2 x17_1 p528 q528
        cases e528
        replace p528 := eq_true p528
        replace q528 := eq_true q528
        go_wp2_with (first | ((with_reducible refine a0f (N := 9) rfl ?_); refine qev_ 9 #[.int .i64 0, .int .i64 0, .int .i64 0] 43 ?_; intro gb529 hg w20 hbox hb; replace HO_7 := qrb_ HO_7 hb; replace HO_15 := am_ (Kd.a1q (Kd.a2t (by (with_reducible repeat (first | apply Kd.V_alloc | apply Kd.V_drewN | apply Kd.a0m)); exact HO_15.out) gb529 (Nat.le_of_eq hg.symm)) hb); replace HO_527003 := am_ (Kd.a1q (Kd.a2t (by (with_reducible repeat (first | apply Kd.V_alloc | apply Kd.V_drewN | apply Kd.a0m)); exact HO_527003.out) gb529 (Nat.le_of_eq hg.symm)) hb); replace HO_527004 := am_ (Kd.a1q (Kd.a2t (by (with_reducible repeat (first | apply Kd.V_alloc | apply Kd.V_drewN | apply Kd.a0m)); exact HO_527004.out) gb529 (Nat.le_of_eq hg.symm)) hb); replace HO_527005 := am_ (Kd.a1q (Kd.a2t (by (with_reducible repeat (first | apply Kd.V_alloc | apply Kd.V_drewN | apply Kd.a0m)); exact HO_527005.out) gb529 (Nat.le_of_eq hg.symm)) hb); have BK529 := am_ (hbox); have GW529 := qga_ hg; have GE529 := qga_ hg; replace HB := qbs_ hb; have NB526_529 := am_ ((by rw [hg]; exact Nat.ne_of_lt (a0u (qk_ BK526)) : gb526 ≠ gb529)); have NB529_526 := am_ ((by rw [hg]; exact Nat.ne_of_gt (a0u (qk_ BK526)) : gb529 ≠ gb526)); replace BK526 := qkb_ BK526 hb; have NB527_529 := am_ ((by rw [hg]; exact Nat.ne_of_lt (a0u (qk_ BK527)) : gb527 ≠ gb529)); have NB529_527 := am_ ((by rw [hg]; exact Nat.ne_of_gt (a0u (qk_ BK527)) : gb529 ≠ gb527)); replace BK527 := qkb_ BK527 hb; clear hb hbox hg; have hnb21 := NB529_526.out; have hnc21 := NB526_529.out; have hnb22 := NB529_527.out; have hnc22 := NB527_529.out; obtain ⟨z'23_0, z'23_1, z'23_2⟩ := qz3_ BK529; obtain ⟨y'23_0, y'23_1, y'23_2⟩ := qf3_ BK529; have hnb24 := NB526_527.out; have hnc24 := NB527_526.out; obtain ⟨z'25_0, z'25_1, z'25_2, z'25_3, z'25_4, z'25_5⟩ := qz6_ BK526; obtain ⟨y'25_0, y'25_1, y'25_2, y'25_3, y'25_4, y'25_5⟩ := qf6_ BK526) | ((with_reducible refine a0e (f := 23) rfl ?_); refine a0w (some 25) rfl rfl Try.func23 (by kernel_rfl) rfl #[.agg #[.int .i64 a0_0, .int .i64 a0_1, .int .i64 a0_2, .slice A0_3 l0_3.length c0_3, .slice (some ad528) l0_4.length c0_4, .slice A0_5 l0_5.length c0_5], .int .i64 ((a0a l0_4 x17_1).f0)] rfl ql_ ?_; (with_reducible refine (a2x.calls k1 a0_0 a0_1 a0_2 _ _ l0_3 _ _ l0_4 _ _ l0_5 ((a0a l0_4 x17_1).f0) false _ ?s1 ?s2 ?s3 ?s4 ?s5 ?s6 A10.out).mono ?_); (case s1 => refine (Kd.a1w (e := 9) (base := w.heap.size) (ok := fun k_ => ((((P0_3_ k_ ∨ P0_4_ k_ ∨ P0_5_ k_) ∨ w.heap.size ≤ k_) ∧ (some k_ ≠ (u7 : Value).ownBlock ∧ (k_ ≠ gb526 ∧ k_ ≠ gb527))) ∧ k_ ≠ gb529)) (n := l0_3.length) (c := c0_3) ?_).2.2; exact (by (with_reducible repeat (first | apply Kd.V_alloc | apply Kd.V_drewN | apply Kd.a0m)); exact (Kd.a0p (Kd.a0r (p := ⟨gb529, 2, none⟩) (Kd.a0r (p := ⟨gb529, 1, none⟩) (Kd.a0r (p := ⟨gb529, 0, none⟩) (Kd.a0p HO_527003.out (fun k_ hk => (⟨hk, hk.2⟩ : _ ∧ k_ ≠ gb529))) (fun _ hk => hk.2) (.int .i64 ((a0a l0_4 x17_1).f0))) (fun _ hk => hk.2) (.int .i64 ((a0a l0_4 x17_1).f1))) (fun _ hk => hk.2) (.int .i64 ((a0a l0_4 x17_1).f2))) (fun _ h_ => h_.1)))); (case s2 => exact (Kd.a1w HO_527003.out).2.1); (case s3 => refine (Kd.a1w (e := 43) (base := w.heap.size) (ok := fun k_ => ((((P0_3_ k_ ∨ P0_4_ k_ ∨ P0_5_ k_) ∨ w.heap.size ≤ k_) ∧ (some k_ ≠ (u7 : Value).ownBlock ∧ (k_ ≠ gb526 ∧ k_ ≠ gb527))) ∧ k_ ≠ gb529)) (n := l0_4.length) (c := c0_4) ?_).2.2; exact (by (with_reducible repeat (first | apply Kd.V_alloc | apply Kd.V_drewN | apply Kd.a0m)); exact (Kd.a0p (Kd.a0r (p := ⟨gb529, 2, none⟩) (Kd.a0r (p := ⟨gb529, 1, none⟩) (Kd.a0r (p := ⟨gb529, 0, none⟩) (Kd.a0p HO_527004.out (fun k_ hk => (⟨hk, hk.2⟩ : _ ∧ k_ ≠ gb529))) (fun _ hk => hk.2) (.int .i64 ((a0a l0_4 x17_1).f0))) (fun _ hk => hk.2) (.int .i64 ((a0a l0_4 x17_1).f1))) (fun _ hk => hk.2) (.int .i64 ((a0a l0_4 x17_1).f2))) (fun _ h_ => h_.1)))); (case s4 => exact (Kd.a1w HO_527004.out).2.1); (case s5 => refine (Kd.a1w (e := 3) (base := w.heap.size) (ok := fun k_ => ((((P0_3_ k_ ∨ P0_4_ k_ ∨ P0_5_ k_) ∨ w.heap.size ≤ k_) ∧ (some k_ ≠ (u7 : Value).ownBlock ∧ (k_ ≠ gb526 ∧ k_ ≠ gb527))) ∧ k_ ≠ gb529)) (n := l0_5.length) (c := c0_5) ?_).2.2; exact (by (with_reducible repeat (first | apply Kd.V_alloc | apply Kd.V_drewN | apply Kd.a0m)); exact (Kd.a0p (Kd.a0r (p := ⟨gb529, 2, none⟩) (Kd.a0r (p := ⟨gb529, 1, none⟩) (Kd.a0r (p := ⟨gb529, 0, none⟩) (Kd.a0p HO_527005.out (fun k_ hk => (⟨hk, hk.2⟩ : _ ∧ k_ ≠ gb529))) (fun _ hk => hk.2) (.int .i64 ((a0a l0_4 x17_1).f0))) (fun _ hk => hk.2) (.int .i64 ((a0a l0_4 x17_1).f1))) (fun _ hk => hk.2) (.int .i64 ((a0a l0_4 x17_1).f2))) (fun _ h_ => h_.1)))); (case s6 => exact (Kd.a1w HO_527005.out).2.1); rintro e w26 ⟨rfl, hb⟩; refine ⟨_, rfl, ?_⟩; replace HO_7 := am_ (Kd.a3m (by (with_reducible repeat (first | apply Kd.a1e | apply Kd.a1f | apply Kd.a0y)); exact (Kd.a2w (Kd.a1c (p := ⟨gb529, 2, none⟩) (Kd.a1c (p := ⟨gb529, 1, none⟩) (Kd.a1c (p := ⟨gb529, 0, none⟩) (Kd.a3d HO_7.out BK529.out (by decide)) (fun _ hk => hk.2) (.int .i64 ((a0a l0_4 x17_1).f0))) (fun _ hk => hk.2) (.int .i64 ((a0a l0_4 x17_1).f1))) (fun _ hk => hk.2) (.int .i64 ((a0a l0_4 x17_1).f2))) (fun _ h_ => h_.1))) hb); replace HO_15 := am_ (Kd.a1q (by (with_reducible repeat (first | apply Kd.V_alloc | apply Kd.V_drewN | apply Kd.a0m)); exact (Kd.a0p (Kd.a0r (p := ⟨gb529, 2, none⟩) (Kd.a0r (p := ⟨gb529, 1, none⟩) (Kd.a0r (p := ⟨gb529, 0, none⟩) (Kd.a0p HO_15.out (fun k_ hk => (⟨hk, hk.2⟩ : _ ∧ k_ ≠ gb529))) (fun _ hk => hk.2) (.int .i64 ((a0a l0_4 x17_1).f0))) (fun _ hk => hk.2) (.int .i64 ((a0a l0_4 x17_1).f1))) (fun _ hk => hk.2) (.int .i64 ((a0a l0_4 x17_1).f2))) (fun _ h_ => h_.1))) hb); replace HO_527003 := am_ (Kd.a1q (by (with_reducible repeat (first | apply Kd.V_alloc | apply Kd.V_drewN | apply Kd.a0m)); exact (Kd.a0p (Kd.a0r (p := ⟨gb529, 2, none⟩) (Kd.a0r (p := ⟨gb529, 1, none⟩) (Kd.a0r (p := ⟨gb529, 0, none⟩) (Kd.a0p HO_527003.out (fun k_ hk => (⟨hk, hk.2⟩ : _ ∧ k_ ≠ gb529))) (fun _ hk => hk.2) (.int .i64 ((a0a l0_4 x17_1).f0))) (fun _ hk => hk.2) (.int .i64 ((a0a l0_4 x17_1).f1))) (fun _ hk => hk.2) (.int .i64 ((a0a l0_4 x17_1).f2))) (fun _ h_ => h_.1))) hb); replace HO_527004 := am_ (Kd.a1q (by (with_reducible repeat (first | apply Kd.V_alloc | apply Kd.V_drewN | apply Kd.a0m)); exact (Kd.a0p (Kd.a0r (p := ⟨gb529, 2, none⟩) (Kd.a0r (p := ⟨gb529, 1, none⟩) (Kd.a0r (p := ⟨gb529, 0, none⟩) (Kd.a0p HO_527004.out (fun k_ hk => (⟨hk, hk.2⟩ : _ ∧ k_ ≠ gb529))) (fun _ hk => hk.2) (.int .i64 ((a0a l0_4 x17_1).f0))) (fun _ hk => hk.2) (.int .i64 ((a0a l0_4 x17_1).f1))) (fun _ hk => hk.2) (.int .i64 ((a0a l0_4 x17_1).f2))) (fun _ h_ => h_.1))) hb); replace HO_527005 := am_ (Kd.a1q (by (with_reducible repeat (first | apply Kd.V_alloc | apply Kd.V_drewN | apply Kd.a0m)); exact (Kd.a0p (Kd.a0r (p := ⟨gb529, 2, none⟩) (Kd.a0r (p := ⟨gb529, 1, none⟩) (Kd.a0r (p := ⟨gb529, 0, none⟩) (Kd.a0p HO_527005.out (fun k_ hk => (⟨hk, hk.2⟩ : _ ∧ k_ ≠ gb529))) (fun _ hk => hk.2) (.int .i64 ((a0a l0_4 x17_1).f0))) (fun _ hk => hk.2) (.int .i64 ((a0a l0_4 x17_1).f1))) (fun _ hk => hk.2) (.int .i64 ((a0a l0_4 x17_1).f2))) (fun _ h_ => h_.1))) hb); replace BK526 := am_ (a1o (g := gb526) (o := .cells #[.int .i64 a0_0, .int .i64 a0_1, .int .i64 a0_2, .slice A0_3 l0_3.length c0_3, .slice (some ad528) l0_4.length c0_4, .slice A0_5 l0_5.length c0_5] 30 (0, 0)) (by refine qd_ ?_; refine a0b ?_ NB526_529.out _; refine qd_ ?_; refine a0b ?_ NB526_529.out _; refine qd_ ?_; refine a0b ?_ NB526_529.out _; refine qd_ ?_; exact BK526.out) hb); replace BK527 := am_ (a1o (g := gb527) (o := .cells #[.int .i64 0, .int .i64 0, .int .i64 0, .slice none 0 0, .slice none 0 0, .slice none 0 0] 30 (0, 0)) (by refine qd_ ?_; refine a0b ?_ NB527_529.out _; refine qd_ ?_; refine a0b ?_ NB527_529.out _; refine qd_ ?_; refine a0b ?_ NB527_529.out _; refine qd_ ?_; exact BK527.out) hb); replace BK529 := am_ (a1o (g := gb529) (o := .cells #[.int .i64 ((a0a l0_4 x17_1).f0), .int .i64 ((a0a l0_4 x17_1).f1), .int .i64 ((a0a l0_4 x17_1).f2)] 43 (0, 0)) (by refine qd_ ?_; refine a0d (cs := #[.int .i64 ((a0a l0_4 x17_1).f0), .int .i64 ((a0a l0_4 x17_1).f1), .int .i64 0]) ?_ 2 _ rfl; refine qd_ ?_; refine a0d (cs := #[.int .i64 ((a0a l0_4 x17_1).f0), .int .i64 0, .int .i64 0]) ?_ 1 _ rfl; refine qd_ ?_; refine a0d (cs := #[.int .i64 0, .int .i64 0, .int .i64 0]) ?_ 0 _ rfl; refine qd_ ?_; exact BK529.out) hb); replace HB := qbs_ hb; (try clear hb); (try clear hb2); (try clear hk); (try clear hi)) | ((with_reducible refine a4q (b := .append) (xs := #[.tmp 27, .tmp 29]) rfl ?_); at_builtin; refine Kd.a5u (Kd.int .i64) (w0 := w) w.heap.size rfl (.tmp 27) (.tmp 29) 28 3 (.int .i64 0) 8 rfl Try.underlying28 info3 rfl (by decide) (by omega) u7 x7_1 x17_1 [.int .i64 x17_1] (fun k_ => (w.heap.size ≤ k_)) (fun _ => False) rfl rfl ?aP (fun _ hk => hk.elim) ?aF ?aO ?aB ?aS ?aL ?_; (case aP => exact rfl); (case aB => exact qb_); (case aF => exact (fun k_ hk => (Nat.le_trans (a0x qb_) hk))); (case aO => exact (qr_ HO_7)); (case aS => exact (a0x qb_)); (case aL => have := LMc19.out; omega); intro v532 w27 ho hb hg hat; rw [← Ny531.out] at ho; replace HO_15 := am_ (Kd.a4u (ok := (fun k_ => ((P0_3_ k_ ∨ P0_4_ k_ ∨ P0_5_ k_) ∨ w.heap.size ≤ k_) ∧ k_ ≠ gb526 ∧ k_ ≠ gb527 ∧ k_ ≠ gb529)) (by (with_reducible repeat (first | apply Kd.V_alloc | apply Kd.V_drewN | apply Kd.a0m)); exact Kd.a0p HO_15.out (fun _ hk => ⟨⟨hk.1.1, ⟨hk.1.2.2.1, ⟨hk.1.2.2.2, hk.2⟩⟩⟩, hk.1.2.1⟩)) hg hat); replace HO_527003 := am_ (Kd.a4u (ok := (fun k_ => ((P0_3_ k_ ∨ P0_4_ k_ ∨ P0_5_ k_) ∨ w.heap.size ≤ k_) ∧ k_ ≠ gb526 ∧ k_ ≠ gb527 ∧ k_ ≠ gb529)) (by (with_reducible repeat (first | apply Kd.V_alloc | apply Kd.V_drewN | apply Kd.a0m)); exact Kd.a0p HO_527003.out (fun _ hk => ⟨⟨hk.1.1, ⟨hk.1.2.2.1, ⟨hk.1.2.2.2, hk.2⟩⟩⟩, hk.1.2.1⟩)) hg hat); replace HO_527004 := am_ (Kd.a4u (ok := (fun k_ => ((P0_3_ k_ ∨ P0_4_ k_ ∨ P0_5_ k_) ∨ w.heap.size ≤ k_) ∧ k_ ≠ gb526 ∧ k_ ≠ gb527 ∧ k_ ≠ gb529)) (by (with_reducible repeat (first | apply Kd.V_alloc | apply Kd.V_drewN | apply Kd.a0m)); exact Kd.a0p HO_527004.out (fun _ hk => ⟨⟨hk.1.1, ⟨hk.1.2.2.1, ⟨hk.1.2.2.2, hk.2⟩⟩⟩, hk.1.2.1⟩)) hg hat); replace HO_527005 := am_ (Kd.a4u (ok := (fun k_ => ((P0_3_ k_ ∨ P0_4_ k_ ∨ P0_5_ k_) ∨ w.heap.size ≤ k_) ∧ k_ ≠ gb526 ∧ k_ ≠ gb527 ∧ k_ ≠ gb529)) (by (with_reducible repeat (first | apply Kd.V_alloc | apply Kd.V_drewN | apply Kd.a0m)); exact Kd.a0p HO_527005.out (fun _ hk => ⟨⟨hk.1.1, ⟨hk.1.2.2.1, ⟨hk.1.2.2.2, hk.2⟩⟩⟩, hk.1.2.1⟩)) hg hat); replace BK526 := am_ (a3a (g := gb526) (o := .cells #[.int .i64 a0_0, .int .i64 a0_1, .int .i64 a0_2, .slice A0_3 l0_3.length c0_3, .slice (some ad528) l0_4.length c0_4, .slice A0_5 l0_5.length c0_5] 30 (0, 0)) (qk_ BK526) hg (Kd.R_ne HO_7.out BK526.out (by decide))); replace BK527 := am_ (a3a (g := gb527) (o := .cells #[.int .i64 0, .int .i64 0, .int .i64 0, .slice none 0 0, .slice none 0 0, .slice none 0 0] 30 (0, 0)) (qk_ BK527) hg (Kd.R_ne HO_7.out BK527.out (by decide))); replace BK529 := am_ (a3a (g := gb529) (o := .cells #[.int .i64 ((a0a l0_4 x17_1).f0), .int .i64 ((a0a l0_4 x17_1).f1), .int .i64 ((a0a l0_4 x17_1).f2)] 43 (0, 0)) (qk_ BK529) hg (Kd.R_ne HO_7.out BK529.out (by decide))); replace HB := am_ (hb); have HO533 := am_ (ho); clear HO_7 ho hb hg hat))
        go_roundg k1
        case measure => have := HK1.out; omega
        case rel => exact ⟨(y531), (wrap64 (x17_1 + 1)), qs_, H', ⟨by have := HK1.out; omega⟩, ⟨by (with_reducible repeat (first | apply Kd.a1e | apply Kd.a1f | apply Kd.a0y)); exact HO533.out⟩, ⟨by (with_reducible repeat (first | apply Kd.V_alloc | apply Kd.V_drewN | apply Kd.a0m)); exact Kd.a0p HO_15.out (fun _ hk => ⟨hk.1.1, ⟨hk.2, ⟨hk.1.2.1, hk.1.2.2.1⟩⟩⟩)⟩, ⟨by (with_reducible repeat (first | apply Kd.V_alloc | apply Kd.V_drewN | apply Kd.a0m)); exact Kd.a0p HO_527003.out (fun _ hk => ⟨hk.1.1, ⟨hk.2, ⟨hk.1.2.1, hk.1.2.2.1⟩⟩⟩)⟩, ⟨by (with_reducible repeat (first | apply Kd.V_alloc | apply Kd.V_drewN | apply Kd.a0m)); exact Kd.a0p HO_527004.out (fun _ hk => ⟨hk.1.1, ⟨hk.2, ⟨hk.1.2.1, hk.1.2.2.1⟩⟩⟩)⟩, ⟨by (with_reducible repeat (first | apply Kd.V_alloc | apply Kd.V_drewN | apply Kd.a0m)); exact Kd.a0p HO_527005.out (fun _ hk => ⟨hk.1.1, ⟨hk.2, ⟨hk.1.2.1, hk.1.2.2.1⟩⟩⟩)⟩, ⟨qk_ BK526⟩, ⟨qk_ BK527⟩, ⟨qb_⟩⟩
       ·rw [if_neg c19] at H
        exact absurd H (by simp)
     ·rw [if_neg c9] at H
      exact absurd H (by simp)
    ·rw [if_neg c8] at H
     exact absurd H (by simp)
   ·rw [if_neg c7] at H
    have c7b0 : decide (x17_1 < (l0_4.length : Int)) = false := decide_eq_false c7
    clear c7
    by_cases c28 : (x7_1.length : Int) = 0
    ·rw [if_pos c28] at H
     have c28b0 : ((x7_1.length : Int) == 0) = true := beq_iff_eq.mpr c28
     have c28b1 : ((x7_1.length : Int) != 0) = false := bne_eq_false_iff_eq.mpr c28
     clear c28
     simp only [Option.some.injEq, Prod.mk.injEq] at H
     obtain ⟨rfl, rfl, rfl, rfl, rfl, rfl, rfl, rfl⟩ := H
     obtain ⟨Ao29, co29, eo29⟩ := Kd.a1p HO_7.out
     subst eo29
     have hnb30 := NB526_527.out
     have hnc30 := NB527_526.out
     obtain ⟨z'31_0, z'31_1, z'31_2, z'31_3, z'31_4, z'31_5⟩ := qz6_ BK526; obtain ⟨y'31_0, y'31_1, y'31_2, y'31_3, y'31_4, y'31_5⟩ := qf6_ BK526
     obtain ⟨z'32_0, z'32_1, z'32_2, z'32_3, z'32_4, z'32_5⟩ := qz6_ BK527; obtain ⟨y'32_0, y'32_1, y'32_2, y'32_3, y'32_4, y'32_5⟩ := qf6_ BK527
     go_wp2
     refine bodyPost_ret (a8z rfl _ _ gb527 30 #[.int .i64 a0_0, .int .i64 a0_1, .int .i64 a0_2, .slice A0_3 l0_3.length c0_3, .slice A0_4 l0_4.length c0_4, .slice A0_5 l0_5.length c0_5] (0, 0) _ rfl (by refine qd_ ?_; refine a0d (cs := #[.int .i64 a0_0, .int .i64 a0_1, .int .i64 a0_2, .slice A0_3 l0_3.length c0_3, .slice A0_4 l0_4.length c0_4, .slice none 0 0]) ?_ 5 _ rfl; refine qd_ ?_; refine a0d (cs := #[.int .i64 a0_0, .int .i64 a0_1, .int .i64 a0_2, .slice A0_3 l0_3.length c0_3, .slice none 0 0, .slice none 0 0]) ?_ 4 _ rfl; refine qd_ ?_; refine a0d (cs := #[.int .i64 a0_0, .int .i64 a0_1, .int .i64 a0_2, .slice none 0 0, .slice none 0 0, .slice none 0 0]) ?_ 3 _ rfl; refine qd_ ?_; refine a0d (cs := #[.int .i64 a0_0, .int .i64 a0_1, .int .i64 0, .slice none 0 0, .slice none 0 0, .slice none 0 0]) ?_ 2 _ rfl; refine qd_ ?_; refine a0d (cs := #[.int .i64 a0_0, .int .i64 0, .int .i64 0, .slice none 0 0, .slice none 0 0, .slice none 0 0]) ?_ 1 _ rfl; refine qd_ ?_; refine a0d (cs := #[.int .i64 0, .int .i64 0, .int .i64 0, .slice none 0 0, .slice none 0 0, .slice none 0 0]) ?_ 0 _ rfl; refine qd_ ?_; exact BK527.out) Try.underlying30 rfl (by kernel_rfl)) rfl ?_
     exact ⟨_, _, _, qx_, by (with_reducible repeat (first | apply Kd.V_alloc | apply Kd.V_drewN | apply Kd.a0m)); exact Kd.a0p (Kd.a0r (p := ⟨gb527, 5, none⟩) (Kd.a0r (p := ⟨gb527, 4, none⟩) (Kd.a0r (p := ⟨gb527, 3, none⟩) (Kd.a0r (p := ⟨gb527, 2, none⟩) (Kd.a0r (p := ⟨gb527, 1, none⟩) (Kd.a0r (p := ⟨gb527, 0, none⟩) (Kd.a0p HO_527003.out (fun k_ hk => (⟨hk, hk.2.2.2⟩ : _ ∧ k_ ≠ gb527))) (fun _ hk => hk.2) (.int .i64 a0_0)) (fun _ hk => hk.2) (.int .i64 a0_1)) (fun _ hk => hk.2) (.int .i64 a0_2)) (fun _ hk => hk.2) (.slice A0_3 l0_3.length c0_3)) (fun _ hk => hk.2) (.slice A0_4 l0_4.length c0_4)) (fun _ hk => hk.2) (.slice A0_5 l0_5.length c0_5)) (fun _ hk => hk.1.1), by (with_reducible repeat (first | apply Kd.V_alloc | apply Kd.V_drewN | apply Kd.a0m)); exact Kd.a0p (Kd.a0r (p := ⟨gb527, 5, none⟩) (Kd.a0r (p := ⟨gb527, 4, none⟩) (Kd.a0r (p := ⟨gb527, 3, none⟩) (Kd.a0r (p := ⟨gb527, 2, none⟩) (Kd.a0r (p := ⟨gb527, 1, none⟩) (Kd.a0r (p := ⟨gb527, 0, none⟩) (Kd.a0p HO_527004.out (fun k_ hk => (⟨hk, hk.2.2.2⟩ : _ ∧ k_ ≠ gb527))) (fun _ hk => hk.2) (.int .i64 a0_0)) (fun _ hk => hk.2) (.int .i64 a0_1)) (fun _ hk => hk.2) (.int .i64 a0_2)) (fun _ hk => hk.2) (.slice A0_3 l0_3.length c0_3)) (fun _ hk => hk.2) (.slice A0_4 l0_4.length c0_4)) (fun _ hk => hk.2) (.slice A0_5 l0_5.length c0_5)) (fun _ hk => hk.1.1), by (with_reducible repeat (first | apply Kd.V_alloc | apply Kd.V_drewN | apply Kd.a0m)); exact Kd.a0p (Kd.a0r (p := ⟨gb527, 5, none⟩) (Kd.a0r (p := ⟨gb527, 4, none⟩) (Kd.a0r (p := ⟨gb527, 3, none⟩) (Kd.a0r (p := ⟨gb527, 2, none⟩) (Kd.a0r (p := ⟨gb527, 1, none⟩) (Kd.a0r (p := ⟨gb527, 0, none⟩) (Kd.a0p HO_527005.out (fun k_ hk => (⟨hk, hk.2.2.2⟩ : _ ∧ k_ ≠ gb527))) (fun _ hk => hk.2) (.int .i64 a0_0)) (fun _ hk => hk.2) (.int .i64 a0_1)) (fun _ hk => hk.2) (.int .i64 a0_2)) (fun _ hk => hk.2) (.slice A0_3 l0_3.length c0_3)) (fun _ hk => hk.2) (.slice A0_4 l0_4.length c0_4)) (fun _ hk => hk.2) (.slice A0_5 l0_5.length c0_5)) (fun _ hk => hk.1.1), qb_⟩
    ·rw [if_neg c28] at H
     have c28b0 : ((x7_1.length : Int) == 0) = false := beq_eq_false_iff_ne.mpr c28
     have c28b1 : ((x7_1.length : Int) != 0) = true := bne_iff_ne.mpr c28
     have c28b2 : ¬ (x7_1 = []) := fun h_ => c28 (by rw [h_]; rfl)
     obtain ⟨ji33, hji33⟩ : ∃ j_ : Int, (Int.tmod (wrap64 (a1)) (x7_1.length : Int)) = j_ := ⟨_, rfl⟩
     replace H : (if 0 ≤ (ji33) then (if (ji33) < (x7_1.length : Int) then (a1i.l1 k1 (rd x7_1 (ji33)) ([] : List Int) l0_4 (l0_4.length : Int) 0 a0_0 a0_1 a0_2 l0_3 l0_4 l0_5) else (none)) else (none)) = some (r1, r2, r3, r4, r5, r6, r7, r8) := by first | (rw [hji33] at H; exact H) | (simp only [hji33] at H ⊢; exact H)
     by_cases c34 : 0 ≤ (ji33)
     ·rw [if_pos c34] at H
      have c34b0 : decide (0 ≤ (ji33)) = true := decide_eq_true c34
      clear c34
      by_cases c35 : (ji33) < (x7_1.length : Int)
      ·rw [if_pos c35] at H
       have c35b0 : decide ((ji33) < (x7_1.length : Int)) = true := decide_eq_true c35
       clear c35
       have H' := am_ H
       clear H
       obtain ⟨Ao36, co36, eo36⟩ := Kd.a1p HO_7.out
       subst eo36
       have p534 : 0 ≤ ((ji33) : Int) := ot_
       have q534 : (ji33) < (x7_1.length : Int) := ot_
       obtain ⟨ad534, e534, hx534_0⟩ := Kd.a2o (Kd.a0q HO_7.out).2.2 (ji33) p534 q534
       cases e534
       replace p534 := eq_true p534
       replace q534 := eq_true q534
       have hnb37 := NB526_527.out
       have hnc37 := NB527_526.out
       obtain ⟨z'38_0, z'38_1, z'38_2, z'38_3, z'38_4, z'38_5⟩ := qz6_ BK526; obtain ⟨y'38_0, y'38_1, y'38_2, y'38_3, y'38_4, y'38_5⟩ := qf6_ BK526
       go_wp2
       go_loopg [11, 47] k1 (fun kq v11 v47 w' => ∃ (x11_2 : List Int) (x47_2 : Int), v47 = .int .i64 x47_2 ∧ Aside0 (a1i.l1 kq (rd x7_1 (ji33)) x11_2 l0_4 (l0_4.length : Int) x47_2 a0_0 a0_1 a0_2 l0_3 l0_4 l0_5 = some (r1, r2, r3, r4, r5, r6, r7, r8)) ∧ Aside0 (kq ≤ k1) ∧ Aside0 (Kd.R (Kd.int .i64) 3 w' w.heap.size (fun k_ => (w.heap.size ≤ k_)) v11 x11_2) ∧ Aside0 (Kd.V k43 43 w' w.heap.size (fun k_ => ((P0_3_ k_ ∨ P0_4_ k_ ∨ P0_5_ k_) ∨ w.heap.size ≤ k_) ∧ some k_ ≠ (v11 : Value).ownBlock ∧ k_ ≠ gb526 ∧ k_ ≠ gb527) (.slice A0_4 l0_4.length c0_4) l0_4) ∧ Aside0 (Kd.V Kd.string 9 w' w.heap.size (fun k_ => ((P0_3_ k_ ∨ P0_4_ k_ ∨ P0_5_ k_) ∨ w.heap.size ≤ k_) ∧ some k_ ≠ (v11 : Value).ownBlock ∧ k_ ≠ gb526 ∧ k_ ≠ gb527) (.slice A0_3 l0_3.length c0_3) l0_3) ∧ Aside0 (Kd.V k43 43 w' w.heap.size (fun k_ => ((P0_3_ k_ ∨ P0_4_ k_ ∨ P0_5_ k_) ∨ w.heap.size ≤ k_) ∧ some k_ ≠ (v11 : Value).ownBlock ∧ k_ ≠ gb526 ∧ k_ ≠ gb527) (.slice A0_4 l0_4.length c0_4) l0_4) ∧ Aside0 (Kd.V (Kd.int .i64) 3 w' w.heap.size (fun k_ => ((P0_3_ k_ ∨ P0_4_ k_ ∨ P0_5_ k_) ∨ w.heap.size ≤ k_) ∧ some k_ ≠ (v11 : Value).ownBlock ∧ k_ ≠ gb526 ∧ k_ ≠ gb527) (.slice A0_5 l0_5.length c0_5) l0_5) ∧ Aside0 (w'.heap[gb526]? = some (.cells #[.int .i64 a0_0, .int .i64 a0_1, .int .i64 a0_2, (.slice A0_3 l0_3.length c0_3), (.slice A0_4 l0_4.length c0_4), (.slice A0_5 l0_5.length c0_5)] 30 (0, 0))) ∧ Aside0 (w'.heap[gb527]? = some (.cells #[.int .i64 0, .int .i64 0, .int .i64 0, (.slice none 0 0), (.slice none 0 0), (.slice none 0 0)] 30 (0, 0))) ∧ Aside0 (Below w.heap.size w w'))
       case atStart => exact ⟨(([] : List Int)), (0), qs_, H', ⟨Nat.le_refl _⟩, ⟨by first | exact Kd.a6u _ _ _ _ _ | exact Kd.N_nil _ _ _ _ _ | exact Kd.V_nil _ _ _ _ _ | exact Kd.Q_nil _ _ _ _ _ | exact Kd.S_nil _ _ _ _ _⟩, ⟨by (with_reducible repeat (first | apply Kd.V_alloc | apply Kd.V_drewN | apply Kd.a0m)); exact Kd.a0p HO_527004.out (fun _ hk => ⟨hk.1, ⟨(by simp [Value.ownBlock]), ⟨hk.2.2.1, hk.2.2.2⟩⟩⟩)⟩, ⟨by (with_reducible repeat (first | apply Kd.V_alloc | apply Kd.V_drewN | apply Kd.a0m)); exact Kd.a0p HO_527003.out (fun _ hk => ⟨hk.1, ⟨(by simp [Value.ownBlock]), ⟨hk.2.2.1, hk.2.2.2⟩⟩⟩)⟩, ⟨by (with_reducible repeat (first | apply Kd.V_alloc | apply Kd.V_drewN | apply Kd.a0m)); exact Kd.a0p HO_527004.out (fun _ hk => ⟨hk.1, ⟨(by simp [Value.ownBlock]), ⟨hk.2.2.1, hk.2.2.2⟩⟩⟩)⟩, ⟨by (with_reducible repeat (first | apply Kd.V_alloc | apply Kd.V_drewN | apply Kd.a0m)); exact Kd.a0p HO_527005.out (fun _ hk => ⟨hk.1, ⟨(by simp [Value.ownBlock]), ⟨hk.2.2.1, hk.2.2.2⟩⟩⟩)⟩, ⟨qk_ BK526⟩, ⟨qk_ BK527⟩, ⟨qb_⟩⟩
       case round =>
        clear H'
        try clear c1
        try clear c2
        try clear p2
        try clear c3
        try clear c5
        try clear p5
        try clear q5
        try clear hx5
        try clear p6
        try clear c7
        try clear c7b0
        try clear c8
        try clear c8b0
        try clear c9
        try clear c9b0
        try clear c11
        try clear c13
        try clear c14
        try clear c16
        try clear c19
        try clear c21
        try clear c22
        try clear c23
        try clear c24
        try clear c28
        try clear c28b0
        try clear c28b1
        try clear c28b2
        try clear c30
        try clear c34
        try clear c34b0
        try clear c35
        try clear c35b0
        try clear c37
        try clear z'15_0 z'15_1 z'15_2
        try clear z'17_0 z'17_1 z'17_2 z'17_3 z'17_4 z'17_5
        try clear z'23_0 z'23_1 z'23_2
        try clear z'25_0 z'25_1 z'25_2 z'25_3 z'25_4 z'25_5
        try clear z'31_0 z'31_1 z'31_2 z'31_3 z'31_4 z'31_5
        try clear z'32_0 z'32_1 z'32_2 z'32_3 z'32_4 z'32_5
        try clear z'38_0 z'38_1 z'38_2 z'38_3 z'38_4 z'38_5
        try clear z'6_0 z'6_1 z'6_2 z'6_3 z'6_4 z'6_5
        try clear y'15_0 y'15_1 y'15_2
        try clear y'17_0 y'17_1 y'17_2 y'17_3 y'17_4 y'17_5
        try clear y'23_0 y'23_1 y'23_2
        try clear y'25_0 y'25_1 y'25_2 y'25_3 y'25_4 y'25_5
        try clear y'31_0 y'31_1 y'31_2 y'31_3 y'31_4 y'31_5
        try clear y'32_0 y'32_1 y'32_2 y'32_3 y'32_4 y'32_5
        try clear y'38_0 y'38_1 y'38_2 y'38_3 y'38_4 y'38_5
        try clear y'6_0 y'6_1 y'6_2 y'6_3 y'6_4 y'6_5
        try clear hx528_0
        try clear hx528_1
        try clear hx528_2
        try clear hx534_0
        try clear p2
        try clear p528
        try clear p534
        try clear q528
        try clear q534
        obtain ⟨x11_2, x47_2, rfl, HA, HK2, HO_11, HO_45, HO_527003, HO_527004, HO_527005, BK526, BK527, HB⟩ := hrel
        cases gk with
        | zero => exact absurd HA.out (by simp [a1i.l1])
        | succ k2 =>
         have H := HA.out
         clear HA
         simp only [a1i.l1] at H
         by_cases c39 : x47_2 < (l0_4.length : Int)
         ·rw [if_pos c39] at H
          have c39b0 : decide (x47_2 < (l0_4.length : Int)) = true := decide_eq_true c39
          clear c39
          by_cases c40 : 0 ≤ x47_2
          ·rw [if_pos c40] at H
           have c40b0 : decide (0 ≤ x47_2) = true := decide_eq_true c40
           clear c40
           by_cases c41 : x47_2 < (l0_4.length : Int)
           ·rw [if_pos c41] at H
            have c41b0 : decide (x47_2 < (l0_4.length : Int)) = true := decide_eq_true c41
            clear c41
            replace H := bm_ H
            obtain ⟨t537, A420, H⟩ := H
            replace H : (if t537 = true then (if x11_2.length < 17592186044416 then (a1i.l1 k2 (rd x7_1 (ji33)) (x11_2 ++ [(a0a l0_4 x47_2).f0]) l0_4 (l0_4.length : Int) (wrap64 (x47_2 + 1)) a0_0 a0_1 a0_2 l0_3 l0_4 l0_5) else (none)) else (if 0 ≤ (rd x7_1 (ji33)) then (if (rd x7_1 (ji33)) < (l0_4.length : Int) then (if ((a0a l0_4 x47_2).f0) = ((a0a l0_4 (rd x7_1 (ji33))).f0) then (if x11_2.length < 17592186044416 then (a1i.l1 k2 (rd x7_1 (ji33)) (x11_2 ++ [(a0a l0_4 x47_2).f0]) l0_4 (l0_4.length : Int) (wrap64 (x47_2 + 1)) a0_0 a0_1 a0_2 l0_3 l0_4 l0_5) else (none)) else (a1i.l1 k2 (rd x7_1 (ji33)) x11_2 l0_4 (l0_4.length : Int) (wrap64 (x47_2 + 1)) a0_0 a0_1 a0_2 l0_3 l0_4 l0_5)) else (none)) else (none))) = some (r1, r2, r3, r4, r5, r6, r7, r8) := H
            have A42 := am_ A420
            clear A420
            by_cases c43 : t537 = true
            ·subst c43
             have H1 : (if x11_2.length < 17592186044416 then (a1i.l1 k2 (rd x7_1 (ji33)) (x11_2 ++ [(a0a l0_4 x47_2).f0]) l0_4 (l0_4.length : Int) (wrap64 (x47_2 + 1)) a0_0 a0_1 a0_2 l0_3 l0_4 l0_5) else (none)) = some (r1, r2, r3, r4, r5, r6, r7, r8) := by rw [if_pos rfl] at H; exact H
             clear H
             have H := H1
             clear H1
             by_cases c44 : x11_2.length < 17592186044416
             ·rw [if_pos c44] at H
              have LMc44 := am_ c44
              clear c44
              obtain ⟨y539, hy539⟩ : ∃ y_ : List Int, y_ = (x11_2 ++ [(a0a l0_4 x47_2).f0]) := ⟨_, rfl⟩
              replace H : (a1i.l1 k2 (rd x7_1 (ji33)) y539 l0_4 (l0_4.length : Int) (wrap64 (x47_2 + 1)) a0_0 a0_1 a0_2 l0_3 l0_4 l0_5) = some (r1, r2, r3, r4, r5, r6, r7, r8) := by first | (rw [hy539]; with_reducible exact H) | (have H2_ := (Option.bind_some _ _).symm.trans H; rw [hy539]; with_reducible exact H2_) | (have H2_ := (Option.bind_some _ _).symm.trans H; with_reducible exact H2_) | with_reducible exact H | (rw [hy539]; exact H) | exact H
              have Ny539 := am_ hy539
              clear hy539
              have H' := am_ H
              clear H
              have p535 : 0 ≤ (x47_2 : Int) := ot_
              have q535 : x47_2 < (l0_4.length : Int) := ot_
              obtain ⟨ad535, e535, hx535_0, hx535_1, hx535_2⟩ := a2p (Kd.a1w HO_45.out).2.2 x47_2 p535 q535
              cases e535
              replace p535 := eq_true p535
              replace q535 := eq_true q535
              try go_wp2_with (first | ((with_reducible refine a0f (N := 13) rfl ?_); refine qev_ 13 #[.int .i64 0, .int .i64 0, .int .i64 0] 43 ?_; intro gb536 hg w45 hbox hb; replace HO_11 := qrb_ HO_11 hb; replace HO_45 := am_ (Kd.a1q (Kd.a2t (by (with_reducible repeat (first | apply Kd.V_alloc | apply Kd.V_drewN | apply Kd.a0m)); exact HO_45.out) gb536 (Nat.le_of_eq hg.symm)) hb); replace HO_527003 := am_ (Kd.a1q (Kd.a2t (by (with_reducible repeat (first | apply Kd.V_alloc | apply Kd.V_drewN | apply Kd.a0m)); exact HO_527003.out) gb536 (Nat.le_of_eq hg.symm)) hb); replace HO_527004 := am_ (Kd.a1q (Kd.a2t (by (with_reducible repeat (first | apply Kd.V_alloc | apply Kd.V_drewN | apply Kd.a0m)); exact HO_527004.out) gb536 (Nat.le_of_eq hg.symm)) hb); replace HO_527005 := am_ (Kd.a1q (Kd.a2t (by (with_reducible repeat (first | apply Kd.V_alloc | apply Kd.V_drewN | apply Kd.a0m)); exact HO_527005.out) gb536 (Nat.le_of_eq hg.symm)) hb); have BK536 := am_ (hbox); have GW536 := qga_ hg; have GE536 := qga_ hg; replace HB := qbs_ hb; have NB526_536 := am_ ((by rw [hg]; exact Nat.ne_of_lt (a0u (qk_ BK526)) : gb526 ≠ gb536)); have NB536_526 := am_ ((by rw [hg]; exact Nat.ne_of_gt (a0u (qk_ BK526)) : gb536 ≠ gb526)); replace BK526 := qkb_ BK526 hb; have NB527_536 := am_ ((by rw [hg]; exact Nat.ne_of_lt (a0u (qk_ BK527)) : gb527 ≠ gb536)); have NB536_527 := am_ ((by rw [hg]; exact Nat.ne_of_gt (a0u (qk_ BK527)) : gb536 ≠ gb527)); replace BK527 := qkb_ BK527 hb; clear hb hbox hg; have hnb46 := NB536_526.out; have hnc46 := NB526_536.out; have hnb47 := NB536_527.out; have hnc47 := NB527_536.out; obtain ⟨z'48_0, z'48_1, z'48_2⟩ := qz3_ BK536; obtain ⟨y'48_0, y'48_1, y'48_2⟩ := qf3_ BK536))
              have n0_ : Aside0 (Kd.R (Kd.int .i64) 3 (((w45.setCell ⟨gb536, 0, none⟩ (.int .i64 ((a0a l0_4 x47_2).f0))).setCell ⟨gb536, 1, none⟩ (.int .i64 ((a0a l0_4 x47_2).f1))).setCell ⟨gb536, 2, none⟩ (.int .i64 ((a0a l0_4 x47_2).f2))) w.heap.size (fun k_ => (w.heap.size ≤ k_)) u11 x11_2) := ⟨by (with_reducible repeat (first | apply Kd.a1e | apply Kd.a1f | apply Kd.a0y)); exact Kd.a2w (Kd.a1c (p := ⟨gb536, 2, none⟩) (Kd.a1c (p := ⟨gb536, 1, none⟩) (Kd.a1c (p := ⟨gb536, 0, none⟩) (Kd.a3d HO_11.out BK536.out (by decide)) (fun _ hk => hk.2) (.int .i64 ((a0a l0_4 x47_2).f0))) (fun _ hk => hk.2) (.int .i64 ((a0a l0_4 x47_2).f1))) (fun _ hk => hk.2) (.int .i64 ((a0a l0_4 x47_2).f2))) (fun _ hk => hk.1)⟩
              have n1_ : Aside0 (Kd.V k43 43 (((w45.setCell ⟨gb536, 0, none⟩ (.int .i64 ((a0a l0_4 x47_2).f0))).setCell ⟨gb536, 1, none⟩ (.int .i64 ((a0a l0_4 x47_2).f1))).setCell ⟨gb536, 2, none⟩ (.int .i64 ((a0a l0_4 x47_2).f2))) w.heap.size (fun k_ => ((P0_3_ k_ ∨ P0_4_ k_ ∨ P0_5_ k_) ∨ w.heap.size ≤ k_) ∧ some k_ ≠ (u11 : Value).ownBlock ∧ k_ ≠ gb526 ∧ k_ ≠ gb527 ∧ k_ ≠ gb536) (.slice (some ad535) l0_4.length c0_4) l0_4) := ⟨by (with_reducible repeat (first | apply Kd.V_alloc | apply Kd.V_drewN | apply Kd.a0m)); exact Kd.a0p (Kd.a0r (p := ⟨gb536, 2, none⟩) (Kd.a0r (p := ⟨gb536, 1, none⟩) (Kd.a0r (p := ⟨gb536, 0, none⟩) (Kd.a0p HO_45.out (fun k_ hk => (⟨hk, hk.2⟩ : _ ∧ k_ ≠ gb536))) (fun _ hk => hk.2) (.int .i64 ((a0a l0_4 x47_2).f0))) (fun _ hk => hk.2) (.int .i64 ((a0a l0_4 x47_2).f1))) (fun _ hk => hk.2) (.int .i64 ((a0a l0_4 x47_2).f2))) (fun _ hk => ⟨hk.1.1.1, ⟨hk.1.1.2.1, ⟨hk.1.1.2.2.1, ⟨hk.1.1.2.2.2, hk.1.2⟩⟩⟩⟩)⟩
              have n2_ : Aside0 (Kd.V Kd.string 9 (((w45.setCell ⟨gb536, 0, none⟩ (.int .i64 ((a0a l0_4 x47_2).f0))).setCell ⟨gb536, 1, none⟩ (.int .i64 ((a0a l0_4 x47_2).f1))).setCell ⟨gb536, 2, none⟩ (.int .i64 ((a0a l0_4 x47_2).f2))) w.heap.size (fun k_ => ((P0_3_ k_ ∨ P0_4_ k_ ∨ P0_5_ k_) ∨ w.heap.size ≤ k_) ∧ some k_ ≠ (u11 : Value).ownBlock ∧ k_ ≠ gb526 ∧ k_ ≠ gb527 ∧ k_ ≠ gb536) (.slice A0_3 l0_3.length c0_3) l0_3) := ⟨by (with_reducible repeat (first | apply Kd.V_alloc | apply Kd.V_drewN | apply Kd.a0m)); exact Kd.a0p (Kd.a0r (p := ⟨gb536, 2, none⟩) (Kd.a0r (p := ⟨gb536, 1, none⟩) (Kd.a0r (p := ⟨gb536, 0, none⟩) (Kd.a0p HO_527003.out (fun k_ hk => (⟨hk, hk.2⟩ : _ ∧ k_ ≠ gb536))) (fun _ hk => hk.2) (.int .i64 ((a0a l0_4 x47_2).f0))) (fun _ hk => hk.2) (.int .i64 ((a0a l0_4 x47_2).f1))) (fun _ hk => hk.2) (.int .i64 ((a0a l0_4 x47_2).f2))) (fun _ hk => ⟨hk.1.1.1, ⟨hk.1.1.2.1, ⟨hk.1.1.2.2.1, ⟨hk.1.1.2.2.2, hk.1.2⟩⟩⟩⟩)⟩
              have n3_ : Aside0 (Kd.V k43 43 (((w45.setCell ⟨gb536, 0, none⟩ (.int .i64 ((a0a l0_4 x47_2).f0))).setCell ⟨gb536, 1, none⟩ (.int .i64 ((a0a l0_4 x47_2).f1))).setCell ⟨gb536, 2, none⟩ (.int .i64 ((a0a l0_4 x47_2).f2))) w.heap.size (fun k_ => ((P0_3_ k_ ∨ P0_4_ k_ ∨ P0_5_ k_) ∨ w.heap.size ≤ k_) ∧ some k_ ≠ (u11 : Value).ownBlock ∧ k_ ≠ gb526 ∧ k_ ≠ gb527 ∧ k_ ≠ gb536) (.slice (some ad535) l0_4.length c0_4) l0_4) := ⟨by (with_reducible repeat (first | apply Kd.V_alloc | apply Kd.V_drewN | apply Kd.a0m)); exact Kd.a0p (Kd.a0r (p := ⟨gb536, 2, none⟩) (Kd.a0r (p := ⟨gb536, 1, none⟩) (Kd.a0r (p := ⟨gb536, 0, none⟩) (Kd.a0p HO_527004.out (fun k_ hk => (⟨hk, hk.2⟩ : _ ∧ k_ ≠ gb536))) (fun _ hk => hk.2) (.int .i64 ((a0a l0_4 x47_2).f0))) (fun _ hk => hk.2) (.int .i64 ((a0a l0_4 x47_2).f1))) (fun _ hk => hk.2) (.int .i64 ((a0a l0_4 x47_2).f2))) (fun _ hk => ⟨hk.1.1.1, ⟨hk.1.1.2.1, ⟨hk.1.1.2.2.1, ⟨hk.1.1.2.2.2, hk.1.2⟩⟩⟩⟩)⟩
              have n4_ : Aside0 (Kd.V (Kd.int .i64) 3 (((w45.setCell ⟨gb536, 0, none⟩ (.int .i64 ((a0a l0_4 x47_2).f0))).setCell ⟨gb536, 1, none⟩ (.int .i64 ((a0a l0_4 x47_2).f1))).setCell ⟨gb536, 2, none⟩ (.int .i64 ((a0a l0_4 x47_2).f2))) w.heap.size (fun k_ => ((P0_3_ k_ ∨ P0_4_ k_ ∨ P0_5_ k_) ∨ w.heap.size ≤ k_) ∧ some k_ ≠ (u11 : Value).ownBlock ∧ k_ ≠ gb526 ∧ k_ ≠ gb527 ∧ k_ ≠ gb536) (.slice A0_5 l0_5.length c0_5) l0_5) := ⟨by (with_reducible repeat (first | apply Kd.V_alloc | apply Kd.V_drewN | apply Kd.a0m)); exact Kd.a0p (Kd.a0r (p := ⟨gb536, 2, none⟩) (Kd.a0r (p := ⟨gb536, 1, none⟩) (Kd.a0r (p := ⟨gb536, 0, none⟩) (Kd.a0p HO_527005.out (fun k_ hk => (⟨hk, hk.2⟩ : _ ∧ k_ ≠ gb536))) (fun _ hk => hk.2) (.int .i64 ((a0a l0_4 x47_2).f0))) (fun _ hk => hk.2) (.int .i64 ((a0a l0_4 x47_2).f1))) (fun _ hk => hk.2) (.int .i64 ((a0a l0_4 x47_2).f2))) (fun _ hk => ⟨hk.1.1.1, ⟨hk.1.1.2.1, ⟨hk.1.1.2.2.1, ⟨hk.1.1.2.2.2, hk.1.2⟩⟩⟩⟩)⟩
              have n5_ : Aside0 ((((w45.setCell ⟨gb536, 0, none⟩ (.int .i64 ((a0a l0_4 x47_2).f0))).setCell ⟨gb536, 1, none⟩ (.int .i64 ((a0a l0_4 x47_2).f1))).setCell ⟨gb536, 2, none⟩ (.int .i64 ((a0a l0_4 x47_2).f2))).heap[gb526]? = some (.cells #[.int .i64 a0_0, .int .i64 a0_1, .int .i64 a0_2, .slice A0_3 l0_3.length c0_3, .slice (some ad535) l0_4.length c0_4, .slice A0_5 l0_5.length c0_5] 30 (0, 0))) := ⟨by refine qd_ ?_; refine a0b ?_ NB526_536.out _; refine qd_ ?_; refine a0b ?_ NB526_536.out _; refine qd_ ?_; refine a0b ?_ NB526_536.out _; refine qd_ ?_; exact BK526.out⟩
              have n6_ : Aside0 ((((w45.setCell ⟨gb536, 0, none⟩ (.int .i64 ((a0a l0_4 x47_2).f0))).setCell ⟨gb536, 1, none⟩ (.int .i64 ((a0a l0_4 x47_2).f1))).setCell ⟨gb536, 2, none⟩ (.int .i64 ((a0a l0_4 x47_2).f2))).heap[gb527]? = some (.cells #[.int .i64 0, .int .i64 0, .int .i64 0, .slice none 0 0, .slice none 0 0, .slice none 0 0] 30 (0, 0))) := ⟨by refine qd_ ?_; refine a0b ?_ NB527_536.out _; refine qd_ ?_; refine a0b ?_ NB527_536.out _; refine qd_ ?_; refine a0b ?_ NB527_536.out _; refine qd_ ?_; exact BK527.out⟩
              have n7_ : Aside0 ((((w45.setCell ⟨gb536, 0, none⟩ (.int .i64 ((a0a l0_4 x47_2).f0))).setCell ⟨gb536, 1, none⟩ (.int .i64 ((a0a l0_4 x47_2).f1))).setCell ⟨gb536, 2, none⟩ (.int .i64 ((a0a l0_4 x47_2).f2))).heap[gb536]? = some (.cells #[.int .i64 ((a0a l0_4 x47_2).f0), .int .i64 ((a0a l0_4 x47_2).f1), .int .i64 ((a0a l0_4 x47_2).f2)] 43 (0, 0))) := ⟨by refine qd_ ?_; refine a0d (cs := #[.int .i64 ((a0a l0_4 x47_2).f0), .int .i64 ((a0a l0_4 x47_2).f1), .int .i64 0]) ?_ 2 _ rfl; refine qd_ ?_; refine a0d (cs := #[.int .i64 ((a0a l0_4 x47_2).f0), .int .i64 0, .int .i64 0]) ?_ 1 _ rfl; refine qd_ ?_; refine a0d (cs := #[.int .i64 0, .int .i64 0, .int .i64 0]) ?_ 0 _ rfl; refine qd_ ?_; exact BK536.out⟩
              have n8_ : Aside0 (Below w.heap.size w (((w45.setCell ⟨gb536, 0, none⟩ (.int .i64 ((a0a l0_4 x47_2).f0))).setCell ⟨gb536, 1, none⟩ (.int .i64 ((a0a l0_4 x47_2).f1))).setCell ⟨gb536, 2, none⟩ (.int .i64 ((a0a l0_4 x47_2).f2)))) := ⟨qb_⟩
              (try clear HO_11)
              (try clear HO_45)
              (try clear HO_527003)
              (try clear HO_527004)
              (try clear HO_527005)
              (try clear BK526)
              (try clear BK527)
              (try clear BK536)
              (try clear HB)
              generalize (((w45.setCell ⟨gb536, 0, none⟩ (.int .i64 ((a0a l0_4 x47_2).f0))).setCell ⟨gb536, 1, none⟩ (.int .i64 ((a0a l0_4 x47_2).f1))).setCell ⟨gb536, 2, none⟩ (.int .i64 ((a0a l0_4 x47_2).f2))) = w49 at n0_ n1_ n2_ n3_ n4_ n5_ n6_ n7_ n8_ ⊢
              have HO_11 := n0_
              have HO_45 := n1_
              have HO_527003 := n2_
              have HO_527004 := n3_
              have HO_527005 := n4_
              have BK526 := n5_
              have BK527 := n6_
              have BK536 := n7_
              have HB := n8_
              clear n0_ n1_ n2_ n3_ n4_ n5_ n6_ n7_ n8_
              replace HO_11 := am_ (Kd.a0y HO_11.out)
              replace HO_45 := am_ (Kd.a0m HO_45.out)
              replace HO_527003 := am_ (Kd.a0m HO_527003.out)
              replace HO_527004 := am_ (Kd.a0m HO_527004.out)
              replace HO_527005 := am_ (Kd.a0m HO_527005.out)
              replace BK526 := am_ (bd_ BK526.out)
              replace BK527 := am_ (bd_ BK527.out)
              replace BK536 := am_ (bd_ BK536.out)
              replace HB := am_ (ld_ HB.out)
              refine a5m (n := 15) (S := fun w' => w'.cell? ⟨gb526, 0, none⟩ = some (.int .i64 a0_0) ∧ w'.cell? ⟨gb526, 1, none⟩ = some (.int .i64 a0_1) ∧ w'.cell? ⟨gb526, 2, none⟩ = some (.int .i64 a0_2) ∧ w'.cell? ⟨gb526, 3, none⟩ = some (.slice A0_3 l0_3.length c0_3) ∧ w'.cell? ⟨gb526, 4, none⟩ = some (.slice (some ad535) l0_4.length c0_4) ∧ w'.cell? ⟨gb526, 5, none⟩ = some (.slice A0_5 l0_5.length c0_5) ∧ w'.cell? ⟨gb536, 0, none⟩ = some (.int .i64 ((a0a l0_4 x47_2).f0)) ∧ w'.cell? ⟨gb536, 1, none⟩ = some (.int .i64 ((a0a l0_4 x47_2).f1)) ∧ w'.cell? ⟨gb536, 2, none⟩ = some (.int .i64 ((a0a l0_4 x47_2).f2))) (ds := []) #[i_,i_,i_,i_,i_,i_,i_,i_,i_,i_,i_,i_,i_,i_,i_] (by kernel_rfl) rfl rfl ⟨(bc_ BK526.out 0).trans rfl, (bc_ BK526.out 1).trans rfl, (bc_ BK526.out 2).trans rfl, (bc_ BK526.out 3).trans rfl, (bc_ BK526.out 4).trans rfl, (bc_ BK526.out 5).trans rfl, (bc_ BK536.out 0).trans rfl, (bc_ BK536.out 1).trans rfl, (bc_ BK536.out 2).trans rfl⟩ (fun hHeld => ?_); refine a4g a1i.b3g a1i.b1r (fun HT_ HW_ => ?_)
              generalize w49.drew = w50 at HO_11 HO_45 HO_527003 HO_527004 HO_527005 BK526 BK527 BK536 HB hHeld ⊢
              refine qpu_ 1 (some 52) #[i_,o_,i_,i_,i_,i_,i_,i_,i_,i_,i_,i_,i_,i_,i_] ?_
              refine a3r (i := 0) (N := some 51) (v := ?_) (a' := ?_) #[o_,o_,i_,i_,i_,i_,i_,i_,i_,i_,i_,i_,i_,i_,i_] rfl rfl (a2v HT_.out HW_.out (by kernel_rfl)) (fun _ _ _ h => h) (Or.inl ⟨by rfl, ?_⟩) hHeld ?_ ?_
              rotate_left
              ·rintro w' ⟨s0, s1, s2, s3, s4, s5, s6, s7, s8⟩
               go_simp
               with_reducible rfl
              rotate_left
              ·exact qp_
              refine a3r (i := 2) (N := some 53) (v := ?_) (a' := ?_) #[o_,o_,o_,i_,i_,i_,i_,i_,i_,i_,i_,i_,i_,i_,i_] rfl rfl (a2v HT_.out HW_.out (by kernel_rfl)) (fun _ _ _ h => h) (Or.inl ⟨by rfl, ?_⟩) hHeld ?_ ?_
              rotate_left
              ·rintro w' ⟨s0, s1, s2, s3, s4, s5, s6, s7, s8⟩
               go_simp
               with_reducible rfl
              rotate_left
              ·exact qp_
              refine one_ (i := 3) (N := some 54) #[o_,o_,o_,o_,i_,i_,i_,i_,i_,i_,i_,i_,i_,i_,i_] rfl rfl (a4c HT_.out (by kernel_rfl)) (by decide) (fun K hK => ?_)
              refine a5e Try.func23 (by kernel_rfl) rfl #[.agg #[.int .i64 a0_0, .int .i64 a0_1, .int .i64 a0_2, .slice A0_3 l0_3.length c0_3, .slice (some ad535) l0_4.length c0_4, .slice A0_5 l0_5.length c0_5], .int .i64 ((a0a l0_4 x47_2).f0)] (by rfl) rfl rfl ql_ ?_
              with_reducible refine (a2x.calls k2 a0_0 a0_1 a0_2 _ _ l0_3 _ _ l0_4 _ _ l0_5 ((a0a l0_4 x47_2).f0) true _ ?s1 ?s2 ?s3 ?s4 ?s5 ?s6 A42.out).mono ?_
              (case s1 => repeat (first | exact (Kd.a1w HO_527003.out).2.2 | (with_reducible refine Kd.a2b ?_ _) | (with_reducible refine Kd.a2c ?_ _) | (with_reducible refine Kd.a2m ?_)))
              (case s2 => exact (Kd.a1w HO_527003.out).2.1)
              (case s3 => repeat (first | exact (Kd.a1w HO_527004.out).2.2 | (with_reducible refine Kd.a2b ?_ _) | (with_reducible refine Kd.a2c ?_ _) | (with_reducible refine Kd.a2m ?_)))
              (case s4 => exact (Kd.a1w HO_527004.out).2.1)
              (case s5 => repeat (first | exact (Kd.a1w HO_527005.out).2.2 | (with_reducible refine Kd.a2b ?_ _) | (with_reducible refine Kd.a2c ?_ _) | (with_reducible refine Kd.a2m ?_)))
              (case s6 => exact (Kd.a1w HO_527005.out).2.1)
              rintro e w51 ⟨rfl, hb⟩
              refine ⟨_, rfl, ?_⟩
              replace HO_11 := qrb_ HO_11 hb
              replace HO_45 := am_ (Kd.a1q (by (with_reducible repeat (first | apply Kd.V_alloc | apply Kd.V_drewN | apply Kd.a0m)); exact HO_45.out) hb)
              replace HO_527003 := am_ (Kd.a1q (by (with_reducible repeat (first | apply Kd.V_alloc | apply Kd.V_drewN | apply Kd.a0m)); exact HO_527003.out) hb)
              replace HO_527004 := am_ (Kd.a1q (by (with_reducible repeat (first | apply Kd.V_alloc | apply Kd.V_drewN | apply Kd.a0m)); exact HO_527004.out) hb)
              replace HO_527005 := am_ (Kd.a1q (by (with_reducible repeat (first | apply Kd.V_alloc | apply Kd.V_drewN | apply Kd.a0m)); exact HO_527005.out) hb)
              replace BK526 := qkb_ BK526 hb
              replace BK527 := qkb_ BK527 hb
              replace BK536 := qkb_ BK536 hb
              replace HB := qbs_ hb
              (try clear hb)
              (try clear hb2)
              (try clear hk)
              (try clear hi)
              refine hK.out _ _ ⟨(bc_ BK526.out 0).trans rfl, (bc_ BK526.out 1).trans rfl, (bc_ BK526.out 2).trans rfl, (bc_ BK526.out 3).trans rfl, (bc_ BK526.out 4).trans rfl, (bc_ BK526.out 5).trans rfl, (bc_ BK536.out 0).trans rfl, (bc_ BK536.out 1).trans rfl, (bc_ BK536.out 2).trans rfl⟩ (fun hHeld => ?_)
              clear hK K
              refine a4s (a' := ?_) ?_ ?_
              rotate_left
              ·show Act.put _ (some 54) _ = _
               exact qp_
              refine qpu_ 4 (some 55) #[o_,o_,o_,o_,o_,i_,i_,i_,i_,i_,i_,i_,i_,i_,i_] ?_
              refine qpv_ 5 (some 56) #[o_,o_,o_,o_,o_,o_,i_,i_,i_,i_,i_,i_,i_,i_,i_] ?_
              refine qpv_ 6 (some 57) #[o_,o_,o_,o_,o_,o_,o_,i_,i_,i_,i_,i_,i_,i_,i_] ?_
              refine qpv_ 7 (some 58) #[o_,o_,o_,o_,o_,o_,o_,o_,i_,i_,i_,i_,i_,i_,i_] ?_
              refine qpv_ 8 (some 59) #[o_,o_,o_,o_,o_,o_,o_,o_,o_,i_,i_,i_,i_,i_,i_] ?_
              refine qpv_ 9 (some 60) #[o_,o_,o_,o_,o_,o_,o_,o_,o_,o_,i_,i_,i_,i_,i_] ?_
              refine qpv_ 10 (some 61) #[o_,o_,o_,o_,o_,o_,o_,o_,o_,o_,o_,i_,i_,i_,i_] ?_
              refine qpv_ 11 (some 62) #[o_,o_,o_,o_,o_,o_,o_,o_,o_,o_,o_,o_,i_,i_,i_] ?_
              refine qpv_ 12 (some 63) #[o_,o_,o_,o_,o_,o_,o_,o_,o_,o_,o_,o_,o_,i_,i_] ?_
              refine qpv_ 13 (some 64) #[o_,o_,o_,o_,o_,o_,o_,o_,o_,o_,o_,o_,o_,o_,i_] ?_
              refine qpu_ 14 (some 65) #[o_,o_,o_,o_,o_,o_,o_,o_,o_,o_,o_,o_,o_,o_,o_] ?_
              refine a5z (a4y HT_.out (by kernel_rfl)) ?_
              obtain ⟨z'52_0, z'52_1, z'52_2⟩ := qz3_ BK536; obtain ⟨y'52_0, y'52_1, y'52_2⟩ := qf3_ BK536
              try go_wp2_with (first | ((with_reducible refine a4q (b := .append) (xs := #[.tmp 66, .tmp 69]) rfl ?_); at_builtin; refine Kd.a5u (Kd.int .i64) (w0 := w) w.heap.size rfl (.tmp 66) (.tmp 69) 28 3 (.int .i64 0) 8 rfl Try.underlying28 info3 rfl (by decide) (by omega) u11 x11_2 ((a0a l0_4 x47_2).f0) [.int .i64 ((a0a l0_4 x47_2).f0)] (fun k_ => (w.heap.size ≤ k_)) (fun _ => False) rfl rfl ?aP (fun _ hk => hk.elim) ?aF ?aO ?aB ?aS ?aL ?_; (case aP => exact rfl); (case aB => exact qb_); (case aF => exact (fun k_ hk => (Nat.le_trans (a0x qb_) hk))); (case aO => exact (qr_ HO_11)); (case aS => exact (a0x qb_)); (case aL => have := LMc44.out; omega); intro v540 w53 ho hb hg hat; rw [← Ny539.out] at ho; replace HO_45 := am_ (Kd.a4u (ok := (fun k_ => ((P0_3_ k_ ∨ P0_4_ k_ ∨ P0_5_ k_) ∨ w.heap.size ≤ k_) ∧ k_ ≠ gb526 ∧ k_ ≠ gb527 ∧ k_ ≠ gb536)) (by (with_reducible repeat (first | apply Kd.V_alloc | apply Kd.V_drewN | apply Kd.a0m)); exact Kd.a0p HO_45.out (fun _ hk => ⟨⟨hk.1, ⟨hk.2.2.1, ⟨hk.2.2.2.1, hk.2.2.2.2⟩⟩⟩, hk.2.1⟩)) hg hat); replace HO_527003 := am_ (Kd.a4u (ok := (fun k_ => ((P0_3_ k_ ∨ P0_4_ k_ ∨ P0_5_ k_) ∨ w.heap.size ≤ k_) ∧ k_ ≠ gb526 ∧ k_ ≠ gb527 ∧ k_ ≠ gb536)) (by (with_reducible repeat (first | apply Kd.V_alloc | apply Kd.V_drewN | apply Kd.a0m)); exact Kd.a0p HO_527003.out (fun _ hk => ⟨⟨hk.1, ⟨hk.2.2.1, ⟨hk.2.2.2.1, hk.2.2.2.2⟩⟩⟩, hk.2.1⟩)) hg hat); replace HO_527004 := am_ (Kd.a4u (ok := (fun k_ => ((P0_3_ k_ ∨ P0_4_ k_ ∨ P0_5_ k_) ∨ w.heap.size ≤ k_) ∧ k_ ≠ gb526 ∧ k_ ≠ gb527 ∧ k_ ≠ gb536)) (by (with_reducible repeat (first | apply Kd.V_alloc | apply Kd.V_drewN | apply Kd.a0m)); exact Kd.a0p HO_527004.out (fun _ hk => ⟨⟨hk.1, ⟨hk.2.2.1, ⟨hk.2.2.2.1, hk.2.2.2.2⟩⟩⟩, hk.2.1⟩)) hg hat); replace HO_527005 := am_ (Kd.a4u (ok := (fun k_ => ((P0_3_ k_ ∨ P0_4_ k_ ∨ P0_5_ k_) ∨ w.heap.size ≤ k_) ∧ k_ ≠ gb526 ∧ k_ ≠ gb527 ∧ k_ ≠ gb536)) (by (with_reducible repeat (first | apply Kd.V_alloc | apply Kd.V_drewN | apply Kd.a0m)); exact Kd.a0p HO_527005.out (fun _ hk => ⟨⟨hk.1, ⟨hk.2.2.1, ⟨hk.2.2.2.1, hk.2.2.2.2⟩⟩⟩, hk.2.1⟩)) hg hat); replace BK526 := am_ (a3a (g := gb526) (o := .cells #[.int .i64 a0_0, .int .i64 a0_1, .int .i64 a0_2, .slice A0_3 l0_3.length c0_3, .slice (some ad535) l0_4.length c0_4, .slice A0_5 l0_5.length c0_5] 30 (0, 0)) (qk_ BK526) hg (Kd.R_ne HO_11.out BK526.out (by decide))); replace BK527 := am_ (a3a (g := gb527) (o := .cells #[.int .i64 0, .int .i64 0, .int .i64 0, .slice none 0 0, .slice none 0 0, .slice none 0 0] 30 (0, 0)) (qk_ BK527) hg (Kd.R_ne HO_11.out BK527.out (by decide))); replace BK536 := am_ (a3a (g := gb536) (o := .cells #[.int .i64 ((a0a l0_4 x47_2).f0), .int .i64 ((a0a l0_4 x47_2).f1), .int .i64 ((a0a l0_4 x47_2).f2)] 43 (0, 0)) (qk_ BK536) hg (Kd.R_ne HO_11.out BK536.out (by decide))); replace HB := am_ (hb); have HO541 := am_ (ho); clear HO_11 ho hb hg hat))
              go_roundg k2
              case measure => have := HK1.out; have := HK2.out; omega
              case rel => exact ⟨(y539), (wrap64 (x47_2 + 1)), qs_, H', ⟨by have := HK1.out; have := HK2.out; omega⟩, ⟨by (with_reducible repeat (first | apply Kd.a1e | apply Kd.a1f | apply Kd.a0y)); exact HO541.out⟩, ⟨by (with_reducible repeat (first | apply Kd.V_alloc | apply Kd.V_drewN | apply Kd.a0m)); exact Kd.a0p HO_45.out (fun _ hk => ⟨hk.1.1, ⟨hk.2, ⟨hk.1.2.1, hk.1.2.2.1⟩⟩⟩)⟩, ⟨by (with_reducible repeat (first | apply Kd.V_alloc | apply Kd.V_drewN | apply Kd.a0m)); exact Kd.a0p HO_527003.out (fun _ hk => ⟨hk.1.1, ⟨hk.2, ⟨hk.1.2.1, hk.1.2.2.1⟩⟩⟩)⟩, ⟨by (with_reducible repeat (first | apply Kd.V_alloc | apply Kd.V_drewN | apply Kd.a0m)); exact Kd.a0p HO_527004.out (fun _ hk => ⟨hk.1.1, ⟨hk.2, ⟨hk.1.2.1, hk.1.2.2.1⟩⟩⟩)⟩, ⟨by (with_reducible repeat (first | apply Kd.V_alloc | apply Kd.V_drewN | apply Kd.a0m)); exact Kd.a0p HO_527005.out (fun _ hk => ⟨hk.1.1, ⟨hk.2, ⟨hk.1.2.1, hk.1.2.2.1⟩⟩⟩)⟩, ⟨qk_ BK526⟩, ⟨qk_ BK527⟩, ⟨qb_⟩⟩
             ·rw [if_neg c44] at H
              exact absurd H (by simp)
            ·replace c43 := be_ c43
             subst c43
             have H1 : (if 0 ≤ (rd x7_1 (ji33)) then (if (rd x7_1 (ji33)) < (l0_4.length : Int) then (if ((a0a l0_4 x47_2).f0) = ((a0a l0_4 (rd x7_1 (ji33))).f0) then (if x11_2.length < 17592186044416 then (a1i.l1 k2 (rd x7_1 (ji33)) (x11_2 ++ [(a0a l0_4 x47_2).f0]) l0_4 (l0_4.length : Int) (wrap64 (x47_2 + 1)) a0_0 a0_1 a0_2 l0_3 l0_4 l0_5) else (none)) else (a1i.l1 k2 (rd x7_1 (ji33)) x11_2 l0_4 (l0_4.length : Int) (wrap64 (x47_2 + 1)) a0_0 a0_1 a0_2 l0_3 l0_4 l0_5)) else (none)) else (none)) = some (r1, r2, r3, r4, r5, r6, r7, r8) := by rw [if_neg (show ¬ (false = true) by decide)] at H; exact H
             clear H
             have H := H1
             clear H1
             by_cases c54 : 0 ≤ (rd x7_1 (ji33))
             ·rw [if_pos c54] at H
              have c54b0 : decide (0 ≤ (rd x7_1 (ji33))) = true := decide_eq_true c54
              clear c54
              by_cases c55 : (rd x7_1 (ji33)) < (l0_4.length : Int)
              ·rw [if_pos c55] at H
               have c55b0 : decide ((rd x7_1 (ji33)) < (l0_4.length : Int)) = true := decide_eq_true c55
               clear c55
               by_cases c56 : ((a0a l0_4 x47_2).f0) = ((a0a l0_4 (rd x7_1 (ji33))).f0)
               ·rw [if_pos c56] at H
                have c56b0 : (((a0a l0_4 x47_2).f0) == ((a0a l0_4 (rd x7_1 (ji33))).f0)) = true := beq_iff_eq.mpr c56
                have c56b1 : (((a0a l0_4 x47_2).f0) != ((a0a l0_4 (rd x7_1 (ji33))).f0)) = false := bne_eq_false_iff_eq.mpr c56
                clear c56
                by_cases c57 : x11_2.length < 17592186044416
                ·rw [if_pos c57] at H
                 have LMc57 := am_ c57
                 clear c57
                 obtain ⟨y542, hy542⟩ : ∃ y_ : List Int, y_ = (x11_2 ++ [(a0a l0_4 x47_2).f0]) := ⟨_, rfl⟩
                 replace H : (a1i.l1 k2 (rd x7_1 (ji33)) y542 l0_4 (l0_4.length : Int) (wrap64 (x47_2 + 1)) a0_0 a0_1 a0_2 l0_3 l0_4 l0_5) = some (r1, r2, r3, r4, r5, r6, r7, r8) := by first | (rw [hy542]; with_reducible exact H) | (have H2_ := (Option.bind_some _ _).symm.trans H; rw [hy542]; with_reducible exact H2_) | (have H2_ := (Option.bind_some _ _).symm.trans H; with_reducible exact H2_) | with_reducible exact H | (rw [hy542]; exact H) | exact H
                 have Ny542 := am_ hy542
                 clear hy542
                 have H' := am_ H
                 clear H
                 have p535 : 0 ≤ (x47_2 : Int) := ot_
                 have q535 : x47_2 < (l0_4.length : Int) := ot_
                 obtain ⟨ad535, e535, hx535_0, hx535_1, hx535_2⟩ := a2p (Kd.a1w HO_45.out).2.2 x47_2 p535 q535
                 cases e535
                 replace p535 := eq_true p535
                 replace q535 := eq_true q535
                 try go_wp2_with (first | ((with_reducible refine a0f (N := 13) rfl ?_); refine qev_ 13 #[.int .i64 0, .int .i64 0, .int .i64 0] 43 ?_; intro gb536 hg w58 hbox hb; replace HO_11 := qrb_ HO_11 hb; replace HO_45 := am_ (Kd.a1q (Kd.a2t (by (with_reducible repeat (first | apply Kd.V_alloc | apply Kd.V_drewN | apply Kd.a0m)); exact HO_45.out) gb536 (Nat.le_of_eq hg.symm)) hb); replace HO_527003 := am_ (Kd.a1q (Kd.a2t (by (with_reducible repeat (first | apply Kd.V_alloc | apply Kd.V_drewN | apply Kd.a0m)); exact HO_527003.out) gb536 (Nat.le_of_eq hg.symm)) hb); replace HO_527004 := am_ (Kd.a1q (Kd.a2t (by (with_reducible repeat (first | apply Kd.V_alloc | apply Kd.V_drewN | apply Kd.a0m)); exact HO_527004.out) gb536 (Nat.le_of_eq hg.symm)) hb); replace HO_527005 := am_ (Kd.a1q (Kd.a2t (by (with_reducible repeat (first | apply Kd.V_alloc | apply Kd.V_drewN | apply Kd.a0m)); exact HO_527005.out) gb536 (Nat.le_of_eq hg.symm)) hb); have BK536 := am_ (hbox); have GW536 := qga_ hg; have GE536 := qga_ hg; replace HB := qbs_ hb; have NB526_536 := am_ ((by rw [hg]; exact Nat.ne_of_lt (a0u (qk_ BK526)) : gb526 ≠ gb536)); have NB536_526 := am_ ((by rw [hg]; exact Nat.ne_of_gt (a0u (qk_ BK526)) : gb536 ≠ gb526)); replace BK526 := qkb_ BK526 hb; have NB527_536 := am_ ((by rw [hg]; exact Nat.ne_of_lt (a0u (qk_ BK527)) : gb527 ≠ gb536)); have NB536_527 := am_ ((by rw [hg]; exact Nat.ne_of_gt (a0u (qk_ BK527)) : gb536 ≠ gb527)); replace BK527 := qkb_ BK527 hb; clear hb hbox hg; have hnb59 := NB536_526.out; have hnc59 := NB526_536.out; have hnb60 := NB536_527.out; have hnc60 := NB527_536.out; obtain ⟨z'61_0, z'61_1, z'61_2⟩ := qz3_ BK536; obtain ⟨y'61_0, y'61_1, y'61_2⟩ := qf3_ BK536))
                 have n0_ : Aside0 (Kd.R (Kd.int .i64) 3 (((w58.setCell ⟨gb536, 0, none⟩ (.int .i64 ((a0a l0_4 x47_2).f0))).setCell ⟨gb536, 1, none⟩ (.int .i64 ((a0a l0_4 x47_2).f1))).setCell ⟨gb536, 2, none⟩ (.int .i64 ((a0a l0_4 x47_2).f2))) w.heap.size (fun k_ => (w.heap.size ≤ k_)) u11 x11_2) := ⟨by (with_reducible repeat (first | apply Kd.a1e | apply Kd.a1f | apply Kd.a0y)); exact Kd.a2w (Kd.a1c (p := ⟨gb536, 2, none⟩) (Kd.a1c (p := ⟨gb536, 1, none⟩) (Kd.a1c (p := ⟨gb536, 0, none⟩) (Kd.a3d HO_11.out BK536.out (by decide)) (fun _ hk => hk.2) (.int .i64 ((a0a l0_4 x47_2).f0))) (fun _ hk => hk.2) (.int .i64 ((a0a l0_4 x47_2).f1))) (fun _ hk => hk.2) (.int .i64 ((a0a l0_4 x47_2).f2))) (fun _ hk => hk.1)⟩
                 have n1_ : Aside0 (Kd.V k43 43 (((w58.setCell ⟨gb536, 0, none⟩ (.int .i64 ((a0a l0_4 x47_2).f0))).setCell ⟨gb536, 1, none⟩ (.int .i64 ((a0a l0_4 x47_2).f1))).setCell ⟨gb536, 2, none⟩ (.int .i64 ((a0a l0_4 x47_2).f2))) w.heap.size (fun k_ => ((P0_3_ k_ ∨ P0_4_ k_ ∨ P0_5_ k_) ∨ w.heap.size ≤ k_) ∧ some k_ ≠ (u11 : Value).ownBlock ∧ k_ ≠ gb526 ∧ k_ ≠ gb527 ∧ k_ ≠ gb536) (.slice (some ad535) l0_4.length c0_4) l0_4) := ⟨by (with_reducible repeat (first | apply Kd.V_alloc | apply Kd.V_drewN | apply Kd.a0m)); exact Kd.a0p (Kd.a0r (p := ⟨gb536, 2, none⟩) (Kd.a0r (p := ⟨gb536, 1, none⟩) (Kd.a0r (p := ⟨gb536, 0, none⟩) (Kd.a0p HO_45.out (fun k_ hk => (⟨hk, hk.2⟩ : _ ∧ k_ ≠ gb536))) (fun _ hk => hk.2) (.int .i64 ((a0a l0_4 x47_2).f0))) (fun _ hk => hk.2) (.int .i64 ((a0a l0_4 x47_2).f1))) (fun _ hk => hk.2) (.int .i64 ((a0a l0_4 x47_2).f2))) (fun _ hk => ⟨hk.1.1.1, ⟨hk.1.1.2.1, ⟨hk.1.1.2.2.1, ⟨hk.1.1.2.2.2, hk.1.2⟩⟩⟩⟩)⟩
                 have n2_ : Aside0 (Kd.V Kd.string 9 (((w58.setCell ⟨gb536, 0, none⟩ (.int .i64 ((a0a l0_4 x47_2).f0))).setCell ⟨gb536, 1, none⟩ (.int .i64 ((a0a l0_4 x47_2).f1))).setCell ⟨gb536, 2, none⟩ (.int .i64 ((a0a l0_4 x47_2).f2))) w.heap.size (fun k_ => ((P0_3_ k_ ∨ P0_4_ k_ ∨ P0_5_ k_) ∨ w.heap.size ≤ k_) ∧ some k_ ≠ (u11 : Value).ownBlock ∧ k_ ≠ gb526 ∧ k_ ≠ gb527 ∧ k_ ≠ gb536) (.slice A0_3 l0_3.length c0_3) l0_3) := ⟨by (with_reducible repeat (first | apply Kd.V_alloc | apply Kd.V_drewN | apply Kd.a0m)); exact Kd.a0p (Kd.a0r (p := ⟨gb536, 2, none⟩) (Kd.a0r (p := ⟨gb536, 1, none⟩) (Kd.a0r (p := ⟨gb536, 0, none⟩) (Kd.a0p HO_527003.out (fun k_ hk => (⟨hk, hk.2⟩ : _ ∧ k_ ≠ gb536))) (fun _ hk => hk.2) (.int .i64 ((a0a l0_4 x47_2).f0))) (fun _ hk => hk.2) (.int .i64 ((a0a l0_4 x47_2).f1))) (fun _ hk => hk.2) (.int .i64 ((a0a l0_4 x47_2).f2))) (fun _ hk => ⟨hk.1.1.1, ⟨hk.1.1.2.1, ⟨hk.1.1.2.2.1, ⟨hk.1.1.2.2.2, hk.1.2⟩⟩⟩⟩)⟩
                 have n3_ : Aside0 (Kd.V k43 43 (((w58.setCell ⟨gb536, 0, none⟩ (.int .i64 ((a0a l0_4 x47_2).f0))).setCell ⟨gb536, 1, none⟩ (.int .i64 ((a0a l0_4 x47_2).f1))).setCell ⟨gb536, 2, none⟩ (.int .i64 ((a0a l0_4 x47_2).f2))) w.heap.size (fun k_ => ((P0_3_ k_ ∨ P0_4_ k_ ∨ P0_5_ k_) ∨ w.heap.size ≤ k_) ∧ some k_ ≠ (u11 : Value).ownBlock ∧ k_ ≠ gb526 ∧ k_ ≠ gb527 ∧ k_ ≠ gb536) (.slice (some ad535) l0_4.length c0_4) l0_4) := ⟨by (with_reducible repeat (first | apply Kd.V_alloc | apply Kd.V_drewN | apply Kd.a0m)); exact Kd.a0p (Kd.a0r (p := ⟨gb536, 2, none⟩) (Kd.a0r (p := ⟨gb536, 1, none⟩) (Kd.a0r (p := ⟨gb536, 0, none⟩) (Kd.a0p HO_527004.out (fun k_ hk => (⟨hk, hk.2⟩ : _ ∧ k_ ≠ gb536))) (fun _ hk => hk.2) (.int .i64 ((a0a l0_4 x47_2).f0))) (fun _ hk => hk.2) (.int .i64 ((a0a l0_4 x47_2).f1))) (fun _ hk => hk.2) (.int .i64 ((a0a l0_4 x47_2).f2))) (fun _ hk => ⟨hk.1.1.1, ⟨hk.1.1.2.1, ⟨hk.1.1.2.2.1, ⟨hk.1.1.2.2.2, hk.1.2⟩⟩⟩⟩)⟩
                 have n4_ : Aside0 (Kd.V (Kd.int .i64) 3 (((w58.setCell ⟨gb536, 0, none⟩ (.int .i64 ((a0a l0_4 x47_2).f0))).setCell ⟨gb536, 1, none⟩ (.int .i64 ((a0a l0_4 x47_2).f1))).setCell ⟨gb536, 2, none⟩ (.int .i64 ((a0a l0_4 x47_2).f2))) w.heap.size (fun k_ => ((P0_3_ k_ ∨ P0_4_ k_ ∨ P0_5_ k_) ∨ w.heap.size ≤ k_) ∧ some k_ ≠ (u11 : Value).ownBlock ∧ k_ ≠ gb526 ∧ k_ ≠ gb527 ∧ k_ ≠ gb536) (.slice A0_5 l0_5.length c0_5) l0_5) := ⟨by (with_reducible repeat (first | apply Kd.V_alloc | apply Kd.V_drewN | apply Kd.a0m)); exact Kd.a0p (Kd.a0r (p := ⟨gb536, 2, none⟩) (Kd.a0r (p := ⟨gb536, 1, none⟩) (Kd.a0r (p := ⟨gb536, 0, none⟩) (Kd.a0p HO_527005.out (fun k_ hk => (⟨hk, hk.2⟩ : _ ∧ k_ ≠ gb536))) (fun _ hk => hk.2) (.int .i64 ((a0a l0_4 x47_2).f0))) (fun _ hk => hk.2) (.int .i64 ((a0a l0_4 x47_2).f1))) (fun _ hk => hk.2) (.int .i64 ((a0a l0_4 x47_2).f2))) (fun _ hk => ⟨hk.1.1.1, ⟨hk.1.1.2.1, ⟨hk.1.1.2.2.1, ⟨hk.1.1.2.2.2, hk.1.2⟩⟩⟩⟩)⟩
                 have n5_ : Aside0 ((((w58.setCell ⟨gb536, 0, none⟩ (.int .i64 ((a0a l0_4 x47_2).f0))).setCell ⟨gb536, 1, none⟩ (.int .i64 ((a0a l0_4 x47_2).f1))).setCell ⟨gb536, 2, none⟩ (.int .i64 ((a0a l0_4 x47_2).f2))).heap[gb526]? = some (.cells #[.int .i64 a0_0, .int .i64 a0_1, .int .i64 a0_2, .slice A0_3 l0_3.length c0_3, .slice (some ad535) l0_4.length c0_4, .slice A0_5 l0_5.length c0_5] 30 (0, 0))) := ⟨by refine qd_ ?_; refine a0b ?_ NB526_536.out _; refine qd_ ?_; refine a0b ?_ NB526_536.out _; refine qd_ ?_; refine a0b ?_ NB526_536.out _; refine qd_ ?_; exact BK526.out⟩
                 have n6_ : Aside0 ((((w58.setCell ⟨gb536, 0, none⟩ (.int .i64 ((a0a l0_4 x47_2).f0))).setCell ⟨gb536, 1, none⟩ (.int .i64 ((a0a l0_4 x47_2).f1))).setCell ⟨gb536, 2, none⟩ (.int .i64 ((a0a l0_4 x47_2).f2))).heap[gb527]? = some (.cells #[.int .i64 0, .int .i64 0, .int .i64 0, .slice none 0 0, .slice none 0 0, .slice none 0 0] 30 (0, 0))) := ⟨by refine qd_ ?_; refine a0b ?_ NB527_536.out _; refine qd_ ?_; refine a0b ?_ NB527_536.out _; refine qd_ ?_; refine a0b ?_ NB527_536.out _; refine qd_ ?_; exact BK527.out⟩
                 have n7_ : Aside0 ((((w58.setCell ⟨gb536, 0, none⟩ (.int .i64 ((a0a l0_4 x47_2).f0))).setCell ⟨gb536, 1, none⟩ (.int .i64 ((a0a l0_4 x47_2).f1))).setCell ⟨gb536, 2, none⟩ (.int .i64 ((a0a l0_4 x47_2).f2))).heap[gb536]? = some (.cells #[.int .i64 ((a0a l0_4 x47_2).f0), .int .i64 ((a0a l0_4 x47_2).f1), .int .i64 ((a0a l0_4 x47_2).f2)] 43 (0, 0))) := ⟨by refine qd_ ?_; refine a0d (cs := #[.int .i64 ((a0a l0_4 x47_2).f0), .int .i64 ((a0a l0_4 x47_2).f1), .int .i64 0]) ?_ 2 _ rfl; refine qd_ ?_; refine a0d (cs := #[.int .i64 ((a0a l0_4 x47_2).f0), .int .i64 0, .int .i64 0]) ?_ 1 _ rfl; refine qd_ ?_; refine a0d (cs := #[.int .i64 0, .int .i64 0, .int .i64 0]) ?_ 0 _ rfl; refine qd_ ?_; exact BK536.out⟩
                 have n8_ : Aside0 (Below w.heap.size w (((w58.setCell ⟨gb536, 0, none⟩ (.int .i64 ((a0a l0_4 x47_2).f0))).setCell ⟨gb536, 1, none⟩ (.int .i64 ((a0a l0_4 x47_2).f1))).setCell ⟨gb536, 2, none⟩ (.int .i64 ((a0a l0_4 x47_2).f2)))) := ⟨qb_⟩
                 (try clear HO_11)
                 (try clear HO_45)
                 (try clear HO_527003)
                 (try clear HO_527004)
                 (try clear HO_527005)
                 (try clear BK526)
                 (try clear BK527)
                 (try clear BK536)
                 (try clear HB)
                 generalize (((w58.setCell ⟨gb536, 0, none⟩ (.int .i64 ((a0a l0_4 x47_2).f0))).setCell ⟨gb536, 1, none⟩ (.int .i64 ((a0a l0_4 x47_2).f1))).setCell ⟨gb536, 2, none⟩ (.int .i64 ((a0a l0_4 x47_2).f2))) = w62 at n0_ n1_ n2_ n3_ n4_ n5_ n6_ n7_ n8_ ⊢
                 have HO_11 := n0_
                 have HO_45 := n1_
                 have HO_527003 := n2_
                 have HO_527004 := n3_
                 have HO_527005 := n4_
                 have BK526 := n5_
                 have BK527 := n6_
                 have BK536 := n7_
                 have HB := n8_
                 clear n0_ n1_ n2_ n3_ n4_ n5_ n6_ n7_ n8_
                 replace HO_11 := am_ (Kd.a0y HO_11.out)
                 replace HO_45 := am_ (Kd.a0m HO_45.out)
                 replace HO_527003 := am_ (Kd.a0m HO_527003.out)
                 replace HO_527004 := am_ (Kd.a0m HO_527004.out)
                 replace HO_527005 := am_ (Kd.a0m HO_527005.out)
                 replace BK526 := am_ (bd_ BK526.out)
                 replace BK527 := am_ (bd_ BK527.out)
                 replace BK536 := am_ (bd_ BK536.out)
                 replace HB := am_ (ld_ HB.out)
                 have p538 : 0 ≤ ((rd x7_1 (ji33)) : Int) := ot_
                 have q538 : (rd x7_1 (ji33)) < (l0_4.length : Int) := ot_
                 obtain ⟨ad538, e538, hx538_0, hx538_1, hx538_2⟩ := a2p (Kd.a1w HO_527004.out).2.2 (rd x7_1 (ji33)) p538 q538
                 obtain rfl : ad535 = ad538 := (by injection e538)
                 replace p538 := eq_true p538
                 replace q538 := eq_true q538
                 refine a5m (n := 15) (S := fun w' => w'.cell? ⟨gb526, 0, none⟩ = some (.int .i64 a0_0) ∧ w'.cell? ⟨gb526, 1, none⟩ = some (.int .i64 a0_1) ∧ w'.cell? ⟨gb526, 2, none⟩ = some (.int .i64 a0_2) ∧ w'.cell? ⟨gb526, 3, none⟩ = some (.slice A0_3 l0_3.length c0_3) ∧ w'.cell? ⟨gb526, 4, none⟩ = some (.slice (some ad535) l0_4.length c0_4) ∧ w'.cell? ⟨gb526, 5, none⟩ = some (.slice A0_5 l0_5.length c0_5) ∧ w'.cell? ⟨gb536, 0, none⟩ = some (.int .i64 ((a0a l0_4 x47_2).f0)) ∧ w'.cell? ⟨gb536, 1, none⟩ = some (.int .i64 ((a0a l0_4 x47_2).f1)) ∧ w'.cell? ⟨gb536, 2, none⟩ = some (.int .i64 ((a0a l0_4 x47_2).f2)) ∧ w'.cell? (ad535.add (((rd x7_1 (ji33))).toNat * 3)) = some (.int .i64 ((a0a l0_4 (rd x7_1 (ji33))).f0)) ∧ w'.cell? ⟨(ad535.add (((rd x7_1 (ji33))).toNat * 3)).block, (ad535.add (((rd x7_1 (ji33))).toNat * 3)).off + 1, none⟩ = some (.int .i64 ((a0a l0_4 (rd x7_1 (ji33))).f1)) ∧ w'.cell? ⟨(ad535.add (((rd x7_1 (ji33))).toNat * 3)).block, (ad535.add (((rd x7_1 (ji33))).toNat * 3)).off + 2, none⟩ = some (.int .i64 ((a0a l0_4 (rd x7_1 (ji33))).f2))) (ds := []) #[i_,i_,i_,i_,i_,i_,i_,i_,i_,i_,i_,i_,i_,i_,i_] (by kernel_rfl) rfl rfl ⟨(bc_ BK526.out 0).trans rfl, (bc_ BK526.out 1).trans rfl, (bc_ BK526.out 2).trans rfl, (bc_ BK526.out 3).trans rfl, (bc_ BK526.out 4).trans rfl, (bc_ BK526.out 5).trans rfl, (bc_ BK536.out 0).trans rfl, (bc_ BK536.out 1).trans rfl, (bc_ BK536.out 2).trans rfl, hx538_0, hx538_1, hx538_2⟩ (fun hHeld => ?_); refine a4g a1i.b3g a1i.b1r (fun HT_ HW_ => ?_)
                 generalize w62.drew = w63 at HO_11 HO_45 HO_527003 HO_527004 HO_527005 BK526 BK527 BK536 HB hx538_0 hx538_1 hx538_2 hHeld ⊢
                 refine qpu_ 1 (some 52) #[i_,o_,i_,i_,i_,i_,i_,i_,i_,i_,i_,i_,i_,i_,i_] ?_
                 refine a3r (i := 0) (N := some 51) (v := ?_) (a' := ?_) #[o_,o_,i_,i_,i_,i_,i_,i_,i_,i_,i_,i_,i_,i_,i_] rfl rfl (a2v HT_.out HW_.out (by kernel_rfl)) (fun _ _ _ h => h) (Or.inl ⟨by rfl, ?_⟩) hHeld ?_ ?_
                 rotate_left
                 ·rintro w' ⟨s0, s1, s2, s3, s4, s5, s6, s7, s8, s9, s10, s11⟩
                  go_simp
                  with_reducible rfl
                 rotate_left
                 ·exact qp_
                 refine a3r (i := 2) (N := some 53) (v := ?_) (a' := ?_) #[o_,o_,o_,i_,i_,i_,i_,i_,i_,i_,i_,i_,i_,i_,i_] rfl rfl (a2v HT_.out HW_.out (by kernel_rfl)) (fun _ _ _ h => h) (Or.inl ⟨by rfl, ?_⟩) hHeld ?_ ?_
                 rotate_left
                 ·rintro w' ⟨s0, s1, s2, s3, s4, s5, s6, s7, s8, s9, s10, s11⟩
                  go_simp
                  with_reducible rfl
                 rotate_left
                 ·exact qp_
                 refine one_ (i := 3) (N := some 54) #[o_,o_,o_,o_,i_,i_,i_,i_,i_,i_,i_,i_,i_,i_,i_] rfl rfl (a4c HT_.out (by kernel_rfl)) (by decide) (fun K hK => ?_)
                 refine a5e Try.func23 (by kernel_rfl) rfl #[.agg #[.int .i64 a0_0, .int .i64 a0_1, .int .i64 a0_2, .slice A0_3 l0_3.length c0_3, .slice (some ad535) l0_4.length c0_4, .slice A0_5 l0_5.length c0_5], .int .i64 ((a0a l0_4 x47_2).f0)] (by rfl) rfl rfl ql_ ?_
                 with_reducible refine (a2x.calls k2 a0_0 a0_1 a0_2 _ _ l0_3 _ _ l0_4 _ _ l0_5 ((a0a l0_4 x47_2).f0) false _ ?s1 ?s2 ?s3 ?s4 ?s5 ?s6 A42.out).mono ?_
                 (case s1 => repeat (first | exact (Kd.a1w HO_527003.out).2.2 | (with_reducible refine Kd.a2b ?_ _) | (with_reducible refine Kd.a2c ?_ _) | (with_reducible refine Kd.a2m ?_)))
                 (case s2 => exact (Kd.a1w HO_527003.out).2.1)
                 (case s3 => repeat (first | exact (Kd.a1w HO_527004.out).2.2 | (with_reducible refine Kd.a2b ?_ _) | (with_reducible refine Kd.a2c ?_ _) | (with_reducible refine Kd.a2m ?_)))
                 (case s4 => exact (Kd.a1w HO_527004.out).2.1)
                 (case s5 => repeat (first | exact (Kd.a1w HO_527005.out).2.2 | (with_reducible refine Kd.a2b ?_ _) | (with_reducible refine Kd.a2c ?_ _) | (with_reducible refine Kd.a2m ?_)))
                 (case s6 => exact (Kd.a1w HO_527005.out).2.1)
                 rintro e w64 ⟨rfl, hb⟩
                 have HS9_ := (hb.cell (World.block_lt_of_cell? _ _ (hHeld.2.2.2.2.2.2.2.2.2.1))).trans (hHeld.2.2.2.2.2.2.2.2.2.1)
                 have HS10_ := (hb.cell (World.block_lt_of_cell? _ _ (hHeld.2.2.2.2.2.2.2.2.2.2.1))).trans (hHeld.2.2.2.2.2.2.2.2.2.2.1)
                 have HS11_ := (hb.cell (World.block_lt_of_cell? _ _ (hHeld.2.2.2.2.2.2.2.2.2.2.2))).trans (hHeld.2.2.2.2.2.2.2.2.2.2.2)
                 refine ⟨_, rfl, ?_⟩
                 replace HO_11 := qrb_ HO_11 hb
                 replace HO_45 := am_ (Kd.a1q (by (with_reducible repeat (first | apply Kd.V_alloc | apply Kd.V_drewN | apply Kd.a0m)); exact HO_45.out) hb)
                 replace HO_527003 := am_ (Kd.a1q (by (with_reducible repeat (first | apply Kd.V_alloc | apply Kd.V_drewN | apply Kd.a0m)); exact HO_527003.out) hb)
                 replace HO_527004 := am_ (Kd.a1q (by (with_reducible repeat (first | apply Kd.V_alloc | apply Kd.V_drewN | apply Kd.a0m)); exact HO_527004.out) hb)
                 replace HO_527005 := am_ (Kd.a1q (by (with_reducible repeat (first | apply Kd.V_alloc | apply Kd.V_drewN | apply Kd.a0m)); exact HO_527005.out) hb)
                 replace BK526 := qkb_ BK526 hb
                 replace BK527 := qkb_ BK527 hb
                 replace BK536 := qkb_ BK536 hb
                 replace HB := qbs_ hb
                 (try clear hb)
                 (try clear hb2)
                 (try clear hk)
                 (try clear hi)
                 refine hK.out _ _ ⟨(bc_ BK526.out 0).trans rfl, (bc_ BK526.out 1).trans rfl, (bc_ BK526.out 2).trans rfl, (bc_ BK526.out 3).trans rfl, (bc_ BK526.out 4).trans rfl, (bc_ BK526.out 5).trans rfl, (bc_ BK536.out 0).trans rfl, (bc_ BK536.out 1).trans rfl, (bc_ BK536.out 2).trans rfl, HS9_, HS10_, HS11_⟩ (fun hHeld => ?_)
                 clear hK K
                 refine a4s (a' := ?_) ?_ ?_
                 rotate_left
                 ·show Act.put _ (some 54) _ = _
                  exact qp_
                 refine qpu_ 4 (some 55) #[o_,o_,o_,o_,o_,i_,i_,i_,i_,i_,i_,i_,i_,i_,i_] ?_
                 refine qpu_ 5 (some 56) #[o_,o_,o_,o_,o_,o_,i_,i_,i_,i_,i_,i_,i_,i_,i_] ?_
                 refine qpu_ 7 (some 58) #[o_,o_,o_,o_,o_,o_,i_,o_,i_,i_,i_,i_,i_,i_,i_] ?_
                 refine qpu_ 9 (some 60) #[o_,o_,o_,o_,o_,o_,i_,o_,i_,o_,i_,i_,i_,i_,i_] ?_
                 refine a3r (i := 6) (N := some 57) (v := ?_) (a' := ?_) #[o_,o_,o_,o_,o_,o_,o_,o_,i_,o_,i_,i_,i_,i_,i_] rfl rfl (a2v HT_.out HW_.out (by kernel_rfl)) (fun _ _ _ h => h) (Or.inl ⟨by rfl, ?_⟩) hHeld ?_ ?_
                 rotate_left
                 ·rintro w' ⟨s0, s1, s2, s3, s4, s5, s6, s7, s8, s9, s10, s11⟩
                  go_simp
                  with_reducible rfl
                 rotate_left
                 ·exact qp_
                 refine a3r (i := 8) (N := some 59) (v := ?_) (a' := ?_) #[o_,o_,o_,o_,o_,o_,o_,o_,o_,o_,i_,i_,i_,i_,i_] rfl rfl (a2v HT_.out HW_.out (by kernel_rfl)) (fun _ _ _ h => h) (Or.inl ⟨by rfl, ?_⟩) hHeld ?_ ?_
                 rotate_left
                 ·rintro w' ⟨s0, s1, s2, s3, s4, s5, s6, s7, s8, s9, s10, s11⟩
                  go_simp
                  with_reducible rfl
                 rotate_left
                 ·exact qp_
                 refine qpu_ 10 (some 61) #[o_,o_,o_,o_,o_,o_,o_,o_,o_,o_,o_,i_,i_,i_,i_] ?_
                 refine qpu_ 11 (some 62) #[o_,o_,o_,o_,o_,o_,o_,o_,o_,o_,o_,o_,i_,i_,i_] ?_
                 refine a3r (i := 12) (N := some 63) (v := ?_) (a' := ?_) #[o_,o_,o_,o_,o_,o_,o_,o_,o_,o_,o_,o_,o_,i_,i_] rfl rfl (a2v HT_.out HW_.out (by kernel_rfl)) (fun _ _ _ h => h) (Or.inl ⟨by rfl, ?_⟩) hHeld ?_ ?_
                 rotate_left
                 ·rintro w' ⟨s0, s1, s2, s3, s4, s5, s6, s7, s8, s9, s10, s11⟩
                  go_simp
                  with_reducible rfl
                 rotate_left
                 ·exact qp_
                 refine qpu_ 13 (some 64) #[o_,o_,o_,o_,o_,o_,o_,o_,o_,o_,o_,o_,o_,o_,i_] ?_
                 refine qpu_ 14 (some 65) #[o_,o_,o_,o_,o_,o_,o_,o_,o_,o_,o_,o_,o_,o_,o_] ?_
                 refine a5z (a4y HT_.out (by kernel_rfl)) ?_
                 obtain ⟨z'65_0, z'65_1, z'65_2⟩ := qz3_ BK536; obtain ⟨y'65_0, y'65_1, y'65_2⟩ := qf3_ BK536
                 try go_wp2_with (first | ((with_reducible refine a4q (b := .append) (xs := #[.tmp 66, .tmp 69]) rfl ?_); at_builtin; refine Kd.a5u (Kd.int .i64) (w0 := w) w.heap.size rfl (.tmp 66) (.tmp 69) 28 3 (.int .i64 0) 8 rfl Try.underlying28 info3 rfl (by decide) (by omega) u11 x11_2 ((a0a l0_4 x47_2).f0) [.int .i64 ((a0a l0_4 x47_2).f0)] (fun k_ => (w.heap.size ≤ k_)) (fun _ => False) rfl rfl ?aP (fun _ hk => hk.elim) ?aF ?aO ?aB ?aS ?aL ?_; (case aP => exact rfl); (case aB => exact qb_); (case aF => exact (fun k_ hk => (Nat.le_trans (a0x qb_) hk))); (case aO => exact (qr_ HO_11)); (case aS => exact (a0x qb_)); (case aL => have := LMc57.out; omega); intro v543 w66 ho hb hg hat; rw [← Ny542.out] at ho; replace HO_45 := am_ (Kd.a4u (ok := (fun k_ => ((P0_3_ k_ ∨ P0_4_ k_ ∨ P0_5_ k_) ∨ w.heap.size ≤ k_) ∧ k_ ≠ gb526 ∧ k_ ≠ gb527 ∧ k_ ≠ gb536)) (by (with_reducible repeat (first | apply Kd.V_alloc | apply Kd.V_drewN | apply Kd.a0m)); exact Kd.a0p HO_45.out (fun _ hk => ⟨⟨hk.1, ⟨hk.2.2.1, ⟨hk.2.2.2.1, hk.2.2.2.2⟩⟩⟩, hk.2.1⟩)) hg hat); replace HO_527003 := am_ (Kd.a4u (ok := (fun k_ => ((P0_3_ k_ ∨ P0_4_ k_ ∨ P0_5_ k_) ∨ w.heap.size ≤ k_) ∧ k_ ≠ gb526 ∧ k_ ≠ gb527 ∧ k_ ≠ gb536)) (by (with_reducible repeat (first | apply Kd.V_alloc | apply Kd.V_drewN | apply Kd.a0m)); exact Kd.a0p HO_527003.out (fun _ hk => ⟨⟨hk.1, ⟨hk.2.2.1, ⟨hk.2.2.2.1, hk.2.2.2.2⟩⟩⟩, hk.2.1⟩)) hg hat); replace HO_527004 := am_ (Kd.a4u (ok := (fun k_ => ((P0_3_ k_ ∨ P0_4_ k_ ∨ P0_5_ k_) ∨ w.heap.size ≤ k_) ∧ k_ ≠ gb526 ∧ k_ ≠ gb527 ∧ k_ ≠ gb536)) (by (with_reducible repeat (first | apply Kd.V_alloc | apply Kd.V_drewN | apply Kd.a0m)); exact Kd.a0p HO_527004.out (fun _ hk => ⟨⟨hk.1, ⟨hk.2.2.1, ⟨hk.2.2.2.1, hk.2.2.2.2⟩⟩⟩, hk.2.1⟩)) hg hat); replace HO_527005 := am_ (Kd.a4u (ok := (fun k_ => ((P0_3_ k_ ∨ P0_4_ k_ ∨ P0_5_ k_) ∨ w.heap.size ≤ k_) ∧ k_ ≠ gb526 ∧ k_ ≠ gb527 ∧ k_ ≠ gb536)) (by (with_reducible repeat (first | apply Kd.V_alloc | apply Kd.V_drewN | apply Kd.a0m)); exact Kd.a0p HO_527005.out (fun _ hk => ⟨⟨hk.1, ⟨hk.2.2.1, ⟨hk.2.2.2.1, hk.2.2.2.2⟩⟩⟩, hk.2.1⟩)) hg hat); replace BK526 := am_ (a3a (g := gb526) (o := .cells #[.int .i64 a0_0, .int .i64 a0_1, .int .i64 a0_2, .slice A0_3 l0_3.length c0_3, .slice (some ad535) l0_4.length c0_4, .slice A0_5 l0_5.length c0_5] 30 (0, 0)) (qk_ BK526) hg (Kd.R_ne HO_11.out BK526.out (by decide))); replace BK527 := am_ (a3a (g := gb527) (o := .cells #[.int .i64 0, .int .i64 0, .int .i64 0, .slice none 0 0, .slice none 0 0, .slice none 0 0] 30 (0, 0)) (qk_ BK527) hg (Kd.R_ne HO_11.out BK527.out (by decide))); replace BK536 := am_ (a3a (g := gb536) (o := .cells #[.int .i64 ((a0a l0_4 x47_2).f0), .int .i64 ((a0a l0_4 x47_2).f1), .int .i64 ((a0a l0_4 x47_2).f2)] 43 (0, 0)) (qk_ BK536) hg (Kd.R_ne HO_11.out BK536.out (by decide))); replace HB := am_ (hb); have HO544 := am_ (ho); clear HO_11 ho hb hg hat))
                 go_roundg k2
                 case measure => have := HK1.out; have := HK2.out; omega
                 case rel => exact ⟨(y542), (wrap64 (x47_2 + 1)), qs_, H', ⟨by have := HK1.out; have := HK2.out; omega⟩, ⟨by (with_reducible repeat (first | apply Kd.a1e | apply Kd.a1f | apply Kd.a0y)); exact HO544.out⟩, ⟨by (with_reducible repeat (first | apply Kd.V_alloc | apply Kd.V_drewN | apply Kd.a0m)); exact Kd.a0p HO_45.out (fun _ hk => ⟨hk.1.1, ⟨hk.2, ⟨hk.1.2.1, hk.1.2.2.1⟩⟩⟩)⟩, ⟨by (with_reducible repeat (first | apply Kd.V_alloc | apply Kd.V_drewN | apply Kd.a0m)); exact Kd.a0p HO_527003.out (fun _ hk => ⟨hk.1.1, ⟨hk.2, ⟨hk.1.2.1, hk.1.2.2.1⟩⟩⟩)⟩, ⟨by (with_reducible repeat (first | apply Kd.V_alloc | apply Kd.V_drewN | apply Kd.a0m)); exact Kd.a0p HO_527004.out (fun _ hk => ⟨hk.1.1, ⟨hk.2, ⟨hk.1.2.1, hk.1.2.2.1⟩⟩⟩)⟩, ⟨by (with_reducible repeat (first | apply Kd.V_alloc | apply Kd.V_drewN | apply Kd.a0m)); exact Kd.a0p HO_527005.out (fun _ hk => ⟨hk.1.1, ⟨hk.2, ⟨hk.1.2.1, hk.1.2.2.1⟩⟩⟩)⟩, ⟨qk_ BK526⟩, ⟨qk_ BK527⟩, ⟨qb_⟩⟩
                ·rw [if_neg c57] at H
                 exact absurd H (by simp)
               ·rw [if_neg c56] at H
                have c56b0 : (((a0a l0_4 x47_2).f0) == ((a0a l0_4 (rd x7_1 (ji33))).f0)) = false := beq_eq_false_iff_ne.mpr c56
                have c56b1 : (((a0a l0_4 x47_2).f0) != ((a0a l0_4 (rd x7_1 (ji33))).f0)) = true := bne_iff_ne.mpr c56
                have H' := am_ H
                clear H
                have p535 : 0 ≤ (x47_2 : Int) := ot_
                have q535 : x47_2 < (l0_4.length : Int) := ot_
                obtain ⟨ad535, e535, hx535_0, hx535_1, hx535_2⟩ := a2p (Kd.a1w HO_45.out).2.2 x47_2 p535 q535
                cases e535
                replace p535 := eq_true p535
                replace q535 := eq_true q535
                try go_wp2_with (first | ((with_reducible refine a0f (N := 13) rfl ?_); refine qev_ 13 #[.int .i64 0, .int .i64 0, .int .i64 0] 43 ?_; intro gb536 hg w67 hbox hb; replace HO_11 := qrb_ HO_11 hb; replace HO_45 := am_ (Kd.a1q (Kd.a2t (by (with_reducible repeat (first | apply Kd.V_alloc | apply Kd.V_drewN | apply Kd.a0m)); exact HO_45.out) gb536 (Nat.le_of_eq hg.symm)) hb); replace HO_527003 := am_ (Kd.a1q (Kd.a2t (by (with_reducible repeat (first | apply Kd.V_alloc | apply Kd.V_drewN | apply Kd.a0m)); exact HO_527003.out) gb536 (Nat.le_of_eq hg.symm)) hb); replace HO_527004 := am_ (Kd.a1q (Kd.a2t (by (with_reducible repeat (first | apply Kd.V_alloc | apply Kd.V_drewN | apply Kd.a0m)); exact HO_527004.out) gb536 (Nat.le_of_eq hg.symm)) hb); replace HO_527005 := am_ (Kd.a1q (Kd.a2t (by (with_reducible repeat (first | apply Kd.V_alloc | apply Kd.V_drewN | apply Kd.a0m)); exact HO_527005.out) gb536 (Nat.le_of_eq hg.symm)) hb); have BK536 := am_ (hbox); have GW536 := qga_ hg; have GE536 := qga_ hg; replace HB := qbs_ hb; have NB526_536 := am_ ((by rw [hg]; exact Nat.ne_of_lt (a0u (qk_ BK526)) : gb526 ≠ gb536)); have NB536_526 := am_ ((by rw [hg]; exact Nat.ne_of_gt (a0u (qk_ BK526)) : gb536 ≠ gb526)); replace BK526 := qkb_ BK526 hb; have NB527_536 := am_ ((by rw [hg]; exact Nat.ne_of_lt (a0u (qk_ BK527)) : gb527 ≠ gb536)); have NB536_527 := am_ ((by rw [hg]; exact Nat.ne_of_gt (a0u (qk_ BK527)) : gb536 ≠ gb527)); replace BK527 := qkb_ BK527 hb; clear hb hbox hg; have hnb68 := NB536_526.out; have hnc68 := NB526_536.out; have hnb69 := NB536_527.out; have hnc69 := NB527_536.out; obtain ⟨z'70_0, z'70_1, z'70_2⟩ := qz3_ BK536; obtain ⟨y'70_0, y'70_1, y'70_2⟩ := qf3_ BK536))
                have n0_ : Aside0 (Kd.R (Kd.int .i64) 3 (((w67.setCell ⟨gb536, 0, none⟩ (.int .i64 ((a0a l0_4 x47_2).f0))).setCell ⟨gb536, 1, none⟩ (.int .i64 ((a0a l0_4 x47_2).f1))).setCell ⟨gb536, 2, none⟩ (.int .i64 ((a0a l0_4 x47_2).f2))) w.heap.size (fun k_ => (w.heap.size ≤ k_)) u11 x11_2) := ⟨by (with_reducible repeat (first | apply Kd.a1e | apply Kd.a1f | apply Kd.a0y)); exact Kd.a2w (Kd.a1c (p := ⟨gb536, 2, none⟩) (Kd.a1c (p := ⟨gb536, 1, none⟩) (Kd.a1c (p := ⟨gb536, 0, none⟩) (Kd.a3d HO_11.out BK536.out (by decide)) (fun _ hk => hk.2) (.int .i64 ((a0a l0_4 x47_2).f0))) (fun _ hk => hk.2) (.int .i64 ((a0a l0_4 x47_2).f1))) (fun _ hk => hk.2) (.int .i64 ((a0a l0_4 x47_2).f2))) (fun _ hk => hk.1)⟩
                have n1_ : Aside0 (Kd.V k43 43 (((w67.setCell ⟨gb536, 0, none⟩ (.int .i64 ((a0a l0_4 x47_2).f0))).setCell ⟨gb536, 1, none⟩ (.int .i64 ((a0a l0_4 x47_2).f1))).setCell ⟨gb536, 2, none⟩ (.int .i64 ((a0a l0_4 x47_2).f2))) w.heap.size (fun k_ => ((P0_3_ k_ ∨ P0_4_ k_ ∨ P0_5_ k_) ∨ w.heap.size ≤ k_) ∧ some k_ ≠ (u11 : Value).ownBlock ∧ k_ ≠ gb526 ∧ k_ ≠ gb527 ∧ k_ ≠ gb536) (.slice (some ad535) l0_4.length c0_4) l0_4) := ⟨by (with_reducible repeat (first | apply Kd.V_alloc | apply Kd.V_drewN | apply Kd.a0m)); exact Kd.a0p (Kd.a0r (p := ⟨gb536, 2, none⟩) (Kd.a0r (p := ⟨gb536, 1, none⟩) (Kd.a0r (p := ⟨gb536, 0, none⟩) (Kd.a0p HO_45.out (fun k_ hk => (⟨hk, hk.2⟩ : _ ∧ k_ ≠ gb536))) (fun _ hk => hk.2) (.int .i64 ((a0a l0_4 x47_2).f0))) (fun _ hk => hk.2) (.int .i64 ((a0a l0_4 x47_2).f1))) (fun _ hk => hk.2) (.int .i64 ((a0a l0_4 x47_2).f2))) (fun _ hk => ⟨hk.1.1.1, ⟨hk.1.1.2.1, ⟨hk.1.1.2.2.1, ⟨hk.1.1.2.2.2, hk.1.2⟩⟩⟩⟩)⟩
                have n2_ : Aside0 (Kd.V Kd.string 9 (((w67.setCell ⟨gb536, 0, none⟩ (.int .i64 ((a0a l0_4 x47_2).f0))).setCell ⟨gb536, 1, none⟩ (.int .i64 ((a0a l0_4 x47_2).f1))).setCell ⟨gb536, 2, none⟩ (.int .i64 ((a0a l0_4 x47_2).f2))) w.heap.size (fun k_ => ((P0_3_ k_ ∨ P0_4_ k_ ∨ P0_5_ k_) ∨ w.heap.size ≤ k_) ∧ some k_ ≠ (u11 : Value).ownBlock ∧ k_ ≠ gb526 ∧ k_ ≠ gb527 ∧ k_ ≠ gb536) (.slice A0_3 l0_3.length c0_3) l0_3) := ⟨by (with_reducible repeat (first | apply Kd.V_alloc | apply Kd.V_drewN | apply Kd.a0m)); exact Kd.a0p (Kd.a0r (p := ⟨gb536, 2, none⟩) (Kd.a0r (p := ⟨gb536, 1, none⟩) (Kd.a0r (p := ⟨gb536, 0, none⟩) (Kd.a0p HO_527003.out (fun k_ hk => (⟨hk, hk.2⟩ : _ ∧ k_ ≠ gb536))) (fun _ hk => hk.2) (.int .i64 ((a0a l0_4 x47_2).f0))) (fun _ hk => hk.2) (.int .i64 ((a0a l0_4 x47_2).f1))) (fun _ hk => hk.2) (.int .i64 ((a0a l0_4 x47_2).f2))) (fun _ hk => ⟨hk.1.1.1, ⟨hk.1.1.2.1, ⟨hk.1.1.2.2.1, ⟨hk.1.1.2.2.2, hk.1.2⟩⟩⟩⟩)⟩
                have n3_ : Aside0 (Kd.V k43 43 (((w67.setCell ⟨gb536, 0, none⟩ (.int .i64 ((a0a l0_4 x47_2).f0))).setCell ⟨gb536, 1, none⟩ (.int .i64 ((a0a l0_4 x47_2).f1))).setCell ⟨gb536, 2, none⟩ (.int .i64 ((a0a l0_4 x47_2).f2))) w.heap.size (fun k_ => ((P0_3_ k_ ∨ P0_4_ k_ ∨ P0_5_ k_) ∨ w.heap.size ≤ k_) ∧ some k_ ≠ (u11 : Value).ownBlock ∧ k_ ≠ gb526 ∧ k_ ≠ gb527 ∧ k_ ≠ gb536) (.slice (some ad535) l0_4.length c0_4) l0_4) := ⟨by (with_reducible repeat (first | apply Kd.V_alloc | apply Kd.V_drewN | apply Kd.a0m)); exact Kd.a0p (Kd.a0r (p := ⟨gb536, 2, none⟩) (Kd.a0r (p := ⟨gb536, 1, none⟩) (Kd.a0r (p := ⟨gb536, 0, none⟩) (Kd.a0p HO_527004.out (fun k_ hk => (⟨hk, hk.2⟩ : _ ∧ k_ ≠ gb536))) (fun _ hk => hk.2) (.int .i64 ((a0a l0_4 x47_2).f0))) (fun _ hk => hk.2) (.int .i64 ((a0a l0_4 x47_2).f1))) (fun _ hk => hk.2) (.int .i64 ((a0a l0_4 x47_2).f2))) (fun _ hk => ⟨hk.1.1.1, ⟨hk.1.1.2.1, ⟨hk.1.1.2.2.1, ⟨hk.1.1.2.2.2, hk.1.2⟩⟩⟩⟩)⟩
                have n4_ : Aside0 (Kd.V (Kd.int .i64) 3 (((w67.setCell ⟨gb536, 0, none⟩ (.int .i64 ((a0a l0_4 x47_2).f0))).setCell ⟨gb536, 1, none⟩ (.int .i64 ((a0a l0_4 x47_2).f1))).setCell ⟨gb536, 2, none⟩ (.int .i64 ((a0a l0_4 x47_2).f2))) w.heap.size (fun k_ => ((P0_3_ k_ ∨ P0_4_ k_ ∨ P0_5_ k_) ∨ w.heap.size ≤ k_) ∧ some k_ ≠ (u11 : Value).ownBlock ∧ k_ ≠ gb526 ∧ k_ ≠ gb527 ∧ k_ ≠ gb536) (.slice A0_5 l0_5.length c0_5) l0_5) := ⟨by (with_reducible repeat (first | apply Kd.V_alloc | apply Kd.V_drewN | apply Kd.a0m)); exact Kd.a0p (Kd.a0r (p := ⟨gb536, 2, none⟩) (Kd.a0r (p := ⟨gb536, 1, none⟩) (Kd.a0r (p := ⟨gb536, 0, none⟩) (Kd.a0p HO_527005.out (fun k_ hk => (⟨hk, hk.2⟩ : _ ∧ k_ ≠ gb536))) (fun _ hk => hk.2) (.int .i64 ((a0a l0_4 x47_2).f0))) (fun _ hk => hk.2) (.int .i64 ((a0a l0_4 x47_2).f1))) (fun _ hk => hk.2) (.int .i64 ((a0a l0_4 x47_2).f2))) (fun _ hk => ⟨hk.1.1.1, ⟨hk.1.1.2.1, ⟨hk.1.1.2.2.1, ⟨hk.1.1.2.2.2, hk.1.2⟩⟩⟩⟩)⟩
                have n5_ : Aside0 ((((w67.setCell ⟨gb536, 0, none⟩ (.int .i64 ((a0a l0_4 x47_2).f0))).setCell ⟨gb536, 1, none⟩ (.int .i64 ((a0a l0_4 x47_2).f1))).setCell ⟨gb536, 2, none⟩ (.int .i64 ((a0a l0_4 x47_2).f2))).heap[gb526]? = some (.cells #[.int .i64 a0_0, .int .i64 a0_1, .int .i64 a0_2, .slice A0_3 l0_3.length c0_3, .slice (some ad535) l0_4.length c0_4, .slice A0_5 l0_5.length c0_5] 30 (0, 0))) := ⟨by refine qd_ ?_; refine a0b ?_ NB526_536.out _; refine qd_ ?_; refine a0b ?_ NB526_536.out _; refine qd_ ?_; refine a0b ?_ NB526_536.out _; refine qd_ ?_; exact BK526.out⟩
                have n6_ : Aside0 ((((w67.setCell ⟨gb536, 0, none⟩ (.int .i64 ((a0a l0_4 x47_2).f0))).setCell ⟨gb536, 1, none⟩ (.int .i64 ((a0a l0_4 x47_2).f1))).setCell ⟨gb536, 2, none⟩ (.int .i64 ((a0a l0_4 x47_2).f2))).heap[gb527]? = some (.cells #[.int .i64 0, .int .i64 0, .int .i64 0, .slice none 0 0, .slice none 0 0, .slice none 0 0] 30 (0, 0))) := ⟨by refine qd_ ?_; refine a0b ?_ NB527_536.out _; refine qd_ ?_; refine a0b ?_ NB527_536.out _; refine qd_ ?_; refine a0b ?_ NB527_536.out _; refine qd_ ?_; exact BK527.out⟩
                have n7_ : Aside0 ((((w67.setCell ⟨gb536, 0, none⟩ (.int .i64 ((a0a l0_4 x47_2).f0))).setCell ⟨gb536, 1, none⟩ (.int .i64 ((a0a l0_4 x47_2).f1))).setCell ⟨gb536, 2, none⟩ (.int .i64 ((a0a l0_4 x47_2).f2))).heap[gb536]? = some (.cells #[.int .i64 ((a0a l0_4 x47_2).f0), .int .i64 ((a0a l0_4 x47_2).f1), .int .i64 ((a0a l0_4 x47_2).f2)] 43 (0, 0))) := ⟨by refine qd_ ?_; refine a0d (cs := #[.int .i64 ((a0a l0_4 x47_2).f0), .int .i64 ((a0a l0_4 x47_2).f1), .int .i64 0]) ?_ 2 _ rfl; refine qd_ ?_; refine a0d (cs := #[.int .i64 ((a0a l0_4 x47_2).f0), .int .i64 0, .int .i64 0]) ?_ 1 _ rfl; refine qd_ ?_; refine a0d (cs := #[.int .i64 0, .int .i64 0, .int .i64 0]) ?_ 0 _ rfl; refine qd_ ?_; exact BK536.out⟩
                have n8_ : Aside0 (Below w.heap.size w (((w67.setCell ⟨gb536, 0, none⟩ (.int .i64 ((a0a l0_4 x47_2).f0))).setCell ⟨gb536, 1, none⟩ (.int .i64 ((a0a l0_4 x47_2).f1))).setCell ⟨gb536, 2, none⟩ (.int .i64 ((a0a l0_4 x47_2).f2)))) := ⟨qb_⟩
                (try clear HO_11)
                (try clear HO_45)
                (try clear HO_527003)
                (try clear HO_527004)
                (try clear HO_527005)
                (try clear BK526)
                (try clear BK527)
                (try clear BK536)
                (try clear HB)
                generalize (((w67.setCell ⟨gb536, 0, none⟩ (.int .i64 ((a0a l0_4 x47_2).f0))).setCell ⟨gb536, 1, none⟩ (.int .i64 ((a0a l0_4 x47_2).f1))).setCell ⟨gb536, 2, none⟩ (.int .i64 ((a0a l0_4 x47_2).f2))) = w71 at n0_ n1_ n2_ n3_ n4_ n5_ n6_ n7_ n8_ ⊢
                have HO_11 := n0_
                have HO_45 := n1_
                have HO_527003 := n2_
                have HO_527004 := n3_
                have HO_527005 := n4_
                have BK526 := n5_
                have BK527 := n6_
                have BK536 := n7_
                have HB := n8_
                clear n0_ n1_ n2_ n3_ n4_ n5_ n6_ n7_ n8_
                replace HO_11 := am_ (Kd.a0y HO_11.out)
                replace HO_45 := am_ (Kd.a0m HO_45.out)
                replace HO_527003 := am_ (Kd.a0m HO_527003.out)
                replace HO_527004 := am_ (Kd.a0m HO_527004.out)
                replace HO_527005 := am_ (Kd.a0m HO_527005.out)
                replace BK526 := am_ (bd_ BK526.out)
                replace BK527 := am_ (bd_ BK527.out)
                replace BK536 := am_ (bd_ BK536.out)
                replace HB := am_ (ld_ HB.out)
                have p538 : 0 ≤ ((rd x7_1 (ji33)) : Int) := ot_
                have q538 : (rd x7_1 (ji33)) < (l0_4.length : Int) := ot_
                obtain ⟨ad538, e538, hx538_0, hx538_1, hx538_2⟩ := a2p (Kd.a1w HO_527004.out).2.2 (rd x7_1 (ji33)) p538 q538
                obtain rfl : ad535 = ad538 := (by injection e538)
                replace p538 := eq_true p538
                replace q538 := eq_true q538
                refine a5m (n := 15) (S := fun w' => w'.cell? ⟨gb526, 0, none⟩ = some (.int .i64 a0_0) ∧ w'.cell? ⟨gb526, 1, none⟩ = some (.int .i64 a0_1) ∧ w'.cell? ⟨gb526, 2, none⟩ = some (.int .i64 a0_2) ∧ w'.cell? ⟨gb526, 3, none⟩ = some (.slice A0_3 l0_3.length c0_3) ∧ w'.cell? ⟨gb526, 4, none⟩ = some (.slice (some ad535) l0_4.length c0_4) ∧ w'.cell? ⟨gb526, 5, none⟩ = some (.slice A0_5 l0_5.length c0_5) ∧ w'.cell? ⟨gb536, 0, none⟩ = some (.int .i64 ((a0a l0_4 x47_2).f0)) ∧ w'.cell? ⟨gb536, 1, none⟩ = some (.int .i64 ((a0a l0_4 x47_2).f1)) ∧ w'.cell? ⟨gb536, 2, none⟩ = some (.int .i64 ((a0a l0_4 x47_2).f2)) ∧ w'.cell? (ad535.add (((rd x7_1 (ji33))).toNat * 3)) = some (.int .i64 ((a0a l0_4 (rd x7_1 (ji33))).f0)) ∧ w'.cell? ⟨(ad535.add (((rd x7_1 (ji33))).toNat * 3)).block, (ad535.add (((rd x7_1 (ji33))).toNat * 3)).off + 1, none⟩ = some (.int .i64 ((a0a l0_4 (rd x7_1 (ji33))).f1)) ∧ w'.cell? ⟨(ad535.add (((rd x7_1 (ji33))).toNat * 3)).block, (ad535.add (((rd x7_1 (ji33))).toNat * 3)).off + 2, none⟩ = some (.int .i64 ((a0a l0_4 (rd x7_1 (ji33))).f2))) (ds := []) #[i_,i_,i_,i_,i_,i_,i_,i_,i_,i_,i_,i_,i_,i_,i_] (by kernel_rfl) rfl rfl ⟨(bc_ BK526.out 0).trans rfl, (bc_ BK526.out 1).trans rfl, (bc_ BK526.out 2).trans rfl, (bc_ BK526.out 3).trans rfl, (bc_ BK526.out 4).trans rfl, (bc_ BK526.out 5).trans rfl, (bc_ BK536.out 0).trans rfl, (bc_ BK536.out 1).trans rfl, (bc_ BK536.out 2).trans rfl, hx538_0, hx538_1, hx538_2⟩ (fun hHeld => ?_); refine a4g a1i.b3g a1i.b1r (fun HT_ HW_ => ?_)
                generalize w71.drew = w72 at HO_11 HO_45 HO_527003 HO_527004 HO_527005 BK526 BK527 BK536 HB hx538_0 hx538_1 hx538_2 hHeld ⊢
                refine qpu_ 1 (some 52) #[i_,o_,i_,i_,i_,i_,i_,i_,i_,i_,i_,i_,i_,i_,i_] ?_
                refine a3r (i := 0) (N := some 51) (v := ?_) (a' := ?_) #[o_,o_,i_,i_,i_,i_,i_,i_,i_,i_,i_,i_,i_,i_,i_] rfl rfl (a2v HT_.out HW_.out (by kernel_rfl)) (fun _ _ _ h => h) (Or.inl ⟨by rfl, ?_⟩) hHeld ?_ ?_
                rotate_left
                ·rintro w' ⟨s0, s1, s2, s3, s4, s5, s6, s7, s8, s9, s10, s11⟩
                 go_simp
                 with_reducible rfl
                rotate_left
                ·exact qp_
                refine a3r (i := 2) (N := some 53) (v := ?_) (a' := ?_) #[o_,o_,o_,i_,i_,i_,i_,i_,i_,i_,i_,i_,i_,i_,i_] rfl rfl (a2v HT_.out HW_.out (by kernel_rfl)) (fun _ _ _ h => h) (Or.inl ⟨by rfl, ?_⟩) hHeld ?_ ?_
                rotate_left
                ·rintro w' ⟨s0, s1, s2, s3, s4, s5, s6, s7, s8, s9, s10, s11⟩
                 go_simp
                 with_reducible rfl
                rotate_left
                ·exact qp_
                refine one_ (i := 3) (N := some 54) #[o_,o_,o_,o_,i_,i_,i_,i_,i_,i_,i_,i_,i_,i_,i_] rfl rfl (a4c HT_.out (by kernel_rfl)) (by decide) (fun K hK => ?_)
                refine a5e Try.func23 (by kernel_rfl) rfl #[.agg #[.int .i64 a0_0, .int .i64 a0_1, .int .i64 a0_2, .slice A0_3 l0_3.length c0_3, .slice (some ad535) l0_4.length c0_4, .slice A0_5 l0_5.length c0_5], .int .i64 ((a0a l0_4 x47_2).f0)] (by rfl) rfl rfl ql_ ?_
                with_reducible refine (a2x.calls k2 a0_0 a0_1 a0_2 _ _ l0_3 _ _ l0_4 _ _ l0_5 ((a0a l0_4 x47_2).f0) false _ ?s1 ?s2 ?s3 ?s4 ?s5 ?s6 A42.out).mono ?_
                (case s1 => repeat (first | exact (Kd.a1w HO_527003.out).2.2 | (with_reducible refine Kd.a2b ?_ _) | (with_reducible refine Kd.a2c ?_ _) | (with_reducible refine Kd.a2m ?_)))
                (case s2 => exact (Kd.a1w HO_527003.out).2.1)
                (case s3 => repeat (first | exact (Kd.a1w HO_527004.out).2.2 | (with_reducible refine Kd.a2b ?_ _) | (with_reducible refine Kd.a2c ?_ _) | (with_reducible refine Kd.a2m ?_)))
                (case s4 => exact (Kd.a1w HO_527004.out).2.1)
                (case s5 => repeat (first | exact (Kd.a1w HO_527005.out).2.2 | (with_reducible refine Kd.a2b ?_ _) | (with_reducible refine Kd.a2c ?_ _) | (with_reducible refine Kd.a2m ?_)))
                (case s6 => exact (Kd.a1w HO_527005.out).2.1)
                rintro e w73 ⟨rfl, hb⟩
                have HS9_ := (hb.cell (World.block_lt_of_cell? _ _ (hHeld.2.2.2.2.2.2.2.2.2.1))).trans (hHeld.2.2.2.2.2.2.2.2.2.1)
                have HS10_ := (hb.cell (World.block_lt_of_cell? _ _ (hHeld.2.2.2.2.2.2.2.2.2.2.1))).trans (hHeld.2.2.2.2.2.2.2.2.2.2.1)
                have HS11_ := (hb.cell (World.block_lt_of_cell? _ _ (hHeld.2.2.2.2.2.2.2.2.2.2.2))).trans (hHeld.2.2.2.2.2.2.2.2.2.2.2)
                refine ⟨_, rfl, ?_⟩
                replace HO_11 := qrb_ HO_11 hb
                replace HO_45 := am_ (Kd.a1q (by (with_reducible repeat (first | apply Kd.V_alloc | apply Kd.V_drewN | apply Kd.a0m)); exact HO_45.out) hb)
                replace HO_527003 := am_ (Kd.a1q (by (with_reducible repeat (first | apply Kd.V_alloc | apply Kd.V_drewN | apply Kd.a0m)); exact HO_527003.out) hb)
                replace HO_527004 := am_ (Kd.a1q (by (with_reducible repeat (first | apply Kd.V_alloc | apply Kd.V_drewN | apply Kd.a0m)); exact HO_527004.out) hb)
                replace HO_527005 := am_ (Kd.a1q (by (with_reducible repeat (first | apply Kd.V_alloc | apply Kd.V_drewN | apply Kd.a0m)); exact HO_527005.out) hb)
                replace BK526 := qkb_ BK526 hb
                replace BK527 := qkb_ BK527 hb
                replace BK536 := qkb_ BK536 hb
                replace HB := qbs_ hb
                (try clear hb)
                (try clear hb2)
                (try clear hk)
                (try clear hi)
                refine hK.out _ _ ⟨(bc_ BK526.out 0).trans rfl, (bc_ BK526.out 1).trans rfl, (bc_ BK526.out 2).trans rfl, (bc_ BK526.out 3).trans rfl, (bc_ BK526.out 4).trans rfl, (bc_ BK526.out 5).trans rfl, (bc_ BK536.out 0).trans rfl, (bc_ BK536.out 1).trans rfl, (bc_ BK536.out 2).trans rfl, HS9_, HS10_, HS11_⟩ (fun hHeld => ?_)
                clear hK K
                refine a4s (a' := ?_) ?_ ?_
                rotate_left
                ·show Act.put _ (some 54) _ = _
                 exact qp_
                refine qpu_ 4 (some 55) #[o_,o_,o_,o_,o_,i_,i_,i_,i_,i_,i_,i_,i_,i_,i_] ?_
                refine qpu_ 5 (some 56) #[o_,o_,o_,o_,o_,o_,i_,i_,i_,i_,i_,i_,i_,i_,i_] ?_
                refine qpu_ 7 (some 58) #[o_,o_,o_,o_,o_,o_,i_,o_,i_,i_,i_,i_,i_,i_,i_] ?_
                refine qpu_ 9 (some 60) #[o_,o_,o_,o_,o_,o_,i_,o_,i_,o_,i_,i_,i_,i_,i_] ?_
                refine a3r (i := 6) (N := some 57) (v := ?_) (a' := ?_) #[o_,o_,o_,o_,o_,o_,o_,o_,i_,o_,i_,i_,i_,i_,i_] rfl rfl (a2v HT_.out HW_.out (by kernel_rfl)) (fun _ _ _ h => h) (Or.inl ⟨by rfl, ?_⟩) hHeld ?_ ?_
                rotate_left
                ·rintro w' ⟨s0, s1, s2, s3, s4, s5, s6, s7, s8, s9, s10, s11⟩
                 go_simp
                 with_reducible rfl
                rotate_left
                ·exact qp_
                refine a3r (i := 8) (N := some 59) (v := ?_) (a' := ?_) #[o_,o_,o_,o_,o_,o_,o_,o_,o_,o_,i_,i_,i_,i_,i_] rfl rfl (a2v HT_.out HW_.out (by kernel_rfl)) (fun _ _ _ h => h) (Or.inl ⟨by rfl, ?_⟩) hHeld ?_ ?_
                rotate_left
                ·rintro w' ⟨s0, s1, s2, s3, s4, s5, s6, s7, s8, s9, s10, s11⟩
                 go_simp
                 with_reducible rfl
                rotate_left
                ·exact qp_
                refine qpu_ 10 (some 61) #[o_,o_,o_,o_,o_,o_,o_,o_,o_,o_,o_,i_,i_,i_,i_] ?_
                refine qpu_ 11 (some 62) #[o_,o_,o_,o_,o_,o_,o_,o_,o_,o_,o_,o_,i_,i_,i_] ?_
                refine a3r (i := 12) (N := some 63) (v := ?_) (a' := ?_) #[o_,o_,o_,o_,o_,o_,o_,o_,o_,o_,o_,o_,o_,i_,i_] rfl rfl (a2v HT_.out HW_.out (by kernel_rfl)) (fun _ _ _ h => h) (Or.inl ⟨by rfl, ?_⟩) hHeld ?_ ?_
                rotate_left
                ·rintro w' ⟨s0, s1, s2, s3, s4, s5, s6, s7, s8, s9, s10, s11⟩
                 go_simp
                 with_reducible rfl
                rotate_left
                ·exact qp_
                refine qpu_ 13 (some 64) #[o_,o_,o_,o_,o_,o_,o_,o_,o_,o_,o_,o_,o_,o_,i_] ?_
                refine qpu_ 14 (some 65) #[o_,o_,o_,o_,o_,o_,o_,o_,o_,o_,o_,o_,o_,o_,o_] ?_
                refine a5z (a4y HT_.out (by kernel_rfl)) ?_
                try go_wp2
                go_roundg k2
                case measure => have := HK1.out; have := HK2.out; omega
                case rel => exact ⟨(x11_2), (wrap64 (x47_2 + 1)), qs_, H', ⟨by have := HK1.out; have := HK2.out; omega⟩, ⟨by (with_reducible repeat (first | apply Kd.a1e | apply Kd.a1f | apply Kd.a0y)); exact HO_11.out⟩, ⟨by (with_reducible repeat (first | apply Kd.V_alloc | apply Kd.V_drewN | apply Kd.a0m)); exact Kd.a0p HO_45.out (fun _ hk => ⟨hk.1, ⟨hk.2.1, ⟨hk.2.2.1, hk.2.2.2.1⟩⟩⟩)⟩, ⟨by (with_reducible repeat (first | apply Kd.V_alloc | apply Kd.V_drewN | apply Kd.a0m)); exact Kd.a0p HO_527003.out (fun _ hk => ⟨hk.1, ⟨hk.2.1, ⟨hk.2.2.1, hk.2.2.2.1⟩⟩⟩)⟩, ⟨by (with_reducible repeat (first | apply Kd.V_alloc | apply Kd.V_drewN | apply Kd.a0m)); exact Kd.a0p HO_527004.out (fun _ hk => ⟨hk.1, ⟨hk.2.1, ⟨hk.2.2.1, hk.2.2.2.1⟩⟩⟩)⟩, ⟨by (with_reducible repeat (first | apply Kd.V_alloc | apply Kd.V_drewN | apply Kd.a0m)); exact Kd.a0p HO_527005.out (fun _ hk => ⟨hk.1, ⟨hk.2.1, ⟨hk.2.2.1, hk.2.2.2.1⟩⟩⟩)⟩, ⟨qk_ BK526⟩, ⟨qk_ BK527⟩, ⟨qb_⟩⟩
              ·rw [if_neg c55] at H
               exact absurd H (by simp)
             ·rw [if_neg c54] at H
              exact absurd H (by simp)
           ·rw [if_neg c41] at H
            exact absurd H (by simp)
          ·rw [if_neg c40] at H
           exact absurd H (by simp)
         ·rw [if_neg c39] at H
          have c39b0 : decide (x47_2 < (l0_4.length : Int)) = false := decide_eq_false c39
          clear c39
          simp only [Option.some.injEq, Prod.mk.injEq] at H
          obtain ⟨rfl, rfl, rfl, rfl, rfl, rfl, rfl, rfl⟩ := H
          obtain ⟨Ao74, co74, eo74⟩ := Kd.a1p HO_11.out
          subst eo74
          have hnb75 := NB526_527.out
          have hnc75 := NB527_526.out
          obtain ⟨z'76_0, z'76_1, z'76_2, z'76_3, z'76_4, z'76_5⟩ := qz6_ BK526; obtain ⟨y'76_0, y'76_1, y'76_2, y'76_3, y'76_4, y'76_5⟩ := qf6_ BK526
          obtain ⟨z'77_0, z'77_1, z'77_2, z'77_3, z'77_4, z'77_5⟩ := qz6_ BK527; obtain ⟨y'77_0, y'77_1, y'77_2, y'77_3, y'77_4, y'77_5⟩ := qf6_ BK527
          go_wp2
          refine bodyPost_ret (a8z rfl _ _ gb527 30 #[.int .i64 a0_0, .int .i64 a0_1, .int .i64 a0_2, .slice A0_3 l0_3.length c0_3, .slice A0_4 l0_4.length c0_4, .slice Ao74 x11_2.length co74] (0, 0) _ rfl (by refine qd_ ?_; refine a0d (cs := #[.int .i64 a0_0, .int .i64 a0_1, .int .i64 a0_2, .slice A0_3 l0_3.length c0_3, .slice A0_4 l0_4.length c0_4, .slice none 0 0]) ?_ 5 _ rfl; refine qd_ ?_; refine a0d (cs := #[.int .i64 a0_0, .int .i64 a0_1, .int .i64 a0_2, .slice A0_3 l0_3.length c0_3, .slice none 0 0, .slice none 0 0]) ?_ 4 _ rfl; refine qd_ ?_; refine a0d (cs := #[.int .i64 a0_0, .int .i64 a0_1, .int .i64 a0_2, .slice none 0 0, .slice none 0 0, .slice none 0 0]) ?_ 3 _ rfl; refine qd_ ?_; refine a0d (cs := #[.int .i64 a0_0, .int .i64 a0_1, .int .i64 0, .slice none 0 0, .slice none 0 0, .slice none 0 0]) ?_ 2 _ rfl; refine qd_ ?_; refine a0d (cs := #[.int .i64 a0_0, .int .i64 0, .int .i64 0, .slice none 0 0, .slice none 0 0, .slice none 0 0]) ?_ 1 _ rfl; refine qd_ ?_; refine a0d (cs := #[.int .i64 0, .int .i64 0, .int .i64 0, .slice none 0 0, .slice none 0 0, .slice none 0 0]) ?_ 0 _ rfl; refine qd_ ?_; refine a0b ?_ NB527_526.out _; refine qd_ ?_; exact BK527.out) Try.underlying30 rfl (by kernel_rfl)) rfl ?_
          exact ⟨_, _, _, by first | rfl | (simp [a6n, a6o] <;> rfl) | (simp only [← hji33]; first | rfl | (simp [a6n, a6o] <;> rfl)) | (simp [*, a6n, a6o] <;> rfl), by (with_reducible repeat (first | apply Kd.V_alloc | apply Kd.V_drewN | apply Kd.a0m)); exact Kd.a0p (Kd.a0r (p := ⟨gb527, 5, none⟩) (Kd.a0r (p := ⟨gb527, 4, none⟩) (Kd.a0r (p := ⟨gb527, 3, none⟩) (Kd.a0r (p := ⟨gb527, 2, none⟩) (Kd.a0r (p := ⟨gb527, 1, none⟩) (Kd.a0r (p := ⟨gb527, 0, none⟩) (Kd.a0r (p := ⟨gb526, 5, none⟩) (Kd.a0p (Kd.a0p HO_527003.out (fun k_ hk => (⟨hk, hk.2.2.1⟩ : _ ∧ k_ ≠ gb526))) (fun k_ hk => (⟨hk, hk.1.2.2.2⟩ : _ ∧ k_ ≠ gb527))) (fun _ hk => hk.1.2) (.slice Ao74 x11_2.length co74)) (fun _ hk => hk.2) (.int .i64 a0_0)) (fun _ hk => hk.2) (.int .i64 a0_1)) (fun _ hk => hk.2) (.int .i64 a0_2)) (fun _ hk => hk.2) (.slice A0_3 l0_3.length c0_3)) (fun _ hk => hk.2) (.slice A0_4 l0_4.length c0_4)) (fun _ hk => hk.2) (.slice Ao74 x11_2.length co74)) (fun _ hk => hk.1.1.1), by (with_reducible repeat (first | apply Kd.V_alloc | apply Kd.V_drewN | apply Kd.a0m)); exact Kd.a0p (Kd.a0r (p := ⟨gb527, 5, none⟩) (Kd.a0r (p := ⟨gb527, 4, none⟩) (Kd.a0r (p := ⟨gb527, 3, none⟩) (Kd.a0r (p := ⟨gb527, 2, none⟩) (Kd.a0r (p := ⟨gb527, 1, none⟩) (Kd.a0r (p := ⟨gb527, 0, none⟩) (Kd.a0r (p := ⟨gb526, 5, none⟩) (Kd.a0p (Kd.a0p HO_527004.out (fun k_ hk => (⟨hk, hk.2.2.1⟩ : _ ∧ k_ ≠ gb526))) (fun k_ hk => (⟨hk, hk.1.2.2.2⟩ : _ ∧ k_ ≠ gb527))) (fun _ hk => hk.1.2) (.slice Ao74 x11_2.length co74)) (fun _ hk => hk.2) (.int .i64 a0_0)) (fun _ hk => hk.2) (.int .i64 a0_1)) (fun _ hk => hk.2) (.int .i64 a0_2)) (fun _ hk => hk.2) (.slice A0_3 l0_3.length c0_3)) (fun _ hk => hk.2) (.slice A0_4 l0_4.length c0_4)) (fun _ hk => hk.2) (.slice Ao74 x11_2.length co74)) (fun _ hk => hk.1.1.1), Kd.a0p (Kd.R_V (by (with_reducible repeat (first | apply Kd.a1e | apply Kd.a1f | apply Kd.a0y)); exact Kd.a2w (Kd.a1c (p := ⟨gb527, 5, none⟩) (Kd.a1c (p := ⟨gb527, 4, none⟩) (Kd.a1c (p := ⟨gb527, 3, none⟩) (Kd.a1c (p := ⟨gb527, 2, none⟩) (Kd.a1c (p := ⟨gb527, 1, none⟩) (Kd.a1c (p := ⟨gb527, 0, none⟩) (Kd.a1c (p := ⟨gb526, 5, none⟩) (Kd.a3d (Kd.a3d HO_11.out BK526.out (by decide)) BK527.out (by decide)) (fun _ hk => hk.1.2) (.slice Ao74 x11_2.length co74)) (fun _ hk => hk.2) (.int .i64 a0_0)) (fun _ hk => hk.2) (.int .i64 a0_1)) (fun _ hk => hk.2) (.int .i64 a0_2)) (fun _ hk => hk.2) (.slice A0_3 l0_3.length c0_3)) (fun _ hk => hk.2) (.slice A0_4 l0_4.length c0_4)) (fun _ hk => hk.2) (.slice Ao74 x11_2.length co74)) (fun _ hk => hk.1.1))) (fun k_ hk => by first | exact ⟨(.inr (hk.1)), hk.2⟩ | exact (.inr (hk))), qb_⟩
      ·rw [if_neg c35] at H
       exact absurd H (by simp)
     ·rw [if_neg c34] at H
      exact absurd H (by simp)
end Go.Proofs.Ytemnlgefngjliaa.Px
