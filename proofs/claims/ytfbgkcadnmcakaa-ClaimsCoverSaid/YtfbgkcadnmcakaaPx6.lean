/- Contracts of Go functions, printed. Conditions: as each theorem states. -/
import Derived.Test.YtfbgkcadnmcakaaPx0
import Derived.Test.YtfbgkcadnmcakaaPx5
namespace Go.Proofs.Ytfbgkcadnmcakaa.Px
open Go.Proofs.Ytfbgkcadnmcakaa.Given
open Go.RowKit Go.Proofs.YtfbgkcadnmcakaaW.PrintWords Go.Proofs.YtfbgkcadnmcakaaW.PrintLast Go.Proofs.YtfbgkcadnmcakaaW.PrintMore
attribute [local go_sem] a2w a2u a3d a3c a2q a2r a2x a2y
set_option linter.unusedVariables false
set_option linter.unusedSimpArgs false
mutual
def a0f.l0 : Nat → List (S26) → Int → Int → Int → Option ((List (S26)))
 | 0, _, _, _, _ => none
 | k + 1, x0, x1, x2, x8 => if x8 < x2 then (a0f.l1 k x0 x1 x2 x8 x8) else (some x0)
def a0f.l1 : Nat → List (S26) → Int → Int → Int → Int → Option ((List (S26)))
 | 0, _, _, _, _, _ => none
 | k + 1, x0, x1, x2, x8, x9 => if x9 > x1 then (if 0 ≤ x9 then (if x9 < (x0.length : Int) then (if 0 ≤ (wrap64 (x9 - 1)) then (if (wrap64 (x9 - 1)) < (x0.length : Int) then ((a2h.f ((a0c x0 x9).f0) ((a0c x0 x9).f1) ((a0c x0 x9).f2) ((a0c x0 x9).f3) ((a0c x0 (wrap64 (x9 - 1))).f0) ((a0c x0 (wrap64 (x9 - 1))).f1) ((a0c x0 (wrap64 (x9 - 1))).f2) ((a0c x0 (wrap64 (x9 - 1))).f3)).bind fun t139 => (if t139 < 0 then (a0f.l1 k ((x0.set (x9 : Int).toNat (⟨(a0c x0 (wrap64 (x9 - 1))).f0, (a0c x0 (wrap64 (x9 - 1))).f1, (a0c x0 (wrap64 (x9 - 1))).f2, (a0c x0 (wrap64 (x9 - 1))).f3⟩ : S26)).set ((wrap64 (x9 - 1)) : Int).toNat (⟨(a0c x0 x9).f0, (a0c x0 x9).f1, (a0c x0 x9).f2, (a0c x0 x9).f3⟩ : S26)) x1 x2 x8 (wrap64 (x9 - 1))) else (a0f.l0 k x0 x1 x2 (wrap64 (x8 + 1))))) else (none)) else (none)) else (none)) else (none)) else (a0f.l0 k x0 x1 x2 (wrap64 (x8 + 1)))
end
def a0f.f (k : Nat) (l0 : List (S26)) (a1 a2 : Int)  : Option ((List (S26))) := a0f.l0 k l0 a1 a2 (wrap64 (a1 + 1))
theorem a0f.a1k : ∀ k, (∀ y0 y1 y2 y3, LeO (a0f.l0 k y0 y1 y2 y3) (a0f.l0 (k + 1) y0 y1 y2 y3)) ∧ (∀ y0 y1 y2 y3 y4, LeO (a0f.l1 k y0 y1 y2 y3 y4) (a0f.l1 (k + 1) y0 y1 y2 y3 y4))
 | 0 => ⟨fun _ _ _ _ r h => by simp [a0f.l0] at h, fun _ _ _ _ _ r h => by simp [a0f.l1] at h⟩
 | k + 1 => by
  obtain ⟨ih0, ih1⟩ := a0f.a1k k
  refine ⟨?_, ?_⟩
  ·intro y0 y1 y2 y3
   unfold a0f.l0
   with_reducible (repeat' first | apply ih0 | apply ih1 | apply LeO.refl | apply LeO.none | apply LeO.ite | refine LeO.bind ?_ (fun _ => ?_))
  ·intro y0 y1 y2 y3 y4
   unfold a0f.l1
   with_reducible (repeat' first | apply ih0 | apply ih1 | apply LeO.refl | apply LeO.none | apply LeO.ite | refine LeO.bind ?_ (fun _ => ?_))
theorem a0f.mono : ∀ a0 a1 a2 k, LeO (a0f.f k a0 a1 a2) (a0f.f (k + 1) a0 a1 a2) := by
 intro a0 a1 a2 k
 obtain ⟨ih0, ih1⟩ := a0f.a1k k
 unfold a0f.f
 with_reducible (repeat' first | apply ih0 | apply ih1 | apply LeO.refl | apply LeO.none | apply LeO.ite | refine LeO.bind ?_ (fun _ => ?_))
def a0f.T4 : Bool × List (List Nat × List Nat) := (true, [([], []), ([], []), ([0, 1], [0, 1]), ([2], [2]), ([3], [3]), ([3], [3]), ([3], [3]), ([5, 6, 3], [3, 5, 6]), ([7, 3], [3, 7]), ([3], [3]), ([3], [3]), ([10, 3], [3, 10]), ([9, 11, 3], [3, 9, 11]), ([12, 3], [3, 12]), ([4, 8, 13, 3, 3], [3, 4, 8, 13]), ([14, 3], [3, 14]), ([3, 15], [3, 15])])
def a0f.B4 : List Nat := [0, 0, 3, 7, 15, 15, 15, 111, 239, 15, 15, 1039, 3599, 7695, 16383, 32767, 65535]
theorem a0f.tab4 : rtab .any (opsOf Try.f66 4) = a0f.T4 := by kernel_rfl
theorem a0f.a7a : a3w a0f.T4.2 a0f.B4 = true := by kernel_rfl
def a0f.T6 : Bool × List (List Nat × List Nat) := (true, [([], []), ([], []), ([], []), ([], []), ([3], [3]), ([], []), ([], []), ([6], [6]), ([5, 7], [5, 7]), ([8], [8]), ([], []), ([], []), ([10, 11], [10, 11]), ([12], [12]), ([0, 1, 0, 1, 5, 6, 7, 8, 9, 13], [0, 1]), ([14, 9, 0, 1, 5, 6, 7, 8, 9, 13], [9, 14]), ([2, 4, 0, 1, 2, 3, 4, 5, 6, 7, 8, 9, 10, 11, 12, 13, 14, 15], [2, 4]), ([16, 13, 15, 0, 1, 2, 3, 4, 5, 6, 7, 8, 9, 10, 11, 12, 13, 14, 15], [13, 16])])
def a0f.B6 : List Nat := [0, 0, 0, 0, 8, 0, 0, 64, 224, 480, 0, 0, 3072, 7168, 16355, 32739, 65535, 131071]
theorem a0f.tab6 : rtab .any (opsOf Try.f66 6) = a0f.T6 := by kernel_rfl
theorem a0f.b5n : a3w a0f.T6.2 a0f.B6 = true := by kernel_rfl
set_option maxHeartbeats 8000000 in
set_option maxRecDepth 100000 in
theorem a0f.calls (k : Nat) (P0_ : Nat → Prop) (u9000_ : Value) (l0 : List (S26)) (a1 a2 : Int)  (r : List (S26)) (w0 w : World) (hB : Below w0.heap.size w0 w) (ho0 : Kd.R k26 26 w w0.heap.size P0_ u9000_ l0) (h : a0f.f k l0 a1 a2 = some r) :
  Calls Try.prog 66 #[u9000_, .int .i64 a1, .int .i64 a2, .func (.func 44) #[] #[]] w fun e w' => e = .returned (.tuple #[]) ∧ Kd.R k26 26 w' w0.heap.size (fun k_ => (P0_ k_ ∨ w.heap.size ≤ k_)) u9000_ r ∧ Below w0.heap.size w0 w' ∧ Kept w w' (fun k_ => P0_ k_) := by
 have hu26 := Try.underlying26
 have HO0 := am_ (show Kd.R k26 26 w w0.heap.size (fun k_ => (P0_ k_ ∨ w.heap.size ≤ k_)) u9000_ l0 from Kd.a0z ho0 (fun k_ hk => (.inl hk)))
 have HK := am_ (Kept.refl w (fun k_ => P0_ k_))
 have HW0 := am_ hB.size
 have HB := am_ hB
 clear hB
 have H : (a0f.l0 k l0 a1 a2 (wrap64 (a1 + 1))) = some r := h
 clear h
 have H' := am_ H
 clear H
 go_enter Try.func66, Try.ntmps66
 go_wp2
 go_loopg [8] k (fun kq v8 w' => ∃ (x0_1 : List (S26)) (x8_1 : Int), v8 = .int .i64 x8_1 ∧ Aside0 (a0f.l0 kq x0_1 a1 a2 x8_1 = some r) ∧ Aside0 (kq ≤ k) ∧ Aside0 (Kd.R k26 26 w' w0.heap.size (fun k_ => (P0_ k_ ∨ w.heap.size ≤ k_)) u9000_ x0_1) ∧ Aside0 (Kept w w' (fun k_ => P0_ k_)) ∧ Aside0 (Below w0.heap.size w0 w'))
 case atStart => exact ⟨(l0), (wrap64 (a1 + 1)), qs_, H', ⟨Nat.le_refl _⟩, ⟨by (with_reducible repeat (first | apply Kd.a0n | apply Kd.a0o | apply Kd.a0m)); exact HO0.out⟩, ⟨by repeat (first | (with_reducible first | exact HK.out | apply Kept.alloc | apply Kept.drewN | apply Kept.drew) | exact HK.out)⟩, ⟨qb_⟩⟩
 case round =>
  clear H'
  try clear p2
  obtain ⟨x0_1, x8_1, rfl, HA, HK1, HO_0, HK, HB⟩ := hrel
  cases gk with
  | zero => exact absurd HA.out (by simp [a0f.l0])
  | succ k1 =>
   have H := HA.out
   clear HA
   simp only [a0f.l0] at H
   by_cases c5 : x8_1 < a2
   ·rw [if_pos c5] at H
    have c5b0 : decide (x8_1 < a2) = true := decide_eq_true c5
    clear c5
    have H' := am_ H
    clear H
    go_wp2
    go_loopg [9] k1 (fun kq v9 w' => ∃ (x0_2 : List (S26)) (x9_2 : Int), v9 = .int .i64 x9_2 ∧ Aside0 (a0f.l1 kq x0_2 a1 a2 x8_1 x9_2 = some r) ∧ Aside0 (kq ≤ k1) ∧ Aside0 (Kd.R k26 26 w' w0.heap.size (fun k_ => (P0_ k_ ∨ w.heap.size ≤ k_)) u9000_ x0_2) ∧ Aside0 (Kept w w' (fun k_ => P0_ k_)) ∧ Aside0 (Below w0.heap.size w0 w'))
    case atStart => exact ⟨(x0_1), (x8_1), qs_, H', ⟨Nat.le_refl _⟩, ⟨by (with_reducible repeat (first | apply Kd.a0n | apply Kd.a0o | apply Kd.a0m)); exact HO_0.out⟩, ⟨by repeat (first | (with_reducible first | exact HK.out | apply Kept.alloc | apply Kept.drewN | apply Kept.drew) | exact HK.out)⟩, ⟨qb_⟩⟩
    case round =>
     clear H'
     try clear p2
     try clear c5
     try clear c5b0
     try clear p2
     obtain ⟨x0_2, x9_2, rfl, HA, HK2, HO_0, HK, HB⟩ := hrel
     cases gk with
     | zero => exact absurd HA.out (by simp [a0f.l1])
     | succ k2 =>
      have H := HA.out
      clear HA
      simp only [a0f.l1] at H
      by_cases c6 : x9_2 > a1
      ·rw [if_pos c6] at H
       have c6b0 : decide (a1 < x9_2) = true := decide_eq_true c6
       clear c6
       by_cases c7 : 0 ≤ x9_2
       ·rw [if_pos c7] at H
        have c7b0 : decide (0 ≤ x9_2) = true := decide_eq_true c7
        clear c7
        by_cases c8 : x9_2 < (x0_2.length : Int)
        ·rw [if_pos c8] at H
         have c8b0 : decide (x9_2 < (x0_2.length : Int)) = true := decide_eq_true c8
         clear c8
         obtain ⟨ji9, hji9⟩ : ∃ j_ : Int, (wrap64 (x9_2 - 1)) = j_ := ⟨_, rfl⟩
         replace H : (if 0 ≤ (ji9) then (if (ji9) < (x0_2.length : Int) then ((a2h.f ((a0c x0_2 x9_2).f0) ((a0c x0_2 x9_2).f1) ((a0c x0_2 x9_2).f2) ((a0c x0_2 x9_2).f3) ((a0c x0_2 (ji9)).f0) ((a0c x0_2 (ji9)).f1) ((a0c x0_2 (ji9)).f2) ((a0c x0_2 (ji9)).f3)).bind fun t139 => (if t139 < 0 then (a0f.l1 k2 ((x0_2.set (x9_2 : Int).toNat (⟨(a0c x0_2 (ji9)).f0, (a0c x0_2 (ji9)).f1, (a0c x0_2 (ji9)).f2, (a0c x0_2 (ji9)).f3⟩ : S26)).set ((ji9) : Int).toNat (⟨(a0c x0_2 x9_2).f0, (a0c x0_2 x9_2).f1, (a0c x0_2 x9_2).f2, (a0c x0_2 x9_2).f3⟩ : S26)) a1 a2 x8_1 ji9) else (a0f.l0 k2 x0_2 a1 a2 (wrap64 (x8_1 + 1))))) else (none)) else (none)) = some r := by first | (rw [hji9] at H; exact H) | (simp only [hji9] at H ⊢; exact H)
         have hji9w : (IntKind.i64.wrap (x9_2 - 1)) = ji9 := (a3k _).trans hji9
         by_cases c10 : 0 ≤ (ji9)
         ·rw [if_pos c10] at H
          have c10b0 : decide (0 ≤ (ji9)) = true := decide_eq_true c10
          clear c10
          by_cases c11 : (ji9) < (x0_2.length : Int)
          ·rw [if_pos c11] at H
           have c11b0 : decide ((ji9) < (x0_2.length : Int)) = true := decide_eq_true c11
           clear c11
           replace H := bm_ H
           obtain ⟨t139, A120, H⟩ := H
           replace H : (if t139 < 0 then (a0f.l1 k2 ((x0_2.set (x9_2 : Int).toNat (⟨(a0c x0_2 (ji9)).f0, (a0c x0_2 (ji9)).f1, (a0c x0_2 (ji9)).f2, (a0c x0_2 (ji9)).f3⟩ : S26)).set ((ji9) : Int).toNat (⟨(a0c x0_2 x9_2).f0, (a0c x0_2 x9_2).f1, (a0c x0_2 x9_2).f2, (a0c x0_2 x9_2).f3⟩ : S26)) a1 a2 x8_1 ji9) else (a0f.l0 k2 x0_2 a1 a2 (wrap64 (x8_1 + 1)))) = some r := H
           have A12 := am_ A120
           clear A120
           by_cases c13 : t139 < 0
           ·rw [if_pos c13] at H
            have c13b0 : decide (t139 < 0) = true := decide_eq_true c13
            clear c13
            obtain ⟨y142, hy142⟩ : ∃ y_ : List (S26), y_ = (x0_2.set (x9_2 : Int).toNat (⟨(a0c x0_2 (ji9)).f0, (a0c x0_2 (ji9)).f1, (a0c x0_2 (ji9)).f2, (a0c x0_2 (ji9)).f3⟩ : S26)) := ⟨_, rfl⟩
            replace H : (a0f.l1 k2 (y142.set ((ji9) : Int).toNat (⟨(a0c x0_2 x9_2).f0, (a0c x0_2 x9_2).f1, (a0c x0_2 x9_2).f2, (a0c x0_2 x9_2).f3⟩ : S26)) a1 a2 x8_1 ji9) = some r := by first | (rw [hy142]; with_reducible exact H) | (have H2_ := (Option.bind_some _ _).symm.trans H; rw [hy142]; with_reducible exact H2_) | (have H2_ := (Option.bind_some _ _).symm.trans H; with_reducible exact H2_) | with_reducible exact H | (rw [hy142]; exact H) | exact H
            have Ny142 := am_ hy142
            clear hy142
            obtain ⟨y143, hy143⟩ : ∃ y_ : List (S26), y_ = (y142.set ((ji9) : Int).toNat (⟨(a0c x0_2 x9_2).f0, (a0c x0_2 x9_2).f1, (a0c x0_2 x9_2).f2, (a0c x0_2 x9_2).f3⟩ : S26)) := ⟨_, rfl⟩
            replace H : (a0f.l1 k2 y143 a1 a2 x8_1 ji9) = some r := by first | (rw [hy143]; with_reducible exact H) | (have H2_ := (Option.bind_some _ _).symm.trans H; rw [hy143]; with_reducible exact H2_) | (have H2_ := (Option.bind_some _ _).symm.trans H; with_reducible exact H2_) | with_reducible exact H | (rw [hy143]; exact H) | exact H
            have Ny143 := am_ hy143
            clear hy143
            have H' := am_ H
            clear H
            try go_wp2
            replace HO_0 := am_ (Kd.a0m HO_0.out)
            replace HK := am_ (Kept.drew HK.out)
            replace HB := am_ (ld_ HB.out)
            obtain ⟨Ao17, co17, eo17⟩ := Kd.a1v HO_0.out
            (first | subst eo17 | (injection eo17 with f1_ f2_ f3_; have f4_ := f1_.symm; have f5_ := f3_.symm; clear f1_ f2_ f3_; subst f4_; subst f5_))
            have p137 : 0 ≤ (x9_2 : Int) := ot_
            have q137 : x9_2 < (x0_2.length : Int) := ot_
            obtain ⟨ad137, e137, hx137_0, hx137_1, hx137_2, hx137_3⟩ := a3i (Kd.a0p HO_0.out).2.2 x9_2 p137 q137
            cases e137
            replace p137 := eq_true p137
            replace q137 := eq_true q137
            have p138 : 0 ≤ ((ji9) : Int) := ot_
            have q138 : (ji9) < (x0_2.length : Int) := ot_
            obtain ⟨ad138, e138, hx138_0, hx138_1, hx138_2, hx138_3⟩ := a3i (Kd.a0p HO_0.out).2.2 (ji9) p138 q138
            obtain rfl : ad137 = ad138 := (by injection e138)
            replace p138 := eq_true p138
            replace q138 := eq_true q138
            refine a3g (n := 17) (S := fun w' => w'.cell? (ad137.add ((x9_2).toNat * 4)) = some (.int .i64 ((a0c x0_2 x9_2).f0)) ∧ w'.cell? ⟨(ad137.add ((x9_2).toNat * 4)).block, (ad137.add ((x9_2).toNat * 4)).off + 1, none⟩ = some (.int .i64 ((a0c x0_2 x9_2).f1)) ∧ w'.cell? ⟨(ad137.add ((x9_2).toNat * 4)).block, (ad137.add ((x9_2).toNat * 4)).off + 2, none⟩ = some (.int .i64 ((a0c x0_2 x9_2).f2)) ∧ w'.cell? ⟨(ad137.add ((x9_2).toNat * 4)).block, (ad137.add ((x9_2).toNat * 4)).off + 3, none⟩ = some (.int .i64 ((a0c x0_2 x9_2).f3)) ∧ w'.cell? (ad137.add (((ji9)).toNat * 4)) = some (.int .i64 ((a0c x0_2 (ji9)).f0)) ∧ w'.cell? ⟨(ad137.add (((ji9)).toNat * 4)).block, (ad137.add (((ji9)).toNat * 4)).off + 1, none⟩ = some (.int .i64 ((a0c x0_2 (ji9)).f1)) ∧ w'.cell? ⟨(ad137.add (((ji9)).toNat * 4)).block, (ad137.add (((ji9)).toNat * 4)).off + 2, none⟩ = some (.int .i64 ((a0c x0_2 (ji9)).f2)) ∧ w'.cell? ⟨(ad137.add (((ji9)).toNat * 4)).block, (ad137.add (((ji9)).toNat * 4)).off + 3, none⟩ = some (.int .i64 ((a0c x0_2 (ji9)).f3))) (ds := []) #[i_,i_,i_,i_,i_,i_,i_,i_,i_,i_,i_,i_,i_,i_,i_,i_,i_] (by kernel_rfl) rfl rfl ⟨hx137_0, hx137_1, hx137_2, hx137_3, hx138_0, hx138_1, hx138_2, hx138_3⟩ (fun hHeld => ?_); refine a2l a0f.tab4 a0f.a7a (fun HT_ HW_ => ?_)
            generalize wr.drew = w16 at HO_0 HK HB hx137_0 hx137_1 hx137_2 hx137_3 hx138_0 hx138_1 hx138_2 hx138_3 hHeld ⊢
            refine qpu_ 0 (some 18) #[o_,i_,i_,i_,i_,i_,i_,i_,i_,i_,i_,i_,i_,i_,i_,i_,i_] ?_
            refine qpu_ 1 (some 19) #[o_,o_,i_,i_,i_,i_,i_,i_,i_,i_,i_,i_,i_,i_,i_,i_,i_] ?_
            refine qpu_ 2 (some 20) #[o_,o_,o_,i_,i_,i_,i_,i_,i_,i_,i_,i_,i_,i_,i_,i_,i_] ?_
            refine qpu_ 3 (some 21) #[o_,o_,o_,o_,i_,i_,i_,i_,i_,i_,i_,i_,i_,i_,i_,i_,i_] ?_
            refine qpu_ 4 (some 22) #[o_,o_,o_,o_,o_,i_,i_,i_,i_,i_,i_,i_,i_,i_,i_,i_,i_] ?_
            refine qpu_ 5 (some 23) #[o_,o_,o_,o_,o_,o_,i_,i_,i_,i_,i_,i_,i_,i_,i_,i_,i_] ?_
            refine qpu_ 6 (some 24) #[o_,o_,o_,o_,o_,o_,o_,i_,i_,i_,i_,i_,i_,i_,i_,i_,i_] ?_
            refine qpu_ 7 (some 25) #[o_,o_,o_,o_,o_,o_,o_,o_,i_,i_,i_,i_,i_,i_,i_,i_,i_] ?_
            refine qpu_ 9 (some 27) #[o_,o_,o_,o_,o_,o_,o_,o_,i_,o_,i_,i_,i_,i_,i_,i_,i_] ?_
            refine qpu_ 10 (some 28) #[o_,o_,o_,o_,o_,o_,o_,o_,i_,o_,o_,i_,i_,i_,i_,i_,i_] ?_
            refine qpu_ 11 (some 29) #[o_,o_,o_,o_,o_,o_,o_,o_,i_,o_,o_,o_,i_,i_,i_,i_,i_] ?_
            refine qpu_ 12 (some 30) #[o_,o_,o_,o_,o_,o_,o_,o_,i_,o_,o_,o_,o_,i_,i_,i_,i_] ?_
            refine a2g (i := 8) (N := some 26) (v := ?_) (a' := ?_) #[o_,o_,o_,o_,o_,o_,o_,o_,o_,o_,o_,o_,o_,i_,i_,i_,i_] rfl rfl (a1r HT_.out HW_.out (by kernel_rfl)) (fun _ _ _ h => h) (Or.inl ⟨by rfl, ?_⟩) hHeld ?_ ?_
            rotate_left
            ·rintro w' ⟨s0, s1, s2, s3, s4, s5, s6, s7⟩
             go_simp
             with_reducible rfl
            rotate_left
            ·exact qp_
            refine a2g (i := 13) (N := some 31) (v := ?_) (a' := ?_) #[o_,o_,o_,o_,o_,o_,o_,o_,o_,o_,o_,o_,o_,o_,i_,i_,i_] rfl rfl (a1r HT_.out HW_.out (by kernel_rfl)) (fun _ _ _ h => h) (Or.inl ⟨by rfl, ?_⟩) hHeld ?_ ?_
            rotate_left
            ·rintro w' ⟨s0, s1, s2, s3, s4, s5, s6, s7⟩
             go_simp
             with_reducible rfl
            rotate_left
            ·exact qp_
            refine one_ (i := 14) (N := some 32) #[o_,o_,o_,o_,o_,o_,o_,o_,o_,o_,o_,o_,o_,o_,o_,i_,i_] rfl rfl (a3h HT_.out (by kernel_rfl)) (by decide) (fun K hK => ?_)
            refine a5r Try.func44 (by kernel_rfl) rfl #[.agg #[.int .i64 ((a0c x0_2 x9_2).f0), .int .i64 ((a0c x0_2 x9_2).f1), .int .i64 ((a0c x0_2 x9_2).f2), .int .i64 ((a0c x0_2 x9_2).f3)], .agg #[.int .i64 ((a0c x0_2 (ji9)).f0), .int .i64 ((a0c x0_2 (ji9)).f1), .int .i64 ((a0c x0_2 (ji9)).f2), .int .i64 ((a0c x0_2 (ji9)).f3)]] (by rfl) rfl rfl (by rfl) (by (try simp only [List.map_toArray, List.map_cons, List.map_nil]); first | done | (simp only [hji9]; rfl) | rfl | (simp only [List.length_drop, List.length_take]; rfl)) ?_
            with_reducible refine (a2h.calls ((a0c x0_2 x9_2).f0) ((a0c x0_2 x9_2).f1) ((a0c x0_2 x9_2).f2) ((a0c x0_2 x9_2).f3) ((a0c x0_2 (ji9)).f0) ((a0c x0_2 (ji9)).f1) ((a0c x0_2 (ji9)).f2) ((a0c x0_2 (ji9)).f3) t139 _ A12.out).mono ?_
            rintro e w18 ⟨rfl, hb⟩
            have HS0_ := (hb.cell (World.block_lt_of_cell? _ _ (hHeld.1))).trans (hHeld.1)
            have HS1_ := (hb.cell (World.block_lt_of_cell? _ _ (hHeld.2.1))).trans (hHeld.2.1)
            have HS2_ := (hb.cell (World.block_lt_of_cell? _ _ (hHeld.2.2.1))).trans (hHeld.2.2.1)
            have HS3_ := (hb.cell (World.block_lt_of_cell? _ _ (hHeld.2.2.2.1))).trans (hHeld.2.2.2.1)
            have HS4_ := (hb.cell (World.block_lt_of_cell? _ _ (hHeld.2.2.2.2.1))).trans (hHeld.2.2.2.2.1)
            have HS5_ := (hb.cell (World.block_lt_of_cell? _ _ (hHeld.2.2.2.2.2.1))).trans (hHeld.2.2.2.2.2.1)
            have HS6_ := (hb.cell (World.block_lt_of_cell? _ _ (hHeld.2.2.2.2.2.2.1))).trans (hHeld.2.2.2.2.2.2.1)
            have HS7_ := (hb.cell (World.block_lt_of_cell? _ _ (hHeld.2.2.2.2.2.2.2))).trans (hHeld.2.2.2.2.2.2.2)
            refine ⟨_, rfl, ?_⟩
            replace HO_0 := qrb_ HO_0 hb
            replace HK := am_ (Kept.below (S := (fun k_ => P0_ k_)) (by repeat (first | (with_reducible first | exact HK.out | apply Kept.alloc | apply Kept.drewN | apply Kept.drew) | exact HK.out)) hb)
            replace HB := qbs_ hb
            (try clear hb)
            (try clear hb2)
            (try clear hk)
            (try clear hi)
            refine hK.out _ _ ⟨HS0_, HS1_, HS2_, HS3_, HS4_, HS5_, HS6_, HS7_⟩ (fun hHeld => ?_)
            clear hK K
            refine a4b (a' := ?_) ?_ ?_
            rotate_left
            ·show Act.put _ (some 32) _ = _
             exact qp_
            refine qpu_ 15 (some 33) #[o_,o_,o_,o_,o_,o_,o_,o_,o_,o_,o_,o_,o_,o_,o_,o_,i_] ?_
            refine qpu_ 16 (some 34) #[o_,o_,o_,o_,o_,o_,o_,o_,o_,o_,o_,o_,o_,o_,o_,o_,o_] ?_
            refine a3o (a3b HT_.out (by kernel_rfl)) ?_
            try go_wp2
            replace HO_0 := am_ (Kd.a0m HO_0.out)
            replace HK := am_ (Kept.drew HK.out)
            replace HB := am_ (ld_ HB.out)
            have p140 : 0 ≤ ((ji9) : Int) := ot_
            have q140 : (ji9) < (x0_2.length : Int) := ot_
            obtain ⟨ad140, e140, hx140_0, hx140_1, hx140_2, hx140_3⟩ := a3i (Kd.a0p HO_0.out).2.2 (ji9) p140 q140
            obtain rfl : ad137 = ad140 := (by injection e140)
            replace p140 := eq_true p140
            replace q140 := eq_true q140
            have p141 : 0 ≤ (x9_2 : Int) := ot_
            have q141 : x9_2 < (x0_2.length : Int) := ot_
            obtain ⟨ad141, e141, hx141_0, hx141_1, hx141_2, hx141_3⟩ := a3i (Kd.a0p HO_0.out).2.2 x9_2 p141 q141
            obtain rfl : ad137 = ad141 := (by injection e141)
            replace p141 := eq_true p141
            replace q141 := eq_true q141
            have p14 : 0 ≤ (x9_2 : Int) := ot_
            have q14 : (x9_2 : Int) < ((x0_2.length : Int) : Int) := ot_
            obtain ⟨go14, co14, eo14, gb14, gl14, cl14, HG14⟩ := Kd.a7j HO_0.out (by omega)
            (first | cases eo14 | (injection eo14 with ea_ en_ ec_; (first | subst ea_ | (injection ea_ with ea_; subst ea_)); subst ec_; clear en_))
            have GB14 := am_ gb14
            have GG14 := am_ HG14
            clear gb14 gl14 HG14
            have HMgo14 := am_ (show (P0_ go14 ∨ w.heap.size ≤ go14) from (HO_0.out.1 _ rfl))
            (first | simp only [add_plain] at hx137_0 | skip)
            (first | simp only [add_plain] at hx137_1 | skip)
            (first | simp only [add_plain] at hx137_2 | skip)
            (first | simp only [add_plain] at hx137_3 | skip)
            (first | simp only [add_plain] at hx138_0 | skip)
            (first | simp only [add_plain] at hx138_1 | skip)
            (first | simp only [add_plain] at hx138_2 | skip)
            (first | simp only [add_plain] at hx138_3 | skip)
            (first | simp only [add_plain] at hx140_0 | skip)
            (first | simp only [add_plain] at hx140_1 | skip)
            (first | simp only [add_plain] at hx140_2 | skip)
            (first | simp only [add_plain] at hx140_3 | skip)
            (first | simp only [add_plain] at hx141_0 | skip)
            (first | simp only [add_plain] at hx141_1 | skip)
            (first | simp only [add_plain] at hx141_2 | skip)
            (first | simp only [add_plain] at hx141_3 | skip)
            obtain ⟨ce14, hcl14, hM14, hcc14, hfr14⟩ := Kd.a3x HO_0.out z26 (x9_2 : Int) p14 q14
            obtain rfl := a3l hM14
            have hx14_0 : World.cell? _ ⟨go14, (x9_2 : Int).toNat * 4, none⟩ = some (.int .i64 ((a0c x0_2 x9_2).f0)) := hcc14 0 _ rfl
            have hx14_1 : World.cell? _ ⟨go14, (x9_2 : Int).toNat * 4 + 1, none⟩ = some (.int .i64 ((a0c x0_2 x9_2).f1)) := hcc14 1 _ rfl
            have hx14_2 : World.cell? _ ⟨go14, (x9_2 : Int).toNat * 4 + 2, none⟩ = some (.int .i64 ((a0c x0_2 x9_2).f2)) := hcc14 2 _ rfl
            have hx14_3 : World.cell? _ ⟨go14, (x9_2 : Int).toNat * 4 + 3, none⟩ = some (.int .i64 ((a0c x0_2 x9_2).f3)) := hcc14 3 _ rfl
            have hf14_0 : World.frozen? _ ⟨go14, (x9_2 : Int).toNat * 4, none⟩ = false := hfr14 0
            have hf14_1 : World.frozen? _ ⟨go14, (x9_2 : Int).toNat * 4 + 1, none⟩ = false := hfr14 1
            have hf14_2 : World.frozen? _ ⟨go14, (x9_2 : Int).toNat * 4 + 2, none⟩ = false := hfr14 2
            have hf14_3 : World.frozen? _ ⟨go14, (x9_2 : Int).toNat * 4 + 3, none⟩ = false := hfr14 3
            clear hcl14 hcc14 hfr14 hM14
            replace p14 := eq_true p14
            replace q14 := eq_true q14
            obtain ⟨ce20, hcl20, hM20, hcc20, hfr20⟩ := Kd.a3x HO_0.out z26 (x9_2 : Int) (ot_) (by have h_ : (x9_2 : Int) < ((x0_2.length : Int) : Int) := ot_; first | exact h_ | (have e_ := (Kd.a0p HO_0.out).1; omega) | simpa using h_)
            obtain rfl := a3l hM20
            have HP20 := (Kd.a5y HO_0.out (x9_2 : Int) (ot_) (by have h_ : (x9_2 : Int) < ((x0_2.length : Int) : Int) := ot_; first | exact h_ | (have e_ := (Kd.a0p HO_0.out).1; omega) | simpa using h_) (seg := [.int .i64 ((a0c x0_2 (ji9)).f0), .int .i64 ((a0c x0_2 (ji9)).f1), .int .i64 ((a0c x0_2 (ji9)).f2), .int .i64 ((a0c x0_2 (ji9)).f3)]) (j := 0) hcl20 hcc20 (show 4 ≤ 4 from by decide) (x' := (⟨(a0c x0_2 (ji9)).f0, (a0c x0_2 (ji9)).f1, (a0c x0_2 (ji9)).f2, (a0c x0_2 (ji9)).f3⟩ : S26)) (a4w _ _ _ (⟨(a0c x0_2 (ji9)).f0, (a0c x0_2 (ji9)).f1, (a0c x0_2 (ji9)).f2, (a0c x0_2 (ji9)).f3⟩ : S26) ) (fun _ hk => hk)).1
            rw [← Ny142.out] at HP20
            have HQ20 := am_ HP20
            clear hcl20 hcc20 hfr20 hM20 HP20
            have p15 : 0 ≤ ((ji9) : Int) := ot_
            have q15 : ((ji9) : Int) < ((x0_2.length : Int) : Int) := ot_
            obtain ⟨ce15, hcl15, hM15, hcc15, hfr15⟩ := Kd.a3x HQ20.out z26 ((ji9) : Int) p15 q15
            obtain rfl := a3l hM15
            have hx15_0 : World.cell? _ ⟨go14, ((ji9) : Int).toNat * 4, none⟩ = some (.int .i64 ((a0c y142 (ji9)).f0)) := hcc15 0 _ rfl
            have hx15_1 : World.cell? _ ⟨go14, ((ji9) : Int).toNat * 4 + 1, none⟩ = some (.int .i64 ((a0c y142 (ji9)).f1)) := hcc15 1 _ rfl
            have hx15_2 : World.cell? _ ⟨go14, ((ji9) : Int).toNat * 4 + 2, none⟩ = some (.int .i64 ((a0c y142 (ji9)).f2)) := hcc15 2 _ rfl
            have hx15_3 : World.cell? _ ⟨go14, ((ji9) : Int).toNat * 4 + 3, none⟩ = some (.int .i64 ((a0c y142 (ji9)).f3)) := hcc15 3 _ rfl
            have hf15_0 : World.frozen? _ ⟨go14, ((ji9) : Int).toNat * 4, none⟩ = false := hfr15 0
            have hf15_1 : World.frozen? _ ⟨go14, ((ji9) : Int).toNat * 4 + 1, none⟩ = false := hfr15 1
            have hf15_2 : World.frozen? _ ⟨go14, ((ji9) : Int).toNat * 4 + 2, none⟩ = false := hfr15 2
            have hf15_3 : World.frozen? _ ⟨go14, ((ji9) : Int).toNat * 4 + 3, none⟩ = false := hfr15 3
            clear hcl15 hcc15 hfr15 hM15
            replace p15 := eq_true p15
            replace q15 := eq_true q15
            obtain ⟨ce21, hcl21, hM21, hcc21, hfr21⟩ := Kd.a3x HQ20.out z26 ((ji9) : Int) (ot_) (by have h_ : ((ji9) : Int) < ((x0_2.length : Int) : Int) := ot_; first | exact h_ | (have e_ := (Kd.a0p HO_0.out).1; omega) | simpa using h_)
            obtain rfl := a3l hM21
            have HP21 := (Kd.a5y HQ20.out ((ji9) : Int) (ot_) (by have h_ : ((ji9) : Int) < ((x0_2.length : Int) : Int) := ot_; first | exact h_ | (have e_ := (Kd.a0p HO_0.out).1; omega) | simpa using h_) (seg := [.int .i64 ((a0c x0_2 x9_2).f0), .int .i64 ((a0c x0_2 x9_2).f1), .int .i64 ((a0c x0_2 x9_2).f2), .int .i64 ((a0c x0_2 x9_2).f3)]) (j := 0) hcl21 hcc21 (show 4 ≤ 4 from by decide) (x' := (⟨(a0c x0_2 x9_2).f0, (a0c x0_2 x9_2).f1, (a0c x0_2 x9_2).f2, (a0c x0_2 x9_2).f3⟩ : S26)) (a4w _ _ _ (⟨(a0c x0_2 x9_2).f0, (a0c x0_2 x9_2).f1, (a0c x0_2 x9_2).f2, (a0c x0_2 x9_2).f3⟩ : S26) ) (fun _ hk => hk)).1
            rw [← Ny143.out] at HP21
            have HQ21 := am_ HP21
            clear hcl21 hcc21 hfr21 hM21 HP21
            refine a3g (n := 18) (S := fun w' => w'.cell? ⟨go14, (((ji9)).toNat * 4), none⟩ = some (.int .i64 ((a0c x0_2 (ji9)).f0)) ∧ w'.cell? ⟨go14, (((ji9)).toNat * 4) + 1, none⟩ = some (.int .i64 ((a0c x0_2 (ji9)).f1)) ∧ w'.cell? ⟨go14, (((ji9)).toNat * 4) + 2, none⟩ = some (.int .i64 ((a0c x0_2 (ji9)).f2)) ∧ w'.cell? ⟨go14, (((ji9)).toNat * 4) + 3, none⟩ = some (.int .i64 ((a0c x0_2 (ji9)).f3)) ∧ w'.cell? ⟨go14, ((x9_2).toNat * 4), none⟩ = some (.int .i64 ((a0c x0_2 x9_2).f0)) ∧ w'.cell? ⟨go14, ((x9_2).toNat * 4) + 1, none⟩ = some (.int .i64 ((a0c x0_2 x9_2).f1)) ∧ w'.cell? ⟨go14, ((x9_2).toNat * 4) + 2, none⟩ = some (.int .i64 ((a0c x0_2 x9_2).f2)) ∧ w'.cell? ⟨go14, ((x9_2).toNat * 4) + 3, none⟩ = some (.int .i64 ((a0c x0_2 x9_2).f3))) (ds := [15, 17]) #[i_,i_,i_,i_,i_,i_,i_,i_,i_,i_,i_,i_,i_,i_,i_,i_,i_,i_] (by kernel_rfl) rfl rfl ⟨hx140_0, hx140_1, hx140_2, hx140_3, hx141_0, hx141_1, hx141_2, hx141_3⟩ (fun hHeld => ?_); refine a2l a0f.tab6 a0f.b5n (fun HT_ HW_ => ?_)
            generalize w18.drew = w19 at HO_0 HK HB GG14 HQ20 HQ21 hf14_0 hf14_1 hf14_2 hf14_3 hf15_0 hf15_1 hf15_2 hf15_3 hx137_0 hx137_1 hx137_2 hx137_3 hx138_0 hx138_1 hx138_2 hx138_3 hx140_0 hx140_1 hx140_2 hx140_3 hx141_0 hx141_1 hx141_2 hx141_3 hx14_0 hx14_1 hx14_2 hx14_3 hx15_0 hx15_1 hx15_2 hx15_3 hHeld ⊢
            refine qpu_ 0 (some 37) #[o_,i_,i_,i_,i_,i_,i_,i_,i_,i_,i_,i_,i_,i_,i_,i_,i_,i_] ?_
            refine qpu_ 1 (some 38) #[o_,o_,i_,i_,i_,i_,i_,i_,i_,i_,i_,i_,i_,i_,i_,i_,i_,i_] ?_
            refine qpu_ 2 (some 39) #[o_,o_,o_,i_,i_,i_,i_,i_,i_,i_,i_,i_,i_,i_,i_,i_,i_,i_] ?_
            refine qpu_ 3 (some 40) #[o_,o_,o_,o_,i_,i_,i_,i_,i_,i_,i_,i_,i_,i_,i_,i_,i_,i_] ?_
            refine qpu_ 4 (some 41) #[o_,o_,o_,o_,o_,i_,i_,i_,i_,i_,i_,i_,i_,i_,i_,i_,i_,i_] ?_
            refine qpu_ 5 (some 42) #[o_,o_,o_,o_,o_,o_,i_,i_,i_,i_,i_,i_,i_,i_,i_,i_,i_,i_] ?_
            refine qpu_ 6 (some 43) #[o_,o_,o_,o_,o_,o_,o_,i_,i_,i_,i_,i_,i_,i_,i_,i_,i_,i_] ?_
            refine qpu_ 7 (some 44) #[o_,o_,o_,o_,o_,o_,o_,o_,i_,i_,i_,i_,i_,i_,i_,i_,i_,i_] ?_
            refine qpu_ 8 (some 45) #[o_,o_,o_,o_,o_,o_,o_,o_,o_,i_,i_,i_,i_,i_,i_,i_,i_,i_] ?_
            refine qpu_ 10 (some 47) #[o_,o_,o_,o_,o_,o_,o_,o_,o_,i_,o_,i_,i_,i_,i_,i_,i_,i_] ?_
            refine qpu_ 11 (some 48) #[o_,o_,o_,o_,o_,o_,o_,o_,o_,i_,o_,o_,i_,i_,i_,i_,i_,i_] ?_
            refine qpu_ 12 (some 49) #[o_,o_,o_,o_,o_,o_,o_,o_,o_,i_,o_,o_,o_,i_,i_,i_,i_,i_] ?_
            refine a2g (i := 9) (N := some 46) (v := ?_) (a' := ?_) #[o_,o_,o_,o_,o_,o_,o_,o_,o_,o_,o_,o_,o_,i_,i_,i_,i_,i_] rfl rfl (a1r HT_.out HW_.out (by kernel_rfl)) (fun _ _ _ h => h) (Or.inl ⟨by rfl, ?_⟩) hHeld ?_ ?_
            rotate_left
            ·rintro w' ⟨s0, s1, s2, s3, s4, s5, s6, s7⟩
             go_simp
             with_reducible rfl
            rotate_left
            ·exact qp_
            refine a2g (i := 13) (N := some 50) (v := ?_) (a' := ?_) #[o_,o_,o_,o_,o_,o_,o_,o_,o_,o_,o_,o_,o_,o_,i_,i_,i_,i_] rfl rfl (a1r HT_.out HW_.out (by kernel_rfl)) (fun _ _ _ h => h) (Or.inl ⟨by rfl, ?_⟩) hHeld ?_ ?_
            rotate_left
            ·rintro w' ⟨s0, s1, s2, s3, s4, s5, s6, s7⟩
             go_simp
             with_reducible rfl
            rotate_left
            ·exact qp_
            refine qpu_ 14 (some 51) #[o_,o_,o_,o_,o_,o_,o_,o_,o_,o_,o_,o_,o_,o_,o_,i_,i_,i_] ?_
            refine a6k (i := 15) (N := none) #[o_,o_,o_,o_,o_,o_,o_,o_,o_,o_,o_,o_,o_,o_,o_,o_,i_,i_] rfl rfl (a3h HT_.out (by kernel_rfl)) (by decide) (fun K hK => ?_)
            refine a6l (w1 := ?_) (by rfl) rfl ?_ ?_
            rotate_left
            ·go_simp
             rfl
            refine hK.out _ _ ?_
            clear hK K
            obtain ⟨ww_, hWW_⟩ : ∃ w_, World.setCells w19 go14 ((x9_2 : Int).toNat * k26.sz + 0) [.int .i64 ((a0c x0_2 (ji9)).f0), .int .i64 ((a0c x0_2 (ji9)).f1), .int .i64 ((a0c x0_2 (ji9)).f2), .int .i64 ((a0c x0_2 (ji9)).f3)] = w_ := ⟨_, rfl⟩
            rw [hWW_] at hx15_0 hx15_1 hx15_2 hx15_3 hf15_0 hf15_1 hf15_2 hf15_3
            replace HQ20 := HQ20.out
            replace HQ21 := HQ21.out
            rw [hWW_] at HQ20 HQ21
            replace HQ20 := am_ HQ20
            replace HQ21 := am_ HQ21
            replace hWW_ : (World.setCell (World.setCell (World.setCell (World.setCell w19 ⟨go14, ((x9_2 : Int)).toNat * 4, none⟩ (.int .i64 ((a0c x0_2 (ji9)).f0))) ⟨go14, ((x9_2 : Int)).toNat * 4 + 1, none⟩ (.int .i64 ((a0c x0_2 (ji9)).f1))) ⟨go14, ((x9_2 : Int)).toNat * 4 + 2, none⟩ (.int .i64 ((a0c x0_2 (ji9)).f2))) ⟨go14, ((x9_2 : Int)).toNat * 4 + 3, none⟩ (.int .i64 ((a0c x0_2 (ji9)).f3))) = ww_ := hWW_
            rw [hWW_]
            refine qpu_ 16 (some 52) #[o_,o_,o_,o_,o_,o_,o_,o_,o_,o_,o_,o_,o_,o_,o_,o_,o_,i_] ?_
            refine a6k (i := 17) (N := none) #[o_,o_,o_,o_,o_,o_,o_,o_,o_,o_,o_,o_,o_,o_,o_,o_,o_,o_] rfl rfl (a3h HT_.out (by kernel_rfl)) (by decide) (fun K hK => ?_)
            refine a6l (w1 := ?_) (by rfl) rfl ?_ ?_
            rotate_left
            ·go_simp
             rfl
            refine hK.out _ _ ?_
            clear hK K
            subst hWW_
            refine a3o (a3b HT_.out (by kernel_rfl)) ?_
            try go_wp2
            go_roundg k2
            case measure => have := HK1.out; have := HK2.out; omega
            case rel => exact ⟨(y143), (ji9), (by first | rfl | (simp; done) | (simp only [← hji9] <;> (first | rfl | simp)) | (simp [*]; done)), H', ⟨by have := HK1.out; have := HK2.out; omega⟩, ⟨by (with_reducible repeat (first | apply Kd.a0n | apply Kd.a0o | apply Kd.a0m)); exact HQ21.out⟩, ⟨by repeat (first | (with_reducible first | exact HK.out | apply Kept.alloc | apply Kept.drewN | apply Kept.drew | refine Kept.setCell ?_ HMgo14.out _ | refine Kept.setCell ?_ HMgo14.out _ | refine Kept.setCell ?_ HMgo14.out _ | refine Kept.setCell ?_ HMgo14.out _ | refine Kept.setCell ?_ HMgo14.out _ | refine Kept.setCell ?_ HMgo14.out _ | refine Kept.setCell ?_ HMgo14.out _ | refine Kept.setCell ?_ HMgo14.out _) | exact HK.out)⟩, ⟨by repeat (first | (with_reducible first | exact HB.out | apply la_ | apply ln_ | apply ld_ | refine ls_ ?_ GB14.out | refine ls_ ?_ GB14.out | refine ls_ ?_ GB14.out | refine ls_ ?_ GB14.out | refine ls_ ?_ GB14.out | refine ls_ ?_ GB14.out | refine ls_ ?_ GB14.out | refine ls_ ?_ GB14.out) | exact HB.out)⟩⟩
           ·rw [if_neg c13] at H
            have c13b0 : decide (t139 < 0) = false := decide_eq_false c13
            clear c13
            have H' := am_ H
            clear H
            try go_wp2
            replace HO_0 := am_ (Kd.a0m HO_0.out)
            replace HK := am_ (Kept.drew HK.out)
            replace HB := am_ (ld_ HB.out)
            obtain ⟨Ao23, co23, eo23⟩ := Kd.a1v HO_0.out
            (first | subst eo23 | (injection eo23 with f1_ f2_ f3_; have f4_ := f1_.symm; have f5_ := f3_.symm; clear f1_ f2_ f3_; subst f4_; subst f5_))
            have p137 : 0 ≤ (x9_2 : Int) := ot_
            have q137 : x9_2 < (x0_2.length : Int) := ot_
            obtain ⟨ad137, e137, hx137_0, hx137_1, hx137_2, hx137_3⟩ := a3i (Kd.a0p HO_0.out).2.2 x9_2 p137 q137
            cases e137
            replace p137 := eq_true p137
            replace q137 := eq_true q137
            have p138 : 0 ≤ ((ji9) : Int) := ot_
            have q138 : (ji9) < (x0_2.length : Int) := ot_
            obtain ⟨ad138, e138, hx138_0, hx138_1, hx138_2, hx138_3⟩ := a3i (Kd.a0p HO_0.out).2.2 (ji9) p138 q138
            obtain rfl : ad137 = ad138 := (by injection e138)
            replace p138 := eq_true p138
            replace q138 := eq_true q138
            refine a3g (n := 17) (S := fun w' => w'.cell? (ad137.add ((x9_2).toNat * 4)) = some (.int .i64 ((a0c x0_2 x9_2).f0)) ∧ w'.cell? ⟨(ad137.add ((x9_2).toNat * 4)).block, (ad137.add ((x9_2).toNat * 4)).off + 1, none⟩ = some (.int .i64 ((a0c x0_2 x9_2).f1)) ∧ w'.cell? ⟨(ad137.add ((x9_2).toNat * 4)).block, (ad137.add ((x9_2).toNat * 4)).off + 2, none⟩ = some (.int .i64 ((a0c x0_2 x9_2).f2)) ∧ w'.cell? ⟨(ad137.add ((x9_2).toNat * 4)).block, (ad137.add ((x9_2).toNat * 4)).off + 3, none⟩ = some (.int .i64 ((a0c x0_2 x9_2).f3)) ∧ w'.cell? (ad137.add (((ji9)).toNat * 4)) = some (.int .i64 ((a0c x0_2 (ji9)).f0)) ∧ w'.cell? ⟨(ad137.add (((ji9)).toNat * 4)).block, (ad137.add (((ji9)).toNat * 4)).off + 1, none⟩ = some (.int .i64 ((a0c x0_2 (ji9)).f1)) ∧ w'.cell? ⟨(ad137.add (((ji9)).toNat * 4)).block, (ad137.add (((ji9)).toNat * 4)).off + 2, none⟩ = some (.int .i64 ((a0c x0_2 (ji9)).f2)) ∧ w'.cell? ⟨(ad137.add (((ji9)).toNat * 4)).block, (ad137.add (((ji9)).toNat * 4)).off + 3, none⟩ = some (.int .i64 ((a0c x0_2 (ji9)).f3))) (ds := []) #[i_,i_,i_,i_,i_,i_,i_,i_,i_,i_,i_,i_,i_,i_,i_,i_,i_] (by kernel_rfl) rfl rfl ⟨hx137_0, hx137_1, hx137_2, hx137_3, hx138_0, hx138_1, hx138_2, hx138_3⟩ (fun hHeld => ?_); refine a2l a0f.tab4 a0f.a7a (fun HT_ HW_ => ?_)
            generalize wr.drew = w22 at HO_0 HK HB hx137_0 hx137_1 hx137_2 hx137_3 hx138_0 hx138_1 hx138_2 hx138_3 hHeld ⊢
            refine qpu_ 0 (some 18) #[o_,i_,i_,i_,i_,i_,i_,i_,i_,i_,i_,i_,i_,i_,i_,i_,i_] ?_
            refine qpu_ 1 (some 19) #[o_,o_,i_,i_,i_,i_,i_,i_,i_,i_,i_,i_,i_,i_,i_,i_,i_] ?_
            refine qpu_ 2 (some 20) #[o_,o_,o_,i_,i_,i_,i_,i_,i_,i_,i_,i_,i_,i_,i_,i_,i_] ?_
            refine qpu_ 3 (some 21) #[o_,o_,o_,o_,i_,i_,i_,i_,i_,i_,i_,i_,i_,i_,i_,i_,i_] ?_
            refine qpu_ 4 (some 22) #[o_,o_,o_,o_,o_,i_,i_,i_,i_,i_,i_,i_,i_,i_,i_,i_,i_] ?_
            refine qpu_ 5 (some 23) #[o_,o_,o_,o_,o_,o_,i_,i_,i_,i_,i_,i_,i_,i_,i_,i_,i_] ?_
            refine qpu_ 6 (some 24) #[o_,o_,o_,o_,o_,o_,o_,i_,i_,i_,i_,i_,i_,i_,i_,i_,i_] ?_
            refine qpu_ 7 (some 25) #[o_,o_,o_,o_,o_,o_,o_,o_,i_,i_,i_,i_,i_,i_,i_,i_,i_] ?_
            refine qpu_ 9 (some 27) #[o_,o_,o_,o_,o_,o_,o_,o_,i_,o_,i_,i_,i_,i_,i_,i_,i_] ?_
            refine qpu_ 10 (some 28) #[o_,o_,o_,o_,o_,o_,o_,o_,i_,o_,o_,i_,i_,i_,i_,i_,i_] ?_
            refine qpu_ 11 (some 29) #[o_,o_,o_,o_,o_,o_,o_,o_,i_,o_,o_,o_,i_,i_,i_,i_,i_] ?_
            refine qpu_ 12 (some 30) #[o_,o_,o_,o_,o_,o_,o_,o_,i_,o_,o_,o_,o_,i_,i_,i_,i_] ?_
            refine a2g (i := 8) (N := some 26) (v := ?_) (a' := ?_) #[o_,o_,o_,o_,o_,o_,o_,o_,o_,o_,o_,o_,o_,i_,i_,i_,i_] rfl rfl (a1r HT_.out HW_.out (by kernel_rfl)) (fun _ _ _ h => h) (Or.inl ⟨by rfl, ?_⟩) hHeld ?_ ?_
            rotate_left
            ·rintro w' ⟨s0, s1, s2, s3, s4, s5, s6, s7⟩
             go_simp
             with_reducible rfl
            rotate_left
            ·exact qp_
            refine a2g (i := 13) (N := some 31) (v := ?_) (a' := ?_) #[o_,o_,o_,o_,o_,o_,o_,o_,o_,o_,o_,o_,o_,o_,i_,i_,i_] rfl rfl (a1r HT_.out HW_.out (by kernel_rfl)) (fun _ _ _ h => h) (Or.inl ⟨by rfl, ?_⟩) hHeld ?_ ?_
            rotate_left
            ·rintro w' ⟨s0, s1, s2, s3, s4, s5, s6, s7⟩
             go_simp
             with_reducible rfl
            rotate_left
            ·exact qp_
            refine one_ (i := 14) (N := some 32) #[o_,o_,o_,o_,o_,o_,o_,o_,o_,o_,o_,o_,o_,o_,o_,i_,i_] rfl rfl (a3h HT_.out (by kernel_rfl)) (by decide) (fun K hK => ?_)
            refine a5r Try.func44 (by kernel_rfl) rfl #[.agg #[.int .i64 ((a0c x0_2 x9_2).f0), .int .i64 ((a0c x0_2 x9_2).f1), .int .i64 ((a0c x0_2 x9_2).f2), .int .i64 ((a0c x0_2 x9_2).f3)], .agg #[.int .i64 ((a0c x0_2 (ji9)).f0), .int .i64 ((a0c x0_2 (ji9)).f1), .int .i64 ((a0c x0_2 (ji9)).f2), .int .i64 ((a0c x0_2 (ji9)).f3)]] (by rfl) rfl rfl (by rfl) (by (try simp only [List.map_toArray, List.map_cons, List.map_nil]); first | done | (simp only [hji9]; rfl) | rfl | (simp only [List.length_drop, List.length_take]; rfl)) ?_
            with_reducible refine (a2h.calls ((a0c x0_2 x9_2).f0) ((a0c x0_2 x9_2).f1) ((a0c x0_2 x9_2).f2) ((a0c x0_2 x9_2).f3) ((a0c x0_2 (ji9)).f0) ((a0c x0_2 (ji9)).f1) ((a0c x0_2 (ji9)).f2) ((a0c x0_2 (ji9)).f3) t139 _ A12.out).mono ?_
            rintro e w24 ⟨rfl, hb⟩
            have HS0_ := (hb.cell (World.block_lt_of_cell? _ _ (hHeld.1))).trans (hHeld.1)
            have HS1_ := (hb.cell (World.block_lt_of_cell? _ _ (hHeld.2.1))).trans (hHeld.2.1)
            have HS2_ := (hb.cell (World.block_lt_of_cell? _ _ (hHeld.2.2.1))).trans (hHeld.2.2.1)
            have HS3_ := (hb.cell (World.block_lt_of_cell? _ _ (hHeld.2.2.2.1))).trans (hHeld.2.2.2.1)
            have HS4_ := (hb.cell (World.block_lt_of_cell? _ _ (hHeld.2.2.2.2.1))).trans (hHeld.2.2.2.2.1)
            have HS5_ := (hb.cell (World.block_lt_of_cell? _ _ (hHeld.2.2.2.2.2.1))).trans (hHeld.2.2.2.2.2.1)
            have HS6_ := (hb.cell (World.block_lt_of_cell? _ _ (hHeld.2.2.2.2.2.2.1))).trans (hHeld.2.2.2.2.2.2.1)
            have HS7_ := (hb.cell (World.block_lt_of_cell? _ _ (hHeld.2.2.2.2.2.2.2))).trans (hHeld.2.2.2.2.2.2.2)
            refine ⟨_, rfl, ?_⟩
            replace HO_0 := qrb_ HO_0 hb
            replace HK := am_ (Kept.below (S := (fun k_ => P0_ k_)) (by repeat (first | (with_reducible first | exact HK.out | apply Kept.alloc | apply Kept.drewN | apply Kept.drew) | exact HK.out)) hb)
            replace HB := qbs_ hb
            (try clear hb)
            (try clear hb2)
            (try clear hk)
            (try clear hi)
            refine hK.out _ _ ⟨HS0_, HS1_, HS2_, HS3_, HS4_, HS5_, HS6_, HS7_⟩ (fun hHeld => ?_)
            clear hK K
            refine a4b (a' := ?_) ?_ ?_
            rotate_left
            ·show Act.put _ (some 32) _ = _
             exact qp_
            refine qpu_ 15 (some 33) #[o_,o_,o_,o_,o_,o_,o_,o_,o_,o_,o_,o_,o_,o_,o_,o_,i_] ?_
            refine qpu_ 16 (some 34) #[o_,o_,o_,o_,o_,o_,o_,o_,o_,o_,o_,o_,o_,o_,o_,o_,o_] ?_
            refine a3o (a3b HT_.out (by kernel_rfl)) ?_
            try go_wp2
            go_roundg k2
            case measure => have := HK1.out; have := HK2.out; omega
            case rel => exact ⟨(x0_2), (wrap64 (x8_1 + 1)), qs_, H', ⟨by have := HK1.out; have := HK2.out; omega⟩, ⟨by (with_reducible repeat (first | apply Kd.a0n | apply Kd.a0o | apply Kd.a0m)); exact HO_0.out⟩, ⟨by repeat (first | (with_reducible first | exact HK.out | apply Kept.alloc | apply Kept.drewN | apply Kept.drew) | exact HK.out)⟩, ⟨qb_⟩⟩
          ·rw [if_neg c11] at H
           exact absurd H (by simp)
         ·rw [if_neg c10] at H
          exact absurd H (by simp)
        ·rw [if_neg c8] at H
         exact absurd H (by simp)
       ·rw [if_neg c7] at H
        exact absurd H (by simp)
      ·rw [if_neg c6] at H
       have c6b0 : decide (a1 < x9_2) = false := decide_eq_false c6
       clear c6
       have H' := am_ H
       clear H
       try go_wp2
       replace HO_0 := am_ (Kd.a0m HO_0.out)
       replace HK := am_ (Kept.drew HK.out)
       replace HB := am_ (ld_ HB.out)
       refine a3g (n := 17) (S := fun w' => True) (ds := []) #[i_,i_,i_,i_,i_,i_,i_,i_,i_,i_,i_,i_,i_,i_,i_,i_,i_] (by kernel_rfl) rfl rfl trivial (fun hHeld => ?_); refine a2l a0f.tab4 a0f.a7a (fun HT_ HW_ => ?_)
       generalize wr.drew = w25 at HO_0 HK HB hHeld ⊢
       refine qpu_ 0 (some 18) #[o_,i_,i_,i_,i_,i_,i_,i_,i_,i_,i_,i_,i_,i_,i_,i_,i_] ?_
       refine qpu_ 1 (some 19) #[o_,o_,i_,i_,i_,i_,i_,i_,i_,i_,i_,i_,i_,i_,i_,i_,i_] ?_
       refine qpu_ 2 (some 20) #[o_,o_,o_,i_,i_,i_,i_,i_,i_,i_,i_,i_,i_,i_,i_,i_,i_] ?_
       refine qpu_ 3 (some 21) #[o_,o_,o_,o_,i_,i_,i_,i_,i_,i_,i_,i_,i_,i_,i_,i_,i_] ?_
       refine qpv_ 4 (some 22) #[o_,o_,o_,o_,o_,i_,i_,i_,i_,i_,i_,i_,i_,i_,i_,i_,i_] ?_
       refine qpv_ 5 (some 23) #[o_,o_,o_,o_,o_,o_,i_,i_,i_,i_,i_,i_,i_,i_,i_,i_,i_] ?_
       refine qpv_ 6 (some 24) #[o_,o_,o_,o_,o_,o_,o_,i_,i_,i_,i_,i_,i_,i_,i_,i_,i_] ?_
       refine qpv_ 7 (some 25) #[o_,o_,o_,o_,o_,o_,o_,o_,i_,i_,i_,i_,i_,i_,i_,i_,i_] ?_
       refine qpv_ 8 (some 26) #[o_,o_,o_,o_,o_,o_,o_,o_,o_,i_,i_,i_,i_,i_,i_,i_,i_] ?_
       refine qpv_ 9 (some 27) #[o_,o_,o_,o_,o_,o_,o_,o_,o_,o_,i_,i_,i_,i_,i_,i_,i_] ?_
       refine qpv_ 10 (some 28) #[o_,o_,o_,o_,o_,o_,o_,o_,o_,o_,o_,i_,i_,i_,i_,i_,i_] ?_
       refine qpv_ 11 (some 29) #[o_,o_,o_,o_,o_,o_,o_,o_,o_,o_,o_,o_,i_,i_,i_,i_,i_] ?_
       refine qpv_ 12 (some 30) #[o_,o_,o_,o_,o_,o_,o_,o_,o_,o_,o_,o_,o_,i_,i_,i_,i_] ?_
       refine qpv_ 13 (some 31) #[o_,o_,o_,o_,o_,o_,o_,o_,o_,o_,o_,o_,o_,o_,i_,i_,i_] ?_
       refine qpv_ 14 (some 32) #[o_,o_,o_,o_,o_,o_,o_,o_,o_,o_,o_,o_,o_,o_,o_,i_,i_] ?_
       refine qpv_ 15 (some 33) #[o_,o_,o_,o_,o_,o_,o_,o_,o_,o_,o_,o_,o_,o_,o_,o_,i_] ?_
       refine qpu_ 16 (some 34) #[o_,o_,o_,o_,o_,o_,o_,o_,o_,o_,o_,o_,o_,o_,o_,o_,o_] ?_
       refine a3o (a3b HT_.out (by kernel_rfl)) ?_
       try go_wp2
       go_roundg k2
       case measure => have := HK1.out; have := HK2.out; omega
       case rel => exact ⟨(x0_2), (wrap64 (x8_1 + 1)), qs_, H', ⟨by have := HK1.out; have := HK2.out; omega⟩, ⟨by (with_reducible repeat (first | apply Kd.a0n | apply Kd.a0o | apply Kd.a0m)); exact HO_0.out⟩, ⟨by repeat (first | (with_reducible first | exact HK.out | apply Kept.alloc | apply Kept.drewN | apply Kept.drew) | exact HK.out)⟩, ⟨qb_⟩⟩
   ·rw [if_neg c5] at H
    have c5b0 : decide (x8_1 < a2) = false := decide_eq_false c5
    clear c5
    obtain rfl := si_ H
    go_wp2
    first | go_end0 | ((try simp only [Exit.inBlock, Exit.then]); refine bodyPost_ret (results_none rfl _ _ _) rfl ?_)
    exact ⟨qx_, by (with_reducible repeat (first | apply Kd.a0n | apply Kd.a0o | apply Kd.a0m)); exact HO_0.out, by repeat (first | (with_reducible first | exact HB.out | apply la_ | apply ln_ | apply ld_) | exact HB.out), by repeat (first | (with_reducible first | exact HK.out | apply Kept.alloc | apply Kept.drewN | apply Kept.drew) | exact HK.out)⟩
end Go.Proofs.Ytfbgkcadnmcakaa.Px
