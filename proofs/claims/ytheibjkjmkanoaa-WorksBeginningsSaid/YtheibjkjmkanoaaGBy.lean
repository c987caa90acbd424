/- Contracts of Go functions, printed. Conditions: as each theorem states. -/
import Derived.Lib.SliceRun
import Derived.Shelf.SlSortCmp.NoneTotal
import Derived.Ground.SlsfProg
import Derived.Test.YtheibjkjmkanoaaPx0
import Derived.Test.YtheibjkjmkanoaaProg
import Derived.Test.YtheibjkjmkanoaaWWords
import Derived.Test.YtheibjkjmkanoaaWTab
import Derived.Test.YtheibjkjmkanoaaWN
import Derived.Test.YtheibjkjmkanoaaWMore
import Derived.Test.YtheibjkjmkanoaaGMap
import Derived.Test.YtheibjkjmkanoaaPx5
namespace Go.Proofs.Ytheibjkjmkanoaa.Px
open Go.Proofs.Ytheibjkjmkanoaa.Given
open Go.RowKit Go.Proofs.YtheibjkjmkanoaaW.PrintWords Go.Proofs.YtheibjkjmkanoaaW.PrintLast Go.Proofs.YtheibjkjmkanoaaW.PrintMore
attribute [local go_sem] a3r a3s a4e a4f a3k a3l a3t a3u
set_option linter.unusedVariables false
set_option linter.unusedSimpArgs false
def a3e.f (l0 : List (S56)) (a1_0 a1_1 : Int) : Option ((List (S56))) := if (l0.length : Int) > 0 then (if 0 ≤ (wrap64 ((l0.length : Int) - 1)) then (if (wrap64 ((l0.length : Int) - 1)) < (l0.length : Int) then (if ((a0h l0 (wrap64 ((l0.length : Int) - 1))).f1) ≥ a1_0 then (some (l0.set ((wrap64 ((l0.length : Int) - 1)) : Int).toNat (⟨(a0h l0 (wrap64 ((l0.length : Int) - 1))).f0, mx ((a0h l0 (wrap64 ((l0.length : Int) - 1))).f1) a1_1⟩ : S56))) else (if l0.length < 8796093022208 then (some (l0 ++ [(⟨a1_0, a1_1⟩ : S56)])) else (none))) else (none)) else (none)) else (if l0.length < 8796093022208 then (some (l0 ++ [(⟨a1_0, a1_1⟩ : S56)])) else (none))
def a3e.T2 : Bool × List (List Nat × List Nat) := (true, [([], []), ([0], [0]), ([1], [1]), ([2], [2]), ([2], [2]), ([4, 2], [2, 4]), ([3, 5, 2], [2, 3, 5]), ([6, 2], [2, 6]), ([7, 2], [2, 7]), ([2], [2]), ([9, 2], [2, 9]), ([8, 10, 2], [2, 8, 10]), ([2, 11], [2, 11])])
def a3e.B2 : List Nat := [0, 1, 3, 7, 7, 23, 63, 127, 255, 7, 519, 2047, 4095]
theorem a3e.tab2 : rtab .any (opsOf Try.f71 2) = a3e.T2 := by kernel_rfl
theorem a3e.b8t : a5l a3e.T2.2 a3e.B2 = true := by kernel_rfl
def a3e.T3 : Bool × List (List Nat × List Nat) := (true, [([], []), ([], []), ([1], [1]), ([], []), ([], []), ([4], [4]), ([3, 5], [3, 5]), ([6], [6]), ([7], [7]), ([], []), ([9], [9]), ([8, 10], [8, 10]), ([0, 2, 0, 1, 2, 3, 4, 5, 6, 7, 8, 9, 10, 11], [0, 2]), ([12, 0, 1, 2, 3, 4, 5, 6, 7, 8, 9, 10, 11], [12]), ([13, 11, 0, 1, 2, 3, 4, 5, 6, 7, 8, 9, 10, 11], [11, 13])])
def a3e.B3 : List Nat := [0, 0, 2, 0, 0, 16, 56, 120, 248, 0, 512, 2040, 4095, 8191, 16383]
theorem a3e.tab3 : rtab .any (opsOf Try.f71 3) = a3e.T3 := by kernel_rfl
theorem a3e.c5h : a5l a3e.T3.2 a3e.B3 = true := by kernel_rfl
set_option maxHeartbeats 8000000 in
set_option maxRecDepth 100000 in
theorem a3e.calls (P0_ : Nat → Prop) (u9000_ : Value) (l0 : List (S56)) (a1_0 a1_1 : Int) (r : List (S56)) (w0 w : World) (hB : Below w0.heap.size w0 w) (ho0 : Kd.R k56 56 w w0.heap.size P0_ u9000_ l0) (h : a3e.f l0 a1_0 a1_1 = some r) :
  Calls Try.prog 71 #[u9000_, .agg #[.int .i64 a1_0, .int .i64 a1_1]] w fun e w' => ∃ v0_ : Value, e = .returned (v0_) ∧ Kd.R k56 56 w' w0.heap.size (fun k_ => (P0_ k_ ∨ w.heap.size ≤ k_)) v0_ r ∧ Below w0.heap.size w0 w' ∧ Kept w w' (fun k_ => P0_ k_) := by
 have hu56 := Try.underlying56
 have HO0 := am_ (show Kd.R k56 56 w w0.heap.size (fun k_ => (P0_ k_ ∨ w.heap.size ≤ k_)) u9000_ l0 from Kd.a2x ho0 (fun k_ hk => (.inl hk)))
 have HK := am_ (Kept.refl w (fun k_ => P0_ k_))
 have HW0 := am_ hB.size
 have HB := am_ hB
 clear hB
 have H : (if (l0.length : Int) > 0 then (if 0 ≤ (wrap64 ((l0.length : Int) - 1)) then (if (wrap64 ((l0.length : Int) - 1)) < (l0.length : Int) then (if ((a0h l0 (wrap64 ((l0.length : Int) - 1))).f1) ≥ a1_0 then (some (l0.set ((wrap64 ((l0.length : Int) - 1)) : Int).toNat (⟨(a0h l0 (wrap64 ((l0.length : Int) - 1))).f0, mx ((a0h l0 (wrap64 ((l0.length : Int) - 1))).f1) a1_1⟩ : S56))) else (if l0.length < 8796093022208 then (some (l0 ++ [(⟨a1_0, a1_1⟩ : S56)])) else (none))) else (none)) else (none)) else (if l0.length < 8796093022208 then (some (l0 ++ [(⟨a1_0, a1_1⟩ : S56)])) else (none))) = some r := h
 clear h
 by_cases c3 : (l0.length : Int) > 0
 ·rw [if_pos c3] at H
  have c3b0 : decide (0 < (l0.length : Int)) = true := decide_eq_true c3
  have c3b1 : decide (0 < l0.length) = true := decide_eq_true (by omega)
  clear c3
  obtain ⟨ji4, hji4⟩ : ∃ j_ : Int, (wrap64 ((l0.length : Int) - 1)) = j_ := ⟨_, rfl⟩
  replace H : (if 0 ≤ (ji4) then (if (ji4) < (l0.length : Int) then (if ((a0h l0 (ji4)).f1) ≥ a1_0 then (some (l0.set ((ji4) : Int).toNat (⟨(a0h l0 (ji4)).f0, mx ((a0h l0 (ji4)).f1) a1_1⟩ : S56))) else (if l0.length < 8796093022208 then (some (l0 ++ [(⟨a1_0, a1_1⟩ : S56)])) else (none))) else (none)) else (none)) = some r := by first | (rw [hji4] at H; exact H) | (simp only [hji4] at H ⊢; exact H)
  have hji4w : (IntKind.i64.wrap ((l0.length : Int) - 1)) = ji4 := (a4m _).trans hji4
  by_cases c5 : 0 ≤ (ji4)
  ·rw [if_pos c5] at H
   have c5b0 : decide (0 ≤ (ji4)) = true := decide_eq_true c5
   clear c5
   by_cases c6 : (ji4) < (l0.length : Int)
   ·rw [if_pos c6] at H
    have c6b0 : decide ((ji4) < (l0.length : Int)) = true := decide_eq_true c6
    clear c6
    by_cases c7 : ((a0h l0 (ji4)).f1) ≥ a1_0
    ·rw [if_pos c7] at H
     have c7b0 : decide (a1_0 ≤ ((a0h l0 (ji4)).f1)) = true := decide_eq_true c7
     clear c7
     obtain ⟨ji8, hji8⟩ : ∃ j_ : Int, (mx ((a0h l0 (ji4)).f1) a1_1) = j_ := ⟨_, rfl⟩
     replace H : (some (l0.set ((ji4) : Int).toNat (⟨(a0h l0 (ji4)).f0, ji8⟩ : S56))) = some r := by first | (rw [hji8] at H; exact H) | (simp only [hji8] at H ⊢; exact H)
     have hji8_ : (if ((a0h l0 (ji4)).f1) < a1_1 then a1_1 else ((a0h l0 (ji4)).f1)) = ji8 := hji8
     obtain ⟨y341, hy341⟩ : ∃ y_ : List (S56), y_ = (l0.set ((ji4) : Int).toNat (⟨(a0h l0 (ji4)).f0, ji8⟩ : S56)) := ⟨_, rfl⟩
     replace H : (some y341) = some r := by first | (rw [hy341]; with_reducible exact H) | (have H2_ := (Option.bind_some _ _).symm.trans H; rw [hy341]; with_reducible exact H2_) | (have H2_ := (Option.bind_some _ _).symm.trans H; with_reducible exact H2_) | with_reducible exact H | (rw [hy341]; exact H) | exact H
     have Ny341 := am_ hy341
     clear hy341
     obtain rfl := si_ H
     go_enter Try.func71, Try.ntmps71
     try go_wp2_with (first | ((with_reducible refine a1d (N := 3) rfl ?_); refine qev_ 3 #[.int .i64 a1_0, .int .i64 a1_1] 56 ?_; intro gb338 hg w10 hbox hb; replace HO0 := am_ (Kd.a5z (Kd.a6i (qr_ HO0) gb338 (Nat.le_of_eq hg.symm)) hb); have BK338 := am_ (hbox); have GW338 := am_ ((by rw [hg]; exact (by first | exact HK.out.1 | exact (show Kept w _ (fun k_ => P0_ k_) from by repeat (first | (with_reducible first | exact HK.out | apply Kept.alloc | apply Kept.drewN | apply Kept.drew) | exact HK.out)).1) : w.heap.size ≤ gb338)); replace HK := am_ (Kept.below (S := (fun k_ => P0_ k_)) (by repeat (first | (with_reducible first | exact HK.out | apply Kept.alloc | apply Kept.drewN | apply Kept.drew) | exact HK.out)) hb); have GE338 := am_ ((qg_ hg : w0.heap.size ≤ gb338)); replace HB := qbs_ hb; clear hb hbox hg; obtain ⟨Ao11, co11, eo11⟩ := Kd.a3c HO0.out; subst eo11))
     replace HO0 := am_ (Kd.a2f HO0.out)
     replace BK338 := am_ (bd_ BK338.out)
     replace HK := am_ (Kept.drew HK.out)
     replace HB := am_ (ld_ HB.out)
     have p339 : 0 ≤ ((ji4) : Int) := ot_
     have q339 : (ji4) < (l0.length : Int) := ot_
     obtain ⟨ad339, e339, hx339_0, hx339_1⟩ := a5d (Kd.a1g HO0.out).2.2 (ji4) p339 q339
     cases e339
     replace p339 := eq_true p339
     replace q339 := eq_true q339
     refine a4r (n := 13) (S := fun w' => w'.cell? ⟨gb338, 0, none⟩ = some (.int .i64 a1_0) ∧ w'.cell? ⟨gb338, 1, none⟩ = some (.int .i64 a1_1) ∧ w'.cell? (ad339.add (((ji4)).toNat * 2)) = some (.int .i64 ((a0h l0 (ji4)).f0)) ∧ w'.cell? ⟨(ad339.add (((ji4)).toNat * 2)).block, (ad339.add (((ji4)).toNat * 2)).off + 1, none⟩ = some (.int .i64 ((a0h l0 (ji4)).f1))) (ds := []) #[Y,Y,Y,Y,Y,Y,Y,Y,Y,Y,Y,Y,Y] (by kernel_rfl) rfl rfl ⟨(bc_ BK338.out 0).trans rfl, (bc_ BK338.out 1).trans rfl, hx339_0, hx339_1⟩ (fun hHeld => ?_); refine a3n a3e.tab2 a3e.b8t (fun HT_ HW_ => ?_)
     generalize w10.drew = w12 at HO0 BK338 HK HB hx339_0 hx339_1 hHeld ⊢
     refine qpu_ 0 (some 8) #[Z,Y,Y,Y,Y,Y,Y,Y,Y,Y,Y,Y,Y] ?_
     refine qpu_ 1 (some 9) #[Z,Z,Y,Y,Y,Y,Y,Y,Y,Y,Y,Y,Y] ?_
     refine qpu_ 2 (some 10) #[Z,Z,Z,Y,Y,Y,Y,Y,Y,Y,Y,Y,Y] ?_
     refine qpu_ 3 (some 11) #[Z,Z,Z,Z,Y,Y,Y,Y,Y,Y,Y,Y,Y] ?_
     refine qpu_ 4 (some 12) #[Z,Z,Z,Z,Z,Y,Y,Y,Y,Y,Y,Y,Y] ?_
     refine qpu_ 5 (some 13) #[Z,Z,Z,Z,Z,Z,Y,Y,Y,Y,Y,Y,Y] ?_
     refine qpu_ 6 (some 14) #[Z,Z,Z,Z,Z,Z,Z,Y,Y,Y,Y,Y,Y] ?_
     refine qpu_ 7 (some 15) #[Z,Z,Z,Z,Z,Z,Z,Z,Y,Y,Y,Y,Y] ?_
     refine qpu_ 9 (some 17) #[Z,Z,Z,Z,Z,Z,Z,Z,Y,Z,Y,Y,Y] ?_
     refine a5q (i := 8) (N := some 16) (v := ?_) (a' := ?_) #[Z,Z,Z,Z,Z,Z,Z,Z,Z,Z,Y,Y,Y] rfl rfl (a5c HT_.out HW_.out (by kernel_rfl)) (fun _ _ _ h => h) (Or.inl ⟨by rfl, ?_⟩) hHeld ?_ ?_
     rotate_left
     ·rintro w' ⟨s0, s1, s2, s3⟩
      go_simp
      with_reducible rfl
     rotate_left
     ·exact qp_
     refine a5q (i := 10) (N := some 18) (v := ?_) (a' := ?_) #[Z,Z,Z,Z,Z,Z,Z,Z,Z,Z,Z,Y,Y] rfl rfl (a5c HT_.out HW_.out (by kernel_rfl)) (fun _ _ _ h => h) (Or.inl ⟨by rfl, ?_⟩) hHeld ?_ ?_
     rotate_left
     ·rintro w' ⟨s0, s1, s2, s3⟩
      go_simp
      with_reducible rfl
     rotate_left
     ·exact qp_
     refine qpu_ 11 (some 19) #[Z,Z,Z,Z,Z,Z,Z,Z,Z,Z,Z,Z,Y] ?_
     refine qpu_ 12 (some 20) #[Z,Z,Z,Z,Z,Z,Z,Z,Z,Z,Z,Z,Z] ?_
     refine a5a (a4h HT_.out (by kernel_rfl)) ?_
     try go_wp2
     replace HO0 := am_ (Kd.a2f HO0.out)
     replace BK338 := am_ (bd_ BK338.out)
     replace HK := am_ (Kept.drew HK.out)
     replace HB := am_ (ld_ HB.out)
     have p340 : 0 ≤ ((ji4) : Int) := ot_
     have q340 : (ji4) < (l0.length : Int) := ot_
     obtain ⟨ad340, e340, hx340_0, hx340_1⟩ := a5d (Kd.a1g HO0.out).2.2 (ji4) p340 q340
     obtain rfl : ad339 = ad340 := (by injection e340)
     replace p340 := eq_true p340
     replace q340 := eq_true q340
     have p9 : 0 ≤ ((ji4) : Int) := ot_
     have q9 : ((ji4) : Int) < ((l0.length : Int) : Int) := ot_
     obtain ⟨go9, co9, eo9, gb9, gl9, cl9, HG9⟩ := Kd.b3c HO0.out (by omega)
     (first | cases eo9 | (injection eo9 with ea_ en_ ec_; (first | subst ea_ | (injection ea_ with ea_; subst ea_)); subst ec_; clear en_))
     have GB9 := am_ gb9
     have GG9 := am_ HG9
     clear gb9 gl9 HG9
     have HMgo9 := am_ (show (P0_ go9 ∨ w.heap.size ≤ go9) from (HO0.out.1 _ rfl).1)
     (first | simp only [add_plain] at hx339_0 | skip)
     (first | simp only [add_plain] at hx339_1 | skip)
     (first | simp only [add_plain] at hx340_0 | skip)
     (first | simp only [add_plain] at hx340_1 | skip)
     obtain ⟨ce9, hcl9, hM9, hcc9, hfr9⟩ := Kd.a8q HO0.out z56 ((ji4) : Int) p9 q9
     obtain rfl := b1u hM9
     have hx9_0 : World.cell? _ ⟨go9, ((ji4) : Int).toNat * 2, none⟩ = some (.int .i64 ((a0h l0 (ji4)).f0)) := hcc9 0 _ rfl
     have hx9_1 : World.cell? _ ⟨go9, ((ji4) : Int).toNat * 2 + 1, none⟩ = some (.int .i64 ((a0h l0 (ji4)).f1)) := hcc9 1 _ rfl
     have hf9_0 : World.frozen? _ ⟨go9, ((ji4) : Int).toNat * 2, none⟩ = false := hfr9 0
     have hf9_1 : World.frozen? _ ⟨go9, ((ji4) : Int).toNat * 2 + 1, none⟩ = false := hfr9 1
     clear hcl9 hcc9 hfr9 hM9
     replace p9 := eq_true p9
     replace q9 := eq_true q9
     obtain ⟨ce14, hcl14, hM14, hcc14, hfr14⟩ := Kd.a8q HO0.out z56 ((ji4) : Int) (ot_) (by have h_ : ((ji4) : Int) < ((l0.length : Int) : Int) := ot_; first | exact h_ | (have e_ := (Kd.a1g HO0.out).1; omega) | simpa using h_)
     obtain rfl := b1u hM14
     have HP14 := (Kd.b5i HO0.out ((ji4) : Int) (ot_) (by have h_ : ((ji4) : Int) < ((l0.length : Int) : Int) := ot_; first | exact h_ | (have e_ := (Kd.a1g HO0.out).1; omega) | simpa using h_) (seg := [.int .i64 ji8]) (j := 1) hcl14 hcc14 (show 2 ≤ 2 from by decide) (x' := (⟨(a0h l0 (ji4)).f0, ji8⟩ : S56)) (a6r _ _ _ (⟨(a0h l0 (ji4)).f0, ji8⟩ : S56) ) (fun _ hk => hk)).1
     rw [← Ny341.out] at HP14
     have HQ14 := am_ HP14
     clear hcl14 hcc14 hfr14 hM14 HP14
     refine a4r (n := 15) (S := fun w' => w'.cell? ⟨gb338, 0, none⟩ = some (.int .i64 a1_0) ∧ w'.cell? ⟨gb338, 1, none⟩ = some (.int .i64 a1_1) ∧ w'.cell? ⟨go9, (((ji4)).toNat * 2), none⟩ = some (.int .i64 ((a0h l0 (ji4)).f0)) ∧ w'.cell? ⟨go9, (((ji4)).toNat * 2) + 1, none⟩ = some (.int .i64 ((a0h l0 (ji4)).f1))) (ds := [14]) #[Y,Y,Y,Y,Y,Y,Y,Y,Y,Y,Y,Y,Y,Y,Y] (by kernel_rfl) rfl rfl ⟨(bc_ BK338.out 0).trans rfl, (bc_ BK338.out 1).trans rfl, hx340_0, hx340_1⟩ (fun hHeld => ?_); refine a3n a3e.tab3 a3e.c5h (fun HT_ HW_ => ?_)
     generalize w12.drew = w13 at HO0 BK338 HK HB GG9 HQ14 hf9_0 hf9_1 hx339_0 hx339_1 hx340_0 hx340_1 hx9_0 hx9_1 hHeld ⊢
     refine qpu_ 0 (some 21) #[Z,Y,Y,Y,Y,Y,Y,Y,Y,Y,Y,Y,Y,Y,Y] ?_
     refine qpu_ 1 (some 22) #[Z,Z,Y,Y,Y,Y,Y,Y,Y,Y,Y,Y,Y,Y,Y] ?_
     refine qpu_ 2 (some 23) #[Z,Z,Z,Y,Y,Y,Y,Y,Y,Y,Y,Y,Y,Y,Y] ?_
     refine qpu_ 3 (some 24) #[Z,Z,Z,Z,Y,Y,Y,Y,Y,Y,Y,Y,Y,Y,Y] ?_
     refine qpu_ 4 (some 25) #[Z,Z,Z,Z,Z,Y,Y,Y,Y,Y,Y,Y,Y,Y,Y] ?_
     refine qpu_ 5 (some 26) #[Z,Z,Z,Z,Z,Z,Y,Y,Y,Y,Y,Y,Y,Y,Y] ?_
     refine qpu_ 6 (some 27) #[Z,Z,Z,Z,Z,Z,Z,Y,Y,Y,Y,Y,Y,Y,Y] ?_
     refine qpu_ 7 (some 28) #[Z,Z,Z,Z,Z,Z,Z,Z,Y,Y,Y,Y,Y,Y,Y] ?_
     refine qpu_ 9 (some 30) #[Z,Z,Z,Z,Z,Z,Z,Z,Y,Z,Y,Y,Y,Y,Y] ?_
     refine a5q (i := 8) (N := some 29) (v := ?_) (a' := ?_) #[Z,Z,Z,Z,Z,Z,Z,Z,Z,Z,Y,Y,Y,Y,Y] rfl rfl (a5c HT_.out HW_.out (by kernel_rfl)) (fun _ _ _ h => h) (Or.inl ⟨by rfl, ?_⟩) hHeld ?_ ?_
     rotate_left
     ·rintro w' ⟨s0, s1, s2, s3⟩
      go_simp
      with_reducible rfl
     rotate_left
     ·exact qp_
     refine a5q (i := 10) (N := some 31) (v := ?_) (a' := ?_) #[Z,Z,Z,Z,Z,Z,Z,Z,Z,Z,Z,Y,Y,Y,Y] rfl rfl (a5c HT_.out HW_.out (by kernel_rfl)) (fun _ _ _ h => h) (Or.inl ⟨by rfl, ?_⟩) hHeld ?_ ?_
     rotate_left
     ·rintro w' ⟨s0, s1, s2, s3⟩
      go_simp
      with_reducible rfl
     rotate_left
     ·exact qp_
     refine qpu_ 11 (some 32) #[Z,Z,Z,Z,Z,Z,Z,Z,Z,Z,Z,Z,Y,Y,Y] ?_
     refine qpu_ 12 (some 33) #[Z,Z,Z,Z,Z,Z,Z,Z,Z,Z,Z,Z,Z,Y,Y] ?_
     refine qpu_ 13 (some 34) #[Z,Z,Z,Z,Z,Z,Z,Z,Z,Z,Z,Z,Z,Z,Y] ?_
     refine c4t (i := 14) (N := none) #[Z,Z,Z,Z,Z,Z,Z,Z,Z,Z,Z,Z,Z,Z,Z] rfl rfl (a4n HT_.out (by kernel_rfl)) (by decide) (fun K hK => ?_)
     refine b8j (w1 := ?_) (by rfl) rfl ?_ ?_
     rotate_left
     ·go_simp
      rfl
     refine hK.out _ _ ?_
     clear hK K
     refine a5a (a4h HT_.out (by kernel_rfl)) ?_
     try go_wp2
     go_ret
     exact ⟨_, by first | rfl | (simp [a4j, a4k] <;> rfl) | (simp only [← hji4, ← hji8]; first | rfl | (simp [a4j, a4k] <;> rfl)) | (simp [*, a4j, a4k] <;> rfl), by (with_reducible repeat (first | apply Kd.a2k | apply Kd.a2l | apply Kd.a2f)); exact Kd.a2x HQ14.out (fun _ hk => hk.1), by repeat (first | (with_reducible first | exact HB.out | apply la_ | apply ln_ | apply ld_ | refine ls_ ?_ GB9.out | refine ls_ ?_ GE338.out) | exact HB.out), by repeat (first | (with_reducible first | exact HK.out | apply Kept.alloc | apply Kept.drewN | apply Kept.drew | refine Kept.setCell ?_ HMgo9.out _ | refine Kept.setCell ?_ (.inr GW338.out) _) | exact HK.out)⟩
    ·rw [if_neg c7] at H
     have c7b0 : decide (a1_0 ≤ ((a0h l0 (ji4)).f1)) = false := decide_eq_false c7
     clear c7
     by_cases c15 : l0.length < 8796093022208
     ·rw [if_pos c15] at H
      have LMc15 := am_ c15
      clear c15
      obtain ⟨y342, hy342⟩ : ∃ y_ : List (S56), y_ = (l0 ++ [(⟨a1_0, a1_1⟩ : S56)]) := ⟨_, rfl⟩
      replace H : (some y342) = some r := by first | (rw [hy342]; with_reducible exact H) | (have H2_ := (Option.bind_some _ _).symm.trans H; rw [hy342]; with_reducible exact H2_) | (have H2_ := (Option.bind_some _ _).symm.trans H; with_reducible exact H2_) | with_reducible exact H | (rw [hy342]; exact H) | exact H
      have Ny342 := am_ hy342
      clear hy342
      obtain rfl := si_ H
      go_enter Try.func71, Try.ntmps71
      try go_wp2_with (first | ((with_reducible refine a1d (N := 3) rfl ?_); refine qev_ 3 #[.int .i64 a1_0, .int .i64 a1_1] 56 ?_; intro gb338 hg w16 hbox hb; replace HO0 := am_ (Kd.a5z (Kd.a6i (qr_ HO0) gb338 (Nat.le_of_eq hg.symm)) hb); have BK338 := am_ (hbox); have GW338 := am_ ((by rw [hg]; exact (by first | exact HK.out.1 | exact (show Kept w _ (fun k_ => P0_ k_) from by repeat (first | (with_reducible first | exact HK.out | apply Kept.alloc | apply Kept.drewN | apply Kept.drew) | exact HK.out)).1) : w.heap.size ≤ gb338)); replace HK := am_ (Kept.below (S := (fun k_ => P0_ k_)) (by repeat (first | (with_reducible first | exact HK.out | apply Kept.alloc | apply Kept.drewN | apply Kept.drew) | exact HK.out)) hb); have GE338 := am_ ((qg_ hg : w0.heap.size ≤ gb338)); replace HB := qbs_ hb; clear hb hbox hg; obtain ⟨Ao17, co17, eo17⟩ := Kd.a3c HO0.out; subst eo17))
      replace HO0 := am_ (Kd.a2f HO0.out)
      replace BK338 := am_ (bd_ BK338.out)
      replace HK := am_ (Kept.drew HK.out)
      replace HB := am_ (ld_ HB.out)
      have p339 : 0 ≤ ((ji4) : Int) := ot_
      have q339 : (ji4) < (l0.length : Int) := ot_
      obtain ⟨ad339, e339, hx339_0, hx339_1⟩ := a5d (Kd.a1g HO0.out).2.2 (ji4) p339 q339
      cases e339
      replace p339 := eq_true p339
      replace q339 := eq_true q339
      refine a4r (n := 13) (S := fun w' => w'.cell? ⟨gb338, 0, none⟩ = some (.int .i64 a1_0) ∧ w'.cell? ⟨gb338, 1, none⟩ = some (.int .i64 a1_1) ∧ w'.cell? (ad339.add (((ji4)).toNat * 2)) = some (.int .i64 ((a0h l0 (ji4)).f0)) ∧ w'.cell? ⟨(ad339.add (((ji4)).toNat * 2)).block, (ad339.add (((ji4)).toNat * 2)).off + 1, none⟩ = some (.int .i64 ((a0h l0 (ji4)).f1))) (ds := []) #[Y,Y,Y,Y,Y,Y,Y,Y,Y,Y,Y,Y,Y] (by kernel_rfl) rfl rfl ⟨(bc_ BK338.out 0).trans rfl, (bc_ BK338.out 1).trans rfl, hx339_0, hx339_1⟩ (fun hHeld => ?_); refine a3n a3e.tab2 a3e.b8t (fun HT_ HW_ => ?_)
      generalize w16.drew = w18 at HO0 BK338 HK HB hx339_0 hx339_1 hHeld ⊢
      refine qpu_ 0 (some 8) #[Z,Y,Y,Y,Y,Y,Y,Y,Y,Y,Y,Y,Y] ?_
      refine qpu_ 1 (some 9) #[Z,Z,Y,Y,Y,Y,Y,Y,Y,Y,Y,Y,Y] ?_
      refine qpu_ 2 (some 10) #[Z,Z,Z,Y,Y,Y,Y,Y,Y,Y,Y,Y,Y] ?_
      refine qpu_ 3 (some 11) #[Z,Z,Z,Z,Y,Y,Y,Y,Y,Y,Y,Y,Y] ?_
      refine qpu_ 4 (some 12) #[Z,Z,Z,Z,Z,Y,Y,Y,Y,Y,Y,Y,Y] ?_
      refine qpu_ 5 (some 13) #[Z,Z,Z,Z,Z,Z,Y,Y,Y,Y,Y,Y,Y] ?_
      refine qpu_ 6 (some 14) #[Z,Z,Z,Z,Z,Z,Z,Y,Y,Y,Y,Y,Y] ?_
      refine qpu_ 7 (some 15) #[Z,Z,Z,Z,Z,Z,Z,Z,Y,Y,Y,Y,Y] ?_
      refine qpu_ 9 (some 17) #[Z,Z,Z,Z,Z,Z,Z,Z,Y,Z,Y,Y,Y] ?_
      refine a5q (i := 8) (N := some 16) (v := ?_) (a' := ?_) #[Z,Z,Z,Z,Z,Z,Z,Z,Z,Z,Y,Y,Y] rfl rfl (a5c HT_.out HW_.out (by kernel_rfl)) (fun _ _ _ h => h) (Or.inl ⟨by rfl, ?_⟩) hHeld ?_ ?_
      rotate_left
      ·rintro w' ⟨s0, s1, s2, s3⟩
       go_simp
       with_reducible rfl
      rotate_left
      ·exact qp_
      refine a5q (i := 10) (N := some 18) (v := ?_) (a' := ?_) #[Z,Z,Z,Z,Z,Z,Z,Z,Z,Z,Z,Y,Y] rfl rfl (a5c HT_.out HW_.out (by kernel_rfl)) (fun _ _ _ h => h) (Or.inl ⟨by rfl, ?_⟩) hHeld ?_ ?_
      rotate_left
      ·rintro w' ⟨s0, s1, s2, s3⟩
       go_simp
       with_reducible rfl
      rotate_left
      ·exact qp_
      refine qpu_ 11 (some 19) #[Z,Z,Z,Z,Z,Z,Z,Z,Z,Z,Z,Z,Y] ?_
      refine qpu_ 12 (some 20) #[Z,Z,Z,Z,Z,Z,Z,Z,Z,Z,Z,Z,Z] ?_
      refine a5a (a4h HT_.out (by kernel_rfl)) ?_
      obtain ⟨z'19_0, z'19_1⟩ := qz2_ BK338; obtain ⟨y'19_0, y'19_1⟩ := qf2_ BK338
      try go_wp2_with (first | ((with_reducible refine a9k (b := .append) (xs := #[.tmp 36, .tmp 38]) rfl ?_); at_builtin; refine Kd.b2t k56 (w0 := w0) w0.heap.size rfl (.tmp 36) (.tmp 38) 34 56 (.agg #[(.int .i64 0), (.int .i64 0)]) 16 rfl Try.underlying34 b3k rfl (by decide) (by omega) (.slice (some ad339) l0.length co17) l0 (⟨a1_0, a1_1⟩ : S56) [.int .i64 a1_0, .int .i64 a1_1] (fun k_ => (P0_ k_ ∨ w.heap.size ≤ k_) ∧ k_ ≠ gb338) (fun _ => False) rfl rfl ?aP (fun _ hk => hk.elim) ?aF ?aO ?aB ?aS ?aL ?_; (case aP => exact a6r _ _ _ (⟨a1_0, a1_1⟩ : S56)); (case aB => exact qb_); (case aF => exact (fun k_ hk => ⟨(.inr (Nat.le_trans (by first | exact HK.out.1 | exact (show Kept w _ (fun k_ => P0_ k_) from by repeat (first | (with_reducible first | exact HK.out | apply Kept.alloc | apply Kept.drewN | apply Kept.drew | refine Kept.setCell ?_ (.inr GW338.out) _) | exact HK.out)).1) hk)), Kd.a7c (g := gb338) (o := .cells #[.int .i64 a1_0, .int .i64 a1_1] 56 (0, 0)) (qk_ BK338) k_ hk⟩)); (case aO => exact (qr_ HO0)); (case aS => exact (a0r qb_)); (case aL => have := LMc15.out; omega); intro v343 w20 ho hb hg hat; rw [← Ny342.out] at ho; replace BK338 := am_ (a4w (g := gb338) (o := .cells #[.int .i64 a1_0, .int .i64 a1_1] 56 (0, 0)) (qk_ BK338) hg (Kd.a9g HO0.out (fun _ hk => hk.2))); replace HB := am_ (hb); replace HK := am_ (Kept.a9f (S := (fun k_ => P0_ k_)) hg (by repeat (first | (with_reducible first | exact HK.out | apply Kept.alloc | apply Kept.drewN | apply Kept.drew | refine Kept.setCell ?_ (.inr GW338.out) _) | exact HK.out)) (fun k_ e_ => (HO0.out.1 k_ e_).1)); have HO344 := am_ (ho); clear HO0 ho hb hg hat))
      go_ret
      exact ⟨_, by first | rfl | (simp [a4j, a4k] <;> rfl) | (simp only [← hji4]; first | rfl | (simp [a4j, a4k] <;> rfl)) | (simp [*, a4j, a4k] <;> rfl), by (with_reducible repeat (first | apply Kd.a2k | apply Kd.a2l | apply Kd.a2f)); exact Kd.a2x HO344.out (fun _ hk => hk.1), by repeat (first | (with_reducible first | exact HB.out | apply la_ | apply ln_ | apply ld_ | refine ls_ ?_ GE338.out) | exact HB.out), by repeat (first | (with_reducible first | exact HK.out | apply Kept.alloc | apply Kept.drewN | apply Kept.drew | refine Kept.setCell ?_ (.inr GW338.out) _) | exact HK.out)⟩
     ·rw [if_neg c15] at H
      exact absurd H (by simp)
   ·rw [if_neg c6] at H
    exact absurd H (by simp)
  ·rw [if_neg c5] at H
   exact absurd H (by simp)
 ·rw [if_neg c3] at H
  have c3b0 : decide (0 < (l0.length : Int)) = false := decide_eq_false c3
  have c3b1 : decide (0 < l0.length) = false := decide_eq_false (by omega)
  clear c3
  by_cases c21 : l0.length < 8796093022208
  ·rw [if_pos c21] at H
   have LMc21 := am_ c21
   clear c21
   obtain ⟨y345, hy345⟩ : ∃ y_ : List (S56), y_ = (l0 ++ [(⟨a1_0, a1_1⟩ : S56)]) := ⟨_, rfl⟩
   replace H : (some y345) = some r := by first | (rw [hy345]; with_reducible exact H) | (have H2_ := (Option.bind_some _ _).symm.trans H; rw [hy345]; with_reducible exact H2_) | (have H2_ := (Option.bind_some _ _).symm.trans H; with_reducible exact H2_) | with_reducible exact H | (rw [hy345]; exact H) | exact H
   have Ny345 := am_ hy345
   clear hy345
   obtain rfl := si_ H
   go_enter Try.func71, Try.ntmps71
   try go_wp2_with (first | ((with_reducible refine a1d (N := 3) rfl ?_); refine qev_ 3 #[.int .i64 a1_0, .int .i64 a1_1] 56 ?_; intro gb338 hg w22 hbox hb; replace HO0 := am_ (Kd.a5z (Kd.a6i (qr_ HO0) gb338 (Nat.le_of_eq hg.symm)) hb); have BK338 := am_ (hbox); have GW338 := am_ ((by rw [hg]; exact (by first | exact HK.out.1 | exact (show Kept w _ (fun k_ => P0_ k_) from by repeat (first | (with_reducible first | exact HK.out | apply Kept.alloc | apply Kept.drewN | apply Kept.drew) | exact HK.out)).1) : w.heap.size ≤ gb338)); replace HK := am_ (Kept.below (S := (fun k_ => P0_ k_)) (by repeat (first | (with_reducible first | exact HK.out | apply Kept.alloc | apply Kept.drewN | apply Kept.drew) | exact HK.out)) hb); have GE338 := am_ ((qg_ hg : w0.heap.size ≤ gb338)); replace HB := qbs_ hb; clear hb hbox hg; obtain ⟨Ao23, co23, eo23⟩ := Kd.a3c HO0.out; subst eo23))
   replace HO0 := am_ (Kd.a2f HO0.out)
   replace BK338 := am_ (bd_ BK338.out)
   replace HK := am_ (Kept.drew HK.out)
   replace HB := am_ (ld_ HB.out)
   refine a4r (n := 13) (S := fun w' => True) (ds := []) #[Y,Y,Y,Y,Y,Y,Y,Y,Y,Y,Y,Y,Y] (by kernel_rfl) rfl rfl trivial (fun hHeld => ?_); refine a3n a3e.tab2 a3e.b8t (fun HT_ HW_ => ?_)
   generalize w22.drew = w24 at HO0 BK338 HK HB hHeld ⊢
   refine qpu_ 0 (some 8) #[Z,Y,Y,Y,Y,Y,Y,Y,Y,Y,Y,Y,Y] ?_
   refine qpu_ 1 (some 9) #[Z,Z,Y,Y,Y,Y,Y,Y,Y,Y,Y,Y,Y] ?_
   refine qpu_ 2 (some 10) #[Z,Z,Z,Y,Y,Y,Y,Y,Y,Y,Y,Y,Y] ?_
   refine qpv_ 3 (some 11) #[Z,Z,Z,Z,Y,Y,Y,Y,Y,Y,Y,Y,Y] ?_
   refine qpv_ 4 (some 12) #[Z,Z,Z,Z,Z,Y,Y,Y,Y,Y,Y,Y,Y] ?_
   refine qpv_ 5 (some 13) #[Z,Z,Z,Z,Z,Z,Y,Y,Y,Y,Y,Y,Y] ?_
   refine qpv_ 6 (some 14) #[Z,Z,Z,Z,Z,Z,Z,Y,Y,Y,Y,Y,Y] ?_
   refine qpv_ 7 (some 15) #[Z,Z,Z,Z,Z,Z,Z,Z,Y,Y,Y,Y,Y] ?_
   refine qpv_ 8 (some 16) #[Z,Z,Z,Z,Z,Z,Z,Z,Z,Y,Y,Y,Y] ?_
   refine qpv_ 9 (some 17) #[Z,Z,Z,Z,Z,Z,Z,Z,Z,Z,Y,Y,Y] ?_
   refine qpv_ 10 (some 18) #[Z,Z,Z,Z,Z,Z,Z,Z,Z,Z,Z,Y,Y] ?_
   refine qpv_ 11 (some 19) #[Z,Z,Z,Z,Z,Z,Z,Z,Z,Z,Z,Z,Y] ?_
   refine qpu_ 12 (some 20) #[Z,Z,Z,Z,Z,Z,Z,Z,Z,Z,Z,Z,Z] ?_
   refine a5a (a4h HT_.out (by kernel_rfl)) ?_
   obtain ⟨z'25_0, z'25_1⟩ := qz2_ BK338; obtain ⟨y'25_0, y'25_1⟩ := qf2_ BK338
   try go_wp2_with (first | ((with_reducible refine a9k (b := .append) (xs := #[.tmp 36, .tmp 38]) rfl ?_); at_builtin; refine Kd.b2t k56 (w0 := w0) w0.heap.size rfl (.tmp 36) (.tmp 38) 34 56 (.agg #[(.int .i64 0), (.int .i64 0)]) 16 rfl Try.underlying34 b3k rfl (by decide) (by omega) (.slice Ao23 l0.length co23) l0 (⟨a1_0, a1_1⟩ : S56) [.int .i64 a1_0, .int .i64 a1_1] (fun k_ => (P0_ k_ ∨ w.heap.size ≤ k_) ∧ k_ ≠ gb338) (fun _ => False) rfl rfl ?aP (fun _ hk => hk.elim) ?aF ?aO ?aB ?aS ?aL ?_; (case aP => exact a6r _ _ _ (⟨a1_0, a1_1⟩ : S56)); (case aB => exact qb_); (case aF => exact (fun k_ hk => ⟨(.inr (Nat.le_trans (by first | exact HK.out.1 | exact (show Kept w _ (fun k_ => P0_ k_) from by repeat (first | (with_reducible first | exact HK.out | apply Kept.alloc | apply Kept.drewN | apply Kept.drew | refine Kept.setCell ?_ (.inr GW338.out) _) | exact HK.out)).1) hk)), Kd.a7c (g := gb338) (o := .cells #[.int .i64 a1_0, .int .i64 a1_1] 56 (0, 0)) (qk_ BK338) k_ hk⟩)); (case aO => exact (qr_ HO0)); (case aS => exact (a0r qb_)); (case aL => have := LMc21.out; omega); intro v346 w26 ho hb hg hat; rw [← Ny345.out] at ho; replace BK338 := am_ (a4w (g := gb338) (o := .cells #[.int .i64 a1_0, .int .i64 a1_1] 56 (0, 0)) (qk_ BK338) hg (Kd.a9g HO0.out (fun _ hk => hk.2))); replace HB := am_ (hb); replace HK := am_ (Kept.a9f (S := (fun k_ => P0_ k_)) hg (by repeat (first | (with_reducible first | exact HK.out | apply Kept.alloc | apply Kept.drewN | apply Kept.drew | refine Kept.setCell ?_ (.inr GW338.out) _) | exact HK.out)) (fun k_ e_ => (HO0.out.1 k_ e_).1)); have HO347 := am_ (ho); clear HO0 ho hb hg hat))
   go_ret
   exact ⟨_, qx_, by (with_reducible repeat (first | apply Kd.a2k | apply Kd.a2l | apply Kd.a2f)); exact Kd.a2x HO347.out (fun _ hk => hk.1), by repeat (first | (with_reducible first | exact HB.out | apply la_ | apply ln_ | apply ld_ | refine ls_ ?_ GE338.out) | exact HB.out), by repeat (first | (with_reducible first | exact HK.out | apply Kept.alloc | apply Kept.drewN | apply Kept.drew | refine Kept.setCell ?_ (.inr GW338.out) _) | exact HK.out)⟩
  ·rw [if_neg c21] at H
   exact absurd H (by simp)
def a6s.f (l0 : List (S56)) : Option ((List (S56)) × Int) := if (l0.length : Int) > 1000 then (some (([] : List (S56)), 2)) else (some (l0, 0))
set_option maxHeartbeats 8000000 in
set_option maxRecDepth 100000 in
theorem a6s.calls (P0_ : Nat → Prop) (u9000_ : Value) (l0 r1 : List (S56)) (r2 : Int) (w0 w : World) (hB : Below w0.heap.size w0 w) (ho0 : Kd.R k56 56 w w0.heap.size P0_ u9000_ l0) (h : a6s.f l0 = some (r1, r2)) :
  Calls Try.prog 72 #[u9000_] w fun e w' => ∃ v0_ : Value, e = .returned (.tuple #[v0_, .int .i64 r2]) ∧ Kd.R k56 56 w' w0.heap.size (fun k_ => (P0_ k_ ∨ w.heap.size ≤ k_)) v0_ r1 ∧ Below w0.heap.size w0 w' ∧ Kept w w' (fun k_ => P0_ k_) := by
 have HO0 := am_ (show Kd.R k56 56 w w0.heap.size (fun k_ => (P0_ k_ ∨ w.heap.size ≤ k_)) u9000_ l0 from Kd.a2x ho0 (fun k_ hk => (.inl hk)))
 have HK := am_ (Kept.refl w (fun k_ => P0_ k_))
 have HW0 := am_ hB.size
 have HB := am_ hB
 clear hB
 have H : (if (l0.length : Int) > 1000 then (some (([] : List (S56)), 2)) else (some (l0, 0))) = some (r1, r2) := h
 clear h
 by_cases c2 : (l0.length : Int) > 1000
 ·rw [if_pos c2] at H
  have c2b0 : decide (1000 < (l0.length : Int)) = true := decide_eq_true c2
  have c2b1 : decide (1000 < l0.length) = true := decide_eq_true (by omega)
  clear c2
  simp only [Option.some.injEq, Prod.mk.injEq] at H
  obtain ⟨rfl, rfl⟩ := H
  obtain ⟨Ao3, co3, eo3⟩ := Kd.a3c HO0.out
  subst eo3
  go_enter Try.func72, Try.ntmps72
  go_wp2
  go_ret2
  exact ⟨_, qx_, by first | exact Kd.a7i _ _ _ _ _ | exact Kd.N_nil _ _ _ _ _ | exact Kd.a7j _ _ _ _ _ | exact Kd.Q_nil _ _ _ _ _ | exact Kd.S_nil _ _ _ _ _, by repeat (first | (with_reducible first | exact HB.out | apply la_ | apply ln_ | apply ld_) | exact HB.out), by repeat (first | (with_reducible first | exact HK.out | apply Kept.alloc | apply Kept.drewN | apply Kept.drew) | exact HK.out)⟩
 ·rw [if_neg c2] at H
  have c2b0 : decide (1000 < (l0.length : Int)) = false := decide_eq_false c2
  have c2b1 : decide (1000 < l0.length) = false := decide_eq_false (by omega)
  clear c2
  simp only [Option.some.injEq, Prod.mk.injEq] at H
  obtain ⟨rfl, rfl⟩ := H
  obtain ⟨Ao4, co4, eo4⟩ := Kd.a3c HO0.out
  subst eo4
  go_enter Try.func72, Try.ntmps72
  go_wp2
  go_ret2
  exact ⟨_, qx_, by (with_reducible repeat (first | apply Kd.a2k | apply Kd.a2l | apply Kd.a2f)); exact HO0.out, by repeat (first | (with_reducible first | exact HB.out | apply la_ | apply ln_ | apply ld_) | exact HB.out), by repeat (first | (with_reducible first | exact HK.out | apply Kept.alloc | apply Kept.drewN | apply Kept.drew) | exact HK.out)⟩
end Go.Proofs.Ytheibjkjmkanoaa.Px
/- slices.Clone at stretches: a nil slice stays nil, any other is copied. Conditions: fewer than 2^47 bytes. -/
namespace Go.Proofs.Ytheibjkjmkanoaa.Px
open Go.RowKit Go.Proofs.YtheibjkjmkanoaaW.PrintWords Go.Proofs.Ytheibjkjmkanoaa.Given
set_option linter.unusedVariables false
set_option linter.unusedSimpArgs false
def a6y.f (l0 : List S56) : Option (List S56) := if l0.length * 16 ≤ 140737488355328 then some l0 else none
set_option maxHeartbeats 8000000 in
set_option maxRecDepth 100000 in
theorem a6y.calls (A0 : Option Addr) (c0 : Nat) (l0 r : List S56) (w : World) (hr0 : Kd.C k56 w A0 l0.length l0) (hc0 : l0.length ≤ c0) (h : a6y.f l0 = some r) :
  Calls Try.prog 67 #[.slice A0 l0.length c0] w fun e w' => ∃ v0_ : Value, e = .returned (v0_) ∧ Kd.R k56 56 w' w.heap.size (fun _ => True) v0_ r ∧ Below w.heap.size w w' := by
 have qT : ∀ (w : World) (n c n' c' : Nat), (binOp .eql 34 (.slice A0 n c) (.slice none n' c')).run Try.prog w = .ok (.bool A0.isNone) w := fun w n c n' c' => Lib.run_eql_slice_nil w _ _ A0 n c n' c' Try.underlying34
 unfold a6y.f at h
 by_cases hl : l0.length * 16 ≤ 140737488355328
 ·rw [if_pos hl] at h
  obtain rfl := si_ h
  have HR0 := am_ hr0
  have HC0 := am_ hc0
  have HL := am_ hl
  clear hr0 hc0 hl h
  have HB := am_ (Below.refl w.heap.size w)
  cases hA : A0.isNone with
  | true =>
   rw [hA] at qT
   have e0 : l0 = [] := by
    cases l0 with
    | nil => rfl
    | cons x t =>
     obtain ⟨a, e, _⟩ := HR0.out.2.2 (by simp)
     rw [e] at hA
     simp at hA
   go_enter Try.func67, Try.ntmps67
   go_wp2
   go_ret
   exact ⟨_, rfl, by rw [e0]; exact Kd.a7i _ _ _ _ _, qb_⟩
  | false =>
   rw [hA] at qT
   go_enter Try.func67, Try.ntmps67
   go_wp2_with (first | ((with_reducible refine a1d (N := 5) rfl ?_); refine Kd.a6e k56 _ 56 ?hg (N := 5) ?hd (xs := ([] : List (S56))) (inner := []) (ok := fun _ => True) (okp := fun _ => True) ?hr ?hp (fun _ hk => hk) trivial (Below.refl _ _) (Nat.le_refl _) (by simp) ?_; (case hd => rfl); (case hg => rfl); (case hr => exact qq_); (case hp => exact (Reps.none _ _)); intro v455 w53 ho54 hb hg_ hnew_; clear hg_ hnew_; have HO456 := am_ (Kd.a3b ho54 (a0r qb_)); replace HB := qbs_ hb; clear hb ho54) | (at_builtin; refine Kd.b5f k56 (w0 := w) w.heap.size rfl (.tmp 5) (.tmp 6) 34 56 (.agg #[(.int .i64 0), (.int .i64 0)]) 16 rfl Try.underlying34 b3k rfl (by decide) (by omega) v455 [] l0 _ _ _ (fun _ => True) (fun _ => False) rfl rfl ?aO ?aR (fun _ _ h => h) (fun _ h => h.elim) ?aF ?aB ?aS ?aL ?_; (case aR => exact qc_ HR0); (case aB => exact qb_); (case aF => exact (fun _ _ => trivial)); (case aO => exact (qr_ HO456)); (case aS => exact (a0r qb_)); (case aL => have := HL.out; simpa using this); intro v458 w55 ho hb hg hat; replace HB := am_ (hb); have HO459 := am_ (ho); clear HO456 ho hb hg hat))
   go_ret
   exact ⟨_, rfl, by simpa using HO459.out, qb_⟩
 ·rw [if_neg hl] at h
  exact absurd h (by simp)
end Go.Proofs.Ytheibjkjmkanoaa.Px
/- The library's sort of a slice of structs, between two vocabularies: the print's rows of the call's own, and the shelf's rows of k cells. Conditions: as each theorem states. -/
namespace Go.Proofs.Ytheibjkjmkanoaa.Given
open Go.RowKit Go.Sort Go.Proofs.YtheibjkjmkanoaaW.PrintWords Go.Proofs.YtheibjkjmkanoaaW.PrintLast Go.Proofs.YtheibjkjmkanoaaW.PrintMore
set_option linter.unusedVariables false
set_option linter.unusedSimpArgs false
set_option linter.unusedSectionVars false
structure Plain {α : Type} (d : Kd α) (enc : α → List Value) : Prop where
 pmk : ∀ w base ok x, d.M w base ok x (enc x)
 opn : ∀ {w base ok x cs}, d.M w base ok x cs → cs = enc x
 len : ∀ x, (enc x).length = d.sz
 one : ∀ x, ∀ v ∈ enc x, v.oneCell' = true
section
variable {α : Type} [Inhabited α] {d : Kd α} {enc : α → List Value} {e : TypeId} {w : World} {base : Nat} {ok : Nat → Prop} {g n cap : Nat} {xs ys : List α}
theorem c0e (hp : Plain d enc) {inner : List Value} (hr : Reps (fun p c => c = enc p) d.sz xs inner) : (flatK enc d.sz xs.toArray).toList = inner := by
 have hl : (flatK enc d.sz xs.toArray).toList.length = inner.length := by
  rw [Array.length_toList, size_flatK, hr.1]
  simp
 refine List.ext_getElem hl fun t h1 h2 => ?_
 have ht : t < xs.toArray.size * d.sz := by rw [Array.length_toList, size_flatK] at h1; exact h1
 have h0 : 0 < d.sz := by
  rcases Nat.eq_zero_or_pos d.sz with h | h
  ·rw [h] at ht; simp at ht
  ·exact h
 have hq : t / d.sz < xs.length := by
  rw [Nat.div_lt_iff_lt_mul h0]
  simpa using ht
 have hg := get_flatK enc d.sz xs.toArray t ht
 rw [getElem!_pos _ t (by simpa using h1)] at hg
 rw [Array.getElem_toList, hg]
 have he := hr.2 (t / d.sz) (xs[t / d.sz]) (by simp [hq])
 have hx : xs.toArray[t / d.sz]! = xs[t / d.sz] := by simp [hq]
 rw [hx, ← he]
 have hm : t % d.sz < d.sz := Nat.mod_lt _ h0
 have hd := Nat.div_add_mod t d.sz
 rw [Nat.mul_comm] at hd
 have hlen : t % d.sz < ((inner.drop (t / d.sz * d.sz)).take d.sz).length := by rw [he, hp.len]; exact hm
 rw [getElem!_pos ((inner.drop (t / d.sz * d.sz)).take d.sz) (t % d.sz) hlen]
 rw [List.getElem_take, List.getElem_drop]
 congr 1
theorem c0f (hp : Plain d enc) (xs : List α) : Reps (fun p c => c = enc p) d.sz xs (flatK enc d.sz xs.toArray).toList := by
 refine ⟨by rw [Array.length_toList, size_flatK]; simp, fun j p hj => ?_⟩
 obtain ⟨hj1, hj2⟩ := List.getElem?_eq_some_iff.1 hj
 have hb : j * d.sz + d.sz ≤ xs.length * d.sz := by rw [← Nat.succ_mul]; exact Nat.mul_le_mul_right _ hj1
 have hl : (((flatK enc d.sz xs.toArray).toList.drop (j * d.sz)).take d.sz).length = d.sz := by
  rw [List.length_take, List.length_drop, Array.length_toList, size_flatK]
  simp
  omega
 refine List.ext_getElem (by rw [hl, hp.len]) fun t h1 h2 => ?_
 have ht : t < d.sz := by rw [hl] at h1; exact h1
 rw [List.getElem_take, List.getElem_drop, Array.getElem_toList]
 have hlt : j * d.sz + t < xs.toArray.size * d.sz := by simp; omega
 have hg := get_flatK enc d.sz xs.toArray (j * d.sz + t) hlt
 rw [getElem!_pos _ _ (by rw [size_flatK]; exact hlt)] at hg
 rw [hg]
 have e1 : (j * d.sz + t) / d.sz = j := (blk_iff d.sz j _ (by omega)).1 ⟨by omega, by omega⟩
 have e2 : (j * d.sz + t) % d.sz = t := by rw [Nat.mod_eq_sub_div_mul, e1]; omega
 rw [e1, e2]
 have hx : xs.toArray[j]! = p := by simp [hj1, hj2]
 rw [hx, getElem!_pos (enc p) t h2]
theorem b7m (h : d.R e w base ok (.slice (some ⟨g, 0, none⟩) n cap) xs) : n = xs.length := (Kd.a1g h).1
theorem b4y (hp : Plain d enc) (h : d.R e w base ok (.slice (some ⟨g, 0, none⟩) n cap) xs) : ∃ cur, base ≤ g ∧ w.heap[g]? = some (.cells cur e (0, 0)) ∧ n ≤ cap ∧ cap ≤ maxLen ∧ cur.size = cap * d.sz ∧ cur.toList.take (xs.length * d.sz) = (flatK enc d.sz xs.toArray).toList := by
 have hn := b7m h
 obtain ⟨hok, inner, ho, hr⟩ := h
 have hr2 : Reps (fun p c => c = enc p) d.sz xs inner := hr.imp_ (fun p c hc => hp.opn hc)
 rcases ho.2 with ⟨hv, _⟩ | ⟨g', cap', cur, hv, hb, hh, hnc, hcm, hcs, ht⟩
 ·cases hv
 injection hv with ha _ hc
 injection ha with ha
 injection ha with hg
 subst hg; subst hc
 exact ⟨cur, hb, hh, by omega, hcm, hcs, by rw [ht, c0e hp hr2]⟩
theorem c0g (hp : Plain d enc) (h : d.R e w base ok (.slice (some ⟨g, 0, none⟩) n cap) xs) : HoldsK enc d.sz w g 0 xs.toArray ∧ g < w.heap.size := by
 obtain ⟨cur, hb, hh, hnc, hcm, hcs, ht⟩ := b4y hp h
 refine ⟨fun j hj => ⟨?_, by simp [World.frozen?, hh]⟩, (Array.getElem?_eq_some_iff.1 hh).1⟩
 have hj' : j < xs.length * d.sz := by simpa using hj
 have h1 : (cur.toList.take (xs.length * d.sz))[j]? = (flatK enc d.sz xs.toArray).toList[j]? := by rw [ht]
 rw [List.getElem?_take_of_lt hj'] at h1
 simp only [World.cell?, hh, Nat.zero_add]
 simp only [Option.isSome_none, Bool.false_eq_true, if_false]
 rw [← Array.getElem?_toList, h1, Array.getElem?_toList]
 rw [getElem!_pos (flatK enc d.sz xs.toArray) j hj, Array.getElem?_eq_getElem hj]
 rfl
theorem b5z {cur : Array Value} {m : Nat} {os : Array Obj} (hh : w.heap[g]? = some (.cells cur e (0, 0))) (ys : List α) : (sortWorldK enc d.sz w g 0 m ys.toArray os).heap[g]? = some (.cells (putCells id 0 (flatK enc d.sz ys.toArray) cur) e (0, 0)) := by
 have hg : g < w.heap.size := (Array.getElem?_eq_some_iff.1 hh).1
 unfold sortWorldK putRowK
 rw [heap_grow_old _ _ (by simpa using hg)]
 simp [putRow, mapBlock, Sort.ahead, Array.getElem?_modify, hh, onCells]
theorem a8x {m : Nat} {os : Array Obj} (ys : List α) : w.grownBy (sortWorldK enc d.sz w g 0 m ys.toArray os) (some g) := by
 refine ⟨rfl, rfl, rfl, by simp [sortWorldK, putRowK], fun k hk hne => ?_⟩
 unfold sortWorldK putRowK
 rw [heap_grow_old _ _ (by simpa using hk)]
 have : g ≠ k := fun e => hne (by rw [e])
 simp [putRow, mapBlock, Sort.ahead, Array.getElem?_modify, this]
theorem b4g (cur : Array Value) (F : Array Value) (h : F.size ≤ cur.size) : (putCells id 0 F cur).toList.take F.size = F.toList := by
 apply List.ext_getElem?
 intro j
 by_cases hj : j < F.size
 ·rw [List.getElem?_take_of_lt hj, Array.getElem?_toList]
  simp [putCells, hj, show j < cur.size by omega]
 ·rw [List.getElem?_take_eq_none (by omega), List.getElem?_eq_none (by simp; omega)]
theorem b8u {m : Nat} {os : Array Obj} (hp : Plain d enc) (h : d.R e w base ok (.slice (some ⟨g, 0, none⟩) n cap) xs) (hl : ys.length = xs.length) : d.R e (sortWorldK enc d.sz w g 0 m ys.toArray os) base ok (.slice (some ⟨g, 0, none⟩) n cap) ys := by
 obtain ⟨cur, hb, hh, hnc, hcm, hcs, ht⟩ := b4y hp h
 have hn := b7m h
 have hk := h.1
 have hfit : (flatK enc d.sz ys.toArray).size ≤ cur.size := by
  rw [size_flatK, hcs]
  refine Nat.mul_le_mul_right _ ?_
  simp
  omega
 have hlen : (flatK enc d.sz ys.toArray).size = ys.length * d.sz := by simp
 refine ⟨hk, (flatK enc d.sz ys.toArray).toList, ⟨by rw [Array.length_toList, hlen], .inr ⟨g, cap, _, by rw [hl, hn], hb, b5z hh ys, by omega, hcm, by simp [putCells, hcs], ?_⟩⟩, (c0f hp ys).imp_ (fun p c hc => by rw [hc]; exact hp.pmk _ _ _ _)⟩
 have h2 := b4g cur (flatK enc d.sz ys.toArray) hfit
 rw [hlen] at h2
 exact h2
theorem b6a {w0 : World} {m : Nat} {os : Array Obj} (ys : List α) (hB : Below w0.heap.size w0 w) (hg : w0.heap.size ≤ g) : Below w0.heap.size w0 (sortWorldK enc d.sz w g 0 m ys.toArray os) :=
 Below.grown hB (a8x ys) hB.size (fun k hk => by obtain rfl : g = k := si_ hk; exact hg)
theorem b7a {S : Nat → Prop} {m : Nat} {os : Array Obj} (ys : List α) (hS : S g ∨ w.heap.size ≤ g) : Kept w (sortWorldK enc d.sz w g 0 m ys.toArray os) S :=
 Kept.a9f (a8x ys) (Kept.refl w S) (fun k hk => by obtain rfl : g = k := si_ hk; exact hS)
end
section
variable {α : Type}
def b0t (cf : α → α → Int) (x : α) : List α → List α
 | [] => [x]
 | y :: t => if cf x y < 0 then x :: y :: t else y :: b0t cf x t
def a7g (cf : α → α → Int) : List α → List α
 | [] => []
 | x :: t => b0t cf x (a7g cf t)
structure a7p (cf : α → α → Int) : Prop where
 flip : ∀ x y, cf x y < 0 ↔ 0 < cf y x
 trans : ∀ x y z, cf x y ≤ 0 → cf y z ≤ 0 → cf x z ≤ 0
theorem a7p.zero {cf : α → α → Int} (h : a7p cf) {x y : α} (e : cf x y = 0) : cf y x = 0 := by
 have a := (h.flip x y).2
 have b := (h.flip y x).1
 have c := (h.flip y x).2
 have d := (h.flip x y).1
 omega
theorem b0u (cf : α → α → Int) (x : α) : ∀ l : List α, (b0t cf x l).Perm (x :: l)
 | [] => List.Perm.refl _
 | y :: t => by
  unfold b0t
  split
  ·exact List.Perm.refl _
  ·exact ((b0u cf x t).cons y).trans (List.Perm.swap x y t)
theorem b2o (cf : α → α → Int) : ∀ l : List α, (a7g cf l).Perm l
 | [] => List.Perm.refl _
 | x :: t => (b0u cf x _).trans ((b2o cf t).cons x)
theorem b1x {cf : α → α → Int} (h : a7p cf) (x : α) : ∀ {l : List α}, l.Pairwise (fun a b => cf a b ≤ 0) → (b0t cf x l).Pairwise (fun a b => cf a b ≤ 0)
 | [], _ => by simp [b0t]
 | y :: t, hl => by
  obtain ⟨h1, h2⟩ := List.pairwise_cons.1 hl
  unfold b0t
  split
  ·rename_i c
   refine List.pairwise_cons.2 ⟨fun z hz => ?_, hl⟩
   rcases List.mem_cons.1 hz with rfl | hz
   ·omega
   ·exact h.trans x y z (by omega) (h1 z hz)
  ·rename_i c
   refine List.pairwise_cons.2 ⟨fun z hz => ?_, b1x h x h2⟩
   rcases List.mem_cons.1 ((b0u cf x t).subset hz) with rfl | hz
   ·have := (h.flip y z).2
    have := (h.flip z y).1
    have := (h.flip z y).2
    omega
   ·exact h1 z hz
theorem b1f {cf : α → α → Int} (h : a7p cf) : ∀ l : List α, (a7g cf l).Pairwise (fun a b => cf a b ≤ 0)
 | [] => List.Pairwise.nil
 | x :: t => b1x h x (b1f h t)
end
section
variable {α : Type} {cf : α → α → Int}
theorem a7p.swo (h : a7p cf) : SWO (ltOf cf) where
 irrefl x := by
  have := h.flip x x
  simp only [ltOf, decide_eq_false_iff_not]
  omega
 trans x y z h1 h2 := by
  simp only [ltOf, decide_eq_true_eq] at *
  have a := h.trans x y z (by omega) (by omega)
  have b := (h.flip y z).1 h2
  rcases Int.lt_or_le (cf x z) 0 with c | c
  ·exact c
  ·have e := h.zero (x := x) (y := z) (by omega)
   have := h.trans z x y (by omega) (by omega)
   omega
 ntrans x y z h1 h2 := by
  simp only [ltOf, decide_eq_false_iff_not] at *
  have a := h.flip y x
  have b := h.flip z y
  have c := h.flip x z
  have d := h.flip x y
  have f := h.flip y z
  have := h.trans z y x (by omega) (by omega)
  omega
end
def Grew (w W : World) : Prop := ∃ q os, W = grow (w.drewN q) os
theorem Grew.refl (w : World) : Grew w w := ⟨0, #[], by simp [grow, World.drewN]⟩
theorem Grew.drewN {w W : World} (h : Grew w W) (n : Nat) : Grew w (W.drewN n) := by
 obtain ⟨q, os, rfl⟩ := h
 exact ⟨q + n, os, by simp [grow, World.drewN, Nat.add_assoc]⟩
theorem Grew.drew {w W : World} (h : Grew w W) : Grew w W.drew := h.drewN 1
theorem Grew.alloc {w W W2 : World} {o : Obj} (h : Grew w W) (e : W2 = W.alloc o) : Grew w W2 := by
 obtain ⟨q, os, rfl⟩ := h
 subst e
 exact ⟨q, os ++ #[o], by rw [alloc_eq_grow, grow_grow]⟩
section
variable {P : Program} {ops : Array Oper} {rest : List Oper} {o : Oper} {a : Act} {Q : Exit → Act → World → Prop}
theorem b8v {W : World} (N : Tmp) (cs : Array Value) (t : TypeId)
  (h : ∀ g, g = W.heap.size → ∀ w1, w1.heap[g]? = some (.cells cs t (0, 0)) → Below W.heap.size W w1 → w1 = W.alloc (.cells cs t (0, 0)) → wpList P ops Q rest (a.put o.dst (.pointer (some ⟨g, 0, none⟩))) w1)
  (hd : o.dst = some N := by rfl) (hgd : o.guard = none := by rfl)
  (hrun : (execOp a.eval o).run P W = .ok (.value (.pointer (some ⟨W.heap.size, 0, none⟩))) (W.alloc (.cells cs t (0, 0))) := by first | (go_simp; done) | (go_simp; rfl)) : wpList P ops Q (o :: rest) a W :=
 Kd.a8p hgd hrun (h _ rfl _ (b2d W _) (la_ (Below.refl _ _) _) rfl)
variable {α : Type} {Kc : Act → World → Prop}
end
end Go.Proofs.Ytheibjkjmkanoaa.Given
/- The library's sort (slices.SortFunc) of stretches by their first days, with the closure that span.by hands back: the shelf's contract, laid at this program. Conditions: fewer than 2^62 elements; the closure's captured variable holds the function that hands back the first day. -/
namespace Go.Proofs.Ytheibjkjmkanoaa.Given
open Go.Shelf
def b8w : Go.Shelf.Ren := ⟨fun | 6 => 68 | 15 => 77 | 14 => 76 | 28 => 89 | 29 => 90 | 20 => 81 | 21 => 82 | 22 => 83 | 23 => 84 | 24 => 85 | 25 => 86 | 26 => 87 | 27 => 88 | 46 => 92 | 47 => 93 | 48 => 94 | 49 => 95 | 50 => 96 | 57 => 97 | n => n, fun | 22 => 34 | 24 => 56 | 25 => 97 | 3 => 3 | 39 => 107 | 0 => 0 | 53 => 117 | 55 => 119 | 4 => 4 | 46 => 111 | 45 => 110 | 50 => 81 | 5 => 5 | 9 => 9 | 66 => 120 | 70 => 124 | 76 => 126 | 77 => 127 | n => n, fun | n => n⟩
theorem c0h : Go.Proofs.SlLaysF0.n6 Try.prog b8w := {
 mixed := by kernel_rfl
 f6 := ⟨Try.f68.name, by decide, Try.func68.trans (congrArg some (by kernel_rfl))⟩
 f14 := ⟨Try.f76.name, by decide, Try.func76.trans (congrArg some (by kernel_rfl))⟩
 f15 := Try.func77.trans (congrArg some (by kernel_rfl))
 f20 := ⟨Try.f81.name, by decide, Try.func81.trans (congrArg some (by kernel_rfl))⟩
 f21 := ⟨Try.f82.name, by decide, Try.func82.trans (congrArg some (by kernel_rfl))⟩
 f22 := ⟨Try.f83.name, by decide, Try.func83.trans (congrArg some (by kernel_rfl))⟩
 f23 := ⟨Try.f84.name, by decide, Try.func84.trans (congrArg some (by kernel_rfl))⟩
 f24 := ⟨Try.f85.name, by decide, Try.func85.trans (congrArg some (by kernel_rfl))⟩
 f25 := ⟨Try.f86.name, by decide, Try.func86.trans (congrArg some (by kernel_rfl))⟩
 f26 := ⟨Try.f87.name, by decide, Try.func87.trans (congrArg some (by kernel_rfl))⟩
 f27 := ⟨Try.f88.name, by decide, Try.func88.trans (congrArg some (by kernel_rfl))⟩
 f28 := Try.func89.trans (congrArg some (by kernel_rfl))
 f29 := Try.func90.trans (congrArg some (by kernel_rfl))
 f46 := ⟨Try.f92.name, by decide, Try.func92.trans (congrArg some (by kernel_rfl))⟩
 f47 := Try.func93.trans (congrArg some (by kernel_rfl))
 f48 := Try.func94.trans (congrArg some (by kernel_rfl))
 f49 := ⟨Try.f95.name, by decide, Try.func95.trans (congrArg some (by kernel_rfl))⟩
 f50 := ⟨Try.f96.name, by decide, Try.func96.trans (congrArg some (by kernel_rfl))⟩
 f57 := ⟨Try.f97.name, by decide, Try.func97.trans (congrArg some (by kernel_rfl))⟩
 t0 := Try.underlying0
 a0 := Try.isAgg0
 z0 := Try.sizeOf0
 v0 := Try.zeroValue0
 t3 := Try.underlying3
 a3 := Try.isAgg3
 z3 := Try.sizeOf3
 v3 := Try.zeroValue3
 t4 := Try.underlying4
 a4 := Try.isAgg4
 z4 := Try.sizeOf4
 v4 := Try.zeroValue4
 t5 := Try.underlying5
 a5 := Try.isAgg5
 z5 := Try.sizeOf5
 v5 := Try.zeroValue5
 t9 := Try.underlying9
 a9 := Try.isAgg9
 z9 := Try.sizeOf9
 v9 := Try.zeroValue9
 t22 := Try.underlying34
 a22 := Try.isAgg34
 z22 := Try.sizeOf34
 v22 := Try.zeroValue34
 t25 := Try.underlying97
 a25 := Try.isAgg97
 z25 := Try.sizeOf97
 v25 := Try.zeroValue97
 t39 := Try.underlying107
 a39 := Try.isAgg107
 z39 := Try.sizeOf107
 v39 := Try.zeroValue107
 t45 := Try.underlying110
 a45 := Try.isAgg110
 z45 := Try.sizeOf110
 v45 := Try.zeroValue110
 t46 := Try.underlying111
 a46 := Try.isAgg111
 z46 := Try.sizeOf111
 v46 := Try.zeroValue111
 t50 := Try.underlying81
 a50 := Try.isAgg81
 z50 := Try.sizeOf81
 v50 := Try.zeroValue81
 t53 := Try.underlying117
 a53 := Try.isAgg117
 z53 := Try.sizeOf117
 v53 := Try.zeroValue117
 t55 := Try.underlying119
 a55 := Try.isAgg119
 z55 := Try.sizeOf119
 v55 := Try.zeroValue119
 t66 := Try.underlying120
 a66 := Try.isAgg120
 z66 := Try.sizeOf120
 v66 := Try.zeroValue120
 t70 := Try.underlying124
 a70 := Try.isAgg124
 z70 := Try.sizeOf124
 v70 := Try.zeroValue124
 t76 := Try.underlying126
 a76 := Try.isAgg126
 z76 := Try.sizeOf126
 v76 := Try.zeroValue126
 t77 := Try.underlying127
 a77 := Try.isAgg127
 z77 := Try.sizeOf127
 v77 := Try.zeroValue127 }
end Go.Proofs.Ytheibjkjmkanoaa.Given
namespace Go.Proofs.Ytheibjkjmkanoaa.Given
open Go.RowKit Go.Sort Go.Proofs.YtheibjkjmkanoaaW.PrintWords Go.Proofs.YtheibjkjmkanoaaW.PrintLast Go.Proofs.YtheibjkjmkanoaaW.PrintMore Go.Proofs.Ytheibjkjmkanoaa.Px
set_option linter.unusedVariables false
set_option linter.unusedSimpArgs false
theorem Grew.trans {w W W2 : World} (h : Grew w W) (k : Grew W W2) : Grew w W2 := by
 obtain ⟨q, os, rfl⟩ := h
 obtain ⟨q2, os2, rfl⟩ := k
 exact ⟨q + q2, os ++ os2, by simp [grow, World.drewN, Nat.add_assoc, Array.append_assoc]⟩
theorem Grew.below {w W : World} (h : Grew w W) : Below w.heap.size w W := by
 obtain ⟨q, os, rfl⟩ := h
 refine ⟨rfl, rfl, rfl, by simp [grow, World.drewN], fun k hk => ?_⟩
 show (w.heap ++ os)[k]? = w.heap[k]?
 rw [Array.getElem?_append_left hk]
set_option maxHeartbeats 8000000 in
set_option maxRecDepth 100000 in
theorem a5k.grows (a0_0 a0_1 r : Int) (w : World) (h : a5k.f a0_0 a0_1 = some r) :
  Calls Try.prog 70 #[.agg #[.int .i64 a0_0, .int .i64 a0_1]] w fun e w' => e = .returned (.int .i64 r) ∧ Grew w w' := by
 have hu56 := Try.underlying56
 have HB := am_ (Below.refl w.heap.size w)
 have HG := am_ (Grew.refl w)
 have H : (some a0_0) = some r := h
 clear h
 obtain rfl := si_ H
 go_enter Try.func70, Try.ntmps70
 go_wp2_with (first | ((with_reducible refine a1d (N := 1) rfl ?_); refine b8v 1 #[.int .i64 a0_0, .int .i64 a0_1] 56 ?_; intro gb101 hg w2 hbox hb heq_; replace HG := am_ (HG.out.alloc heq_); clear heq_; have BK101 := am_ (hbox); have GW101 := qga_ hg; have GE101 := qga_ hg; replace HB := qbs_ hb; clear hb hbox hg; obtain ⟨z'3_0, z'3_1⟩ := qz2_ BK101; obtain ⟨y'3_0, y'3_1⟩ := qf2_ BK101))
 go_ret
 exact ⟨qx_, HG.out⟩
set_option maxHeartbeats 8000000 in
set_option maxRecDepth 100000 in
theorem a4d.grows (a0_0 a0_1 a1_0 a1_1 : Int) (gq2 : Nat)  (r : Int) (w : World) (hq2 : w.heap[gq2]? = some (.cells #[.func (.func 70) #[] #[]] 99 (0, 0))) (h : a4d.f a0_0 a0_1 a1_0 a1_1 = some r) :
  Calls Try.prog 78 #[.agg #[.int .i64 a0_0, .int .i64 a0_1], .agg #[.int .i64 a1_0, .int .i64 a1_1], .pointer (some ⟨gq2, 0, none⟩)] w fun e w' => e = .returned (.int .i64 r) ∧ Grew w w' := by
 have hu56 := Try.underlying56
 have BK104 := am_ hq2
 clear hq2
 have HB := am_ (Below.refl w.heap.size w)
 have HG := am_ (Grew.refl w)
 have H : ((a5k.f a0_0 a0_1).bind fun t107 => ((a5k.f a1_0 a1_1).bind fun t108 => ((cmp_Compare_int.f t107 t108).bind fun t109 => (some t109)))) = some r := h
 clear h
 replace H := bm_ H
 obtain ⟨t107, A40, H⟩ := H
 replace H : ((a5k.f a1_0 a1_1).bind fun t108 => ((cmp_Compare_int.f t107 t108).bind fun t109 => (some t109))) = some r := H
 have A4 := am_ A40
 clear A40
 replace H := bm_ H
 obtain ⟨t108, A50, H⟩ := H
 replace H : ((cmp_Compare_int.f t107 t108).bind fun t109 => (some t109)) = some r := H
 have A5 := am_ A50
 clear A50
 replace H := bm_ H
 obtain ⟨t109, A60, H⟩ := H
 replace H : (some t109) = some r := H
 have A6 := am_ A60
 clear A60
 obtain rfl := si_ H
 go_enter Try.func78, Try.ntmps78
 try go_wp2_with (first | ((with_reducible refine a1d (N := 3) rfl ?_); refine b8v 3 #[.int .i64 a0_0, .int .i64 a0_1] 56 ?_; intro gb105 hg w7 hbox hb heq_; replace HG := am_ (HG.out.alloc heq_); clear heq_; have BK105 := am_ (hbox); have GW105 := qga_ hg; have GE105 := qga_ hg; replace HB := qbs_ hb; have NB104_105 := am_ ((by rw [hg]; exact Nat.ne_of_lt (a4c (qk_ BK104)) : gq2 ≠ gb105)); have NB105_104 := am_ ((by rw [hg]; exact Nat.ne_of_gt (a4c (qk_ BK104)) : gb105 ≠ gq2)); replace BK104 := qkb_ BK104 hb; clear hb hbox hg) | ((with_reducible refine a1d (N := 4) rfl ?_); refine b8v 4 #[.int .i64 a1_0, .int .i64 a1_1] 56 ?_; intro gb106 hg w8 hbox hb heq_; replace HG := am_ (HG.out.alloc heq_); clear heq_; have BK106 := am_ (hbox); have GW106 := qga_ hg; have GE106 := qga_ hg; replace HB := qbs_ hb; have NB104_106 := am_ ((by rw [hg]; exact Nat.ne_of_lt (a4c (qk_ BK104)) : gq2 ≠ gb106)); have NB106_104 := am_ ((by rw [hg]; exact Nat.ne_of_gt (a4c (qk_ BK104)) : gb106 ≠ gq2)); replace BK104 := qkb_ BK104 hb; have NB105_106 := am_ ((by rw [hg]; exact Nat.ne_of_lt (a4c (qk_ BK105)) : gb105 ≠ gb106)); have NB106_105 := am_ ((by rw [hg]; exact Nat.ne_of_gt (a4c (qk_ BK105)) : gb106 ≠ gb105)); replace BK105 := qkb_ BK105 hb; clear hb hbox hg))
 replace BK104 := am_ (bd_ BK104.out)
 replace BK105 := am_ (bd_ BK105.out)
 replace BK106 := am_ (bd_ BK106.out)
 replace HB := am_ (ld_ HB.out)
 replace HG := am_ (HG.out.drew)
 refine a4r (n := 8) (S := fun w' => w'.cell? ⟨gq2, 0, none⟩ = some (.func (.func 70) #[] #[]) ∧ w'.cell? ⟨gb105, 0, none⟩ = some (.int .i64 a0_0) ∧ w'.cell? ⟨gb105, 1, none⟩ = some (.int .i64 a0_1) ∧ w'.cell? ⟨gb106, 0, none⟩ = some (.int .i64 a1_0) ∧ w'.cell? ⟨gb106, 1, none⟩ = some (.int .i64 a1_1)) (ds := []) #[Y,Y,Y,Y,Y,Y,Y,Y] (by kernel_rfl) rfl rfl ⟨(bc_ BK104.out 0).trans rfl, (bc_ BK105.out 0).trans rfl, (bc_ BK105.out 1).trans rfl, (bc_ BK106.out 0).trans rfl, (bc_ BK106.out 1).trans rfl⟩ (fun hHeld => ?_); refine a3n a4d.tab1 a4d.a8y (fun HT_ HW_ => ?_)
 generalize w8.drew = w9 at BK104 BK105 BK106 HB HG hHeld ⊢
 refine a5q (i := 0) (N := some 6) (v := ?_) (a' := ?_) #[Z,Y,Y,Y,Y,Y,Y,Y] rfl rfl (a5c HT_.out HW_.out (by kernel_rfl)) (fun _ _ _ h => h) (Or.inl ⟨by rfl, ?_⟩) hHeld ?_ ?_
 rotate_left
 ·rintro w' ⟨s0, s1, s2, s3, s4⟩
  go_simp
  with_reducible rfl
 rotate_left
 ·exact qp_
 refine a5q (i := 1) (N := some 7) (v := ?_) (a' := ?_) #[Z,Z,Y,Y,Y,Y,Y,Y] rfl rfl (a5c HT_.out HW_.out (by kernel_rfl)) (fun _ _ _ h => h) (Or.inl ⟨by rfl, ?_⟩) hHeld ?_ ?_
 rotate_left
 ·rintro w' ⟨s0, s1, s2, s3, s4⟩
  go_simp
  with_reducible rfl
 rotate_left
 ·exact qp_
 refine a5q (i := 3) (N := some 9) (v := ?_) (a' := ?_) #[Z,Z,Y,Z,Y,Y,Y,Y] rfl rfl (a5c HT_.out HW_.out (by kernel_rfl)) (fun _ _ _ h => h) (Or.inl ⟨by rfl, ?_⟩) hHeld ?_ ?_
 rotate_left
 ·rintro w' ⟨s0, s1, s2, s3, s4⟩
  go_simp
  with_reducible rfl
 rotate_left
 ·exact qp_
 refine a5q (i := 4) (N := some 10) (v := ?_) (a' := ?_) #[Z,Z,Y,Z,Z,Y,Y,Y] rfl rfl (a5c HT_.out HW_.out (by kernel_rfl)) (fun _ _ _ h => h) (Or.inl ⟨by rfl, ?_⟩) hHeld ?_ ?_
 rotate_left
 ·rintro w' ⟨s0, s1, s2, s3, s4⟩
  go_simp
  with_reducible rfl
 rotate_left
 ·exact qp_
 refine one_ (i := 2) (N := some 8) #[Z,Z,Z,Z,Z,Y,Y,Y] rfl rfl (a4n HT_.out (by kernel_rfl)) (by decide) (fun K hK => ?_)
 refine b9s Try.func70 (by kernel_rfl) rfl #[.agg #[.int .i64 a0_0, .int .i64 a0_1]] (by rfl) rfl rfl (by rfl) ql_ ?_
 with_reducible refine (a5k.grows a0_0 a0_1 t107 _ A4.out).mono ?_
 rintro e w10 ⟨rfl, hgr_⟩
 have hb := hgr_.below
 replace HG := am_ (HG.out.trans hgr_)
 clear hgr_
 refine ⟨_, rfl, ?_⟩
 replace BK104 := qkb_ BK104 hb
 replace BK105 := qkb_ BK105 hb
 replace BK106 := qkb_ BK106 hb
 replace HB := qbs_ hb
 (try clear hb)
 (try clear hb2)
 (try clear hk)
 (try clear hi)
 refine hK.out _ _ ⟨(bc_ BK104.out 0).trans rfl, (bc_ BK105.out 0).trans rfl, (bc_ BK105.out 1).trans rfl, (bc_ BK106.out 0).trans rfl, (bc_ BK106.out 1).trans rfl⟩ (fun hHeld => ?_)
 clear hK K
 refine a4p (a' := ?_) ?_ ?_
 rotate_left
 ·show Act.put _ (some 8) _ = _
  exact qp_
 refine one_ (i := 5) (N := some 11) #[Z,Z,Z,Z,Z,Z,Y,Y] rfl rfl (a4n HT_.out (by kernel_rfl)) (by decide) (fun K hK => ?_)
 refine b9s Try.func70 (by kernel_rfl) rfl #[.agg #[.int .i64 a1_0, .int .i64 a1_1]] (by rfl) rfl rfl (by rfl) ql_ ?_
 with_reducible refine (a5k.grows a1_0 a1_1 t108 _ A5.out).mono ?_
 rintro e w11 ⟨rfl, hgr_⟩
 have hb := hgr_.below
 replace HG := am_ (HG.out.trans hgr_)
 clear hgr_
 refine ⟨_, rfl, ?_⟩
 replace BK104 := qkb_ BK104 hb
 replace BK105 := qkb_ BK105 hb
 replace BK106 := qkb_ BK106 hb
 replace HB := qbs_ hb
 (try clear hb)
 (try clear hb2)
 (try clear hk)
 (try clear hi)
 refine hK.out _ _ ⟨(bc_ BK104.out 0).trans rfl, (bc_ BK105.out 0).trans rfl, (bc_ BK105.out 1).trans rfl, (bc_ BK106.out 0).trans rfl, (bc_ BK106.out 1).trans rfl⟩ (fun hHeld => ?_)
 clear hK K
 refine a4p (a' := ?_) ?_ ?_
 rotate_left
 ·show Act.put _ (some 11) _ = _
  exact qp_
 refine one_ (i := 6) (N := some 12) #[Z,Z,Z,Z,Z,Z,Z,Y] rfl rfl (a4n HT_.out (by kernel_rfl)) (by decide) (fun K hK => ?_)
 refine a5f Try.func79 (by kernel_rfl) rfl #[.int .i64 t107, .int .i64 t108] (by rfl) rfl rfl ql_ ?_
 with_reducible refine (cmp_Compare_int.calls t107 t108 t109 _ A6.out).mono ?_
 rintro e w' ⟨rfl, ⟨nd, rfl⟩⟩
 replace HG := am_ (HG.out.drewN nd)
 refine ⟨_, rfl, ?_⟩
 refine hK.out _ _ ⟨(bc_ BK104.out 0).trans rfl, (bc_ BK105.out 0).trans rfl, (bc_ BK105.out 1).trans rfl, (bc_ BK106.out 0).trans rfl, (bc_ BK106.out 1).trans rfl⟩ (fun hHeld => ?_)
 clear hK K
 refine a4p (a' := ?_) ?_ ?_
 rotate_left
 ·show Act.put _ (some 12) _ = _
  exact qp_
 refine qpu_ 7 (some 5) #[Z,Z,Z,Z,Z,Z,Z,Z] ?_
 refine a5a (a4h HT_.out (by kernel_rfl)) ?_
 try go_wp2
 go_ret
 exact ⟨qx_, HG.out⟩
instance : Inhabited S56 := ⟨z56⟩
def a9t (x : S56) : List Value := [.int .i64 x.f0, .int .i64 x.f1]
theorem b4h : Plain k56 a9t := ⟨fun w base ok x => a6r w base ok x, fun h => b1u h, fun _ => rfl, fun x v hv => by
 simp only [a9t, List.mem_cons, List.mem_nil_iff, or_false] at hv
 rcases hv with rfl | rfl <;> rfl⟩
theorem c3k (a b : Int) : cmp_Compare_int.f a b = some (if a < b then -1 else if a > b then 1 else 0) := by
 have e : ∀ x : Int, cmp_isNaN_int.f x = some false := fun x => by unfold cmp_isNaN_int.f; simp
 unfold cmp_Compare_int.f
 rw [e, e]
 simp only [Option.bind_some]
 rw [if_neg (by decide), if_neg (by decide)]
 split
 ·rfl
 ·split <;> rfl
def cfF (x y : S56) : Int := if x.f0 < y.f0 then (-1 : Int) else if x.f0 > y.f0 then 1 else 0
theorem c3l (x y : S56) : a4d.f x.f0 x.f1 y.f0 y.f1 = some (cfF x y) := by
 unfold a4d.f a5k.f
 simp only [Option.bind_some]
 rw [c3k]
 rfl
theorem c0i (x y : S56) : cfF x y ≤ 0 ↔ x.f0 ≤ y.f0 := by
 unfold cfF
 (repeat' split) <;> omega
theorem c0j (x y : S56) : cfF x y < 0 ↔ x.f0 < y.f0 := by
 unfold cfF
 (repeat' split) <;> omega
theorem c4m (x y : S56) : 0 < cfF x y ↔ y.f0 < x.f0 := by
 unfold cfF
 (repeat' split) <;> omega
theorem c2m : a7p cfF := ⟨fun x y => by rw [c0j, c4m], fun x y z h1 h2 => by rw [c0i] at *; omega⟩
def b3n : Obj := .cells #[.func (.func 70) #[] #[]] 99 (0, 0)
theorem c1n (blk size : Nat) (w : World) {gy : Nat} (hy : w.heap[gy]? = some b3n) (hne : gy ≠ blk) : CmpLays Try.prog 78 #[.pointer (some ⟨gy, 0, none⟩)] a9t 2 cfF blk 0 size w := by
 intro m os dk _ x y
 have hb : (sortWorldK a9t 2 w blk 0 m dk os).heap[gy]? = some b3n := by
  have h := (a8x (d := k56) (enc := a9t) (w := w) (g := blk) (m := m) (os := os) dk.toList).block gy (a4c hy) (fun e => hne (si_ e))
  simp only [Array.toArray_toList] at h
  exact h.trans hy
 refine (a4d.grows x.f0 x.f1 y.f0 y.f1 gy (cfF x y) _ hb (c3l x y)).mono ?_
 rintro e w' ⟨he, q, os', hw⟩
 exact ⟨he, q, os', hw⟩
def b4i (l l' : List S56) : Prop := l'.Perm l ∧ l'.Pairwise (fun a b => a.f0 ≤ b.f0)
def a3z.f (k : Nat) (l0 : List S56) : Option (List S56) := if (decide (l0.length < 4611686018427387904) && l0.all (fun s => decide (s.f0 < s.f1))) = true then some (a7g cfF l0) else none
theorem a3z.mono : ∀ a0 k, LeO (a3z.f k a0) (a3z.f (k + 1) a0) := fun a0 k => LeO.refl _
theorem b3o {k : Nat} {l r : List S56} (h : a3z.f k l = some r) : l.length < 4611686018427387904 ∧ (∀ s ∈ l, s.f0 < s.f1) ∧ r = a7g cfF l := by
 unfold a3z.f at h
 split at h
 case isFalse => cases h
 rename_i c
 rw [Bool.and_eq_true, decide_eq_true_eq, List.all_eq_true] at c
 exact ⟨c.1, fun s hs => by simpa using c.2 s hs, (si_ h).symm⟩
set_option maxHeartbeats 4000000 in
theorem c1o.calls (P0_ : Nat → Prop) (u9000_ : Value) (l0 : List S56) (gy : Nat) (w0 w : World) (hB : Below w0.heap.size w0 w) (ho0 : Kd.R k56 56 w w0.heap.size P0_ u9000_ l0) (hy : w.heap[gy]? = some b3n) (hn : some gy ≠ u9000_.ownBlock) (hl : l0.length < 4611686018427387904) :
  Calls Try.prog 68 #[u9000_, .func (.func 78) #[] #[.pointer (some ⟨gy, 0, none⟩)]] w fun e w' => e = .returned (.tuple #[]) ∧ ∃ r, b4i l0 r ∧ Kd.R k56 56 w' w0.heap.size (fun k_ => (P0_ k_ ∨ w.heap.size ≤ k_)) u9000_ r ∧ Below w0.heap.size w0 w' ∧ Kept w w' (fun k_ => P0_ k_) := by
 obtain ⟨A, cap, rfl⟩ := Kd.a3c ho0
 cases A with
 | none =>
  have hn : l0 = [] := by
   rcases ho0.2 with ⟨inner, ho, hr⟩
   rcases ho.2 with ⟨_, h0⟩ | ⟨g', cap', cur, hv, _⟩
   ·exact List.length_eq_zero_iff.1 h0
   ·cases hv
  subst hn
  have hcon := AnyF.slices_SortFunc_none c0h none cap (.func (.func 78) #[] #[.pointer (some ⟨gy, 0, none⟩)]) w
  change Calls Try.prog 68 _ _ _ at hcon
  refine hcon.mono ?_
  rintro e w' ⟨rfl, rfl⟩
  exact ⟨rfl, [], ⟨List.Perm.refl _, List.Pairwise.nil⟩, Kd.a2x ho0 (fun k hk => .inl hk), hB, Kept.refl _ _⟩
 | some ad =>
  have hform : ∃ g, ad = ⟨g, 0, none⟩ := by
   rcases ho0.2 with ⟨inner, ho, hr⟩
   rcases ho.2 with ⟨hv, _⟩ | ⟨g', cap', cur, hv, _⟩
   ·cases hv
   ·injection hv with ha _ _
    injection ha with ha
    exact ⟨g', ha⟩
  obtain ⟨g, rfl⟩ := hform
  obtain ⟨hH, hblk⟩ := c0g b4h ho0
  have hbase : w0.heap.size ≤ g := Kd.a3w ho0 g (by simp [Value.ownBlock])
  have hP : P0_ g := ho0.1 g (by simp [Value.ownBlock])
  have hne : gy ≠ g := fun e => hn (by rw [e]; simp [Value.ownBlock])
  have eg : ∀ args w, (callFunc 78 args).run Try.prog w = .ok (.enter 78 args) w := enters_of Try.func78 (by kernel_rfl) rfl
  have hcon := AnyQ.slices_SortFunc c0h 2 Try.isAgg56 Try.sizeOf56 a9t (fun _ => rfl) b4h.one cfF c2m.swo 78 #[.pointer (some ⟨gy, 0, none⟩)] g 0 cap l0.toArray w eg (c1n g l0.toArray.size w hy hne) hH hblk (by simpa using hl)
  change Calls Try.prog 68 _ _ _ at hcon
  refine hcon.mono ?_
  rintro e w' ⟨rfl, d', m, os, hp, hs, rfl⟩
  have hlen : d'.toList.length = l0.length := by
   have := hp.1
   simpa using this
  have hperm : d'.toList.Perm l0 := by
   obtain ⟨hsz, _, hperm⟩ := hp
   have e1 : d'.extract 0 l0.toArray.size = d' := by rw [← hsz]; exact Array.extract_size
   have e2 : l0.toArray.extract 0 l0.toArray.size = l0.toArray := Array.extract_size
   rw [e1, e2] at hperm
   simpa using hperm
  have hord : d'.toList.Pairwise (fun a b => a.f0 ≤ b.f0) := by
   rw [List.pairwise_iff_getElem]
   intro i j hi hj hij
   have hi' : i < d'.size := by simpa using hi
   have hj' : j < d'.size := by simpa using hj
   have hsz := hp.1
   have := hs i j (Nat.zero_le _) hij (by rw [← hsz]; exact hj')
   rw [getElem!_pos d' i hi', getElem!_pos d' j hj'] at this
   simp only [ltOf, decide_eq_false_iff_not] at this
   rw [c0j] at this
   simp only [Array.getElem_toList]
   omega
  refine ⟨rfl, d'.toList, ⟨hperm, hord⟩, ?_, ?_, ?_⟩
  ·have h := b8u (m := m) (os := os) b4h ho0 hlen
   rw [Array.toArray_toList] at h
   exact Kd.a2x h (fun k hk => .inl hk)
  ·have h := b6a (d := k56) (enc := a9t) (m := m) (os := os) d'.toList hB hbase
   rw [Array.toArray_toList] at h
   exact h
  ·have h := b7a (d := k56) (enc := a9t) (m := m) (os := os) (w := w) (g := g) (S := fun k_ => P0_ k_) d'.toList (.inl hP)
   rw [Array.toArray_toList] at h
   exact h
end Go.Proofs.Ytheibjkjmkanoaa.Given
/- span.by at the key that hands back the first day: the closure, and the box that it captures. Conditions: none. -/
namespace Go.Proofs.Ytheibjkjmkanoaa.Given
open Go.RowKit Go.Proofs.YtheibjkjmkanoaaW.PrintWords Go.Proofs.YtheibjkjmkanoaaW.PrintLast Go.Proofs.YtheibjkjmkanoaaW.PrintMore Go.Proofs.Ytheibjkjmkanoaa.Px
set_option linter.unusedVariables false
set_option linter.unusedSimpArgs false
set_option maxHeartbeats 8000000 in
set_option maxRecDepth 100000 in
theorem c3m.calls (w : World) : Calls Try.prog 69 #[.func (.func 70) #[] #[]] w fun e w' => ∃ g_ : Nat, w.heap.size ≤ g_ ∧ e = .returned (.func (.func 78) #[] #[.pointer (some ⟨g_, 0, none⟩)]) ∧ w'.heap[g_]? = some b3n ∧ Below w.heap.size w w' := by
 have HB := am_ (Below.refl w.heap.size w)
 go_enter Try.func69, Try.ntmps69
 go_wp2_with (first | ((with_reducible refine a1d (N := 1) rfl ?_); refine qev_ 1 #[.func (.func 70) #[] #[]] 99 ?_; intro gb101 hg w2 hbox hb; have BK101 := am_ (hbox); have GE101 := qga_ hg; replace HB := qbs_ hb; clear hb hbox hg))
 go_ret
 exact ⟨gb101, GE101.out, rfl, (qk_ BK101), qb_⟩
end Go.Proofs.Ytheibjkjmkanoaa.Given
