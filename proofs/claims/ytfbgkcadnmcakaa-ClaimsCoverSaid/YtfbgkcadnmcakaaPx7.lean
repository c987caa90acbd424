/- Contracts of Go functions, printed. Conditions: as each theorem states. -/
import Derived.Test.YtfbgkcadnmcakaaPx0
namespace Go.Proofs.Ytfbgkcadnmcakaa.Px
open Go.Proofs.Ytfbgkcadnmcakaa.Given
open Go.RowKit Go.Proofs.YtfbgkcadnmcakaaW.PrintWords Go.Proofs.YtfbgkcadnmcakaaW.PrintLast Go.Proofs.YtfbgkcadnmcakaaW.PrintMore
attribute [local go_sem] a2w a2u a3d a3c a2q a2r a2x a2y
set_option linter.unusedVariables false
set_option linter.unusedSimpArgs false
def a0j.l0 : Nat → List (S26) → Int → Int → Int → Int → Option ((List (S26)))
 | 0, _, _, _, _, _ => none
 | k + 1, x0, x1, x2, x3, x10 => if x10 < x3 then (if 0 ≤ (wrap64 (x2 + x10)) then (if (wrap64 (x2 + x10)) < (x0.length : Int) then (if 0 ≤ (wrap64 (x1 + x10)) then (if (wrap64 (x1 + x10)) < (x0.length : Int) then (a0j.l0 k ((x0.set ((wrap64 (x1 + x10)) : Int).toNat (⟨(a0c x0 (wrap64 (x2 + x10))).f0, (a0c x0 (wrap64 (x2 + x10))).f1, (a0c x0 (wrap64 (x2 + x10))).f2, (a0c x0 (wrap64 (x2 + x10))).f3⟩ : S26)).set ((wrap64 (x2 + x10)) : Int).toNat (⟨(a0c x0 (wrap64 (x1 + x10))).f0, (a0c x0 (wrap64 (x1 + x10))).f1, (a0c x0 (wrap64 (x1 + x10))).f2, (a0c x0 (wrap64 (x1 + x10))).f3⟩ : S26)) x1 x2 x3 (wrap64 (x10 + 1))) else (none)) else (none)) else (none)) else (none)) else (some x0)
def a0j.f (k : Nat) (l0 : List (S26)) (a1 a2 a3 : Int)  : Option ((List (S26))) := a0j.l0 k l0 a1 a2 a3 0
theorem a0j.a1k : ∀ k, (∀ y0 y1 y2 y3 y4, LeO (a0j.l0 k y0 y1 y2 y3 y4) (a0j.l0 (k + 1) y0 y1 y2 y3 y4))
 | 0 => fun _ _ _ _ _ r h => by simp [a0j.l0] at h
 | k + 1 => by
  have ih0 := a0j.a1k k
  ·intro y0 y1 y2 y3 y4
   unfold a0j.l0
   with_reducible (repeat' first | apply ih0 | apply LeO.refl | apply LeO.none | apply LeO.ite | refine LeO.bind ?_ (fun _ => ?_))
theorem a0j.mono : ∀ a0 a1 a2 a3 k, LeO (a0j.f k a0 a1 a2 a3) (a0j.f (k + 1) a0 a1 a2 a3) := by
 intro a0 a1 a2 a3 k
 have ih0 := a0j.a1k k
 unfold a0j.f
 with_reducible (repeat' first | apply ih0 | apply LeO.refl | apply LeO.none | apply LeO.ite | refine LeO.bind ?_ (fun _ => ?_))
def a0j.T3 : Bool × List (List Nat × List Nat) := (true, [([], []), ([], []), ([], []), ([1, 2], [1, 2]), ([], []), ([], []), ([], []), ([5, 6], [5, 6]), ([], []), ([], []), ([], []), ([9, 10], [9, 10]), ([8, 11], [8, 11]), ([12], [12]), ([], []), ([], []), ([], []), ([15, 16], [15, 16]), ([14, 17], [14, 17]), ([18], [18]), ([0, 3, 0, 1, 2, 3, 8, 9, 10, 11, 12, 13, 19], [0, 3]), ([20, 13, 0, 1, 2, 3, 8, 9, 10, 11, 12, 13, 19], [13, 20]), ([4, 7, 0, 1, 2, 3, 4, 5, 6, 7, 8, 9, 10, 11, 12, 13, 14, 15, 16, 17, 18, 19, 20, 21], [4, 7]), ([22, 19, 21, 0, 1, 2, 3, 4, 5, 6, 7, 8, 9, 10, 11, 12, 13, 14, 15, 16, 17, 18, 19, 20, 21], [19, 22])])
def a0j.B3 : List Nat := [0, 0, 0, 6, 0, 0, 0, 96, 0, 0, 0, 1536, 3840, 7936, 0, 0, 0, 98304, 245760, 507904, 1048335, 2096911, 4194303, 8388607]
theorem a0j.tab3 : rtab .any (opsOf Try.f75 3) = a0j.T3 := by kernel_rfl
theorem a0j.b5o : a3w a0j.T3.2 a0j.B3 = true := by kernel_rfl
set_option maxHeartbeats 8000000 in
set_option maxRecDepth 100000 in
theorem a0j.calls (k : Nat) (P0_ : Nat → Prop) (u9000_ : Value) (l0 : List (S26)) (a1 a2 a3 : Int)  (r : List (S26)) (w0 w : World) (hB : Below w0.heap.size w0 w) (ho0 : Kd.R k26 26 w w0.heap.size P0_ u9000_ l0) (h : a0j.f k l0 a1 a2 a3 = some r) :
  Calls Try.prog 75 #[u9000_, .int .i64 a1, .int .i64 a2, .int .i64 a3, .func (.func 44) #[] #[]] w fun e w' => e = .returned (.tuple #[]) ∧ Kd.R k26 26 w' w0.heap.size (fun k_ => (P0_ k_ ∨ w.heap.size ≤ k_)) u9000_ r ∧ Below w0.heap.size w0 w' ∧ Kept w w' (fun k_ => P0_ k_) := by
 have hu26 := Try.underlying26
 have HO0 := am_ (show Kd.R k26 26 w w0.heap.size (fun k_ => (P0_ k_ ∨ w.heap.size ≤ k_)) u9000_ l0 from Kd.a0z ho0 (fun k_ hk => (.inl hk)))
 have HK := am_ (Kept.refl w (fun k_ => P0_ k_))
 have HW0 := am_ hB.size
 have HB := am_ hB
 clear hB
 have H : (a0j.l0 k l0 a1 a2 a3 0) = some r := h
 clear h
 have H' := am_ H
 clear H
 go_enter Try.func75, Try.ntmps75
 go_wp2
 go_loopg [10] k (fun kq v10 w' => ∃ (x0_1 : List (S26)) (x10_1 : Int), v10 = .int .i64 x10_1 ∧ Aside0 (a0j.l0 kq x0_1 a1 a2 a3 x10_1 = some r) ∧ Aside0 (kq ≤ k) ∧ Aside0 (Kd.R k26 26 w' w0.heap.size (fun k_ => (P0_ k_ ∨ w.heap.size ≤ k_)) u9000_ x0_1) ∧ Aside0 (Kept w w' (fun k_ => P0_ k_)) ∧ Aside0 (Below w0.heap.size w0 w'))
 case atStart => exact ⟨(l0), (0), qs_, H', ⟨Nat.le_refl _⟩, ⟨by (with_reducible repeat (first | apply Kd.a0n | apply Kd.a0o | apply Kd.a0m)); exact HO0.out⟩, ⟨by repeat (first | (with_reducible first | exact HK.out | apply Kept.alloc | apply Kept.drewN | apply Kept.drew) | exact HK.out)⟩, ⟨qb_⟩⟩
 case round =>
  clear H'
  try clear p2
  obtain ⟨x0_1, x10_1, rfl, HA, HK1, HO_0, HK, HB⟩ := hrel
  cases gk with
  | zero => exact absurd HA.out (by simp [a0j.l0])
  | succ k1 =>
   have H := HA.out
   clear HA
   simp only [a0j.l0] at H
   by_cases c6 : x10_1 < a3
   ·rw [if_pos c6] at H
    have c6b0 : decide (x10_1 < a3) = true := decide_eq_true c6
    clear c6
    obtain ⟨ji7, hji7⟩ : ∃ j_ : Int, (wrap64 (a2 + x10_1)) = j_ := ⟨_, rfl⟩
    replace H : (if 0 ≤ (ji7) then (if (ji7) < (x0_1.length : Int) then (if 0 ≤ (wrap64 (a1 + x10_1)) then (if (wrap64 (a1 + x10_1)) < (x0_1.length : Int) then (a0j.l0 k1 ((x0_1.set ((wrap64 (a1 + x10_1)) : Int).toNat (⟨(a0c x0_1 (ji7)).f0, (a0c x0_1 (ji7)).f1, (a0c x0_1 (ji7)).f2, (a0c x0_1 (ji7)).f3⟩ : S26)).set ((ji7) : Int).toNat (⟨(a0c x0_1 (wrap64 (a1 + x10_1))).f0, (a0c x0_1 (wrap64 (a1 + x10_1))).f1, (a0c x0_1 (wrap64 (a1 + x10_1))).f2, (a0c x0_1 (wrap64 (a1 + x10_1))).f3⟩ : S26)) a1 a2 a3 (wrap64 (x10_1 + 1))) else (none)) else (none)) else (none)) else (none)) = some r := by first | (rw [hji7] at H; exact H) | (simp only [hji7] at H ⊢; exact H)
    have hji7w : (IntKind.i64.wrap (a2 + x10_1)) = ji7 := (a3k _).trans hji7
    by_cases c8 : 0 ≤ (ji7)
    ·rw [if_pos c8] at H
     have c8b0 : decide (0 ≤ (ji7)) = true := decide_eq_true c8
     clear c8
     by_cases c9 : (ji7) < (x0_1.length : Int)
     ·rw [if_pos c9] at H
      have c9b0 : decide ((ji7) < (x0_1.length : Int)) = true := decide_eq_true c9
      clear c9
      obtain ⟨ji10, hji10⟩ : ∃ j_ : Int, (wrap64 (a1 + x10_1)) = j_ := ⟨_, rfl⟩
      replace H : (if 0 ≤ (ji10) then (if (ji10) < (x0_1.length : Int) then (a0j.l0 k1 ((x0_1.set ((ji10) : Int).toNat (⟨(a0c x0_1 (ji7)).f0, (a0c x0_1 (ji7)).f1, (a0c x0_1 (ji7)).f2, (a0c x0_1 (ji7)).f3⟩ : S26)).set ((ji7) : Int).toNat (⟨(a0c x0_1 (ji10)).f0, (a0c x0_1 (ji10)).f1, (a0c x0_1 (ji10)).f2, (a0c x0_1 (ji10)).f3⟩ : S26)) a1 a2 a3 (wrap64 (x10_1 + 1))) else (none)) else (none)) = some r := by first | (rw [hji10] at H; exact H) | (simp only [hji10] at H ⊢; exact H)
      have hji10w : (IntKind.i64.wrap (a1 + x10_1)) = ji10 := (a3k _).trans hji10
      by_cases c11 : 0 ≤ (ji10)
      ·rw [if_pos c11] at H
       have c11b0 : decide (0 ≤ (ji10)) = true := decide_eq_true c11
       clear c11
       by_cases c12 : (ji10) < (x0_1.length : Int)
       ·rw [if_pos c12] at H
        have c12b0 : decide ((ji10) < (x0_1.length : Int)) = true := decide_eq_true c12
        clear c12
        obtain ⟨y146, hy146⟩ : ∃ y_ : List (S26), y_ = (x0_1.set ((ji10) : Int).toNat (⟨(a0c x0_1 (ji7)).f0, (a0c x0_1 (ji7)).f1, (a0c x0_1 (ji7)).f2, (a0c x0_1 (ji7)).f3⟩ : S26)) := ⟨_, rfl⟩
        replace H : (a0j.l0 k1 (y146.set ((ji7) : Int).toNat (⟨(a0c x0_1 (ji10)).f0, (a0c x0_1 (ji10)).f1, (a0c x0_1 (ji10)).f2, (a0c x0_1 (ji10)).f3⟩ : S26)) a1 a2 a3 (wrap64 (x10_1 + 1))) = some r := by first | (rw [hy146]; with_reducible exact H) | (have H2_ := (Option.bind_some _ _).symm.trans H; rw [hy146]; with_reducible exact H2_) | (have H2_ := (Option.bind_some _ _).symm.trans H; with_reducible exact H2_) | with_reducible exact H | (rw [hy146]; exact H) | exact H
        have Ny146 := am_ hy146
        clear hy146
        obtain ⟨y147, hy147⟩ : ∃ y_ : List (S26), y_ = (y146.set ((ji7) : Int).toNat (⟨(a0c x0_1 (ji10)).f0, (a0c x0_1 (ji10)).f1, (a0c x0_1 (ji10)).f2, (a0c x0_1 (ji10)).f3⟩ : S26)) := ⟨_, rfl⟩
        replace H : (a0j.l0 k1 y147 a1 a2 a3 (wrap64 (x10_1 + 1))) = some r := by first | (rw [hy147]; with_reducible exact H) | (have H2_ := (Option.bind_some _ _).symm.trans H; rw [hy147]; with_reducible exact H2_) | (have H2_ := (Option.bind_some _ _).symm.trans H; with_reducible exact H2_) | with_reducible exact H | (rw [hy147]; exact H) | exact H
        have Ny147 := am_ hy147
        clear hy147
        have H' := am_ H
        clear H
        try go_wp2
        replace HO_0 := am_ (Kd.a0m HO_0.out)
        replace HK := am_ (Kept.drew HK.out)
        replace HB := am_ (ld_ HB.out)
        obtain ⟨Ao16, co16, eo16⟩ := Kd.a1v HO_0.out
        (first | subst eo16 | (injection eo16 with f1_ f2_ f3_; have f4_ := f1_.symm; have f5_ := f3_.symm; clear f1_ f2_ f3_; subst f4_; subst f5_))
        have p144 : 0 ≤ ((ji7) : Int) := ot_
        have q144 : (ji7) < (x0_1.length : Int) := ot_
        obtain ⟨ad144, e144, hx144_0, hx144_1, hx144_2, hx144_3⟩ := a3i (Kd.a0p HO_0.out).2.2 (ji7) p144 q144
        cases e144
        replace p144 := eq_true p144
        replace q144 := eq_true q144
        have p145 : 0 ≤ ((ji10) : Int) := ot_
        have q145 : (ji10) < (x0_1.length : Int) := ot_
        obtain ⟨ad145, e145, hx145_0, hx145_1, hx145_2, hx145_3⟩ := a3i (Kd.a0p HO_0.out).2.2 (ji10) p145 q145
        obtain rfl : ad144 = ad145 := (by injection e145)
        replace p145 := eq_true p145
        replace q145 := eq_true q145
        have p13 : 0 ≤ ((ji10) : Int) := ot_
        have q13 : ((ji10) : Int) < ((x0_1.length : Int) : Int) := ot_
        obtain ⟨go13, co13, eo13, gb13, gl13, cl13, HG13⟩ := Kd.a7j HO_0.out (by omega)
        (first | cases eo13 | (injection eo13 with ea_ en_ ec_; (first | subst ea_ | (injection ea_ with ea_; subst ea_)); subst ec_; clear en_))
        have GB13 := am_ gb13
        have GG13 := am_ HG13
        clear gb13 gl13 HG13
        have HMgo13 := am_ (show (P0_ go13 ∨ w.heap.size ≤ go13) from (HO_0.out.1 _ rfl))
        (first | simp only [add_plain] at hx144_0 | skip)
        (first | simp only [add_plain] at hx144_1 | skip)
        (first | simp only [add_plain] at hx144_2 | skip)
        (first | simp only [add_plain] at hx144_3 | skip)
        (first | simp only [add_plain] at hx145_0 | skip)
        (first | simp only [add_plain] at hx145_1 | skip)
        (first | simp only [add_plain] at hx145_2 | skip)
        (first | simp only [add_plain] at hx145_3 | skip)
        obtain ⟨ce13, hcl13, hM13, hcc13, hfr13⟩ := Kd.a3x HO_0.out z26 ((ji10) : Int) p13 q13
        obtain rfl := a3l hM13
        have hx13_0 : World.cell? _ ⟨go13, ((ji10) : Int).toNat * 4, none⟩ = some (.int .i64 ((a0c x0_1 (ji10)).f0)) := hcc13 0 _ rfl
        have hx13_1 : World.cell? _ ⟨go13, ((ji10) : Int).toNat * 4 + 1, none⟩ = some (.int .i64 ((a0c x0_1 (ji10)).f1)) := hcc13 1 _ rfl
        have hx13_2 : World.cell? _ ⟨go13, ((ji10) : Int).toNat * 4 + 2, none⟩ = some (.int .i64 ((a0c x0_1 (ji10)).f2)) := hcc13 2 _ rfl
        have hx13_3 : World.cell? _ ⟨go13, ((ji10) : Int).toNat * 4 + 3, none⟩ = some (.int .i64 ((a0c x0_1 (ji10)).f3)) := hcc13 3 _ rfl
        have hf13_0 : World.frozen? _ ⟨go13, ((ji10) : Int).toNat * 4, none⟩ = false := hfr13 0
        have hf13_1 : World.frozen? _ ⟨go13, ((ji10) : Int).toNat * 4 + 1, none⟩ = false := hfr13 1
        have hf13_2 : World.frozen? _ ⟨go13, ((ji10) : Int).toNat * 4 + 2, none⟩ = false := hfr13 2
        have hf13_3 : World.frozen? _ ⟨go13, ((ji10) : Int).toNat * 4 + 3, none⟩ = false := hfr13 3
        clear hcl13 hcc13 hfr13 hM13
        replace p13 := eq_true p13
        replace q13 := eq_true q13
        obtain ⟨ce17, hcl17, hM17, hcc17, hfr17⟩ := Kd.a3x HO_0.out z26 ((ji10) : Int) (ot_) (by have h_ : ((ji10) : Int) < ((x0_1.length : Int) : Int) := ot_; first | exact h_ | (have e_ := (Kd.a0p HO_0.out).1; omega) | simpa using h_)
        obtain rfl := a3l hM17
        have HP17 := (Kd.a5y HO_0.out ((ji10) : Int) (ot_) (by have h_ : ((ji10) : Int) < ((x0_1.length : Int) : Int) := ot_; first | exact h_ | (have e_ := (Kd.a0p HO_0.out).1; omega) | simpa using h_) (seg := [.int .i64 ((a0c x0_1 (ji7)).f0), .int .i64 ((a0c x0_1 (ji7)).f1), .int .i64 ((a0c x0_1 (ji7)).f2), .int .i64 ((a0c x0_1 (ji7)).f3)]) (j := 0) hcl17 hcc17 (show 4 ≤ 4 from by decide) (x' := (⟨(a0c x0_1 (ji7)).f0, (a0c x0_1 (ji7)).f1, (a0c x0_1 (ji7)).f2, (a0c x0_1 (ji7)).f3⟩ : S26)) (a4w _ _ _ (⟨(a0c x0_1 (ji7)).f0, (a0c x0_1 (ji7)).f1, (a0c x0_1 (ji7)).f2, (a0c x0_1 (ji7)).f3⟩ : S26) ) (fun _ hk => hk)).1
        rw [← Ny146.out] at HP17
        have HQ17 := am_ HP17
        clear hcl17 hcc17 hfr17 hM17 HP17
        have p14 : 0 ≤ ((ji7) : Int) := ot_
        have q14 : ((ji7) : Int) < ((x0_1.length : Int) : Int) := ot_
        obtain ⟨ce14, hcl14, hM14, hcc14, hfr14⟩ := Kd.a3x HQ17.out z26 ((ji7) : Int) p14 q14
        obtain rfl := a3l hM14
        have hx14_0 : World.cell? _ ⟨go13, ((ji7) : Int).toNat * 4, none⟩ = some (.int .i64 ((a0c y146 (ji7)).f0)) := hcc14 0 _ rfl
        have hx14_1 : World.cell? _ ⟨go13, ((ji7) : Int).toNat * 4 + 1, none⟩ = some (.int .i64 ((a0c y146 (ji7)).f1)) := hcc14 1 _ rfl
        have hx14_2 : World.cell? _ ⟨go13, ((ji7) : Int).toNat * 4 + 2, none⟩ = some (.int .i64 ((a0c y146 (ji7)).f2)) := hcc14 2 _ rfl
        have hx14_3 : World.cell? _ ⟨go13, ((ji7) : Int).toNat * 4 + 3, none⟩ = some (.int .i64 ((a0c y146 (ji7)).f3)) := hcc14 3 _ rfl
        have hf14_0 : World.frozen? _ ⟨go13, ((ji7) : Int).toNat * 4, none⟩ = false := hfr14 0
        have hf14_1 : World.frozen? _ ⟨go13, ((ji7) : Int).toNat * 4 + 1, none⟩ = false := hfr14 1
        have hf14_2 : World.frozen? _ ⟨go13, ((ji7) : Int).toNat * 4 + 2, none⟩ = false := hfr14 2
        have hf14_3 : World.frozen? _ ⟨go13, ((ji7) : Int).toNat * 4 + 3, none⟩ = false := hfr14 3
        clear hcl14 hcc14 hfr14 hM14
        replace p14 := eq_true p14
        replace q14 := eq_true q14
        obtain ⟨ce18, hcl18, hM18, hcc18, hfr18⟩ := Kd.a3x HQ17.out z26 ((ji7) : Int) (ot_) (by have h_ : ((ji7) : Int) < ((x0_1.length : Int) : Int) := ot_; first | exact h_ | (have e_ := (Kd.a0p HO_0.out).1; omega) | simpa using h_)
        obtain rfl := a3l hM18
        have HP18 := (Kd.a5y HQ17.out ((ji7) : Int) (ot_) (by have h_ : ((ji7) : Int) < ((x0_1.length : Int) : Int) := ot_; first | exact h_ | (have e_ := (Kd.a0p HO_0.out).1; omega) | simpa using h_) (seg := [.int .i64 ((a0c x0_1 (ji10)).f0), .int .i64 ((a0c x0_1 (ji10)).f1), .int .i64 ((a0c x0_1 (ji10)).f2), .int .i64 ((a0c x0_1 (ji10)).f3)]) (j := 0) hcl18 hcc18 (show 4 ≤ 4 from by decide) (x' := (⟨(a0c x0_1 (ji10)).f0, (a0c x0_1 (ji10)).f1, (a0c x0_1 (ji10)).f2, (a0c x0_1 (ji10)).f3⟩ : S26)) (a4w _ _ _ (⟨(a0c x0_1 (ji10)).f0, (a0c x0_1 (ji10)).f1, (a0c x0_1 (ji10)).f2, (a0c x0_1 (ji10)).f3⟩ : S26) ) (fun _ hk => hk)).1
        rw [← Ny147.out] at HP18
        have HQ18 := am_ HP18
        clear hcl18 hcc18 hfr18 hM18 HP18
        refine a3g (n := 24) (S := fun w' => w'.cell? ⟨go13, (((ji7)).toNat * 4), none⟩ = some (.int .i64 ((a0c x0_1 (ji7)).f0)) ∧ w'.cell? ⟨go13, (((ji7)).toNat * 4) + 1, none⟩ = some (.int .i64 ((a0c x0_1 (ji7)).f1)) ∧ w'.cell? ⟨go13, (((ji7)).toNat * 4) + 2, none⟩ = some (.int .i64 ((a0c x0_1 (ji7)).f2)) ∧ w'.cell? ⟨go13, (((ji7)).toNat * 4) + 3, none⟩ = some (.int .i64 ((a0c x0_1 (ji7)).f3)) ∧ w'.cell? ⟨go13, (((ji10)).toNat * 4), none⟩ = some (.int .i64 ((a0c x0_1 (ji10)).f0)) ∧ w'.cell? ⟨go13, (((ji10)).toNat * 4) + 1, none⟩ = some (.int .i64 ((a0c x0_1 (ji10)).f1)) ∧ w'.cell? ⟨go13, (((ji10)).toNat * 4) + 2, none⟩ = some (.int .i64 ((a0c x0_1 (ji10)).f2)) ∧ w'.cell? ⟨go13, (((ji10)).toNat * 4) + 3, none⟩ = some (.int .i64 ((a0c x0_1 (ji10)).f3))) (ds := [21, 23]) #[i_,i_,i_,i_,i_,i_,i_,i_,i_,i_,i_,i_,i_,i_,i_,i_,i_,i_,i_,i_,i_,i_,i_,i_] (by kernel_rfl) rfl rfl ⟨hx144_0, hx144_1, hx144_2, hx144_3, hx145_0, hx145_1, hx145_2, hx145_3⟩ (fun hHeld => ?_); refine a2l a0j.tab3 a0j.b5o (fun HT_ HW_ => ?_)
        generalize wr.drew = w15 at HO_0 HK HB GG13 HQ17 HQ18 hf13_0 hf13_1 hf13_2 hf13_3 hf14_0 hf14_1 hf14_2 hf14_3 hx13_0 hx13_1 hx13_2 hx13_3 hx144_0 hx144_1 hx144_2 hx144_3 hx145_0 hx145_1 hx145_2 hx145_3 hx14_0 hx14_1 hx14_2 hx14_3 hHeld ⊢
        refine qpu_ 0 (some 16) #[o_,i_,i_,i_,i_,i_,i_,i_,i_,i_,i_,i_,i_,i_,i_,i_,i_,i_,i_,i_,i_,i_,i_,i_] ?_
        refine qpu_ 1 (some 17) #[o_,o_,i_,i_,i_,i_,i_,i_,i_,i_,i_,i_,i_,i_,i_,i_,i_,i_,i_,i_,i_,i_,i_,i_] ?_
        refine qpu_ 2 (some 18) #[o_,o_,o_,i_,i_,i_,i_,i_,i_,i_,i_,i_,i_,i_,i_,i_,i_,i_,i_,i_,i_,i_,i_,i_] ?_
        refine qpu_ 3 (some 19) #[o_,o_,o_,o_,i_,i_,i_,i_,i_,i_,i_,i_,i_,i_,i_,i_,i_,i_,i_,i_,i_,i_,i_,i_] ?_
        refine qpu_ 4 (some 20) #[o_,o_,o_,o_,o_,i_,i_,i_,i_,i_,i_,i_,i_,i_,i_,i_,i_,i_,i_,i_,i_,i_,i_,i_] ?_
        refine qpu_ 5 (some 21) #[o_,o_,o_,o_,o_,o_,i_,i_,i_,i_,i_,i_,i_,i_,i_,i_,i_,i_,i_,i_,i_,i_,i_,i_] ?_
        refine qpu_ 6 (some 22) #[o_,o_,o_,o_,o_,o_,o_,i_,i_,i_,i_,i_,i_,i_,i_,i_,i_,i_,i_,i_,i_,i_,i_,i_] ?_
        refine qpu_ 7 (some 23) #[o_,o_,o_,o_,o_,o_,o_,o_,i_,i_,i_,i_,i_,i_,i_,i_,i_,i_,i_,i_,i_,i_,i_,i_] ?_
        refine qpu_ 8 (some 24) #[o_,o_,o_,o_,o_,o_,o_,o_,o_,i_,i_,i_,i_,i_,i_,i_,i_,i_,i_,i_,i_,i_,i_,i_] ?_
        refine qpu_ 9 (some 25) #[o_,o_,o_,o_,o_,o_,o_,o_,o_,o_,i_,i_,i_,i_,i_,i_,i_,i_,i_,i_,i_,i_,i_,i_] ?_
        refine qpu_ 10 (some 26) #[o_,o_,o_,o_,o_,o_,o_,o_,o_,o_,o_,i_,i_,i_,i_,i_,i_,i_,i_,i_,i_,i_,i_,i_] ?_
        refine qpu_ 11 (some 27) #[o_,o_,o_,o_,o_,o_,o_,o_,o_,o_,o_,o_,i_,i_,i_,i_,i_,i_,i_,i_,i_,i_,i_,i_] ?_
        refine qpu_ 12 (some 28) #[o_,o_,o_,o_,o_,o_,o_,o_,o_,o_,o_,o_,o_,i_,i_,i_,i_,i_,i_,i_,i_,i_,i_,i_] ?_
        refine qpu_ 14 (some 30) #[o_,o_,o_,o_,o_,o_,o_,o_,o_,o_,o_,o_,o_,i_,o_,i_,i_,i_,i_,i_,i_,i_,i_,i_] ?_
        refine qpu_ 15 (some 31) #[o_,o_,o_,o_,o_,o_,o_,o_,o_,o_,o_,o_,o_,i_,o_,o_,i_,i_,i_,i_,i_,i_,i_,i_] ?_
        refine qpu_ 16 (some 32) #[o_,o_,o_,o_,o_,o_,o_,o_,o_,o_,o_,o_,o_,i_,o_,o_,o_,i_,i_,i_,i_,i_,i_,i_] ?_
        refine qpu_ 17 (some 33) #[o_,o_,o_,o_,o_,o_,o_,o_,o_,o_,o_,o_,o_,i_,o_,o_,o_,o_,i_,i_,i_,i_,i_,i_] ?_
        refine qpu_ 18 (some 34) #[o_,o_,o_,o_,o_,o_,o_,o_,o_,o_,o_,o_,o_,i_,o_,o_,o_,o_,o_,i_,i_,i_,i_,i_] ?_
        refine a2g (i := 13) (N := some 29) (v := ?_) (a' := ?_) #[o_,o_,o_,o_,o_,o_,o_,o_,o_,o_,o_,o_,o_,o_,o_,o_,o_,o_,o_,i_,i_,i_,i_,i_] rfl rfl (a1r HT_.out HW_.out (by kernel_rfl)) (fun _ _ _ h => h) (Or.inl ⟨by rfl, ?_⟩) hHeld ?_ ?_
        rotate_left
        ·rintro w' ⟨s0, s1, s2, s3, s4, s5, s6, s7⟩
         go_simp
         with_reducible rfl
        rotate_left
        ·exact qp_
        refine a2g (i := 19) (N := some 35) (v := ?_) (a' := ?_) #[o_,o_,o_,o_,o_,o_,o_,o_,o_,o_,o_,o_,o_,o_,o_,o_,o_,o_,o_,o_,i_,i_,i_,i_] rfl rfl (a1r HT_.out HW_.out (by kernel_rfl)) (fun _ _ _ h => h) (Or.inl ⟨by rfl, ?_⟩) hHeld ?_ ?_
        rotate_left
        ·rintro w' ⟨s0, s1, s2, s3, s4, s5, s6, s7⟩
         go_simp
         with_reducible rfl
        rotate_left
        ·exact qp_
        refine qpu_ 20 (some 36) #[o_,o_,o_,o_,o_,o_,o_,o_,o_,o_,o_,o_,o_,o_,o_,o_,o_,o_,o_,o_,o_,i_,i_,i_] ?_
        refine a6k (i := 21) (N := none) #[o_,o_,o_,o_,o_,o_,o_,o_,o_,o_,o_,o_,o_,o_,o_,o_,o_,o_,o_,o_,o_,o_,i_,i_] rfl rfl (a3h HT_.out (by kernel_rfl)) (by decide) (fun K hK => ?_)
        refine a6l (w1 := ?_) (by rfl) rfl ?_ ?_
        rotate_left
        ·go_simp
         rfl
        refine hK.out _ _ ?_
        clear hK K
        obtain ⟨ww_, hWW_⟩ : ∃ w_, World.setCells w15 go13 (((ji10) : Int).toNat * k26.sz + 0) [.int .i64 ((a0c x0_1 (ji7)).f0), .int .i64 ((a0c x0_1 (ji7)).f1), .int .i64 ((a0c x0_1 (ji7)).f2), .int .i64 ((a0c x0_1 (ji7)).f3)] = w_ := ⟨_, rfl⟩
        rw [hWW_] at hx14_0 hx14_1 hx14_2 hx14_3 hf14_0 hf14_1 hf14_2 hf14_3
        replace HQ17 := HQ17.out
        replace HQ18 := HQ18.out
        rw [hWW_] at HQ17 HQ18
        replace HQ17 := am_ HQ17
        replace HQ18 := am_ HQ18
        replace hWW_ : (World.setCell (World.setCell (World.setCell (World.setCell w15 ⟨go13, (((ji10) : Int)).toNat * 4, none⟩ (.int .i64 ((a0c x0_1 (ji7)).f0))) ⟨go13, (((ji10) : Int)).toNat * 4 + 1, none⟩ (.int .i64 ((a0c x0_1 (ji7)).f1))) ⟨go13, (((ji10) : Int)).toNat * 4 + 2, none⟩ (.int .i64 ((a0c x0_1 (ji7)).f2))) ⟨go13, (((ji10) : Int)).toNat * 4 + 3, none⟩ (.int .i64 ((a0c x0_1 (ji7)).f3))) = ww_ := hWW_
        rw [hWW_]
        refine qpu_ 22 (some 37) #[o_,o_,o_,o_,o_,o_,o_,o_,o_,o_,o_,o_,o_,o_,o_,o_,o_,o_,o_,o_,o_,o_,o_,i_] ?_
        refine a6k (i := 23) (N := none) #[o_,o_,o_,o_,o_,o_,o_,o_,o_,o_,o_,o_,o_,o_,o_,o_,o_,o_,o_,o_,o_,o_,o_,o_] rfl rfl (a3h HT_.out (by kernel_rfl)) (by decide) (fun K hK => ?_)
        refine a6l (w1 := ?_) (by rfl) rfl ?_ ?_
        rotate_left
        ·go_simp
         rfl
        refine hK.out _ _ ?_
        clear hK K
        subst hWW_
        refine a3o (a3b HT_.out (by kernel_rfl)) ?_
        try go_wp2
        go_roundg k1
        case measure => have := HK1.out; omega
        case rel => exact ⟨(y147), (wrap64 (x10_1 + 1)), qs_, H', ⟨by have := HK1.out; omega⟩, ⟨by (with_reducible repeat (first | apply Kd.a0n | apply Kd.a0o | apply Kd.a0m)); exact HQ18.out⟩, ⟨by repeat (first | (with_reducible first | exact HK.out | apply Kept.alloc | apply Kept.drewN | apply Kept.drew | refine Kept.setCell ?_ HMgo13.out _ | refine Kept.setCell ?_ HMgo13.out _ | refine Kept.setCell ?_ HMgo13.out _ | refine Kept.setCell ?_ HMgo13.out _ | refine Kept.setCell ?_ HMgo13.out _ | refine Kept.setCell ?_ HMgo13.out _ | refine Kept.setCell ?_ HMgo13.out _ | refine Kept.setCell ?_ HMgo13.out _) | exact HK.out)⟩, ⟨by repeat (first | (with_reducible first | exact HB.out | apply la_ | apply ln_ | apply ld_ | refine ls_ ?_ GB13.out | refine ls_ ?_ GB13.out | refine ls_ ?_ GB13.out | refine ls_ ?_ GB13.out | refine ls_ ?_ GB13.out | refine ls_ ?_ GB13.out | refine ls_ ?_ GB13.out | refine ls_ ?_ GB13.out) | exact HB.out)⟩⟩
       ·rw [if_neg c12] at H
        exact absurd H (by simp)
      ·rw [if_neg c11] at H
       exact absurd H (by simp)
     ·rw [if_neg c9] at H
      exact absurd H (by simp)
    ·rw [if_neg c8] at H
     exact absurd H (by simp)
   ·rw [if_neg c6] at H
    have c6b0 : decide (x10_1 < a3) = false := decide_eq_false c6
    clear c6
    obtain rfl := si_ H
    go_wp2
    first | go_end0 | ((try simp only [Exit.inBlock, Exit.then]); refine bodyPost_ret (results_none rfl _ _ _) rfl ?_)
    exact ⟨qx_, by (with_reducible repeat (first | apply Kd.a0n | apply Kd.a0o | apply Kd.a0m)); exact HO_0.out, by repeat (first | (with_reducible first | exact HB.out | apply la_ | apply ln_ | apply ld_) | exact HB.out), by repeat (first | (with_reducible first | exact HK.out | apply Kept.alloc | apply Kept.drewN | apply Kept.drew) | exact HK.out)⟩
def a0l.l0 : Nat → List (S26) → Int → Int → Int → Option ((List (S26)))
 | 0, _, _, _, _ => none
 | k + 1, x0, x2, x10, x11 => if x10 = x11 then ((a0j.f k x0 (wrap64 (x2 - x10)) x2 x10).bind fun t148 => (some t148)) else (if x10 > x11 then ((a0j.f k x0 (wrap64 (x2 - x10)) x2 x11).bind fun t149 => (a0l.l0 k t149 x2 (wrap64 (x10 - x11)) x11)) else ((a0j.f k x0 (wrap64 (x2 - x10)) (wrap64 ((wrap64 (x2 + x11)) - x10)) x10).bind fun t150 => (a0l.l0 k t150 x2 x10 (wrap64 (x11 - x10)))))
def a0l.f (k : Nat) (l0 : List (S26)) (a1 a2 a3 : Int)  : Option ((List (S26))) := a0l.l0 k l0 a2 (wrap64 (a2 - a1)) (wrap64 (a3 - a2))
theorem a0l.a1k : ∀ k, (∀ y0 y1 y2 y3, LeO (a0l.l0 k y0 y1 y2 y3) (a0l.l0 (k + 1) y0 y1 y2 y3))
 | 0 => fun _ _ _ _ r h => by simp [a0l.l0] at h
 | k + 1 => by
  have ih0 := a0l.a1k k
  ·intro y0 y1 y2 y3
   unfold a0l.l0
   with_reducible (repeat' first | apply ih0 | apply a0j.mono | apply LeO.refl | apply LeO.none | apply LeO.ite | refine LeO.bind ?_ (fun _ => ?_))
theorem a0l.mono : ∀ a0 a1 a2 a3 k, LeO (a0l.f k a0 a1 a2 a3) (a0l.f (k + 1) a0 a1 a2 a3) := by
 intro a0 a1 a2 a3 k
 have ih0 := a0l.a1k k
 unfold a0l.f
 with_reducible (repeat' first | apply ih0 | apply a0j.mono | apply LeO.refl | apply LeO.none | apply LeO.ite | refine LeO.bind ?_ (fun _ => ?_))
set_option maxHeartbeats 8000000 in
set_option maxRecDepth 100000 in
theorem a0l.calls (k : Nat) (P0_ : Nat → Prop) (u9000_ : Value) (l0 : List (S26)) (a1 a2 a3 : Int)  (r : List (S26)) (w0 w : World) (hB : Below w0.heap.size w0 w) (ho0 : Kd.R k26 26 w w0.heap.size P0_ u9000_ l0) (h : a0l.f k l0 a1 a2 a3 = some r) :
  Calls Try.prog 73 #[u9000_, .int .i64 a1, .int .i64 a2, .int .i64 a3, .func (.func 44) #[] #[]] w fun e w' => e = .returned (.tuple #[]) ∧ Kd.R k26 26 w' w0.heap.size (fun k_ => (P0_ k_ ∨ w.heap.size ≤ k_)) u9000_ r ∧ Below w0.heap.size w0 w' ∧ Kept w w' (fun k_ => P0_ k_) := by
 have HO0 := am_ (show Kd.R k26 26 w w0.heap.size (fun k_ => (P0_ k_ ∨ w.heap.size ≤ k_)) u9000_ l0 from Kd.a0z ho0 (fun k_ hk => (.inl hk)))
 have HK := am_ (Kept.refl w (fun k_ => P0_ k_))
 have HW0 := am_ hB.size
 have HB := am_ hB
 clear hB
 have H : (a0l.l0 k l0 a2 (wrap64 (a2 - a1)) (wrap64 (a3 - a2))) = some r := h
 clear h
 have H' := am_ H
 clear H
 go_enter Try.func73, Try.ntmps73
 go_wp2
 go_loopg [10, 11] k (fun kq v10 v11 w' => ∃ (x0_1 : List (S26)) (x10_1 : Int) (x11_1 : Int), v10 = .int .i64 x10_1 ∧ v11 = .int .i64 x11_1 ∧ Aside0 (a0l.l0 kq x0_1 a2 x10_1 x11_1 = some r) ∧ Aside0 (kq ≤ k) ∧ Aside0 (Kd.R k26 26 w' w0.heap.size (fun k_ => (P0_ k_ ∨ w.heap.size ≤ k_)) u9000_ x0_1) ∧ Aside0 (Kept w w' (fun k_ => P0_ k_)) ∧ Aside0 (Below w0.heap.size w0 w'))
 case atStart => exact ⟨(l0), (wrap64 (a2 - a1)), (wrap64 (a3 - a2)), qs_, qs_, H', ⟨Nat.le_refl _⟩, ⟨by (with_reducible repeat (first | apply Kd.a0n | apply Kd.a0o | apply Kd.a0m)); exact HO0.out⟩, ⟨by repeat (first | (with_reducible first | exact HK.out | apply Kept.alloc | apply Kept.drewN | apply Kept.drew) | exact HK.out)⟩, ⟨qb_⟩⟩
 case round =>
  clear H'
  try clear p2
  obtain ⟨x0_1, x10_1, x11_1, rfl, rfl, HA, HK1, HO_0, HK, HB⟩ := hrel
  cases gk with
  | zero => exact absurd HA.out (by simp [a0l.l0])
  | succ k1 =>
   have H := HA.out
   clear HA
   simp only [a0l.l0] at H
   by_cases c6 : x10_1 = x11_1
   ·rw [if_pos c6] at H
    have c6b0 : (x10_1 == x11_1) = true := beq_iff_eq.mpr c6
    have c6b1 : (x10_1 != x11_1) = false := bne_eq_false_iff_eq.mpr c6
    clear c6
    replace H := bm_ H
    obtain ⟨t148, A70, H⟩ := H
    replace H : (some t148) = some r := H
    have A7 := am_ A70
    clear A70
    obtain rfl := si_ H
    obtain ⟨Ao8, co8, eo8⟩ := Kd.a1v HO_0.out
    subst eo8
    go_wp2_with (first | ((with_reducible refine a1c (f := 75) rfl ?_); refine a1y (some 57) rfl rfl Try.func75 (by kernel_rfl) rfl #[.slice Ao8 x0_1.length co8, .int .i64 (wrap64 (a2 - x10_1)), .int .i64 a2, .int .i64 x10_1, .func (.func 44) #[] #[]] rfl ql_ ?_; (with_reducible refine (a0j.calls k1 (fun k_ => some k_ = (.slice Ao8 x0_1.length co8 : Value).ownBlock) (.slice Ao8 x0_1.length co8) x0_1 (wrap64 (a2 - x10_1)) a2 x10_1  t148 w0 _ ?s1 ?s2 A7.out).mono ?_); (case s1 => repeat (first | (with_reducible first | exact HB.out | apply la_ | apply ln_ | apply ld_) | exact HB.out)); (case s2 => exact Kd.a4f rfl HO_0.out); rintro e w9 ⟨rfl, hy0, hb, hkp⟩; refine ⟨_, rfl, ?_⟩; replace HK := am_ (Kept.a4y (S := (fun k_ => P0_ k_)) (by repeat (first | (with_reducible first | exact HK.out | apply Kept.alloc | apply Kept.drewN | apply Kept.drew) | exact HK.out)) hkp (fun k_ hs_ => (fun e_ => (HO_0.out.1 k_ e_.symm)) hs_)); replace HO_0 := am_ (Kd.a4r rfl hy0 (fun k_ e_ => HO_0.out.1 k_ e_)); replace HB := am_ (hb); (try clear hb); (try clear hkp); (try clear hy0)))
    first | go_end0 | ((try simp only [Exit.inBlock, Exit.then]); refine bodyPost_ret (results_none rfl _ _ _) rfl ?_)
    exact ⟨qx_, by (with_reducible repeat (first | apply Kd.a0n | apply Kd.a0o | apply Kd.a0m)); exact HO_0.out, by repeat (first | (with_reducible first | exact HB.out | apply la_ | apply ln_ | apply ld_) | exact HB.out), by repeat (first | (with_reducible first | exact HK.out | apply Kept.alloc | apply Kept.drewN | apply Kept.drew) | exact HK.out)⟩
   ·rw [if_neg c6] at H
    have c6b0 : (x10_1 == x11_1) = false := beq_eq_false_iff_ne.mpr c6
    have c6b1 : (x10_1 != x11_1) = true := bne_iff_ne.mpr c6
    by_cases c10 : x10_1 > x11_1
    ·rw [if_pos c10] at H
     have c10b0 : decide (x11_1 < x10_1) = true := decide_eq_true c10
     clear c10
     replace H := bm_ H
     obtain ⟨t149, A110, H⟩ := H
     replace H : (a0l.l0 k1 t149 a2 (wrap64 (x10_1 - x11_1)) x11_1) = some r := H
     have A11 := am_ A110
     clear A110
     have H' := am_ H
     clear H
     obtain ⟨Ao12, co12, eo12⟩ := Kd.a1v HO_0.out
     subst eo12
     go_wp2_with (first | ((with_reducible refine a1c (f := 75) rfl ?_); refine a1y (some 31) rfl rfl Try.func75 (by kernel_rfl) rfl #[.slice Ao12 x0_1.length co12, .int .i64 (wrap64 (a2 - x10_1)), .int .i64 a2, .int .i64 x11_1, .func (.func 44) #[] #[]] rfl ql_ ?_; (with_reducible refine (a0j.calls k1 (fun k_ => some k_ = (.slice Ao12 x0_1.length co12 : Value).ownBlock) (.slice Ao12 x0_1.length co12) x0_1 (wrap64 (a2 - x10_1)) a2 x11_1  t149 w0 _ ?s1 ?s2 A11.out).mono ?_); (case s1 => repeat (first | (with_reducible first | exact HB.out | apply la_ | apply ln_ | apply ld_) | exact HB.out)); (case s2 => exact Kd.a4f rfl HO_0.out); rintro e w13 ⟨rfl, hy0, hb, hkp⟩; refine ⟨_, rfl, ?_⟩; replace HK := am_ (Kept.a4y (S := (fun k_ => P0_ k_)) (by repeat (first | (with_reducible first | exact HK.out | apply Kept.alloc | apply Kept.drewN | apply Kept.drew) | exact HK.out)) hkp (fun k_ hs_ => (fun e_ => (HO_0.out.1 k_ e_.symm)) hs_)); replace HO_0 := am_ (Kd.a4r rfl hy0 (fun k_ e_ => HO_0.out.1 k_ e_)); replace HB := am_ (hb); (try clear hb); (try clear hkp); (try clear hy0)))
     go_roundg k1
     case measure => have := HK1.out; omega
     case rel => exact ⟨(t149), (wrap64 (x10_1 - x11_1)), (x11_1), qs_, qs_, H', ⟨by have := HK1.out; omega⟩, ⟨by (with_reducible repeat (first | apply Kd.a0n | apply Kd.a0o | apply Kd.a0m)); exact HO_0.out⟩, ⟨by repeat (first | (with_reducible first | exact HK.out | apply Kept.alloc | apply Kept.drewN | apply Kept.drew) | exact HK.out)⟩, ⟨qb_⟩⟩
    ·rw [if_neg c10] at H
     have c10b0 : decide (x11_1 < x10_1) = false := decide_eq_false c10
     clear c10
     replace H := bm_ H
     obtain ⟨t150, A140, H⟩ := H
     replace H : (a0l.l0 k1 t150 a2 x10_1 (wrap64 (x11_1 - x10_1))) = some r := H
     have A14 := am_ A140
     clear A140
     have H' := am_ H
     clear H
     obtain ⟨Ao15, co15, eo15⟩ := Kd.a1v HO_0.out
     subst eo15
     go_wp2_with (first | ((with_reducible refine a1c (f := 75) rfl ?_); refine a1y (some 46) rfl rfl Try.func75 (by kernel_rfl) rfl #[.slice Ao15 x0_1.length co15, .int .i64 (wrap64 (a2 - x10_1)), .int .i64 (wrap64 ((wrap64 (a2 + x11_1)) - x10_1)), .int .i64 x10_1, .func (.func 44) #[] #[]] rfl ql_ ?_; (with_reducible refine (a0j.calls k1 (fun k_ => some k_ = (.slice Ao15 x0_1.length co15 : Value).ownBlock) (.slice Ao15 x0_1.length co15) x0_1 (wrap64 (a2 - x10_1)) (wrap64 ((wrap64 (a2 + x11_1)) - x10_1)) x10_1  t150 w0 _ ?s1 ?s2 A14.out).mono ?_); (case s1 => repeat (first | (with_reducible first | exact HB.out | apply la_ | apply ln_ | apply ld_) | exact HB.out)); (case s2 => exact Kd.a4f rfl HO_0.out); rintro e w16 ⟨rfl, hy0, hb, hkp⟩; refine ⟨_, rfl, ?_⟩; replace HK := am_ (Kept.a4y (S := (fun k_ => P0_ k_)) (by repeat (first | (with_reducible first | exact HK.out | apply Kept.alloc | apply Kept.drewN | apply Kept.drew) | exact HK.out)) hkp (fun k_ hs_ => (fun e_ => (HO_0.out.1 k_ e_.symm)) hs_)); replace HO_0 := am_ (Kd.a4r rfl hy0 (fun k_ e_ => HO_0.out.1 k_ e_)); replace HB := am_ (hb); (try clear hb); (try clear hkp); (try clear hy0)))
     go_roundg k1
     case measure => have := HK1.out; omega
     case rel => exact ⟨(t150), (x10_1), (wrap64 (x11_1 - x10_1)), qs_, qs_, H', ⟨by have := HK1.out; omega⟩, ⟨by (with_reducible repeat (first | apply Kd.a0n | apply Kd.a0o | apply Kd.a0m)); exact HO_0.out⟩, ⟨by repeat (first | (with_reducible first | exact HK.out | apply Kept.alloc | apply Kept.drewN | apply Kept.drew) | exact HK.out)⟩, ⟨qb_⟩⟩
end Go.Proofs.Ytfbgkcadnmcakaa.Px
