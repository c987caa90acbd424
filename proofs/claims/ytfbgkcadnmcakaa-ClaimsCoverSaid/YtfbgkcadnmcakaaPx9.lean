/- Contracts of Go functions, printed. Conditions: as each theorem states. -/
import Derived.Test.YtfbgkcadnmcakaaPx0
import Derived.Test.YtfbgkcadnmcakaaPx6
import Derived.Test.YtfbgkcadnmcakaaPx8
import Derived.Test.YtfbgkcadnmcakaaGClone
namespace Go.Proofs.Ytfbgkcadnmcakaa.Px
open Go.Proofs.Ytfbgkcadnmcakaa.Given
open Go.RowKit Go.Proofs.YtfbgkcadnmcakaaW.PrintWords Go.Proofs.YtfbgkcadnmcakaaW.PrintLast Go.Proofs.YtfbgkcadnmcakaaW.PrintMore
attribute [local go_sem] a2w a2u a3d a3c a2q a2r a2x a2y
set_option linter.unusedVariables false
set_option linter.unusedSimpArgs false
mutual
def a0h.l0 : Nat → List (S26) → Int → Int → Int → Int → Option ((List (S26)))
 | 0, _, _, _, _, _ => none
 | k + 1, x0, x1, x6, x7, x8 => if x8 ≤ x1 then ((a0f.f k x0 x7 x8).bind fun t171 => (a0h.l0 k t171 x1 x6 x8 (wrap64 (x8 + x6)))) else ((a0f.f k x0 x7 x1).bind fun t172 => (a0h.l1 k t172 x1 x6))
def a0h.l1 : Nat → List (S26) → Int → Int → Option ((List (S26)))
 | 0, _, _, _ => none
 | k + 1, x0, x1, x6 => if x6 < x1 then (a0h.l2 k x0 x1 x6 0 (wrap64 (2 * x6))) else (some x0)
def a0h.l2 : Nat → List (S26) → Int → Int → Int → Int → Option ((List (S26)))
 | 0, _, _, _, _, _ => none
 | k + 1, x0, x1, x6, x7, x8 => if x8 ≤ x1 then ((a0b.f k x0 x7 (wrap64 (x7 + x6)) x8).bind fun t173 => (a0h.l2 k t173 x1 x6 x8 (wrap64 (x8 + (wrap64 (2 * x6)))))) else (if (wrap64 (x7 + x6)) < x1 then ((a0b.f k x0 x7 (wrap64 (x7 + x6)) x1).bind fun t174 => (a0h.l1 k t174 x1 (wrap64 (x6 * 2)))) else (a0h.l1 k x0 x1 (wrap64 (x6 * 2))))
end
def a0h.f (k : Nat) (l0 : List (S26)) (a1 : Int)  : Option ((List (S26))) := a0h.l0 k l0 a1 20 0 20
theorem a0h.a1k : ∀ k, (∀ y0 y1 y2 y3 y4, LeO (a0h.l0 k y0 y1 y2 y3 y4) (a0h.l0 (k + 1) y0 y1 y2 y3 y4)) ∧ (∀ y0 y1 y2, LeO (a0h.l1 k y0 y1 y2) (a0h.l1 (k + 1) y0 y1 y2)) ∧ (∀ y0 y1 y2 y3 y4, LeO (a0h.l2 k y0 y1 y2 y3 y4) (a0h.l2 (k + 1) y0 y1 y2 y3 y4))
 | 0 => ⟨fun _ _ _ _ _ r h => by simp [a0h.l0] at h, fun _ _ _ r h => by simp [a0h.l1] at h, fun _ _ _ _ _ r h => by simp [a0h.l2] at h⟩
 | k + 1 => by
  obtain ⟨ih0, ih1, ih2⟩ := a0h.a1k k
  refine ⟨?_, ?_, ?_⟩
  ·intro y0 y1 y2 y3 y4
   unfold a0h.l0
   with_reducible (repeat' first | apply ih0 | apply ih1 | apply ih2 | apply a0f.mono | apply a0b.mono | apply LeO.refl | apply LeO.none | apply LeO.ite | refine LeO.bind ?_ (fun _ => ?_))
  ·intro y0 y1 y2
   unfold a0h.l1
   with_reducible (repeat' first | apply ih0 | apply ih1 | apply ih2 | apply a0f.mono | apply a0b.mono | apply LeO.refl | apply LeO.none | apply LeO.ite | refine LeO.bind ?_ (fun _ => ?_))
  ·intro y0 y1 y2 y3 y4
   unfold a0h.l2
   with_reducible (repeat' first | apply ih0 | apply ih1 | apply ih2 | apply a0f.mono | apply a0b.mono | apply LeO.refl | apply LeO.none | apply LeO.ite | refine LeO.bind ?_ (fun _ => ?_))
theorem a0h.mono : ∀ a0 a1 k, LeO (a0h.f k a0 a1) (a0h.f (k + 1) a0 a1) := by
 intro a0 a1 k
 obtain ⟨ih0, ih1, ih2⟩ := a0h.a1k k
 unfold a0h.f
 with_reducible (repeat' first | apply ih0 | apply ih1 | apply ih2 | apply a0f.mono | apply a0b.mono | apply LeO.refl | apply LeO.none | apply LeO.ite | refine LeO.bind ?_ (fun _ => ?_))
set_option maxHeartbeats 8000000 in
set_option maxRecDepth 100000 in
theorem a0h.calls (k : Nat) (P0_ : Nat → Prop) (u9000_ : Value) (l0 : List (S26)) (a1 : Int)  (r : List (S26)) (w0 w : World) (hB : Below w0.heap.size w0 w) (ho0 : Kd.R k26 26 w w0.heap.size P0_ u9000_ l0) (h : a0h.f k l0 a1 = some r) :
  Calls Try.prog 54 #[u9000_, .int .i64 a1, .func (.func 44) #[] #[]] w fun e w' => e = .returned (.tuple #[]) ∧ Kd.R k26 26 w' w0.heap.size (fun k_ => (P0_ k_ ∨ w.heap.size ≤ k_)) u9000_ r ∧ Below w0.heap.size w0 w' ∧ Kept w w' (fun k_ => P0_ k_) := by
 have HO0 := am_ (show Kd.R k26 26 w w0.heap.size (fun k_ => (P0_ k_ ∨ w.heap.size ≤ k_)) u9000_ l0 from Kd.a0z ho0 (fun k_ hk => (.inl hk)))
 have HK := am_ (Kept.refl w (fun k_ => P0_ k_))
 have HW0 := am_ hB.size
 have HB := am_ hB
 clear hB
 have H : (a0h.l0 k l0 a1 20 0 20) = some r := h
 clear h
 have H' := am_ H
 clear H
 go_enter Try.func54, Try.ntmps54
 go_wp2
 (try simp only [Act.put, List.setIfInBounds_toArray, List.set_cons_zero, List.set_cons_succ])
 go_loopg [7, 8] k (fun kq v7 v8 w' => ∃ (x0_1 : List (S26)) (x7_1 : Int) (x8_1 : Int), v7 = .int .i64 x7_1 ∧ v8 = .int .i64 x8_1 ∧ Aside0 (a0h.l0 kq x0_1 a1 20 x7_1 x8_1 = some r) ∧ Aside0 (kq ≤ k) ∧ Aside0 (Kd.R k26 26 w' w0.heap.size (fun k_ => (P0_ k_ ∨ w.heap.size ≤ k_)) u9000_ x0_1) ∧ Aside0 (Kept w w' (fun k_ => P0_ k_)) ∧ Aside0 (Below w0.heap.size w0 w'))
 case atStart => exact ⟨(l0), (0), (20), qs_, qs_, H', ⟨Nat.le_refl _⟩, ⟨by (with_reducible repeat (first | apply Kd.a0n | apply Kd.a0o | apply Kd.a0m)); exact HO0.out⟩, ⟨by repeat (first | (with_reducible first | exact HK.out | apply Kept.alloc | apply Kept.drewN | apply Kept.drew) | exact HK.out)⟩, ⟨qb_⟩⟩
 case round =>
  clear H'
  try clear p2
  obtain ⟨x0_1, x7_1, x8_1, rfl, rfl, HA, HK1, HO_0, HK, HB⟩ := hrel
  cases gk with
  | zero => exact absurd HA.out (by simp [a0h.l0])
  | succ k1 =>
   have H := HA.out
   clear HA
   simp only [a0h.l0] at H
   by_cases c4 : x8_1 ≤ a1
   ·rw [if_pos c4] at H
    have c4b0 : decide (x8_1 ≤ a1) = true := decide_eq_true c4
    clear c4
    replace H := bm_ H
    obtain ⟨t171, A50, H⟩ := H
    replace H : (a0h.l0 k1 t171 a1 20 x8_1 (wrap64 (x8_1 + 20))) = some r := H
    have A5 := am_ A50
    clear A50
    have H' := am_ H
    clear H
    obtain ⟨Ao6, co6, eo6⟩ := Kd.a1v HO_0.out
    subst eo6
    go_wp2_with (first | ((with_reducible refine a1c (f := 66) rfl ?_); refine a1y (some 18) rfl rfl Try.func66 (by kernel_rfl) rfl #[.slice Ao6 x0_1.length co6, .int .i64 x7_1, .int .i64 x8_1, .func (.func 44) #[] #[]] rfl ql_ ?_; (with_reducible refine (a0f.calls k1 (fun k_ => some k_ = (.slice Ao6 x0_1.length co6 : Value).ownBlock) (.slice Ao6 x0_1.length co6) x0_1 x7_1 x8_1  t171 w0 _ ?s1 ?s2 A5.out).mono ?_); (case s1 => repeat (first | (with_reducible first | exact HB.out | apply la_ | apply ln_ | apply ld_) | exact HB.out)); (case s2 => exact Kd.a4f rfl HO_0.out); rintro e w7 ⟨rfl, hy0, hb, hkp⟩; refine ⟨_, rfl, ?_⟩; replace HK := am_ (Kept.a4y (S := (fun k_ => P0_ k_)) (by repeat (first | (with_reducible first | exact HK.out | apply Kept.alloc | apply Kept.drewN | apply Kept.drew) | exact HK.out)) hkp (fun k_ hs_ => (fun e_ => (HO_0.out.1 k_ e_.symm)) hs_)); replace HO_0 := am_ (Kd.a4r rfl hy0 (fun k_ e_ => HO_0.out.1 k_ e_)); replace HB := am_ (hb); (try clear hb); (try clear hkp); (try clear hy0)))
    go_roundg k1
    case measure => have := HK1.out; omega
    case rel => exact ⟨(t171), (x8_1), (wrap64 (x8_1 + 20)), qs_, qs_, H', ⟨by have := HK1.out; omega⟩, ⟨by (with_reducible repeat (first | apply Kd.a0n | apply Kd.a0o | apply Kd.a0m)); exact HO_0.out⟩, ⟨by repeat (first | (with_reducible first | exact HK.out | apply Kept.alloc | apply Kept.drewN | apply Kept.drew) | exact HK.out)⟩, ⟨qb_⟩⟩
   ·rw [if_neg c4] at H
    have c4b0 : decide (x8_1 ≤ a1) = false := decide_eq_false c4
    clear c4
    replace H := bm_ H
    obtain ⟨t172, A80, H⟩ := H
    replace H : (a0h.l1 k1 t172 a1 20) = some r := H
    have A8 := am_ A80
    clear A80
    have H' := am_ H
    clear H
    obtain ⟨Ao9, co9, eo9⟩ := Kd.a1v HO_0.out
    subst eo9
    go_wp2_with (first | ((with_reducible refine a1c (f := 66) rfl ?_); refine a1y (some 27) rfl rfl Try.func66 (by kernel_rfl) rfl #[.slice Ao9 x0_1.length co9, .int .i64 x7_1, .int .i64 a1, .func (.func 44) #[] #[]] rfl ql_ ?_; (with_reducible refine (a0f.calls k1 (fun k_ => some k_ = (.slice Ao9 x0_1.length co9 : Value).ownBlock) (.slice Ao9 x0_1.length co9) x0_1 x7_1 a1  t172 w0 _ ?s1 ?s2 A8.out).mono ?_); (case s1 => repeat (first | (with_reducible first | exact HB.out | apply la_ | apply ln_ | apply ld_) | exact HB.out)); (case s2 => exact Kd.a4f rfl HO_0.out); rintro e w10 ⟨rfl, hy0, hb, hkp⟩; refine ⟨_, rfl, ?_⟩; replace HK := am_ (Kept.a4y (S := (fun k_ => P0_ k_)) (by repeat (first | (with_reducible first | exact HK.out | apply Kept.alloc | apply Kept.drewN | apply Kept.drew) | exact HK.out)) hkp (fun k_ hs_ => (fun e_ => (HO_0.out.1 k_ e_.symm)) hs_)); replace HO_0 := am_ (Kd.a4r rfl hy0 (fun k_ e_ => HO_0.out.1 k_ e_)); replace HB := am_ (hb); (try clear hb); (try clear hkp); (try clear hy0)))
    (try simp only [Act.put, List.setIfInBounds_toArray, List.set_cons_zero, List.set_cons_succ])
    go_loopg [6] k1 (fun kq v6 w' => ∃ (x0_2 : List (S26)) (x6_2 : Int), v6 = .int .i64 x6_2 ∧ Aside0 (a0h.l1 kq x0_2 a1 x6_2 = some r) ∧ Aside0 (kq ≤ k1) ∧ Aside0 (Kd.R k26 26 w' w0.heap.size (fun k_ => (P0_ k_ ∨ w.heap.size ≤ k_)) (.slice Ao9 x0_1.length co9) x0_2) ∧ Aside0 (Kept w w' (fun k_ => P0_ k_)) ∧ Aside0 (Below w0.heap.size w0 w'))
    case atStart => exact ⟨(t172), (20), qs_, H', ⟨Nat.le_refl _⟩, ⟨by (with_reducible repeat (first | apply Kd.a0n | apply Kd.a0o | apply Kd.a0m)); exact HO_0.out⟩, ⟨by repeat (first | (with_reducible first | exact HK.out | apply Kept.alloc | apply Kept.drewN | apply Kept.drew) | exact HK.out)⟩, ⟨qb_⟩⟩
    case round =>
     clear H'
     try clear p2
     try clear c4
     try clear c4b0
     try clear p6
     try clear c9
     try clear p2
     obtain ⟨x0_2, x6_2, rfl, HA, HK2, HO_0, HK, HB⟩ := hrel
     have hl0_2 := (Kd.a0p HO_0.out).1
     rw [hl0_2] at HO_0
     (try simp only [hl0_2])
     cases gk with
     | zero => exact absurd HA.out (by simp [a0h.l1])
     | succ k2 =>
      have H := HA.out
      clear HA
      simp only [a0h.l1] at H
      by_cases c11 : x6_2 < a1
      ·rw [if_pos c11] at H
       have c11b0 : decide (x6_2 < a1) = true := decide_eq_true c11
       clear c11
       have H' := am_ H
       clear H
       go_wp2
       (try simp only [Act.put, List.setIfInBounds_toArray, List.set_cons_zero, List.set_cons_succ])
       go_loopg [7, 8] k2 (fun kq v7 v8 w' => ∃ (x0_3 : List (S26)) (x7_3 : Int) (x8_3 : Int), v7 = .int .i64 x7_3 ∧ v8 = .int .i64 x8_3 ∧ Aside0 (a0h.l2 kq x0_3 a1 x6_2 x7_3 x8_3 = some r) ∧ Aside0 (kq ≤ k2) ∧ Aside0 (Kd.R k26 26 w' w0.heap.size (fun k_ => (P0_ k_ ∨ w.heap.size ≤ k_)) (.slice Ao9 x0_2.length co9) x0_3) ∧ Aside0 (Kept w w' (fun k_ => P0_ k_)) ∧ Aside0 (Below w0.heap.size w0 w'))
       case atStart => exact ⟨(x0_2), (0), (wrap64 (2 * x6_2)), qs_, qs_, H', ⟨Nat.le_refl _⟩, ⟨by (try simp only [hl0_2]); (with_reducible repeat (first | apply Kd.a0n | apply Kd.a0o | apply Kd.a0m)); exact HO_0.out⟩, ⟨by repeat (first | (with_reducible first | exact HK.out | apply Kept.alloc | apply Kept.drewN | apply Kept.drew) | exact HK.out)⟩, ⟨qb_⟩⟩
       case round =>
        clear H'
        try clear c1
        try clear p2
        try clear c4
        try clear c4b0
        try clear p6
        try clear c9
        try clear c11
        try clear c11b0
        try clear p2
        try clear p6
        obtain ⟨x0_3, x7_3, x8_3, rfl, rfl, HA, HK3, HO_0, HK, HB⟩ := hrel
        have hl0_3 := (Kd.a0p HO_0.out).1
        rw [hl0_3] at HO_0
        (try simp only [hl0_3])
        cases gk with
        | zero => exact absurd HA.out (by simp [a0h.l2])
        | succ k3 =>
         have H := HA.out
         clear HA
         simp only [a0h.l2] at H
         by_cases c12 : x8_3 ≤ a1
         ·rw [if_pos c12] at H
          have c12b0 : decide (x8_3 ≤ a1) = true := decide_eq_true c12
          clear c12
          replace H := bm_ H
          obtain ⟨t173, A130, H⟩ := H
          replace H : (a0h.l2 k3 t173 a1 x6_2 x8_3 (wrap64 (x8_3 + (wrap64 (2 * x6_2))))) = some r := H
          have A13 := am_ A130
          clear A130
          have H' := am_ H
          clear H
          go_wp2_with (first | ((with_reducible refine a1c (f := 67) rfl ?_); refine a1y (some 43) rfl rfl Try.func67 (by kernel_rfl) rfl #[.slice Ao9 x0_3.length co9, .int .i64 x7_3, .int .i64 (wrap64 (x7_3 + x6_2)), .int .i64 x8_3, .func (.func 44) #[] #[]] rfl ql_ ?_; (with_reducible refine (a0b.calls k3 (fun k_ => some k_ = (.slice Ao9 x0_3.length co9 : Value).ownBlock) (.slice Ao9 x0_3.length co9) x0_3 x7_3 (wrap64 (x7_3 + x6_2)) x8_3  t173 w0 _ ?s1 ?s2 A13.out).mono ?_); (case s1 => repeat (first | (with_reducible first | exact HB.out | apply la_ | apply ln_ | apply ld_) | exact HB.out)); (case s2 => exact Kd.a4f rfl HO_0.out); rintro e w14 ⟨rfl, hy0, hb, hkp⟩; refine ⟨_, rfl, ?_⟩; replace HK := am_ (Kept.a4y (S := (fun k_ => P0_ k_)) (by repeat (first | (with_reducible first | exact HK.out | apply Kept.alloc | apply Kept.drewN | apply Kept.drew) | exact HK.out)) hkp (fun k_ hs_ => (fun e_ => (HO_0.out.1 k_ e_.symm)) hs_)); replace HO_0 := am_ (Kd.a4r rfl hy0 (fun k_ e_ => HO_0.out.1 k_ e_)); replace HB := am_ (hb); (try clear hb); (try clear hkp); (try clear hy0)))
          (try simp only [← hl0_3])
          go_roundg k3
          case measure => have := HK1.out; have := HK2.out; have := HK3.out; omega
          case rel => exact ⟨(t173), (x8_3), (wrap64 (x8_3 + (wrap64 (2 * x6_2)))), qs_, qs_, H', ⟨by have := HK1.out; have := HK2.out; have := HK3.out; omega⟩, ⟨by (try simp only [hl0_2]); (try simp only [hl0_3]); (with_reducible repeat (first | apply Kd.a0n | apply Kd.a0o | apply Kd.a0m)); exact HO_0.out⟩, ⟨by repeat (first | (with_reducible first | exact HK.out | apply Kept.alloc | apply Kept.drewN | apply Kept.drew) | exact HK.out)⟩, ⟨qb_⟩⟩
         ·rw [if_neg c12] at H
          have c12b0 : decide (x8_3 ≤ a1) = false := decide_eq_false c12
          clear c12
          by_cases c15 : (wrap64 (x7_3 + x6_2)) < a1
          ·rw [if_pos c15] at H
           have c15b0 : decide ((wrap64 (x7_3 + x6_2)) < a1) = true := decide_eq_true c15
           clear c15
           replace H := bm_ H
           obtain ⟨t174, A160, H⟩ := H
           replace H : (a0h.l1 k3 t174 a1 (wrap64 (x6_2 * 2))) = some r := H
           have A16 := am_ A160
           clear A160
           have H' := am_ H
           clear H
           go_wp2_with (first | ((with_reducible refine a1c (f := 67) rfl ?_); refine a1y (some 60) rfl rfl Try.func67 (by kernel_rfl) rfl #[.slice Ao9 x0_3.length co9, .int .i64 x7_3, .int .i64 (wrap64 (x7_3 + x6_2)), .int .i64 a1, .func (.func 44) #[] #[]] rfl ql_ ?_; (with_reducible refine (a0b.calls k3 (fun k_ => some k_ = (.slice Ao9 x0_3.length co9 : Value).ownBlock) (.slice Ao9 x0_3.length co9) x0_3 x7_3 (wrap64 (x7_3 + x6_2)) a1  t174 w0 _ ?s1 ?s2 A16.out).mono ?_); (case s1 => repeat (first | (with_reducible first | exact HB.out | apply la_ | apply ln_ | apply ld_) | exact HB.out)); (case s2 => exact Kd.a4f rfl HO_0.out); rintro e w17 ⟨rfl, hy0, hb, hkp⟩; refine ⟨_, rfl, ?_⟩; replace HK := am_ (Kept.a4y (S := (fun k_ => P0_ k_)) (by repeat (first | (with_reducible first | exact HK.out | apply Kept.alloc | apply Kept.drewN | apply Kept.drew) | exact HK.out)) hkp (fun k_ hs_ => (fun e_ => (HO_0.out.1 k_ e_.symm)) hs_)); replace HO_0 := am_ (Kd.a4r rfl hy0 (fun k_ e_ => HO_0.out.1 k_ e_)); replace HB := am_ (hb); (try clear hb); (try clear hkp); (try clear hy0)))
           (try simp only [← hl0_2, ← hl0_3])
           go_roundg k3
           case measure => have := HK1.out; have := HK2.out; have := HK3.out; omega
           case rel => exact ⟨(t174), (wrap64 (x6_2 * 2)), qs_, H', ⟨by have := HK1.out; have := HK2.out; have := HK3.out; omega⟩, ⟨by (try simp only [hl0_2]); (try simp only [hl0_3]); (with_reducible repeat (first | apply Kd.a0n | apply Kd.a0o | apply Kd.a0m)); exact HO_0.out⟩, ⟨by repeat (first | (with_reducible first | exact HK.out | apply Kept.alloc | apply Kept.drewN | apply Kept.drew) | exact HK.out)⟩, ⟨qb_⟩⟩
          ·rw [if_neg c15] at H
           have c15b0 : decide ((wrap64 (x7_3 + x6_2)) < a1) = false := decide_eq_false c15
           clear c15
           have H' := am_ H
           clear H
           go_wp2
           (try simp only [← hl0_2, ← hl0_3])
           go_roundg k3
           case measure => have := HK1.out; have := HK2.out; have := HK3.out; omega
           case rel => exact ⟨(x0_3), (wrap64 (x6_2 * 2)), qs_, H', ⟨by have := HK1.out; have := HK2.out; have := HK3.out; omega⟩, ⟨by (try simp only [hl0_2]); (try simp only [hl0_3]); (with_reducible repeat (first | apply Kd.a0n | apply Kd.a0o | apply Kd.a0m)); exact HO_0.out⟩, ⟨by repeat (first | (with_reducible first | exact HK.out | apply Kept.alloc | apply Kept.drewN | apply Kept.drew) | exact HK.out)⟩, ⟨qb_⟩⟩
      ·rw [if_neg c11] at H
       have c11b0 : decide (x6_2 < a1) = false := decide_eq_false c11
       clear c11
       obtain rfl := si_ H
       go_wp2
       first | go_end0 | ((try simp only [Exit.inBlock, Exit.then]); refine bodyPost_ret (results_none rfl _ _ _) rfl ?_)
       exact ⟨qx_, (by first | exact (qr_ HO_0) | (simp only [hl0_2]; exact (qr_ HO_0))), by repeat (first | (with_reducible first | exact HB.out | apply la_ | apply ln_ | apply ld_) | exact HB.out), by repeat (first | (with_reducible first | exact HK.out | apply Kept.alloc | apply Kept.drewN | apply Kept.drew) | exact HK.out)⟩
def a1z.f (k : Nat) (l0 : List (S26))  : Option ((List (S26))) := (a0h.f k l0 (l0.length : Int)).bind fun t175 => (some t175)
theorem a1z.mono : ∀ a0 k, LeO (a1z.f k a0) (a1z.f (k + 1) a0) := by
 intro a0 k
 unfold a1z.f
 with_reducible (repeat' first | apply a0h.mono | apply LeO.refl | apply LeO.none | apply LeO.ite | refine LeO.bind ?_ (fun _ => ?_))
set_option maxHeartbeats 8000000 in
set_option maxRecDepth 100000 in
theorem a1z.calls (k : Nat) (P0_ : Nat → Prop) (u9000_ : Value) (l0 : List (S26))  (r : List (S26)) (w0 w : World) (hB : Below w0.heap.size w0 w) (ho0 : Kd.R k26 26 w w0.heap.size P0_ u9000_ l0) (h : a1z.f k l0 = some r) :
  Calls Try.prog 43 #[u9000_, .func (.func 44) #[] #[]] w fun e w' => e = .returned (.tuple #[]) ∧ Kd.R k26 26 w' w0.heap.size (fun k_ => (P0_ k_ ∨ w.heap.size ≤ k_)) u9000_ r ∧ Below w0.heap.size w0 w' ∧ Kept w w' (fun k_ => P0_ k_) := by
 have HO0 := am_ (show Kd.R k26 26 w w0.heap.size (fun k_ => (P0_ k_ ∨ w.heap.size ≤ k_)) u9000_ l0 from Kd.a0z ho0 (fun k_ hk => (.inl hk)))
 have HK := am_ (Kept.refl w (fun k_ => P0_ k_))
 have HW0 := am_ hB.size
 have HB := am_ hB
 clear hB
 have H : ((a0h.f k l0 (l0.length : Int)).bind fun t175 => (some t175)) = some r := h
 clear h
 replace H := bm_ H
 obtain ⟨t175, A30, H⟩ := H
 replace H : (some t175) = some r := H
 have A3 := am_ A30
 clear A30
 obtain rfl := si_ H
 obtain ⟨Ao4, co4, eo4⟩ := Kd.a1v HO0.out
 subst eo4
 go_enter Try.func43, Try.ntmps43
 go_wp2_with (first | ((with_reducible refine a1c (f := 54) rfl ?_); refine a1y (some 8) rfl rfl Try.func54 (by kernel_rfl) rfl #[.slice Ao4 l0.length co4, .int .i64 (l0.length : Int), .func (.func 44) #[] #[]] rfl ql_ ?_; (with_reducible refine (a0h.calls k (fun k_ => some k_ = (.slice Ao4 l0.length co4 : Value).ownBlock) (.slice Ao4 l0.length co4) l0 (l0.length : Int)  t175 w0 _ ?s1 ?s2 A3.out).mono ?_); (case s1 => repeat (first | (with_reducible first | exact HB.out | apply la_ | apply ln_ | apply ld_) | exact HB.out)); (case s2 => exact Kd.a4f rfl HO0.out); rintro e w5 ⟨rfl, hy0, hb, hkp⟩; refine ⟨_, rfl, ?_⟩; replace HK := am_ (Kept.a4y (S := (fun k_ => P0_ k_)) (by repeat (first | (with_reducible first | exact HK.out | apply Kept.alloc | apply Kept.drewN | apply Kept.drew) | exact HK.out)) hkp (fun k_ hs_ => (fun e_ => (HO0.out.1 k_ e_.symm)) hs_)); replace HO0 := am_ (Kd.a4r rfl hy0 (fun k_ e_ => HO0.out.1 k_ e_)); replace HB := am_ (hb); (try clear hb); (try clear hkp); (try clear hy0)))
 first | go_end0 | ((try simp only [Exit.inBlock, Exit.then]); refine bodyPost_ret (results_none rfl _ _ _) rfl ?_)
 exact ⟨qx_, by (with_reducible repeat (first | apply Kd.a0n | apply Kd.a0o | apply Kd.a0m)); exact HO0.out, by repeat (first | (with_reducible first | exact HB.out | apply la_ | apply ln_ | apply ld_) | exact HB.out), by repeat (first | (with_reducible first | exact HK.out | apply Kept.alloc | apply Kept.drewN | apply Kept.drew) | exact HK.out)⟩
def a2p.f (k : Nat) (l0 : List (S26)) : Option ((List (S26))) := (a4j.f l0).bind fun t176 => ((a1z.f k t176).bind fun t179 => (some t179))
theorem a2p.mono : ∀ a0 k, LeO (a2p.f k a0) (a2p.f (k + 1) a0) := by
 intro a0 k
 unfold a2p.f
 with_reducible (repeat' first | apply a1z.mono | apply LeO.refl | apply LeO.none | apply LeO.ite | refine LeO.bind ?_ (fun _ => ?_))
set_option maxHeartbeats 8000000 in
set_option maxRecDepth 100000 in
theorem a2p.calls (k : Nat) (A0 : Option Addr) (c0 : Nat) (l0 r : List (S26)) (w : World) (hr0 : Kd.C k26 w A0 l0.length l0) (hc0 : l0.length ≤ c0) (h : a2p.f k l0 = some r) :
  Calls Try.prog 26 #[.slice A0 l0.length c0] w fun e w' => ∃ v0_ : Value, e = .returned (v0_) ∧ Kd.R k26 26 w' w.heap.size (fun _ => True) v0_ r ∧ Below w.heap.size w w' := by
 have HR0 := am_ hr0
 have HC0 := am_ hc0
 clear hr0 hc0
 have HB := am_ (Below.refl w.heap.size w)
 have H : ((a4j.f l0).bind fun t176 => ((a1z.f k t176).bind fun t179 => (some t179))) = some r := h
 clear h
 replace H := bm_ H
 obtain ⟨t176, A20, H⟩ := H
 replace H : ((a1z.f k t176).bind fun t179 => (some t179)) = some r := H
 have A2 := am_ A20
 clear A20
 replace H := bm_ H
 obtain ⟨t179, A30, H⟩ := H
 replace H : (some t179) = some r := H
 have A3 := am_ A30
 clear A30
 obtain rfl := si_ H
 go_enter Try.func26, Try.ntmps26
 go_wp2_with (first | ((with_reducible refine a1c (f := 42) rfl ?_); refine a1y (some 5) rfl rfl Try.func42 (by kernel_rfl) rfl #[.slice A0 l0.length c0] rfl ql_ ?_; (with_reducible refine (a4j.calls _ _ l0 t176 _ ?s1 ?s2 A2.out).mono ?_); (case s1 => repeat (first | exact HR0.out | (with_reducible refine Kd.a5b ?_ _) | (with_reducible refine Kd.a5c ?_ _) | (with_reducible refine Kd.a5p ?_))); (case s2 => exact HC0.out); rintro e w4 ⟨v177, rfl, ho0, hb⟩; refine ⟨_, rfl, ?_⟩; have HO178 := am_ (Kd.a2k ho0 (a1s qb_)); replace HB := qbs_ hb; (try clear hb); (try clear hb2); (try clear hk); (try clear hi); (try clear ho0); obtain ⟨Ao5, co5, eo5⟩ := Kd.a1v HO178.out; subst eo5) | ((with_reducible refine a1c (f := 43) rfl ?_); refine a1y (some 7) rfl rfl Try.func43 (by kernel_rfl) rfl #[.slice Ao5 t176.length co5, .func (.func 44) #[] #[]] rfl ql_ ?_; (with_reducible refine (a1z.calls k (fun k_ => some k_ = (.slice Ao5 t176.length co5 : Value).ownBlock) (.slice Ao5 t176.length co5) t176  t179 w _ ?s1 ?s2 A3.out).mono ?_); (case s1 => repeat (first | (with_reducible first | exact HB.out | apply la_ | apply ln_ | apply ld_) | exact HB.out)); (case s2 => exact Kd.a4f rfl HO178.out); rintro e w6 ⟨rfl, hy0, hb, hkp⟩; refine ⟨_, rfl, ?_⟩; replace HO178 := am_ (Kd.a4r rfl hy0 (fun k_ e_ => HO178.out.1 k_ e_)); replace HB := am_ (hb); (try clear hb); (try clear hkp); (try clear hy0)))
 go_ret
 exact ⟨_, qx_, by (with_reducible repeat (first | apply Kd.a0n | apply Kd.a0o | apply Kd.a0m)); exact HO178.out, qb_⟩
end Go.Proofs.Ytfbgkcadnmcakaa.Px
