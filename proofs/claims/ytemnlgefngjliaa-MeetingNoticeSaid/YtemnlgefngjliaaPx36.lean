/- Contracts of Go functions, printed. Conditions: as each theorem states. -/
import Derived.Test.YtemnlgefngjliaaPx0
import Derived.Test.YtemnlgefngjliaaPx15
import Derived.Test.YtemnlgefngjliaaPx17
import Derived.Test.YtemnlgefngjliaaPx24
import Derived.Test.YtemnlgefngjliaaPx31
import Derived.Test.YtemnlgefngjliaaPx35
namespace Go.Proofs.Ytemnlgefngjliaa.Px
open Go.Proofs.Ytemnlgefngjliaa.Given
open Go.RowKit Go.Proofs.YtemnlgefngjliaaW.PrintWords Go.Proofs.YtemnlgefngjliaaW.PrintLast Go.Proofs.YtemnlgefngjliaaW.PrintMore
attribute [local go_sem] a2k a2l a2x a2y a2b a2c a2m a2n
set_option linter.unusedVariables false
set_option linter.unusedSimpArgs false
theorem b4a {W : World} {g a : Nat} (h : g ≠ a) (o o2 : Nat) (u : Value) : (W.setCell ⟨a, o2, none⟩ u).cell? ⟨g, o, none⟩ = W.cell? ⟨g, o, none⟩ := cell_far (p := ⟨a, o2, none⟩) h u
theorem qcf_ {g a : Nat} {P Q : Prop} (H : g ≠ a ∧ P) (h : g ≠ a → P → Q := by intro h1 h2; (try simp only [b4a h1] at h2); simp only [b4a h1]; exact h2) : Q := h H.1 H.2
mutual
def a0b.j0 : Nat → ByteArray → List Int → Int → Int → Bool → Bool → Int → Int → Int → Int → Bool → Int → Int → Int → List ByteArray → List (S43) → List Int → Option (Bool)
 | 0, _, _, _, _, _, _, _, _, _, _, _, _, _, _, _, _, _ => none
 | k + 1, x2, x3, x4, x5, x13, x44, z0, z1, z2, z3, z4, z5, z6, z7, z8, z9, z10 => if x44 = true then (some x13) else ((a1p.f k z0 z1 z2 z3 z4 z5 z6 z7 z8 z9 z10 x2 x3 1).bind fun bt596 => ((a1p.f k z0 z1 z2 z3 z4 (mx 0 (wrap64 (z5 - (wrap64 (x4))))) z6 (mn 36524 (wrap64 (z7 + (wrap64 (x5))))) z8 z9 z10 x2 x3 1).bind fun bt598 => (if bt596.2 = true then (if bt598.2 = true then (if bt596.1 = true then (a0b.j1 k x2 x3 x13 false z0 z1 z2 z3 z4 z5 z6 z7 z8 z9 z10) else (a0b.j1 k x2 x3 x13 bt598.1 z0 z1 z2 z3 z4 z5 z6 z7 z8 z9 z10)) else (a0b.j1 k x2 x3 x13 true z0 z1 z2 z3 z4 z5 z6 z7 z8 z9 z10)) else (a0b.j1 k x2 x3 x13 true z0 z1 z2 z3 z4 z5 z6 z7 z8 z9 z10))))
def a0b.j1 : Nat → ByteArray → List Int → Bool → Bool → Int → Int → Int → Int → Bool → Int → Int → Int → List ByteArray → List (S43) → List Int → Option (Bool)
 | 0, _, _, _, _, _, _, _, _, _, _, _, _, _, _, _ => none
 | k + 1, x2, x3, x13, x89, z0, z1, z2, z3, z4, z5, z6, z7, z8, z9, z10 => if x89 = true then (some false) else ((a1p.f k z0 z1 z2 z3 z4 z5 2 z7 z8 z9 z10 x2 x3 1).bind fun bt602 => (if (wrap64 (z5 + 3)) > z7 then (if x13 = true then (if bt602.2 = true then (some bt602.1) else (some false)) else (some false)) else ((a1p.f k z0 z1 z2 z3 z4 (wrap64 (z5 + 3)) 1 z7 z8 z9 z10 x2 x3 1).bind fun bt604 => (if x13 = true then (if bt602.2 = true then (if bt604.2 = true then (some (bt602.1 == bt604.1)) else (some false)) else (some false)) else (some false)))))
end
def a0b.f (k : Nat) (a0_0 a0_1 a0_2 a0_3 : Int) (a0_4 : Bool) (a1_0 a1_1 a1_2 : Int) (l1_3 : List ByteArray) (l1_4 : List (S43)) (l1_5 : List Int) (a2 : ByteArray) (l3 : List Int) (a4 a5 : Int) : Option (Bool) := (a0i.f k).bind fun t591 => ((a3d.f k a0_0 a0_1 a0_2 a0_3 a0_4 a1_0 a1_1 a1_2 l1_3 l1_4 l1_5).bind fun t592 => (if t592 = true then ((a1c.f k a2).bind fun t593 => (if t593 = true then (if (l3.length : Int) > 150 then (a0b.j0 k a2 l3 a4 a5 t591 true a0_0 a0_1 a0_2 a0_3 a0_4 a1_0 a1_1 a1_2 l1_3 l1_4 l1_5) else ((a0p.f k l3).bind fun t594 => (a0b.j0 k a2 l3 a4 a5 t591 (!t594) a0_0 a0_1 a0_2 a0_3 a0_4 a1_0 a1_1 a1_2 l1_3 l1_4 l1_5))) else (a0b.j0 k a2 l3 a4 a5 t591 true a0_0 a0_1 a0_2 a0_3 a0_4 a1_0 a1_1 a1_2 l1_3 l1_4 l1_5))) else (a0b.j0 k a2 l3 a4 a5 t591 true a0_0 a0_1 a0_2 a0_3 a0_4 a1_0 a1_1 a1_2 l1_3 l1_4 l1_5)))
theorem a0b.a0z : ∀ k, (∀ y0 y1 y2 y3 y4 y5 y6 y7 y8 y9 y10 y11 y12 y13 y14 y15 y16, LeO (a0b.j0 k y0 y1 y2 y3 y4 y5 y6 y7 y8 y9 y10 y11 y12 y13 y14 y15 y16) (a0b.j0 (k + 1) y0 y1 y2 y3 y4 y5 y6 y7 y8 y9 y10 y11 y12 y13 y14 y15 y16)) ∧ (∀ y0 y1 y2 y3 y4 y5 y6 y7 y8 y9 y10 y11 y12 y13 y14, LeO (a0b.j1 k y0 y1 y2 y3 y4 y5 y6 y7 y8 y9 y10 y11 y12 y13 y14) (a0b.j1 (k + 1) y0 y1 y2 y3 y4 y5 y6 y7 y8 y9 y10 y11 y12 y13 y14))
 | 0 => ⟨fun _ _ _ _ _ _ _ _ _ _ _ _ _ _ _ _ _ r h => by simp [a0b.j0] at h, fun _ _ _ _ _ _ _ _ _ _ _ _ _ _ _ r h => by simp [a0b.j1] at h⟩
 | k + 1 => by
  obtain ⟨ih0, ih1⟩ := a0b.a0z k
  refine ⟨?_, ?_⟩
  ·intro y0 y1 y2 y3 y4 y5 y6 y7 y8 y9 y10 y11 y12 y13 y14 y15 y16
   unfold a0b.j0
   with_reducible (repeat' first | apply ih0 | apply ih1 | apply a1p.mono | apply a0i.mono | apply a3d.mono | apply a0p.mono | apply a1c.mono | apply LeO.refl | apply LeO.none | apply LeO.ite | refine LeO.bind ?_ (fun _ => ?_))
  ·intro y0 y1 y2 y3 y4 y5 y6 y7 y8 y9 y10 y11 y12 y13 y14
   unfold a0b.j1
   with_reducible (repeat' first | apply ih0 | apply ih1 | apply a1p.mono | apply a0i.mono | apply a3d.mono | apply a0p.mono | apply a1c.mono | apply LeO.refl | apply LeO.none | apply LeO.ite | refine LeO.bind ?_ (fun _ => ?_))
theorem a0b.mono : ∀ a0 a1 a2 a3 a4 a5 a6 a7 a8 a9 a10 a11 a12 a13 a14 k, LeO (a0b.f k a0 a1 a2 a3 a4 a5 a6 a7 a8 a9 a10 a11 a12 a13 a14) (a0b.f (k + 1) a0 a1 a2 a3 a4 a5 a6 a7 a8 a9 a10 a11 a12 a13 a14) := by
 intro a0 a1 a2 a3 a4 a5 a6 a7 a8 a9 a10 a11 a12 a13 a14 k
 obtain ⟨ih0, ih1⟩ := a0b.a0z k
 unfold a0b.f
 with_reducible (repeat' first | apply ih0 | apply ih1 | apply a1p.mono | apply a0i.mono | apply a3d.mono | apply a0p.mono | apply a1c.mono | apply LeO.refl | apply LeO.none | apply LeO.ite | refine LeO.bind ?_ (fun _ => ?_))
def a0b.T5 : Bool × List (List Nat × List Nat) := (true, [([], []), ([0], [0]), ([], []), ([2], [2]), ([1, 3], [1, 3]), ([4], [4]), ([], []), ([6], [6]), ([], []), ([8], [8]), ([7, 9], [7, 9]), ([10], [10]), ([0, 1, 2, 3, 4, 5], []), ([12, 5, 0, 1, 2, 3, 4, 5], [5, 12]), ([0, 1, 2, 3, 4, 5, 6, 7, 8, 9, 10, 11, 12, 13], []), ([14, 11, 13, 0, 1, 2, 3, 4, 5, 6, 7, 8, 9, 10, 11, 12, 13], [11, 14])])
def a0b.B5 : List Nat := [0, 1, 0, 4, 15, 31, 0, 64, 0, 256, 960, 1984, 63, 4159, 16383, 32767]
theorem a0b.tab5 : rtab .any (opsOf Try.f6 5) = a0b.T5 := by kernel_rfl
theorem a0b.b1k : a4l a0b.T5.2 a0b.B5 = true := by kernel_rfl
def a0b.T11 : Bool × List (List Nat × List Nat) := (true, [([], []), ([0], [0]), ([1], [1]), ([], []), ([3], [3]), ([3, 4], []), ([5, 4, 3, 4], [5]), ([0, 1, 2, 3, 4, 5, 6], []), ([7, 2, 6, 0, 1, 2, 3, 4, 5, 6], [2, 7])])
def a0b.B11 : List Nat := [0, 1, 3, 0, 8, 24, 56, 127, 255]
theorem a0b.a7a : rtab .any (opsOf Try.f6 11) = a0b.T11 := by kernel_rfl
theorem a0b.a6d : a4l a0b.T11.2 a0b.B11 = true := by kernel_rfl
set_option maxHeartbeats 60000000 in
set_option maxRecDepth 100000 in
theorem a0b.calls (k : Nat) (a0_0 a0_1 a0_2 a0_3 : Int) (a0_4 : Bool) (a1_0 a1_1 a1_2 : Int) (A1_3 : Option Addr) (c1_3 : Nat) (l1_3 : List ByteArray) (A1_4 : Option Addr) (c1_4 : Nat) (l1_4 : List (S43)) (A1_5 : Option Addr) (c1_5 : Nat) (l1_5 : List Int) (a2 : ByteArray) (A3 : Option Addr) (c3 : Nat) (l3 : List Int) (a4 a5 : Int) (r : Bool) (w : World) (hr1_3 : Kd.C Kd.string w A1_3 l1_3.length l1_3) (hc1_3 : l1_3.length ≤ c1_3) (hr1_4 : Kd.C k43 w A1_4 l1_4.length l1_4) (hc1_4 : l1_4.length ≤ c1_4) (hr1_5 : Kd.C (Kd.int .i64) w A1_5 l1_5.length l1_5) (hc1_5 : l1_5.length ≤ c1_5) (hr3 : Kd.C (Kd.int .i64) w A3 l3.length l3) (hc3 : l3.length ≤ c3) (h : a0b.f k a0_0 a0_1 a0_2 a0_3 a0_4 a1_0 a1_1 a1_2 l1_3 l1_4 l1_5 a2 l3 a4 a5 = some r) :
  Calls Try.prog 6 #[.agg #[.int .i64 a0_0, .int .i64 a0_1, .int .i64 a0_2, .int .i64 a0_3, .bool a0_4], .agg #[.int .i64 a1_0, .int .i64 a1_1, .int .i64 a1_2, .slice A1_3 l1_3.length c1_3, .slice A1_4 l1_4.length c1_4, .slice A1_5 l1_5.length c1_5], .string a2, .slice A3 l3.length c3, .int .u8 a4, .int .u8 a5] w fun e w' => e = .returned (.bool r) ∧ Below w.heap.size w w' := by
 have hu25 := Try.underlying25
 have hu30 := Try.underlying30
 have HR1_3 := am_ hr1_3
 have HC1_3 := am_ hc1_3
 clear hr1_3 hc1_3
 have HR1_4 := am_ hr1_4
 have HC1_4 := am_ hc1_4
 clear hr1_4 hc1_4
 have HR1_5 := am_ hr1_5
 have HC1_5 := am_ hc1_5
 clear hr1_5 hc1_5
 have HR3 := am_ hr3
 have HC3 := am_ hc3
 clear hr3 hc3
 have HB := am_ (Below.refl w.heap.size w)
 have H : ((a0i.f k).bind fun t591 => ((a3d.f k a0_0 a0_1 a0_2 a0_3 a0_4 a1_0 a1_1 a1_2 l1_3 l1_4 l1_5).bind fun t592 => (if t592 = true then ((a1c.f k a2).bind fun t593 => (if t593 = true then (if (l3.length : Int) > 150 then (a0b.j0 k a2 l3 a4 a5 t591 true a0_0 a0_1 a0_2 a0_3 a0_4 a1_0 a1_1 a1_2 l1_3 l1_4 l1_5) else ((a0p.f k l3).bind fun t594 => (a0b.j0 k a2 l3 a4 a5 t591 (!t594) a0_0 a0_1 a0_2 a0_3 a0_4 a1_0 a1_1 a1_2 l1_3 l1_4 l1_5))) else (a0b.j0 k a2 l3 a4 a5 t591 true a0_0 a0_1 a0_2 a0_3 a0_4 a1_0 a1_1 a1_2 l1_3 l1_4 l1_5))) else (a0b.j0 k a2 l3 a4 a5 t591 true a0_0 a0_1 a0_2 a0_3 a0_4 a1_0 a1_1 a1_2 l1_3 l1_4 l1_5)))) = some r := h
 clear h
 replace H := bm_ H
 obtain ⟨t591, A70, H⟩ := H
 replace H : ((a3d.f k a0_0 a0_1 a0_2 a0_3 a0_4 a1_0 a1_1 a1_2 l1_3 l1_4 l1_5).bind fun t592 => (if t592 = true then ((a1c.f k a2).bind fun t593 => (if t593 = true then (if (l3.length : Int) > 150 then (a0b.j0 k a2 l3 a4 a5 t591 true a0_0 a0_1 a0_2 a0_3 a0_4 a1_0 a1_1 a1_2 l1_3 l1_4 l1_5) else ((a0p.f k l3).bind fun t594 => (a0b.j0 k a2 l3 a4 a5 t591 (!t594) a0_0 a0_1 a0_2 a0_3 a0_4 a1_0 a1_1 a1_2 l1_3 l1_4 l1_5))) else (a0b.j0 k a2 l3 a4 a5 t591 true a0_0 a0_1 a0_2 a0_3 a0_4 a1_0 a1_1 a1_2 l1_3 l1_4 l1_5))) else (a0b.j0 k a2 l3 a4 a5 t591 true a0_0 a0_1 a0_2 a0_3 a0_4 a1_0 a1_1 a1_2 l1_3 l1_4 l1_5))) = some r := H
 have A7 := am_ A70
 clear A70
 have HC8 := am_ H
 clear H
 go_enter Try.func6, Try.ntmps6
 go_upto_region 2 with (first | ((with_reducible refine a0h (N := 6) rfl ?_); (try (refine a3c (by rfl) ?_; dsimp only)); refine qev_ 6 #[.int .i64 a0_0, .int .i64 a0_1, .int .i64 a0_2, .int .i64 a0_3, .bool a0_4] 25 ?_; intro gb589 hg w9 hbox hb; have BK589 := am_ (hbox); have GW589 := qga_ hg; have GE589 := qga_ hg; replace HB := qbs_ hb; clear hb hbox hg) | ((with_reducible refine a0h (N := 7) rfl ?_); (try (refine a3c (by rfl) ?_; dsimp only)); refine qev_ 7 #[.int .i64 a1_0, .int .i64 a1_1, .int .i64 a1_2, .slice A1_3 l1_3.length c1_3, .slice A1_4 l1_4.length c1_4, .slice A1_5 l1_5.length c1_5] 30 ?_; intro gb590 hg w10 hbox hb; have BK590 := am_ (hbox); have GW590 := qga_ hg; have GE590 := qga_ hg; replace HB := qbs_ hb; have NB589_590 := am_ ((by rw [hg]; exact Nat.ne_of_lt (a0d (qk_ BK589)) : gb589 ≠ gb590)); have NB590_589 := am_ ((by rw [hg]; exact Nat.ne_of_gt (a0d (qk_ BK589)) : gb590 ≠ gb589)); replace BK589 := qkb_ BK589 hb; clear hb hbox hg) | ((with_reducible refine a0g (f := 11) rfl ?_); refine a0t (some 25) rfl rfl Try.func11 (by kernel_rfl) rfl #[] rfl ql_ ?_; (with_reducible refine (a0i.calls k  t591 _ A7.out).mono ?_); rintro e w11 ⟨rfl, hb⟩; refine ⟨_, rfl, ?_⟩; replace BK589 := qkb_ BK589 hb; replace BK590 := qkb_ BK590 hb; replace HB := qbs_ hb; (try clear hb); (try clear hb2); (try clear hk); (try clear hi)))
 (try simp only [Act.put, List.setIfInBounds_toArray, List.set_cons_zero, List.set_cons_succ])
 go_cut [44] (fun v44 wc => ∃ (kq : Nat) (x44_7 : Bool), v44 = .bool x44_7 ∧ Aside0 (a0b.j0 kq a2 l3 a4 a5 t591 x44_7 a0_0 a0_1 a0_2 a0_3 a0_4 a1_0 a1_1 a1_2 l1_3 l1_4 l1_5 = some r) ∧ Aside0 (kq ≤ k) ∧ Aside0 (wc.heap[gb589]? = some (.cells #[.int .i64 a0_0, .int .i64 a0_1, .int .i64 a0_2, .int .i64 a0_3, .bool a0_4] 25 (0, 0))) ∧ Aside0 (wc.heap[gb590]? = some (.cells #[.int .i64 a1_0, .int .i64 a1_1, .int .i64 a1_2, (.slice A1_3 l1_3.length c1_3), (.slice A1_4 l1_4.length c1_4), (.slice A1_5 l1_5.length c1_5)] 30 (0, 0))) ∧ Aside0 (Below w.heap.size w wc))
 case first =>
  have H := HC8.out
  clear HC8
  replace H := bm_ H
  obtain ⟨t592, A120, H⟩ := H
  replace H : (if t592 = true then ((a1c.f k a2).bind fun t593 => (if t593 = true then (if (l3.length : Int) > 150 then (a0b.j0 k a2 l3 a4 a5 t591 true a0_0 a0_1 a0_2 a0_3 a0_4 a1_0 a1_1 a1_2 l1_3 l1_4 l1_5) else ((a0p.f k l3).bind fun t594 => (a0b.j0 k a2 l3 a4 a5 t591 (!t594) a0_0 a0_1 a0_2 a0_3 a0_4 a1_0 a1_1 a1_2 l1_3 l1_4 l1_5))) else (a0b.j0 k a2 l3 a4 a5 t591 true a0_0 a0_1 a0_2 a0_3 a0_4 a1_0 a1_1 a1_2 l1_3 l1_4 l1_5))) else (a0b.j0 k a2 l3 a4 a5 t591 true a0_0 a0_1 a0_2 a0_3 a0_4 a1_0 a1_1 a1_2 l1_3 l1_4 l1_5)) = some r := H
  have A12 := am_ A120
  clear A120
  by_cases c13 : t592 = true
  ·subst c13
   have H1 : ((a1c.f k a2).bind fun t593 => (if t593 = true then (if (l3.length : Int) > 150 then (a0b.j0 k a2 l3 a4 a5 t591 true a0_0 a0_1 a0_2 a0_3 a0_4 a1_0 a1_1 a1_2 l1_3 l1_4 l1_5) else ((a0p.f k l3).bind fun t594 => (a0b.j0 k a2 l3 a4 a5 t591 (!t594) a0_0 a0_1 a0_2 a0_3 a0_4 a1_0 a1_1 a1_2 l1_3 l1_4 l1_5))) else (a0b.j0 k a2 l3 a4 a5 t591 true a0_0 a0_1 a0_2 a0_3 a0_4 a1_0 a1_1 a1_2 l1_3 l1_4 l1_5))) = some r := by rw [if_pos rfl] at H; exact H
   clear H
   have H := H1
   clear H1
   replace H := bm_ H
   obtain ⟨t593, A140, H⟩ := H
   replace H : (if t593 = true then (if (l3.length : Int) > 150 then (a0b.j0 k a2 l3 a4 a5 t591 true a0_0 a0_1 a0_2 a0_3 a0_4 a1_0 a1_1 a1_2 l1_3 l1_4 l1_5) else ((a0p.f k l3).bind fun t594 => (a0b.j0 k a2 l3 a4 a5 t591 (!t594) a0_0 a0_1 a0_2 a0_3 a0_4 a1_0 a1_1 a1_2 l1_3 l1_4 l1_5))) else (a0b.j0 k a2 l3 a4 a5 t591 true a0_0 a0_1 a0_2 a0_3 a0_4 a1_0 a1_1 a1_2 l1_3 l1_4 l1_5)) = some r := H
   have A14 := am_ A140
   clear A140
   by_cases c15 : t593 = true
   ·subst c15
    have H1 : (if (l3.length : Int) > 150 then (a0b.j0 k a2 l3 a4 a5 t591 true a0_0 a0_1 a0_2 a0_3 a0_4 a1_0 a1_1 a1_2 l1_3 l1_4 l1_5) else ((a0p.f k l3).bind fun t594 => (a0b.j0 k a2 l3 a4 a5 t591 (!t594) a0_0 a0_1 a0_2 a0_3 a0_4 a1_0 a1_1 a1_2 l1_3 l1_4 l1_5))) = some r := by rw [if_pos rfl] at H; exact H
    clear H
    have H := H1
    clear H1
    by_cases c16 : (l3.length : Int) > 150
    ·rw [if_pos c16] at H
     have c16b0 : decide (150 < (l3.length : Int)) = true := decide_eq_true c16
     have c16b1 : decide (150 < l3.length) = true := decide_eq_true (by omega)
     clear c16
     (first | rw [c16b0] | (simp only [a2q, a3i]; rw [c16b0]) | skip)
     have H' := am_ H
     clear H
     have hnb17 := NB589_590.out
     have hnc17 := NB590_589.out
     obtain ⟨z'18_0, z'18_1, z'18_2, z'18_3, z'18_4⟩ := qz5_ BK589; obtain ⟨y'18_0, y'18_1, y'18_2, y'18_3, y'18_4⟩ := qf5_ BK589
     obtain ⟨z'19_0, z'19_1, z'19_2, z'19_3, z'19_4, z'19_5⟩ := qz6_ BK590; obtain ⟨y'19_0, y'19_1, y'19_2, y'19_3, y'19_4, y'19_5⟩ := qf6_ BK590
     go_wp2_with (first | ((with_reducible refine a0g (f := 22) rfl ?_); refine a0t (some 28) rfl rfl Try.func22 (by kernel_rfl) rfl #[.agg #[.int .i64 a0_0, .int .i64 a0_1, .int .i64 a0_2, .int .i64 a0_3, .bool a0_4], .agg #[.int .i64 a1_0, .int .i64 a1_1, .int .i64 a1_2, .slice A1_3 l1_3.length c1_3, .slice A1_4 l1_4.length c1_4, .slice A1_5 l1_5.length c1_5]] rfl ql_ ?_; (with_reducible refine (a3d.calls k a0_0 a0_1 a0_2 a0_3 a0_4 a1_0 a1_1 a1_2 _ _ l1_3 _ _ l1_4 _ _ l1_5 true _ ?s1 ?s2 ?s3 ?s4 ?s5 ?s6 A12.out).mono ?_); (case s1 => exact qc_ HR1_3); (case s2 => exact HC1_3.out); (case s3 => exact qc_ HR1_4); (case s4 => exact HC1_4.out); (case s5 => exact qc_ HR1_5); (case s6 => exact HC1_5.out); rintro e w20 ⟨rfl, hb⟩; refine ⟨_, rfl, ?_⟩; replace BK589 := qkb_ BK589 hb; replace BK590 := qkb_ BK590 hb; replace HB := qbs_ hb; (try clear hb); (try clear hb2); (try clear hk); (try clear hi)) | (go_at_call 25; (with_reducible refine (a1c.calls k a2 true _ A14.out).mono ?_); rintro e w' ⟨rfl, ⟨nd, rfl⟩⟩))
     go_meet
     case rel => exact ⟨_, (true), qs_, H', ⟨qo_⟩, ⟨qk_ BK589⟩, ⟨qk_ BK590⟩, ⟨qb_⟩⟩
    ·rw [if_neg c16] at H
     have c16b0 : decide (150 < (l3.length : Int)) = false := decide_eq_false c16
     have c16b1 : decide (150 < l3.length) = false := decide_eq_false (by omega)
     clear c16
     (first | rw [c16b0] | (simp only [a2q, a3i]; rw [c16b0]) | skip)
     replace H := bm_ H
     obtain ⟨t594, A210, H⟩ := H
     replace H : (a0b.j0 k a2 l3 a4 a5 t591 (!t594) a0_0 a0_1 a0_2 a0_3 a0_4 a1_0 a1_1 a1_2 l1_3 l1_4 l1_5) = some r := H
     have A21 := am_ A210
     clear A210
     have H' := am_ H
     clear H
     have hnb22 := NB589_590.out
     have hnc22 := NB590_589.out
     obtain ⟨z'23_0, z'23_1, z'23_2, z'23_3, z'23_4⟩ := qz5_ BK589; obtain ⟨y'23_0, y'23_1, y'23_2, y'23_3, y'23_4⟩ := qf5_ BK589
     obtain ⟨z'24_0, z'24_1, z'24_2, z'24_3, z'24_4, z'24_5⟩ := qz6_ BK590; obtain ⟨y'24_0, y'24_1, y'24_2, y'24_3, y'24_4, y'24_5⟩ := qf6_ BK590
     go_wp2_with (first | ((with_reducible refine a0g (f := 22) rfl ?_); refine a0t (some 28) rfl rfl Try.func22 (by kernel_rfl) rfl #[.agg #[.int .i64 a0_0, .int .i64 a0_1, .int .i64 a0_2, .int .i64 a0_3, .bool a0_4], .agg #[.int .i64 a1_0, .int .i64 a1_1, .int .i64 a1_2, .slice A1_3 l1_3.length c1_3, .slice A1_4 l1_4.length c1_4, .slice A1_5 l1_5.length c1_5]] rfl ql_ ?_; (with_reducible refine (a3d.calls k a0_0 a0_1 a0_2 a0_3 a0_4 a1_0 a1_1 a1_2 _ _ l1_3 _ _ l1_4 _ _ l1_5 true _ ?s1 ?s2 ?s3 ?s4 ?s5 ?s6 A12.out).mono ?_); (case s1 => exact qc_ HR1_3); (case s2 => exact HC1_3.out); (case s3 => exact qc_ HR1_4); (case s4 => exact HC1_4.out); (case s5 => exact qc_ HR1_5); (case s6 => exact HC1_5.out); rintro e w25 ⟨rfl, hb⟩; refine ⟨_, rfl, ?_⟩; replace BK589 := qkb_ BK589 hb; replace BK590 := qkb_ BK590 hb; replace HB := qbs_ hb; (try clear hb); (try clear hb2); (try clear hk); (try clear hi)) | (go_at_call 25; (with_reducible refine (a1c.calls k a2 true _ A14.out).mono ?_); rintro e w' ⟨rfl, ⟨nd, rfl⟩⟩) | (go_at_call 26; (with_reducible refine (a0p.calls k _ _ l3 t594 _ ?s1 ?s2 A21.out).mono ?_); (case s1 => repeat (first | exact (Kd.a0r HR3.out qb_) | (with_reducible refine Kd.a2e ?_ _) | (with_reducible refine Kd.a2f ?_ _) | (with_reducible refine Kd.a2p ?_))); (case s2 => exact HC3.out); rintro e w' ⟨rfl, ⟨nd, rfl⟩⟩))
     go_meet
     case rel => exact ⟨_, (!t594), qs_, H', ⟨qo_⟩, ⟨qk_ BK589⟩, ⟨qk_ BK590⟩, ⟨qb_⟩⟩
   ·replace c15 := be_ c15
    subst c15
    have H1 : (a0b.j0 k a2 l3 a4 a5 t591 true a0_0 a0_1 a0_2 a0_3 a0_4 a1_0 a1_1 a1_2 l1_3 l1_4 l1_5) = some r := by rw [if_neg (show ¬ (false = true) by decide)] at H; exact H
    clear H
    have H := H1
    clear H1
    have H' := am_ H
    clear H
    have hnb26 := NB589_590.out
    have hnc26 := NB590_589.out
    obtain ⟨z'27_0, z'27_1, z'27_2, z'27_3, z'27_4⟩ := qz5_ BK589; obtain ⟨y'27_0, y'27_1, y'27_2, y'27_3, y'27_4⟩ := qf5_ BK589
    obtain ⟨z'28_0, z'28_1, z'28_2, z'28_3, z'28_4, z'28_5⟩ := qz6_ BK590; obtain ⟨y'28_0, y'28_1, y'28_2, y'28_3, y'28_4, y'28_5⟩ := qf6_ BK590
    go_wp2_with (first | ((with_reducible refine a0g (f := 22) rfl ?_); refine a0t (some 28) rfl rfl Try.func22 (by kernel_rfl) rfl #[.agg #[.int .i64 a0_0, .int .i64 a0_1, .int .i64 a0_2, .int .i64 a0_3, .bool a0_4], .agg #[.int .i64 a1_0, .int .i64 a1_1, .int .i64 a1_2, .slice A1_3 l1_3.length c1_3, .slice A1_4 l1_4.length c1_4, .slice A1_5 l1_5.length c1_5]] rfl ql_ ?_; (with_reducible refine (a3d.calls k a0_0 a0_1 a0_2 a0_3 a0_4 a1_0 a1_1 a1_2 _ _ l1_3 _ _ l1_4 _ _ l1_5 true _ ?s1 ?s2 ?s3 ?s4 ?s5 ?s6 A12.out).mono ?_); (case s1 => exact qc_ HR1_3); (case s2 => exact HC1_3.out); (case s3 => exact qc_ HR1_4); (case s4 => exact HC1_4.out); (case s5 => exact qc_ HR1_5); (case s6 => exact HC1_5.out); rintro e w29 ⟨rfl, hb⟩; refine ⟨_, rfl, ?_⟩; replace BK589 := qkb_ BK589 hb; replace BK590 := qkb_ BK590 hb; replace HB := qbs_ hb; (try clear hb); (try clear hb2); (try clear hk); (try clear hi)) | (go_at_call 25; (with_reducible refine (a1c.calls k a2 false _ A14.out).mono ?_); rintro e w' ⟨rfl, ⟨nd, rfl⟩⟩))
    go_meet
    case rel => exact ⟨_, (true), qs_, H', ⟨qo_⟩, ⟨qk_ BK589⟩, ⟨qk_ BK590⟩, ⟨qb_⟩⟩
  ·replace c13 := be_ c13
   subst c13
   have H1 : (a0b.j0 k a2 l3 a4 a5 t591 true a0_0 a0_1 a0_2 a0_3 a0_4 a1_0 a1_1 a1_2 l1_3 l1_4 l1_5) = some r := by rw [if_neg (show ¬ (false = true) by decide)] at H; exact H
   clear H
   have H := H1
   clear H1
   have H' := am_ H
   clear H
   have hnb30 := NB589_590.out
   have hnc30 := NB590_589.out
   obtain ⟨z'31_0, z'31_1, z'31_2, z'31_3, z'31_4⟩ := qz5_ BK589; obtain ⟨y'31_0, y'31_1, y'31_2, y'31_3, y'31_4⟩ := qf5_ BK589
   obtain ⟨z'32_0, z'32_1, z'32_2, z'32_3, z'32_4, z'32_5⟩ := qz6_ BK590; obtain ⟨y'32_0, y'32_1, y'32_2, y'32_3, y'32_4, y'32_5⟩ := qf6_ BK590
   go_wp2_with (first | ((with_reducible refine a0g (f := 22) rfl ?_); refine a0t (some 28) rfl rfl Try.func22 (by kernel_rfl) rfl #[.agg #[.int .i64 a0_0, .int .i64 a0_1, .int .i64 a0_2, .int .i64 a0_3, .bool a0_4], .agg #[.int .i64 a1_0, .int .i64 a1_1, .int .i64 a1_2, .slice A1_3 l1_3.length c1_3, .slice A1_4 l1_4.length c1_4, .slice A1_5 l1_5.length c1_5]] rfl ql_ ?_; (with_reducible refine (a3d.calls k a0_0 a0_1 a0_2 a0_3 a0_4 a1_0 a1_1 a1_2 _ _ l1_3 _ _ l1_4 _ _ l1_5 false _ ?s1 ?s2 ?s3 ?s4 ?s5 ?s6 A12.out).mono ?_); (case s1 => exact qc_ HR1_3); (case s2 => exact HC1_3.out); (case s3 => exact qc_ HR1_4); (case s4 => exact HC1_4.out); (case s5 => exact qc_ HR1_5); (case s6 => exact HC1_5.out); rintro e w33 ⟨rfl, hb⟩; refine ⟨_, rfl, ?_⟩; replace BK589 := qkb_ BK589 hb; replace BK590 := qkb_ BK590 hb; replace HB := qbs_ hb; (try clear hb); (try clear hb2); (try clear hk); (try clear hi)))
   go_meet
   case rel => exact ⟨_, (true), qs_, H', ⟨qo_⟩, ⟨qk_ BK589⟩, ⟨qk_ BK590⟩, ⟨qb_⟩⟩
 case rest =>
  clear HC8
  try clear c1
  try clear c2
  try clear p2
  try clear c3
  try clear c6
  try clear c11
  try clear c13
  try clear c15
  try clear c16
  try clear c16b0
  try clear c16b1
  try clear c17
  try clear c22
  try clear c26
  try clear c30
  try clear z'18_0 z'18_1 z'18_2 z'18_3 z'18_4
  try clear z'19_0 z'19_1 z'19_2 z'19_3 z'19_4 z'19_5
  try clear z'23_0 z'23_1 z'23_2 z'23_3 z'23_4
  try clear z'24_0 z'24_1 z'24_2 z'24_3 z'24_4 z'24_5
  try clear z'27_0 z'27_1 z'27_2 z'27_3 z'27_4
  try clear z'28_0 z'28_1 z'28_2 z'28_3 z'28_4 z'28_5
  try clear z'31_0 z'31_1 z'31_2 z'31_3 z'31_4
  try clear z'32_0 z'32_1 z'32_2 z'32_3 z'32_4 z'32_5
  try clear y'18_0 y'18_1 y'18_2 y'18_3 y'18_4
  try clear y'19_0 y'19_1 y'19_2 y'19_3 y'19_4 y'19_5
  try clear y'23_0 y'23_1 y'23_2 y'23_3 y'23_4
  try clear y'24_0 y'24_1 y'24_2 y'24_3 y'24_4 y'24_5
  try clear y'27_0 y'27_1 y'27_2 y'27_3 y'27_4
  try clear y'28_0 y'28_1 y'28_2 y'28_3 y'28_4 y'28_5
  try clear y'31_0 y'31_1 y'31_2 y'31_3 y'31_4
  try clear y'32_0 y'32_1 y'32_2 y'32_3 y'32_4 y'32_5
  obtain ⟨kq, x44_7, rfl, HA, HJ7, BK589, BK590, HB⟩ := hcut
  cases kq with
  | zero => exact absurd HA.out (by simp [a0b.j0])
  | succ kj7 =>
   have H := HA.out
   clear HA
   simp only [a0b.j0] at H
   by_cases c34 : x44_7 = true
   ·subst c34
    have H1 : (some t591) = some r := by rw [if_pos rfl] at H; exact H
    clear H
    have H := H1
    clear H1
    obtain rfl := si_ H
    go_wp2
    go_ret
    exact ⟨qx_, qb_⟩
   ·replace c34 := be_ c34
    subst c34
    have H1 : ((a1p.f kj7 a0_0 a0_1 a0_2 a0_3 a0_4 a1_0 a1_1 a1_2 l1_3 l1_4 l1_5 a2 l3 1).bind fun bt596 => ((a1p.f kj7 a0_0 a0_1 a0_2 a0_3 a0_4 (mx 0 (wrap64 (a1_0 - (wrap64 (a4))))) a1_1 (mn 36524 (wrap64 (a1_2 + (wrap64 (a5))))) l1_3 l1_4 l1_5 a2 l3 1).bind fun bt598 => (if bt596.2 = true then (if bt598.2 = true then (if bt596.1 = true then (a0b.j1 kj7 a2 l3 t591 false a0_0 a0_1 a0_2 a0_3 a0_4 a1_0 a1_1 a1_2 l1_3 l1_4 l1_5) else (a0b.j1 kj7 a2 l3 t591 bt598.1 a0_0 a0_1 a0_2 a0_3 a0_4 a1_0 a1_1 a1_2 l1_3 l1_4 l1_5)) else (a0b.j1 kj7 a2 l3 t591 true a0_0 a0_1 a0_2 a0_3 a0_4 a1_0 a1_1 a1_2 l1_3 l1_4 l1_5)) else (a0b.j1 kj7 a2 l3 t591 true a0_0 a0_1 a0_2 a0_3 a0_4 a1_0 a1_1 a1_2 l1_3 l1_4 l1_5)))) = some r := by rw [if_neg (show ¬ (false = true) by decide)] at H; exact H
    clear H
    have H := H1
    clear H1
    obtain ⟨ji35, hji35⟩ : ∃ j_ : Int, (mx 0 (wrap64 (a1_0 - (wrap64 (a4))))) = j_ := ⟨_, rfl⟩
    replace H : ((a1p.f kj7 a0_0 a0_1 a0_2 a0_3 a0_4 a1_0 a1_1 a1_2 l1_3 l1_4 l1_5 a2 l3 1).bind fun bt596 => ((a1p.f kj7 a0_0 a0_1 a0_2 a0_3 a0_4 (ji35) a1_1 (mn 36524 (wrap64 (a1_2 + (wrap64 (a5))))) l1_3 l1_4 l1_5 a2 l3 1).bind fun bt598 => (if bt596.2 = true then (if bt598.2 = true then (if bt596.1 = true then (a0b.j1 kj7 a2 l3 t591 false a0_0 a0_1 a0_2 a0_3 a0_4 a1_0 a1_1 a1_2 l1_3 l1_4 l1_5) else (a0b.j1 kj7 a2 l3 t591 bt598.1 a0_0 a0_1 a0_2 a0_3 a0_4 a1_0 a1_1 a1_2 l1_3 l1_4 l1_5)) else (a0b.j1 kj7 a2 l3 t591 true a0_0 a0_1 a0_2 a0_3 a0_4 a1_0 a1_1 a1_2 l1_3 l1_4 l1_5)) else (a0b.j1 kj7 a2 l3 t591 true a0_0 a0_1 a0_2 a0_3 a0_4 a1_0 a1_1 a1_2 l1_3 l1_4 l1_5)))) = some r := by first | (rw [hji35] at H; exact H) | (simp only [hji35] at H ⊢; exact H)
    have hji35_ : (if 0 < (wrap64 (a1_0 - (wrap64 (a4)))) then (wrap64 (a1_0 - (wrap64 (a4)))) else 0) = ji35 := hji35
    obtain ⟨ji36, hji36⟩ : ∃ j_ : Int, (mn 36524 (wrap64 (a1_2 + (wrap64 (a5))))) = j_ := ⟨_, rfl⟩
    replace H : ((a1p.f kj7 a0_0 a0_1 a0_2 a0_3 a0_4 a1_0 a1_1 a1_2 l1_3 l1_4 l1_5 a2 l3 1).bind fun bt596 => ((a1p.f kj7 a0_0 a0_1 a0_2 a0_3 a0_4 (ji35) a1_1 (ji36) l1_3 l1_4 l1_5 a2 l3 1).bind fun bt598 => (if bt596.2 = true then (if bt598.2 = true then (if bt596.1 = true then (a0b.j1 kj7 a2 l3 t591 false a0_0 a0_1 a0_2 a0_3 a0_4 a1_0 a1_1 a1_2 l1_3 l1_4 l1_5) else (a0b.j1 kj7 a2 l3 t591 bt598.1 a0_0 a0_1 a0_2 a0_3 a0_4 a1_0 a1_1 a1_2 l1_3 l1_4 l1_5)) else (a0b.j1 kj7 a2 l3 t591 true a0_0 a0_1 a0_2 a0_3 a0_4 a1_0 a1_1 a1_2 l1_3 l1_4 l1_5)) else (a0b.j1 kj7 a2 l3 t591 true a0_0 a0_1 a0_2 a0_3 a0_4 a1_0 a1_1 a1_2 l1_3 l1_4 l1_5)))) = some r := by first | (rw [hji36] at H; exact H) | (simp only [hji36] at H ⊢; exact H)
    have hji36_ : (if (wrap64 (a1_2 + (wrap64 (a5)))) < 36524 then (wrap64 (a1_2 + (wrap64 (a5)))) else 36524) = ji36 := hji36
    replace H := bm_ H
    obtain ⟨⟨t596, t597⟩, A370, H⟩ := H
    replace H : ((a1p.f kj7 a0_0 a0_1 a0_2 a0_3 a0_4 (ji35) a1_1 (ji36) l1_3 l1_4 l1_5 a2 l3 1).bind fun bt598 => (if t597 = true then (if bt598.2 = true then (if t596 = true then (a0b.j1 kj7 a2 l3 t591 false a0_0 a0_1 a0_2 a0_3 a0_4 a1_0 a1_1 a1_2 l1_3 l1_4 l1_5) else (a0b.j1 kj7 a2 l3 t591 bt598.1 a0_0 a0_1 a0_2 a0_3 a0_4 a1_0 a1_1 a1_2 l1_3 l1_4 l1_5)) else (a0b.j1 kj7 a2 l3 t591 true a0_0 a0_1 a0_2 a0_3 a0_4 a1_0 a1_1 a1_2 l1_3 l1_4 l1_5)) else (a0b.j1 kj7 a2 l3 t591 true a0_0 a0_1 a0_2 a0_3 a0_4 a1_0 a1_1 a1_2 l1_3 l1_4 l1_5))) = some r := H
    have A37 := am_ A370
    clear A370
    replace H := bm_ H
    obtain ⟨⟨t598, t599⟩, A380, H⟩ := H
    replace H : (if t597 = true then (if t599 = true then (if t596 = true then (a0b.j1 kj7 a2 l3 t591 false a0_0 a0_1 a0_2 a0_3 a0_4 a1_0 a1_1 a1_2 l1_3 l1_4 l1_5) else (a0b.j1 kj7 a2 l3 t591 t598 a0_0 a0_1 a0_2 a0_3 a0_4 a1_0 a1_1 a1_2 l1_3 l1_4 l1_5)) else (a0b.j1 kj7 a2 l3 t591 true a0_0 a0_1 a0_2 a0_3 a0_4 a1_0 a1_1 a1_2 l1_3 l1_4 l1_5)) else (a0b.j1 kj7 a2 l3 t591 true a0_0 a0_1 a0_2 a0_3 a0_4 a1_0 a1_1 a1_2 l1_3 l1_4 l1_5)) = some r := H
    have A38 := am_ A380
    clear A380
    have HC39 := am_ H
    clear H
    have hnb40 := NB590_589.out
    have hnc40 := NB589_590.out
    obtain ⟨z'41_0, z'41_1, z'41_2, z'41_3, z'41_4, z'41_5⟩ := qz6_ BK590; obtain ⟨y'41_0, y'41_1, y'41_2, y'41_3, y'41_4, y'41_5⟩ := qf6_ BK590
    try go_wp2_with (first | ((with_reducible refine a0h (N := 14) rfl ?_); (try (refine a3c (by rfl) ?_; dsimp only)); refine qev_ 14 #[.int .i64 0, .int .i64 0, .int .i64 0, .slice none 0 0, .slice none 0 0, .slice none 0 0] 30 ?_; intro gb595 hg w42 hbox hb; have BK595 := am_ (hbox); have GW595 := qga_ hg; have GE595 := qga_ hg; replace HB := qbs_ hb; have NB589_595 := am_ ((by rw [hg]; exact Nat.ne_of_lt (a0d (qk_ BK589)) : gb589 ≠ gb595)); have NB595_589 := am_ ((by rw [hg]; exact Nat.ne_of_gt (a0d (qk_ BK589)) : gb595 ≠ gb589)); replace BK589 := qkb_ BK589 hb; have NB590_595 := am_ ((by rw [hg]; exact Nat.ne_of_lt (a0d (qk_ BK590)) : gb590 ≠ gb595)); have NB595_590 := am_ ((by rw [hg]; exact Nat.ne_of_gt (a0d (qk_ BK590)) : gb595 ≠ gb590)); replace BK590 := qkb_ BK590 hb; clear hb hbox hg; have hnb43 := NB595_589.out; have hnc43 := NB589_595.out; have hnb44 := NB595_590.out; have hnc44 := NB590_595.out; obtain ⟨z'45_0, z'45_1, z'45_2, z'45_3, z'45_4, z'45_5⟩ := qz6_ BK595; obtain ⟨y'45_0, y'45_1, y'45_2, y'45_3, y'45_4, y'45_5⟩ := qf6_ BK595))
    obtain ⟨w46, hW_⟩ : ∃ w_, ((((((w42.setCell ⟨gb595, 0, none⟩ (.int .i64 a1_0)).setCell ⟨gb595, 1, none⟩ (.int .i64 a1_1)).setCell ⟨gb595, 2, none⟩ (.int .i64 a1_2)).setCell ⟨gb595, 3, none⟩ (.slice A1_3 l1_3.length c1_3)).setCell ⟨gb595, 4, none⟩ (.slice A1_4 l1_4.length c1_4)).setCell ⟨gb595, 5, none⟩ (.slice A1_5 l1_5.length c1_5)) = w_ := ⟨_, rfl⟩
    have n0_ : Aside0 (w46.heap[gb589]? = some (.cells #[.int .i64 a0_0, .int .i64 a0_1, .int .i64 a0_2, .int .i64 a0_3, .bool a0_4] 25 (0, 0))) := ⟨by rw [← hW_]; (iterate 6 (refine qd_ ?_; refine a0e ?_ NB589_595.out _)); refine qd_ ?_; exact BK589.out⟩
    have n1_ : Aside0 (w46.heap[gb590]? = some (.cells #[.int .i64 a1_0, .int .i64 a1_1, .int .i64 a1_2, .slice A1_3 l1_3.length c1_3, .slice A1_4 l1_4.length c1_4, .slice A1_5 l1_5.length c1_5] 30 (0, 0))) := ⟨by rw [← hW_]; (iterate 6 (refine qd_ ?_; refine a0e ?_ NB590_595.out _)); refine qd_ ?_; exact BK590.out⟩
    have n2_ : Aside0 (w46.heap[gb595]? = some (.cells #[.int .i64 a1_0, .int .i64 a1_1, .int .i64 a1_2, .slice A1_3 l1_3.length c1_3, .slice A1_4 l1_4.length c1_4, .slice A1_5 l1_5.length c1_5] 30 (0, 0))) := ⟨by rw [← hW_]; refine qd_ ?_; refine a0c (cs := #[.int .i64 a1_0, .int .i64 a1_1, .int .i64 a1_2, .slice A1_3 l1_3.length c1_3, .slice A1_4 l1_4.length c1_4, .slice none 0 0]) ?_ 5 _ rfl; refine qd_ ?_; refine a0c (cs := #[.int .i64 a1_0, .int .i64 a1_1, .int .i64 a1_2, .slice A1_3 l1_3.length c1_3, .slice none 0 0, .slice none 0 0]) ?_ 4 _ rfl; refine qd_ ?_; refine a0c (cs := #[.int .i64 a1_0, .int .i64 a1_1, .int .i64 a1_2, .slice none 0 0, .slice none 0 0, .slice none 0 0]) ?_ 3 _ rfl; refine qd_ ?_; refine a0c (cs := #[.int .i64 a1_0, .int .i64 a1_1, .int .i64 0, .slice none 0 0, .slice none 0 0, .slice none 0 0]) ?_ 2 _ rfl; refine qd_ ?_; refine a0c (cs := #[.int .i64 a1_0, .int .i64 0, .int .i64 0, .slice none 0 0, .slice none 0 0, .slice none 0 0]) ?_ 1 _ rfl; refine qd_ ?_; refine a0c (cs := #[.int .i64 0, .int .i64 0, .int .i64 0, .slice none 0 0, .slice none 0 0, .slice none 0 0]) ?_ 0 _ rfl; refine qd_ ?_; exact BK595.out⟩
    have n3_ : Aside0 (Below w.heap.size w w46) := ⟨by rw [← hW_]; exact qb_⟩
    (try clear BK589)
    (try clear BK590)
    (try clear BK595)
    (try clear HB)
    rw [hW_]
    clear hW_
    have BK589 := n0_
    have BK590 := n1_
    have BK595 := n2_
    have HB := n3_
    clear n0_ n1_ n2_ n3_
    replace BK589 := am_ (bd_ BK589.out)
    replace BK590 := am_ (bd_ BK590.out)
    replace BK595 := am_ (bd_ BK595.out)
    replace HB := am_ (ld_ HB.out)
    refine a3l (n := 16) (S := fun w' => w'.cell? ⟨gb590, 0, none⟩ = some (.int .i64 a1_0) ∧ w'.cell? ⟨gb590, 1, none⟩ = some (.int .i64 a1_1) ∧ w'.cell? ⟨gb590, 2, none⟩ = some (.int .i64 a1_2) ∧ w'.cell? ⟨gb590, 3, none⟩ = some (.slice A1_3 l1_3.length c1_3) ∧ w'.cell? ⟨gb590, 4, none⟩ = some (.slice A1_4 l1_4.length c1_4) ∧ w'.cell? ⟨gb590, 5, none⟩ = some (.slice A1_5 l1_5.length c1_5)) (ds := []) #[i_,i_,i_,i_,i_,i_,i_,i_,i_,i_,i_,i_,i_,i_,i_,i_] (by kernel_rfl) rfl rfl ⟨(bc_ BK590.out 0).trans rfl, (bc_ BK590.out 1).trans rfl, (bc_ BK590.out 2).trans rfl, (bc_ BK590.out 3).trans rfl, (bc_ BK590.out 4).trans rfl, (bc_ BK590.out 5).trans rfl⟩ (fun hHeld => ?_); refine a3f a0b.tab5 a0b.b1k (fun HT_ HW_ => ?_)
    generalize w46.drew = w47 at BK589 BK590 BK595 HB hHeld ⊢
    refine qpu_ 0 (some 47) #[o_,i_,i_,i_,i_,i_,i_,i_,i_,i_,i_,i_,i_,i_,i_,i_] ?_
    refine qpu_ 2 (some 49) #[o_,i_,o_,i_,i_,i_,i_,i_,i_,i_,i_,i_,i_,i_,i_,i_] ?_
    refine qpu_ 3 (some 50) #[o_,i_,o_,o_,i_,i_,i_,i_,i_,i_,i_,i_,i_,i_,i_,i_] ?_
    refine qpu_ 6 (some 53) #[o_,i_,o_,o_,i_,i_,o_,i_,i_,i_,i_,i_,i_,i_,i_,i_] ?_
    refine qpu_ 8 (some 55) #[o_,i_,o_,o_,i_,i_,o_,i_,o_,i_,i_,i_,i_,i_,i_,i_] ?_
    refine qpu_ 9 (some 56) #[o_,i_,o_,o_,i_,i_,o_,i_,o_,o_,i_,i_,i_,i_,i_,i_] ?_
    refine a2o (i := 1) (N := some 48) (v := ?_) (a' := ?_) #[o_,o_,o_,o_,i_,i_,o_,i_,o_,o_,i_,i_,i_,i_,i_,i_] rfl rfl (a2s HT_.out HW_.out (by kernel_rfl)) (fun _ _ _ h => h) (Or.inl ⟨by rfl, ?_⟩) hHeld ?_ ?_
    rotate_left
    ·rintro w' ⟨s0, s1, s2, s3, s4, s5⟩
     go_simp
     with_reducible rfl
    rotate_left
    ·exact qp_
    refine qpu_ 4 (some 51) #[o_,o_,o_,o_,o_,i_,o_,i_,o_,o_,i_,i_,i_,i_,i_,i_] ?_
    refine qpu_ 5 (some 52) #[o_,o_,o_,o_,o_,o_,o_,i_,o_,o_,i_,i_,i_,i_,i_,i_] ?_
    refine qpu_ 12 (some 59) #[o_,o_,o_,o_,o_,o_,o_,i_,o_,o_,i_,i_,o_,i_,i_,i_] ?_
    refine a2o (i := 7) (N := some 54) (v := ?_) (a' := ?_) #[o_,o_,o_,o_,o_,o_,o_,o_,o_,o_,i_,i_,o_,i_,i_,i_] rfl rfl (a2s HT_.out HW_.out (by kernel_rfl)) (fun _ _ _ h => h) (Or.inl ⟨by rfl, ?_⟩) hHeld ?_ ?_
    rotate_left
    ·rintro w' ⟨s0, s1, s2, s3, s4, s5⟩
     go_simp
     with_reducible rfl
    rotate_left
    ·exact qp_
    refine qpu_ 10 (some 57) #[o_,o_,o_,o_,o_,o_,o_,o_,o_,o_,o_,i_,o_,i_,i_,i_] ?_
    refine qpu_ 11 (some 58) #[o_,o_,o_,o_,o_,o_,o_,o_,o_,o_,o_,o_,o_,i_,i_,i_] ?_
    refine one_ (i := 13) (N := none) #[o_,o_,o_,o_,o_,o_,o_,o_,o_,o_,o_,o_,o_,o_,i_,i_] rfl rfl (a1z HT_.out (by kernel_rfl)) (by decide) (fun K hK => ?_)
    have hs48 : w47.cell? ⟨gb595, 0, none⟩ = some (.int .i64 a1_0) := (bc_ BK595.out 0).trans rfl
    have hfs48 := bf_ BK595.out 0
    have hns48_0 := NB589_595.out
    have hns48_1 := NB590_595.out
    have hms48_0 := NB595_589.out
    have hms48_1 := NB595_590.out
    refine a2u (w1 := ?_) (by rfl) rfl ?_ ?_
    rotate_left
    ·go_simp
     rfl
    refine hK.out _ _ (qcf_ ⟨NB590_595.out, hHeld⟩) (fun hHeld => ?_)
    clear hK K
    clear hs48 hfs48
    refine qpu_ 14 (some 60) #[o_,o_,o_,o_,o_,o_,o_,o_,o_,o_,o_,o_,o_,o_,o_,i_] ?_
    refine one_ (i := 15) (N := none) #[o_,o_,o_,o_,o_,o_,o_,o_,o_,o_,o_,o_,o_,o_,o_,o_] rfl rfl (a1z HT_.out (by kernel_rfl)) (by decide) (fun K hK => ?_)
    have hs49 : w47.cell? ⟨gb595, 2, none⟩ = some (.int .i64 a1_2) := (bc_ BK595.out 2).trans rfl
    have hfs49 := bf_ BK595.out 2
    refine a2u (w1 := ?_) (by rfl) rfl ?_ ?_
    rotate_left
    ·go_simp
     rfl
    refine hK.out _ _ (qcf_ ⟨NB590_595.out, hHeld⟩) (fun hHeld => ?_)
    clear hK K
    clear hs49 hfs49
    refine a3z (a3x HT_.out (by kernel_rfl)) ?_
    obtain ⟨z'50_0, z'50_1, z'50_2, z'50_3, z'50_4⟩ := qz5_ BK589; obtain ⟨y'50_0, y'50_1, y'50_2, y'50_3, y'50_4⟩ := qf5_ BK589
    obtain ⟨z'51_0, z'51_1, z'51_2, z'51_3, z'51_4, z'51_5⟩ := qz6_ BK590; obtain ⟨y'51_0, y'51_1, y'51_2, y'51_3, y'51_4, y'51_5⟩ := qf6_ BK590
    go_upto_region 8 with (first | ((with_reducible refine a0g (f := 27) rfl ?_); refine a0t (some 66) rfl rfl Try.func27 (by kernel_rfl) rfl #[.agg #[.int .i64 a0_0, .int .i64 a0_1, .int .i64 a0_2, .int .i64 a0_3, .bool a0_4], .agg #[.int .i64 a1_0, .int .i64 a1_1, .int .i64 a1_2, .slice A1_3 l1_3.length c1_3, .slice A1_4 l1_4.length c1_4, .slice A1_5 l1_5.length c1_5], .string a2, .slice A3 l3.length c3, .int .i64 1] rfl ql_ ?_; (with_reducible refine (a1p.calls kj7 a0_0 a0_1 a0_2 a0_3 a0_4 a1_0 a1_1 a1_2 _ _ l1_3 _ _ l1_4 _ _ l1_5 a2 _ _ l3 1 t596 t597 _ ?s1 ?s2 ?s3 ?s4 ?s5 ?s6 ?s7 ?s8 A37.out).mono ?_); (case s1 => exact Kd.a0r HR1_3.out qb_); (case s2 => exact HC1_3.out); (case s3 => exact Kd.a0r HR1_4.out qb_); (case s4 => exact HC1_4.out); (case s5 => exact Kd.a0r HR1_5.out qb_); (case s6 => exact HC1_5.out); (case s7 => exact Kd.a0r HR3.out qb_); (case s8 => exact HC3.out); rintro e w52 ⟨rfl, hb⟩; refine ⟨_, rfl, ?_⟩; replace BK589 := am_ (a0v (g := gb589) (o := .cells #[.int .i64 a0_0, .int .i64 a0_1, .int .i64 a0_2, .int .i64 a0_3, .bool a0_4] 25 (0, 0)) (by (iterate 2 (refine qd_ ?_; refine a0e ?_ NB589_595.out _)); refine qd_ ?_; exact BK589.out) hb); replace BK590 := am_ (a0v (g := gb590) (o := .cells #[.int .i64 a1_0, .int .i64 a1_1, .int .i64 a1_2, .slice A1_3 l1_3.length c1_3, .slice A1_4 l1_4.length c1_4, .slice A1_5 l1_5.length c1_5] 30 (0, 0)) (by (iterate 2 (refine qd_ ?_; refine a0e ?_ NB590_595.out _)); refine qd_ ?_; exact BK590.out) hb); replace BK595 := am_ (a0v (g := gb595) (o := .cells #[.int .i64 ji35, .int .i64 a1_1, .int .i64 ji36, .slice A1_3 l1_3.length c1_3, .slice A1_4 l1_4.length c1_4, .slice A1_5 l1_5.length c1_5] 30 (0, 0)) (by refine qd_ ?_; refine a0c (cs := #[.int .i64 ji35, .int .i64 a1_1, .int .i64 a1_2, .slice A1_3 l1_3.length c1_3, .slice A1_4 l1_4.length c1_4, .slice A1_5 l1_5.length c1_5]) ?_ 2 _ rfl; refine qd_ ?_; refine a0c (cs := #[.int .i64 a1_0, .int .i64 a1_1, .int .i64 a1_2, .slice A1_3 l1_3.length c1_3, .slice A1_4 l1_4.length c1_4, .slice A1_5 l1_5.length c1_5]) ?_ 0 _ rfl; refine qd_ ?_; exact BK595.out) hb); replace HB := qbs_ hb; (try clear hb); (try clear hb2); (try clear hk); (try clear hi); obtain ⟨z'53_0, z'53_1, z'53_2, z'53_3, z'53_4⟩ := qz5_ BK589; obtain ⟨y'53_0, y'53_1, y'53_2, y'53_3, y'53_4⟩ := qf5_ BK589; obtain ⟨z'54_0, z'54_1, z'54_2, z'54_3, z'54_4, z'54_5⟩ := qz6_ BK595; obtain ⟨y'54_0, y'54_1, y'54_2, y'54_3, y'54_4, y'54_5⟩ := qf6_ BK595) | ((with_reducible refine a0g (f := 27) rfl ?_); refine a0t (some 74) rfl rfl Try.func27 (by kernel_rfl) rfl #[.agg #[.int .i64 a0_0, .int .i64 a0_1, .int .i64 a0_2, .int .i64 a0_3, .bool a0_4], .agg #[.int .i64 ji35, .int .i64 a1_1, .int .i64 ji36, .slice A1_3 l1_3.length c1_3, .slice A1_4 l1_4.length c1_4, .slice A1_5 l1_5.length c1_5], .string a2, .slice A3 l3.length c3, .int .i64 1] rfl (by (try simp only [List.map_toArray, List.map_cons, List.map_nil]); first | done | (simp only [hji35, hji36]; rfl) | rfl | (simp only [List.length_drop, List.length_take]; rfl)) ?_; (with_reducible refine (a1p.calls kj7 a0_0 a0_1 a0_2 a0_3 a0_4 ji35 a1_1 ji36 _ _ l1_3 _ _ l1_4 _ _ l1_5 a2 _ _ l3 1 t598 t599 _ ?s1 ?s2 ?s3 ?s4 ?s5 ?s6 ?s7 ?s8 A38.out).mono ?_); (case s1 => exact qc_ HR1_3); (case s2 => exact HC1_3.out); (case s3 => exact qc_ HR1_4); (case s4 => exact HC1_4.out); (case s5 => exact qc_ HR1_5); (case s6 => exact HC1_5.out); (case s7 => exact qc_ HR3); (case s8 => exact HC3.out); rintro e w55 ⟨rfl, hb⟩; refine ⟨_, rfl, ?_⟩; replace BK589 := qkb_ BK589 hb; replace BK590 := qkb_ BK590 hb; replace BK595 := qkb_ BK595 hb; replace HB := qbs_ hb; (try clear hb); (try clear hb2); (try clear hk); (try clear hi)))
    (try simp only [Act.put, List.setIfInBounds_toArray, List.set_cons_zero, List.set_cons_succ])
    go_cut [89] (fun v89 wc => ∃ (kq : Nat) (x89_38 : Bool), v89 = .bool x89_38 ∧ Aside0 (a0b.j1 kq a2 l3 t591 x89_38 a0_0 a0_1 a0_2 a0_3 a0_4 a1_0 a1_1 a1_2 l1_3 l1_4 l1_5 = some r) ∧ Aside0 (kq ≤ kj7) ∧ Aside0 (wc.heap[gb589]? = some (.cells #[.int .i64 a0_0, .int .i64 a0_1, .int .i64 a0_2, .int .i64 a0_3, .bool a0_4] 25 (0, 0))) ∧ Aside0 (wc.heap[gb590]? = some (.cells #[.int .i64 a1_0, .int .i64 a1_1, .int .i64 a1_2, (.slice A1_3 l1_3.length c1_3), (.slice A1_4 l1_4.length c1_4), (.slice A1_5 l1_5.length c1_5)] 30 (0, 0))) ∧ Aside0 (wc.heap[gb595]? = some (.cells #[.int .i64 ji35, .int .i64 a1_1, .int .i64 ji36, (.slice A1_3 l1_3.length c1_3), (.slice A1_4 l1_4.length c1_4), (.slice A1_5 l1_5.length c1_5)] 30 (0, 0))) ∧ Aside0 (Below w.heap.size w wc))
    case first =>
     have H := HC39.out
     clear HC39
     by_cases c56 : t597 = true
     ·subst c56
      have H1 : (if t599 = true then (if t596 = true then (a0b.j1 kj7 a2 l3 t591 false a0_0 a0_1 a0_2 a0_3 a0_4 a1_0 a1_1 a1_2 l1_3 l1_4 l1_5) else (a0b.j1 kj7 a2 l3 t591 t598 a0_0 a0_1 a0_2 a0_3 a0_4 a1_0 a1_1 a1_2 l1_3 l1_4 l1_5)) else (a0b.j1 kj7 a2 l3 t591 true a0_0 a0_1 a0_2 a0_3 a0_4 a1_0 a1_1 a1_2 l1_3 l1_4 l1_5)) = some r := by rw [if_pos rfl] at H; exact H
      clear H
      have H := H1
      clear H1
      by_cases c57 : t599 = true
      ·subst c57
       have H1 : (if t596 = true then (a0b.j1 kj7 a2 l3 t591 false a0_0 a0_1 a0_2 a0_3 a0_4 a1_0 a1_1 a1_2 l1_3 l1_4 l1_5) else (a0b.j1 kj7 a2 l3 t591 t598 a0_0 a0_1 a0_2 a0_3 a0_4 a1_0 a1_1 a1_2 l1_3 l1_4 l1_5)) = some r := by rw [if_pos rfl] at H; exact H
       clear H
       have H := H1
       clear H1
       by_cases c58 : t596 = true
       ·subst c58
        have H1 : (a0b.j1 kj7 a2 l3 t591 false a0_0 a0_1 a0_2 a0_3 a0_4 a1_0 a1_1 a1_2 l1_3 l1_4 l1_5) = some r := by rw [if_pos rfl] at H; exact H
        clear H
        have H := H1
        clear H1
        have H' := am_ H
        clear H
        go_wp2
        go_meet
        case rel => exact ⟨_, (false), qs_, H', ⟨by have := HJ7.out; first | omega | exact Nat.le_refl _⟩, ⟨qk_ BK589⟩, ⟨qk_ BK590⟩, ⟨qk_ BK595⟩, ⟨qb_⟩⟩
       ·replace c58 := be_ c58
        subst c58
        have H1 : (a0b.j1 kj7 a2 l3 t591 t598 a0_0 a0_1 a0_2 a0_3 a0_4 a1_0 a1_1 a1_2 l1_3 l1_4 l1_5) = some r := by rw [if_neg (show ¬ (false = true) by decide)] at H; exact H
        clear H
        have H := H1
        clear H1
        have H' := am_ H
        clear H
        go_wp2
        go_meet
        case rel => exact ⟨_, (t598), qs_, H', ⟨by have := HJ7.out; first | omega | exact Nat.le_refl _⟩, ⟨qk_ BK589⟩, ⟨qk_ BK590⟩, ⟨qk_ BK595⟩, ⟨qb_⟩⟩
      ·replace c57 := be_ c57
       subst c57
       have H1 : (a0b.j1 kj7 a2 l3 t591 true a0_0 a0_1 a0_2 a0_3 a0_4 a1_0 a1_1 a1_2 l1_3 l1_4 l1_5) = some r := by rw [if_neg (show ¬ (false = true) by decide)] at H; exact H
       clear H
       have H := H1
       clear H1
       have H' := am_ H
       clear H
       go_wp2
       go_meet
       case rel => exact ⟨_, (true), qs_, H', ⟨by have := HJ7.out; first | omega | exact Nat.le_refl _⟩, ⟨qk_ BK589⟩, ⟨qk_ BK590⟩, ⟨qk_ BK595⟩, ⟨qb_⟩⟩
     ·replace c56 := be_ c56
      subst c56
      have H1 : (a0b.j1 kj7 a2 l3 t591 true a0_0 a0_1 a0_2 a0_3 a0_4 a1_0 a1_1 a1_2 l1_3 l1_4 l1_5) = some r := by rw [if_neg (show ¬ (false = true) by decide)] at H; exact H
      clear H
      have H := H1
      clear H1
      have H' := am_ H
      clear H
      go_wp2
      go_meet
      case rel => exact ⟨_, (true), qs_, H', ⟨by have := HJ7.out; first | omega | exact Nat.le_refl _⟩, ⟨qk_ BK589⟩, ⟨qk_ BK590⟩, ⟨qk_ BK595⟩, ⟨qb_⟩⟩
    case rest =>
     clear HC39
     try clear c1
     try clear c2
     try clear p2
     try clear c3
     try clear c4
     try clear c5
     try clear c6
     try clear p6
     try clear c11
     try clear c13
     try clear c15
     try clear c16
     try clear c16b0
     try clear c16b1
     try clear c17
     try clear c22
     try clear c26
     try clear c27
     try clear c30
     try clear c34
     try clear c40
     try clear c43
     try clear c44
     try clear c56
     try clear c57
     try clear c58
     try clear z'18_0 z'18_1 z'18_2 z'18_3 z'18_4
     try clear z'19_0 z'19_1 z'19_2 z'19_3 z'19_4 z'19_5
     try clear z'23_0 z'23_1 z'23_2 z'23_3 z'23_4
     try clear z'24_0 z'24_1 z'24_2 z'24_3 z'24_4 z'24_5
     try clear z'27_0 z'27_1 z'27_2 z'27_3 z'27_4
     try clear z'28_0 z'28_1 z'28_2 z'28_3 z'28_4 z'28_5
     try clear z'31_0 z'31_1 z'31_2 z'31_3 z'31_4
     try clear z'32_0 z'32_1 z'32_2 z'32_3 z'32_4 z'32_5
     try clear z'41_0 z'41_1 z'41_2 z'41_3 z'41_4 z'41_5
     try clear z'45_0 z'45_1 z'45_2 z'45_3 z'45_4 z'45_5
     try clear z'50_0 z'50_1 z'50_2 z'50_3 z'50_4
     try clear z'51_0 z'51_1 z'51_2 z'51_3 z'51_4 z'51_5
     try clear z'53_0 z'53_1 z'53_2 z'53_3 z'53_4
     try clear z'54_0 z'54_1 z'54_2 z'54_3 z'54_4 z'54_5
     try clear y'18_0 y'18_1 y'18_2 y'18_3 y'18_4
     try clear y'19_0 y'19_1 y'19_2 y'19_3 y'19_4 y'19_5
     try clear y'23_0 y'23_1 y'23_2 y'23_3 y'23_4
     try clear y'24_0 y'24_1 y'24_2 y'24_3 y'24_4 y'24_5
     try clear y'27_0 y'27_1 y'27_2 y'27_3 y'27_4
     try clear y'28_0 y'28_1 y'28_2 y'28_3 y'28_4 y'28_5
     try clear y'31_0 y'31_1 y'31_2 y'31_3 y'31_4
     try clear y'32_0 y'32_1 y'32_2 y'32_3 y'32_4 y'32_5
     try clear y'41_0 y'41_1 y'41_2 y'41_3 y'41_4 y'41_5
     try clear y'45_0 y'45_1 y'45_2 y'45_3 y'45_4 y'45_5
     try clear y'50_0 y'50_1 y'50_2 y'50_3 y'50_4
     try clear y'51_0 y'51_1 y'51_2 y'51_3 y'51_4 y'51_5
     try clear y'53_0 y'53_1 y'53_2 y'53_3 y'53_4
     try clear y'54_0 y'54_1 y'54_2 y'54_3 y'54_4 y'54_5
     try clear p2
     obtain ⟨kq, x89_38, rfl, HA, HJ38, BK589, BK590, BK595, HB⟩ := hcut
     cases kq with
     | zero => exact absurd HA.out (by simp [a0b.j1])
     | succ kj38 =>
      have H := HA.out
      clear HA
      simp only [a0b.j1] at H
      by_cases c59 : x89_38 = true
      ·subst c59
       have H1 : (some false) = some r := by rw [if_pos rfl] at H; exact H
       clear H
       have H := H1
       clear H1
       obtain rfl := si_ H
       go_wp2
       go_ret
       exact ⟨by first | rfl | (simp [a2g, a2h] <;> rfl) | (simp only [← hji35, ← hji36]; first | rfl | (simp [a2g, a2h] <;> rfl)) | (simp [*, a2g, a2h] <;> rfl), qb_⟩
      ·replace c59 := be_ c59
       subst c59
       have H1 : ((a1p.f kj38 a0_0 a0_1 a0_2 a0_3 a0_4 a1_0 2 a1_2 l1_3 l1_4 l1_5 a2 l3 1).bind fun bt602 => (if (wrap64 (a1_0 + 3)) > a1_2 then (if t591 = true then (if bt602.2 = true then (some bt602.1) else (some false)) else (some false)) else ((a1p.f kj38 a0_0 a0_1 a0_2 a0_3 a0_4 (wrap64 (a1_0 + 3)) 1 a1_2 l1_3 l1_4 l1_5 a2 l3 1).bind fun bt604 => (if t591 = true then (if bt602.2 = true then (if bt604.2 = true then (some (bt602.1 == bt604.1)) else (some false)) else (some false)) else (some false))))) = some r := by rw [if_neg (show ¬ (false = true) by decide)] at H; exact H
       clear H
       have H := H1
       clear H1
       replace H := bm_ H
       obtain ⟨⟨t602, t603⟩, A600, H⟩ := H
       replace H : (if (wrap64 (a1_0 + 3)) > a1_2 then (if t591 = true then (if t603 = true then (some t602) else (some false)) else (some false)) else ((a1p.f kj38 a0_0 a0_1 a0_2 a0_3 a0_4 (wrap64 (a1_0 + 3)) 1 a1_2 l1_3 l1_4 l1_5 a2 l3 1).bind fun bt604 => (if t591 = true then (if t603 = true then (if bt604.2 = true then (some (t602 == bt604.1)) else (some false)) else (some false)) else (some false)))) = some r := H
       have A60 := am_ A600
       clear A600
       by_cases c61 : (wrap64 (a1_0 + 3)) > a1_2
       ·rw [if_pos c61] at H
        have c61b0 : decide (a1_2 < (wrap64 (a1_0 + 3))) = true := decide_eq_true c61
        clear c61
        by_cases c62 : t591 = true
        ·subst c62
         have H1 : (if t603 = true then (some t602) else (some false)) = some r := by rw [if_pos rfl] at H; exact H
         clear H
         have H := H1
         clear H1
         by_cases c63 : t603 = true
         ·subst c63
          have H1 : (some t602) = some r := by rw [if_pos rfl] at H; exact H
          clear H
          have H := H1
          clear H1
          obtain rfl := si_ H
          try go_wp2
          replace BK589 := am_ (bd_ BK589.out)
          replace BK590 := am_ (bd_ BK590.out)
          replace BK595 := am_ (bd_ BK595.out)
          replace HB := am_ (ld_ HB.out)
          refine a3l (n := 6) (S := fun w' => w'.cell? ⟨gb590, 0, none⟩ = some (.int .i64 a1_0) ∧ w'.cell? ⟨gb590, 1, none⟩ = some (.int .i64 a1_1) ∧ w'.cell? ⟨gb590, 2, none⟩ = some (.int .i64 a1_2) ∧ w'.cell? ⟨gb590, 3, none⟩ = some (.slice A1_3 l1_3.length c1_3) ∧ w'.cell? ⟨gb590, 4, none⟩ = some (.slice A1_4 l1_4.length c1_4) ∧ w'.cell? ⟨gb590, 5, none⟩ = some (.slice A1_5 l1_5.length c1_5)) (ds := []) #[i_,i_,i_,i_,i_,i_] (by kernel_rfl) rfl rfl ⟨(bc_ BK590.out 0).trans rfl, (bc_ BK590.out 1).trans rfl, (bc_ BK590.out 2).trans rfl, (bc_ BK590.out 3).trans rfl, (bc_ BK590.out 4).trans rfl, (bc_ BK590.out 5).trans rfl⟩ (fun hHeld => ?_)
          generalize wc.drew = w64 at BK589 BK590 BK595 HB hHeld ⊢
          refine a2o (i := 0) (N := some 90) (v := ?_) (a' := ?_) #[o_,i_,i_,i_,i_,i_] rfl rfl (by kernel_rfl) (fun _ _ _ h => h) (Or.inl ⟨by rfl, ?_⟩) hHeld ?_ ?_
          rotate_left
          ·rintro w' ⟨s0, s1, s2, s3, s4, s5⟩
           go_simp
           with_reducible rfl
          rotate_left
          ·exact qp_
          refine a2o (i := 1) (N := some 91) (v := ?_) (a' := ?_) #[o_,o_,i_,i_,i_,i_] rfl rfl (by kernel_rfl) (fun _ _ _ h => h) (Or.inl ⟨by rfl, ?_⟩) hHeld ?_ ?_
          rotate_left
          ·rintro w' ⟨s0, s1, s2, s3, s4, s5⟩
           go_simp
           with_reducible rfl
          rotate_left
          ·exact qp_
          refine a6w (σ := Nat × Nat) 2 #[o_,o_,o_,o_,i_,i_] (fun s_ => [(19, .pointer (some ⟨s_.1, 0, none⟩)), (20, .pointer (some ⟨s_.2, 0, none⟩))]) (fun s_ w' => (w'.cell? ⟨gb590, 0, none⟩ = some (.int .i64 a1_0) ∧ w'.cell? ⟨gb590, 1, none⟩ = some (.int .i64 a1_1) ∧ w'.cell? ⟨gb590, 2, none⟩ = some (.int .i64 a1_2) ∧ w'.cell? ⟨gb590, 3, none⟩ = some (.slice A1_3 l1_3.length c1_3) ∧ w'.cell? ⟨gb590, 4, none⟩ = some (.slice A1_4 l1_4.length c1_4) ∧ w'.cell? ⟨gb590, 5, none⟩ = some (.slice A1_5 l1_5.length c1_5)) ∧ (w'.heap[gb589]? = some (.cells #[.int .i64 a0_0, .int .i64 a0_1, .int .i64 a0_2, .int .i64 a0_3, .bool a0_4] 25 (0, 0))) ∧ (w'.heap[gb590]? = some (.cells #[.int .i64 a1_0, .int .i64 a1_1, .int .i64 a1_2, .slice A1_3 l1_3.length c1_3, .slice A1_4 l1_4.length c1_4, .slice A1_5 l1_5.length c1_5] 30 (0, 0))) ∧ (w'.heap[gb595]? = some (.cells #[.int .i64 ji35, .int .i64 a1_1, .int .i64 ji36, .slice A1_3 l1_3.length c1_3, .slice A1_4 l1_4.length c1_4, .slice A1_5 l1_5.length c1_5] 30 (0, 0))) ∧ (w'.heap[s_.1]? = some (.cells #[.int .i64 0, .int .i64 0, .int .i64 0, .slice none 0 0, .slice none 0 0, .slice none 0 0] 30 (0, 0))) ∧ (w'.heap[s_.2]? = some (.cells #[.int .i64 0, .int .i64 0, .int .i64 0, .slice none 0 0, .slice none 0 0, .slice none 0 0] 30 (0, 0))) ∧ (w.heap.size ≤ s_.1) ∧ (w.heap.size ≤ s_.1) ∧ (gb589 ≠ s_.1) ∧ (s_.1 ≠ gb589) ∧ (gb590 ≠ s_.1) ∧ (s_.1 ≠ gb590) ∧ (gb595 ≠ s_.1) ∧ (s_.1 ≠ gb595) ∧ (s_.2 ≠ s_.1) ∧ (s_.1 ≠ s_.2) ∧ (w.heap.size ≤ s_.2) ∧ (w.heap.size ≤ s_.2) ∧ (gb589 ≠ s_.2) ∧ (s_.2 ≠ gb589) ∧ (gb590 ≠ s_.2) ∧ (s_.2 ≠ gb590) ∧ (gb595 ≠ s_.2) ∧ (s_.2 ≠ gb595) ∧ (Below w.heap.size w w')) ?_ ?_
          rotate_left
          ·intro hCont
           refine two_ (i := 2) (j := 3) (Ni := some 19) (Nj := some 20) #[o_,o_,o_,i_,i_,i_] #[o_,o_,i_,o_,i_,i_] rfl rfl rfl rfl (by kernel_rfl) (by decide) (by decide) (fun K hK => ?_) (fun K hK => ?_)
           ·skip
            refine a2j ?hg (N := 19) ?hd (cs := #[.int .i64 0, .int .i64 0, .int .i64 0, .slice none 0 0, .slice none 0 0, .slice none 0 0]) (t := 30) ?hr ?_; (case hd => rfl); (case hg => rfl); (case hr => exact qq_)
            intro gb600 hg w65 hbox hb
            have BK600 := am_ (hbox)
            have GW600 := qga_ hg
            have GE600 := qga_ hg
            replace HB := qbs_ hb
            have NB589_600 := am_ ((by rw [hg]; exact Nat.ne_of_lt (a0d (qk_ BK589)) : gb589 ≠ gb600))
            have NB600_589 := am_ ((by rw [hg]; exact Nat.ne_of_gt (a0d (qk_ BK589)) : gb600 ≠ gb589))
            replace BK589 := qkb_ BK589 hb
            have NB590_600 := am_ ((by rw [hg]; exact Nat.ne_of_lt (a0d (qk_ BK590)) : gb590 ≠ gb600))
            have NB600_590 := am_ ((by rw [hg]; exact Nat.ne_of_gt (a0d (qk_ BK590)) : gb600 ≠ gb590))
            replace BK590 := qkb_ BK590 hb
            have NB595_600 := am_ ((by rw [hg]; exact Nat.ne_of_lt (a0d (qk_ BK595)) : gb595 ≠ gb600))
            have NB600_595 := am_ ((by rw [hg]; exact Nat.ne_of_gt (a0d (qk_ BK595)) : gb600 ≠ gb595))
            replace BK595 := qkb_ BK595 hb
            clear hb hbox hg
            refine hK.out _ _ ⟨(bc_ BK590.out 0).trans rfl, (bc_ BK590.out 1).trans rfl, (bc_ BK590.out 2).trans rfl, (bc_ BK590.out 3).trans rfl, (bc_ BK590.out 4).trans rfl, (bc_ BK590.out 5).trans rfl⟩ (fun hHeld => ?_)
            clear hK K
            refine a1s (a' := ?_) ?_ ?_
            rotate_left
            ·show Act.put _ (some 19) _ = _
             exact qp_
            refine one_ (i := 3) (N := some 20) #[o_,o_,o_,o_,i_,i_] rfl rfl (by kernel_rfl) (by decide) (fun K hK => ?_)
            refine a2j ?hg (N := 20) ?hd (cs := #[.int .i64 0, .int .i64 0, .int .i64 0, .slice none 0 0, .slice none 0 0, .slice none 0 0]) (t := 30) ?hr ?_; (case hd => rfl); (case hg => rfl); (case hr => exact qq_)
            intro gb601 hg w66 hbox hb
            have BK601 := am_ (hbox)
            have GW601 := qga_ hg
            have GE601 := qga_ hg
            replace HB := qbs_ hb
            have NB589_601 := am_ ((by rw [hg]; exact Nat.ne_of_lt (a0d (qk_ BK589)) : gb589 ≠ gb601))
            have NB601_589 := am_ ((by rw [hg]; exact Nat.ne_of_gt (a0d (qk_ BK589)) : gb601 ≠ gb589))
            replace BK589 := qkb_ BK589 hb
            have NB590_601 := am_ ((by rw [hg]; exact Nat.ne_of_lt (a0d (qk_ BK590)) : gb590 ≠ gb601))
            have NB601_590 := am_ ((by rw [hg]; exact Nat.ne_of_gt (a0d (qk_ BK590)) : gb601 ≠ gb590))
            replace BK590 := qkb_ BK590 hb
            have NB595_601 := am_ ((by rw [hg]; exact Nat.ne_of_lt (a0d (qk_ BK595)) : gb595 ≠ gb601))
            have NB601_595 := am_ ((by rw [hg]; exact Nat.ne_of_gt (a0d (qk_ BK595)) : gb601 ≠ gb595))
            replace BK595 := qkb_ BK595 hb
            have NB600_601 := am_ ((by rw [hg]; exact Nat.ne_of_lt (a0d (qk_ BK600)) : gb600 ≠ gb601))
            have NB601_600 := am_ ((by rw [hg]; exact Nat.ne_of_gt (a0d (qk_ BK600)) : gb601 ≠ gb600))
            replace BK600 := qkb_ BK600 hb
            clear hb hbox hg
            refine hK.out _ _ ⟨(bc_ BK590.out 0).trans rfl, (bc_ BK590.out 1).trans rfl, (bc_ BK590.out 2).trans rfl, (bc_ BK590.out 3).trans rfl, (bc_ BK590.out 4).trans rfl, (bc_ BK590.out 5).trans rfl⟩ (fun hHeld => ?_)
            clear hK K
            refine a1s (a' := ?_) ?_ ?_
            rotate_left
            ·show Act.put _ (some 20) _ = _
             exact qp_
            exact a1s (by simp only [a3n, Act.put, List.setIfInBounds_toArray, List.set_cons_zero, List.set_cons_succ]) (hCont (gb600, gb601) _ ⟨hHeld, (qk_ BK589), (qk_ BK590), (qk_ BK595), (qk_ BK600), (qk_ BK601), GW600.out, GE600.out, NB589_600.out, NB600_589.out, NB590_600.out, NB600_590.out, NB595_600.out, NB600_595.out, NB601_600.out, NB600_601.out, GW601.out, GE601.out, NB589_601.out, NB601_589.out, NB590_601.out, NB601_590.out, NB595_601.out, NB601_595.out, qb_⟩)
           ·skip
            refine a2j ?hg (N := 20) ?hd (cs := #[.int .i64 0, .int .i64 0, .int .i64 0, .slice none 0 0, .slice none 0 0, .slice none 0 0]) (t := 30) ?hr ?_; (case hd => rfl); (case hg => rfl); (case hr => exact qq_)
            intro gb601 hg w65 hbox hb
            have BK601 := am_ (hbox)
            have GW601 := qga_ hg
            have GE601 := qga_ hg
            replace HB := qbs_ hb
            have NB589_601 := am_ ((by rw [hg]; exact Nat.ne_of_lt (a0d (qk_ BK589)) : gb589 ≠ gb601))
            have NB601_589 := am_ ((by rw [hg]; exact Nat.ne_of_gt (a0d (qk_ BK589)) : gb601 ≠ gb589))
            replace BK589 := qkb_ BK589 hb
            have NB590_601 := am_ ((by rw [hg]; exact Nat.ne_of_lt (a0d (qk_ BK590)) : gb590 ≠ gb601))
            have NB601_590 := am_ ((by rw [hg]; exact Nat.ne_of_gt (a0d (qk_ BK590)) : gb601 ≠ gb590))
            replace BK590 := qkb_ BK590 hb
            have NB595_601 := am_ ((by rw [hg]; exact Nat.ne_of_lt (a0d (qk_ BK595)) : gb595 ≠ gb601))
            have NB601_595 := am_ ((by rw [hg]; exact Nat.ne_of_gt (a0d (qk_ BK595)) : gb601 ≠ gb595))
            replace BK595 := qkb_ BK595 hb
            clear hb hbox hg
            refine hK.out _ _ ⟨(bc_ BK590.out 0).trans rfl, (bc_ BK590.out 1).trans rfl, (bc_ BK590.out 2).trans rfl, (bc_ BK590.out 3).trans rfl, (bc_ BK590.out 4).trans rfl, (bc_ BK590.out 5).trans rfl⟩ (fun hHeld => ?_)
            clear hK K
            refine a1s (a' := ?_) ?_ ?_
            rotate_left
            ·show Act.put _ (some 20) _ = _
             exact qp_
            refine one_ (i := 2) (N := some 19) #[o_,o_,o_,o_,i_,i_] rfl rfl (by kernel_rfl) (by decide) (fun K hK => ?_)
            refine a2j ?hg (N := 19) ?hd (cs := #[.int .i64 0, .int .i64 0, .int .i64 0, .slice none 0 0, .slice none 0 0, .slice none 0 0]) (t := 30) ?hr ?_; (case hd => rfl); (case hg => rfl); (case hr => exact qq_)
            intro gb600 hg w66 hbox hb
            have BK600 := am_ (hbox)
            have GW600 := qga_ hg
            have GE600 := qga_ hg
            replace HB := qbs_ hb
            have NB589_600 := am_ ((by rw [hg]; exact Nat.ne_of_lt (a0d (qk_ BK589)) : gb589 ≠ gb600))
            have NB600_589 := am_ ((by rw [hg]; exact Nat.ne_of_gt (a0d (qk_ BK589)) : gb600 ≠ gb589))
            replace BK589 := qkb_ BK589 hb
            have NB590_600 := am_ ((by rw [hg]; exact Nat.ne_of_lt (a0d (qk_ BK590)) : gb590 ≠ gb600))
            have NB600_590 := am_ ((by rw [hg]; exact Nat.ne_of_gt (a0d (qk_ BK590)) : gb600 ≠ gb590))
            replace BK590 := qkb_ BK590 hb
            have NB595_600 := am_ ((by rw [hg]; exact Nat.ne_of_lt (a0d (qk_ BK595)) : gb595 ≠ gb600))
            have NB600_595 := am_ ((by rw [hg]; exact Nat.ne_of_gt (a0d (qk_ BK595)) : gb600 ≠ gb595))
            replace BK595 := qkb_ BK595 hb
            have NB601_600 := am_ ((by rw [hg]; exact Nat.ne_of_lt (a0d (qk_ BK601)) : gb601 ≠ gb600))
            have NB600_601 := am_ ((by rw [hg]; exact Nat.ne_of_gt (a0d (qk_ BK601)) : gb600 ≠ gb601))
            replace BK601 := qkb_ BK601 hb
            clear hb hbox hg
            refine hK.out _ _ ⟨(bc_ BK590.out 0).trans rfl, (bc_ BK590.out 1).trans rfl, (bc_ BK590.out 2).trans rfl, (bc_ BK590.out 3).trans rfl, (bc_ BK590.out 4).trans rfl, (bc_ BK590.out 5).trans rfl⟩ (fun hHeld => ?_)
            clear hK K
            refine a1s (a' := ?_) ?_ ?_
            rotate_left
            ·show Act.put _ (some 19) _ = _
             exact qp_
            exact a1s (by simp only [a3n, Act.put, List.setIfInBounds_toArray, List.set_cons_zero, List.set_cons_succ]) (hCont (gb600, gb601) _ ⟨hHeld, (qk_ BK589), (qk_ BK590), (qk_ BK595), (qk_ BK600), (qk_ BK601), GW600.out, GE600.out, NB589_600.out, NB600_589.out, NB590_600.out, NB600_590.out, NB595_600.out, NB600_595.out, NB601_600.out, NB600_601.out, GW601.out, GE601.out, NB589_601.out, NB601_589.out, NB590_601.out, NB601_590.out, NB595_601.out, NB601_595.out, qb_⟩)
          rintro ⟨gb600, gb601⟩ w67 ⟨hS_, h0_, h1_, h2_, h3_, h4_, h5_, h6_, h7_, h8_, h9_, h10_, h11_, h12_, h13_, h14_, h15_, h16_, h17_, h18_, h19_, h20_, h21_, h22_, h23_⟩
          replace BK589 : Aside0 (w67.heap[gb589]? = some (.cells #[.int .i64 a0_0, .int .i64 a0_1, .int .i64 a0_2, .int .i64 a0_3, .bool a0_4] 25 (0, 0))) := ⟨h0_⟩
          replace BK590 : Aside0 (w67.heap[gb590]? = some (.cells #[.int .i64 a1_0, .int .i64 a1_1, .int .i64 a1_2, .slice A1_3 l1_3.length c1_3, .slice A1_4 l1_4.length c1_4, .slice A1_5 l1_5.length c1_5] 30 (0, 0))) := ⟨h1_⟩
          replace BK595 : Aside0 (w67.heap[gb595]? = some (.cells #[.int .i64 ji35, .int .i64 a1_1, .int .i64 ji36, .slice A1_3 l1_3.length c1_3, .slice A1_4 l1_4.length c1_4, .slice A1_5 l1_5.length c1_5] 30 (0, 0))) := ⟨h2_⟩
          have BK600 : Aside0 (w67.heap[gb600]? = some (.cells #[.int .i64 0, .int .i64 0, .int .i64 0, .slice none 0 0, .slice none 0 0, .slice none 0 0] 30 (0, 0))) := ⟨h3_⟩
          have BK601 : Aside0 (w67.heap[gb601]? = some (.cells #[.int .i64 0, .int .i64 0, .int .i64 0, .slice none 0 0, .slice none 0 0, .slice none 0 0] 30 (0, 0))) := ⟨h4_⟩
          have GW600 : Aside0 (w.heap.size ≤ gb600) := ⟨h5_⟩
          have GE600 : Aside0 (w.heap.size ≤ gb600) := ⟨h6_⟩
          have NB589_600 : Aside0 (gb589 ≠ gb600) := ⟨h7_⟩
          have NB600_589 : Aside0 (gb600 ≠ gb589) := ⟨h8_⟩
          have NB590_600 : Aside0 (gb590 ≠ gb600) := ⟨h9_⟩
          have NB600_590 : Aside0 (gb600 ≠ gb590) := ⟨h10_⟩
          have NB595_600 : Aside0 (gb595 ≠ gb600) := ⟨h11_⟩
          have NB600_595 : Aside0 (gb600 ≠ gb595) := ⟨h12_⟩
          have NB601_600 : Aside0 (gb601 ≠ gb600) := ⟨h13_⟩
          have NB600_601 : Aside0 (gb600 ≠ gb601) := ⟨h14_⟩
          have GW601 : Aside0 (w.heap.size ≤ gb601) := ⟨h15_⟩
          have GE601 : Aside0 (w.heap.size ≤ gb601) := ⟨h16_⟩
          have NB589_601 : Aside0 (gb589 ≠ gb601) := ⟨h17_⟩
          have NB601_589 : Aside0 (gb601 ≠ gb589) := ⟨h18_⟩
          have NB590_601 : Aside0 (gb590 ≠ gb601) := ⟨h19_⟩
          have NB601_590 : Aside0 (gb601 ≠ gb590) := ⟨h20_⟩
          have NB595_601 : Aside0 (gb595 ≠ gb601) := ⟨h21_⟩
          have NB601_595 : Aside0 (gb601 ≠ gb595) := ⟨h22_⟩
          replace HB : Aside0 (Below w.heap.size w w67) := ⟨h23_⟩
          clear h0_ h1_ h2_ h3_ h4_ h5_ h6_ h7_ h8_ h9_ h10_ h11_ h12_ h13_ h14_ h15_ h16_ h17_ h18_ h19_ h20_ h21_ h22_ h23_
          have hHeld : w67.cell? ⟨gb590, 0, none⟩ = some (.int .i64 a1_0) ∧ w67.cell? ⟨gb590, 1, none⟩ = some (.int .i64 a1_1) ∧ w67.cell? ⟨gb590, 2, none⟩ = some (.int .i64 a1_2) ∧ w67.cell? ⟨gb590, 3, none⟩ = some (.slice A1_3 l1_3.length c1_3) ∧ w67.cell? ⟨gb590, 4, none⟩ = some (.slice A1_4 l1_4.length c1_4) ∧ w67.cell? ⟨gb590, 5, none⟩ = some (.slice A1_5 l1_5.length c1_5) := hS_
          refine a1s (a' := ?_) ?_ ?_
          rotate_left
          ·simp only [a3n, Act.put, List.setIfInBounds_toArray, List.set_cons_zero, List.set_cons_succ]
           rfl
          refine one_ (i := 4) (N := none) #[o_,o_,o_,o_,o_,i_] rfl rfl (by kernel_rfl) (by decide) (fun K hK => ?_)
          have hs68 : w67.cell? ⟨gb600, 0, none⟩ = some (.int .i64 0) := (bc_ BK600.out 0).trans rfl
          have hfs68 := bf_ BK600.out 0
          have hns68_0 := NB589_600.out
          have hns68_1 := NB590_600.out
          have hns68_2 := NB595_600.out
          have hns68_4 := NB601_600.out
          have hms68_0 := NB600_589.out
          have hms68_1 := NB600_590.out
          have hms68_2 := NB600_595.out
          have hms68_4 := NB600_601.out
          have hs69 : w67.cell? ⟨gb600, 1, none⟩ = some (.int .i64 0) := (bc_ BK600.out 1).trans rfl
          have hfs69 := bf_ BK600.out 1
          have hs70 : w67.cell? ⟨gb600, 2, none⟩ = some (.int .i64 0) := (bc_ BK600.out 2).trans rfl
          have hfs70 := bf_ BK600.out 2
          have hs71 : w67.cell? ⟨gb600, 3, none⟩ = some (.slice none 0 0) := (bc_ BK600.out 3).trans rfl
          have hfs71 := bf_ BK600.out 3
          have hs72 : w67.cell? ⟨gb600, 4, none⟩ = some (.slice none 0 0) := (bc_ BK600.out 4).trans rfl
          have hfs72 := bf_ BK600.out 4
          have hs73 : w67.cell? ⟨gb600, 5, none⟩ = some (.slice none 0 0) := (bc_ BK600.out 5).trans rfl
          have hfs73 := bf_ BK600.out 5
          refine a2u (w1 := ?_) (by rfl) rfl ?_ ?_
          rotate_left
          ·go_simp
           rfl
          refine hK.out _ _ (qcf_ ⟨NB590_600.out, hHeld⟩) (fun hHeld => ?_)
          clear hK K
          clear hs68 hfs68 hs69 hfs69 hs70 hfs70 hs71 hfs71 hs72 hfs72 hs73 hfs73
          refine one_ (i := 5) (N := none) #[o_,o_,o_,o_,o_,o_] rfl rfl (by kernel_rfl) (by decide) (fun K hK => ?_)
          have hs74 : w67.cell? ⟨gb601, 0, none⟩ = some (.int .i64 0) := (bc_ BK601.out 0).trans rfl
          have hfs74 := bf_ BK601.out 0
          have hns74_0 := NB589_601.out
          have hns74_1 := NB590_601.out
          have hns74_2 := NB595_601.out
          have hms74_0 := NB601_589.out
          have hms74_1 := NB601_590.out
          have hms74_2 := NB601_595.out
          have hs75 : w67.cell? ⟨gb601, 1, none⟩ = some (.int .i64 0) := (bc_ BK601.out 1).trans rfl
          have hfs75 := bf_ BK601.out 1
          have hs76 : w67.cell? ⟨gb601, 2, none⟩ = some (.int .i64 0) := (bc_ BK601.out 2).trans rfl
          have hfs76 := bf_ BK601.out 2
          have hs77 : w67.cell? ⟨gb601, 3, none⟩ = some (.slice none 0 0) := (bc_ BK601.out 3).trans rfl
          have hfs77 := bf_ BK601.out 3
          have hs78 : w67.cell? ⟨gb601, 4, none⟩ = some (.slice none 0 0) := (bc_ BK601.out 4).trans rfl
          have hfs78 := bf_ BK601.out 4
          have hs79 : w67.cell? ⟨gb601, 5, none⟩ = some (.slice none 0 0) := (bc_ BK601.out 5).trans rfl
          have hfs79 := bf_ BK601.out 5
          refine a2u (w1 := ?_) (by rfl) rfl ?_ ?_
          rotate_left
          ·go_simp
           rfl
          refine hK.out _ _ (qcf_ ⟨NB590_601.out, hHeld⟩) (fun hHeld => ?_)
          clear hK K
          clear hs74 hfs74 hs75 hfs75 hs76 hfs76 hs77 hfs77 hs78 hfs78 hs79 hfs79
          refine a3z (by kernel_rfl) ?_
          try go_wp2
          obtain ⟨w80, hW_⟩ : ∃ w_, ((((((((((((w67.setCell ⟨gb600, 0, none⟩ (.int .i64 a1_0)).setCell ⟨gb600, 1, none⟩ (.int .i64 a1_1)).setCell ⟨gb600, 2, none⟩ (.int .i64 a1_2)).setCell ⟨gb600, 3, none⟩ (.slice A1_3 l1_3.length c1_3)).setCell ⟨gb600, 4, none⟩ (.slice A1_4 l1_4.length c1_4)).setCell ⟨gb600, 5, none⟩ (.slice A1_5 l1_5.length c1_5)).setCell ⟨gb601, 0, none⟩ (.int .i64 a1_0)).setCell ⟨gb601, 1, none⟩ (.int .i64 a1_1)).setCell ⟨gb601, 2, none⟩ (.int .i64 a1_2)).setCell ⟨gb601, 3, none⟩ (.slice A1_3 l1_3.length c1_3)).setCell ⟨gb601, 4, none⟩ (.slice A1_4 l1_4.length c1_4)).setCell ⟨gb601, 5, none⟩ (.slice A1_5 l1_5.length c1_5)) = w_ := ⟨_, rfl⟩
          have n0_ : Aside0 (w80.heap[gb589]? = some (.cells #[.int .i64 a0_0, .int .i64 a0_1, .int .i64 a0_2, .int .i64 a0_3, .bool a0_4] 25 (0, 0))) := ⟨by rw [← hW_]; (iterate 6 (refine qd_ ?_; refine a0e ?_ NB589_601.out _)); (iterate 6 (refine qd_ ?_; refine a0e ?_ NB589_600.out _)); refine qd_ ?_; exact BK589.out⟩
          have n1_ : Aside0 (w80.heap[gb590]? = some (.cells #[.int .i64 a1_0, .int .i64 a1_1, .int .i64 a1_2, .slice A1_3 l1_3.length c1_3, .slice A1_4 l1_4.length c1_4, .slice A1_5 l1_5.length c1_5] 30 (0, 0))) := ⟨by rw [← hW_]; (iterate 6 (refine qd_ ?_; refine a0e ?_ NB590_601.out _)); (iterate 6 (refine qd_ ?_; refine a0e ?_ NB590_600.out _)); refine qd_ ?_; exact BK590.out⟩
          have n2_ : Aside0 (w80.heap[gb595]? = some (.cells #[.int .i64 ji35, .int .i64 a1_1, .int .i64 ji36, .slice A1_3 l1_3.length c1_3, .slice A1_4 l1_4.length c1_4, .slice A1_5 l1_5.length c1_5] 30 (0, 0))) := ⟨by rw [← hW_]; (iterate 6 (refine qd_ ?_; refine a0e ?_ NB595_601.out _)); (iterate 6 (refine qd_ ?_; refine a0e ?_ NB595_600.out _)); refine qd_ ?_; exact BK595.out⟩
          have n3_ : Aside0 (w80.heap[gb600]? = some (.cells #[.int .i64 a1_0, .int .i64 a1_1, .int .i64 a1_2, .slice A1_3 l1_3.length c1_3, .slice A1_4 l1_4.length c1_4, .slice A1_5 l1_5.length c1_5] 30 (0, 0))) := ⟨by rw [← hW_]; (iterate 6 (refine qd_ ?_; refine a0e ?_ NB600_601.out _)); refine qd_ ?_; refine a0c (cs := #[.int .i64 a1_0, .int .i64 a1_1, .int .i64 a1_2, .slice A1_3 l1_3.length c1_3, .slice A1_4 l1_4.length c1_4, .slice none 0 0]) ?_ 5 _ rfl; refine qd_ ?_; refine a0c (cs := #[.int .i64 a1_0, .int .i64 a1_1, .int .i64 a1_2, .slice A1_3 l1_3.length c1_3, .slice none 0 0, .slice none 0 0]) ?_ 4 _ rfl; refine qd_ ?_; refine a0c (cs := #[.int .i64 a1_0, .int .i64 a1_1, .int .i64 a1_2, .slice none 0 0, .slice none 0 0, .slice none 0 0]) ?_ 3 _ rfl; refine qd_ ?_; refine a0c (cs := #[.int .i64 a1_0, .int .i64 a1_1, .int .i64 0, .slice none 0 0, .slice none 0 0, .slice none 0 0]) ?_ 2 _ rfl; refine qd_ ?_; refine a0c (cs := #[.int .i64 a1_0, .int .i64 0, .int .i64 0, .slice none 0 0, .slice none 0 0, .slice none 0 0]) ?_ 1 _ rfl; refine qd_ ?_; refine a0c (cs := #[.int .i64 0, .int .i64 0, .int .i64 0, .slice none 0 0, .slice none 0 0, .slice none 0 0]) ?_ 0 _ rfl; refine qd_ ?_; exact BK600.out⟩
          have n4_ : Aside0 (w80.heap[gb601]? = some (.cells #[.int .i64 a1_0, .int .i64 a1_1, .int .i64 a1_2, .slice A1_3 l1_3.length c1_3, .slice A1_4 l1_4.length c1_4, .slice A1_5 l1_5.length c1_5] 30 (0, 0))) := ⟨by rw [← hW_]; refine qd_ ?_; refine a0c (cs := #[.int .i64 a1_0, .int .i64 a1_1, .int .i64 a1_2, .slice A1_3 l1_3.length c1_3, .slice A1_4 l1_4.length c1_4, .slice none 0 0]) ?_ 5 _ rfl; refine qd_ ?_; refine a0c (cs := #[.int .i64 a1_0, .int .i64 a1_1, .int .i64 a1_2, .slice A1_3 l1_3.length c1_3, .slice none 0 0, .slice none 0 0]) ?_ 4 _ rfl; refine qd_ ?_; refine a0c (cs := #[.int .i64 a1_0, .int .i64 a1_1, .int .i64 a1_2, .slice none 0 0, .slice none 0 0, .slice none 0 0]) ?_ 3 _ rfl; refine qd_ ?_; refine a0c (cs := #[.int .i64 a1_0, .int .i64 a1_1, .int .i64 0, .slice none 0 0, .slice none 0 0, .slice none 0 0]) ?_ 2 _ rfl; refine qd_ ?_; refine a0c (cs := #[.int .i64 a1_0, .int .i64 0, .int .i64 0, .slice none 0 0, .slice none 0 0, .slice none 0 0]) ?_ 1 _ rfl; refine qd_ ?_; refine a0c (cs := #[.int .i64 0, .int .i64 0, .int .i64 0, .slice none 0 0, .slice none 0 0, .slice none 0 0]) ?_ 0 _ rfl; (iterate 6 (refine qd_ ?_; refine a0e ?_ NB601_600.out _)); refine qd_ ?_; exact BK601.out⟩
          have n5_ : Aside0 (Below w.heap.size w w80) := ⟨by rw [← hW_]; exact qb_⟩
          (try clear BK589)
          (try clear BK590)
          (try clear BK595)
          (try clear BK600)
          (try clear BK601)
          (try clear HB)
          rw [hW_]
          clear hW_
          have BK589 := n0_
          have BK590 := n1_
          have BK595 := n2_
          have BK600 := n3_
          have BK601 := n4_
          have HB := n5_
          clear n0_ n1_ n2_ n3_ n4_ n5_
          replace BK589 := am_ (bd_ BK589.out)
          replace BK590 := am_ (bd_ BK590.out)
          replace BK595 := am_ (bd_ BK595.out)
          replace BK600 := am_ (bd_ BK600.out)
          replace BK601 := am_ (bd_ BK601.out)
          replace HB := am_ (ld_ HB.out)
          refine a3l (n := 9) (S := fun w' => w'.cell? ⟨gb590, 0, none⟩ = some (.int .i64 a1_0) ∧ w'.cell? ⟨gb590, 1, none⟩ = some (.int .i64 a1_1) ∧ w'.cell? ⟨gb590, 2, none⟩ = some (.int .i64 a1_2) ∧ w'.cell? ⟨gb590, 3, none⟩ = some (.slice A1_3 l1_3.length c1_3) ∧ w'.cell? ⟨gb590, 4, none⟩ = some (.slice A1_4 l1_4.length c1_4) ∧ w'.cell? ⟨gb590, 5, none⟩ = some (.slice A1_5 l1_5.length c1_5)) (ds := []) #[i_,i_,i_,i_,i_,i_,i_,i_,i_] (by kernel_rfl) rfl rfl ⟨(bc_ BK590.out 0).trans rfl, (bc_ BK590.out 1).trans rfl, (bc_ BK590.out 2).trans rfl, (bc_ BK590.out 3).trans rfl, (bc_ BK590.out 4).trans rfl, (bc_ BK590.out 5).trans rfl⟩ (fun hHeld => ?_); refine a3f a0b.a7a a0b.a6d (fun HT_ HW_ => ?_)
          generalize w80.drew = w81 at BK589 BK590 BK595 BK600 BK601 HB hHeld ⊢
          refine qpu_ 0 (some 92) #[o_,i_,i_,i_,i_,i_,i_,i_,i_] ?_
          refine qpu_ 3 (some 95) #[o_,i_,i_,o_,i_,i_,i_,i_,i_] ?_
          refine a2o (i := 1) (N := some 93) (v := ?_) (a' := ?_) #[o_,o_,i_,o_,i_,i_,i_,i_,i_] rfl rfl (a2s HT_.out HW_.out (by kernel_rfl)) (fun _ _ _ h => h) (Or.inl ⟨by rfl, ?_⟩) hHeld ?_ ?_
          rotate_left
          ·rintro w' ⟨s0, s1, s2, s3, s4, s5⟩
           go_simp
           with_reducible rfl
          rotate_left
          ·exact qp_
          refine qpu_ 2 (some 94) #[o_,o_,o_,o_,i_,i_,i_,i_,i_] ?_
          refine one_ (i := 4) (N := none) #[o_,o_,o_,o_,o_,i_,i_,i_,i_] rfl rfl (a1z HT_.out (by kernel_rfl)) (by decide) (fun K hK => ?_)
          have hs82 : w81.cell? ⟨gb600, 1, none⟩ = some (.int .i64 a1_1) := (bc_ BK600.out 1).trans rfl
          have hfs82 := bf_ BK600.out 1
          refine a2u (w1 := ?_) (by rfl) rfl ?_ ?_
          rotate_left
          ·go_simp
           rfl
          refine hK.out _ _ (qcf_ ⟨NB590_600.out, hHeld⟩) (fun hHeld => ?_)
          clear hK K
          clear hs82 hfs82
          refine qpu_ 5 (some 96) #[o_,o_,o_,o_,o_,o_,i_,i_,i_] ?_
          refine one_ (i := 6) (N := none) #[o_,o_,o_,o_,o_,o_,o_,i_,i_] rfl rfl (a1z HT_.out (by kernel_rfl)) (by decide) (fun K hK => ?_)
          have hs83 : w81.cell? ⟨gb601, 1, none⟩ = some (.int .i64 a1_1) := (bc_ BK601.out 1).trans rfl
          have hfs83 := bf_ BK601.out 1
          refine a2u (w1 := ?_) (by rfl) rfl ?_ ?_
          rotate_left
          ·go_simp
           rfl
          refine hK.out _ _ (qcf_ ⟨NB590_601.out, hHeld⟩) (fun hHeld => ?_)
          clear hK K
          clear hs83 hfs83
          refine qpu_ 7 (some 97) #[o_,o_,o_,o_,o_,o_,o_,o_,i_] ?_
          refine one_ (i := 8) (N := none) #[o_,o_,o_,o_,o_,o_,o_,o_,o_] rfl rfl (a1z HT_.out (by kernel_rfl)) (by decide) (fun K hK => ?_)
          have hs84 : w81.cell? ⟨gb601, 0, none⟩ = some (.int .i64 a1_0) := (bc_ BK601.out 0).trans rfl
          have hfs84 := bf_ BK601.out 0
          refine a2u (w1 := ?_) (by rfl) rfl ?_ ?_
          rotate_left
          ·go_simp
           rfl
          refine hK.out _ _ (qcf_ ⟨NB590_601.out, hHeld⟩) (fun hHeld => ?_)
          clear hK K
          clear hs84 hfs84
          refine a3z (a3x HT_.out (by kernel_rfl)) ?_
          have hnb85 := NB589_590.out
          have hnc85 := NB590_589.out
          have hnb86 := NB589_595.out
          have hnc86 := NB595_589.out
          have hnb87 := NB589_600.out
          have hnc87 := NB600_589.out
          have hnb88 := NB589_601.out
          have hnc88 := NB601_589.out
          obtain ⟨z'89_0, z'89_1, z'89_2, z'89_3, z'89_4⟩ := qz5_ BK589; obtain ⟨y'89_0, y'89_1, y'89_2, y'89_3, y'89_4⟩ := qf5_ BK589
          have hnb90 := NB600_590.out
          have hnc90 := NB590_600.out
          have hnb91 := NB600_595.out
          have hnc91 := NB595_600.out
          have hnb92 := NB600_601.out
          have hnc92 := NB601_600.out
          obtain ⟨z'93_0, z'93_1, z'93_2, z'93_3, z'93_4, z'93_5⟩ := qz6_ BK600; obtain ⟨y'93_0, y'93_1, y'93_2, y'93_3, y'93_4, y'93_5⟩ := qf6_ BK600
          try go_wp2_with (first | ((with_reducible refine a0g (f := 27) rfl ?_); refine a0t (some 103) rfl rfl Try.func27 (by kernel_rfl) rfl #[.agg #[.int .i64 a0_0, .int .i64 a0_1, .int .i64 a0_2, .int .i64 a0_3, .bool a0_4], .agg #[.int .i64 a1_0, .int .i64 2, .int .i64 a1_2, .slice A1_3 l1_3.length c1_3, .slice A1_4 l1_4.length c1_4, .slice A1_5 l1_5.length c1_5], .string a2, .slice A3 l3.length c3, .int .i64 1] rfl ql_ ?_; (with_reducible refine (a1p.calls kj38 a0_0 a0_1 a0_2 a0_3 a0_4 a1_0 2 a1_2 _ _ l1_3 _ _ l1_4 _ _ l1_5 a2 _ _ l3 1 t602 true _ ?s1 ?s2 ?s3 ?s4 ?s5 ?s6 ?s7 ?s8 A60.out).mono ?_); (case s1 => exact Kd.a0r HR1_3.out qb_); (case s2 => exact HC1_3.out); (case s3 => exact Kd.a0r HR1_4.out qb_); (case s4 => exact HC1_4.out); (case s5 => exact Kd.a0r HR1_5.out qb_); (case s6 => exact HC1_5.out); (case s7 => exact Kd.a0r HR3.out qb_); (case s8 => exact HC3.out); rintro e w94 ⟨rfl, hb⟩; refine ⟨_, rfl, ?_⟩; replace BK589 := am_ (a0v (g := gb589) (o := .cells #[.int .i64 a0_0, .int .i64 a0_1, .int .i64 a0_2, .int .i64 a0_3, .bool a0_4] 25 (0, 0)) (by (iterate 2 (refine qd_ ?_; refine a0e ?_ NB589_601.out _)); refine qd_ ?_; refine a0e ?_ NB589_600.out _; refine qd_ ?_; exact BK589.out) hb); replace BK590 := am_ (a0v (g := gb590) (o := .cells #[.int .i64 a1_0, .int .i64 a1_1, .int .i64 a1_2, .slice A1_3 l1_3.length c1_3, .slice A1_4 l1_4.length c1_4, .slice A1_5 l1_5.length c1_5] 30 (0, 0)) (by (iterate 2 (refine qd_ ?_; refine a0e ?_ NB590_601.out _)); refine qd_ ?_; refine a0e ?_ NB590_600.out _; refine qd_ ?_; exact BK590.out) hb); replace BK595 := am_ (a0v (g := gb595) (o := .cells #[.int .i64 ji35, .int .i64 a1_1, .int .i64 ji36, .slice A1_3 l1_3.length c1_3, .slice A1_4 l1_4.length c1_4, .slice A1_5 l1_5.length c1_5] 30 (0, 0)) (by (iterate 2 (refine qd_ ?_; refine a0e ?_ NB595_601.out _)); refine qd_ ?_; refine a0e ?_ NB595_600.out _; refine qd_ ?_; exact BK595.out) hb); replace BK600 := am_ (a0v (g := gb600) (o := .cells #[.int .i64 a1_0, .int .i64 2, .int .i64 a1_2, .slice A1_3 l1_3.length c1_3, .slice A1_4 l1_4.length c1_4, .slice A1_5 l1_5.length c1_5] 30 (0, 0)) (by (iterate 2 (refine qd_ ?_; refine a0e ?_ NB600_601.out _)); refine qd_ ?_; refine a0c (cs := #[.int .i64 a1_0, .int .i64 a1_1, .int .i64 a1_2, .slice A1_3 l1_3.length c1_3, .slice A1_4 l1_4.length c1_4, .slice A1_5 l1_5.length c1_5]) ?_ 1 _ rfl; refine qd_ ?_; exact BK600.out) hb); replace BK601 := am_ (a0v (g := gb601) (o := .cells #[.int .i64 (wrap64 (a1_0 + 3)), .int .i64 1, .int .i64 a1_2, .slice A1_3 l1_3.length c1_3, .slice A1_4 l1_4.length c1_4, .slice A1_5 l1_5.length c1_5] 30 (0, 0)) (by refine qd_ ?_; refine a0c (cs := #[.int .i64 a1_0, .int .i64 1, .int .i64 a1_2, .slice A1_3 l1_3.length c1_3, .slice A1_4 l1_4.length c1_4, .slice A1_5 l1_5.length c1_5]) ?_ 0 _ rfl; refine qd_ ?_; refine a0c (cs := #[.int .i64 a1_0, .int .i64 a1_1, .int .i64 a1_2, .slice A1_3 l1_3.length c1_3, .slice A1_4 l1_4.length c1_4, .slice A1_5 l1_5.length c1_5]) ?_ 1 _ rfl; refine qd_ ?_; refine a0e ?_ NB601_600.out _; refine qd_ ?_; exact BK601.out) hb); replace HB := qbs_ hb; (try clear hb); (try clear hb2); (try clear hk); (try clear hi); have hnb95 := NB601_590.out; have hnc95 := NB590_601.out; have hnb96 := NB601_595.out; have hnc96 := NB595_601.out; obtain ⟨z'97_0, z'97_1, z'97_2, z'97_3, z'97_4, z'97_5⟩ := qz6_ BK601; obtain ⟨y'97_0, y'97_1, y'97_2, y'97_3, y'97_4, y'97_5⟩ := qf6_ BK601; have hnb98 := NB590_595.out; have hnc98 := NB595_590.out; obtain ⟨z'99_0, z'99_1, z'99_2, z'99_3, z'99_4, z'99_5⟩ := qz6_ BK590; obtain ⟨y'99_0, y'99_1, y'99_2, y'99_3, y'99_4, y'99_5⟩ := qf6_ BK590))
          go_ret
          exact ⟨by first | rfl | (simp [a2g, a2h] <;> rfl) | (simp only [← hji35, ← hji36]; first | rfl | (simp [a2g, a2h] <;> rfl)) | (simp [*, a2g, a2h] <;> rfl), qb_⟩
         ·replace c63 := be_ c63
          subst c63
          have H1 : (some false) = some r := by rw [if_neg (show ¬ (false = true) by decide)] at H; exact H
          clear H
          have H := H1
          clear H1
          obtain rfl := si_ H
          try go_wp2
          replace BK589 := am_ (bd_ BK589.out)
          replace BK590 := am_ (bd_ BK590.out)
          replace BK595 := am_ (bd_ BK595.out)
          replace HB := am_ (ld_ HB.out)
          refine a3l (n := 6) (S := fun w' => w'.cell? ⟨gb590, 0, none⟩ = some (.int .i64 a1_0) ∧ w'.cell? ⟨gb590, 1, none⟩ = some (.int .i64 a1_1) ∧ w'.cell? ⟨gb590, 2, none⟩ = some (.int .i64 a1_2) ∧ w'.cell? ⟨gb590, 3, none⟩ = some (.slice A1_3 l1_3.length c1_3) ∧ w'.cell? ⟨gb590, 4, none⟩ = some (.slice A1_4 l1_4.length c1_4) ∧ w'.cell? ⟨gb590, 5, none⟩ = some (.slice A1_5 l1_5.length c1_5)) (ds := []) #[i_,i_,i_,i_,i_,i_] (by kernel_rfl) rfl rfl ⟨(bc_ BK590.out 0).trans rfl, (bc_ BK590.out 1).trans rfl, (bc_ BK590.out 2).trans rfl, (bc_ BK590.out 3).trans rfl, (bc_ BK590.out 4).trans rfl, (bc_ BK590.out 5).trans rfl⟩ (fun hHeld => ?_)
          generalize wc.drew = w100 at BK589 BK590 BK595 HB hHeld ⊢
          refine a2o (i := 0) (N := some 90) (v := ?_) (a' := ?_) #[o_,i_,i_,i_,i_,i_] rfl rfl (by kernel_rfl) (fun _ _ _ h => h) (Or.inl ⟨by rfl, ?_⟩) hHeld ?_ ?_
          rotate_left
          ·rintro w' ⟨s0, s1, s2, s3, s4, s5⟩
           go_simp
           with_reducible rfl
          rotate_left
          ·exact qp_
          refine a2o (i := 1) (N := some 91) (v := ?_) (a' := ?_) #[o_,o_,i_,i_,i_,i_] rfl rfl (by kernel_rfl) (fun _ _ _ h => h) (Or.inl ⟨by rfl, ?_⟩) hHeld ?_ ?_
          rotate_left
          ·rintro w' ⟨s0, s1, s2, s3, s4, s5⟩
           go_simp
           with_reducible rfl
          rotate_left
          ·exact qp_
          refine a6w (σ := Nat × Nat) 2 #[o_,o_,o_,o_,i_,i_] (fun s_ => [(19, .pointer (some ⟨s_.1, 0, none⟩)), (20, .pointer (some ⟨s_.2, 0, none⟩))]) (fun s_ w' => (w'.cell? ⟨gb590, 0, none⟩ = some (.int .i64 a1_0) ∧ w'.cell? ⟨gb590, 1, none⟩ = some (.int .i64 a1_1) ∧ w'.cell? ⟨gb590, 2, none⟩ = some (.int .i64 a1_2) ∧ w'.cell? ⟨gb590, 3, none⟩ = some (.slice A1_3 l1_3.length c1_3) ∧ w'.cell? ⟨gb590, 4, none⟩ = some (.slice A1_4 l1_4.length c1_4) ∧ w'.cell? ⟨gb590, 5, none⟩ = some (.slice A1_5 l1_5.length c1_5)) ∧ (w'.heap[gb589]? = some (.cells #[.int .i64 a0_0, .int .i64 a0_1, .int .i64 a0_2, .int .i64 a0_3, .bool a0_4] 25 (0, 0))) ∧ (w'.heap[gb590]? = some (.cells #[.int .i64 a1_0, .int .i64 a1_1, .int .i64 a1_2, .slice A1_3 l1_3.length c1_3, .slice A1_4 l1_4.length c1_4, .slice A1_5 l1_5.length c1_5] 30 (0, 0))) ∧ (w'.heap[gb595]? = some (.cells #[.int .i64 ji35, .int .i64 a1_1, .int .i64 ji36, .slice A1_3 l1_3.length c1_3, .slice A1_4 l1_4.length c1_4, .slice A1_5 l1_5.length c1_5] 30 (0, 0))) ∧ (w'.heap[s_.1]? = some (.cells #[.int .i64 0, .int .i64 0, .int .i64 0, .slice none 0 0, .slice none 0 0, .slice none 0 0] 30 (0, 0))) ∧ (w'.heap[s_.2]? = some (.cells #[.int .i64 0, .int .i64 0, .int .i64 0, .slice none 0 0, .slice none 0 0, .slice none 0 0] 30 (0, 0))) ∧ (w.heap.size ≤ s_.1) ∧ (w.heap.size ≤ s_.1) ∧ (gb589 ≠ s_.1) ∧ (s_.1 ≠ gb589) ∧ (gb590 ≠ s_.1) ∧ (s_.1 ≠ gb590) ∧ (gb595 ≠ s_.1) ∧ (s_.1 ≠ gb595) ∧ (s_.2 ≠ s_.1) ∧ (s_.1 ≠ s_.2) ∧ (w.heap.size ≤ s_.2) ∧ (w.heap.size ≤ s_.2) ∧ (gb589 ≠ s_.2) ∧ (s_.2 ≠ gb589) ∧ (gb590 ≠ s_.2) ∧ (s_.2 ≠ gb590) ∧ (gb595 ≠ s_.2) ∧ (s_.2 ≠ gb595) ∧ (Below w.heap.size w w')) ?_ ?_
          rotate_left
          ·intro hCont
           refine two_ (i := 2) (j := 3) (Ni := some 19) (Nj := some 20) #[o_,o_,o_,i_,i_,i_] #[o_,o_,i_,o_,i_,i_] rfl rfl rfl rfl (by kernel_rfl) (by decide) (by decide) (fun K hK => ?_) (fun K hK => ?_)
           ·skip
            refine a2j ?hg (N := 19) ?hd (cs := #[.int .i64 0, .int .i64 0, .int .i64 0, .slice none 0 0, .slice none 0 0, .slice none 0 0]) (t := 30) ?hr ?_; (case hd => rfl); (case hg => rfl); (case hr => exact qq_)
            intro gb600 hg w101 hbox hb
            have BK600 := am_ (hbox)
            have GW600 := qga_ hg
            have GE600 := qga_ hg
            replace HB := qbs_ hb
            have NB589_600 := am_ ((by rw [hg]; exact Nat.ne_of_lt (a0d (qk_ BK589)) : gb589 ≠ gb600))
            have NB600_589 := am_ ((by rw [hg]; exact Nat.ne_of_gt (a0d (qk_ BK589)) : gb600 ≠ gb589))
            replace BK589 := qkb_ BK589 hb
            have NB590_600 := am_ ((by rw [hg]; exact Nat.ne_of_lt (a0d (qk_ BK590)) : gb590 ≠ gb600))
            have NB600_590 := am_ ((by rw [hg]; exact Nat.ne_of_gt (a0d (qk_ BK590)) : gb600 ≠ gb590))
            replace BK590 := qkb_ BK590 hb
            have NB595_600 := am_ ((by rw [hg]; exact Nat.ne_of_lt (a0d (qk_ BK595)) : gb595 ≠ gb600))
            have NB600_595 := am_ ((by rw [hg]; exact Nat.ne_of_gt (a0d (qk_ BK595)) : gb600 ≠ gb595))
            replace BK595 := qkb_ BK595 hb
            clear hb hbox hg
            refine hK.out _ _ ⟨(bc_ BK590.out 0).trans rfl, (bc_ BK590.out 1).trans rfl, (bc_ BK590.out 2).trans rfl, (bc_ BK590.out 3).trans rfl, (bc_ BK590.out 4).trans rfl, (bc_ BK590.out 5).trans rfl⟩ (fun hHeld => ?_)
            clear hK K
            refine a1s (a' := ?_) ?_ ?_
            rotate_left
            ·show Act.put _ (some 19) _ = _
             exact qp_
            refine one_ (i := 3) (N := some 20) #[o_,o_,o_,o_,i_,i_] rfl rfl (by kernel_rfl) (by decide) (fun K hK => ?_)
            refine a2j ?hg (N := 20) ?hd (cs := #[.int .i64 0, .int .i64 0, .int .i64 0, .slice none 0 0, .slice none 0 0, .slice none 0 0]) (t := 30) ?hr ?_; (case hd => rfl); (case hg => rfl); (case hr => exact qq_)
            intro gb601 hg w102 hbox hb
            have BK601 := am_ (hbox)
            have GW601 := qga_ hg
            have GE601 := qga_ hg
            replace HB := qbs_ hb
            have NB589_601 := am_ ((by rw [hg]; exact Nat.ne_of_lt (a0d (qk_ BK589)) : gb589 ≠ gb601))
            have NB601_589 := am_ ((by rw [hg]; exact Nat.ne_of_gt (a0d (qk_ BK589)) : gb601 ≠ gb589))
            replace BK589 := qkb_ BK589 hb
            have NB590_601 := am_ ((by rw [hg]; exact Nat.ne_of_lt (a0d (qk_ BK590)) : gb590 ≠ gb601))
            have NB601_590 := am_ ((by rw [hg]; exact Nat.ne_of_gt (a0d (qk_ BK590)) : gb601 ≠ gb590))
            replace BK590 := qkb_ BK590 hb
            have NB595_601 := am_ ((by rw [hg]; exact Nat.ne_of_lt (a0d (qk_ BK595)) : gb595 ≠ gb601))
            have NB601_595 := am_ ((by rw [hg]; exact Nat.ne_of_gt (a0d (qk_ BK595)) : gb601 ≠ gb595))
            replace BK595 := qkb_ BK595 hb
            have NB600_601 := am_ ((by rw [hg]; exact Nat.ne_of_lt (a0d (qk_ BK600)) : gb600 ≠ gb601))
            have NB601_600 := am_ ((by rw [hg]; exact Nat.ne_of_gt (a0d (qk_ BK600)) : gb601 ≠ gb600))
            replace BK600 := qkb_ BK600 hb
            clear hb hbox hg
            refine hK.out _ _ ⟨(bc_ BK590.out 0).trans rfl, (bc_ BK590.out 1).trans rfl, (bc_ BK590.out 2).trans rfl, (bc_ BK590.out 3).trans rfl, (bc_ BK590.out 4).trans rfl, (bc_ BK590.out 5).trans rfl⟩ (fun hHeld => ?_)
            clear hK K
            refine a1s (a' := ?_) ?_ ?_
            rotate_left
            ·show Act.put _ (some 20) _ = _
             exact qp_
            exact a1s (by simp only [a3n, Act.put, List.setIfInBounds_toArray, List.set_cons_zero, List.set_cons_succ]) (hCont (gb600, gb601) _ ⟨hHeld, (qk_ BK589), (qk_ BK590), (qk_ BK595), (qk_ BK600), (qk_ BK601), GW600.out, GE600.out, NB589_600.out, NB600_589.out, NB590_600.out, NB600_590.out, NB595_600.out, NB600_595.out, NB601_600.out, NB600_601.out, GW601.out, GE601.out, NB589_601.out, NB601_589.out, NB590_601.out, NB601_590.out, NB595_601.out, NB601_595.out, qb_⟩)
           ·skip
            refine a2j ?hg (N := 20) ?hd (cs := #[.int .i64 0, .int .i64 0, .int .i64 0, .slice none 0 0, .slice none 0 0, .slice none 0 0]) (t := 30) ?hr ?_; (case hd => rfl); (case hg => rfl); (case hr => exact qq_)
            intro gb601 hg w101 hbox hb
            have BK601 := am_ (hbox)
            have GW601 := qga_ hg
            have GE601 := qga_ hg
            replace HB := qbs_ hb
            have NB589_601 := am_ ((by rw [hg]; exact Nat.ne_of_lt (a0d (qk_ BK589)) : gb589 ≠ gb601))
            have NB601_589 := am_ ((by rw [hg]; exact Nat.ne_of_gt (a0d (qk_ BK589)) : gb601 ≠ gb589))
            replace BK589 := qkb_ BK589 hb
            have NB590_601 := am_ ((by rw [hg]; exact Nat.ne_of_lt (a0d (qk_ BK590)) : gb590 ≠ gb601))
            have NB601_590 := am_ ((by rw [hg]; exact Nat.ne_of_gt (a0d (qk_ BK590)) : gb601 ≠ gb590))
            replace BK590 := qkb_ BK590 hb
            have NB595_601 := am_ ((by rw [hg]; exact Nat.ne_of_lt (a0d (qk_ BK595)) : gb595 ≠ gb601))
            have NB601_595 := am_ ((by rw [hg]; exact Nat.ne_of_gt (a0d (qk_ BK595)) : gb601 ≠ gb595))
            replace BK595 := qkb_ BK595 hb
            clear hb hbox hg
            refine hK.out _ _ ⟨(bc_ BK590.out 0).trans rfl, (bc_ BK590.out 1).trans rfl, (bc_ BK590.out 2).trans rfl, (bc_ BK590.out 3).trans rfl, (bc_ BK590.out 4).trans rfl, (bc_ BK590.out 5).trans rfl⟩ (fun hHeld => ?_)
            clear hK K
            refine a1s (a' := ?_) ?_ ?_
            rotate_left
            ·show Act.put _ (some 20) _ = _
             exact qp_
            refine one_ (i := 2) (N := some 19) #[o_,o_,o_,o_,i_,i_] rfl rfl (by kernel_rfl) (by decide) (fun K hK => ?_)
            refine a2j ?hg (N := 19) ?hd (cs := #[.int .i64 0, .int .i64 0, .int .i64 0, .slice none 0 0, .slice none 0 0, .slice none 0 0]) (t := 30) ?hr ?_; (case hd => rfl); (case hg => rfl); (case hr => exact qq_)
            intro gb600 hg w102 hbox hb
            have BK600 := am_ (hbox)
            have GW600 := qga_ hg
            have GE600 := qga_ hg
            replace HB := qbs_ hb
            have NB589_600 := am_ ((by rw [hg]; exact Nat.ne_of_lt (a0d (qk_ BK589)) : gb589 ≠ gb600))
            have NB600_589 := am_ ((by rw [hg]; exact Nat.ne_of_gt (a0d (qk_ BK589)) : gb600 ≠ gb589))
            replace BK589 := qkb_ BK589 hb
            have NB590_600 := am_ ((by rw [hg]; exact Nat.ne_of_lt (a0d (qk_ BK590)) : gb590 ≠ gb600))
            have NB600_590 := am_ ((by rw [hg]; exact Nat.ne_of_gt (a0d (qk_ BK590)) : gb600 ≠ gb590))
            replace BK590 := qkb_ BK590 hb
            have NB595_600 := am_ ((by rw [hg]; exact Nat.ne_of_lt (a0d (qk_ BK595)) : gb595 ≠ gb600))
            have NB600_595 := am_ ((by rw [hg]; exact Nat.ne_of_gt (a0d (qk_ BK595)) : gb600 ≠ gb595))
            replace BK595 := qkb_ BK595 hb
            have NB601_600 := am_ ((by rw [hg]; exact Nat.ne_of_lt (a0d (qk_ BK601)) : gb601 ≠ gb600))
            have NB600_601 := am_ ((by rw [hg]; exact Nat.ne_of_gt (a0d (qk_ BK601)) : gb600 ≠ gb601))
            replace BK601 := qkb_ BK601 hb
            clear hb hbox hg
            refine hK.out _ _ ⟨(bc_ BK590.out 0).trans rfl, (bc_ BK590.out 1).trans rfl, (bc_ BK590.out 2).trans rfl, (bc_ BK590.out 3).trans rfl, (bc_ BK590.out 4).trans rfl, (bc_ BK590.out 5).trans rfl⟩ (fun hHeld => ?_)
            clear hK K
            refine a1s (a' := ?_) ?_ ?_
            rotate_left
            ·show Act.put _ (some 19) _ = _
             exact qp_
            exact a1s (by simp only [a3n, Act.put, List.setIfInBounds_toArray, List.set_cons_zero, List.set_cons_succ]) (hCont (gb600, gb601) _ ⟨hHeld, (qk_ BK589), (qk_ BK590), (qk_ BK595), (qk_ BK600), (qk_ BK601), GW600.out, GE600.out, NB589_600.out, NB600_589.out, NB590_600.out, NB600_590.out, NB595_600.out, NB600_595.out, NB601_600.out, NB600_601.out, GW601.out, GE601.out, NB589_601.out, NB601_589.out, NB590_601.out, NB601_590.out, NB595_601.out, NB601_595.out, qb_⟩)
          rintro ⟨gb600, gb601⟩ w103 ⟨hS_, h0_, h1_, h2_, h3_, h4_, h5_, h6_, h7_, h8_, h9_, h10_, h11_, h12_, h13_, h14_, h15_, h16_, h17_, h18_, h19_, h20_, h21_, h22_, h23_⟩
          replace BK589 : Aside0 (w103.heap[gb589]? = some (.cells #[.int .i64 a0_0, .int .i64 a0_1, .int .i64 a0_2, .int .i64 a0_3, .bool a0_4] 25 (0, 0))) := ⟨h0_⟩
          replace BK590 : Aside0 (w103.heap[gb590]? = some (.cells #[.int .i64 a1_0, .int .i64 a1_1, .int .i64 a1_2, .slice A1_3 l1_3.length c1_3, .slice A1_4 l1_4.length c1_4, .slice A1_5 l1_5.length c1_5] 30 (0, 0))) := ⟨h1_⟩
          replace BK595 : Aside0 (w103.heap[gb595]? = some (.cells #[.int .i64 ji35, .int .i64 a1_1, .int .i64 ji36, .slice A1_3 l1_3.length c1_3, .slice A1_4 l1_4.length c1_4, .slice A1_5 l1_5.length c1_5] 30 (0, 0))) := ⟨h2_⟩
          have BK600 : Aside0 (w103.heap[gb600]? = some (.cells #[.int .i64 0, .int .i64 0, .int .i64 0, .slice none 0 0, .slice none 0 0, .slice none 0 0] 30 (0, 0))) := ⟨h3_⟩
          have BK601 : Aside0 (w103.heap[gb601]? = some (.cells #[.int .i64 0, .int .i64 0, .int .i64 0, .slice none 0 0, .slice none 0 0, .slice none 0 0] 30 (0, 0))) := ⟨h4_⟩
          have GW600 : Aside0 (w.heap.size ≤ gb600) := ⟨h5_⟩
          have GE600 : Aside0 (w.heap.size ≤ gb600) := ⟨h6_⟩
          have NB589_600 : Aside0 (gb589 ≠ gb600) := ⟨h7_⟩
          have NB600_589 : Aside0 (gb600 ≠ gb589) := ⟨h8_⟩
          have NB590_600 : Aside0 (gb590 ≠ gb600) := ⟨h9_⟩
          have NB600_590 : Aside0 (gb600 ≠ gb590) := ⟨h10_⟩
          have NB595_600 : Aside0 (gb595 ≠ gb600) := ⟨h11_⟩
          have NB600_595 : Aside0 (gb600 ≠ gb595) := ⟨h12_⟩
          have NB601_600 : Aside0 (gb601 ≠ gb600) := ⟨h13_⟩
          have NB600_601 : Aside0 (gb600 ≠ gb601) := ⟨h14_⟩
          have GW601 : Aside0 (w.heap.size ≤ gb601) := ⟨h15_⟩
          have GE601 : Aside0 (w.heap.size ≤ gb601) := ⟨h16_⟩
          have NB589_601 : Aside0 (gb589 ≠ gb601) := ⟨h17_⟩
          have NB601_589 : Aside0 (gb601 ≠ gb589) := ⟨h18_⟩
          have NB590_601 : Aside0 (gb590 ≠ gb601) := ⟨h19_⟩
          have NB601_590 : Aside0 (gb601 ≠ gb590) := ⟨h20_⟩
          have NB595_601 : Aside0 (gb595 ≠ gb601) := ⟨h21_⟩
          have NB601_595 : Aside0 (gb601 ≠ gb595) := ⟨h22_⟩
          replace HB : Aside0 (Below w.heap.size w w103) := ⟨h23_⟩
          clear h0_ h1_ h2_ h3_ h4_ h5_ h6_ h7_ h8_ h9_ h10_ h11_ h12_ h13_ h14_ h15_ h16_ h17_ h18_ h19_ h20_ h21_ h22_ h23_
          have hHeld : w103.cell? ⟨gb590, 0, none⟩ = some (.int .i64 a1_0) ∧ w103.cell? ⟨gb590, 1, none⟩ = some (.int .i64 a1_1) ∧ w103.cell? ⟨gb590, 2, none⟩ = some (.int .i64 a1_2) ∧ w103.cell? ⟨gb590, 3, none⟩ = some (.slice A1_3 l1_3.length c1_3) ∧ w103.cell? ⟨gb590, 4, none⟩ = some (.slice A1_4 l1_4.length c1_4) ∧ w103.cell? ⟨gb590, 5, none⟩ = some (.slice A1_5 l1_5.length c1_5) := hS_
          refine a1s (a' := ?_) ?_ ?_
          rotate_left
          ·simp only [a3n, Act.put, List.setIfInBounds_toArray, List.set_cons_zero, List.set_cons_succ]
           rfl
          refine one_ (i := 4) (N := none) #[o_,o_,o_,o_,o_,i_] rfl rfl (by kernel_rfl) (by decide) (fun K hK => ?_)
          have hs104 : w103.cell? ⟨gb600, 0, none⟩ = some (.int .i64 0) := (bc_ BK600.out 0).trans rfl
          have hfs104 := bf_ BK600.out 0
          have hns104_0 := NB589_600.out
          have hns104_1 := NB590_600.out
          have hns104_2 := NB595_600.out
          have hns104_4 := NB601_600.out
          have hms104_0 := NB600_589.out
          have hms104_1 := NB600_590.out
          have hms104_2 := NB600_595.out
          have hms104_4 := NB600_601.out
          have hs105 : w103.cell? ⟨gb600, 1, none⟩ = some (.int .i64 0) := (bc_ BK600.out 1).trans rfl
          have hfs105 := bf_ BK600.out 1
          have hs106 : w103.cell? ⟨gb600, 2, none⟩ = some (.int .i64 0) := (bc_ BK600.out 2).trans rfl
          have hfs106 := bf_ BK600.out 2
          have hs107 : w103.cell? ⟨gb600, 3, none⟩ = some (.slice none 0 0) := (bc_ BK600.out 3).trans rfl
          have hfs107 := bf_ BK600.out 3
          have hs108 : w103.cell? ⟨gb600, 4, none⟩ = some (.slice none 0 0) := (bc_ BK600.out 4).trans rfl
          have hfs108 := bf_ BK600.out 4
          have hs109 : w103.cell? ⟨gb600, 5, none⟩ = some (.slice none 0 0) := (bc_ BK600.out 5).trans rfl
          have hfs109 := bf_ BK600.out 5
          refine a2u (w1 := ?_) (by rfl) rfl ?_ ?_
          rotate_left
          ·go_simp
           rfl
          refine hK.out _ _ (qcf_ ⟨NB590_600.out, hHeld⟩) (fun hHeld => ?_)
          clear hK K
          clear hs104 hfs104 hs105 hfs105 hs106 hfs106 hs107 hfs107 hs108 hfs108 hs109 hfs109
          refine one_ (i := 5) (N := none) #[o_,o_,o_,o_,o_,o_] rfl rfl (by kernel_rfl) (by decide) (fun K hK => ?_)
          have hs110 : w103.cell? ⟨gb601, 0, none⟩ = some (.int .i64 0) := (bc_ BK601.out 0).trans rfl
          have hfs110 := bf_ BK601.out 0
          have hns110_0 := NB589_601.out
          have hns110_1 := NB590_601.out
          have hns110_2 := NB595_601.out
          have hms110_0 := NB601_589.out
          have hms110_1 := NB601_590.out
          have hms110_2 := NB601_595.out
          have hs111 : w103.cell? ⟨gb601, 1, none⟩ = some (.int .i64 0) := (bc_ BK601.out 1).trans rfl
          have hfs111 := bf_ BK601.out 1
          have hs112 : w103.cell? ⟨gb601, 2, none⟩ = some (.int .i64 0) := (bc_ BK601.out 2).trans rfl
          have hfs112 := bf_ BK601.out 2
          have hs113 : w103.cell? ⟨gb601, 3, none⟩ = some (.slice none 0 0) := (bc_ BK601.out 3).trans rfl
          have hfs113 := bf_ BK601.out 3
          have hs114 : w103.cell? ⟨gb601, 4, none⟩ = some (.slice none 0 0) := (bc_ BK601.out 4).trans rfl
          have hfs114 := bf_ BK601.out 4
          have hs115 : w103.cell? ⟨gb601, 5, none⟩ = some (.slice none 0 0) := (bc_ BK601.out 5).trans rfl
          have hfs115 := bf_ BK601.out 5
          refine a2u (w1 := ?_) (by rfl) rfl ?_ ?_
          rotate_left
          ·go_simp
           rfl
          refine hK.out _ _ (qcf_ ⟨NB590_601.out, hHeld⟩) (fun hHeld => ?_)
          clear hK K
          clear hs110 hfs110 hs111 hfs111 hs112 hfs112 hs113 hfs113 hs114 hfs114 hs115 hfs115
          refine a3z (by kernel_rfl) ?_
          try go_wp2
          obtain ⟨w116, hW_⟩ : ∃ w_, ((((((((((((w103.setCell ⟨gb600, 0, none⟩ (.int .i64 a1_0)).setCell ⟨gb600, 1, none⟩ (.int .i64 a1_1)).setCell ⟨gb600, 2, none⟩ (.int .i64 a1_2)).setCell ⟨gb600, 3, none⟩ (.slice A1_3 l1_3.length c1_3)).setCell ⟨gb600, 4, none⟩ (.slice A1_4 l1_4.length c1_4)).setCell ⟨gb600, 5, none⟩ (.slice A1_5 l1_5.length c1_5)).setCell ⟨gb601, 0, none⟩ (.int .i64 a1_0)).setCell ⟨gb601, 1, none⟩ (.int .i64 a1_1)).setCell ⟨gb601, 2, none⟩ (.int .i64 a1_2)).setCell ⟨gb601, 3, none⟩ (.slice A1_3 l1_3.length c1_3)).setCell ⟨gb601, 4, none⟩ (.slice A1_4 l1_4.length c1_4)).setCell ⟨gb601, 5, none⟩ (.slice A1_5 l1_5.length c1_5)) = w_ := ⟨_, rfl⟩
          have n0_ : Aside0 (w116.heap[gb589]? = some (.cells #[.int .i64 a0_0, .int .i64 a0_1, .int .i64 a0_2, .int .i64 a0_3, .bool a0_4] 25 (0, 0))) := ⟨by rw [← hW_]; (iterate 6 (refine qd_ ?_; refine a0e ?_ NB589_601.out _)); (iterate 6 (refine qd_ ?_; refine a0e ?_ NB589_600.out _)); refine qd_ ?_; exact BK589.out⟩
          have n1_ : Aside0 (w116.heap[gb590]? = some (.cells #[.int .i64 a1_0, .int .i64 a1_1, .int .i64 a1_2, .slice A1_3 l1_3.length c1_3, .slice A1_4 l1_4.length c1_4, .slice A1_5 l1_5.length c1_5] 30 (0, 0))) := ⟨by rw [← hW_]; (iterate 6 (refine qd_ ?_; refine a0e ?_ NB590_601.out _)); (iterate 6 (refine qd_ ?_; refine a0e ?_ NB590_600.out _)); refine qd_ ?_; exact BK590.out⟩
          have n2_ : Aside0 (w116.heap[gb595]? = some (.cells #[.int .i64 ji35, .int .i64 a1_1, .int .i64 ji36, .slice A1_3 l1_3.length c1_3, .slice A1_4 l1_4.length c1_4, .slice A1_5 l1_5.length c1_5] 30 (0, 0))) := ⟨by rw [← hW_]; (iterate 6 (refine qd_ ?_; refine a0e ?_ NB595_601.out _)); (iterate 6 (refine qd_ ?_; refine a0e ?_ NB595_600.out _)); refine qd_ ?_; exact BK595.out⟩
          have n3_ : Aside0 (w116.heap[gb600]? = some (.cells #[.int .i64 a1_0, .int .i64 a1_1, .int .i64 a1_2, .slice A1_3 l1_3.length c1_3, .slice A1_4 l1_4.length c1_4, .slice A1_5 l1_5.length c1_5] 30 (0, 0))) := ⟨by rw [← hW_]; (iterate 6 (refine qd_ ?_; refine a0e ?_ NB600_601.out _)); refine qd_ ?_; refine a0c (cs := #[.int .i64 a1_0, .int .i64 a1_1, .int .i64 a1_2, .slice A1_3 l1_3.length c1_3, .slice A1_4 l1_4.length c1_4, .slice none 0 0]) ?_ 5 _ rfl; refine qd_ ?_; refine a0c (cs := #[.int .i64 a1_0, .int .i64 a1_1, .int .i64 a1_2, .slice A1_3 l1_3.length c1_3, .slice none 0 0, .slice none 0 0]) ?_ 4 _ rfl; refine qd_ ?_; refine a0c (cs := #[.int .i64 a1_0, .int .i64 a1_1, .int .i64 a1_2, .slice none 0 0, .slice none 0 0, .slice none 0 0]) ?_ 3 _ rfl; refine qd_ ?_; refine a0c (cs := #[.int .i64 a1_0, .int .i64 a1_1, .int .i64 0, .slice none 0 0, .slice none 0 0, .slice none 0 0]) ?_ 2 _ rfl; refine qd_ ?_; refine a0c (cs := #[.int .i64 a1_0, .int .i64 0, .int .i64 0, .slice none 0 0, .slice none 0 0, .slice none 0 0]) ?_ 1 _ rfl; refine qd_ ?_; refine a0c (cs := #[.int .i64 0, .int .i64 0, .int .i64 0, .slice none 0 0, .slice none 0 0, .slice none 0 0]) ?_ 0 _ rfl; refine qd_ ?_; exact BK600.out⟩
          have n4_ : Aside0 (w116.heap[gb601]? = some (.cells #[.int .i64 a1_0, .int .i64 a1_1, .int .i64 a1_2, .slice A1_3 l1_3.length c1_3, .slice A1_4 l1_4.length c1_4, .slice A1_5 l1_5.length c1_5] 30 (0, 0))) := ⟨by rw [← hW_]; refine qd_ ?_; refine a0c (cs := #[.int .i64 a1_0, .int .i64 a1_1, .int .i64 a1_2, .slice A1_3 l1_3.length c1_3, .slice A1_4 l1_4.length c1_4, .slice none 0 0]) ?_ 5 _ rfl; refine qd_ ?_; refine a0c (cs := #[.int .i64 a1_0, .int .i64 a1_1, .int .i64 a1_2, .slice A1_3 l1_3.length c1_3, .slice none 0 0, .slice none 0 0]) ?_ 4 _ rfl; refine qd_ ?_; refine a0c (cs := #[.int .i64 a1_0, .int .i64 a1_1, .int .i64 a1_2, .slice none 0 0, .slice none 0 0, .slice none 0 0]) ?_ 3 _ rfl; refine qd_ ?_; refine a0c (cs := #[.int .i64 a1_0, .int .i64 a1_1, .int .i64 0, .slice none 0 0, .slice none 0 0, .slice none 0 0]) ?_ 2 _ rfl; refine qd_ ?_; refine a0c (cs := #[.int .i64 a1_0, .int .i64 0, .int .i64 0, .slice none 0 0, .slice none 0 0, .slice none 0 0]) ?_ 1 _ rfl; refine qd_ ?_; refine a0c (cs := #[.int .i64 0, .int .i64 0, .int .i64 0, .slice none 0 0, .slice none 0 0, .slice none 0 0]) ?_ 0 _ rfl; (iterate 6 (refine qd_ ?_; refine a0e ?_ NB601_600.out _)); refine qd_ ?_; exact BK601.out⟩
          have n5_ : Aside0 (Below w.heap.size w w116) := ⟨by rw [← hW_]; exact qb_⟩
          (try clear BK589)
          (try clear BK590)
          (try clear BK595)
          (try clear BK600)
          (try clear BK601)
          (try clear HB)
          rw [hW_]
          clear hW_
          have BK589 := n0_
          have BK590 := n1_
          have BK595 := n2_
          have BK600 := n3_
          have BK601 := n4_
          have HB := n5_
          clear n0_ n1_ n2_ n3_ n4_ n5_
          replace BK589 := am_ (bd_ BK589.out)
          replace BK590 := am_ (bd_ BK590.out)
          replace BK595 := am_ (bd_ BK595.out)
          replace BK600 := am_ (bd_ BK600.out)
          replace BK601 := am_ (bd_ BK601.out)
          replace HB := am_ (ld_ HB.out)
          refine a3l (n := 9) (S := fun w' => w'.cell? ⟨gb590, 0, none⟩ = some (.int .i64 a1_0) ∧ w'.cell? ⟨gb590, 1, none⟩ = some (.int .i64 a1_1) ∧ w'.cell? ⟨gb590, 2, none⟩ = some (.int .i64 a1_2) ∧ w'.cell? ⟨gb590, 3, none⟩ = some (.slice A1_3 l1_3.length c1_3) ∧ w'.cell? ⟨gb590, 4, none⟩ = some (.slice A1_4 l1_4.length c1_4) ∧ w'.cell? ⟨gb590, 5, none⟩ = some (.slice A1_5 l1_5.length c1_5)) (ds := []) #[i_,i_,i_,i_,i_,i_,i_,i_,i_] (by kernel_rfl) rfl rfl ⟨(bc_ BK590.out 0).trans rfl, (bc_ BK590.out 1).trans rfl, (bc_ BK590.out 2).trans rfl, (bc_ BK590.out 3).trans rfl, (bc_ BK590.out 4).trans rfl, (bc_ BK590.out 5).trans rfl⟩ (fun hHeld => ?_); refine a3f a0b.a7a a0b.a6d (fun HT_ HW_ => ?_)
          generalize w116.drew = w117 at BK589 BK590 BK595 BK600 BK601 HB hHeld ⊢
          refine qpu_ 0 (some 92) #[o_,i_,i_,i_,i_,i_,i_,i_,i_] ?_
          refine qpu_ 3 (some 95) #[o_,i_,i_,o_,i_,i_,i_,i_,i_] ?_
          refine a2o (i := 1) (N := some 93) (v := ?_) (a' := ?_) #[o_,o_,i_,o_,i_,i_,i_,i_,i_] rfl rfl (a2s HT_.out HW_.out (by kernel_rfl)) (fun _ _ _ h => h) (Or.inl ⟨by rfl, ?_⟩) hHeld ?_ ?_
          rotate_left
          ·rintro w' ⟨s0, s1, s2, s3, s4, s5⟩
           go_simp
           with_reducible rfl
          rotate_left
          ·exact qp_
          refine qpu_ 2 (some 94) #[o_,o_,o_,o_,i_,i_,i_,i_,i_] ?_
          refine one_ (i := 4) (N := none) #[o_,o_,o_,o_,o_,i_,i_,i_,i_] rfl rfl (a1z HT_.out (by kernel_rfl)) (by decide) (fun K hK => ?_)
          have hs118 : w117.cell? ⟨gb600, 1, none⟩ = some (.int .i64 a1_1) := (bc_ BK600.out 1).trans rfl
          have hfs118 := bf_ BK600.out 1
          refine a2u (w1 := ?_) (by rfl) rfl ?_ ?_
          rotate_left
          ·go_simp
           rfl
          refine hK.out _ _ (qcf_ ⟨NB590_600.out, hHeld⟩) (fun hHeld => ?_)
          clear hK K
          clear hs118 hfs118
          refine qpu_ 5 (some 96) #[o_,o_,o_,o_,o_,o_,i_,i_,i_] ?_
          refine one_ (i := 6) (N := none) #[o_,o_,o_,o_,o_,o_,o_,i_,i_] rfl rfl (a1z HT_.out (by kernel_rfl)) (by decide) (fun K hK => ?_)
          have hs119 : w117.cell? ⟨gb601, 1, none⟩ = some (.int .i64 a1_1) := (bc_ BK601.out 1).trans rfl
          have hfs119 := bf_ BK601.out 1
          refine a2u (w1 := ?_) (by rfl) rfl ?_ ?_
          rotate_left
          ·go_simp
           rfl
          refine hK.out _ _ (qcf_ ⟨NB590_601.out, hHeld⟩) (fun hHeld => ?_)
          clear hK K
          clear hs119 hfs119
          refine qpu_ 7 (some 97) #[o_,o_,o_,o_,o_,o_,o_,o_,i_] ?_
          refine one_ (i := 8) (N := none) #[o_,o_,o_,o_,o_,o_,o_,o_,o_] rfl rfl (a1z HT_.out (by kernel_rfl)) (by decide) (fun K hK => ?_)
          have hs120 : w117.cell? ⟨gb601, 0, none⟩ = some (.int .i64 a1_0) := (bc_ BK601.out 0).trans rfl
          have hfs120 := bf_ BK601.out 0
          refine a2u (w1 := ?_) (by rfl) rfl ?_ ?_
          rotate_left
          ·go_simp
           rfl
          refine hK.out _ _ (qcf_ ⟨NB590_601.out, hHeld⟩) (fun hHeld => ?_)
          clear hK K
          clear hs120 hfs120
          refine a3z (a3x HT_.out (by kernel_rfl)) ?_
          have hnb121 := NB589_590.out
          have hnc121 := NB590_589.out
          have hnb122 := NB589_595.out
          have hnc122 := NB595_589.out
          have hnb123 := NB589_600.out
          have hnc123 := NB600_589.out
          have hnb124 := NB589_601.out
          have hnc124 := NB601_589.out
          obtain ⟨z'125_0, z'125_1, z'125_2, z'125_3, z'125_4⟩ := qz5_ BK589; obtain ⟨y'125_0, y'125_1, y'125_2, y'125_3, y'125_4⟩ := qf5_ BK589
          have hnb126 := NB600_590.out
          have hnc126 := NB590_600.out
          have hnb127 := NB600_595.out
          have hnc127 := NB595_600.out
          have hnb128 := NB600_601.out
          have hnc128 := NB601_600.out
          obtain ⟨z'129_0, z'129_1, z'129_2, z'129_3, z'129_4, z'129_5⟩ := qz6_ BK600; obtain ⟨y'129_0, y'129_1, y'129_2, y'129_3, y'129_4, y'129_5⟩ := qf6_ BK600
          try go_wp2_with (first | ((with_reducible refine a0g (f := 27) rfl ?_); refine a0t (some 103) rfl rfl Try.func27 (by kernel_rfl) rfl #[.agg #[.int .i64 a0_0, .int .i64 a0_1, .int .i64 a0_2, .int .i64 a0_3, .bool a0_4], .agg #[.int .i64 a1_0, .int .i64 2, .int .i64 a1_2, .slice A1_3 l1_3.length c1_3, .slice A1_4 l1_4.length c1_4, .slice A1_5 l1_5.length c1_5], .string a2, .slice A3 l3.length c3, .int .i64 1] rfl ql_ ?_; (with_reducible refine (a1p.calls kj38 a0_0 a0_1 a0_2 a0_3 a0_4 a1_0 2 a1_2 _ _ l1_3 _ _ l1_4 _ _ l1_5 a2 _ _ l3 1 t602 false _ ?s1 ?s2 ?s3 ?s4 ?s5 ?s6 ?s7 ?s8 A60.out).mono ?_); (case s1 => exact Kd.a0r HR1_3.out qb_); (case s2 => exact HC1_3.out); (case s3 => exact Kd.a0r HR1_4.out qb_); (case s4 => exact HC1_4.out); (case s5 => exact Kd.a0r HR1_5.out qb_); (case s6 => exact HC1_5.out); (case s7 => exact Kd.a0r HR3.out qb_); (case s8 => exact HC3.out); rintro e w130 ⟨rfl, hb⟩; refine ⟨_, rfl, ?_⟩; replace BK589 := am_ (a0v (g := gb589) (o := .cells #[.int .i64 a0_0, .int .i64 a0_1, .int .i64 a0_2, .int .i64 a0_3, .bool a0_4] 25 (0, 0)) (by (iterate 2 (refine qd_ ?_; refine a0e ?_ NB589_601.out _)); refine qd_ ?_; refine a0e ?_ NB589_600.out _; refine qd_ ?_; exact BK589.out) hb); replace BK590 := am_ (a0v (g := gb590) (o := .cells #[.int .i64 a1_0, .int .i64 a1_1, .int .i64 a1_2, .slice A1_3 l1_3.length c1_3, .slice A1_4 l1_4.length c1_4, .slice A1_5 l1_5.length c1_5] 30 (0, 0)) (by (iterate 2 (refine qd_ ?_; refine a0e ?_ NB590_601.out _)); refine qd_ ?_; refine a0e ?_ NB590_600.out _; refine qd_ ?_; exact BK590.out) hb); replace BK595 := am_ (a0v (g := gb595) (o := .cells #[.int .i64 ji35, .int .i64 a1_1, .int .i64 ji36, .slice A1_3 l1_3.length c1_3, .slice A1_4 l1_4.length c1_4, .slice A1_5 l1_5.length c1_5] 30 (0, 0)) (by (iterate 2 (refine qd_ ?_; refine a0e ?_ NB595_601.out _)); refine qd_ ?_; refine a0e ?_ NB595_600.out _; refine qd_ ?_; exact BK595.out) hb); replace BK600 := am_ (a0v (g := gb600) (o := .cells #[.int .i64 a1_0, .int .i64 2, .int .i64 a1_2, .slice A1_3 l1_3.length c1_3, .slice A1_4 l1_4.length c1_4, .slice A1_5 l1_5.length c1_5] 30 (0, 0)) (by (iterate 2 (refine qd_ ?_; refine a0e ?_ NB600_601.out _)); refine qd_ ?_; refine a0c (cs := #[.int .i64 a1_0, .int .i64 a1_1, .int .i64 a1_2, .slice A1_3 l1_3.length c1_3, .slice A1_4 l1_4.length c1_4, .slice A1_5 l1_5.length c1_5]) ?_ 1 _ rfl; refine qd_ ?_; exact BK600.out) hb); replace BK601 := am_ (a0v (g := gb601) (o := .cells #[.int .i64 (wrap64 (a1_0 + 3)), .int .i64 1, .int .i64 a1_2, .slice A1_3 l1_3.length c1_3, .slice A1_4 l1_4.length c1_4, .slice A1_5 l1_5.length c1_5] 30 (0, 0)) (by refine qd_ ?_; refine a0c (cs := #[.int .i64 a1_0, .int .i64 1, .int .i64 a1_2, .slice A1_3 l1_3.length c1_3, .slice A1_4 l1_4.length c1_4, .slice A1_5 l1_5.length c1_5]) ?_ 0 _ rfl; refine qd_ ?_; refine a0c (cs := #[.int .i64 a1_0, .int .i64 a1_1, .int .i64 a1_2, .slice A1_3 l1_3.length c1_3, .slice A1_4 l1_4.length c1_4, .slice A1_5 l1_5.length c1_5]) ?_ 1 _ rfl; refine qd_ ?_; refine a0e ?_ NB601_600.out _; refine qd_ ?_; exact BK601.out) hb); replace HB := qbs_ hb; (try clear hb); (try clear hb2); (try clear hk); (try clear hi); have hnb131 := NB601_590.out; have hnc131 := NB590_601.out; have hnb132 := NB601_595.out; have hnc132 := NB595_601.out; obtain ⟨z'133_0, z'133_1, z'133_2, z'133_3, z'133_4, z'133_5⟩ := qz6_ BK601; obtain ⟨y'133_0, y'133_1, y'133_2, y'133_3, y'133_4, y'133_5⟩ := qf6_ BK601; have hnb134 := NB590_595.out; have hnc134 := NB595_590.out; obtain ⟨z'135_0, z'135_1, z'135_2, z'135_3, z'135_4, z'135_5⟩ := qz6_ BK590; obtain ⟨y'135_0, y'135_1, y'135_2, y'135_3, y'135_4, y'135_5⟩ := qf6_ BK590))
          go_ret
          exact ⟨by first | rfl | (simp [a2g, a2h] <;> rfl) | (simp only [← hji35, ← hji36]; first | rfl | (simp [a2g, a2h] <;> rfl)) | (simp [*, a2g, a2h] <;> rfl), qb_⟩
        ·replace c62 := be_ c62
         subst c62
         have H1 : (some false) = some r := by rw [if_neg (show ¬ (false = true) by decide)] at H; exact H
         clear H
         have H := H1
         clear H1
         obtain rfl := si_ H
         try go_wp2
         replace BK589 := am_ (bd_ BK589.out)
         replace BK590 := am_ (bd_ BK590.out)
         replace BK595 := am_ (bd_ BK595.out)
         replace HB := am_ (ld_ HB.out)
         refine a3l (n := 6) (S := fun w' => w'.cell? ⟨gb590, 0, none⟩ = some (.int .i64 a1_0) ∧ w'.cell? ⟨gb590, 1, none⟩ = some (.int .i64 a1_1) ∧ w'.cell? ⟨gb590, 2, none⟩ = some (.int .i64 a1_2) ∧ w'.cell? ⟨gb590, 3, none⟩ = some (.slice A1_3 l1_3.length c1_3) ∧ w'.cell? ⟨gb590, 4, none⟩ = some (.slice A1_4 l1_4.length c1_4) ∧ w'.cell? ⟨gb590, 5, none⟩ = some (.slice A1_5 l1_5.length c1_5)) (ds := []) #[i_,i_,i_,i_,i_,i_] (by kernel_rfl) rfl rfl ⟨(bc_ BK590.out 0).trans rfl, (bc_ BK590.out 1).trans rfl, (bc_ BK590.out 2).trans rfl, (bc_ BK590.out 3).trans rfl, (bc_ BK590.out 4).trans rfl, (bc_ BK590.out 5).trans rfl⟩ (fun hHeld => ?_)
         generalize wc.drew = w136 at BK589 BK590 BK595 HB hHeld ⊢
         refine a2o (i := 0) (N := some 90) (v := ?_) (a' := ?_) #[o_,i_,i_,i_,i_,i_] rfl rfl (by kernel_rfl) (fun _ _ _ h => h) (Or.inl ⟨by rfl, ?_⟩) hHeld ?_ ?_
         rotate_left
         ·rintro w' ⟨s0, s1, s2, s3, s4, s5⟩
          go_simp
          with_reducible rfl
         rotate_left
         ·exact qp_
         refine a2o (i := 1) (N := some 91) (v := ?_) (a' := ?_) #[o_,o_,i_,i_,i_,i_] rfl rfl (by kernel_rfl) (fun _ _ _ h => h) (Or.inl ⟨by rfl, ?_⟩) hHeld ?_ ?_
         rotate_left
         ·rintro w' ⟨s0, s1, s2, s3, s4, s5⟩
          go_simp
          with_reducible rfl
         rotate_left
         ·exact qp_
         refine a6w (σ := Nat × Nat) 2 #[o_,o_,o_,o_,i_,i_] (fun s_ => [(19, .pointer (some ⟨s_.1, 0, none⟩)), (20, .pointer (some ⟨s_.2, 0, none⟩))]) (fun s_ w' => (w'.cell? ⟨gb590, 0, none⟩ = some (.int .i64 a1_0) ∧ w'.cell? ⟨gb590, 1, none⟩ = some (.int .i64 a1_1) ∧ w'.cell? ⟨gb590, 2, none⟩ = some (.int .i64 a1_2) ∧ w'.cell? ⟨gb590, 3, none⟩ = some (.slice A1_3 l1_3.length c1_3) ∧ w'.cell? ⟨gb590, 4, none⟩ = some (.slice A1_4 l1_4.length c1_4) ∧ w'.cell? ⟨gb590, 5, none⟩ = some (.slice A1_5 l1_5.length c1_5)) ∧ (w'.heap[gb589]? = some (.cells #[.int .i64 a0_0, .int .i64 a0_1, .int .i64 a0_2, .int .i64 a0_3, .bool a0_4] 25 (0, 0))) ∧ (w'.heap[gb590]? = some (.cells #[.int .i64 a1_0, .int .i64 a1_1, .int .i64 a1_2, .slice A1_3 l1_3.length c1_3, .slice A1_4 l1_4.length c1_4, .slice A1_5 l1_5.length c1_5] 30 (0, 0))) ∧ (w'.heap[gb595]? = some (.cells #[.int .i64 ji35, .int .i64 a1_1, .int .i64 ji36, .slice A1_3 l1_3.length c1_3, .slice A1_4 l1_4.length c1_4, .slice A1_5 l1_5.length c1_5] 30 (0, 0))) ∧ (w'.heap[s_.1]? = some (.cells #[.int .i64 0, .int .i64 0, .int .i64 0, .slice none 0 0, .slice none 0 0, .slice none 0 0] 30 (0, 0))) ∧ (w'.heap[s_.2]? = some (.cells #[.int .i64 0, .int .i64 0, .int .i64 0, .slice none 0 0, .slice none 0 0, .slice none 0 0] 30 (0, 0))) ∧ (w.heap.size ≤ s_.1) ∧ (w.heap.size ≤ s_.1) ∧ (gb589 ≠ s_.1) ∧ (s_.1 ≠ gb589) ∧ (gb590 ≠ s_.1) ∧ (s_.1 ≠ gb590) ∧ (gb595 ≠ s_.1) ∧ (s_.1 ≠ gb595) ∧ (s_.2 ≠ s_.1) ∧ (s_.1 ≠ s_.2) ∧ (w.heap.size ≤ s_.2) ∧ (w.heap.size ≤ s_.2) ∧ (gb589 ≠ s_.2) ∧ (s_.2 ≠ gb589) ∧ (gb590 ≠ s_.2) ∧ (s_.2 ≠ gb590) ∧ (gb595 ≠ s_.2) ∧ (s_.2 ≠ gb595) ∧ (Below w.heap.size w w')) ?_ ?_
         rotate_left
         ·intro hCont
          refine two_ (i := 2) (j := 3) (Ni := some 19) (Nj := some 20) #[o_,o_,o_,i_,i_,i_] #[o_,o_,i_,o_,i_,i_] rfl rfl rfl rfl (by kernel_rfl) (by decide) (by decide) (fun K hK => ?_) (fun K hK => ?_)
          ·skip
           refine a2j ?hg (N := 19) ?hd (cs := #[.int .i64 0, .int .i64 0, .int .i64 0, .slice none 0 0, .slice none 0 0, .slice none 0 0]) (t := 30) ?hr ?_; (case hd => rfl); (case hg => rfl); (case hr => exact qq_)
           intro gb600 hg w137 hbox hb
           have BK600 := am_ (hbox)
           have GW600 := qga_ hg
           have GE600 := qga_ hg
           replace HB := qbs_ hb
           have NB589_600 := am_ ((by rw [hg]; exact Nat.ne_of_lt (a0d (qk_ BK589)) : gb589 ≠ gb600))
           have NB600_589 := am_ ((by rw [hg]; exact Nat.ne_of_gt (a0d (qk_ BK589)) : gb600 ≠ gb589))
           replace BK589 := qkb_ BK589 hb
           have NB590_600 := am_ ((by rw [hg]; exact Nat.ne_of_lt (a0d (qk_ BK590)) : gb590 ≠ gb600))
           have NB600_590 := am_ ((by rw [hg]; exact Nat.ne_of_gt (a0d (qk_ BK590)) : gb600 ≠ gb590))
           replace BK590 := qkb_ BK590 hb
           have NB595_600 := am_ ((by rw [hg]; exact Nat.ne_of_lt (a0d (qk_ BK595)) : gb595 ≠ gb600))
           have NB600_595 := am_ ((by rw [hg]; exact Nat.ne_of_gt (a0d (qk_ BK595)) : gb600 ≠ gb595))
           replace BK595 := qkb_ BK595 hb
           clear hb hbox hg
           refine hK.out _ _ ⟨(bc_ BK590.out 0).trans rfl, (bc_ BK590.out 1).trans rfl, (bc_ BK590.out 2).trans rfl, (bc_ BK590.out 3).trans rfl, (bc_ BK590.out 4).trans rfl, (bc_ BK590.out 5).trans rfl⟩ (fun hHeld => ?_)
           clear hK K
           refine a1s (a' := ?_) ?_ ?_
           rotate_left
           ·show Act.put _ (some 19) _ = _
            exact qp_
           refine one_ (i := 3) (N := some 20) #[o_,o_,o_,o_,i_,i_] rfl rfl (by kernel_rfl) (by decide) (fun K hK => ?_)
           refine a2j ?hg (N := 20) ?hd (cs := #[.int .i64 0, .int .i64 0, .int .i64 0, .slice none 0 0, .slice none 0 0, .slice none 0 0]) (t := 30) ?hr ?_; (case hd => rfl); (case hg => rfl); (case hr => exact qq_)
           intro gb601 hg w138 hbox hb
           have BK601 := am_ (hbox)
           have GW601 := qga_ hg
           have GE601 := qga_ hg
           replace HB := qbs_ hb
           have NB589_601 := am_ ((by rw [hg]; exact Nat.ne_of_lt (a0d (qk_ BK589)) : gb589 ≠ gb601))
           have NB601_589 := am_ ((by rw [hg]; exact Nat.ne_of_gt (a0d (qk_ BK589)) : gb601 ≠ gb589))
           replace BK589 := qkb_ BK589 hb
           have NB590_601 := am_ ((by rw [hg]; exact Nat.ne_of_lt (a0d (qk_ BK590)) : gb590 ≠ gb601))
           have NB601_590 := am_ ((by rw [hg]; exact Nat.ne_of_gt (a0d (qk_ BK590)) : gb601 ≠ gb590))
           replace BK590 := qkb_ BK590 hb
           have NB595_601 := am_ ((by rw [hg]; exact Nat.ne_of_lt (a0d (qk_ BK595)) : gb595 ≠ gb601))
           have NB601_595 := am_ ((by rw [hg]; exact Nat.ne_of_gt (a0d (qk_ BK595)) : gb601 ≠ gb595))
           replace BK595 := qkb_ BK595 hb
           have NB600_601 := am_ ((by rw [hg]; exact Nat.ne_of_lt (a0d (qk_ BK600)) : gb600 ≠ gb601))
           have NB601_600 := am_ ((by rw [hg]; exact Nat.ne_of_gt (a0d (qk_ BK600)) : gb601 ≠ gb600))
           replace BK600 := qkb_ BK600 hb
           clear hb hbox hg
           refine hK.out _ _ ⟨(bc_ BK590.out 0).trans rfl, (bc_ BK590.out 1).trans rfl, (bc_ BK590.out 2).trans rfl, (bc_ BK590.out 3).trans rfl, (bc_ BK590.out 4).trans rfl, (bc_ BK590.out 5).trans rfl⟩ (fun hHeld => ?_)
           clear hK K
           refine a1s (a' := ?_) ?_ ?_
           rotate_left
           ·show Act.put _ (some 20) _ = _
            exact qp_
           exact a1s (by simp only [a3n, Act.put, List.setIfInBounds_toArray, List.set_cons_zero, List.set_cons_succ]) (hCont (gb600, gb601) _ ⟨hHeld, (qk_ BK589), (qk_ BK590), (qk_ BK595), (qk_ BK600), (qk_ BK601), GW600.out, GE600.out, NB589_600.out, NB600_589.out, NB590_600.out, NB600_590.out, NB595_600.out, NB600_595.out, NB601_600.out, NB600_601.out, GW601.out, GE601.out, NB589_601.out, NB601_589.out, NB590_601.out, NB601_590.out, NB595_601.out, NB601_595.out, qb_⟩)
          ·skip
           refine a2j ?hg (N := 20) ?hd (cs := #[.int .i64 0, .int .i64 0, .int .i64 0, .slice none 0 0, .slice none 0 0, .slice none 0 0]) (t := 30) ?hr ?_; (case hd => rfl); (case hg => rfl); (case hr => exact qq_)
           intro gb601 hg w137 hbox hb
           have BK601 := am_ (hbox)
           have GW601 := qga_ hg
           have GE601 := qga_ hg
           replace HB := qbs_ hb
           have NB589_601 := am_ ((by rw [hg]; exact Nat.ne_of_lt (a0d (qk_ BK589)) : gb589 ≠ gb601))
           have NB601_589 := am_ ((by rw [hg]; exact Nat.ne_of_gt (a0d (qk_ BK589)) : gb601 ≠ gb589))
           replace BK589 := qkb_ BK589 hb
           have NB590_601 := am_ ((by rw [hg]; exact Nat.ne_of_lt (a0d (qk_ BK590)) : gb590 ≠ gb601))
           have NB601_590 := am_ ((by rw [hg]; exact Nat.ne_of_gt (a0d (qk_ BK590)) : gb601 ≠ gb590))
           replace BK590 := qkb_ BK590 hb
           have NB595_601 := am_ ((by rw [hg]; exact Nat.ne_of_lt (a0d (qk_ BK595)) : gb595 ≠ gb601))
           have NB601_595 := am_ ((by rw [hg]; exact Nat.ne_of_gt (a0d (qk_ BK595)) : gb601 ≠ gb595))
           replace BK595 := qkb_ BK595 hb
           clear hb hbox hg
           refine hK.out _ _ ⟨(bc_ BK590.out 0).trans rfl, (bc_ BK590.out 1).trans rfl, (bc_ BK590.out 2).trans rfl, (bc_ BK590.out 3).trans rfl, (bc_ BK590.out 4).trans rfl, (bc_ BK590.out 5).trans rfl⟩ (fun hHeld => ?_)
           clear hK K
           refine a1s (a' := ?_) ?_ ?_
           rotate_left
           ·show Act.put _ (some 20) _ = _
            exact qp_
           refine one_ (i := 2) (N := some 19) #[o_,o_,o_,o_,i_,i_] rfl rfl (by kernel_rfl) (by decide) (fun K hK => ?_)
           refine a2j ?hg (N := 19) ?hd (cs := #[.int .i64 0, .int .i64 0, .int .i64 0, .slice none 0 0, .slice none 0 0, .slice none 0 0]) (t := 30) ?hr ?_; (case hd => rfl); (case hg => rfl); (case hr => exact qq_)
           intro gb600 hg w138 hbox hb
           have BK600 := am_ (hbox)
           have GW600 := qga_ hg
           have GE600 := qga_ hg
           replace HB := qbs_ hb
           have NB589_600 := am_ ((by rw [hg]; exact Nat.ne_of_lt (a0d (qk_ BK589)) : gb589 ≠ gb600))
           have NB600_589 := am_ ((by rw [hg]; exact Nat.ne_of_gt (a0d (qk_ BK589)) : gb600 ≠ gb589))
           replace BK589 := qkb_ BK589 hb
           have NB590_600 := am_ ((by rw [hg]; exact Nat.ne_of_lt (a0d (qk_ BK590)) : gb590 ≠ gb600))
           have NB600_590 := am_ ((by rw [hg]; exact Nat.ne_of_gt (a0d (qk_ BK590)) : gb600 ≠ gb590))
           replace BK590 := qkb_ BK590 hb
           have NB595_600 := am_ ((by rw [hg]; exact Nat.ne_of_lt (a0d (qk_ BK595)) : gb595 ≠ gb600))
           have NB600_595 := am_ ((by rw [hg]; exact Nat.ne_of_gt (a0d (qk_ BK595)) : gb600 ≠ gb595))
           replace BK595 := qkb_ BK595 hb
           have NB601_600 := am_ ((by rw [hg]; exact Nat.ne_of_lt (a0d (qk_ BK601)) : gb601 ≠ gb600))
           have NB600_601 := am_ ((by rw [hg]; exact Nat.ne_of_gt (a0d (qk_ BK601)) : gb600 ≠ gb601))
           replace BK601 := qkb_ BK601 hb
           clear hb hbox hg
           refine hK.out _ _ ⟨(bc_ BK590.out 0).trans rfl, (bc_ BK590.out 1).trans rfl, (bc_ BK590.out 2).trans rfl, (bc_ BK590.out 3).trans rfl, (bc_ BK590.out 4).trans rfl, (bc_ BK590.out 5).trans rfl⟩ (fun hHeld => ?_)
           clear hK K
           refine a1s (a' := ?_) ?_ ?_
           rotate_left
           ·show Act.put _ (some 19) _ = _
            exact qp_
           exact a1s (by simp only [a3n, Act.put, List.setIfInBounds_toArray, List.set_cons_zero, List.set_cons_succ]) (hCont (gb600, gb601) _ ⟨hHeld, (qk_ BK589), (qk_ BK590), (qk_ BK595), (qk_ BK600), (qk_ BK601), GW600.out, GE600.out, NB589_600.out, NB600_589.out, NB590_600.out, NB600_590.out, NB595_600.out, NB600_595.out, NB601_600.out, NB600_601.out, GW601.out, GE601.out, NB589_601.out, NB601_589.out, NB590_601.out, NB601_590.out, NB595_601.out, NB601_595.out, qb_⟩)
         rintro ⟨gb600, gb601⟩ w139 ⟨hS_, h0_, h1_, h2_, h3_, h4_, h5_, h6_, h7_, h8_, h9_, h10_, h11_, h12_, h13_, h14_, h15_, h16_, h17_, h18_, h19_, h20_, h21_, h22_, h23_⟩
         replace BK589 : Aside0 (w139.heap[gb589]? = some (.cells #[.int .i64 a0_0, .int .i64 a0_1, .int .i64 a0_2, .int .i64 a0_3, .bool a0_4] 25 (0, 0))) := ⟨h0_⟩
         replace BK590 : Aside0 (w139.heap[gb590]? = some (.cells #[.int .i64 a1_0, .int .i64 a1_1, .int .i64 a1_2, .slice A1_3 l1_3.length c1_3, .slice A1_4 l1_4.length c1_4, .slice A1_5 l1_5.length c1_5] 30 (0, 0))) := ⟨h1_⟩
         replace BK595 : Aside0 (w139.heap[gb595]? = some (.cells #[.int .i64 ji35, .int .i64 a1_1, .int .i64 ji36, .slice A1_3 l1_3.length c1_3, .slice A1_4 l1_4.length c1_4, .slice A1_5 l1_5.length c1_5] 30 (0, 0))) := ⟨h2_⟩
         have BK600 : Aside0 (w139.heap[gb600]? = some (.cells #[.int .i64 0, .int .i64 0, .int .i64 0, .slice none 0 0, .slice none 0 0, .slice none 0 0] 30 (0, 0))) := ⟨h3_⟩
         have BK601 : Aside0 (w139.heap[gb601]? = some (.cells #[.int .i64 0, .int .i64 0, .int .i64 0, .slice none 0 0, .slice none 0 0, .slice none 0 0] 30 (0, 0))) := ⟨h4_⟩
         have GW600 : Aside0 (w.heap.size ≤ gb600) := ⟨h5_⟩
         have GE600 : Aside0 (w.heap.size ≤ gb600) := ⟨h6_⟩
         have NB589_600 : Aside0 (gb589 ≠ gb600) := ⟨h7_⟩
         have NB600_589 : Aside0 (gb600 ≠ gb589) := ⟨h8_⟩
         have NB590_600 : Aside0 (gb590 ≠ gb600) := ⟨h9_⟩
         have NB600_590 : Aside0 (gb600 ≠ gb590) := ⟨h10_⟩
         have NB595_600 : Aside0 (gb595 ≠ gb600) := ⟨h11_⟩
         have NB600_595 : Aside0 (gb600 ≠ gb595) := ⟨h12_⟩
         have NB601_600 : Aside0 (gb601 ≠ gb600) := ⟨h13_⟩
         have NB600_601 : Aside0 (gb600 ≠ gb601) := ⟨h14_⟩
         have GW601 : Aside0 (w.heap.size ≤ gb601) := ⟨h15_⟩
         have GE601 : Aside0 (w.heap.size ≤ gb601) := ⟨h16_⟩
         have NB589_601 : Aside0 (gb589 ≠ gb601) := ⟨h17_⟩
         have NB601_589 : Aside0 (gb601 ≠ gb589) := ⟨h18_⟩
         have NB590_601 : Aside0 (gb590 ≠ gb601) := ⟨h19_⟩
         have NB601_590 : Aside0 (gb601 ≠ gb590) := ⟨h20_⟩
         have NB595_601 : Aside0 (gb595 ≠ gb601) := ⟨h21_⟩
         have NB601_595 : Aside0 (gb601 ≠ gb595) := ⟨h22_⟩
         replace HB : Aside0 (Below w.heap.size w w139) := ⟨h23_⟩
         clear h0_ h1_ h2_ h3_ h4_ h5_ h6_ h7_ h8_ h9_ h10_ h11_ h12_ h13_ h14_ h15_ h16_ h17_ h18_ h19_ h20_ h21_ h22_ h23_
         have hHeld : w139.cell? ⟨gb590, 0, none⟩ = some (.int .i64 a1_0) ∧ w139.cell? ⟨gb590, 1, none⟩ = some (.int .i64 a1_1) ∧ w139.cell? ⟨gb590, 2, none⟩ = some (.int .i64 a1_2) ∧ w139.cell? ⟨gb590, 3, none⟩ = some (.slice A1_3 l1_3.length c1_3) ∧ w139.cell? ⟨gb590, 4, none⟩ = some (.slice A1_4 l1_4.length c1_4) ∧ w139.cell? ⟨gb590, 5, none⟩ = some (.slice A1_5 l1_5.length c1_5) := hS_
         refine a1s (a' := ?_) ?_ ?_
         rotate_left
         ·simp only [a3n, Act.put, List.setIfInBounds_toArray, List.set_cons_zero, List.set_cons_succ]
          rfl
         refine one_ (i := 4) (N := none) #[o_,o_,o_,o_,o_,i_] rfl rfl (by kernel_rfl) (by decide) (fun K hK => ?_)
         have hs140 : w139.cell? ⟨gb600, 0, none⟩ = some (.int .i64 0) := (bc_ BK600.out 0).trans rfl
         have hfs140 := bf_ BK600.out 0
         have hns140_0 := NB589_600.out
         have hns140_1 := NB590_600.out
         have hns140_2 := NB595_600.out
         have hns140_4 := NB601_600.out
         have hms140_0 := NB600_589.out
         have hms140_1 := NB600_590.out
         have hms140_2 := NB600_595.out
         have hms140_4 := NB600_601.out
         have hs141 : w139.cell? ⟨gb600, 1, none⟩ = some (.int .i64 0) := (bc_ BK600.out 1).trans rfl
         have hfs141 := bf_ BK600.out 1
         have hs142 : w139.cell? ⟨gb600, 2, none⟩ = some (.int .i64 0) := (bc_ BK600.out 2).trans rfl
         have hfs142 := bf_ BK600.out 2
         have hs143 : w139.cell? ⟨gb600, 3, none⟩ = some (.slice none 0 0) := (bc_ BK600.out 3).trans rfl
         have hfs143 := bf_ BK600.out 3
         have hs144 : w139.cell? ⟨gb600, 4, none⟩ = some (.slice none 0 0) := (bc_ BK600.out 4).trans rfl
         have hfs144 := bf_ BK600.out 4
         have hs145 : w139.cell? ⟨gb600, 5, none⟩ = some (.slice none 0 0) := (bc_ BK600.out 5).trans rfl
         have hfs145 := bf_ BK600.out 5
         refine a2u (w1 := ?_) (by rfl) rfl ?_ ?_
         rotate_left
         ·go_simp
          rfl
         refine hK.out _ _ (qcf_ ⟨NB590_600.out, hHeld⟩) (fun hHeld => ?_)
         clear hK K
         clear hs140 hfs140 hs141 hfs141 hs142 hfs142 hs143 hfs143 hs144 hfs144 hs145 hfs145
         refine one_ (i := 5) (N := none) #[o_,o_,o_,o_,o_,o_] rfl rfl (by kernel_rfl) (by decide) (fun K hK => ?_)
         have hs146 : w139.cell? ⟨gb601, 0, none⟩ = some (.int .i64 0) := (bc_ BK601.out 0).trans rfl
         have hfs146 := bf_ BK601.out 0
         have hns146_0 := NB589_601.out
         have hns146_1 := NB590_601.out
         have hns146_2 := NB595_601.out
         have hms146_0 := NB601_589.out
         have hms146_1 := NB601_590.out
         have hms146_2 := NB601_595.out
         have hs147 : w139.cell? ⟨gb601, 1, none⟩ = some (.int .i64 0) := (bc_ BK601.out 1).trans rfl
         have hfs147 := bf_ BK601.out 1
         have hs148 : w139.cell? ⟨gb601, 2, none⟩ = some (.int .i64 0) := (bc_ BK601.out 2).trans rfl
         have hfs148 := bf_ BK601.out 2
         have hs149 : w139.cell? ⟨gb601, 3, none⟩ = some (.slice none 0 0) := (bc_ BK601.out 3).trans rfl
         have hfs149 := bf_ BK601.out 3
         have hs150 : w139.cell? ⟨gb601, 4, none⟩ = some (.slice none 0 0) := (bc_ BK601.out 4).trans rfl
         have hfs150 := bf_ BK601.out 4
         have hs151 : w139.cell? ⟨gb601, 5, none⟩ = some (.slice none 0 0) := (bc_ BK601.out 5).trans rfl
         have hfs151 := bf_ BK601.out 5
         refine a2u (w1 := ?_) (by rfl) rfl ?_ ?_
         rotate_left
         ·go_simp
          rfl
         refine hK.out _ _ (qcf_ ⟨NB590_601.out, hHeld⟩) (fun hHeld => ?_)
         clear hK K
         clear hs146 hfs146 hs147 hfs147 hs148 hfs148 hs149 hfs149 hs150 hfs150 hs151 hfs151
         refine a3z (by kernel_rfl) ?_
         try go_wp2
         obtain ⟨w152, hW_⟩ : ∃ w_, ((((((((((((w139.setCell ⟨gb600, 0, none⟩ (.int .i64 a1_0)).setCell ⟨gb600, 1, none⟩ (.int .i64 a1_1)).setCell ⟨gb600, 2, none⟩ (.int .i64 a1_2)).setCell ⟨gb600, 3, none⟩ (.slice A1_3 l1_3.length c1_3)).setCell ⟨gb600, 4, none⟩ (.slice A1_4 l1_4.length c1_4)).setCell ⟨gb600, 5, none⟩ (.slice A1_5 l1_5.length c1_5)).setCell ⟨gb601, 0, none⟩ (.int .i64 a1_0)).setCell ⟨gb601, 1, none⟩ (.int .i64 a1_1)).setCell ⟨gb601, 2, none⟩ (.int .i64 a1_2)).setCell ⟨gb601, 3, none⟩ (.slice A1_3 l1_3.length c1_3)).setCell ⟨gb601, 4, none⟩ (.slice A1_4 l1_4.length c1_4)).setCell ⟨gb601, 5, none⟩ (.slice A1_5 l1_5.length c1_5)) = w_ := ⟨_, rfl⟩
         have n0_ : Aside0 (w152.heap[gb589]? = some (.cells #[.int .i64 a0_0, .int .i64 a0_1, .int .i64 a0_2, .int .i64 a0_3, .bool a0_4] 25 (0, 0))) := ⟨by rw [← hW_]; (iterate 6 (refine qd_ ?_; refine a0e ?_ NB589_601.out _)); (iterate 6 (refine qd_ ?_; refine a0e ?_ NB589_600.out _)); refine qd_ ?_; exact BK589.out⟩
         have n1_ : Aside0 (w152.heap[gb590]? = some (.cells #[.int .i64 a1_0, .int .i64 a1_1, .int .i64 a1_2, .slice A1_3 l1_3.length c1_3, .slice A1_4 l1_4.length c1_4, .slice A1_5 l1_5.length c1_5] 30 (0, 0))) := ⟨by rw [← hW_]; (iterate 6 (refine qd_ ?_; refine a0e ?_ NB590_601.out _)); (iterate 6 (refine qd_ ?_; refine a0e ?_ NB590_600.out _)); refine qd_ ?_; exact BK590.out⟩
         have n2_ : Aside0 (w152.heap[gb595]? = some (.cells #[.int .i64 ji35, .int .i64 a1_1, .int .i64 ji36, .slice A1_3 l1_3.length c1_3, .slice A1_4 l1_4.length c1_4, .slice A1_5 l1_5.length c1_5] 30 (0, 0))) := ⟨by rw [← hW_]; (iterate 6 (refine qd_ ?_; refine a0e ?_ NB595_601.out _)); (iterate 6 (refine qd_ ?_; refine a0e ?_ NB595_600.out _)); refine qd_ ?_; exact BK595.out⟩
         have n3_ : Aside0 (w152.heap[gb600]? = some (.cells #[.int .i64 a1_0, .int .i64 a1_1, .int .i64 a1_2, .slice A1_3 l1_3.length c1_3, .slice A1_4 l1_4.length c1_4, .slice A1_5 l1_5.length c1_5] 30 (0, 0))) := ⟨by rw [← hW_]; (iterate 6 (refine qd_ ?_; refine a0e ?_ NB600_601.out _)); refine qd_ ?_; refine a0c (cs := #[.int .i64 a1_0, .int .i64 a1_1, .int .i64 a1_2, .slice A1_3 l1_3.length c1_3, .slice A1_4 l1_4.length c1_4, .slice none 0 0]) ?_ 5 _ rfl; refine qd_ ?_; refine a0c (cs := #[.int .i64 a1_0, .int .i64 a1_1, .int .i64 a1_2, .slice A1_3 l1_3.length c1_3, .slice none 0 0, .slice none 0 0]) ?_ 4 _ rfl; refine qd_ ?_; refine a0c (cs := #[.int .i64 a1_0, .int .i64 a1_1, .int .i64 a1_2, .slice none 0 0, .slice none 0 0, .slice none 0 0]) ?_ 3 _ rfl; refine qd_ ?_; refine a0c (cs := #[.int .i64 a1_0, .int .i64 a1_1, .int .i64 0, .slice none 0 0, .slice none 0 0, .slice none 0 0]) ?_ 2 _ rfl; refine qd_ ?_; refine a0c (cs := #[.int .i64 a1_0, .int .i64 0, .int .i64 0, .slice none 0 0, .slice none 0 0, .slice none 0 0]) ?_ 1 _ rfl; refine qd_ ?_; refine a0c (cs := #[.int .i64 0, .int .i64 0, .int .i64 0, .slice none 0 0, .slice none 0 0, .slice none 0 0]) ?_ 0 _ rfl; refine qd_ ?_; exact BK600.out⟩
         have n4_ : Aside0 (w152.heap[gb601]? = some (.cells #[.int .i64 a1_0, .int .i64 a1_1, .int .i64 a1_2, .slice A1_3 l1_3.length c1_3, .slice A1_4 l1_4.length c1_4, .slice A1_5 l1_5.length c1_5] 30 (0, 0))) := ⟨by rw [← hW_]; refine qd_ ?_; refine a0c (cs := #[.int .i64 a1_0, .int .i64 a1_1, .int .i64 a1_2, .slice A1_3 l1_3.length c1_3, .slice A1_4 l1_4.length c1_4, .slice none 0 0]) ?_ 5 _ rfl; refine qd_ ?_; refine a0c (cs := #[.int .i64 a1_0, .int .i64 a1_1, .int .i64 a1_2, .slice A1_3 l1_3.length c1_3, .slice none 0 0, .slice none 0 0]) ?_ 4 _ rfl; refine qd_ ?_; refine a0c (cs := #[.int .i64 a1_0, .int .i64 a1_1, .int .i64 a1_2, .slice none 0 0, .slice none 0 0, .slice none 0 0]) ?_ 3 _ rfl; refine qd_ ?_; refine a0c (cs := #[.int .i64 a1_0, .int .i64 a1_1, .int .i64 0, .slice none 0 0, .slice none 0 0, .slice none 0 0]) ?_ 2 _ rfl; refine qd_ ?_; refine a0c (cs := #[.int .i64 a1_0, .int .i64 0, .int .i64 0, .slice none 0 0, .slice none 0 0, .slice none 0 0]) ?_ 1 _ rfl; refine qd_ ?_; refine a0c (cs := #[.int .i64 0, .int .i64 0, .int .i64 0, .slice none 0 0, .slice none 0 0, .slice none 0 0]) ?_ 0 _ rfl; (iterate 6 (refine qd_ ?_; refine a0e ?_ NB601_600.out _)); refine qd_ ?_; exact BK601.out⟩
         have n5_ : Aside0 (Below w.heap.size w w152) := ⟨by rw [← hW_]; exact qb_⟩
         (try clear BK589)
         (try clear BK590)
         (try clear BK595)
         (try clear BK600)
         (try clear BK601)
         (try clear HB)
         rw [hW_]
         clear hW_
         have BK589 := n0_
         have BK590 := n1_
         have BK595 := n2_
         have BK600 := n3_
         have BK601 := n4_
         have HB := n5_
         clear n0_ n1_ n2_ n3_ n4_ n5_
         replace BK589 := am_ (bd_ BK589.out)
         replace BK590 := am_ (bd_ BK590.out)
         replace BK595 := am_ (bd_ BK595.out)
         replace BK600 := am_ (bd_ BK600.out)
         replace BK601 := am_ (bd_ BK601.out)
         replace HB := am_ (ld_ HB.out)
         refine a3l (n := 9) (S := fun w' => w'.cell? ⟨gb590, 0, none⟩ = some (.int .i64 a1_0) ∧ w'.cell? ⟨gb590, 1, none⟩ = some (.int .i64 a1_1) ∧ w'.cell? ⟨gb590, 2, none⟩ = some (.int .i64 a1_2) ∧ w'.cell? ⟨gb590, 3, none⟩ = some (.slice A1_3 l1_3.length c1_3) ∧ w'.cell? ⟨gb590, 4, none⟩ = some (.slice A1_4 l1_4.length c1_4) ∧ w'.cell? ⟨gb590, 5, none⟩ = some (.slice A1_5 l1_5.length c1_5)) (ds := []) #[i_,i_,i_,i_,i_,i_,i_,i_,i_] (by kernel_rfl) rfl rfl ⟨(bc_ BK590.out 0).trans rfl, (bc_ BK590.out 1).trans rfl, (bc_ BK590.out 2).trans rfl, (bc_ BK590.out 3).trans rfl, (bc_ BK590.out 4).trans rfl, (bc_ BK590.out 5).trans rfl⟩ (fun hHeld => ?_); refine a3f a0b.a7a a0b.a6d (fun HT_ HW_ => ?_)
         generalize w152.drew = w153 at BK589 BK590 BK595 BK600 BK601 HB hHeld ⊢
         refine qpu_ 0 (some 92) #[o_,i_,i_,i_,i_,i_,i_,i_,i_] ?_
         refine qpu_ 3 (some 95) #[o_,i_,i_,o_,i_,i_,i_,i_,i_] ?_
         refine a2o (i := 1) (N := some 93) (v := ?_) (a' := ?_) #[o_,o_,i_,o_,i_,i_,i_,i_,i_] rfl rfl (a2s HT_.out HW_.out (by kernel_rfl)) (fun _ _ _ h => h) (Or.inl ⟨by rfl, ?_⟩) hHeld ?_ ?_
         rotate_left
         ·rintro w' ⟨s0, s1, s2, s3, s4, s5⟩
          go_simp
          with_reducible rfl
         rotate_left
         ·exact qp_
         refine qpu_ 2 (some 94) #[o_,o_,o_,o_,i_,i_,i_,i_,i_] ?_
         refine one_ (i := 4) (N := none) #[o_,o_,o_,o_,o_,i_,i_,i_,i_] rfl rfl (a1z HT_.out (by kernel_rfl)) (by decide) (fun K hK => ?_)
         have hs154 : w153.cell? ⟨gb600, 1, none⟩ = some (.int .i64 a1_1) := (bc_ BK600.out 1).trans rfl
         have hfs154 := bf_ BK600.out 1
         refine a2u (w1 := ?_) (by rfl) rfl ?_ ?_
         rotate_left
         ·go_simp
          rfl
         refine hK.out _ _ (qcf_ ⟨NB590_600.out, hHeld⟩) (fun hHeld => ?_)
         clear hK K
         clear hs154 hfs154
         refine qpu_ 5 (some 96) #[o_,o_,o_,o_,o_,o_,i_,i_,i_] ?_
         refine one_ (i := 6) (N := none) #[o_,o_,o_,o_,o_,o_,o_,i_,i_] rfl rfl (a1z HT_.out (by kernel_rfl)) (by decide) (fun K hK => ?_)
         have hs155 : w153.cell? ⟨gb601, 1, none⟩ = some (.int .i64 a1_1) := (bc_ BK601.out 1).trans rfl
         have hfs155 := bf_ BK601.out 1
         refine a2u (w1 := ?_) (by rfl) rfl ?_ ?_
         rotate_left
         ·go_simp
          rfl
         refine hK.out _ _ (qcf_ ⟨NB590_601.out, hHeld⟩) (fun hHeld => ?_)
         clear hK K
         clear hs155 hfs155
         refine qpu_ 7 (some 97) #[o_,o_,o_,o_,o_,o_,o_,o_,i_] ?_
         refine one_ (i := 8) (N := none) #[o_,o_,o_,o_,o_,o_,o_,o_,o_] rfl rfl (a1z HT_.out (by kernel_rfl)) (by decide) (fun K hK => ?_)
         have hs156 : w153.cell? ⟨gb601, 0, none⟩ = some (.int .i64 a1_0) := (bc_ BK601.out 0).trans rfl
         have hfs156 := bf_ BK601.out 0
         refine a2u (w1 := ?_) (by rfl) rfl ?_ ?_
         rotate_left
         ·go_simp
          rfl
         refine hK.out _ _ (qcf_ ⟨NB590_601.out, hHeld⟩) (fun hHeld => ?_)
         clear hK K
         clear hs156 hfs156
         refine a3z (a3x HT_.out (by kernel_rfl)) ?_
         have hnb157 := NB589_590.out
         have hnc157 := NB590_589.out
         have hnb158 := NB589_595.out
         have hnc158 := NB595_589.out
         have hnb159 := NB589_600.out
         have hnc159 := NB600_589.out
         have hnb160 := NB589_601.out
         have hnc160 := NB601_589.out
         obtain ⟨z'161_0, z'161_1, z'161_2, z'161_3, z'161_4⟩ := qz5_ BK589; obtain ⟨y'161_0, y'161_1, y'161_2, y'161_3, y'161_4⟩ := qf5_ BK589
         have hnb162 := NB600_590.out
         have hnc162 := NB590_600.out
         have hnb163 := NB600_595.out
         have hnc163 := NB595_600.out
         have hnb164 := NB600_601.out
         have hnc164 := NB601_600.out
         obtain ⟨z'165_0, z'165_1, z'165_2, z'165_3, z'165_4, z'165_5⟩ := qz6_ BK600; obtain ⟨y'165_0, y'165_1, y'165_2, y'165_3, y'165_4, y'165_5⟩ := qf6_ BK600
         try go_wp2_with (first | ((with_reducible refine a0g (f := 27) rfl ?_); refine a0t (some 103) rfl rfl Try.func27 (by kernel_rfl) rfl #[.agg #[.int .i64 a0_0, .int .i64 a0_1, .int .i64 a0_2, .int .i64 a0_3, .bool a0_4], .agg #[.int .i64 a1_0, .int .i64 2, .int .i64 a1_2, .slice A1_3 l1_3.length c1_3, .slice A1_4 l1_4.length c1_4, .slice A1_5 l1_5.length c1_5], .string a2, .slice A3 l3.length c3, .int .i64 1] rfl ql_ ?_; (with_reducible refine (a1p.calls kj38 a0_0 a0_1 a0_2 a0_3 a0_4 a1_0 2 a1_2 _ _ l1_3 _ _ l1_4 _ _ l1_5 a2 _ _ l3 1 t602 t603 _ ?s1 ?s2 ?s3 ?s4 ?s5 ?s6 ?s7 ?s8 A60.out).mono ?_); (case s1 => exact Kd.a0r HR1_3.out qb_); (case s2 => exact HC1_3.out); (case s3 => exact Kd.a0r HR1_4.out qb_); (case s4 => exact HC1_4.out); (case s5 => exact Kd.a0r HR1_5.out qb_); (case s6 => exact HC1_5.out); (case s7 => exact Kd.a0r HR3.out qb_); (case s8 => exact HC3.out); rintro e w166 ⟨rfl, hb⟩; refine ⟨_, rfl, ?_⟩; replace BK589 := am_ (a0v (g := gb589) (o := .cells #[.int .i64 a0_0, .int .i64 a0_1, .int .i64 a0_2, .int .i64 a0_3, .bool a0_4] 25 (0, 0)) (by (iterate 2 (refine qd_ ?_; refine a0e ?_ NB589_601.out _)); refine qd_ ?_; refine a0e ?_ NB589_600.out _; refine qd_ ?_; exact BK589.out) hb); replace BK590 := am_ (a0v (g := gb590) (o := .cells #[.int .i64 a1_0, .int .i64 a1_1, .int .i64 a1_2, .slice A1_3 l1_3.length c1_3, .slice A1_4 l1_4.length c1_4, .slice A1_5 l1_5.length c1_5] 30 (0, 0)) (by (iterate 2 (refine qd_ ?_; refine a0e ?_ NB590_601.out _)); refine qd_ ?_; refine a0e ?_ NB590_600.out _; refine qd_ ?_; exact BK590.out) hb); replace BK595 := am_ (a0v (g := gb595) (o := .cells #[.int .i64 ji35, .int .i64 a1_1, .int .i64 ji36, .slice A1_3 l1_3.length c1_3, .slice A1_4 l1_4.length c1_4, .slice A1_5 l1_5.length c1_5] 30 (0, 0)) (by (iterate 2 (refine qd_ ?_; refine a0e ?_ NB595_601.out _)); refine qd_ ?_; refine a0e ?_ NB595_600.out _; refine qd_ ?_; exact BK595.out) hb); replace BK600 := am_ (a0v (g := gb600) (o := .cells #[.int .i64 a1_0, .int .i64 2, .int .i64 a1_2, .slice A1_3 l1_3.length c1_3, .slice A1_4 l1_4.length c1_4, .slice A1_5 l1_5.length c1_5] 30 (0, 0)) (by (iterate 2 (refine qd_ ?_; refine a0e ?_ NB600_601.out _)); refine qd_ ?_; refine a0c (cs := #[.int .i64 a1_0, .int .i64 a1_1, .int .i64 a1_2, .slice A1_3 l1_3.length c1_3, .slice A1_4 l1_4.length c1_4, .slice A1_5 l1_5.length c1_5]) ?_ 1 _ rfl; refine qd_ ?_; exact BK600.out) hb); replace BK601 := am_ (a0v (g := gb601) (o := .cells #[.int .i64 (wrap64 (a1_0 + 3)), .int .i64 1, .int .i64 a1_2, .slice A1_3 l1_3.length c1_3, .slice A1_4 l1_4.length c1_4, .slice A1_5 l1_5.length c1_5] 30 (0, 0)) (by refine qd_ ?_; refine a0c (cs := #[.int .i64 a1_0, .int .i64 1, .int .i64 a1_2, .slice A1_3 l1_3.length c1_3, .slice A1_4 l1_4.length c1_4, .slice A1_5 l1_5.length c1_5]) ?_ 0 _ rfl; refine qd_ ?_; refine a0c (cs := #[.int .i64 a1_0, .int .i64 a1_1, .int .i64 a1_2, .slice A1_3 l1_3.length c1_3, .slice A1_4 l1_4.length c1_4, .slice A1_5 l1_5.length c1_5]) ?_ 1 _ rfl; refine qd_ ?_; refine a0e ?_ NB601_600.out _; refine qd_ ?_; exact BK601.out) hb); replace HB := qbs_ hb; (try clear hb); (try clear hb2); (try clear hk); (try clear hi); have hnb167 := NB601_590.out; have hnc167 := NB590_601.out; have hnb168 := NB601_595.out; have hnc168 := NB595_601.out; obtain ⟨z'169_0, z'169_1, z'169_2, z'169_3, z'169_4, z'169_5⟩ := qz6_ BK601; obtain ⟨y'169_0, y'169_1, y'169_2, y'169_3, y'169_4, y'169_5⟩ := qf6_ BK601; have hnb170 := NB590_595.out; have hnc170 := NB595_590.out; obtain ⟨z'171_0, z'171_1, z'171_2, z'171_3, z'171_4, z'171_5⟩ := qz6_ BK590; obtain ⟨y'171_0, y'171_1, y'171_2, y'171_3, y'171_4, y'171_5⟩ := qf6_ BK590))
         go_ret
         exact ⟨by first | rfl | (simp [a2g, a2h] <;> rfl) | (simp only [← hji35, ← hji36]; first | rfl | (simp [a2g, a2h] <;> rfl)) | (simp [*, a2g, a2h] <;> rfl), qb_⟩
       ·rw [if_neg c61] at H
        have c61b0 : decide (a1_2 < (wrap64 (a1_0 + 3))) = false := decide_eq_false c61
        clear c61
        replace H := bm_ H
        obtain ⟨⟨t604, t605⟩, A1720, H⟩ := H
        replace H : (if t591 = true then (if t603 = true then (if t605 = true then (some (t602 == t604)) else (some false)) else (some false)) else (some false)) = some r := H
        have A172 := am_ A1720
        clear A1720
        by_cases c173 : t591 = true
        ·subst c173
         have H1 : (if t603 = true then (if t605 = true then (some (t602 == t604)) else (some false)) else (some false)) = some r := by rw [if_pos rfl] at H; exact H
         clear H
         have H := H1
         clear H1
         by_cases c174 : t603 = true
         ·subst c174
          have H1 : (if t605 = true then (some (t602 == t604)) else (some false)) = some r := by rw [if_pos rfl] at H; exact H
          clear H
          have H := H1
          clear H1
          by_cases c175 : t605 = true
          ·subst c175
           have H1 : (some (t602 == t604)) = some r := by rw [if_pos rfl] at H; exact H
           clear H
           have H := H1
           clear H1
           obtain rfl := si_ H
           try go_wp2
           replace BK589 := am_ (bd_ BK589.out)
           replace BK590 := am_ (bd_ BK590.out)
           replace BK595 := am_ (bd_ BK595.out)
           replace HB := am_ (ld_ HB.out)
           refine a3l (n := 6) (S := fun w' => w'.cell? ⟨gb590, 0, none⟩ = some (.int .i64 a1_0) ∧ w'.cell? ⟨gb590, 1, none⟩ = some (.int .i64 a1_1) ∧ w'.cell? ⟨gb590, 2, none⟩ = some (.int .i64 a1_2) ∧ w'.cell? ⟨gb590, 3, none⟩ = some (.slice A1_3 l1_3.length c1_3) ∧ w'.cell? ⟨gb590, 4, none⟩ = some (.slice A1_4 l1_4.length c1_4) ∧ w'.cell? ⟨gb590, 5, none⟩ = some (.slice A1_5 l1_5.length c1_5)) (ds := []) #[i_,i_,i_,i_,i_,i_] (by kernel_rfl) rfl rfl ⟨(bc_ BK590.out 0).trans rfl, (bc_ BK590.out 1).trans rfl, (bc_ BK590.out 2).trans rfl, (bc_ BK590.out 3).trans rfl, (bc_ BK590.out 4).trans rfl, (bc_ BK590.out 5).trans rfl⟩ (fun hHeld => ?_)
           generalize wc.drew = w176 at BK589 BK590 BK595 HB hHeld ⊢
           refine a2o (i := 0) (N := some 90) (v := ?_) (a' := ?_) #[o_,i_,i_,i_,i_,i_] rfl rfl (by kernel_rfl) (fun _ _ _ h => h) (Or.inl ⟨by rfl, ?_⟩) hHeld ?_ ?_
           rotate_left
           ·rintro w' ⟨s0, s1, s2, s3, s4, s5⟩
            go_simp
            with_reducible rfl
           rotate_left
           ·exact qp_
           refine a2o (i := 1) (N := some 91) (v := ?_) (a' := ?_) #[o_,o_,i_,i_,i_,i_] rfl rfl (by kernel_rfl) (fun _ _ _ h => h) (Or.inl ⟨by rfl, ?_⟩) hHeld ?_ ?_
           rotate_left
           ·rintro w' ⟨s0, s1, s2, s3, s4, s5⟩
            go_simp
            with_reducible rfl
           rotate_left
           ·exact qp_
           refine a6w (σ := Nat × Nat) 2 #[o_,o_,o_,o_,i_,i_] (fun s_ => [(19, .pointer (some ⟨s_.1, 0, none⟩)), (20, .pointer (some ⟨s_.2, 0, none⟩))]) (fun s_ w' => (w'.cell? ⟨gb590, 0, none⟩ = some (.int .i64 a1_0) ∧ w'.cell? ⟨gb590, 1, none⟩ = some (.int .i64 a1_1) ∧ w'.cell? ⟨gb590, 2, none⟩ = some (.int .i64 a1_2) ∧ w'.cell? ⟨gb590, 3, none⟩ = some (.slice A1_3 l1_3.length c1_3) ∧ w'.cell? ⟨gb590, 4, none⟩ = some (.slice A1_4 l1_4.length c1_4) ∧ w'.cell? ⟨gb590, 5, none⟩ = some (.slice A1_5 l1_5.length c1_5)) ∧ (w'.heap[gb589]? = some (.cells #[.int .i64 a0_0, .int .i64 a0_1, .int .i64 a0_2, .int .i64 a0_3, .bool a0_4] 25 (0, 0))) ∧ (w'.heap[gb590]? = some (.cells #[.int .i64 a1_0, .int .i64 a1_1, .int .i64 a1_2, .slice A1_3 l1_3.length c1_3, .slice A1_4 l1_4.length c1_4, .slice A1_5 l1_5.length c1_5] 30 (0, 0))) ∧ (w'.heap[gb595]? = some (.cells #[.int .i64 ji35, .int .i64 a1_1, .int .i64 ji36, .slice A1_3 l1_3.length c1_3, .slice A1_4 l1_4.length c1_4, .slice A1_5 l1_5.length c1_5] 30 (0, 0))) ∧ (w'.heap[s_.1]? = some (.cells #[.int .i64 0, .int .i64 0, .int .i64 0, .slice none 0 0, .slice none 0 0, .slice none 0 0] 30 (0, 0))) ∧ (w'.heap[s_.2]? = some (.cells #[.int .i64 0, .int .i64 0, .int .i64 0, .slice none 0 0, .slice none 0 0, .slice none 0 0] 30 (0, 0))) ∧ (w.heap.size ≤ s_.1) ∧ (w.heap.size ≤ s_.1) ∧ (gb589 ≠ s_.1) ∧ (s_.1 ≠ gb589) ∧ (gb590 ≠ s_.1) ∧ (s_.1 ≠ gb590) ∧ (gb595 ≠ s_.1) ∧ (s_.1 ≠ gb595) ∧ (s_.2 ≠ s_.1) ∧ (s_.1 ≠ s_.2) ∧ (w.heap.size ≤ s_.2) ∧ (w.heap.size ≤ s_.2) ∧ (gb589 ≠ s_.2) ∧ (s_.2 ≠ gb589) ∧ (gb590 ≠ s_.2) ∧ (s_.2 ≠ gb590) ∧ (gb595 ≠ s_.2) ∧ (s_.2 ≠ gb595) ∧ (Below w.heap.size w w')) ?_ ?_
           rotate_left
           ·intro hCont
            refine two_ (i := 2) (j := 3) (Ni := some 19) (Nj := some 20) #[o_,o_,o_,i_,i_,i_] #[o_,o_,i_,o_,i_,i_] rfl rfl rfl rfl (by kernel_rfl) (by decide) (by decide) (fun K hK => ?_) (fun K hK => ?_)
            ·skip
             refine a2j ?hg (N := 19) ?hd (cs := #[.int .i64 0, .int .i64 0, .int .i64 0, .slice none 0 0, .slice none 0 0, .slice none 0 0]) (t := 30) ?hr ?_; (case hd => rfl); (case hg => rfl); (case hr => exact qq_)
             intro gb600 hg w177 hbox hb
             have BK600 := am_ (hbox)
             have GW600 := qga_ hg
             have GE600 := qga_ hg
             replace HB := qbs_ hb
             have NB589_600 := am_ ((by rw [hg]; exact Nat.ne_of_lt (a0d (qk_ BK589)) : gb589 ≠ gb600))
             have NB600_589 := am_ ((by rw [hg]; exact Nat.ne_of_gt (a0d (qk_ BK589)) : gb600 ≠ gb589))
             replace BK589 := qkb_ BK589 hb
             have NB590_600 := am_ ((by rw [hg]; exact Nat.ne_of_lt (a0d (qk_ BK590)) : gb590 ≠ gb600))
             have NB600_590 := am_ ((by rw [hg]; exact Nat.ne_of_gt (a0d (qk_ BK590)) : gb600 ≠ gb590))
             replace BK590 := qkb_ BK590 hb
             have NB595_600 := am_ ((by rw [hg]; exact Nat.ne_of_lt (a0d (qk_ BK595)) : gb595 ≠ gb600))
             have NB600_595 := am_ ((by rw [hg]; exact Nat.ne_of_gt (a0d (qk_ BK595)) : gb600 ≠ gb595))
             replace BK595 := qkb_ BK595 hb
             clear hb hbox hg
             refine hK.out _ _ ⟨(bc_ BK590.out 0).trans rfl, (bc_ BK590.out 1).trans rfl, (bc_ BK590.out 2).trans rfl, (bc_ BK590.out 3).trans rfl, (bc_ BK590.out 4).trans rfl, (bc_ BK590.out 5).trans rfl⟩ (fun hHeld => ?_)
             clear hK K
             refine a1s (a' := ?_) ?_ ?_
             rotate_left
             ·show Act.put _ (some 19) _ = _
              exact qp_
             refine one_ (i := 3) (N := some 20) #[o_,o_,o_,o_,i_,i_] rfl rfl (by kernel_rfl) (by decide) (fun K hK => ?_)
             refine a2j ?hg (N := 20) ?hd (cs := #[.int .i64 0, .int .i64 0, .int .i64 0, .slice none 0 0, .slice none 0 0, .slice none 0 0]) (t := 30) ?hr ?_; (case hd => rfl); (case hg => rfl); (case hr => exact qq_)
             intro gb601 hg w178 hbox hb
             have BK601 := am_ (hbox)
             have GW601 := qga_ hg
             have GE601 := qga_ hg
             replace HB := qbs_ hb
             have NB589_601 := am_ ((by rw [hg]; exact Nat.ne_of_lt (a0d (qk_ BK589)) : gb589 ≠ gb601))
             have NB601_589 := am_ ((by rw [hg]; exact Nat.ne_of_gt (a0d (qk_ BK589)) : gb601 ≠ gb589))
             replace BK589 := qkb_ BK589 hb
             have NB590_601 := am_ ((by rw [hg]; exact Nat.ne_of_lt (a0d (qk_ BK590)) : gb590 ≠ gb601))
             have NB601_590 := am_ ((by rw [hg]; exact Nat.ne_of_gt (a0d (qk_ BK590)) : gb601 ≠ gb590))
             replace BK590 := qkb_ BK590 hb
             have NB595_601 := am_ ((by rw [hg]; exact Nat.ne_of_lt (a0d (qk_ BK595)) : gb595 ≠ gb601))
             have NB601_595 := am_ ((by rw [hg]; exact Nat.ne_of_gt (a0d (qk_ BK595)) : gb601 ≠ gb595))
             replace BK595 := qkb_ BK595 hb
             have NB600_601 := am_ ((by rw [hg]; exact Nat.ne_of_lt (a0d (qk_ BK600)) : gb600 ≠ gb601))
             have NB601_600 := am_ ((by rw [hg]; exact Nat.ne_of_gt (a0d (qk_ BK600)) : gb601 ≠ gb600))
             replace BK600 := qkb_ BK600 hb
             clear hb hbox hg
             refine hK.out _ _ ⟨(bc_ BK590.out 0).trans rfl, (bc_ BK590.out 1).trans rfl, (bc_ BK590.out 2).trans rfl, (bc_ BK590.out 3).trans rfl, (bc_ BK590.out 4).trans rfl, (bc_ BK590.out 5).trans rfl⟩ (fun hHeld => ?_)
             clear hK K
             refine a1s (a' := ?_) ?_ ?_
             rotate_left
             ·show Act.put _ (some 20) _ = _
              exact qp_
             exact a1s (by simp only [a3n, Act.put, List.setIfInBounds_toArray, List.set_cons_zero, List.set_cons_succ]) (hCont (gb600, gb601) _ ⟨hHeld, (qk_ BK589), (qk_ BK590), (qk_ BK595), (qk_ BK600), (qk_ BK601), GW600.out, GE600.out, NB589_600.out, NB600_589.out, NB590_600.out, NB600_590.out, NB595_600.out, NB600_595.out, NB601_600.out, NB600_601.out, GW601.out, GE601.out, NB589_601.out, NB601_589.out, NB590_601.out, NB601_590.out, NB595_601.out, NB601_595.out, qb_⟩)
            ·skip
             refine a2j ?hg (N := 20) ?hd (cs := #[.int .i64 0, .int .i64 0, .int .i64 0, .slice none 0 0, .slice none 0 0, .slice none 0 0]) (t := 30) ?hr ?_; (case hd => rfl); (case hg => rfl); (case hr => exact qq_)
             intro gb601 hg w177 hbox hb
             have BK601 := am_ (hbox)
             have GW601 := qga_ hg
             have GE601 := qga_ hg
             replace HB := qbs_ hb
             have NB589_601 := am_ ((by rw [hg]; exact Nat.ne_of_lt (a0d (qk_ BK589)) : gb589 ≠ gb601))
             have NB601_589 := am_ ((by rw [hg]; exact Nat.ne_of_gt (a0d (qk_ BK589)) : gb601 ≠ gb589))
             replace BK589 := qkb_ BK589 hb
             have NB590_601 := am_ ((by rw [hg]; exact Nat.ne_of_lt (a0d (qk_ BK590)) : gb590 ≠ gb601))
             have NB601_590 := am_ ((by rw [hg]; exact Nat.ne_of_gt (a0d (qk_ BK590)) : gb601 ≠ gb590))
             replace BK590 := qkb_ BK590 hb
             have NB595_601 := am_ ((by rw [hg]; exact Nat.ne_of_lt (a0d (qk_ BK595)) : gb595 ≠ gb601))
             have NB601_595 := am_ ((by rw [hg]; exact Nat.ne_of_gt (a0d (qk_ BK595)) : gb601 ≠ gb595))
             replace BK595 := qkb_ BK595 hb
             clear hb hbox hg
             refine hK.out _ _ ⟨(bc_ BK590.out 0).trans rfl, (bc_ BK590.out 1).trans rfl, (bc_ BK590.out 2).trans rfl, (bc_ BK590.out 3).trans rfl, (bc_ BK590.out 4).trans rfl, (bc_ BK590.out 5).trans rfl⟩ (fun hHeld => ?_)
             clear hK K
             refine a1s (a' := ?_) ?_ ?_
             rotate_left
             ·show Act.put _ (some 20) _ = _
              exact qp_
             refine one_ (i := 2) (N := some 19) #[o_,o_,o_,o_,i_,i_] rfl rfl (by kernel_rfl) (by decide) (fun K hK => ?_)
             refine a2j ?hg (N := 19) ?hd (cs := #[.int .i64 0, .int .i64 0, .int .i64 0, .slice none 0 0, .slice none 0 0, .slice none 0 0]) (t := 30) ?hr ?_; (case hd => rfl); (case hg => rfl); (case hr => exact qq_)
             intro gb600 hg w178 hbox hb
             have BK600 := am_ (hbox)
             have GW600 := qga_ hg
             have GE600 := qga_ hg
             replace HB := qbs_ hb
             have NB589_600 := am_ ((by rw [hg]; exact Nat.ne_of_lt (a0d (qk_ BK589)) : gb589 ≠ gb600))
             have NB600_589 := am_ ((by rw [hg]; exact Nat.ne_of_gt (a0d (qk_ BK589)) : gb600 ≠ gb589))
             replace BK589 := qkb_ BK589 hb
             have NB590_600 := am_ ((by rw [hg]; exact Nat.ne_of_lt (a0d (qk_ BK590)) : gb590 ≠ gb600))
             have NB600_590 := am_ ((by rw [hg]; exact Nat.ne_of_gt (a0d (qk_ BK590)) : gb600 ≠ gb590))
             replace BK590 := qkb_ BK590 hb
             have NB595_600 := am_ ((by rw [hg]; exact Nat.ne_of_lt (a0d (qk_ BK595)) : gb595 ≠ gb600))
             have NB600_595 := am_ ((by rw [hg]; exact Nat.ne_of_gt (a0d (qk_ BK595)) : gb600 ≠ gb595))
             replace BK595 := qkb_ BK595 hb
             have NB601_600 := am_ ((by rw [hg]; exact Nat.ne_of_lt (a0d (qk_ BK601)) : gb601 ≠ gb600))
             have NB600_601 := am_ ((by rw [hg]; exact Nat.ne_of_gt (a0d (qk_ BK601)) : gb600 ≠ gb601))
             replace BK601 := qkb_ BK601 hb
             clear hb hbox hg
             refine hK.out _ _ ⟨(bc_ BK590.out 0).trans rfl, (bc_ BK590.out 1).trans rfl, (bc_ BK590.out 2).trans rfl, (bc_ BK590.out 3).trans rfl, (bc_ BK590.out 4).trans rfl, (bc_ BK590.out 5).trans rfl⟩ (fun hHeld => ?_)
             clear hK K
             refine a1s (a' := ?_) ?_ ?_
             rotate_left
             ·show Act.put _ (some 19) _ = _
              exact qp_
             exact a1s (by simp only [a3n, Act.put, List.setIfInBounds_toArray, List.set_cons_zero, List.set_cons_succ]) (hCont (gb600, gb601) _ ⟨hHeld, (qk_ BK589), (qk_ BK590), (qk_ BK595), (qk_ BK600), (qk_ BK601), GW600.out, GE600.out, NB589_600.out, NB600_589.out, NB590_600.out, NB600_590.out, NB595_600.out, NB600_595.out, NB601_600.out, NB600_601.out, GW601.out, GE601.out, NB589_601.out, NB601_589.out, NB590_601.out, NB601_590.out, NB595_601.out, NB601_595.out, qb_⟩)
           rintro ⟨gb600, gb601⟩ w179 ⟨hS_, h0_, h1_, h2_, h3_, h4_, h5_, h6_, h7_, h8_, h9_, h10_, h11_, h12_, h13_, h14_, h15_, h16_, h17_, h18_, h19_, h20_, h21_, h22_, h23_⟩
           replace BK589 : Aside0 (w179.heap[gb589]? = some (.cells #[.int .i64 a0_0, .int .i64 a0_1, .int .i64 a0_2, .int .i64 a0_3, .bool a0_4] 25 (0, 0))) := ⟨h0_⟩
           replace BK590 : Aside0 (w179.heap[gb590]? = some (.cells #[.int .i64 a1_0, .int .i64 a1_1, .int .i64 a1_2, .slice A1_3 l1_3.length c1_3, .slice A1_4 l1_4.length c1_4, .slice A1_5 l1_5.length c1_5] 30 (0, 0))) := ⟨h1_⟩
           replace BK595 : Aside0 (w179.heap[gb595]? = some (.cells #[.int .i64 ji35, .int .i64 a1_1, .int .i64 ji36, .slice A1_3 l1_3.length c1_3, .slice A1_4 l1_4.length c1_4, .slice A1_5 l1_5.length c1_5] 30 (0, 0))) := ⟨h2_⟩
           have BK600 : Aside0 (w179.heap[gb600]? = some (.cells #[.int .i64 0, .int .i64 0, .int .i64 0, .slice none 0 0, .slice none 0 0, .slice none 0 0] 30 (0, 0))) := ⟨h3_⟩
           have BK601 : Aside0 (w179.heap[gb601]? = some (.cells #[.int .i64 0, .int .i64 0, .int .i64 0, .slice none 0 0, .slice none 0 0, .slice none 0 0] 30 (0, 0))) := ⟨h4_⟩
           have GW600 : Aside0 (w.heap.size ≤ gb600) := ⟨h5_⟩
           have GE600 : Aside0 (w.heap.size ≤ gb600) := ⟨h6_⟩
           have NB589_600 : Aside0 (gb589 ≠ gb600) := ⟨h7_⟩
           have NB600_589 : Aside0 (gb600 ≠ gb589) := ⟨h8_⟩
           have NB590_600 : Aside0 (gb590 ≠ gb600) := ⟨h9_⟩
           have NB600_590 : Aside0 (gb600 ≠ gb590) := ⟨h10_⟩
           have NB595_600 : Aside0 (gb595 ≠ gb600) := ⟨h11_⟩
           have NB600_595 : Aside0 (gb600 ≠ gb595) := ⟨h12_⟩
           have NB601_600 : Aside0 (gb601 ≠ gb600) := ⟨h13_⟩
           have NB600_601 : Aside0 (gb600 ≠ gb601) := ⟨h14_⟩
           have GW601 : Aside0 (w.heap.size ≤ gb601) := ⟨h15_⟩
           have GE601 : Aside0 (w.heap.size ≤ gb601) := ⟨h16_⟩
           have NB589_601 : Aside0 (gb589 ≠ gb601) := ⟨h17_⟩
           have NB601_589 : Aside0 (gb601 ≠ gb589) := ⟨h18_⟩
           have NB590_601 : Aside0 (gb590 ≠ gb601) := ⟨h19_⟩
           have NB601_590 : Aside0 (gb601 ≠ gb590) := ⟨h20_⟩
           have NB595_601 : Aside0 (gb595 ≠ gb601) := ⟨h21_⟩
           have NB601_595 : Aside0 (gb601 ≠ gb595) := ⟨h22_⟩
           replace HB : Aside0 (Below w.heap.size w w179) := ⟨h23_⟩
           clear h0_ h1_ h2_ h3_ h4_ h5_ h6_ h7_ h8_ h9_ h10_ h11_ h12_ h13_ h14_ h15_ h16_ h17_ h18_ h19_ h20_ h21_ h22_ h23_
           have hHeld : w179.cell? ⟨gb590, 0, none⟩ = some (.int .i64 a1_0) ∧ w179.cell? ⟨gb590, 1, none⟩ = some (.int .i64 a1_1) ∧ w179.cell? ⟨gb590, 2, none⟩ = some (.int .i64 a1_2) ∧ w179.cell? ⟨gb590, 3, none⟩ = some (.slice A1_3 l1_3.length c1_3) ∧ w179.cell? ⟨gb590, 4, none⟩ = some (.slice A1_4 l1_4.length c1_4) ∧ w179.cell? ⟨gb590, 5, none⟩ = some (.slice A1_5 l1_5.length c1_5) := hS_
           refine a1s (a' := ?_) ?_ ?_
           rotate_left
           ·simp only [a3n, Act.put, List.setIfInBounds_toArray, List.set_cons_zero, List.set_cons_succ]
            rfl
           refine one_ (i := 4) (N := none) #[o_,o_,o_,o_,o_,i_] rfl rfl (by kernel_rfl) (by decide) (fun K hK => ?_)
           have hs180 : w179.cell? ⟨gb600, 0, none⟩ = some (.int .i64 0) := (bc_ BK600.out 0).trans rfl
           have hfs180 := bf_ BK600.out 0
           have hns180_0 := NB589_600.out
           have hns180_1 := NB590_600.out
           have hns180_2 := NB595_600.out
           have hns180_4 := NB601_600.out
           have hms180_0 := NB600_589.out
           have hms180_1 := NB600_590.out
           have hms180_2 := NB600_595.out
           have hms180_4 := NB600_601.out
           have hs181 : w179.cell? ⟨gb600, 1, none⟩ = some (.int .i64 0) := (bc_ BK600.out 1).trans rfl
           have hfs181 := bf_ BK600.out 1
           have hs182 : w179.cell? ⟨gb600, 2, none⟩ = some (.int .i64 0) := (bc_ BK600.out 2).trans rfl
           have hfs182 := bf_ BK600.out 2
           have hs183 : w179.cell? ⟨gb600, 3, none⟩ = some (.slice none 0 0) := (bc_ BK600.out 3).trans rfl
           have hfs183 := bf_ BK600.out 3
           have hs184 : w179.cell? ⟨gb600, 4, none⟩ = some (.slice none 0 0) := (bc_ BK600.out 4).trans rfl
           have hfs184 := bf_ BK600.out 4
           have hs185 : w179.cell? ⟨gb600, 5, none⟩ = some (.slice none 0 0) := (bc_ BK600.out 5).trans rfl
           have hfs185 := bf_ BK600.out 5
           refine a2u (w1 := ?_) (by rfl) rfl ?_ ?_
           rotate_left
           ·go_simp
            rfl
           refine hK.out _ _ (qcf_ ⟨NB590_600.out, hHeld⟩) (fun hHeld => ?_)
           clear hK K
           clear hs180 hfs180 hs181 hfs181 hs182 hfs182 hs183 hfs183 hs184 hfs184 hs185 hfs185
           refine one_ (i := 5) (N := none) #[o_,o_,o_,o_,o_,o_] rfl rfl (by kernel_rfl) (by decide) (fun K hK => ?_)
           have hs186 : w179.cell? ⟨gb601, 0, none⟩ = some (.int .i64 0) := (bc_ BK601.out 0).trans rfl
           have hfs186 := bf_ BK601.out 0
           have hns186_0 := NB589_601.out
           have hns186_1 := NB590_601.out
           have hns186_2 := NB595_601.out
           have hms186_0 := NB601_589.out
           have hms186_1 := NB601_590.out
           have hms186_2 := NB601_595.out
           have hs187 : w179.cell? ⟨gb601, 1, none⟩ = some (.int .i64 0) := (bc_ BK601.out 1).trans rfl
           have hfs187 := bf_ BK601.out 1
           have hs188 : w179.cell? ⟨gb601, 2, none⟩ = some (.int .i64 0) := (bc_ BK601.out 2).trans rfl
           have hfs188 := bf_ BK601.out 2
           have hs189 : w179.cell? ⟨gb601, 3, none⟩ = some (.slice none 0 0) := (bc_ BK601.out 3).trans rfl
           have hfs189 := bf_ BK601.out 3
           have hs190 : w179.cell? ⟨gb601, 4, none⟩ = some (.slice none 0 0) := (bc_ BK601.out 4).trans rfl
           have hfs190 := bf_ BK601.out 4
           have hs191 : w179.cell? ⟨gb601, 5, none⟩ = some (.slice none 0 0) := (bc_ BK601.out 5).trans rfl
           have hfs191 := bf_ BK601.out 5
           refine a2u (w1 := ?_) (by rfl) rfl ?_ ?_
           rotate_left
           ·go_simp
            rfl
           refine hK.out _ _ (qcf_ ⟨NB590_601.out, hHeld⟩) (fun hHeld => ?_)
           clear hK K
           clear hs186 hfs186 hs187 hfs187 hs188 hfs188 hs189 hfs189 hs190 hfs190 hs191 hfs191
           refine a3z (by kernel_rfl) ?_
           try go_wp2
           obtain ⟨w192, hW_⟩ : ∃ w_, ((((((((((((w179.setCell ⟨gb600, 0, none⟩ (.int .i64 a1_0)).setCell ⟨gb600, 1, none⟩ (.int .i64 a1_1)).setCell ⟨gb600, 2, none⟩ (.int .i64 a1_2)).setCell ⟨gb600, 3, none⟩ (.slice A1_3 l1_3.length c1_3)).setCell ⟨gb600, 4, none⟩ (.slice A1_4 l1_4.length c1_4)).setCell ⟨gb600, 5, none⟩ (.slice A1_5 l1_5.length c1_5)).setCell ⟨gb601, 0, none⟩ (.int .i64 a1_0)).setCell ⟨gb601, 1, none⟩ (.int .i64 a1_1)).setCell ⟨gb601, 2, none⟩ (.int .i64 a1_2)).setCell ⟨gb601, 3, none⟩ (.slice A1_3 l1_3.length c1_3)).setCell ⟨gb601, 4, none⟩ (.slice A1_4 l1_4.length c1_4)).setCell ⟨gb601, 5, none⟩ (.slice A1_5 l1_5.length c1_5)) = w_ := ⟨_, rfl⟩
           have n0_ : Aside0 (w192.heap[gb589]? = some (.cells #[.int .i64 a0_0, .int .i64 a0_1, .int .i64 a0_2, .int .i64 a0_3, .bool a0_4] 25 (0, 0))) := ⟨by rw [← hW_]; (iterate 6 (refine qd_ ?_; refine a0e ?_ NB589_601.out _)); (iterate 6 (refine qd_ ?_; refine a0e ?_ NB589_600.out _)); refine qd_ ?_; exact BK589.out⟩
           have n1_ : Aside0 (w192.heap[gb590]? = some (.cells #[.int .i64 a1_0, .int .i64 a1_1, .int .i64 a1_2, .slice A1_3 l1_3.length c1_3, .slice A1_4 l1_4.length c1_4, .slice A1_5 l1_5.length c1_5] 30 (0, 0))) := ⟨by rw [← hW_]; (iterate 6 (refine qd_ ?_; refine a0e ?_ NB590_601.out _)); (iterate 6 (refine qd_ ?_; refine a0e ?_ NB590_600.out _)); refine qd_ ?_; exact BK590.out⟩
           have n2_ : Aside0 (w192.heap[gb595]? = some (.cells #[.int .i64 ji35, .int .i64 a1_1, .int .i64 ji36, .slice A1_3 l1_3.length c1_3, .slice A1_4 l1_4.length c1_4, .slice A1_5 l1_5.length c1_5] 30 (0, 0))) := ⟨by rw [← hW_]; (iterate 6 (refine qd_ ?_; refine a0e ?_ NB595_601.out _)); (iterate 6 (refine qd_ ?_; refine a0e ?_ NB595_600.out _)); refine qd_ ?_; exact BK595.out⟩
           have n3_ : Aside0 (w192.heap[gb600]? = some (.cells #[.int .i64 a1_0, .int .i64 a1_1, .int .i64 a1_2, .slice A1_3 l1_3.length c1_3, .slice A1_4 l1_4.length c1_4, .slice A1_5 l1_5.length c1_5] 30 (0, 0))) := ⟨by rw [← hW_]; (iterate 6 (refine qd_ ?_; refine a0e ?_ NB600_601.out _)); refine qd_ ?_; refine a0c (cs := #[.int .i64 a1_0, .int .i64 a1_1, .int .i64 a1_2, .slice A1_3 l1_3.length c1_3, .slice A1_4 l1_4.length c1_4, .slice none 0 0]) ?_ 5 _ rfl; refine qd_ ?_; refine a0c (cs := #[.int .i64 a1_0, .int .i64 a1_1, .int .i64 a1_2, .slice A1_3 l1_3.length c1_3, .slice none 0 0, .slice none 0 0]) ?_ 4 _ rfl; refine qd_ ?_; refine a0c (cs := #[.int .i64 a1_0, .int .i64 a1_1, .int .i64 a1_2, .slice none 0 0, .slice none 0 0, .slice none 0 0]) ?_ 3 _ rfl; refine qd_ ?_; refine a0c (cs := #[.int .i64 a1_0, .int .i64 a1_1, .int .i64 0, .slice none 0 0, .slice none 0 0, .slice none 0 0]) ?_ 2 _ rfl; refine qd_ ?_; refine a0c (cs := #[.int .i64 a1_0, .int .i64 0, .int .i64 0, .slice none 0 0, .slice none 0 0, .slice none 0 0]) ?_ 1 _ rfl; refine qd_ ?_; refine a0c (cs := #[.int .i64 0, .int .i64 0, .int .i64 0, .slice none 0 0, .slice none 0 0, .slice none 0 0]) ?_ 0 _ rfl; refine qd_ ?_; exact BK600.out⟩
           have n4_ : Aside0 (w192.heap[gb601]? = some (.cells #[.int .i64 a1_0, .int .i64 a1_1, .int .i64 a1_2, .slice A1_3 l1_3.length c1_3, .slice A1_4 l1_4.length c1_4, .slice A1_5 l1_5.length c1_5] 30 (0, 0))) := ⟨by rw [← hW_]; refine qd_ ?_; refine a0c (cs := #[.int .i64 a1_0, .int .i64 a1_1, .int .i64 a1_2, .slice A1_3 l1_3.length c1_3, .slice A1_4 l1_4.length c1_4, .slice none 0 0]) ?_ 5 _ rfl; refine qd_ ?_; refine a0c (cs := #[.int .i64 a1_0, .int .i64 a1_1, .int .i64 a1_2, .slice A1_3 l1_3.length c1_3, .slice none 0 0, .slice none 0 0]) ?_ 4 _ rfl; refine qd_ ?_; refine a0c (cs := #[.int .i64 a1_0, .int .i64 a1_1, .int .i64 a1_2, .slice none 0 0, .slice none 0 0, .slice none 0 0]) ?_ 3 _ rfl; refine qd_ ?_; refine a0c (cs := #[.int .i64 a1_0, .int .i64 a1_1, .int .i64 0, .slice none 0 0, .slice none 0 0, .slice none 0 0]) ?_ 2 _ rfl; refine qd_ ?_; refine a0c (cs := #[.int .i64 a1_0, .int .i64 0, .int .i64 0, .slice none 0 0, .slice none 0 0, .slice none 0 0]) ?_ 1 _ rfl; refine qd_ ?_; refine a0c (cs := #[.int .i64 0, .int .i64 0, .int .i64 0, .slice none 0 0, .slice none 0 0, .slice none 0 0]) ?_ 0 _ rfl; (iterate 6 (refine qd_ ?_; refine a0e ?_ NB601_600.out _)); refine qd_ ?_; exact BK601.out⟩
           have n5_ : Aside0 (Below w.heap.size w w192) := ⟨by rw [← hW_]; exact qb_⟩
           (try clear BK589)
           (try clear BK590)
           (try clear BK595)
           (try clear BK600)
           (try clear BK601)
           (try clear HB)
           rw [hW_]
           clear hW_
           have BK589 := n0_
           have BK590 := n1_
           have BK595 := n2_
           have BK600 := n3_
           have BK601 := n4_
           have HB := n5_
           clear n0_ n1_ n2_ n3_ n4_ n5_
           replace BK589 := am_ (bd_ BK589.out)
           replace BK590 := am_ (bd_ BK590.out)
           replace BK595 := am_ (bd_ BK595.out)
           replace BK600 := am_ (bd_ BK600.out)
           replace BK601 := am_ (bd_ BK601.out)
           replace HB := am_ (ld_ HB.out)
           refine a3l (n := 9) (S := fun w' => w'.cell? ⟨gb590, 0, none⟩ = some (.int .i64 a1_0) ∧ w'.cell? ⟨gb590, 1, none⟩ = some (.int .i64 a1_1) ∧ w'.cell? ⟨gb590, 2, none⟩ = some (.int .i64 a1_2) ∧ w'.cell? ⟨gb590, 3, none⟩ = some (.slice A1_3 l1_3.length c1_3) ∧ w'.cell? ⟨gb590, 4, none⟩ = some (.slice A1_4 l1_4.length c1_4) ∧ w'.cell? ⟨gb590, 5, none⟩ = some (.slice A1_5 l1_5.length c1_5)) (ds := []) #[i_,i_,i_,i_,i_,i_,i_,i_,i_] (by kernel_rfl) rfl rfl ⟨(bc_ BK590.out 0).trans rfl, (bc_ BK590.out 1).trans rfl, (bc_ BK590.out 2).trans rfl, (bc_ BK590.out 3).trans rfl, (bc_ BK590.out 4).trans rfl, (bc_ BK590.out 5).trans rfl⟩ (fun hHeld => ?_); refine a3f a0b.a7a a0b.a6d (fun HT_ HW_ => ?_)
           generalize w192.drew = w193 at BK589 BK590 BK595 BK600 BK601 HB hHeld ⊢
           refine qpu_ 0 (some 92) #[o_,i_,i_,i_,i_,i_,i_,i_,i_] ?_
           refine qpu_ 3 (some 95) #[o_,i_,i_,o_,i_,i_,i_,i_,i_] ?_
           refine a2o (i := 1) (N := some 93) (v := ?_) (a' := ?_) #[o_,o_,i_,o_,i_,i_,i_,i_,i_] rfl rfl (a2s HT_.out HW_.out (by kernel_rfl)) (fun _ _ _ h => h) (Or.inl ⟨by rfl, ?_⟩) hHeld ?_ ?_
           rotate_left
           ·rintro w' ⟨s0, s1, s2, s3, s4, s5⟩
            go_simp
            with_reducible rfl
           rotate_left
           ·exact qp_
           refine qpu_ 2 (some 94) #[o_,o_,o_,o_,i_,i_,i_,i_,i_] ?_
           refine one_ (i := 4) (N := none) #[o_,o_,o_,o_,o_,i_,i_,i_,i_] rfl rfl (a1z HT_.out (by kernel_rfl)) (by decide) (fun K hK => ?_)
           have hs194 : w193.cell? ⟨gb600, 1, none⟩ = some (.int .i64 a1_1) := (bc_ BK600.out 1).trans rfl
           have hfs194 := bf_ BK600.out 1
           refine a2u (w1 := ?_) (by rfl) rfl ?_ ?_
           rotate_left
           ·go_simp
            rfl
           refine hK.out _ _ (qcf_ ⟨NB590_600.out, hHeld⟩) (fun hHeld => ?_)
           clear hK K
           clear hs194 hfs194
           refine qpu_ 5 (some 96) #[o_,o_,o_,o_,o_,o_,i_,i_,i_] ?_
           refine one_ (i := 6) (N := none) #[o_,o_,o_,o_,o_,o_,o_,i_,i_] rfl rfl (a1z HT_.out (by kernel_rfl)) (by decide) (fun K hK => ?_)
           have hs195 : w193.cell? ⟨gb601, 1, none⟩ = some (.int .i64 a1_1) := (bc_ BK601.out 1).trans rfl
           have hfs195 := bf_ BK601.out 1
           refine a2u (w1 := ?_) (by rfl) rfl ?_ ?_
           rotate_left
           ·go_simp
            rfl
           refine hK.out _ _ (qcf_ ⟨NB590_601.out, hHeld⟩) (fun hHeld => ?_)
           clear hK K
           clear hs195 hfs195
           refine qpu_ 7 (some 97) #[o_,o_,o_,o_,o_,o_,o_,o_,i_] ?_
           refine one_ (i := 8) (N := none) #[o_,o_,o_,o_,o_,o_,o_,o_,o_] rfl rfl (a1z HT_.out (by kernel_rfl)) (by decide) (fun K hK => ?_)
           have hs196 : w193.cell? ⟨gb601, 0, none⟩ = some (.int .i64 a1_0) := (bc_ BK601.out 0).trans rfl
           have hfs196 := bf_ BK601.out 0
           refine a2u (w1 := ?_) (by rfl) rfl ?_ ?_
           rotate_left
           ·go_simp
            rfl
           refine hK.out _ _ (qcf_ ⟨NB590_601.out, hHeld⟩) (fun hHeld => ?_)
           clear hK K
           clear hs196 hfs196
           refine a3z (a3x HT_.out (by kernel_rfl)) ?_
           have hnb197 := NB589_590.out
           have hnc197 := NB590_589.out
           have hnb198 := NB589_595.out
           have hnc198 := NB595_589.out
           have hnb199 := NB589_600.out
           have hnc199 := NB600_589.out
           have hnb200 := NB589_601.out
           have hnc200 := NB601_589.out
           obtain ⟨z'201_0, z'201_1, z'201_2, z'201_3, z'201_4⟩ := qz5_ BK589; obtain ⟨y'201_0, y'201_1, y'201_2, y'201_3, y'201_4⟩ := qf5_ BK589
           have hnb202 := NB600_590.out
           have hnc202 := NB590_600.out
           have hnb203 := NB600_595.out
           have hnc203 := NB595_600.out
           have hnb204 := NB600_601.out
           have hnc204 := NB601_600.out
           obtain ⟨z'205_0, z'205_1, z'205_2, z'205_3, z'205_4, z'205_5⟩ := qz6_ BK600; obtain ⟨y'205_0, y'205_1, y'205_2, y'205_3, y'205_4, y'205_5⟩ := qf6_ BK600
           try go_wp2_with (first | ((with_reducible refine a0g (f := 27) rfl ?_); refine a0t (some 103) rfl rfl Try.func27 (by kernel_rfl) rfl #[.agg #[.int .i64 a0_0, .int .i64 a0_1, .int .i64 a0_2, .int .i64 a0_3, .bool a0_4], .agg #[.int .i64 a1_0, .int .i64 2, .int .i64 a1_2, .slice A1_3 l1_3.length c1_3, .slice A1_4 l1_4.length c1_4, .slice A1_5 l1_5.length c1_5], .string a2, .slice A3 l3.length c3, .int .i64 1] rfl ql_ ?_; (with_reducible refine (a1p.calls kj38 a0_0 a0_1 a0_2 a0_3 a0_4 a1_0 2 a1_2 _ _ l1_3 _ _ l1_4 _ _ l1_5 a2 _ _ l3 1 t602 true _ ?s1 ?s2 ?s3 ?s4 ?s5 ?s6 ?s7 ?s8 A60.out).mono ?_); (case s1 => exact Kd.a0r HR1_3.out qb_); (case s2 => exact HC1_3.out); (case s3 => exact Kd.a0r HR1_4.out qb_); (case s4 => exact HC1_4.out); (case s5 => exact Kd.a0r HR1_5.out qb_); (case s6 => exact HC1_5.out); (case s7 => exact Kd.a0r HR3.out qb_); (case s8 => exact HC3.out); rintro e w206 ⟨rfl, hb⟩; refine ⟨_, rfl, ?_⟩; replace BK589 := am_ (a0v (g := gb589) (o := .cells #[.int .i64 a0_0, .int .i64 a0_1, .int .i64 a0_2, .int .i64 a0_3, .bool a0_4] 25 (0, 0)) (by (iterate 2 (refine qd_ ?_; refine a0e ?_ NB589_601.out _)); refine qd_ ?_; refine a0e ?_ NB589_600.out _; refine qd_ ?_; exact BK589.out) hb); replace BK590 := am_ (a0v (g := gb590) (o := .cells #[.int .i64 a1_0, .int .i64 a1_1, .int .i64 a1_2, .slice A1_3 l1_3.length c1_3, .slice A1_4 l1_4.length c1_4, .slice A1_5 l1_5.length c1_5] 30 (0, 0)) (by (iterate 2 (refine qd_ ?_; refine a0e ?_ NB590_601.out _)); refine qd_ ?_; refine a0e ?_ NB590_600.out _; refine qd_ ?_; exact BK590.out) hb); replace BK595 := am_ (a0v (g := gb595) (o := .cells #[.int .i64 ji35, .int .i64 a1_1, .int .i64 ji36, .slice A1_3 l1_3.length c1_3, .slice A1_4 l1_4.length c1_4, .slice A1_5 l1_5.length c1_5] 30 (0, 0)) (by (iterate 2 (refine qd_ ?_; refine a0e ?_ NB595_601.out _)); refine qd_ ?_; refine a0e ?_ NB595_600.out _; refine qd_ ?_; exact BK595.out) hb); replace BK600 := am_ (a0v (g := gb600) (o := .cells #[.int .i64 a1_0, .int .i64 2, .int .i64 a1_2, .slice A1_3 l1_3.length c1_3, .slice A1_4 l1_4.length c1_4, .slice A1_5 l1_5.length c1_5] 30 (0, 0)) (by (iterate 2 (refine qd_ ?_; refine a0e ?_ NB600_601.out _)); refine qd_ ?_; refine a0c (cs := #[.int .i64 a1_0, .int .i64 a1_1, .int .i64 a1_2, .slice A1_3 l1_3.length c1_3, .slice A1_4 l1_4.length c1_4, .slice A1_5 l1_5.length c1_5]) ?_ 1 _ rfl; refine qd_ ?_; exact BK600.out) hb); replace BK601 := am_ (a0v (g := gb601) (o := .cells #[.int .i64 (wrap64 (a1_0 + 3)), .int .i64 1, .int .i64 a1_2, .slice A1_3 l1_3.length c1_3, .slice A1_4 l1_4.length c1_4, .slice A1_5 l1_5.length c1_5] 30 (0, 0)) (by refine qd_ ?_; refine a0c (cs := #[.int .i64 a1_0, .int .i64 1, .int .i64 a1_2, .slice A1_3 l1_3.length c1_3, .slice A1_4 l1_4.length c1_4, .slice A1_5 l1_5.length c1_5]) ?_ 0 _ rfl; refine qd_ ?_; refine a0c (cs := #[.int .i64 a1_0, .int .i64 a1_1, .int .i64 a1_2, .slice A1_3 l1_3.length c1_3, .slice A1_4 l1_4.length c1_4, .slice A1_5 l1_5.length c1_5]) ?_ 1 _ rfl; refine qd_ ?_; refine a0e ?_ NB601_600.out _; refine qd_ ?_; exact BK601.out) hb); replace HB := qbs_ hb; (try clear hb); (try clear hb2); (try clear hk); (try clear hi); have hnb207 := NB601_590.out; have hnc207 := NB590_601.out; have hnb208 := NB601_595.out; have hnc208 := NB595_601.out; obtain ⟨z'209_0, z'209_1, z'209_2, z'209_3, z'209_4, z'209_5⟩ := qz6_ BK601; obtain ⟨y'209_0, y'209_1, y'209_2, y'209_3, y'209_4, y'209_5⟩ := qf6_ BK601; have hnb210 := NB590_595.out; have hnc210 := NB595_590.out; obtain ⟨z'211_0, z'211_1, z'211_2, z'211_3, z'211_4, z'211_5⟩ := qz6_ BK590; obtain ⟨y'211_0, y'211_1, y'211_2, y'211_3, y'211_4, y'211_5⟩ := qf6_ BK590; obtain ⟨z'212_0, z'212_1, z'212_2, z'212_3, z'212_4⟩ := qz5_ BK589; obtain ⟨y'212_0, y'212_1, y'212_2, y'212_3, y'212_4⟩ := qf5_ BK589) | ((with_reducible refine a0g (f := 27) rfl ?_); refine a0t (some 123) rfl rfl Try.func27 (by kernel_rfl) rfl #[.agg #[.int .i64 a0_0, .int .i64 a0_1, .int .i64 a0_2, .int .i64 a0_3, .bool a0_4], .agg #[.int .i64 (wrap64 (a1_0 + 3)), .int .i64 1, .int .i64 a1_2, .slice A1_3 l1_3.length c1_3, .slice A1_4 l1_4.length c1_4, .slice A1_5 l1_5.length c1_5], .string a2, .slice A3 l3.length c3, .int .i64 1] rfl ql_ ?_; (with_reducible refine (a1p.calls kj38 a0_0 a0_1 a0_2 a0_3 a0_4 (wrap64 (a1_0 + 3)) 1 a1_2 _ _ l1_3 _ _ l1_4 _ _ l1_5 a2 _ _ l3 1 t604 true _ ?s1 ?s2 ?s3 ?s4 ?s5 ?s6 ?s7 ?s8 A172.out).mono ?_); (case s1 => exact qc_ HR1_3); (case s2 => exact HC1_3.out); (case s3 => exact qc_ HR1_4); (case s4 => exact HC1_4.out); (case s5 => exact qc_ HR1_5); (case s6 => exact HC1_5.out); (case s7 => exact qc_ HR3); (case s8 => exact HC3.out); rintro e w213 ⟨rfl, hb⟩; refine ⟨_, rfl, ?_⟩; replace BK589 := qkb_ BK589 hb; replace BK590 := qkb_ BK590 hb; replace BK595 := qkb_ BK595 hb; replace BK600 := qkb_ BK600 hb; replace BK601 := qkb_ BK601 hb; replace HB := qbs_ hb; (try clear hb); (try clear hb2); (try clear hk); (try clear hi)))
           go_ret
           exact ⟨by first | rfl | (simp [a2g, a2h] <;> rfl) | (simp only [← hji35, ← hji36]; first | rfl | (simp [a2g, a2h] <;> rfl)) | (simp [*, a2g, a2h] <;> rfl), qb_⟩
          ·replace c175 := be_ c175
           subst c175
           have H1 : (some false) = some r := by rw [if_neg (show ¬ (false = true) by decide)] at H; exact H
           clear H
           have H := H1
           clear H1
           obtain rfl := si_ H
           try go_wp2
           replace BK589 := am_ (bd_ BK589.out)
           replace BK590 := am_ (bd_ BK590.out)
           replace BK595 := am_ (bd_ BK595.out)
           replace HB := am_ (ld_ HB.out)
           refine a3l (n := 6) (S := fun w' => w'.cell? ⟨gb590, 0, none⟩ = some (.int .i64 a1_0) ∧ w'.cell? ⟨gb590, 1, none⟩ = some (.int .i64 a1_1) ∧ w'.cell? ⟨gb590, 2, none⟩ = some (.int .i64 a1_2) ∧ w'.cell? ⟨gb590, 3, none⟩ = some (.slice A1_3 l1_3.length c1_3) ∧ w'.cell? ⟨gb590, 4, none⟩ = some (.slice A1_4 l1_4.length c1_4) ∧ w'.cell? ⟨gb590, 5, none⟩ = some (.slice A1_5 l1_5.length c1_5)) (ds := []) #[i_,i_,i_,i_,i_,i_] (by kernel_rfl) rfl rfl ⟨(bc_ BK590.out 0).trans rfl, (bc_ BK590.out 1).trans rfl, (bc_ BK590.out 2).trans rfl, (bc_ BK590.out 3).trans rfl, (bc_ BK590.out 4).trans rfl, (bc_ BK590.out 5).trans rfl⟩ (fun hHeld => ?_)
           generalize wc.drew = w214 at BK589 BK590 BK595 HB hHeld ⊢
           refine a2o (i := 0) (N := some 90) (v := ?_) (a' := ?_) #[o_,i_,i_,i_,i_,i_] rfl rfl (by kernel_rfl) (fun _ _ _ h => h) (Or.inl ⟨by rfl, ?_⟩) hHeld ?_ ?_
           rotate_left
           ·rintro w' ⟨s0, s1, s2, s3, s4, s5⟩
            go_simp
            with_reducible rfl
           rotate_left
           ·exact qp_
           refine a2o (i := 1) (N := some 91) (v := ?_) (a' := ?_) #[o_,o_,i_,i_,i_,i_] rfl rfl (by kernel_rfl) (fun _ _ _ h => h) (Or.inl ⟨by rfl, ?_⟩) hHeld ?_ ?_
           rotate_left
           ·rintro w' ⟨s0, s1, s2, s3, s4, s5⟩
            go_simp
            with_reducible rfl
           rotate_left
           ·exact qp_
           refine a6w (σ := Nat × Nat) 2 #[o_,o_,o_,o_,i_,i_] (fun s_ => [(19, .pointer (some ⟨s_.1, 0, none⟩)), (20, .pointer (some ⟨s_.2, 0, none⟩))]) (fun s_ w' => (w'.cell? ⟨gb590, 0, none⟩ = some (.int .i64 a1_0) ∧ w'.cell? ⟨gb590, 1, none⟩ = some (.int .i64 a1_1) ∧ w'.cell? ⟨gb590, 2, none⟩ = some (.int .i64 a1_2) ∧ w'.cell? ⟨gb590, 3, none⟩ = some (.slice A1_3 l1_3.length c1_3) ∧ w'.cell? ⟨gb590, 4, none⟩ = some (.slice A1_4 l1_4.length c1_4) ∧ w'.cell? ⟨gb590, 5, none⟩ = some (.slice A1_5 l1_5.length c1_5)) ∧ (w'.heap[gb589]? = some (.cells #[.int .i64 a0_0, .int .i64 a0_1, .int .i64 a0_2, .int .i64 a0_3, .bool a0_4] 25 (0, 0))) ∧ (w'.heap[gb590]? = some (.cells #[.int .i64 a1_0, .int .i64 a1_1, .int .i64 a1_2, .slice A1_3 l1_3.length c1_3, .slice A1_4 l1_4.length c1_4, .slice A1_5 l1_5.length c1_5] 30 (0, 0))) ∧ (w'.heap[gb595]? = some (.cells #[.int .i64 ji35, .int .i64 a1_1, .int .i64 ji36, .slice A1_3 l1_3.length c1_3, .slice A1_4 l1_4.length c1_4, .slice A1_5 l1_5.length c1_5] 30 (0, 0))) ∧ (w'.heap[s_.1]? = some (.cells #[.int .i64 0, .int .i64 0, .int .i64 0, .slice none 0 0, .slice none 0 0, .slice none 0 0] 30 (0, 0))) ∧ (w'.heap[s_.2]? = some (.cells #[.int .i64 0, .int .i64 0, .int .i64 0, .slice none 0 0, .slice none 0 0, .slice none 0 0] 30 (0, 0))) ∧ (w.heap.size ≤ s_.1) ∧ (w.heap.size ≤ s_.1) ∧ (gb589 ≠ s_.1) ∧ (s_.1 ≠ gb589) ∧ (gb590 ≠ s_.1) ∧ (s_.1 ≠ gb590) ∧ (gb595 ≠ s_.1) ∧ (s_.1 ≠ gb595) ∧ (s_.2 ≠ s_.1) ∧ (s_.1 ≠ s_.2) ∧ (w.heap.size ≤ s_.2) ∧ (w.heap.size ≤ s_.2) ∧ (gb589 ≠ s_.2) ∧ (s_.2 ≠ gb589) ∧ (gb590 ≠ s_.2) ∧ (s_.2 ≠ gb590) ∧ (gb595 ≠ s_.2) ∧ (s_.2 ≠ gb595) ∧ (Below w.heap.size w w')) ?_ ?_
           rotate_left
           ·intro hCont
            refine two_ (i := 2) (j := 3) (Ni := some 19) (Nj := some 20) #[o_,o_,o_,i_,i_,i_] #[o_,o_,i_,o_,i_,i_] rfl rfl rfl rfl (by kernel_rfl) (by decide) (by decide) (fun K hK => ?_) (fun K hK => ?_)
            ·skip
             refine a2j ?hg (N := 19) ?hd (cs := #[.int .i64 0, .int .i64 0, .int .i64 0, .slice none 0 0, .slice none 0 0, .slice none 0 0]) (t := 30) ?hr ?_; (case hd => rfl); (case hg => rfl); (case hr => exact qq_)
             intro gb600 hg w215 hbox hb
             have BK600 := am_ (hbox)
             have GW600 := qga_ hg
             have GE600 := qga_ hg
             replace HB := qbs_ hb
             have NB589_600 := am_ ((by rw [hg]; exact Nat.ne_of_lt (a0d (qk_ BK589)) : gb589 ≠ gb600))
             have NB600_589 := am_ ((by rw [hg]; exact Nat.ne_of_gt (a0d (qk_ BK589)) : gb600 ≠ gb589))
             replace BK589 := qkb_ BK589 hb
             have NB590_600 := am_ ((by rw [hg]; exact Nat.ne_of_lt (a0d (qk_ BK590)) : gb590 ≠ gb600))
             have NB600_590 := am_ ((by rw [hg]; exact Nat.ne_of_gt (a0d (qk_ BK590)) : gb600 ≠ gb590))
             replace BK590 := qkb_ BK590 hb
             have NB595_600 := am_ ((by rw [hg]; exact Nat.ne_of_lt (a0d (qk_ BK595)) : gb595 ≠ gb600))
             have NB600_595 := am_ ((by rw [hg]; exact Nat.ne_of_gt (a0d (qk_ BK595)) : gb600 ≠ gb595))
             replace BK595 := qkb_ BK595 hb
             clear hb hbox hg
             refine hK.out _ _ ⟨(bc_ BK590.out 0).trans rfl, (bc_ BK590.out 1).trans rfl, (bc_ BK590.out 2).trans rfl, (bc_ BK590.out 3).trans rfl, (bc_ BK590.out 4).trans rfl, (bc_ BK590.out 5).trans rfl⟩ (fun hHeld => ?_)
             clear hK K
             refine a1s (a' := ?_) ?_ ?_
             rotate_left
             ·show Act.put _ (some 19) _ = _
              exact qp_
             refine one_ (i := 3) (N := some 20) #[o_,o_,o_,o_,i_,i_] rfl rfl (by kernel_rfl) (by decide) (fun K hK => ?_)
             refine a2j ?hg (N := 20) ?hd (cs := #[.int .i64 0, .int .i64 0, .int .i64 0, .slice none 0 0, .slice none 0 0, .slice none 0 0]) (t := 30) ?hr ?_; (case hd => rfl); (case hg => rfl); (case hr => exact qq_)
             intro gb601 hg w216 hbox hb
             have BK601 := am_ (hbox)
             have GW601 := qga_ hg
             have GE601 := qga_ hg
             replace HB := qbs_ hb
             have NB589_601 := am_ ((by rw [hg]; exact Nat.ne_of_lt (a0d (qk_ BK589)) : gb589 ≠ gb601))
             have NB601_589 := am_ ((by rw [hg]; exact Nat.ne_of_gt (a0d (qk_ BK589)) : gb601 ≠ gb589))
             replace BK589 := qkb_ BK589 hb
             have NB590_601 := am_ ((by rw [hg]; exact Nat.ne_of_lt (a0d (qk_ BK590)) : gb590 ≠ gb601))
             have NB601_590 := am_ ((by rw [hg]; exact Nat.ne_of_gt (a0d (qk_ BK590)) : gb601 ≠ gb590))
             replace BK590 := qkb_ BK590 hb
             have NB595_601 := am_ ((by rw [hg]; exact Nat.ne_of_lt (a0d (qk_ BK595)) : gb595 ≠ gb601))
             have NB601_595 := am_ ((by rw [hg]; exact Nat.ne_of_gt (a0d (qk_ BK595)) : gb601 ≠ gb595))
             replace BK595 := qkb_ BK595 hb
             have NB600_601 := am_ ((by rw [hg]; exact Nat.ne_of_lt (a0d (qk_ BK600)) : gb600 ≠ gb601))
             have NB601_600 := am_ ((by rw [hg]; exact Nat.ne_of_gt (a0d (qk_ BK600)) : gb601 ≠ gb600))
             replace BK600 := qkb_ BK600 hb
             clear hb hbox hg
             refine hK.out _ _ ⟨(bc_ BK590.out 0).trans rfl, (bc_ BK590.out 1).trans rfl, (bc_ BK590.out 2).trans rfl, (bc_ BK590.out 3).trans rfl, (bc_ BK590.out 4).trans rfl, (bc_ BK590.out 5).trans rfl⟩ (fun hHeld => ?_)
             clear hK K
             refine a1s (a' := ?_) ?_ ?_
             rotate_left
             ·show Act.put _ (some 20) _ = _
              exact qp_
             exact a1s (by simp only [a3n, Act.put, List.setIfInBounds_toArray, List.set_cons_zero, List.set_cons_succ]) (hCont (gb600, gb601) _ ⟨hHeld, (qk_ BK589), (qk_ BK590), (qk_ BK595), (qk_ BK600), (qk_ BK601), GW600.out, GE600.out, NB589_600.out, NB600_589.out, NB590_600.out, NB600_590.out, NB595_600.out, NB600_595.out, NB601_600.out, NB600_601.out, GW601.out, GE601.out, NB589_601.out, NB601_589.out, NB590_601.out, NB601_590.out, NB595_601.out, NB601_595.out, qb_⟩)
            ·skip
             refine a2j ?hg (N := 20) ?hd (cs := #[.int .i64 0, .int .i64 0, .int .i64 0, .slice none 0 0, .slice none 0 0, .slice none 0 0]) (t := 30) ?hr ?_; (case hd => rfl); (case hg => rfl); (case hr => exact qq_)
             intro gb601 hg w215 hbox hb
             have BK601 := am_ (hbox)
             have GW601 := qga_ hg
             have GE601 := qga_ hg
             replace HB := qbs_ hb
             have NB589_601 := am_ ((by rw [hg]; exact Nat.ne_of_lt (a0d (qk_ BK589)) : gb589 ≠ gb601))
             have NB601_589 := am_ ((by rw [hg]; exact Nat.ne_of_gt (a0d (qk_ BK589)) : gb601 ≠ gb589))
             replace BK589 := qkb_ BK589 hb
             have NB590_601 := am_ ((by rw [hg]; exact Nat.ne_of_lt (a0d (qk_ BK590)) : gb590 ≠ gb601))
             have NB601_590 := am_ ((by rw [hg]; exact Nat.ne_of_gt (a0d (qk_ BK590)) : gb601 ≠ gb590))
             replace BK590 := qkb_ BK590 hb
             have NB595_601 := am_ ((by rw [hg]; exact Nat.ne_of_lt (a0d (qk_ BK595)) : gb595 ≠ gb601))
             have NB601_595 := am_ ((by rw [hg]; exact Nat.ne_of_gt (a0d (qk_ BK595)) : gb601 ≠ gb595))
             replace BK595 := qkb_ BK595 hb
             clear hb hbox hg
             refine hK.out _ _ ⟨(bc_ BK590.out 0).trans rfl, (bc_ BK590.out 1).trans rfl, (bc_ BK590.out 2).trans rfl, (bc_ BK590.out 3).trans rfl, (bc_ BK590.out 4).trans rfl, (bc_ BK590.out 5).trans rfl⟩ (fun hHeld => ?_)
             clear hK K
             refine a1s (a' := ?_) ?_ ?_
             rotate_left
             ·show Act.put _ (some 20) _ = _
              exact qp_
             refine one_ (i := 2) (N := some 19) #[o_,o_,o_,o_,i_,i_] rfl rfl (by kernel_rfl) (by decide) (fun K hK => ?_)
             refine a2j ?hg (N := 19) ?hd (cs := #[.int .i64 0, .int .i64 0, .int .i64 0, .slice none 0 0, .slice none 0 0, .slice none 0 0]) (t := 30) ?hr ?_; (case hd => rfl); (case hg => rfl); (case hr => exact qq_)
             intro gb600 hg w216 hbox hb
             have BK600 := am_ (hbox)
             have GW600 := qga_ hg
             have GE600 := qga_ hg
             replace HB := qbs_ hb
             have NB589_600 := am_ ((by rw [hg]; exact Nat.ne_of_lt (a0d (qk_ BK589)) : gb589 ≠ gb600))
             have NB600_589 := am_ ((by rw [hg]; exact Nat.ne_of_gt (a0d (qk_ BK589)) : gb600 ≠ gb589))
             replace BK589 := qkb_ BK589 hb
             have NB590_600 := am_ ((by rw [hg]; exact Nat.ne_of_lt (a0d (qk_ BK590)) : gb590 ≠ gb600))
             have NB600_590 := am_ ((by rw [hg]; exact Nat.ne_of_gt (a0d (qk_ BK590)) : gb600 ≠ gb590))
             replace BK590 := qkb_ BK590 hb
             have NB595_600 := am_ ((by rw [hg]; exact Nat.ne_of_lt (a0d (qk_ BK595)) : gb595 ≠ gb600))
             have NB600_595 := am_ ((by rw [hg]; exact Nat.ne_of_gt (a0d (qk_ BK595)) : gb600 ≠ gb595))
             replace BK595 := qkb_ BK595 hb
             have NB601_600 := am_ ((by rw [hg]; exact Nat.ne_of_lt (a0d (qk_ BK601)) : gb601 ≠ gb600))
             have NB600_601 := am_ ((by rw [hg]; exact Nat.ne_of_gt (a0d (qk_ BK601)) : gb600 ≠ gb601))
             replace BK601 := qkb_ BK601 hb
             clear hb hbox hg
             refine hK.out _ _ ⟨(bc_ BK590.out 0).trans rfl, (bc_ BK590.out 1).trans rfl, (bc_ BK590.out 2).trans rfl, (bc_ BK590.out 3).trans rfl, (bc_ BK590.out 4).trans rfl, (bc_ BK590.out 5).trans rfl⟩ (fun hHeld => ?_)
             clear hK K
             refine a1s (a' := ?_) ?_ ?_
             rotate_left
             ·show Act.put _ (some 19) _ = _
              exact qp_
             exact a1s (by simp only [a3n, Act.put, List.setIfInBounds_toArray, List.set_cons_zero, List.set_cons_succ]) (hCont (gb600, gb601) _ ⟨hHeld, (qk_ BK589), (qk_ BK590), (qk_ BK595), (qk_ BK600), (qk_ BK601), GW600.out, GE600.out, NB589_600.out, NB600_589.out, NB590_600.out, NB600_590.out, NB595_600.out, NB600_595.out, NB601_600.out, NB600_601.out, GW601.out, GE601.out, NB589_601.out, NB601_589.out, NB590_601.out, NB601_590.out, NB595_601.out, NB601_595.out, qb_⟩)
           rintro ⟨gb600, gb601⟩ w217 ⟨hS_, h0_, h1_, h2_, h3_, h4_, h5_, h6_, h7_, h8_, h9_, h10_, h11_, h12_, h13_, h14_, h15_, h16_, h17_, h18_, h19_, h20_, h21_, h22_, h23_⟩
           replace BK589 : Aside0 (w217.heap[gb589]? = some (.cells #[.int .i64 a0_0, .int .i64 a0_1, .int .i64 a0_2, .int .i64 a0_3, .bool a0_4] 25 (0, 0))) := ⟨h0_⟩
           replace BK590 : Aside0 (w217.heap[gb590]? = some (.cells #[.int .i64 a1_0, .int .i64 a1_1, .int .i64 a1_2, .slice A1_3 l1_3.length c1_3, .slice A1_4 l1_4.length c1_4, .slice A1_5 l1_5.length c1_5] 30 (0, 0))) := ⟨h1_⟩
           replace BK595 : Aside0 (w217.heap[gb595]? = some (.cells #[.int .i64 ji35, .int .i64 a1_1, .int .i64 ji36, .slice A1_3 l1_3.length c1_3, .slice A1_4 l1_4.length c1_4, .slice A1_5 l1_5.length c1_5] 30 (0, 0))) := ⟨h2_⟩
           have BK600 : Aside0 (w217.heap[gb600]? = some (.cells #[.int .i64 0, .int .i64 0, .int .i64 0, .slice none 0 0, .slice none 0 0, .slice none 0 0] 30 (0, 0))) := ⟨h3_⟩
           have BK601 : Aside0 (w217.heap[gb601]? = some (.cells #[.int .i64 0, .int .i64 0, .int .i64 0, .slice none 0 0, .slice none 0 0, .slice none 0 0] 30 (0, 0))) := ⟨h4_⟩
           have GW600 : Aside0 (w.heap.size ≤ gb600) := ⟨h5_⟩
           have GE600 : Aside0 (w.heap.size ≤ gb600) := ⟨h6_⟩
           have NB589_600 : Aside0 (gb589 ≠ gb600) := ⟨h7_⟩
           have NB600_589 : Aside0 (gb600 ≠ gb589) := ⟨h8_⟩
           have NB590_600 : Aside0 (gb590 ≠ gb600) := ⟨h9_⟩
           have NB600_590 : Aside0 (gb600 ≠ gb590) := ⟨h10_⟩
           have NB595_600 : Aside0 (gb595 ≠ gb600) := ⟨h11_⟩
           have NB600_595 : Aside0 (gb600 ≠ gb595) := ⟨h12_⟩
           have NB601_600 : Aside0 (gb601 ≠ gb600) := ⟨h13_⟩
           have NB600_601 : Aside0 (gb600 ≠ gb601) := ⟨h14_⟩
           have GW601 : Aside0 (w.heap.size ≤ gb601) := ⟨h15_⟩
           have GE601 : Aside0 (w.heap.size ≤ gb601) := ⟨h16_⟩
           have NB589_601 : Aside0 (gb589 ≠ gb601) := ⟨h17_⟩
           have NB601_589 : Aside0 (gb601 ≠ gb589) := ⟨h18_⟩
           have NB590_601 : Aside0 (gb590 ≠ gb601) := ⟨h19_⟩
           have NB601_590 : Aside0 (gb601 ≠ gb590) := ⟨h20_⟩
           have NB595_601 : Aside0 (gb595 ≠ gb601) := ⟨h21_⟩
           have NB601_595 : Aside0 (gb601 ≠ gb595) := ⟨h22_⟩
           replace HB : Aside0 (Below w.heap.size w w217) := ⟨h23_⟩
           clear h0_ h1_ h2_ h3_ h4_ h5_ h6_ h7_ h8_ h9_ h10_ h11_ h12_ h13_ h14_ h15_ h16_ h17_ h18_ h19_ h20_ h21_ h22_ h23_
           have hHeld : w217.cell? ⟨gb590, 0, none⟩ = some (.int .i64 a1_0) ∧ w217.cell? ⟨gb590, 1, none⟩ = some (.int .i64 a1_1) ∧ w217.cell? ⟨gb590, 2, none⟩ = some (.int .i64 a1_2) ∧ w217.cell? ⟨gb590, 3, none⟩ = some (.slice A1_3 l1_3.length c1_3) ∧ w217.cell? ⟨gb590, 4, none⟩ = some (.slice A1_4 l1_4.length c1_4) ∧ w217.cell? ⟨gb590, 5, none⟩ = some (.slice A1_5 l1_5.length c1_5) := hS_
           refine a1s (a' := ?_) ?_ ?_
           rotate_left
           ·simp only [a3n, Act.put, List.setIfInBounds_toArray, List.set_cons_zero, List.set_cons_succ]
            rfl
           refine one_ (i := 4) (N := none) #[o_,o_,o_,o_,o_,i_] rfl rfl (by kernel_rfl) (by decide) (fun K hK => ?_)
           have hs218 : w217.cell? ⟨gb600, 0, none⟩ = some (.int .i64 0) := (bc_ BK600.out 0).trans rfl
           have hfs218 := bf_ BK600.out 0
           have hns218_0 := NB589_600.out
           have hns218_1 := NB590_600.out
           have hns218_2 := NB595_600.out
           have hns218_4 := NB601_600.out
           have hms218_0 := NB600_589.out
           have hms218_1 := NB600_590.out
           have hms218_2 := NB600_595.out
           have hms218_4 := NB600_601.out
           have hs219 : w217.cell? ⟨gb600, 1, none⟩ = some (.int .i64 0) := (bc_ BK600.out 1).trans rfl
           have hfs219 := bf_ BK600.out 1
           have hs220 : w217.cell? ⟨gb600, 2, none⟩ = some (.int .i64 0) := (bc_ BK600.out 2).trans rfl
           have hfs220 := bf_ BK600.out 2
           have hs221 : w217.cell? ⟨gb600, 3, none⟩ = some (.slice none 0 0) := (bc_ BK600.out 3).trans rfl
           have hfs221 := bf_ BK600.out 3
           have hs222 : w217.cell? ⟨gb600, 4, none⟩ = some (.slice none 0 0) := (bc_ BK600.out 4).trans rfl
           have hfs222 := bf_ BK600.out 4
           have hs223 : w217.cell? ⟨gb600, 5, none⟩ = some (.slice none 0 0) := (bc_ BK600.out 5).trans rfl
           have hfs223 := bf_ BK600.out 5
           refine a2u (w1 := ?_) (by rfl) rfl ?_ ?_
           rotate_left
           ·go_simp
            rfl
           refine hK.out _ _ (qcf_ ⟨NB590_600.out, hHeld⟩) (fun hHeld => ?_)
           clear hK K
           clear hs218 hfs218 hs219 hfs219 hs220 hfs220 hs221 hfs221 hs222 hfs222 hs223 hfs223
           refine one_ (i := 5) (N := none) #[o_,o_,o_,o_,o_,o_] rfl rfl (by kernel_rfl) (by decide) (fun K hK => ?_)
           have hs224 : w217.cell? ⟨gb601, 0, none⟩ = some (.int .i64 0) := (bc_ BK601.out 0).trans rfl
           have hfs224 := bf_ BK601.out 0
           have hns224_0 := NB589_601.out
           have hns224_1 := NB590_601.out
           have hns224_2 := NB595_601.out
           have hms224_0 := NB601_589.out
           have hms224_1 := NB601_590.out
           have hms224_2 := NB601_595.out
           have hs225 : w217.cell? ⟨gb601, 1, none⟩ = some (.int .i64 0) := (bc_ BK601.out 1).trans rfl
           have hfs225 := bf_ BK601.out 1
           have hs226 : w217.cell? ⟨gb601, 2, none⟩ = some (.int .i64 0) := (bc_ BK601.out 2).trans rfl
           have hfs226 := bf_ BK601.out 2
           have hs227 : w217.cell? ⟨gb601, 3, none⟩ = some (.slice none 0 0) := (bc_ BK601.out 3).trans rfl
           have hfs227 := bf_ BK601.out 3
           have hs228 : w217.cell? ⟨gb601, 4, none⟩ = some (.slice none 0 0) := (bc_ BK601.out 4).trans rfl
           have hfs228 := bf_ BK601.out 4
           have hs229 : w217.cell? ⟨gb601, 5, none⟩ = some (.slice none 0 0) := (bc_ BK601.out 5).trans rfl
           have hfs229 := bf_ BK601.out 5
           refine a2u (w1 := ?_) (by rfl) rfl ?_ ?_
           rotate_left
           ·go_simp
            rfl
           refine hK.out _ _ (qcf_ ⟨NB590_601.out, hHeld⟩) (fun hHeld => ?_)
           clear hK K
           clear hs224 hfs224 hs225 hfs225 hs226 hfs226 hs227 hfs227 hs228 hfs228 hs229 hfs229
           refine a3z (by kernel_rfl) ?_
           try go_wp2
           obtain ⟨w230, hW_⟩ : ∃ w_, ((((((((((((w217.setCell ⟨gb600, 0, none⟩ (.int .i64 a1_0)).setCell ⟨gb600, 1, none⟩ (.int .i64 a1_1)).setCell ⟨gb600, 2, none⟩ (.int .i64 a1_2)).setCell ⟨gb600, 3, none⟩ (.slice A1_3 l1_3.length c1_3)).setCell ⟨gb600, 4, none⟩ (.slice A1_4 l1_4.length c1_4)).setCell ⟨gb600, 5, none⟩ (.slice A1_5 l1_5.length c1_5)).setCell ⟨gb601, 0, none⟩ (.int .i64 a1_0)).setCell ⟨gb601, 1, none⟩ (.int .i64 a1_1)).setCell ⟨gb601, 2, none⟩ (.int .i64 a1_2)).setCell ⟨gb601, 3, none⟩ (.slice A1_3 l1_3.length c1_3)).setCell ⟨gb601, 4, none⟩ (.slice A1_4 l1_4.length c1_4)).setCell ⟨gb601, 5, none⟩ (.slice A1_5 l1_5.length c1_5)) = w_ := ⟨_, rfl⟩
           have n0_ : Aside0 (w230.heap[gb589]? = some (.cells #[.int .i64 a0_0, .int .i64 a0_1, .int .i64 a0_2, .int .i64 a0_3, .bool a0_4] 25 (0, 0))) := ⟨by rw [← hW_]; (iterate 6 (refine qd_ ?_; refine a0e ?_ NB589_601.out _)); (iterate 6 (refine qd_ ?_; refine a0e ?_ NB589_600.out _)); refine qd_ ?_; exact BK589.out⟩
           have n1_ : Aside0 (w230.heap[gb590]? = some (.cells #[.int .i64 a1_0, .int .i64 a1_1, .int .i64 a1_2, .slice A1_3 l1_3.length c1_3, .slice A1_4 l1_4.length c1_4, .slice A1_5 l1_5.length c1_5] 30 (0, 0))) := ⟨by rw [← hW_]; (iterate 6 (refine qd_ ?_; refine a0e ?_ NB590_601.out _)); (iterate 6 (refine qd_ ?_; refine a0e ?_ NB590_600.out _)); refine qd_ ?_; exact BK590.out⟩
           have n2_ : Aside0 (w230.heap[gb595]? = some (.cells #[.int .i64 ji35, .int .i64 a1_1, .int .i64 ji36, .slice A1_3 l1_3.length c1_3, .slice A1_4 l1_4.length c1_4, .slice A1_5 l1_5.length c1_5] 30 (0, 0))) := ⟨by rw [← hW_]; (iterate 6 (refine qd_ ?_; refine a0e ?_ NB595_601.out _)); (iterate 6 (refine qd_ ?_; refine a0e ?_ NB595_600.out _)); refine qd_ ?_; exact BK595.out⟩
           have n3_ : Aside0 (w230.heap[gb600]? = some (.cells #[.int .i64 a1_0, .int .i64 a1_1, .int .i64 a1_2, .slice A1_3 l1_3.length c1_3, .slice A1_4 l1_4.length c1_4, .slice A1_5 l1_5.length c1_5] 30 (0, 0))) := ⟨by rw [← hW_]; (iterate 6 (refine qd_ ?_; refine a0e ?_ NB600_601.out _)); refine qd_ ?_; refine a0c (cs := #[.int .i64 a1_0, .int .i64 a1_1, .int .i64 a1_2, .slice A1_3 l1_3.length c1_3, .slice A1_4 l1_4.length c1_4, .slice none 0 0]) ?_ 5 _ rfl; refine qd_ ?_; refine a0c (cs := #[.int .i64 a1_0, .int .i64 a1_1, .int .i64 a1_2, .slice A1_3 l1_3.length c1_3, .slice none 0 0, .slice none 0 0]) ?_ 4 _ rfl; refine qd_ ?_; refine a0c (cs := #[.int .i64 a1_0, .int .i64 a1_1, .int .i64 a1_2, .slice none 0 0, .slice none 0 0, .slice none 0 0]) ?_ 3 _ rfl; refine qd_ ?_; refine a0c (cs := #[.int .i64 a1_0, .int .i64 a1_1, .int .i64 0, .slice none 0 0, .slice none 0 0, .slice none 0 0]) ?_ 2 _ rfl; refine qd_ ?_; refine a0c (cs := #[.int .i64 a1_0, .int .i64 0, .int .i64 0, .slice none 0 0, .slice none 0 0, .slice none 0 0]) ?_ 1 _ rfl; refine qd_ ?_; refine a0c (cs := #[.int .i64 0, .int .i64 0, .int .i64 0, .slice none 0 0, .slice none 0 0, .slice none 0 0]) ?_ 0 _ rfl; refine qd_ ?_; exact BK600.out⟩
           have n4_ : Aside0 (w230.heap[gb601]? = some (.cells #[.int .i64 a1_0, .int .i64 a1_1, .int .i64 a1_2, .slice A1_3 l1_3.length c1_3, .slice A1_4 l1_4.length c1_4, .slice A1_5 l1_5.length c1_5] 30 (0, 0))) := ⟨by rw [← hW_]; refine qd_ ?_; refine a0c (cs := #[.int .i64 a1_0, .int .i64 a1_1, .int .i64 a1_2, .slice A1_3 l1_3.length c1_3, .slice A1_4 l1_4.length c1_4, .slice none 0 0]) ?_ 5 _ rfl; refine qd_ ?_; refine a0c (cs := #[.int .i64 a1_0, .int .i64 a1_1, .int .i64 a1_2, .slice A1_3 l1_3.length c1_3, .slice none 0 0, .slice none 0 0]) ?_ 4 _ rfl; refine qd_ ?_; refine a0c (cs := #[.int .i64 a1_0, .int .i64 a1_1, .int .i64 a1_2, .slice none 0 0, .slice none 0 0, .slice none 0 0]) ?_ 3 _ rfl; refine qd_ ?_; refine a0c (cs := #[.int .i64 a1_0, .int .i64 a1_1, .int .i64 0, .slice none 0 0, .slice none 0 0, .slice none 0 0]) ?_ 2 _ rfl; refine qd_ ?_; refine a0c (cs := #[.int .i64 a1_0, .int .i64 0, .int .i64 0, .slice none 0 0, .slice none 0 0, .slice none 0 0]) ?_ 1 _ rfl; refine qd_ ?_; refine a0c (cs := #[.int .i64 0, .int .i64 0, .int .i64 0, .slice none 0 0, .slice none 0 0, .slice none 0 0]) ?_ 0 _ rfl; (iterate 6 (refine qd_ ?_; refine a0e ?_ NB601_600.out _)); refine qd_ ?_; exact BK601.out⟩
           have n5_ : Aside0 (Below w.heap.size w w230) := ⟨by rw [← hW_]; exact qb_⟩
           (try clear BK589)
           (try clear BK590)
           (try clear BK595)
           (try clear BK600)
           (try clear BK601)
           (try clear HB)
           rw [hW_]
           clear hW_
           have BK589 := n0_
           have BK590 := n1_
           have BK595 := n2_
           have BK600 := n3_
           have BK601 := n4_
           have HB := n5_
           clear n0_ n1_ n2_ n3_ n4_ n5_
           replace BK589 := am_ (bd_ BK589.out)
           replace BK590 := am_ (bd_ BK590.out)
           replace BK595 := am_ (bd_ BK595.out)
           replace BK600 := am_ (bd_ BK600.out)
           replace BK601 := am_ (bd_ BK601.out)
           replace HB := am_ (ld_ HB.out)
           refine a3l (n := 9) (S := fun w' => w'.cell? ⟨gb590, 0, none⟩ = some (.int .i64 a1_0) ∧ w'.cell? ⟨gb590, 1, none⟩ = some (.int .i64 a1_1) ∧ w'.cell? ⟨gb590, 2, none⟩ = some (.int .i64 a1_2) ∧ w'.cell? ⟨gb590, 3, none⟩ = some (.slice A1_3 l1_3.length c1_3) ∧ w'.cell? ⟨gb590, 4, none⟩ = some (.slice A1_4 l1_4.length c1_4) ∧ w'.cell? ⟨gb590, 5, none⟩ = some (.slice A1_5 l1_5.length c1_5)) (ds := []) #[i_,i_,i_,i_,i_,i_,i_,i_,i_] (by kernel_rfl) rfl rfl ⟨(bc_ BK590.out 0).trans rfl, (bc_ BK590.out 1).trans rfl, (bc_ BK590.out 2).trans rfl, (bc_ BK590.out 3).trans rfl, (bc_ BK590.out 4).trans rfl, (bc_ BK590.out 5).trans rfl⟩ (fun hHeld => ?_); refine a3f a0b.a7a a0b.a6d (fun HT_ HW_ => ?_)
           generalize w230.drew = w231 at BK589 BK590 BK595 BK600 BK601 HB hHeld ⊢
           refine qpu_ 0 (some 92) #[o_,i_,i_,i_,i_,i_,i_,i_,i_] ?_
           refine qpu_ 3 (some 95) #[o_,i_,i_,o_,i_,i_,i_,i_,i_] ?_
           refine a2o (i := 1) (N := some 93) (v := ?_) (a' := ?_) #[o_,o_,i_,o_,i_,i_,i_,i_,i_] rfl rfl (a2s HT_.out HW_.out (by kernel_rfl)) (fun _ _ _ h => h) (Or.inl ⟨by rfl, ?_⟩) hHeld ?_ ?_
           rotate_left
           ·rintro w' ⟨s0, s1, s2, s3, s4, s5⟩
            go_simp
            with_reducible rfl
           rotate_left
           ·exact qp_
           refine qpu_ 2 (some 94) #[o_,o_,o_,o_,i_,i_,i_,i_,i_] ?_
           refine one_ (i := 4) (N := none) #[o_,o_,o_,o_,o_,i_,i_,i_,i_] rfl rfl (a1z HT_.out (by kernel_rfl)) (by decide) (fun K hK => ?_)
           have hs232 : w231.cell? ⟨gb600, 1, none⟩ = some (.int .i64 a1_1) := (bc_ BK600.out 1).trans rfl
           have hfs232 := bf_ BK600.out 1
           refine a2u (w1 := ?_) (by rfl) rfl ?_ ?_
           rotate_left
           ·go_simp
            rfl
           refine hK.out _ _ (qcf_ ⟨NB590_600.out, hHeld⟩) (fun hHeld => ?_)
           clear hK K
           clear hs232 hfs232
           refine qpu_ 5 (some 96) #[o_,o_,o_,o_,o_,o_,i_,i_,i_] ?_
           refine one_ (i := 6) (N := none) #[o_,o_,o_,o_,o_,o_,o_,i_,i_] rfl rfl (a1z HT_.out (by kernel_rfl)) (by decide) (fun K hK => ?_)
           have hs233 : w231.cell? ⟨gb601, 1, none⟩ = some (.int .i64 a1_1) := (bc_ BK601.out 1).trans rfl
           have hfs233 := bf_ BK601.out 1
           refine a2u (w1 := ?_) (by rfl) rfl ?_ ?_
           rotate_left
           ·go_simp
            rfl
           refine hK.out _ _ (qcf_ ⟨NB590_601.out, hHeld⟩) (fun hHeld => ?_)
           clear hK K
           clear hs233 hfs233
           refine qpu_ 7 (some 97) #[o_,o_,o_,o_,o_,o_,o_,o_,i_] ?_
           refine one_ (i := 8) (N := none) #[o_,o_,o_,o_,o_,o_,o_,o_,o_] rfl rfl (a1z HT_.out (by kernel_rfl)) (by decide) (fun K hK => ?_)
           have hs234 : w231.cell? ⟨gb601, 0, none⟩ = some (.int .i64 a1_0) := (bc_ BK601.out 0).trans rfl
           have hfs234 := bf_ BK601.out 0
           refine a2u (w1 := ?_) (by rfl) rfl ?_ ?_
           rotate_left
           ·go_simp
            rfl
           refine hK.out _ _ (qcf_ ⟨NB590_601.out, hHeld⟩) (fun hHeld => ?_)
           clear hK K
           clear hs234 hfs234
           refine a3z (a3x HT_.out (by kernel_rfl)) ?_
           have hnb235 := NB589_590.out
           have hnc235 := NB590_589.out
           have hnb236 := NB589_595.out
           have hnc236 := NB595_589.out
           have hnb237 := NB589_600.out
           have hnc237 := NB600_589.out
           have hnb238 := NB589_601.out
           have hnc238 := NB601_589.out
           obtain ⟨z'239_0, z'239_1, z'239_2, z'239_3, z'239_4⟩ := qz5_ BK589; obtain ⟨y'239_0, y'239_1, y'239_2, y'239_3, y'239_4⟩ := qf5_ BK589
           have hnb240 := NB600_590.out
           have hnc240 := NB590_600.out
           have hnb241 := NB600_595.out
           have hnc241 := NB595_600.out
           have hnb242 := NB600_601.out
           have hnc242 := NB601_600.out
           obtain ⟨z'243_0, z'243_1, z'243_2, z'243_3, z'243_4, z'243_5⟩ := qz6_ BK600; obtain ⟨y'243_0, y'243_1, y'243_2, y'243_3, y'243_4, y'243_5⟩ := qf6_ BK600
           try go_wp2_with (first | ((with_reducible refine a0g (f := 27) rfl ?_); refine a0t (some 103) rfl rfl Try.func27 (by kernel_rfl) rfl #[.agg #[.int .i64 a0_0, .int .i64 a0_1, .int .i64 a0_2, .int .i64 a0_3, .bool a0_4], .agg #[.int .i64 a1_0, .int .i64 2, .int .i64 a1_2, .slice A1_3 l1_3.length c1_3, .slice A1_4 l1_4.length c1_4, .slice A1_5 l1_5.length c1_5], .string a2, .slice A3 l3.length c3, .int .i64 1] rfl ql_ ?_; (with_reducible refine (a1p.calls kj38 a0_0 a0_1 a0_2 a0_3 a0_4 a1_0 2 a1_2 _ _ l1_3 _ _ l1_4 _ _ l1_5 a2 _ _ l3 1 t602 true _ ?s1 ?s2 ?s3 ?s4 ?s5 ?s6 ?s7 ?s8 A60.out).mono ?_); (case s1 => exact Kd.a0r HR1_3.out qb_); (case s2 => exact HC1_3.out); (case s3 => exact Kd.a0r HR1_4.out qb_); (case s4 => exact HC1_4.out); (case s5 => exact Kd.a0r HR1_5.out qb_); (case s6 => exact HC1_5.out); (case s7 => exact Kd.a0r HR3.out qb_); (case s8 => exact HC3.out); rintro e w244 ⟨rfl, hb⟩; refine ⟨_, rfl, ?_⟩; replace BK589 := am_ (a0v (g := gb589) (o := .cells #[.int .i64 a0_0, .int .i64 a0_1, .int .i64 a0_2, .int .i64 a0_3, .bool a0_4] 25 (0, 0)) (by (iterate 2 (refine qd_ ?_; refine a0e ?_ NB589_601.out _)); refine qd_ ?_; refine a0e ?_ NB589_600.out _; refine qd_ ?_; exact BK589.out) hb); replace BK590 := am_ (a0v (g := gb590) (o := .cells #[.int .i64 a1_0, .int .i64 a1_1, .int .i64 a1_2, .slice A1_3 l1_3.length c1_3, .slice A1_4 l1_4.length c1_4, .slice A1_5 l1_5.length c1_5] 30 (0, 0)) (by (iterate 2 (refine qd_ ?_; refine a0e ?_ NB590_601.out _)); refine qd_ ?_; refine a0e ?_ NB590_600.out _; refine qd_ ?_; exact BK590.out) hb); replace BK595 := am_ (a0v (g := gb595) (o := .cells #[.int .i64 ji35, .int .i64 a1_1, .int .i64 ji36, .slice A1_3 l1_3.length c1_3, .slice A1_4 l1_4.length c1_4, .slice A1_5 l1_5.length c1_5] 30 (0, 0)) (by (iterate 2 (refine qd_ ?_; refine a0e ?_ NB595_601.out _)); refine qd_ ?_; refine a0e ?_ NB595_600.out _; refine qd_ ?_; exact BK595.out) hb); replace BK600 := am_ (a0v (g := gb600) (o := .cells #[.int .i64 a1_0, .int .i64 2, .int .i64 a1_2, .slice A1_3 l1_3.length c1_3, .slice A1_4 l1_4.length c1_4, .slice A1_5 l1_5.length c1_5] 30 (0, 0)) (by (iterate 2 (refine qd_ ?_; refine a0e ?_ NB600_601.out _)); refine qd_ ?_; refine a0c (cs := #[.int .i64 a1_0, .int .i64 a1_1, .int .i64 a1_2, .slice A1_3 l1_3.length c1_3, .slice A1_4 l1_4.length c1_4, .slice A1_5 l1_5.length c1_5]) ?_ 1 _ rfl; refine qd_ ?_; exact BK600.out) hb); replace BK601 := am_ (a0v (g := gb601) (o := .cells #[.int .i64 (wrap64 (a1_0 + 3)), .int .i64 1, .int .i64 a1_2, .slice A1_3 l1_3.length c1_3, .slice A1_4 l1_4.length c1_4, .slice A1_5 l1_5.length c1_5] 30 (0, 0)) (by refine qd_ ?_; refine a0c (cs := #[.int .i64 a1_0, .int .i64 1, .int .i64 a1_2, .slice A1_3 l1_3.length c1_3, .slice A1_4 l1_4.length c1_4, .slice A1_5 l1_5.length c1_5]) ?_ 0 _ rfl; refine qd_ ?_; refine a0c (cs := #[.int .i64 a1_0, .int .i64 a1_1, .int .i64 a1_2, .slice A1_3 l1_3.length c1_3, .slice A1_4 l1_4.length c1_4, .slice A1_5 l1_5.length c1_5]) ?_ 1 _ rfl; refine qd_ ?_; refine a0e ?_ NB601_600.out _; refine qd_ ?_; exact BK601.out) hb); replace HB := qbs_ hb; (try clear hb); (try clear hb2); (try clear hk); (try clear hi); have hnb245 := NB601_590.out; have hnc245 := NB590_601.out; have hnb246 := NB601_595.out; have hnc246 := NB595_601.out; obtain ⟨z'247_0, z'247_1, z'247_2, z'247_3, z'247_4, z'247_5⟩ := qz6_ BK601; obtain ⟨y'247_0, y'247_1, y'247_2, y'247_3, y'247_4, y'247_5⟩ := qf6_ BK601; have hnb248 := NB590_595.out; have hnc248 := NB595_590.out; obtain ⟨z'249_0, z'249_1, z'249_2, z'249_3, z'249_4, z'249_5⟩ := qz6_ BK590; obtain ⟨y'249_0, y'249_1, y'249_2, y'249_3, y'249_4, y'249_5⟩ := qf6_ BK590; obtain ⟨z'250_0, z'250_1, z'250_2, z'250_3, z'250_4⟩ := qz5_ BK589; obtain ⟨y'250_0, y'250_1, y'250_2, y'250_3, y'250_4⟩ := qf5_ BK589) | ((with_reducible refine a0g (f := 27) rfl ?_); refine a0t (some 123) rfl rfl Try.func27 (by kernel_rfl) rfl #[.agg #[.int .i64 a0_0, .int .i64 a0_1, .int .i64 a0_2, .int .i64 a0_3, .bool a0_4], .agg #[.int .i64 (wrap64 (a1_0 + 3)), .int .i64 1, .int .i64 a1_2, .slice A1_3 l1_3.length c1_3, .slice A1_4 l1_4.length c1_4, .slice A1_5 l1_5.length c1_5], .string a2, .slice A3 l3.length c3, .int .i64 1] rfl ql_ ?_; (with_reducible refine (a1p.calls kj38 a0_0 a0_1 a0_2 a0_3 a0_4 (wrap64 (a1_0 + 3)) 1 a1_2 _ _ l1_3 _ _ l1_4 _ _ l1_5 a2 _ _ l3 1 t604 false _ ?s1 ?s2 ?s3 ?s4 ?s5 ?s6 ?s7 ?s8 A172.out).mono ?_); (case s1 => exact qc_ HR1_3); (case s2 => exact HC1_3.out); (case s3 => exact qc_ HR1_4); (case s4 => exact HC1_4.out); (case s5 => exact qc_ HR1_5); (case s6 => exact HC1_5.out); (case s7 => exact qc_ HR3); (case s8 => exact HC3.out); rintro e w251 ⟨rfl, hb⟩; refine ⟨_, rfl, ?_⟩; replace BK589 := qkb_ BK589 hb; replace BK590 := qkb_ BK590 hb; replace BK595 := qkb_ BK595 hb; replace BK600 := qkb_ BK600 hb; replace BK601 := qkb_ BK601 hb; replace HB := qbs_ hb; (try clear hb); (try clear hb2); (try clear hk); (try clear hi)))
           go_ret
           exact ⟨by first | rfl | (simp [a2g, a2h] <;> rfl) | (simp only [← hji35, ← hji36]; first | rfl | (simp [a2g, a2h] <;> rfl)) | (simp [*, a2g, a2h] <;> rfl), qb_⟩
         ·replace c174 := be_ c174
          subst c174
          have H1 : (some false) = some r := by rw [if_neg (show ¬ (false = true) by decide)] at H; exact H
          clear H
          have H := H1
          clear H1
          obtain rfl := si_ H
          try go_wp2
          replace BK589 := am_ (bd_ BK589.out)
          replace BK590 := am_ (bd_ BK590.out)
          replace BK595 := am_ (bd_ BK595.out)
          replace HB := am_ (ld_ HB.out)
          refine a3l (n := 6) (S := fun w' => w'.cell? ⟨gb590, 0, none⟩ = some (.int .i64 a1_0) ∧ w'.cell? ⟨gb590, 1, none⟩ = some (.int .i64 a1_1) ∧ w'.cell? ⟨gb590, 2, none⟩ = some (.int .i64 a1_2) ∧ w'.cell? ⟨gb590, 3, none⟩ = some (.slice A1_3 l1_3.length c1_3) ∧ w'.cell? ⟨gb590, 4, none⟩ = some (.slice A1_4 l1_4.length c1_4) ∧ w'.cell? ⟨gb590, 5, none⟩ = some (.slice A1_5 l1_5.length c1_5)) (ds := []) #[i_,i_,i_,i_,i_,i_] (by kernel_rfl) rfl rfl ⟨(bc_ BK590.out 0).trans rfl, (bc_ BK590.out 1).trans rfl, (bc_ BK590.out 2).trans rfl, (bc_ BK590.out 3).trans rfl, (bc_ BK590.out 4).trans rfl, (bc_ BK590.out 5).trans rfl⟩ (fun hHeld => ?_)
          generalize wc.drew = w252 at BK589 BK590 BK595 HB hHeld ⊢
          refine a2o (i := 0) (N := some 90) (v := ?_) (a' := ?_) #[o_,i_,i_,i_,i_,i_] rfl rfl (by kernel_rfl) (fun _ _ _ h => h) (Or.inl ⟨by rfl, ?_⟩) hHeld ?_ ?_
          rotate_left
          ·rintro w' ⟨s0, s1, s2, s3, s4, s5⟩
           go_simp
           with_reducible rfl
          rotate_left
          ·exact qp_
          refine a2o (i := 1) (N := some 91) (v := ?_) (a' := ?_) #[o_,o_,i_,i_,i_,i_] rfl rfl (by kernel_rfl) (fun _ _ _ h => h) (Or.inl ⟨by rfl, ?_⟩) hHeld ?_ ?_
          rotate_left
          ·rintro w' ⟨s0, s1, s2, s3, s4, s5⟩
           go_simp
           with_reducible rfl
          rotate_left
          ·exact qp_
          refine a6w (σ := Nat × Nat) 2 #[o_,o_,o_,o_,i_,i_] (fun s_ => [(19, .pointer (some ⟨s_.1, 0, none⟩)), (20, .pointer (some ⟨s_.2, 0, none⟩))]) (fun s_ w' => (w'.cell? ⟨gb590, 0, none⟩ = some (.int .i64 a1_0) ∧ w'.cell? ⟨gb590, 1, none⟩ = some (.int .i64 a1_1) ∧ w'.cell? ⟨gb590, 2, none⟩ = some (.int .i64 a1_2) ∧ w'.cell? ⟨gb590, 3, none⟩ = some (.slice A1_3 l1_3.length c1_3) ∧ w'.cell? ⟨gb590, 4, none⟩ = some (.slice A1_4 l1_4.length c1_4) ∧ w'.cell? ⟨gb590, 5, none⟩ = some (.slice A1_5 l1_5.length c1_5)) ∧ (w'.heap[gb589]? = some (.cells #[.int .i64 a0_0, .int .i64 a0_1, .int .i64 a0_2, .int .i64 a0_3, .bool a0_4] 25 (0, 0))) ∧ (w'.heap[gb590]? = some (.cells #[.int .i64 a1_0, .int .i64 a1_1, .int .i64 a1_2, .slice A1_3 l1_3.length c1_3, .slice A1_4 l1_4.length c1_4, .slice A1_5 l1_5.length c1_5] 30 (0, 0))) ∧ (w'.heap[gb595]? = some (.cells #[.int .i64 ji35, .int .i64 a1_1, .int .i64 ji36, .slice A1_3 l1_3.length c1_3, .slice A1_4 l1_4.length c1_4, .slice A1_5 l1_5.length c1_5] 30 (0, 0))) ∧ (w'.heap[s_.1]? = some (.cells #[.int .i64 0, .int .i64 0, .int .i64 0, .slice none 0 0, .slice none 0 0, .slice none 0 0] 30 (0, 0))) ∧ (w'.heap[s_.2]? = some (.cells #[.int .i64 0, .int .i64 0, .int .i64 0, .slice none 0 0, .slice none 0 0, .slice none 0 0] 30 (0, 0))) ∧ (w.heap.size ≤ s_.1) ∧ (w.heap.size ≤ s_.1) ∧ (gb589 ≠ s_.1) ∧ (s_.1 ≠ gb589) ∧ (gb590 ≠ s_.1) ∧ (s_.1 ≠ gb590) ∧ (gb595 ≠ s_.1) ∧ (s_.1 ≠ gb595) ∧ (s_.2 ≠ s_.1) ∧ (s_.1 ≠ s_.2) ∧ (w.heap.size ≤ s_.2) ∧ (w.heap.size ≤ s_.2) ∧ (gb589 ≠ s_.2) ∧ (s_.2 ≠ gb589) ∧ (gb590 ≠ s_.2) ∧ (s_.2 ≠ gb590) ∧ (gb595 ≠ s_.2) ∧ (s_.2 ≠ gb595) ∧ (Below w.heap.size w w')) ?_ ?_
          rotate_left
          ·intro hCont
           refine two_ (i := 2) (j := 3) (Ni := some 19) (Nj := some 20) #[o_,o_,o_,i_,i_,i_] #[o_,o_,i_,o_,i_,i_] rfl rfl rfl rfl (by kernel_rfl) (by decide) (by decide) (fun K hK => ?_) (fun K hK => ?_)
           ·skip
            refine a2j ?hg (N := 19) ?hd (cs := #[.int .i64 0, .int .i64 0, .int .i64 0, .slice none 0 0, .slice none 0 0, .slice none 0 0]) (t := 30) ?hr ?_; (case hd => rfl); (case hg => rfl); (case hr => exact qq_)
            intro gb600 hg w253 hbox hb
            have BK600 := am_ (hbox)
            have GW600 := qga_ hg
            have GE600 := qga_ hg
            replace HB := qbs_ hb
            have NB589_600 := am_ ((by rw [hg]; exact Nat.ne_of_lt (a0d (qk_ BK589)) : gb589 ≠ gb600))
            have NB600_589 := am_ ((by rw [hg]; exact Nat.ne_of_gt (a0d (qk_ BK589)) : gb600 ≠ gb589))
            replace BK589 := qkb_ BK589 hb
            have NB590_600 := am_ ((by rw [hg]; exact Nat.ne_of_lt (a0d (qk_ BK590)) : gb590 ≠ gb600))
            have NB600_590 := am_ ((by rw [hg]; exact Nat.ne_of_gt (a0d (qk_ BK590)) : gb600 ≠ gb590))
            replace BK590 := qkb_ BK590 hb
            have NB595_600 := am_ ((by rw [hg]; exact Nat.ne_of_lt (a0d (qk_ BK595)) : gb595 ≠ gb600))
            have NB600_595 := am_ ((by rw [hg]; exact Nat.ne_of_gt (a0d (qk_ BK595)) : gb600 ≠ gb595))
            replace BK595 := qkb_ BK595 hb
            clear hb hbox hg
            refine hK.out _ _ ⟨(bc_ BK590.out 0).trans rfl, (bc_ BK590.out 1).trans rfl, (bc_ BK590.out 2).trans rfl, (bc_ BK590.out 3).trans rfl, (bc_ BK590.out 4).trans rfl, (bc_ BK590.out 5).trans rfl⟩ (fun hHeld => ?_)
            clear hK K
            refine a1s (a' := ?_) ?_ ?_
            rotate_left
            ·show Act.put _ (some 19) _ = _
             exact qp_
            refine one_ (i := 3) (N := some 20) #[o_,o_,o_,o_,i_,i_] rfl rfl (by kernel_rfl) (by decide) (fun K hK => ?_)
            refine a2j ?hg (N := 20) ?hd (cs := #[.int .i64 0, .int .i64 0, .int .i64 0, .slice none 0 0, .slice none 0 0, .slice none 0 0]) (t := 30) ?hr ?_; (case hd => rfl); (case hg => rfl); (case hr => exact qq_)
            intro gb601 hg w254 hbox hb
            have BK601 := am_ (hbox)
            have GW601 := qga_ hg
            have GE601 := qga_ hg
            replace HB := qbs_ hb
            have NB589_601 := am_ ((by rw [hg]; exact Nat.ne_of_lt (a0d (qk_ BK589)) : gb589 ≠ gb601))
            have NB601_589 := am_ ((by rw [hg]; exact Nat.ne_of_gt (a0d (qk_ BK589)) : gb601 ≠ gb589))
            replace BK589 := qkb_ BK589 hb
            have NB590_601 := am_ ((by rw [hg]; exact Nat.ne_of_lt (a0d (qk_ BK590)) : gb590 ≠ gb601))
            have NB601_590 := am_ ((by rw [hg]; exact Nat.ne_of_gt (a0d (qk_ BK590)) : gb601 ≠ gb590))
            replace BK590 := qkb_ BK590 hb
            have NB595_601 := am_ ((by rw [hg]; exact Nat.ne_of_lt (a0d (qk_ BK595)) : gb595 ≠ gb601))
            have NB601_595 := am_ ((by rw [hg]; exact Nat.ne_of_gt (a0d (qk_ BK595)) : gb601 ≠ gb595))
            replace BK595 := qkb_ BK595 hb
            have NB600_601 := am_ ((by rw [hg]; exact Nat.ne_of_lt (a0d (qk_ BK600)) : gb600 ≠ gb601))
            have NB601_600 := am_ ((by rw [hg]; exact Nat.ne_of_gt (a0d (qk_ BK600)) : gb601 ≠ gb600))
            replace BK600 := qkb_ BK600 hb
            clear hb hbox hg
            refine hK.out _ _ ⟨(bc_ BK590.out 0).trans rfl, (bc_ BK590.out 1).trans rfl, (bc_ BK590.out 2).trans rfl, (bc_ BK590.out 3).trans rfl, (bc_ BK590.out 4).trans rfl, (bc_ BK590.out 5).trans rfl⟩ (fun hHeld => ?_)
            clear hK K
            refine a1s (a' := ?_) ?_ ?_
            rotate_left
            ·show Act.put _ (some 20) _ = _
             exact qp_
            exact a1s (by simp only [a3n, Act.put, List.setIfInBounds_toArray, List.set_cons_zero, List.set_cons_succ]) (hCont (gb600, gb601) _ ⟨hHeld, (qk_ BK589), (qk_ BK590), (qk_ BK595), (qk_ BK600), (qk_ BK601), GW600.out, GE600.out, NB589_600.out, NB600_589.out, NB590_600.out, NB600_590.out, NB595_600.out, NB600_595.out, NB601_600.out, NB600_601.out, GW601.out, GE601.out, NB589_601.out, NB601_589.out, NB590_601.out, NB601_590.out, NB595_601.out, NB601_595.out, qb_⟩)
           ·skip
            refine a2j ?hg (N := 20) ?hd (cs := #[.int .i64 0, .int .i64 0, .int .i64 0, .slice none 0 0, .slice none 0 0, .slice none 0 0]) (t := 30) ?hr ?_; (case hd => rfl); (case hg => rfl); (case hr => exact qq_)
            intro gb601 hg w253 hbox hb
            have BK601 := am_ (hbox)
            have GW601 := qga_ hg
            have GE601 := qga_ hg
            replace HB := qbs_ hb
            have NB589_601 := am_ ((by rw [hg]; exact Nat.ne_of_lt (a0d (qk_ BK589)) : gb589 ≠ gb601))
            have NB601_589 := am_ ((by rw [hg]; exact Nat.ne_of_gt (a0d (qk_ BK589)) : gb601 ≠ gb589))
            replace BK589 := qkb_ BK589 hb
            have NB590_601 := am_ ((by rw [hg]; exact Nat.ne_of_lt (a0d (qk_ BK590)) : gb590 ≠ gb601))
            have NB601_590 := am_ ((by rw [hg]; exact Nat.ne_of_gt (a0d (qk_ BK590)) : gb601 ≠ gb590))
            replace BK590 := qkb_ BK590 hb
            have NB595_601 := am_ ((by rw [hg]; exact Nat.ne_of_lt (a0d (qk_ BK595)) : gb595 ≠ gb601))
            have NB601_595 := am_ ((by rw [hg]; exact Nat.ne_of_gt (a0d (qk_ BK595)) : gb601 ≠ gb595))
            replace BK595 := qkb_ BK595 hb
            clear hb hbox hg
            refine hK.out _ _ ⟨(bc_ BK590.out 0).trans rfl, (bc_ BK590.out 1).trans rfl, (bc_ BK590.out 2).trans rfl, (bc_ BK590.out 3).trans rfl, (bc_ BK590.out 4).trans rfl, (bc_ BK590.out 5).trans rfl⟩ (fun hHeld => ?_)
            clear hK K
            refine a1s (a' := ?_) ?_ ?_
            rotate_left
            ·show Act.put _ (some 20) _ = _
             exact qp_
            refine one_ (i := 2) (N := some 19) #[o_,o_,o_,o_,i_,i_] rfl rfl (by kernel_rfl) (by decide) (fun K hK => ?_)
            refine a2j ?hg (N := 19) ?hd (cs := #[.int .i64 0, .int .i64 0, .int .i64 0, .slice none 0 0, .slice none 0 0, .slice none 0 0]) (t := 30) ?hr ?_; (case hd => rfl); (case hg => rfl); (case hr => exact qq_)
            intro gb600 hg w254 hbox hb
            have BK600 := am_ (hbox)
            have GW600 := qga_ hg
            have GE600 := qga_ hg
            replace HB := qbs_ hb
            have NB589_600 := am_ ((by rw [hg]; exact Nat.ne_of_lt (a0d (qk_ BK589)) : gb589 ≠ gb600))
            have NB600_589 := am_ ((by rw [hg]; exact Nat.ne_of_gt (a0d (qk_ BK589)) : gb600 ≠ gb589))
            replace BK589 := qkb_ BK589 hb
            have NB590_600 := am_ ((by rw [hg]; exact Nat.ne_of_lt (a0d (qk_ BK590)) : gb590 ≠ gb600))
            have NB600_590 := am_ ((by rw [hg]; exact Nat.ne_of_gt (a0d (qk_ BK590)) : gb600 ≠ gb590))
            replace BK590 := qkb_ BK590 hb
            have NB595_600 := am_ ((by rw [hg]; exact Nat.ne_of_lt (a0d (qk_ BK595)) : gb595 ≠ gb600))
            have NB600_595 := am_ ((by rw [hg]; exact Nat.ne_of_gt (a0d (qk_ BK595)) : gb600 ≠ gb595))
            replace BK595 := qkb_ BK595 hb
            have NB601_600 := am_ ((by rw [hg]; exact Nat.ne_of_lt (a0d (qk_ BK601)) : gb601 ≠ gb600))
            have NB600_601 := am_ ((by rw [hg]; exact Nat.ne_of_gt (a0d (qk_ BK601)) : gb600 ≠ gb601))
            replace BK601 := qkb_ BK601 hb
            clear hb hbox hg
            refine hK.out _ _ ⟨(bc_ BK590.out 0).trans rfl, (bc_ BK590.out 1).trans rfl, (bc_ BK590.out 2).trans rfl, (bc_ BK590.out 3).trans rfl, (bc_ BK590.out 4).trans rfl, (bc_ BK590.out 5).trans rfl⟩ (fun hHeld => ?_)
            clear hK K
            refine a1s (a' := ?_) ?_ ?_
            rotate_left
            ·show Act.put _ (some 19) _ = _
             exact qp_
            exact a1s (by simp only [a3n, Act.put, List.setIfInBounds_toArray, List.set_cons_zero, List.set_cons_succ]) (hCont (gb600, gb601) _ ⟨hHeld, (qk_ BK589), (qk_ BK590), (qk_ BK595), (qk_ BK600), (qk_ BK601), GW600.out, GE600.out, NB589_600.out, NB600_589.out, NB590_600.out, NB600_590.out, NB595_600.out, NB600_595.out, NB601_600.out, NB600_601.out, GW601.out, GE601.out, NB589_601.out, NB601_589.out, NB590_601.out, NB601_590.out, NB595_601.out, NB601_595.out, qb_⟩)
          rintro ⟨gb600, gb601⟩ w255 ⟨hS_, h0_, h1_, h2_, h3_, h4_, h5_, h6_, h7_, h8_, h9_, h10_, h11_, h12_, h13_, h14_, h15_, h16_, h17_, h18_, h19_, h20_, h21_, h22_, h23_⟩
          replace BK589 : Aside0 (w255.heap[gb589]? = some (.cells #[.int .i64 a0_0, .int .i64 a0_1, .int .i64 a0_2, .int .i64 a0_3, .bool a0_4] 25 (0, 0))) := ⟨h0_⟩
          replace BK590 : Aside0 (w255.heap[gb590]? = some (.cells #[.int .i64 a1_0, .int .i64 a1_1, .int .i64 a1_2, .slice A1_3 l1_3.length c1_3, .slice A1_4 l1_4.length c1_4, .slice A1_5 l1_5.length c1_5] 30 (0, 0))) := ⟨h1_⟩
          replace BK595 : Aside0 (w255.heap[gb595]? = some (.cells #[.int .i64 ji35, .int .i64 a1_1, .int .i64 ji36, .slice A1_3 l1_3.length c1_3, .slice A1_4 l1_4.length c1_4, .slice A1_5 l1_5.length c1_5] 30 (0, 0))) := ⟨h2_⟩
          have BK600 : Aside0 (w255.heap[gb600]? = some (.cells #[.int .i64 0, .int .i64 0, .int .i64 0, .slice none 0 0, .slice none 0 0, .slice none 0 0] 30 (0, 0))) := ⟨h3_⟩
          have BK601 : Aside0 (w255.heap[gb601]? = some (.cells #[.int .i64 0, .int .i64 0, .int .i64 0, .slice none 0 0, .slice none 0 0, .slice none 0 0] 30 (0, 0))) := ⟨h4_⟩
          have GW600 : Aside0 (w.heap.size ≤ gb600) := ⟨h5_⟩
          have GE600 : Aside0 (w.heap.size ≤ gb600) := ⟨h6_⟩
          have NB589_600 : Aside0 (gb589 ≠ gb600) := ⟨h7_⟩
          have NB600_589 : Aside0 (gb600 ≠ gb589) := ⟨h8_⟩
          have NB590_600 : Aside0 (gb590 ≠ gb600) := ⟨h9_⟩
          have NB600_590 : Aside0 (gb600 ≠ gb590) := ⟨h10_⟩
          have NB595_600 : Aside0 (gb595 ≠ gb600) := ⟨h11_⟩
          have NB600_595 : Aside0 (gb600 ≠ gb595) := ⟨h12_⟩
          have NB601_600 : Aside0 (gb601 ≠ gb600) := ⟨h13_⟩
          have NB600_601 : Aside0 (gb600 ≠ gb601) := ⟨h14_⟩
          have GW601 : Aside0 (w.heap.size ≤ gb601) := ⟨h15_⟩
          have GE601 : Aside0 (w.heap.size ≤ gb601) := ⟨h16_⟩
          have NB589_601 : Aside0 (gb589 ≠ gb601) := ⟨h17_⟩
          have NB601_589 : Aside0 (gb601 ≠ gb589) := ⟨h18_⟩
          have NB590_601 : Aside0 (gb590 ≠ gb601) := ⟨h19_⟩
          have NB601_590 : Aside0 (gb601 ≠ gb590) := ⟨h20_⟩
          have NB595_601 : Aside0 (gb595 ≠ gb601) := ⟨h21_⟩
          have NB601_595 : Aside0 (gb601 ≠ gb595) := ⟨h22_⟩
          replace HB : Aside0 (Below w.heap.size w w255) := ⟨h23_⟩
          clear h0_ h1_ h2_ h3_ h4_ h5_ h6_ h7_ h8_ h9_ h10_ h11_ h12_ h13_ h14_ h15_ h16_ h17_ h18_ h19_ h20_ h21_ h22_ h23_
          have hHeld : w255.cell? ⟨gb590, 0, none⟩ = some (.int .i64 a1_0) ∧ w255.cell? ⟨gb590, 1, none⟩ = some (.int .i64 a1_1) ∧ w255.cell? ⟨gb590, 2, none⟩ = some (.int .i64 a1_2) ∧ w255.cell? ⟨gb590, 3, none⟩ = some (.slice A1_3 l1_3.length c1_3) ∧ w255.cell? ⟨gb590, 4, none⟩ = some (.slice A1_4 l1_4.length c1_4) ∧ w255.cell? ⟨gb590, 5, none⟩ = some (.slice A1_5 l1_5.length c1_5) := hS_
          refine a1s (a' := ?_) ?_ ?_
          rotate_left
          ·simp only [a3n, Act.put, List.setIfInBounds_toArray, List.set_cons_zero, List.set_cons_succ]
           rfl
          refine one_ (i := 4) (N := none) #[o_,o_,o_,o_,o_,i_] rfl rfl (by kernel_rfl) (by decide) (fun K hK => ?_)
          have hs256 : w255.cell? ⟨gb600, 0, none⟩ = some (.int .i64 0) := (bc_ BK600.out 0).trans rfl
          have hfs256 := bf_ BK600.out 0
          have hns256_0 := NB589_600.out
          have hns256_1 := NB590_600.out
          have hns256_2 := NB595_600.out
          have hns256_4 := NB601_600.out
          have hms256_0 := NB600_589.out
          have hms256_1 := NB600_590.out
          have hms256_2 := NB600_595.out
          have hms256_4 := NB600_601.out
          have hs257 : w255.cell? ⟨gb600, 1, none⟩ = some (.int .i64 0) := (bc_ BK600.out 1).trans rfl
          have hfs257 := bf_ BK600.out 1
          have hs258 : w255.cell? ⟨gb600, 2, none⟩ = some (.int .i64 0) := (bc_ BK600.out 2).trans rfl
          have hfs258 := bf_ BK600.out 2
          have hs259 : w255.cell? ⟨gb600, 3, none⟩ = some (.slice none 0 0) := (bc_ BK600.out 3).trans rfl
          have hfs259 := bf_ BK600.out 3
          have hs260 : w255.cell? ⟨gb600, 4, none⟩ = some (.slice none 0 0) := (bc_ BK600.out 4).trans rfl
          have hfs260 := bf_ BK600.out 4
          have hs261 : w255.cell? ⟨gb600, 5, none⟩ = some (.slice none 0 0) := (bc_ BK600.out 5).trans rfl
          have hfs261 := bf_ BK600.out 5
          refine a2u (w1 := ?_) (by rfl) rfl ?_ ?_
          rotate_left
          ·go_simp
           rfl
          refine hK.out _ _ (qcf_ ⟨NB590_600.out, hHeld⟩) (fun hHeld => ?_)
          clear hK K
          clear hs256 hfs256 hs257 hfs257 hs258 hfs258 hs259 hfs259 hs260 hfs260 hs261 hfs261
          refine one_ (i := 5) (N := none) #[o_,o_,o_,o_,o_,o_] rfl rfl (by kernel_rfl) (by decide) (fun K hK => ?_)
          have hs262 : w255.cell? ⟨gb601, 0, none⟩ = some (.int .i64 0) := (bc_ BK601.out 0).trans rfl
          have hfs262 := bf_ BK601.out 0
          have hns262_0 := NB589_601.out
          have hns262_1 := NB590_601.out
          have hns262_2 := NB595_601.out
          have hms262_0 := NB601_589.out
          have hms262_1 := NB601_590.out
          have hms262_2 := NB601_595.out
          have hs263 : w255.cell? ⟨gb601, 1, none⟩ = some (.int .i64 0) := (bc_ BK601.out 1).trans rfl
          have hfs263 := bf_ BK601.out 1
          have hs264 : w255.cell? ⟨gb601, 2, none⟩ = some (.int .i64 0) := (bc_ BK601.out 2).trans rfl
          have hfs264 := bf_ BK601.out 2
          have hs265 : w255.cell? ⟨gb601, 3, none⟩ = some (.slice none 0 0) := (bc_ BK601.out 3).trans rfl
          have hfs265 := bf_ BK601.out 3
          have hs266 : w255.cell? ⟨gb601, 4, none⟩ = some (.slice none 0 0) := (bc_ BK601.out 4).trans rfl
          have hfs266 := bf_ BK601.out 4
          have hs267 : w255.cell? ⟨gb601, 5, none⟩ = some (.slice none 0 0) := (bc_ BK601.out 5).trans rfl
          have hfs267 := bf_ BK601.out 5
          refine a2u (w1 := ?_) (by rfl) rfl ?_ ?_
          rotate_left
          ·go_simp
           rfl
          refine hK.out _ _ (qcf_ ⟨NB590_601.out, hHeld⟩) (fun hHeld => ?_)
          clear hK K
          clear hs262 hfs262 hs263 hfs263 hs264 hfs264 hs265 hfs265 hs266 hfs266 hs267 hfs267
          refine a3z (by kernel_rfl) ?_
          try go_wp2
          obtain ⟨w268, hW_⟩ : ∃ w_, ((((((((((((w255.setCell ⟨gb600, 0, none⟩ (.int .i64 a1_0)).setCell ⟨gb600, 1, none⟩ (.int .i64 a1_1)).setCell ⟨gb600, 2, none⟩ (.int .i64 a1_2)).setCell ⟨gb600, 3, none⟩ (.slice A1_3 l1_3.length c1_3)).setCell ⟨gb600, 4, none⟩ (.slice A1_4 l1_4.length c1_4)).setCell ⟨gb600, 5, none⟩ (.slice A1_5 l1_5.length c1_5)).setCell ⟨gb601, 0, none⟩ (.int .i64 a1_0)).setCell ⟨gb601, 1, none⟩ (.int .i64 a1_1)).setCell ⟨gb601, 2, none⟩ (.int .i64 a1_2)).setCell ⟨gb601, 3, none⟩ (.slice A1_3 l1_3.length c1_3)).setCell ⟨gb601, 4, none⟩ (.slice A1_4 l1_4.length c1_4)).setCell ⟨gb601, 5, none⟩ (.slice A1_5 l1_5.length c1_5)) = w_ := ⟨_, rfl⟩
          have n0_ : Aside0 (w268.heap[gb589]? = some (.cells #[.int .i64 a0_0, .int .i64 a0_1, .int .i64 a0_2, .int .i64 a0_3, .bool a0_4] 25 (0, 0))) := ⟨by rw [← hW_]; (iterate 6 (refine qd_ ?_; refine a0e ?_ NB589_601.out _)); (iterate 6 (refine qd_ ?_; refine a0e ?_ NB589_600.out _)); refine qd_ ?_; exact BK589.out⟩
          have n1_ : Aside0 (w268.heap[gb590]? = some (.cells #[.int .i64 a1_0, .int .i64 a1_1, .int .i64 a1_2, .slice A1_3 l1_3.length c1_3, .slice A1_4 l1_4.length c1_4, .slice A1_5 l1_5.length c1_5] 30 (0, 0))) := ⟨by rw [← hW_]; (iterate 6 (refine qd_ ?_; refine a0e ?_ NB590_601.out _)); (iterate 6 (refine qd_ ?_; refine a0e ?_ NB590_600.out _)); refine qd_ ?_; exact BK590.out⟩
          have n2_ : Aside0 (w268.heap[gb595]? = some (.cells #[.int .i64 ji35, .int .i64 a1_1, .int .i64 ji36, .slice A1_3 l1_3.length c1_3, .slice A1_4 l1_4.length c1_4, .slice A1_5 l1_5.length c1_5] 30 (0, 0))) := ⟨by rw [← hW_]; (iterate 6 (refine qd_ ?_; refine a0e ?_ NB595_601.out _)); (iterate 6 (refine qd_ ?_; refine a0e ?_ NB595_600.out _)); refine qd_ ?_; exact BK595.out⟩
          have n3_ : Aside0 (w268.heap[gb600]? = some (.cells #[.int .i64 a1_0, .int .i64 a1_1, .int .i64 a1_2, .slice A1_3 l1_3.length c1_3, .slice A1_4 l1_4.length c1_4, .slice A1_5 l1_5.length c1_5] 30 (0, 0))) := ⟨by rw [← hW_]; (iterate 6 (refine qd_ ?_; refine a0e ?_ NB600_601.out _)); refine qd_ ?_; refine a0c (cs := #[.int .i64 a1_0, .int .i64 a1_1, .int .i64 a1_2, .slice A1_3 l1_3.length c1_3, .slice A1_4 l1_4.length c1_4, .slice none 0 0]) ?_ 5 _ rfl; refine qd_ ?_; refine a0c (cs := #[.int .i64 a1_0, .int .i64 a1_1, .int .i64 a1_2, .slice A1_3 l1_3.length c1_3, .slice none 0 0, .slice none 0 0]) ?_ 4 _ rfl; refine qd_ ?_; refine a0c (cs := #[.int .i64 a1_0, .int .i64 a1_1, .int .i64 a1_2, .slice none 0 0, .slice none 0 0, .slice none 0 0]) ?_ 3 _ rfl; refine qd_ ?_; refine a0c (cs := #[.int .i64 a1_0, .int .i64 a1_1, .int .i64 0, .slice none 0 0, .slice none 0 0, .slice none 0 0]) ?_ 2 _ rfl; refine qd_ ?_; refine a0c (cs := #[.int .i64 a1_0, .int .i64 0, .int .i64 0, .slice none 0 0, .slice none 0 0, .slice none 0 0]) ?_ 1 _ rfl; refine qd_ ?_; refine a0c (cs := #[.int .i64 0, .int .i64 0, .int .i64 0, .slice none 0 0, .slice none 0 0, .slice none 0 0]) ?_ 0 _ rfl; refine qd_ ?_; exact BK600.out⟩
          have n4_ : Aside0 (w268.heap[gb601]? = some (.cells #[.int .i64 a1_0, .int .i64 a1_1, .int .i64 a1_2, .slice A1_3 l1_3.length c1_3, .slice A1_4 l1_4.length c1_4, .slice A1_5 l1_5.length c1_5] 30 (0, 0))) := ⟨by rw [← hW_]; refine qd_ ?_; refine a0c (cs := #[.int .i64 a1_0, .int .i64 a1_1, .int .i64 a1_2, .slice A1_3 l1_3.length c1_3, .slice A1_4 l1_4.length c1_4, .slice none 0 0]) ?_ 5 _ rfl; refine qd_ ?_; refine a0c (cs := #[.int .i64 a1_0, .int .i64 a1_1, .int .i64 a1_2, .slice A1_3 l1_3.length c1_3, .slice none 0 0, .slice none 0 0]) ?_ 4 _ rfl; refine qd_ ?_; refine a0c (cs := #[.int .i64 a1_0, .int .i64 a1_1, .int .i64 a1_2, .slice none 0 0, .slice none 0 0, .slice none 0 0]) ?_ 3 _ rfl; refine qd_ ?_; refine a0c (cs := #[.int .i64 a1_0, .int .i64 a1_1, .int .i64 0, .slice none 0 0, .slice none 0 0, .slice none 0 0]) ?_ 2 _ rfl; refine qd_ ?_; refine a0c (cs := #[.int .i64 a1_0, .int .i64 0, .int .i64 0, .slice none 0 0, .slice none 0 0, .slice none 0 0]) ?_ 1 _ rfl; refine qd_ ?_; refine a0c (cs := #[.int .i64 0, .int .i64 0, .int .i64 0, .slice none 0 0, .slice none 0 0, .slice none 0 0]) ?_ 0 _ rfl; (iterate 6 (refine qd_ ?_; refine a0e ?_ NB601_600.out _)); refine qd_ ?_; exact BK601.out⟩
          have n5_ : Aside0 (Below w.heap.size w w268) := ⟨by rw [← hW_]; exact qb_⟩
          (try clear BK589)
          (try clear BK590)
          (try clear BK595)
          (try clear BK600)
          (try clear BK601)
          (try clear HB)
          rw [hW_]
          clear hW_
          have BK589 := n0_
          have BK590 := n1_
          have BK595 := n2_
          have BK600 := n3_
          have BK601 := n4_
          have HB := n5_
          clear n0_ n1_ n2_ n3_ n4_ n5_
          replace BK589 := am_ (bd_ BK589.out)
          replace BK590 := am_ (bd_ BK590.out)
          replace BK595 := am_ (bd_ BK595.out)
          replace BK600 := am_ (bd_ BK600.out)
          replace BK601 := am_ (bd_ BK601.out)
          replace HB := am_ (ld_ HB.out)
          refine a3l (n := 9) (S := fun w' => w'.cell? ⟨gb590, 0, none⟩ = some (.int .i64 a1_0) ∧ w'.cell? ⟨gb590, 1, none⟩ = some (.int .i64 a1_1) ∧ w'.cell? ⟨gb590, 2, none⟩ = some (.int .i64 a1_2) ∧ w'.cell? ⟨gb590, 3, none⟩ = some (.slice A1_3 l1_3.length c1_3) ∧ w'.cell? ⟨gb590, 4, none⟩ = some (.slice A1_4 l1_4.length c1_4) ∧ w'.cell? ⟨gb590, 5, none⟩ = some (.slice A1_5 l1_5.length c1_5)) (ds := []) #[i_,i_,i_,i_,i_,i_,i_,i_,i_] (by kernel_rfl) rfl rfl ⟨(bc_ BK590.out 0).trans rfl, (bc_ BK590.out 1).trans rfl, (bc_ BK590.out 2).trans rfl, (bc_ BK590.out 3).trans rfl, (bc_ BK590.out 4).trans rfl, (bc_ BK590.out 5).trans rfl⟩ (fun hHeld => ?_); refine a3f a0b.a7a a0b.a6d (fun HT_ HW_ => ?_)
          generalize w268.drew = w269 at BK589 BK590 BK595 BK600 BK601 HB hHeld ⊢
          refine qpu_ 0 (some 92) #[o_,i_,i_,i_,i_,i_,i_,i_,i_] ?_
          refine qpu_ 3 (some 95) #[o_,i_,i_,o_,i_,i_,i_,i_,i_] ?_
          refine a2o (i := 1) (N := some 93) (v := ?_) (a' := ?_) #[o_,o_,i_,o_,i_,i_,i_,i_,i_] rfl rfl (a2s HT_.out HW_.out (by kernel_rfl)) (fun _ _ _ h => h) (Or.inl ⟨by rfl, ?_⟩) hHeld ?_ ?_
          rotate_left
          ·rintro w' ⟨s0, s1, s2, s3, s4, s5⟩
           go_simp
           with_reducible rfl
          rotate_left
          ·exact qp_
          refine qpu_ 2 (some 94) #[o_,o_,o_,o_,i_,i_,i_,i_,i_] ?_
          refine one_ (i := 4) (N := none) #[o_,o_,o_,o_,o_,i_,i_,i_,i_] rfl rfl (a1z HT_.out (by kernel_rfl)) (by decide) (fun K hK => ?_)
          have hs270 : w269.cell? ⟨gb600, 1, none⟩ = some (.int .i64 a1_1) := (bc_ BK600.out 1).trans rfl
          have hfs270 := bf_ BK600.out 1
          refine a2u (w1 := ?_) (by rfl) rfl ?_ ?_
          rotate_left
          ·go_simp
           rfl
          refine hK.out _ _ (qcf_ ⟨NB590_600.out, hHeld⟩) (fun hHeld => ?_)
          clear hK K
          clear hs270 hfs270
          refine qpu_ 5 (some 96) #[o_,o_,o_,o_,o_,o_,i_,i_,i_] ?_
          refine one_ (i := 6) (N := none) #[o_,o_,o_,o_,o_,o_,o_,i_,i_] rfl rfl (a1z HT_.out (by kernel_rfl)) (by decide) (fun K hK => ?_)
          have hs271 : w269.cell? ⟨gb601, 1, none⟩ = some (.int .i64 a1_1) := (bc_ BK601.out 1).trans rfl
          have hfs271 := bf_ BK601.out 1
          refine a2u (w1 := ?_) (by rfl) rfl ?_ ?_
          rotate_left
          ·go_simp
           rfl
          refine hK.out _ _ (qcf_ ⟨NB590_601.out, hHeld⟩) (fun hHeld => ?_)
          clear hK K
          clear hs271 hfs271
          refine qpu_ 7 (some 97) #[o_,o_,o_,o_,o_,o_,o_,o_,i_] ?_
          refine one_ (i := 8) (N := none) #[o_,o_,o_,o_,o_,o_,o_,o_,o_] rfl rfl (a1z HT_.out (by kernel_rfl)) (by decide) (fun K hK => ?_)
          have hs272 : w269.cell? ⟨gb601, 0, none⟩ = some (.int .i64 a1_0) := (bc_ BK601.out 0).trans rfl
          have hfs272 := bf_ BK601.out 0
          refine a2u (w1 := ?_) (by rfl) rfl ?_ ?_
          rotate_left
          ·go_simp
           rfl
          refine hK.out _ _ (qcf_ ⟨NB590_601.out, hHeld⟩) (fun hHeld => ?_)
          clear hK K
          clear hs272 hfs272
          refine a3z (a3x HT_.out (by kernel_rfl)) ?_
          have hnb273 := NB589_590.out
          have hnc273 := NB590_589.out
          have hnb274 := NB589_595.out
          have hnc274 := NB595_589.out
          have hnb275 := NB589_600.out
          have hnc275 := NB600_589.out
          have hnb276 := NB589_601.out
          have hnc276 := NB601_589.out
          obtain ⟨z'277_0, z'277_1, z'277_2, z'277_3, z'277_4⟩ := qz5_ BK589; obtain ⟨y'277_0, y'277_1, y'277_2, y'277_3, y'277_4⟩ := qf5_ BK589
          have hnb278 := NB600_590.out
          have hnc278 := NB590_600.out
          have hnb279 := NB600_595.out
          have hnc279 := NB595_600.out
          have hnb280 := NB600_601.out
          have hnc280 := NB601_600.out
          obtain ⟨z'281_0, z'281_1, z'281_2, z'281_3, z'281_4, z'281_5⟩ := qz6_ BK600; obtain ⟨y'281_0, y'281_1, y'281_2, y'281_3, y'281_4, y'281_5⟩ := qf6_ BK600
          try go_wp2_with (first | ((with_reducible refine a0g (f := 27) rfl ?_); refine a0t (some 103) rfl rfl Try.func27 (by kernel_rfl) rfl #[.agg #[.int .i64 a0_0, .int .i64 a0_1, .int .i64 a0_2, .int .i64 a0_3, .bool a0_4], .agg #[.int .i64 a1_0, .int .i64 2, .int .i64 a1_2, .slice A1_3 l1_3.length c1_3, .slice A1_4 l1_4.length c1_4, .slice A1_5 l1_5.length c1_5], .string a2, .slice A3 l3.length c3, .int .i64 1] rfl ql_ ?_; (with_reducible refine (a1p.calls kj38 a0_0 a0_1 a0_2 a0_3 a0_4 a1_0 2 a1_2 _ _ l1_3 _ _ l1_4 _ _ l1_5 a2 _ _ l3 1 t602 false _ ?s1 ?s2 ?s3 ?s4 ?s5 ?s6 ?s7 ?s8 A60.out).mono ?_); (case s1 => exact Kd.a0r HR1_3.out qb_); (case s2 => exact HC1_3.out); (case s3 => exact Kd.a0r HR1_4.out qb_); (case s4 => exact HC1_4.out); (case s5 => exact Kd.a0r HR1_5.out qb_); (case s6 => exact HC1_5.out); (case s7 => exact Kd.a0r HR3.out qb_); (case s8 => exact HC3.out); rintro e w282 ⟨rfl, hb⟩; refine ⟨_, rfl, ?_⟩; replace BK589 := am_ (a0v (g := gb589) (o := .cells #[.int .i64 a0_0, .int .i64 a0_1, .int .i64 a0_2, .int .i64 a0_3, .bool a0_4] 25 (0, 0)) (by (iterate 2 (refine qd_ ?_; refine a0e ?_ NB589_601.out _)); refine qd_ ?_; refine a0e ?_ NB589_600.out _; refine qd_ ?_; exact BK589.out) hb); replace BK590 := am_ (a0v (g := gb590) (o := .cells #[.int .i64 a1_0, .int .i64 a1_1, .int .i64 a1_2, .slice A1_3 l1_3.length c1_3, .slice A1_4 l1_4.length c1_4, .slice A1_5 l1_5.length c1_5] 30 (0, 0)) (by (iterate 2 (refine qd_ ?_; refine a0e ?_ NB590_601.out _)); refine qd_ ?_; refine a0e ?_ NB590_600.out _; refine qd_ ?_; exact BK590.out) hb); replace BK595 := am_ (a0v (g := gb595) (o := .cells #[.int .i64 ji35, .int .i64 a1_1, .int .i64 ji36, .slice A1_3 l1_3.length c1_3, .slice A1_4 l1_4.length c1_4, .slice A1_5 l1_5.length c1_5] 30 (0, 0)) (by (iterate 2 (refine qd_ ?_; refine a0e ?_ NB595_601.out _)); refine qd_ ?_; refine a0e ?_ NB595_600.out _; refine qd_ ?_; exact BK595.out) hb); replace BK600 := am_ (a0v (g := gb600) (o := .cells #[.int .i64 a1_0, .int .i64 2, .int .i64 a1_2, .slice A1_3 l1_3.length c1_3, .slice A1_4 l1_4.length c1_4, .slice A1_5 l1_5.length c1_5] 30 (0, 0)) (by (iterate 2 (refine qd_ ?_; refine a0e ?_ NB600_601.out _)); refine qd_ ?_; refine a0c (cs := #[.int .i64 a1_0, .int .i64 a1_1, .int .i64 a1_2, .slice A1_3 l1_3.length c1_3, .slice A1_4 l1_4.length c1_4, .slice A1_5 l1_5.length c1_5]) ?_ 1 _ rfl; refine qd_ ?_; exact BK600.out) hb); replace BK601 := am_ (a0v (g := gb601) (o := .cells #[.int .i64 (wrap64 (a1_0 + 3)), .int .i64 1, .int .i64 a1_2, .slice A1_3 l1_3.length c1_3, .slice A1_4 l1_4.length c1_4, .slice A1_5 l1_5.length c1_5] 30 (0, 0)) (by refine qd_ ?_; refine a0c (cs := #[.int .i64 a1_0, .int .i64 1, .int .i64 a1_2, .slice A1_3 l1_3.length c1_3, .slice A1_4 l1_4.length c1_4, .slice A1_5 l1_5.length c1_5]) ?_ 0 _ rfl; refine qd_ ?_; refine a0c (cs := #[.int .i64 a1_0, .int .i64 a1_1, .int .i64 a1_2, .slice A1_3 l1_3.length c1_3, .slice A1_4 l1_4.length c1_4, .slice A1_5 l1_5.length c1_5]) ?_ 1 _ rfl; refine qd_ ?_; refine a0e ?_ NB601_600.out _; refine qd_ ?_; exact BK601.out) hb); replace HB := qbs_ hb; (try clear hb); (try clear hb2); (try clear hk); (try clear hi); have hnb283 := NB601_590.out; have hnc283 := NB590_601.out; have hnb284 := NB601_595.out; have hnc284 := NB595_601.out; obtain ⟨z'285_0, z'285_1, z'285_2, z'285_3, z'285_4, z'285_5⟩ := qz6_ BK601; obtain ⟨y'285_0, y'285_1, y'285_2, y'285_3, y'285_4, y'285_5⟩ := qf6_ BK601; have hnb286 := NB590_595.out; have hnc286 := NB595_590.out; obtain ⟨z'287_0, z'287_1, z'287_2, z'287_3, z'287_4, z'287_5⟩ := qz6_ BK590; obtain ⟨y'287_0, y'287_1, y'287_2, y'287_3, y'287_4, y'287_5⟩ := qf6_ BK590; obtain ⟨z'288_0, z'288_1, z'288_2, z'288_3, z'288_4⟩ := qz5_ BK589; obtain ⟨y'288_0, y'288_1, y'288_2, y'288_3, y'288_4⟩ := qf5_ BK589) | ((with_reducible refine a0g (f := 27) rfl ?_); refine a0t (some 123) rfl rfl Try.func27 (by kernel_rfl) rfl #[.agg #[.int .i64 a0_0, .int .i64 a0_1, .int .i64 a0_2, .int .i64 a0_3, .bool a0_4], .agg #[.int .i64 (wrap64 (a1_0 + 3)), .int .i64 1, .int .i64 a1_2, .slice A1_3 l1_3.length c1_3, .slice A1_4 l1_4.length c1_4, .slice A1_5 l1_5.length c1_5], .string a2, .slice A3 l3.length c3, .int .i64 1] rfl ql_ ?_; (with_reducible refine (a1p.calls kj38 a0_0 a0_1 a0_2 a0_3 a0_4 (wrap64 (a1_0 + 3)) 1 a1_2 _ _ l1_3 _ _ l1_4 _ _ l1_5 a2 _ _ l3 1 t604 t605 _ ?s1 ?s2 ?s3 ?s4 ?s5 ?s6 ?s7 ?s8 A172.out).mono ?_); (case s1 => exact qc_ HR1_3); (case s2 => exact HC1_3.out); (case s3 => exact qc_ HR1_4); (case s4 => exact HC1_4.out); (case s5 => exact qc_ HR1_5); (case s6 => exact HC1_5.out); (case s7 => exact qc_ HR3); (case s8 => exact HC3.out); rintro e w289 ⟨rfl, hb⟩; refine ⟨_, rfl, ?_⟩; replace BK589 := qkb_ BK589 hb; replace BK590 := qkb_ BK590 hb; replace BK595 := qkb_ BK595 hb; replace BK600 := qkb_ BK600 hb; replace BK601 := qkb_ BK601 hb; replace HB := qbs_ hb; (try clear hb); (try clear hb2); (try clear hk); (try clear hi)))
          go_ret
          exact ⟨by first | rfl | (simp [a2g, a2h] <;> rfl) | (simp only [← hji35, ← hji36]; first | rfl | (simp [a2g, a2h] <;> rfl)) | (simp [*, a2g, a2h] <;> rfl), qb_⟩
        ·replace c173 := be_ c173
         subst c173
         have H1 : (some false) = some r := by rw [if_neg (show ¬ (false = true) by decide)] at H; exact H
         clear H
         have H := H1
         clear H1
         obtain rfl := si_ H
         try go_wp2
         replace BK589 := am_ (bd_ BK589.out)
         replace BK590 := am_ (bd_ BK590.out)
         replace BK595 := am_ (bd_ BK595.out)
         replace HB := am_ (ld_ HB.out)
         refine a3l (n := 6) (S := fun w' => w'.cell? ⟨gb590, 0, none⟩ = some (.int .i64 a1_0) ∧ w'.cell? ⟨gb590, 1, none⟩ = some (.int .i64 a1_1) ∧ w'.cell? ⟨gb590, 2, none⟩ = some (.int .i64 a1_2) ∧ w'.cell? ⟨gb590, 3, none⟩ = some (.slice A1_3 l1_3.length c1_3) ∧ w'.cell? ⟨gb590, 4, none⟩ = some (.slice A1_4 l1_4.length c1_4) ∧ w'.cell? ⟨gb590, 5, none⟩ = some (.slice A1_5 l1_5.length c1_5)) (ds := []) #[i_,i_,i_,i_,i_,i_] (by kernel_rfl) rfl rfl ⟨(bc_ BK590.out 0).trans rfl, (bc_ BK590.out 1).trans rfl, (bc_ BK590.out 2).trans rfl, (bc_ BK590.out 3).trans rfl, (bc_ BK590.out 4).trans rfl, (bc_ BK590.out 5).trans rfl⟩ (fun hHeld => ?_)
         generalize wc.drew = w290 at BK589 BK590 BK595 HB hHeld ⊢
         refine a2o (i := 0) (N := some 90) (v := ?_) (a' := ?_) #[o_,i_,i_,i_,i_,i_] rfl rfl (by kernel_rfl) (fun _ _ _ h => h) (Or.inl ⟨by rfl, ?_⟩) hHeld ?_ ?_
         rotate_left
         ·rintro w' ⟨s0, s1, s2, s3, s4, s5⟩
          go_simp
          with_reducible rfl
         rotate_left
         ·exact qp_
         refine a2o (i := 1) (N := some 91) (v := ?_) (a' := ?_) #[o_,o_,i_,i_,i_,i_] rfl rfl (by kernel_rfl) (fun _ _ _ h => h) (Or.inl ⟨by rfl, ?_⟩) hHeld ?_ ?_
         rotate_left
         ·rintro w' ⟨s0, s1, s2, s3, s4, s5⟩
          go_simp
          with_reducible rfl
         rotate_left
         ·exact qp_
         refine a6w (σ := Nat × Nat) 2 #[o_,o_,o_,o_,i_,i_] (fun s_ => [(19, .pointer (some ⟨s_.1, 0, none⟩)), (20, .pointer (some ⟨s_.2, 0, none⟩))]) (fun s_ w' => (w'.cell? ⟨gb590, 0, none⟩ = some (.int .i64 a1_0) ∧ w'.cell? ⟨gb590, 1, none⟩ = some (.int .i64 a1_1) ∧ w'.cell? ⟨gb590, 2, none⟩ = some (.int .i64 a1_2) ∧ w'.cell? ⟨gb590, 3, none⟩ = some (.slice A1_3 l1_3.length c1_3) ∧ w'.cell? ⟨gb590, 4, none⟩ = some (.slice A1_4 l1_4.length c1_4) ∧ w'.cell? ⟨gb590, 5, none⟩ = some (.slice A1_5 l1_5.length c1_5)) ∧ (w'.heap[gb589]? = some (.cells #[.int .i64 a0_0, .int .i64 a0_1, .int .i64 a0_2, .int .i64 a0_3, .bool a0_4] 25 (0, 0))) ∧ (w'.heap[gb590]? = some (.cells #[.int .i64 a1_0, .int .i64 a1_1, .int .i64 a1_2, .slice A1_3 l1_3.length c1_3, .slice A1_4 l1_4.length c1_4, .slice A1_5 l1_5.length c1_5] 30 (0, 0))) ∧ (w'.heap[gb595]? = some (.cells #[.int .i64 ji35, .int .i64 a1_1, .int .i64 ji36, .slice A1_3 l1_3.length c1_3, .slice A1_4 l1_4.length c1_4, .slice A1_5 l1_5.length c1_5] 30 (0, 0))) ∧ (w'.heap[s_.1]? = some (.cells #[.int .i64 0, .int .i64 0, .int .i64 0, .slice none 0 0, .slice none 0 0, .slice none 0 0] 30 (0, 0))) ∧ (w'.heap[s_.2]? = some (.cells #[.int .i64 0, .int .i64 0, .int .i64 0, .slice none 0 0, .slice none 0 0, .slice none 0 0] 30 (0, 0))) ∧ (w.heap.size ≤ s_.1) ∧ (w.heap.size ≤ s_.1) ∧ (gb589 ≠ s_.1) ∧ (s_.1 ≠ gb589) ∧ (gb590 ≠ s_.1) ∧ (s_.1 ≠ gb590) ∧ (gb595 ≠ s_.1) ∧ (s_.1 ≠ gb595) ∧ (s_.2 ≠ s_.1) ∧ (s_.1 ≠ s_.2) ∧ (w.heap.size ≤ s_.2) ∧ (w.heap.size ≤ s_.2) ∧ (gb589 ≠ s_.2) ∧ (s_.2 ≠ gb589) ∧ (gb590 ≠ s_.2) ∧ (s_.2 ≠ gb590) ∧ (gb595 ≠ s_.2) ∧ (s_.2 ≠ gb595) ∧ (Below w.heap.size w w')) ?_ ?_
         rotate_left
         ·intro hCont
          refine two_ (i := 2) (j := 3) (Ni := some 19) (Nj := some 20) #[o_,o_,o_,i_,i_,i_] #[o_,o_,i_,o_,i_,i_] rfl rfl rfl rfl (by kernel_rfl) (by decide) (by decide) (fun K hK => ?_) (fun K hK => ?_)
          ·skip
           refine a2j ?hg (N := 19) ?hd (cs := #[.int .i64 0, .int .i64 0, .int .i64 0, .slice none 0 0, .slice none 0 0, .slice none 0 0]) (t := 30) ?hr ?_; (case hd => rfl); (case hg => rfl); (case hr => exact qq_)
           intro gb600 hg w291 hbox hb
           have BK600 := am_ (hbox)
           have GW600 := qga_ hg
           have GE600 := qga_ hg
           replace HB := qbs_ hb
           have NB589_600 := am_ ((by rw [hg]; exact Nat.ne_of_lt (a0d (qk_ BK589)) : gb589 ≠ gb600))
           have NB600_589 := am_ ((by rw [hg]; exact Nat.ne_of_gt (a0d (qk_ BK589)) : gb600 ≠ gb589))
           replace BK589 := qkb_ BK589 hb
           have NB590_600 := am_ ((by rw [hg]; exact Nat.ne_of_lt (a0d (qk_ BK590)) : gb590 ≠ gb600))
           have NB600_590 := am_ ((by rw [hg]; exact Nat.ne_of_gt (a0d (qk_ BK590)) : gb600 ≠ gb590))
           replace BK590 := qkb_ BK590 hb
           have NB595_600 := am_ ((by rw [hg]; exact Nat.ne_of_lt (a0d (qk_ BK595)) : gb595 ≠ gb600))
           have NB600_595 := am_ ((by rw [hg]; exact Nat.ne_of_gt (a0d (qk_ BK595)) : gb600 ≠ gb595))
           replace BK595 := qkb_ BK595 hb
           clear hb hbox hg
           refine hK.out _ _ ⟨(bc_ BK590.out 0).trans rfl, (bc_ BK590.out 1).trans rfl, (bc_ BK590.out 2).trans rfl, (bc_ BK590.out 3).trans rfl, (bc_ BK590.out 4).trans rfl, (bc_ BK590.out 5).trans rfl⟩ (fun hHeld => ?_)
           clear hK K
           refine a1s (a' := ?_) ?_ ?_
           rotate_left
           ·show Act.put _ (some 19) _ = _
            exact qp_
           refine one_ (i := 3) (N := some 20) #[o_,o_,o_,o_,i_,i_] rfl rfl (by kernel_rfl) (by decide) (fun K hK => ?_)
           refine a2j ?hg (N := 20) ?hd (cs := #[.int .i64 0, .int .i64 0, .int .i64 0, .slice none 0 0, .slice none 0 0, .slice none 0 0]) (t := 30) ?hr ?_; (case hd => rfl); (case hg => rfl); (case hr => exact qq_)
           intro gb601 hg w292 hbox hb
           have BK601 := am_ (hbox)
           have GW601 := qga_ hg
           have GE601 := qga_ hg
           replace HB := qbs_ hb
           have NB589_601 := am_ ((by rw [hg]; exact Nat.ne_of_lt (a0d (qk_ BK589)) : gb589 ≠ gb601))
           have NB601_589 := am_ ((by rw [hg]; exact Nat.ne_of_gt (a0d (qk_ BK589)) : gb601 ≠ gb589))
           replace BK589 := qkb_ BK589 hb
           have NB590_601 := am_ ((by rw [hg]; exact Nat.ne_of_lt (a0d (qk_ BK590)) : gb590 ≠ gb601))
           have NB601_590 := am_ ((by rw [hg]; exact Nat.ne_of_gt (a0d (qk_ BK590)) : gb601 ≠ gb590))
           replace BK590 := qkb_ BK590 hb
           have NB595_601 := am_ ((by rw [hg]; exact Nat.ne_of_lt (a0d (qk_ BK595)) : gb595 ≠ gb601))
           have NB601_595 := am_ ((by rw [hg]; exact Nat.ne_of_gt (a0d (qk_ BK595)) : gb601 ≠ gb595))
           replace BK595 := qkb_ BK595 hb
           have NB600_601 := am_ ((by rw [hg]; exact Nat.ne_of_lt (a0d (qk_ BK600)) : gb600 ≠ gb601))
           have NB601_600 := am_ ((by rw [hg]; exact Nat.ne_of_gt (a0d (qk_ BK600)) : gb601 ≠ gb600))
           replace BK600 := qkb_ BK600 hb
           clear hb hbox hg
           refine hK.out _ _ ⟨(bc_ BK590.out 0).trans rfl, (bc_ BK590.out 1).trans rfl, (bc_ BK590.out 2).trans rfl, (bc_ BK590.out 3).trans rfl, (bc_ BK590.out 4).trans rfl, (bc_ BK590.out 5).trans rfl⟩ (fun hHeld => ?_)
           clear hK K
           refine a1s (a' := ?_) ?_ ?_
           rotate_left
           ·show Act.put _ (some 20) _ = _
            exact qp_
           exact a1s (by simp only [a3n, Act.put, List.setIfInBounds_toArray, List.set_cons_zero, List.set_cons_succ]) (hCont (gb600, gb601) _ ⟨hHeld, (qk_ BK589), (qk_ BK590), (qk_ BK595), (qk_ BK600), (qk_ BK601), GW600.out, GE600.out, NB589_600.out, NB600_589.out, NB590_600.out, NB600_590.out, NB595_600.out, NB600_595.out, NB601_600.out, NB600_601.out, GW601.out, GE601.out, NB589_601.out, NB601_589.out, NB590_601.out, NB601_590.out, NB595_601.out, NB601_595.out, qb_⟩)
          ·skip
           refine a2j ?hg (N := 20) ?hd (cs := #[.int .i64 0, .int .i64 0, .int .i64 0, .slice none 0 0, .slice none 0 0, .slice none 0 0]) (t := 30) ?hr ?_; (case hd => rfl); (case hg => rfl); (case hr => exact qq_)
           intro gb601 hg w291 hbox hb
           have BK601 := am_ (hbox)
           have GW601 := qga_ hg
           have GE601 := qga_ hg
           replace HB := qbs_ hb
           have NB589_601 := am_ ((by rw [hg]; exact Nat.ne_of_lt (a0d (qk_ BK589)) : gb589 ≠ gb601))
           have NB601_589 := am_ ((by rw [hg]; exact Nat.ne_of_gt (a0d (qk_ BK589)) : gb601 ≠ gb589))
           replace BK589 := qkb_ BK589 hb
           have NB590_601 := am_ ((by rw [hg]; exact Nat.ne_of_lt (a0d (qk_ BK590)) : gb590 ≠ gb601))
           have NB601_590 := am_ ((by rw [hg]; exact Nat.ne_of_gt (a0d (qk_ BK590)) : gb601 ≠ gb590))
           replace BK590 := qkb_ BK590 hb
           have NB595_601 := am_ ((by rw [hg]; exact Nat.ne_of_lt (a0d (qk_ BK595)) : gb595 ≠ gb601))
           have NB601_595 := am_ ((by rw [hg]; exact Nat.ne_of_gt (a0d (qk_ BK595)) : gb601 ≠ gb595))
           replace BK595 := qkb_ BK595 hb
           clear hb hbox hg
           refine hK.out _ _ ⟨(bc_ BK590.out 0).trans rfl, (bc_ BK590.out 1).trans rfl, (bc_ BK590.out 2).trans rfl, (bc_ BK590.out 3).trans rfl, (bc_ BK590.out 4).trans rfl, (bc_ BK590.out 5).trans rfl⟩ (fun hHeld => ?_)
           clear hK K
           refine a1s (a' := ?_) ?_ ?_
           rotate_left
           ·show Act.put _ (some 20) _ = _
            exact qp_
           refine one_ (i := 2) (N := some 19) #[o_,o_,o_,o_,i_,i_] rfl rfl (by kernel_rfl) (by decide) (fun K hK => ?_)
           refine a2j ?hg (N := 19) ?hd (cs := #[.int .i64 0, .int .i64 0, .int .i64 0, .slice none 0 0, .slice none 0 0, .slice none 0 0]) (t := 30) ?hr ?_; (case hd => rfl); (case hg => rfl); (case hr => exact qq_)
           intro gb600 hg w292 hbox hb
           have BK600 := am_ (hbox)
           have GW600 := qga_ hg
           have GE600 := qga_ hg
           replace HB := qbs_ hb
           have NB589_600 := am_ ((by rw [hg]; exact Nat.ne_of_lt (a0d (qk_ BK589)) : gb589 ≠ gb600))
           have NB600_589 := am_ ((by rw [hg]; exact Nat.ne_of_gt (a0d (qk_ BK589)) : gb600 ≠ gb589))
           replace BK589 := qkb_ BK589 hb
           have NB590_600 := am_ ((by rw [hg]; exact Nat.ne_of_lt (a0d (qk_ BK590)) : gb590 ≠ gb600))
           have NB600_590 := am_ ((by rw [hg]; exact Nat.ne_of_gt (a0d (qk_ BK590)) : gb600 ≠ gb590))
           replace BK590 := qkb_ BK590 hb
           have NB595_600 := am_ ((by rw [hg]; exact Nat.ne_of_lt (a0d (qk_ BK595)) : gb595 ≠ gb600))
           have NB600_595 := am_ ((by rw [hg]; exact Nat.ne_of_gt (a0d (qk_ BK595)) : gb600 ≠ gb595))
           replace BK595 := qkb_ BK595 hb
           have NB601_600 := am_ ((by rw [hg]; exact Nat.ne_of_lt (a0d (qk_ BK601)) : gb601 ≠ gb600))
           have NB600_601 := am_ ((by rw [hg]; exact Nat.ne_of_gt (a0d (qk_ BK601)) : gb600 ≠ gb601))
           replace BK601 := qkb_ BK601 hb
           clear hb hbox hg
           refine hK.out _ _ ⟨(bc_ BK590.out 0).trans rfl, (bc_ BK590.out 1).trans rfl, (bc_ BK590.out 2).trans rfl, (bc_ BK590.out 3).trans rfl, (bc_ BK590.out 4).trans rfl, (bc_ BK590.out 5).trans rfl⟩ (fun hHeld => ?_)
           clear hK K
           refine a1s (a' := ?_) ?_ ?_
           rotate_left
           ·show Act.put _ (some 19) _ = _
            exact qp_
           exact a1s (by simp only [a3n, Act.put, List.setIfInBounds_toArray, List.set_cons_zero, List.set_cons_succ]) (hCont (gb600, gb601) _ ⟨hHeld, (qk_ BK589), (qk_ BK590), (qk_ BK595), (qk_ BK600), (qk_ BK601), GW600.out, GE600.out, NB589_600.out, NB600_589.out, NB590_600.out, NB600_590.out, NB595_600.out, NB600_595.out, NB601_600.out, NB600_601.out, GW601.out, GE601.out, NB589_601.out, NB601_589.out, NB590_601.out, NB601_590.out, NB595_601.out, NB601_595.out, qb_⟩)
         rintro ⟨gb600, gb601⟩ w293 ⟨hS_, h0_, h1_, h2_, h3_, h4_, h5_, h6_, h7_, h8_, h9_, h10_, h11_, h12_, h13_, h14_, h15_, h16_, h17_, h18_, h19_, h20_, h21_, h22_, h23_⟩
         replace BK589 : Aside0 (w293.heap[gb589]? = some (.cells #[.int .i64 a0_0, .int .i64 a0_1, .int .i64 a0_2, .int .i64 a0_3, .bool a0_4] 25 (0, 0))) := ⟨h0_⟩
         replace BK590 : Aside0 (w293.heap[gb590]? = some (.cells #[.int .i64 a1_0, .int .i64 a1_1, .int .i64 a1_2, .slice A1_3 l1_3.length c1_3, .slice A1_4 l1_4.length c1_4, .slice A1_5 l1_5.length c1_5] 30 (0, 0))) := ⟨h1_⟩
         replace BK595 : Aside0 (w293.heap[gb595]? = some (.cells #[.int .i64 ji35, .int .i64 a1_1, .int .i64 ji36, .slice A1_3 l1_3.length c1_3, .slice A1_4 l1_4.length c1_4, .slice A1_5 l1_5.length c1_5] 30 (0, 0))) := ⟨h2_⟩
         have BK600 : Aside0 (w293.heap[gb600]? = some (.cells #[.int .i64 0, .int .i64 0, .int .i64 0, .slice none 0 0, .slice none 0 0, .slice none 0 0] 30 (0, 0))) := ⟨h3_⟩
         have BK601 : Aside0 (w293.heap[gb601]? = some (.cells #[.int .i64 0, .int .i64 0, .int .i64 0, .slice none 0 0, .slice none 0 0, .slice none 0 0] 30 (0, 0))) := ⟨h4_⟩
         have GW600 : Aside0 (w.heap.size ≤ gb600) := ⟨h5_⟩
         have GE600 : Aside0 (w.heap.size ≤ gb600) := ⟨h6_⟩
         have NB589_600 : Aside0 (gb589 ≠ gb600) := ⟨h7_⟩
         have NB600_589 : Aside0 (gb600 ≠ gb589) := ⟨h8_⟩
         have NB590_600 : Aside0 (gb590 ≠ gb600) := ⟨h9_⟩
         have NB600_590 : Aside0 (gb600 ≠ gb590) := ⟨h10_⟩
         have NB595_600 : Aside0 (gb595 ≠ gb600) := ⟨h11_⟩
         have NB600_595 : Aside0 (gb600 ≠ gb595) := ⟨h12_⟩
         have NB601_600 : Aside0 (gb601 ≠ gb600) := ⟨h13_⟩
         have NB600_601 : Aside0 (gb600 ≠ gb601) := ⟨h14_⟩
         have GW601 : Aside0 (w.heap.size ≤ gb601) := ⟨h15_⟩
         have GE601 : Aside0 (w.heap.size ≤ gb601) := ⟨h16_⟩
         have NB589_601 : Aside0 (gb589 ≠ gb601) := ⟨h17_⟩
         have NB601_589 : Aside0 (gb601 ≠ gb589) := ⟨h18_⟩
         have NB590_601 : Aside0 (gb590 ≠ gb601) := ⟨h19_⟩
         have NB601_590 : Aside0 (gb601 ≠ gb590) := ⟨h20_⟩
         have NB595_601 : Aside0 (gb595 ≠ gb601) := ⟨h21_⟩
         have NB601_595 : Aside0 (gb601 ≠ gb595) := ⟨h22_⟩
         replace HB : Aside0 (Below w.heap.size w w293) := ⟨h23_⟩
         clear h0_ h1_ h2_ h3_ h4_ h5_ h6_ h7_ h8_ h9_ h10_ h11_ h12_ h13_ h14_ h15_ h16_ h17_ h18_ h19_ h20_ h21_ h22_ h23_
         have hHeld : w293.cell? ⟨gb590, 0, none⟩ = some (.int .i64 a1_0) ∧ w293.cell? ⟨gb590, 1, none⟩ = some (.int .i64 a1_1) ∧ w293.cell? ⟨gb590, 2, none⟩ = some (.int .i64 a1_2) ∧ w293.cell? ⟨gb590, 3, none⟩ = some (.slice A1_3 l1_3.length c1_3) ∧ w293.cell? ⟨gb590, 4, none⟩ = some (.slice A1_4 l1_4.length c1_4) ∧ w293.cell? ⟨gb590, 5, none⟩ = some (.slice A1_5 l1_5.length c1_5) := hS_
         refine a1s (a' := ?_) ?_ ?_
         rotate_left
         ·simp only [a3n, Act.put, List.setIfInBounds_toArray, List.set_cons_zero, List.set_cons_succ]
          rfl
         refine one_ (i := 4) (N := none) #[o_,o_,o_,o_,o_,i_] rfl rfl (by kernel_rfl) (by decide) (fun K hK => ?_)
         have hs294 : w293.cell? ⟨gb600, 0, none⟩ = some (.int .i64 0) := (bc_ BK600.out 0).trans rfl
         have hfs294 := bf_ BK600.out 0
         have hns294_0 := NB589_600.out
         have hns294_1 := NB590_600.out
         have hns294_2 := NB595_600.out
         have hns294_4 := NB601_600.out
         have hms294_0 := NB600_589.out
         have hms294_1 := NB600_590.out
         have hms294_2 := NB600_595.out
         have hms294_4 := NB600_601.out
         have hs295 : w293.cell? ⟨gb600, 1, none⟩ = some (.int .i64 0) := (bc_ BK600.out 1).trans rfl
         have hfs295 := bf_ BK600.out 1
         have hs296 : w293.cell? ⟨gb600, 2, none⟩ = some (.int .i64 0) := (bc_ BK600.out 2).trans rfl
         have hfs296 := bf_ BK600.out 2
         have hs297 : w293.cell? ⟨gb600, 3, none⟩ = some (.slice none 0 0) := (bc_ BK600.out 3).trans rfl
         have hfs297 := bf_ BK600.out 3
         have hs298 : w293.cell? ⟨gb600, 4, none⟩ = some (.slice none 0 0) := (bc_ BK600.out 4).trans rfl
         have hfs298 := bf_ BK600.out 4
         have hs299 : w293.cell? ⟨gb600, 5, none⟩ = some (.slice none 0 0) := (bc_ BK600.out 5).trans rfl
         have hfs299 := bf_ BK600.out 5
         refine a2u (w1 := ?_) (by rfl) rfl ?_ ?_
         rotate_left
         ·go_simp
          rfl
         refine hK.out _ _ (qcf_ ⟨NB590_600.out, hHeld⟩) (fun hHeld => ?_)
         clear hK K
         clear hs294 hfs294 hs295 hfs295 hs296 hfs296 hs297 hfs297 hs298 hfs298 hs299 hfs299
         refine one_ (i := 5) (N := none) #[o_,o_,o_,o_,o_,o_] rfl rfl (by kernel_rfl) (by decide) (fun K hK => ?_)
         have hs300 : w293.cell? ⟨gb601, 0, none⟩ = some (.int .i64 0) := (bc_ BK601.out 0).trans rfl
         have hfs300 := bf_ BK601.out 0
         have hns300_0 := NB589_601.out
         have hns300_1 := NB590_601.out
         have hns300_2 := NB595_601.out
         have hms300_0 := NB601_589.out
         have hms300_1 := NB601_590.out
         have hms300_2 := NB601_595.out
         have hs301 : w293.cell? ⟨gb601, 1, none⟩ = some (.int .i64 0) := (bc_ BK601.out 1).trans rfl
         have hfs301 := bf_ BK601.out 1
         have hs302 : w293.cell? ⟨gb601, 2, none⟩ = some (.int .i64 0) := (bc_ BK601.out 2).trans rfl
         have hfs302 := bf_ BK601.out 2
         have hs303 : w293.cell? ⟨gb601, 3, none⟩ = some (.slice none 0 0) := (bc_ BK601.out 3).trans rfl
         have hfs303 := bf_ BK601.out 3
         have hs304 : w293.cell? ⟨gb601, 4, none⟩ = some (.slice none 0 0) := (bc_ BK601.out 4).trans rfl
         have hfs304 := bf_ BK601.out 4
         have hs305 : w293.cell? ⟨gb601, 5, none⟩ = some (.slice none 0 0) := (bc_ BK601.out 5).trans rfl
         have hfs305 := bf_ BK601.out 5
         refine a2u (w1 := ?_) (by rfl) rfl ?_ ?_
         rotate_left
         ·go_simp
          rfl
         refine hK.out _ _ (qcf_ ⟨NB590_601.out, hHeld⟩) (fun hHeld => ?_)
         clear hK K
         clear hs300 hfs300 hs301 hfs301 hs302 hfs302 hs303 hfs303 hs304 hfs304 hs305 hfs305
         refine a3z (by kernel_rfl) ?_
         try go_wp2
         obtain ⟨w306, hW_⟩ : ∃ w_, ((((((((((((w293.setCell ⟨gb600, 0, none⟩ (.int .i64 a1_0)).setCell ⟨gb600, 1, none⟩ (.int .i64 a1_1)).setCell ⟨gb600, 2, none⟩ (.int .i64 a1_2)).setCell ⟨gb600, 3, none⟩ (.slice A1_3 l1_3.length c1_3)).setCell ⟨gb600, 4, none⟩ (.slice A1_4 l1_4.length c1_4)).setCell ⟨gb600, 5, none⟩ (.slice A1_5 l1_5.length c1_5)).setCell ⟨gb601, 0, none⟩ (.int .i64 a1_0)).setCell ⟨gb601, 1, none⟩ (.int .i64 a1_1)).setCell ⟨gb601, 2, none⟩ (.int .i64 a1_2)).setCell ⟨gb601, 3, none⟩ (.slice A1_3 l1_3.length c1_3)).setCell ⟨gb601, 4, none⟩ (.slice A1_4 l1_4.length c1_4)).setCell ⟨gb601, 5, none⟩ (.slice A1_5 l1_5.length c1_5)) = w_ := ⟨_, rfl⟩
         have n0_ : Aside0 (w306.heap[gb589]? = some (.cells #[.int .i64 a0_0, .int .i64 a0_1, .int .i64 a0_2, .int .i64 a0_3, .bool a0_4] 25 (0, 0))) := ⟨by rw [← hW_]; (iterate 6 (refine qd_ ?_; refine a0e ?_ NB589_601.out _)); (iterate 6 (refine qd_ ?_; refine a0e ?_ NB589_600.out _)); refine qd_ ?_; exact BK589.out⟩
         have n1_ : Aside0 (w306.heap[gb590]? = some (.cells #[.int .i64 a1_0, .int .i64 a1_1, .int .i64 a1_2, .slice A1_3 l1_3.length c1_3, .slice A1_4 l1_4.length c1_4, .slice A1_5 l1_5.length c1_5] 30 (0, 0))) := ⟨by rw [← hW_]; (iterate 6 (refine qd_ ?_; refine a0e ?_ NB590_601.out _)); (iterate 6 (refine qd_ ?_; refine a0e ?_ NB590_600.out _)); refine qd_ ?_; exact BK590.out⟩
         have n2_ : Aside0 (w306.heap[gb595]? = some (.cells #[.int .i64 ji35, .int .i64 a1_1, .int .i64 ji36, .slice A1_3 l1_3.length c1_3, .slice A1_4 l1_4.length c1_4, .slice A1_5 l1_5.length c1_5] 30 (0, 0))) := ⟨by rw [← hW_]; (iterate 6 (refine qd_ ?_; refine a0e ?_ NB595_601.out _)); (iterate 6 (refine qd_ ?_; refine a0e ?_ NB595_600.out _)); refine qd_ ?_; exact BK595.out⟩
         have n3_ : Aside0 (w306.heap[gb600]? = some (.cells #[.int .i64 a1_0, .int .i64 a1_1, .int .i64 a1_2, .slice A1_3 l1_3.length c1_3, .slice A1_4 l1_4.length c1_4, .slice A1_5 l1_5.length c1_5] 30 (0, 0))) := ⟨by rw [← hW_]; (iterate 6 (refine qd_ ?_; refine a0e ?_ NB600_601.out _)); refine qd_ ?_; refine a0c (cs := #[.int .i64 a1_0, .int .i64 a1_1, .int .i64 a1_2, .slice A1_3 l1_3.length c1_3, .slice A1_4 l1_4.length c1_4, .slice none 0 0]) ?_ 5 _ rfl; refine qd_ ?_; refine a0c (cs := #[.int .i64 a1_0, .int .i64 a1_1, .int .i64 a1_2, .slice A1_3 l1_3.length c1_3, .slice none 0 0, .slice none 0 0]) ?_ 4 _ rfl; refine qd_ ?_; refine a0c (cs := #[.int .i64 a1_0, .int .i64 a1_1, .int .i64 a1_2, .slice none 0 0, .slice none 0 0, .slice none 0 0]) ?_ 3 _ rfl; refine qd_ ?_; refine a0c (cs := #[.int .i64 a1_0, .int .i64 a1_1, .int .i64 0, .slice none 0 0, .slice none 0 0, .slice none 0 0]) ?_ 2 _ rfl; refine qd_ ?_; refine a0c (cs := #[.int .i64 a1_0, .int .i64 0, .int .i64 0, .slice none 0 0, .slice none 0 0, .slice none 0 0]) ?_ 1 _ rfl; refine qd_ ?_; refine a0c (cs := #[.int .i64 0, .int .i64 0, .int .i64 0, .slice none 0 0, .slice none 0 0, .slice none 0 0]) ?_ 0 _ rfl; refine qd_ ?_; exact BK600.out⟩
         have n4_ : Aside0 (w306.heap[gb601]? = some (.cells #[.int .i64 a1_0, .int .i64 a1_1, .int .i64 a1_2, .slice A1_3 l1_3.length c1_3, .slice A1_4 l1_4.length c1_4, .slice A1_5 l1_5.length c1_5] 30 (0, 0))) := ⟨by rw [← hW_]; refine qd_ ?_; refine a0c (cs := #[.int .i64 a1_0, .int .i64 a1_1, .int .i64 a1_2, .slice A1_3 l1_3.length c1_3, .slice A1_4 l1_4.length c1_4, .slice none 0 0]) ?_ 5 _ rfl; refine qd_ ?_; refine a0c (cs := #[.int .i64 a1_0, .int .i64 a1_1, .int .i64 a1_2, .slice A1_3 l1_3.length c1_3, .slice none 0 0, .slice none 0 0]) ?_ 4 _ rfl; refine qd_ ?_; refine a0c (cs := #[.int .i64 a1_0, .int .i64 a1_1, .int .i64 a1_2, .slice none 0 0, .slice none 0 0, .slice none 0 0]) ?_ 3 _ rfl; refine qd_ ?_; refine a0c (cs := #[.int .i64 a1_0, .int .i64 a1_1, .int .i64 0, .slice none 0 0, .slice none 0 0, .slice none 0 0]) ?_ 2 _ rfl; refine qd_ ?_; refine a0c (cs := #[.int .i64 a1_0, .int .i64 0, .int .i64 0, .slice none 0 0, .slice none 0 0, .slice none 0 0]) ?_ 1 _ rfl; refine qd_ ?_; refine a0c (cs := #[.int .i64 0, .int .i64 0, .int .i64 0, .slice none 0 0, .slice none 0 0, .slice none 0 0]) ?_ 0 _ rfl; (iterate 6 (refine qd_ ?_; refine a0e ?_ NB601_600.out _)); refine qd_ ?_; exact BK601.out⟩
         have n5_ : Aside0 (Below w.heap.size w w306) := ⟨by rw [← hW_]; exact qb_⟩
         (try clear BK589)
         (try clear BK590)
         (try clear BK595)
         (try clear BK600)
         (try clear BK601)
         (try clear HB)
         rw [hW_]
         clear hW_
         have BK589 := n0_
         have BK590 := n1_
         have BK595 := n2_
         have BK600 := n3_
         have BK601 := n4_
         have HB := n5_
         clear n0_ n1_ n2_ n3_ n4_ n5_
         replace BK589 := am_ (bd_ BK589.out)
         replace BK590 := am_ (bd_ BK590.out)
         replace BK595 := am_ (bd_ BK595.out)
         replace BK600 := am_ (bd_ BK600.out)
         replace BK601 := am_ (bd_ BK601.out)
         replace HB := am_ (ld_ HB.out)
         refine a3l (n := 9) (S := fun w' => w'.cell? ⟨gb590, 0, none⟩ = some (.int .i64 a1_0) ∧ w'.cell? ⟨gb590, 1, none⟩ = some (.int .i64 a1_1) ∧ w'.cell? ⟨gb590, 2, none⟩ = some (.int .i64 a1_2) ∧ w'.cell? ⟨gb590, 3, none⟩ = some (.slice A1_3 l1_3.length c1_3) ∧ w'.cell? ⟨gb590, 4, none⟩ = some (.slice A1_4 l1_4.length c1_4) ∧ w'.cell? ⟨gb590, 5, none⟩ = some (.slice A1_5 l1_5.length c1_5)) (ds := []) #[i_,i_,i_,i_,i_,i_,i_,i_,i_] (by kernel_rfl) rfl rfl ⟨(bc_ BK590.out 0).trans rfl, (bc_ BK590.out 1).trans rfl, (bc_ BK590.out 2).trans rfl, (bc_ BK590.out 3).trans rfl, (bc_ BK590.out 4).trans rfl, (bc_ BK590.out 5).trans rfl⟩ (fun hHeld => ?_); refine a3f a0b.a7a a0b.a6d (fun HT_ HW_ => ?_)
         generalize w306.drew = w307 at BK589 BK590 BK595 BK600 BK601 HB hHeld ⊢
         refine qpu_ 0 (some 92) #[o_,i_,i_,i_,i_,i_,i_,i_,i_] ?_
         refine qpu_ 3 (some 95) #[o_,i_,i_,o_,i_,i_,i_,i_,i_] ?_
         refine a2o (i := 1) (N := some 93) (v := ?_) (a' := ?_) #[o_,o_,i_,o_,i_,i_,i_,i_,i_] rfl rfl (a2s HT_.out HW_.out (by kernel_rfl)) (fun _ _ _ h => h) (Or.inl ⟨by rfl, ?_⟩) hHeld ?_ ?_
         rotate_left
         ·rintro w' ⟨s0, s1, s2, s3, s4, s5⟩
          go_simp
          with_reducible rfl
         rotate_left
         ·exact qp_
         refine qpu_ 2 (some 94) #[o_,o_,o_,o_,i_,i_,i_,i_,i_] ?_
         refine one_ (i := 4) (N := none) #[o_,o_,o_,o_,o_,i_,i_,i_,i_] rfl rfl (a1z HT_.out (by kernel_rfl)) (by decide) (fun K hK => ?_)
         have hs308 : w307.cell? ⟨gb600, 1, none⟩ = some (.int .i64 a1_1) := (bc_ BK600.out 1).trans rfl
         have hfs308 := bf_ BK600.out 1
         refine a2u (w1 := ?_) (by rfl) rfl ?_ ?_
         rotate_left
         ·go_simp
          rfl
         refine hK.out _ _ (qcf_ ⟨NB590_600.out, hHeld⟩) (fun hHeld => ?_)
         clear hK K
         clear hs308 hfs308
         refine qpu_ 5 (some 96) #[o_,o_,o_,o_,o_,o_,i_,i_,i_] ?_
         refine one_ (i := 6) (N := none) #[o_,o_,o_,o_,o_,o_,o_,i_,i_] rfl rfl (a1z HT_.out (by kernel_rfl)) (by decide) (fun K hK => ?_)
         have hs309 : w307.cell? ⟨gb601, 1, none⟩ = some (.int .i64 a1_1) := (bc_ BK601.out 1).trans rfl
         have hfs309 := bf_ BK601.out 1
         refine a2u (w1 := ?_) (by rfl) rfl ?_ ?_
         rotate_left
         ·go_simp
          rfl
         refine hK.out _ _ (qcf_ ⟨NB590_601.out, hHeld⟩) (fun hHeld => ?_)
         clear hK K
         clear hs309 hfs309
         refine qpu_ 7 (some 97) #[o_,o_,o_,o_,o_,o_,o_,o_,i_] ?_
         refine one_ (i := 8) (N := none) #[o_,o_,o_,o_,o_,o_,o_,o_,o_] rfl rfl (a1z HT_.out (by kernel_rfl)) (by decide) (fun K hK => ?_)
         have hs310 : w307.cell? ⟨gb601, 0, none⟩ = some (.int .i64 a1_0) := (bc_ BK601.out 0).trans rfl
         have hfs310 := bf_ BK601.out 0
         refine a2u (w1 := ?_) (by rfl) rfl ?_ ?_
         rotate_left
         ·go_simp
          rfl
         refine hK.out _ _ (qcf_ ⟨NB590_601.out, hHeld⟩) (fun hHeld => ?_)
         clear hK K
         clear hs310 hfs310
         refine a3z (a3x HT_.out (by kernel_rfl)) ?_
         have hnb311 := NB589_590.out
         have hnc311 := NB590_589.out
         have hnb312 := NB589_595.out
         have hnc312 := NB595_589.out
         have hnb313 := NB589_600.out
         have hnc313 := NB600_589.out
         have hnb314 := NB589_601.out
         have hnc314 := NB601_589.out
         obtain ⟨z'315_0, z'315_1, z'315_2, z'315_3, z'315_4⟩ := qz5_ BK589; obtain ⟨y'315_0, y'315_1, y'315_2, y'315_3, y'315_4⟩ := qf5_ BK589
         have hnb316 := NB600_590.out
         have hnc316 := NB590_600.out
         have hnb317 := NB600_595.out
         have hnc317 := NB595_600.out
         have hnb318 := NB600_601.out
         have hnc318 := NB601_600.out
         obtain ⟨z'319_0, z'319_1, z'319_2, z'319_3, z'319_4, z'319_5⟩ := qz6_ BK600; obtain ⟨y'319_0, y'319_1, y'319_2, y'319_3, y'319_4, y'319_5⟩ := qf6_ BK600
         try go_wp2_with (first | ((with_reducible refine a0g (f := 27) rfl ?_); refine a0t (some 103) rfl rfl Try.func27 (by kernel_rfl) rfl #[.agg #[.int .i64 a0_0, .int .i64 a0_1, .int .i64 a0_2, .int .i64 a0_3, .bool a0_4], .agg #[.int .i64 a1_0, .int .i64 2, .int .i64 a1_2, .slice A1_3 l1_3.length c1_3, .slice A1_4 l1_4.length c1_4, .slice A1_5 l1_5.length c1_5], .string a2, .slice A3 l3.length c3, .int .i64 1] rfl ql_ ?_; (with_reducible refine (a1p.calls kj38 a0_0 a0_1 a0_2 a0_3 a0_4 a1_0 2 a1_2 _ _ l1_3 _ _ l1_4 _ _ l1_5 a2 _ _ l3 1 t602 t603 _ ?s1 ?s2 ?s3 ?s4 ?s5 ?s6 ?s7 ?s8 A60.out).mono ?_); (case s1 => exact Kd.a0r HR1_3.out qb_); (case s2 => exact HC1_3.out); (case s3 => exact Kd.a0r HR1_4.out qb_); (case s4 => exact HC1_4.out); (case s5 => exact Kd.a0r HR1_5.out qb_); (case s6 => exact HC1_5.out); (case s7 => exact Kd.a0r HR3.out qb_); (case s8 => exact HC3.out); rintro e w320 ⟨rfl, hb⟩; refine ⟨_, rfl, ?_⟩; replace BK589 := am_ (a0v (g := gb589) (o := .cells #[.int .i64 a0_0, .int .i64 a0_1, .int .i64 a0_2, .int .i64 a0_3, .bool a0_4] 25 (0, 0)) (by (iterate 2 (refine qd_ ?_; refine a0e ?_ NB589_601.out _)); refine qd_ ?_; refine a0e ?_ NB589_600.out _; refine qd_ ?_; exact BK589.out) hb); replace BK590 := am_ (a0v (g := gb590) (o := .cells #[.int .i64 a1_0, .int .i64 a1_1, .int .i64 a1_2, .slice A1_3 l1_3.length c1_3, .slice A1_4 l1_4.length c1_4, .slice A1_5 l1_5.length c1_5] 30 (0, 0)) (by (iterate 2 (refine qd_ ?_; refine a0e ?_ NB590_601.out _)); refine qd_ ?_; refine a0e ?_ NB590_600.out _; refine qd_ ?_; exact BK590.out) hb); replace BK595 := am_ (a0v (g := gb595) (o := .cells #[.int .i64 ji35, .int .i64 a1_1, .int .i64 ji36, .slice A1_3 l1_3.length c1_3, .slice A1_4 l1_4.length c1_4, .slice A1_5 l1_5.length c1_5] 30 (0, 0)) (by (iterate 2 (refine qd_ ?_; refine a0e ?_ NB595_601.out _)); refine qd_ ?_; refine a0e ?_ NB595_600.out _; refine qd_ ?_; exact BK595.out) hb); replace BK600 := am_ (a0v (g := gb600) (o := .cells #[.int .i64 a1_0, .int .i64 2, .int .i64 a1_2, .slice A1_3 l1_3.length c1_3, .slice A1_4 l1_4.length c1_4, .slice A1_5 l1_5.length c1_5] 30 (0, 0)) (by (iterate 2 (refine qd_ ?_; refine a0e ?_ NB600_601.out _)); refine qd_ ?_; refine a0c (cs := #[.int .i64 a1_0, .int .i64 a1_1, .int .i64 a1_2, .slice A1_3 l1_3.length c1_3, .slice A1_4 l1_4.length c1_4, .slice A1_5 l1_5.length c1_5]) ?_ 1 _ rfl; refine qd_ ?_; exact BK600.out) hb); replace BK601 := am_ (a0v (g := gb601) (o := .cells #[.int .i64 (wrap64 (a1_0 + 3)), .int .i64 1, .int .i64 a1_2, .slice A1_3 l1_3.length c1_3, .slice A1_4 l1_4.length c1_4, .slice A1_5 l1_5.length c1_5] 30 (0, 0)) (by refine qd_ ?_; refine a0c (cs := #[.int .i64 a1_0, .int .i64 1, .int .i64 a1_2, .slice A1_3 l1_3.length c1_3, .slice A1_4 l1_4.length c1_4, .slice A1_5 l1_5.length c1_5]) ?_ 0 _ rfl; refine qd_ ?_; refine a0c (cs := #[.int .i64 a1_0, .int .i64 a1_1, .int .i64 a1_2, .slice A1_3 l1_3.length c1_3, .slice A1_4 l1_4.length c1_4, .slice A1_5 l1_5.length c1_5]) ?_ 1 _ rfl; refine qd_ ?_; refine a0e ?_ NB601_600.out _; refine qd_ ?_; exact BK601.out) hb); replace HB := qbs_ hb; (try clear hb); (try clear hb2); (try clear hk); (try clear hi); have hnb321 := NB601_590.out; have hnc321 := NB590_601.out; have hnb322 := NB601_595.out; have hnc322 := NB595_601.out; obtain ⟨z'323_0, z'323_1, z'323_2, z'323_3, z'323_4, z'323_5⟩ := qz6_ BK601; obtain ⟨y'323_0, y'323_1, y'323_2, y'323_3, y'323_4, y'323_5⟩ := qf6_ BK601; have hnb324 := NB590_595.out; have hnc324 := NB595_590.out; obtain ⟨z'325_0, z'325_1, z'325_2, z'325_3, z'325_4, z'325_5⟩ := qz6_ BK590; obtain ⟨y'325_0, y'325_1, y'325_2, y'325_3, y'325_4, y'325_5⟩ := qf6_ BK590; obtain ⟨z'326_0, z'326_1, z'326_2, z'326_3, z'326_4⟩ := qz5_ BK589; obtain ⟨y'326_0, y'326_1, y'326_2, y'326_3, y'326_4⟩ := qf5_ BK589) | ((with_reducible refine a0g (f := 27) rfl ?_); refine a0t (some 123) rfl rfl Try.func27 (by kernel_rfl) rfl #[.agg #[.int .i64 a0_0, .int .i64 a0_1, .int .i64 a0_2, .int .i64 a0_3, .bool a0_4], .agg #[.int .i64 (wrap64 (a1_0 + 3)), .int .i64 1, .int .i64 a1_2, .slice A1_3 l1_3.length c1_3, .slice A1_4 l1_4.length c1_4, .slice A1_5 l1_5.length c1_5], .string a2, .slice A3 l3.length c3, .int .i64 1] rfl ql_ ?_; (with_reducible refine (a1p.calls kj38 a0_0 a0_1 a0_2 a0_3 a0_4 (wrap64 (a1_0 + 3)) 1 a1_2 _ _ l1_3 _ _ l1_4 _ _ l1_5 a2 _ _ l3 1 t604 t605 _ ?s1 ?s2 ?s3 ?s4 ?s5 ?s6 ?s7 ?s8 A172.out).mono ?_); (case s1 => exact qc_ HR1_3); (case s2 => exact HC1_3.out); (case s3 => exact qc_ HR1_4); (case s4 => exact HC1_4.out); (case s5 => exact qc_ HR1_5); (case s6 => exact HC1_5.out); (case s7 => exact qc_ HR3); (case s8 => exact HC3.out); rintro e w327 ⟨rfl, hb⟩; refine ⟨_, rfl, ?_⟩; replace BK589 := qkb_ BK589 hb; replace BK590 := qkb_ BK590 hb; replace BK595 := qkb_ BK595 hb; replace BK600 := qkb_ BK600 hb; replace BK601 := qkb_ BK601 hb; replace HB := qbs_ hb; (try clear hb); (try clear hb2); (try clear hk); (try clear hi)))
         go_ret
         exact ⟨by first | rfl | (simp [a2g, a2h] <;> rfl) | (simp only [← hji35, ← hji36]; first | rfl | (simp [a2g, a2h] <;> rfl)) | (simp [*, a2g, a2h] <;> rfl), qb_⟩
end Go.Proofs.Ytemnlgefngjliaa.Px
