/- Contracts of Go functions, printed. Conditions: as each theorem states. -/
import Derived.Test.YtfbgkcadnmcakaaPx0
import Derived.Test.YtfbgkcadnmcakaaPx11
import Derived.Test.YtfbgkcadnmcakaaPx12
import Derived.Test.YtfbgkcadnmcakaaPx16
namespace Go.Proofs.Ytfbgkcadnmcakaa.Px
open Go.Proofs.Ytfbgkcadnmcakaa.Given
open Go.RowKit Go.Proofs.YtfbgkcadnmcakaaW.PrintWords Go.Proofs.YtfbgkcadnmcakaaW.PrintLast Go.Proofs.YtfbgkcadnmcakaaW.PrintMore
attribute [local go_sem] a2q a2l a2x a2u a2i a2j a2r a2s
set_option linter.unusedVariables false
set_option linter.unusedSimpArgs false
mutual
def a0c.j0 : Nat → List (S30) → List (S26) → Int → Int → List Int → Int → Bool → Bool → Option (Bool)
 | 0, _, _, _, _, _, _, _, _ => none
 | k + 1, x0, x1, x2, x3, x4, x5, x13, x40 => if x40 = true then (some x13) else ((a0h.f k x0 x1 x2 x4 x5).bind fun bt473 => ((a0h.f k x0 x1 x3 x4 x5).bind fun bt477 => (if bt473.2 = 0 then (a0c.j1 k x0 x1 x2 x3 x4 x5 x13 bt473.1 bt477.1 (bt477.2 != 0)) else (a0c.j1 k x0 x1 x2 x3 x4 x5 x13 bt473.1 bt477.1 true))))
def a0c.j1 : Nat → List (S30) → List (S26) → Int → Int → List Int → Int → Bool → List Int → List Int → Bool → Option (Bool)
 | 0, _, _, _, _, _, _, _, _, _, _ => none
 | k + 1, x0, x1, x2, x3, x4, x5, x13, x14, x16, x65 => if x65 = true then (some x13) else (a0c.l0 k x0 x1 x2 x3 x4 x5 x13 x14 x16 x0 (x0.length : Int) 0)
def a0c.l0 : Nat → List (S30) → List (S26) → Int → Int → List Int → Int → Bool → List Int → List Int → List (S30) → Int → Int → Option (Bool)
 | 0, _, _, _, _, _, _, _, _, _, _, _, _ => none
 | k + 1, x0, x1, x2, x3, x4, x5, x13, x14, x16, x67, x68, x69 => if x69 < x68 then (if 0 ≤ x69 then (if x69 < (x67.length : Int) then (a0c.l1 k x0 x1 x2 x3 x4 x5 x13 x14 x16 false false false x67 x68 x69 x14 (x14.length : Int) 0 ((a0b x67 x69).f0) ((a0b x67 x69).f1) ((a0b x67 x69).f2) ((a0b x67 x69).f3) ((a0b x67 x69).f4.f0) ((a0b x67 x69).f4.f1)) else (none)) else (none)) else (if x13 = true then (some (decide ((x14.length : Int) ≤ (x0.length : Int)))) else (some false))
def a0c.l1 : Nat → List (S30) → List (S26) → Int → Int → List Int → Int → Bool → List Int → List Int → Bool → Bool → Bool → List (S30) → Int → Int → List Int → Int → Int → Int → Int → Int → Int → Int → Int → Option (Bool)
 | 0, _, _, _, _, _, _, _, _, _, _, _, _, _, _, _, _, _, _, _, _, _, _, _, _ => none
 | k + 1, x0, x1, x2, x3, x4, x5, x13, x14, x16, x20, x21, x22, x67, x68, x69, x73, x74, x75, u0, u1, u2, u3, u4, u5 => if x75 < x74 then (if 0 ≤ x75 then (if x75 < (x73.length : Int) then (if x20 = true then (a0c.l1 k x0 x1 x2 x3 x4 x5 x13 x14 x16 true x21 x22 x67 x68 x69 x73 x74 (wrap64 (x75 + 1)) u0 u1 u2 u3 u4 u5) else (a0c.l1 k x0 x1 x2 x3 x4 x5 x13 x14 x16 ((rd x73 x75) == u0) x21 x22 x67 x68 x69 x73 x74 (wrap64 (x75 + 1)) u0 u1 u2 u3 u4 u5)) else (none)) else (none)) else (a0c.l2 k x0 x1 x2 x3 x4 x5 x13 x14 x16 x20 x21 x22 x67 x68 x69 x16 (x16.length : Int) 0 u0 u1 u2 u3 u4 u5)
def a0c.l2 : Nat → List (S30) → List (S26) → Int → Int → List Int → Int → Bool → List Int → List Int → Bool → Bool → Bool → List (S30) → Int → Int → List Int → Int → Int → Int → Int → Int → Int → Int → Int → Option (Bool)
 | 0, _, _, _, _, _, _, _, _, _, _, _, _, _, _, _, _, _, _, _, _, _, _, _, _ => none
 | k + 1, x0, x1, x2, x3, x4, x5, x13, x14, x16, x20, x21, x22, x67, x68, x69, x87, x88, x89, u0, u1, u2, u3, u4, u5 => if x89 < x88 then (if 0 ≤ x89 then (if x89 < (x87.length : Int) then (if x21 = true then (a0c.l2 k x0 x1 x2 x3 x4 x5 x13 x14 x16 x20 true x22 x67 x68 x69 x87 x88 (wrap64 (x89 + 1)) u0 u1 u2 u3 u4 u5) else (a0c.l2 k x0 x1 x2 x3 x4 x5 x13 x14 x16 x20 ((rd x87 x89) == u0) x22 x67 x68 x69 x87 x88 (wrap64 (x89 + 1)) u0 u1 u2 u3 u4 u5)) else (none)) else (none)) else (a0c.l3 k x0 x1 x2 x3 x4 x5 x13 x14 x16 x20 x21 x22 x67 x68 x69 x4 (x4.length : Int) 0 u0 u1 u2 u3 u4 u5)
def a0c.l3 : Nat → List (S30) → List (S26) → Int → Int → List Int → Int → Bool → List Int → List Int → Bool → Bool → Bool → List (S30) → Int → Int → List Int → Int → Int → Int → Int → Int → Int → Int → Int → Option (Bool)
 | 0, _, _, _, _, _, _, _, _, _, _, _, _, _, _, _, _, _, _, _, _, _, _, _, _ => none
 | k + 1, x0, x1, x2, x3, x4, x5, x13, x14, x16, x20, x21, x22, x67, x68, x69, x101, x102, x103, u0, u1, u2, u3, u4, u5 => if x103 < x102 then (if 0 ≤ x103 then (if x103 < (x101.length : Int) then (if x22 = true then (a0c.l3 k x0 x1 x2 x3 x4 x5 x13 x14 x16 x20 x21 true x67 x68 x69 x101 x102 (wrap64 (x103 + 1)) u0 u1 u2 u3 u4 u5) else (a0c.l3 k x0 x1 x2 x3 x4 x5 x13 x14 x16 x20 x21 ((rd x101 x103) == u1) x67 x68 x69 x101 x102 (wrap64 (x103 + 1)) u0 u1 u2 u3 u4 u5)) else (none)) else (none)) else ((a0o.f k u0 u1 u2 u3 u4 u5 x1 x5).bind fun bt486 => (if u4 ≤ x5 then (if x5 < u5 then (if x22 = true then (if x13 = true then (if bt486.2 = 0 then (if (x20 == (bt486.1 == x2)) = true then (if x2 = x3 then (a0c.l0 k x0 x1 x2 x3 x4 x5 true x14 x16 x67 x68 (wrap64 (x69 + 1))) else (if x20 = true then (a0c.l0 k x0 x1 x2 x3 x4 x5 (!x21) x14 x16 x67 x68 (wrap64 (x69 + 1))) else (a0c.l0 k x0 x1 x2 x3 x4 x5 true x14 x16 x67 x68 (wrap64 (x69 + 1))))) else (a0c.l0 k x0 x1 x2 x3 x4 x5 false x14 x16 x67 x68 (wrap64 (x69 + 1)))) else (a0c.l0 k x0 x1 x2 x3 x4 x5 false x14 x16 x67 x68 (wrap64 (x69 + 1)))) else (a0c.l0 k x0 x1 x2 x3 x4 x5 false x14 x16 x67 x68 (wrap64 (x69 + 1)))) else (if x13 = true then (if bt486.2 = 0 then (if (x20 == false) = true then (if x2 = x3 then (a0c.l0 k x0 x1 x2 x3 x4 x5 true x14 x16 x67 x68 (wrap64 (x69 + 1))) else (if x20 = true then (a0c.l0 k x0 x1 x2 x3 x4 x5 (!x21) x14 x16 x67 x68 (wrap64 (x69 + 1))) else (a0c.l0 k x0 x1 x2 x3 x4 x5 true x14 x16 x67 x68 (wrap64 (x69 + 1))))) else (a0c.l0 k x0 x1 x2 x3 x4 x5 false x14 x16 x67 x68 (wrap64 (x69 + 1)))) else (a0c.l0 k x0 x1 x2 x3 x4 x5 false x14 x16 x67 x68 (wrap64 (x69 + 1)))) else (a0c.l0 k x0 x1 x2 x3 x4 x5 false x14 x16 x67 x68 (wrap64 (x69 + 1))))) else (if x13 = true then (if bt486.2 = 0 then (if (x20 == false) = true then (if x2 = x3 then (a0c.l0 k x0 x1 x2 x3 x4 x5 true x14 x16 x67 x68 (wrap64 (x69 + 1))) else (if x20 = true then (a0c.l0 k x0 x1 x2 x3 x4 x5 (!x21) x14 x16 x67 x68 (wrap64 (x69 + 1))) else (a0c.l0 k x0 x1 x2 x3 x4 x5 true x14 x16 x67 x68 (wrap64 (x69 + 1))))) else (a0c.l0 k x0 x1 x2 x3 x4 x5 false x14 x16 x67 x68 (wrap64 (x69 + 1)))) else (a0c.l0 k x0 x1 x2 x3 x4 x5 false x14 x16 x67 x68 (wrap64 (x69 + 1)))) else (a0c.l0 k x0 x1 x2 x3 x4 x5 false x14 x16 x67 x68 (wrap64 (x69 + 1))))) else (if x13 = true then (if bt486.2 = 0 then (if (x20 == false) = true then (if x2 = x3 then (a0c.l0 k x0 x1 x2 x3 x4 x5 true x14 x16 x67 x68 (wrap64 (x69 + 1))) else (if x20 = true then (a0c.l0 k x0 x1 x2 x3 x4 x5 (!x21) x14 x16 x67 x68 (wrap64 (x69 + 1))) else (a0c.l0 k x0 x1 x2 x3 x4 x5 true x14 x16 x67 x68 (wrap64 (x69 + 1))))) else (a0c.l0 k x0 x1 x2 x3 x4 x5 false x14 x16 x67 x68 (wrap64 (x69 + 1)))) else (a0c.l0 k x0 x1 x2 x3 x4 x5 false x14 x16 x67 x68 (wrap64 (x69 + 1)))) else (a0c.l0 k x0 x1 x2 x3 x4 x5 false x14 x16 x67 x68 (wrap64 (x69 + 1))))))
end
def a0c.f (k : Nat) (l0 : List (S30)) (l1 : List (S26)) (a2 a3 : Int) (l4 : List Int) (a5 : Int) : Option (Bool) := (a0e.f k).bind fun t472 => (if (l1.length : Int) > 100 then (a0c.j0 k l0 l1 a2 a3 l4 a5 t472 true) else (a0c.j0 k l0 l1 a2 a3 l4 a5 t472 (decide ((l4.length : Int) > 100))))
theorem a0c.a1p : ∀ k, (∀ y0 y1 y2 y3 y4 y5 y6 y7, LeO (a0c.j0 k y0 y1 y2 y3 y4 y5 y6 y7) (a0c.j0 (k + 1) y0 y1 y2 y3 y4 y5 y6 y7)) ∧ (∀ y0 y1 y2 y3 y4 y5 y6 y7 y8 y9, LeO (a0c.j1 k y0 y1 y2 y3 y4 y5 y6 y7 y8 y9) (a0c.j1 (k + 1) y0 y1 y2 y3 y4 y5 y6 y7 y8 y9)) ∧ (∀ y0 y1 y2 y3 y4 y5 y6 y7 y8 y9 y10 y11, LeO (a0c.l0 k y0 y1 y2 y3 y4 y5 y6 y7 y8 y9 y10 y11) (a0c.l0 (k + 1) y0 y1 y2 y3 y4 y5 y6 y7 y8 y9 y10 y11)) ∧ (∀ y0 y1 y2 y3 y4 y5 y6 y7 y8 y9 y10 y11 y12 y13 y14 y15 y16 y17 y18 y19 y20 y21 y22 y23, LeO (a0c.l1 k y0 y1 y2 y3 y4 y5 y6 y7 y8 y9 y10 y11 y12 y13 y14 y15 y16 y17 y18 y19 y20 y21 y22 y23) (a0c.l1 (k + 1) y0 y1 y2 y3 y4 y5 y6 y7 y8 y9 y10 y11 y12 y13 y14 y15 y16 y17 y18 y19 y20 y21 y22 y23)) ∧ (∀ y0 y1 y2 y3 y4 y5 y6 y7 y8 y9 y10 y11 y12 y13 y14 y15 y16 y17 y18 y19 y20 y21 y22 y23, LeO (a0c.l2 k y0 y1 y2 y3 y4 y5 y6 y7 y8 y9 y10 y11 y12 y13 y14 y15 y16 y17 y18 y19 y20 y21 y22 y23) (a0c.l2 (k + 1) y0 y1 y2 y3 y4 y5 y6 y7 y8 y9 y10 y11 y12 y13 y14 y15 y16 y17 y18 y19 y20 y21 y22 y23)) ∧ (∀ y0 y1 y2 y3 y4 y5 y6 y7 y8 y9 y10 y11 y12 y13 y14 y15 y16 y17 y18 y19 y20 y21 y22 y23, LeO (a0c.l3 k y0 y1 y2 y3 y4 y5 y6 y7 y8 y9 y10 y11 y12 y13 y14 y15 y16 y17 y18 y19 y20 y21 y22 y23) (a0c.l3 (k + 1) y0 y1 y2 y3 y4 y5 y6 y7 y8 y9 y10 y11 y12 y13 y14 y15 y16 y17 y18 y19 y20 y21 y22 y23))
 | 0 => ⟨fun _ _ _ _ _ _ _ _ r h => by simp [a0c.j0] at h, fun _ _ _ _ _ _ _ _ _ _ r h => by simp [a0c.j1] at h, fun _ _ _ _ _ _ _ _ _ _ _ _ r h => by simp [a0c.l0] at h, fun _ _ _ _ _ _ _ _ _ _ _ _ _ _ _ _ _ _ _ _ _ _ _ _ r h => by simp [a0c.l1] at h, fun _ _ _ _ _ _ _ _ _ _ _ _ _ _ _ _ _ _ _ _ _ _ _ _ r h => by simp [a0c.l2] at h, fun _ _ _ _ _ _ _ _ _ _ _ _ _ _ _ _ _ _ _ _ _ _ _ _ r h => by simp [a0c.l3] at h⟩
 | k + 1 => by
  obtain ⟨ih0, ih1, ih2, ih3, ih4, ih5⟩ := a0c.a1p k
  refine ⟨?_, ?_, ?_, ?_, ?_, ?_⟩
  ·intro y0 y1 y2 y3 y4 y5 y6 y7
   unfold a0c.j0
   with_reducible (repeat' first | apply ih0 | apply ih1 | apply ih2 | apply ih3 | apply ih4 | apply ih5 | apply a0o.mono | apply a0h.mono | apply a0e.mono | apply LeO.refl | apply LeO.none | apply LeO.ite | refine LeO.bind ?_ (fun _ => ?_))
  ·intro y0 y1 y2 y3 y4 y5 y6 y7 y8 y9
   unfold a0c.j1
   with_reducible (repeat' first | apply ih0 | apply ih1 | apply ih2 | apply ih3 | apply ih4 | apply ih5 | apply a0o.mono | apply a0h.mono | apply a0e.mono | apply LeO.refl | apply LeO.none | apply LeO.ite | refine LeO.bind ?_ (fun _ => ?_))
  ·intro y0 y1 y2 y3 y4 y5 y6 y7 y8 y9 y10 y11
   unfold a0c.l0
   with_reducible (repeat' first | apply ih0 | apply ih1 | apply ih2 | apply ih3 | apply ih4 | apply ih5 | apply a0o.mono | apply a0h.mono | apply a0e.mono | apply LeO.refl | apply LeO.none | apply LeO.ite | refine LeO.bind ?_ (fun _ => ?_))
  ·intro y0 y1 y2 y3 y4 y5 y6 y7 y8 y9 y10 y11 y12 y13 y14 y15 y16 y17 y18 y19 y20 y21 y22 y23
   unfold a0c.l1
   with_reducible (repeat' first | apply ih0 | apply ih1 | apply ih2 | apply ih3 | apply ih4 | apply ih5 | apply a0o.mono | apply a0h.mono | apply a0e.mono | apply LeO.refl | apply LeO.none | apply LeO.ite | refine LeO.bind ?_ (fun _ => ?_))
  ·intro y0 y1 y2 y3 y4 y5 y6 y7 y8 y9 y10 y11 y12 y13 y14 y15 y16 y17 y18 y19 y20 y21 y22 y23
   unfold a0c.l2
   with_reducible (repeat' first | apply ih0 | apply ih1 | apply ih2 | apply ih3 | apply ih4 | apply ih5 | apply a0o.mono | apply a0h.mono | apply a0e.mono | apply LeO.refl | apply LeO.none | apply LeO.ite | refine LeO.bind ?_ (fun _ => ?_))
  ·intro y0 y1 y2 y3 y4 y5 y6 y7 y8 y9 y10 y11 y12 y13 y14 y15 y16 y17 y18 y19 y20 y21 y22 y23
   unfold a0c.l3
   with_reducible (repeat' first | apply ih0 | apply ih1 | apply ih2 | apply ih3 | apply ih4 | apply ih5 | apply a0o.mono | apply a0h.mono | apply a0e.mono | apply LeO.refl | apply LeO.none | apply LeO.ite | refine LeO.bind ?_ (fun _ => ?_))
theorem a0c.mono : ∀ a0 a1 a2 a3 a4 a5 k, LeO (a0c.f k a0 a1 a2 a3 a4 a5) (a0c.f (k + 1) a0 a1 a2 a3 a4 a5) := by
 intro a0 a1 a2 a3 a4 a5 k
 obtain ⟨ih0, ih1, ih2, ih3, ih4, ih5⟩ := a0c.a1p k
 unfold a0c.f
 with_reducible (repeat' first | apply ih0 | apply ih1 | apply ih2 | apply ih3 | apply ih4 | apply ih5 | apply a0o.mono | apply a0h.mono | apply a0e.mono | apply LeO.refl | apply LeO.none | apply LeO.ite | refine LeO.bind ?_ (fun _ => ?_))
set_option maxHeartbeats 8000000 in
set_option maxRecDepth 100000 in
theorem a0c.calls (k : Nat) (A0 : Option Addr) (c0 : Nat) (l0 : List (S30)) (A1 : Option Addr) (c1 : Nat) (l1 : List (S26)) (a2 a3 : Int) (A4 : Option Addr) (c4 : Nat) (l4 : List Int) (a5 : Int) (r : Bool) (w : World) (hr0 : Kd.C k30 w A0 l0.length l0) (hc0 : l0.length ≤ c0) (hr1 : Kd.C k26 w A1 l1.length l1) (hc1 : l1.length ≤ c1) (hr4 : Kd.C (Kd.int .i64) w A4 l4.length l4) (hc4 : l4.length ≤ c4) (h : a0c.f k l0 l1 a2 a3 l4 a5 = some r) :
  Calls Try.prog 7 #[.slice A0 l0.length c0, .slice A1 l1.length c1, .int .i64 a2, .int .i64 a3, .slice A4 l4.length c4, .int .i64 a5] w fun e w' => e = .returned (.bool r) ∧ Below w.heap.size w w' := by
 have hu30 := Try.underlying30
 have HR0 := am_ hr0
 have HC0 := am_ hc0
 clear hr0 hc0
 have HR1 := am_ hr1
 have HC1 := am_ hc1
 clear hr1 hc1
 have HR4 := am_ hr4
 have HC4 := am_ hc4
 clear hr4 hc4
 have HB := am_ (Below.refl w.heap.size w)
 have H : ((a0e.f k).bind fun t472 => (if (l1.length : Int) > 100 then (a0c.j0 k l0 l1 a2 a3 l4 a5 t472 true) else (a0c.j0 k l0 l1 a2 a3 l4 a5 t472 (decide ((l4.length : Int) > 100))))) = some r := h
 clear h
 replace H := bm_ H
 obtain ⟨t472, A70, H⟩ := H
 replace H : (if (l1.length : Int) > 100 then (a0c.j0 k l0 l1 a2 a3 l4 a5 t472 true) else (a0c.j0 k l0 l1 a2 a3 l4 a5 t472 (decide ((l4.length : Int) > 100)))) = some r := H
 have A7 := am_ A70
 clear A70
 have HC8 := am_ H
 clear H
 go_enter Try.func7, Try.ntmps7
 go_upto_region 2 with (first | ((with_reducible refine a0s (f := 8) rfl ?_); refine a1d (some 32) rfl rfl Try.func8 (by kernel_rfl) rfl #[] rfl ql_ ?_; (with_reducible refine (a0e.calls k  t472 _ A7.out).mono ?_); rintro e w9 ⟨rfl, hb⟩; refine ⟨_, rfl, ?_⟩; replace HB := qbs_ hb; (try clear hb); (try clear hb2); (try clear hk); (try clear hi)))
 (try simp only [Act.put, List.setIfInBounds_toArray, List.set_cons_zero, List.set_cons_succ])
 go_cut [40] (fun v40 wc => ∃ (kq : Nat) (x40_7 : Bool), v40 = .bool x40_7 ∧ Aside0 (a0c.j0 kq l0 l1 a2 a3 l4 a5 t472 x40_7 = some r) ∧ Aside0 (kq ≤ k) ∧ Aside0 (Below w.heap.size w wc))
 case first => as_aux_lemma =>
  have H := HC8.out
  clear HC8
  by_cases c10 : (l1.length : Int) > 100
  ·rw [if_pos c10] at H
   have c10b0 : decide (100 < (l1.length : Int)) = true := decide_eq_true c10
   have c10b1 : decide (100 < l1.length) = true := decide_eq_true (by omega)
   clear c10
   (first | rw [c10b0] | (simp only [a2o, a3l]; rw [c10b0]) | skip)
   have H' := am_ H
   clear H
   go_wp2
   go_meet
   case rel => exact ⟨_, (true), qs_, H', ⟨qo_⟩, ⟨qb_⟩⟩
  ·rw [if_neg c10] at H
   have c10b0 : decide (100 < (l1.length : Int)) = false := decide_eq_false c10
   have c10b1 : decide (100 < l1.length) = false := decide_eq_false (by omega)
   clear c10
   (first | rw [c10b0] | (simp only [a2o, a3l]; rw [c10b0]) | skip)
   have H' := am_ H
   clear H
   go_wp2
   go_meet
   case rel => exact ⟨_, (decide ((l4.length : Int) > 100)), qs_, H', ⟨qo_⟩, ⟨qb_⟩⟩
 case rest => as_aux_lemma =>
  clear HC8
  try clear c1
  try clear p2
  try clear c4
  try clear c7
  try clear c8
  try clear c10
  try clear c10b0
  try clear c10b1
  obtain ⟨kq, x40_7, rfl, HA, HJ7, HB⟩ := hcut
  cases kq with
  | zero => exact absurd HA.out (by simp [a0c.j0])
  | succ kj7 =>
   have H := HA.out
   clear HA
   simp only [a0c.j0] at H
   by_cases c11 : x40_7 = true
   ·subst c11
    have H1 : (some t472) = some r := by rw [if_pos rfl] at H; exact H
    clear H
    have H := H1
    clear H1
    obtain rfl := si_ H
    go_wp2
    go_ret
    exact ⟨qx_, qb_⟩
   ·replace c11 := be_ c11
    subst c11
    have H1 : ((a0h.f kj7 l0 l1 a2 l4 a5).bind fun bt473 => ((a0h.f kj7 l0 l1 a3 l4 a5).bind fun bt477 => (if bt473.2 = 0 then (a0c.j1 kj7 l0 l1 a2 a3 l4 a5 t472 bt473.1 bt477.1 (bt477.2 != 0)) else (a0c.j1 kj7 l0 l1 a2 a3 l4 a5 t472 bt473.1 bt477.1 true)))) = some r := by rw [if_neg (show ¬ (false = true) by decide)] at H; exact H
    clear H
    have H := H1
    clear H1
    replace H := bm_ H
    obtain ⟨⟨t473, t474⟩, A120, H⟩ := H
    replace H : ((a0h.f kj7 l0 l1 a3 l4 a5).bind fun bt477 => (if t474 = 0 then (a0c.j1 kj7 l0 l1 a2 a3 l4 a5 t472 t473 bt477.1 (bt477.2 != 0)) else (a0c.j1 kj7 l0 l1 a2 a3 l4 a5 t472 t473 bt477.1 true))) = some r := H
    have A12 := am_ A120
    clear A120
    replace H := bm_ H
    obtain ⟨⟨t477, t478⟩, A130, H⟩ := H
    replace H : (if t474 = 0 then (a0c.j1 kj7 l0 l1 a2 a3 l4 a5 t472 t473 t477 (t478 != 0)) else (a0c.j1 kj7 l0 l1 a2 a3 l4 a5 t472 t473 t477 true)) = some r := H
    have A13 := am_ A130
    clear A130
    have HC14 := am_ H
    clear H
    go_upto_region 6 with (first | ((with_reducible refine a0s (f := 11) rfl ?_); refine a1d (some 48) rfl rfl Try.func11 (by kernel_rfl) rfl #[.slice A0 l0.length c0, .slice A1 l1.length c1, .int .i64 a2, .slice A4 l4.length c4, .int .i64 a5] rfl ql_ ?_; (with_reducible refine (a0h.calls kj7 _ _ l0 _ _ l1 a2 _ _ l4 a5 t473 t474 _ ?s1 ?s2 ?s3 ?s4 ?s5 ?s6 A12.out).mono ?_); (case s1 => exact qc_ HR0); (case s2 => exact HC0.out); (case s3 => exact qc_ HR1); (case s4 => exact HC1.out); (case s5 => exact qc_ HR4); (case s6 => exact HC4.out); rintro e w15 ⟨v475, rfl, ho0, hb⟩; refine ⟨_, rfl, ?_⟩; have HO476 := am_ (Kd.a2c ho0 (a1m qb_)); replace HB := qbs_ hb; (try clear hb); (try clear hb2); (try clear hk); (try clear hi); (try clear ho0)) | ((with_reducible refine a0s (f := 11) rfl ?_); refine a1d (some 57) rfl rfl Try.func11 (by kernel_rfl) rfl #[.slice A0 l0.length c0, .slice A1 l1.length c1, .int .i64 a3, .slice A4 l4.length c4, .int .i64 a5] rfl ql_ ?_; (with_reducible refine (a0h.calls kj7 _ _ l0 _ _ l1 a3 _ _ l4 a5 t477 t478 _ ?s1 ?s2 ?s3 ?s4 ?s5 ?s6 A13.out).mono ?_); (case s1 => exact qc_ HR0); (case s2 => exact HC0.out); (case s3 => exact qc_ HR1); (case s4 => exact HC1.out); (case s5 => exact qc_ HR4); (case s6 => exact HC4.out); rintro e w16 ⟨v479, rfl, ho0, hb⟩; refine ⟨_, rfl, ?_⟩; have HO480 := am_ (Kd.a2c (Kd.a2t ho0 (Kd.R_lt (qr_ HO476))) (a1m qb_)); replace HO476 := qel_ HO476 ho0 hb; replace HB := qbs_ hb; (try clear hb); (try clear hb2); (try clear hk); (try clear hi); (try clear ho0)))
    (try simp only [Act.put, List.setIfInBounds_toArray, List.set_cons_zero, List.set_cons_succ])
    go_cut [65] (fun v65 wc => ∃ (kq : Nat) (x65_13 : Bool), v65 = .bool x65_13 ∧ Aside0 (a0c.j1 kq l0 l1 a2 a3 l4 a5 t472 t473 t477 x65_13 = some r) ∧ Aside0 (kq ≤ kj7) ∧ Aside0 (Kd.R (Kd.int .i64) 3 wc w.heap.size (fun k_ => some k_ ≠ (v479 : Value).ownBlock) v475 t473) ∧ Aside0 (Kd.R (Kd.int .i64) 3 wc w.heap.size (fun k_ => some k_ ≠ (v475 : Value).ownBlock) v479 t477) ∧ Aside0 (Below w.heap.size w wc))
    case first => as_aux_lemma =>
     have H := HC14.out
     clear HC14
     by_cases c17 : t474 = 0
     ·rw [if_pos c17] at H
      have c17b0 : (t474 == 0) = true := beq_iff_eq.mpr c17
      have c17b1 : (t474 != 0) = false := bne_eq_false_iff_eq.mpr c17
      clear c17
      (first | rw [c17b0] | (simp only [a2o, a3l]; rw [c17b0]) | skip)
      have H' := am_ H
      clear H
      go_wp2
      go_meet
      case rel => exact ⟨_, ((t478 != 0)), qs_, H', ⟨by have := HJ7.out; first | omega | exact Nat.le_refl _⟩, ⟨by (with_reducible repeat (first | apply Kd.a0l | apply Kd.a0m | apply Kd.a0n)); exact Kd.a1i HO476.out (fun _ hk => hk.2)⟩, ⟨by (with_reducible repeat (first | apply Kd.a0l | apply Kd.a0m | apply Kd.a0n)); exact Kd.a1i HO480.out (fun _ hk => hk.2)⟩, ⟨qb_⟩⟩
     ·rw [if_neg c17] at H
      have c17b0 : (t474 == 0) = false := beq_eq_false_iff_ne.mpr c17
      have c17b1 : (t474 != 0) = true := bne_iff_ne.mpr c17
      (first | rw [c17b0] | (simp only [a2o, a3l]; rw [c17b0]) | skip)
      have H' := am_ H
      clear H
      go_wp2
      go_meet
      case rel => exact ⟨_, (true), qs_, H', ⟨by have := HJ7.out; first | omega | exact Nat.le_refl _⟩, ⟨by (with_reducible repeat (first | apply Kd.a0l | apply Kd.a0m | apply Kd.a0n)); exact Kd.a1i HO476.out (fun _ hk => hk.2)⟩, ⟨by (with_reducible repeat (first | apply Kd.a0l | apply Kd.a0m | apply Kd.a0n)); exact Kd.a1i HO480.out (fun _ hk => hk.2)⟩, ⟨qb_⟩⟩
    case rest => as_aux_lemma =>
     clear HC14
     try clear c1
     try clear p2
     try clear c4
     try clear c7
     try clear c8
     try clear c10
     try clear c10b0
     try clear c10b1
     try clear c11
     try clear c17
     try clear c17b0
     try clear c17b1
     try clear p2
     obtain ⟨kq, x65_13, rfl, HA, HJ13, HO_14, HO_16, HB⟩ := hcut
     cases kq with
     | zero => exact absurd HA.out (by simp [a0c.j1])
     | succ kj13 =>
      have H := HA.out
      clear HA
      simp only [a0c.j1] at H
      by_cases c18 : x65_13 = true
      ·subst c18
       have H1 : (some t472) = some r := by rw [if_pos rfl] at H; exact H
       clear H
       have H := H1
       clear H1
       obtain rfl := si_ H
       go_wp2
       go_ret
       exact ⟨qx_, qb_⟩
      ·replace c18 := be_ c18
       subst c18
       have H1 : (a0c.l0 kj13 l0 l1 a2 a3 l4 a5 t472 t473 t477 l0 (l0.length : Int) 0) = some r := by rw [if_neg (show ¬ (false = true) by decide)] at H; exact H
       clear H
       have H := H1
       clear H1
       have H' := am_ H
       clear H
       go_wp2
       go_loopg [13, 69] kj13 (fun kq v13 v69 w' => ∃ (x13_3 : Bool) (x69_3 : Int), v13 = .bool x13_3 ∧ v69 = .int .i64 x69_3 ∧ Aside0 (a0c.l0 kq l0 l1 a2 a3 l4 a5 x13_3 t473 t477 l0 (l0.length : Int) x69_3 = some r) ∧ Aside0 (kq ≤ kj13) ∧ Aside0 (Kd.R (Kd.int .i64) 3 w' w.heap.size (fun k_ => some k_ ≠ (v479 : Value).ownBlock) v475 t473) ∧ Aside0 (Kd.R (Kd.int .i64) 3 w' w.heap.size (fun k_ => some k_ ≠ (v475 : Value).ownBlock) v479 t477) ∧ Aside0 (Below w.heap.size w w'))
       case atStart => exact ⟨(t472), (0), qs_, qs_, H', ⟨Nat.le_refl _⟩, ⟨by (with_reducible repeat (first | apply Kd.a0l | apply Kd.a0m | apply Kd.a0n)); exact HO_14.out⟩, ⟨by (with_reducible repeat (first | apply Kd.a0l | apply Kd.a0m | apply Kd.a0n)); exact HO_16.out⟩, ⟨qb_⟩⟩
       case round => as_aux_lemma =>
        clear H'
        try clear c1
        try clear p2
        try clear c4
        try clear c7
        try clear c8
        try clear c10
        try clear c10b0
        try clear c10b1
        try clear c11
        try clear c17
        try clear c17b0
        try clear c17b1
        try clear c18
        try clear p2
        obtain ⟨x13_3, x69_3, rfl, rfl, HA, HK3, HO_14, HO_16, HB⟩ := hrel
        cases gk with
        | zero => exact absurd HA.out (by simp [a0c.l0])
        | succ k3 =>
         have H := HA.out
         clear HA
         simp only [a0c.l0] at H
         by_cases c19 : x69_3 < (l0.length : Int)
         ·rw [if_pos c19] at H
          have c19b0 : decide (x69_3 < (l0.length : Int)) = true := decide_eq_true c19
          clear c19
          by_cases c20 : 0 ≤ x69_3
          ·rw [if_pos c20] at H
           have c20b0 : decide (0 ≤ x69_3) = true := decide_eq_true c20
           clear c20
           by_cases c21 : x69_3 < (l0.length : Int)
           ·rw [if_pos c21] at H
            have c21b0 : decide (x69_3 < (l0.length : Int)) = true := decide_eq_true c21
            clear c21
            have H' := am_ H
            clear H
            have p481 : 0 ≤ (x69_3 : Int) := ot_
            have q481 : x69_3 < (l0.length : Int) := ot_
            obtain ⟨ad481, e481, hx481_0, hx481_1, hx481_2, hx481_3, hx481_4, hx481_5⟩ := a3z HR0.out x69_3 p481 q481
            cases e481
            replace hx481_0 := qh_ HB hx481_0
            replace hx481_1 := qh_ HB hx481_1
            replace hx481_2 := qh_ HB hx481_2
            replace hx481_3 := qh_ HB hx481_3
            replace hx481_4 := qh_ HB hx481_4
            replace hx481_5 := qh_ HB hx481_5
            replace p481 := eq_true p481
            replace q481 := eq_true q481
            go_wp2_with (first | ((with_reducible refine a1f (N := 19) rfl ?_); (try (refine a1u (by rfl) ?_; dsimp only)); refine qev_ 19 #[.int .i64 0, .int .i64 0, .int .i64 0, .int .i64 0, .int .i64 0, .int .i64 0] 30 ?_; intro gb482 hg w22 hbox hb; replace HO_14 := qrb_ HO_14 hb; replace HO_16 := qrb_ HO_16 hb; have BK482 := am_ (hbox); have GW482 := qga_ hg; have GE482 := qga_ hg; replace HB := qbs_ hb; clear hb hbox hg; obtain ⟨z'23_0, z'23_1, z'23_2, z'23_3, z'23_4, z'23_5⟩ := qz6_ BK482; obtain ⟨y'23_0, y'23_1, y'23_2, y'23_3, y'23_4, y'23_5⟩ := qf6_ BK482; obtain ⟨Ao24, co24, eo24⟩ := Kd.a1o HO_14.out; subst eo24))
            go_loopg [20, 75] k3 (fun kq v20 v75 w' => ∃ (x20_4 : Bool) (x75_4 : Int), v20 = .bool x20_4 ∧ v75 = .int .i64 x75_4 ∧ Aside0 (a0c.l1 kq l0 l1 a2 a3 l4 a5 x13_3 t473 t477 x20_4 false false l0 (l0.length : Int) x69_3 t473 (t473.length : Int) x75_4 ((a0b l0 x69_3).f0) ((a0b l0 x69_3).f1) ((a0b l0 x69_3).f2) ((a0b l0 x69_3).f3) ((a0b l0 x69_3).f4.f0) ((a0b l0 x69_3).f4.f1) = some r) ∧ Aside0 (kq ≤ k3) ∧ Aside0 (Kd.R (Kd.int .i64) 3 w' w.heap.size (fun k_ => some k_ ≠ (v479 : Value).ownBlock) (.slice Ao24 t473.length co24) t473) ∧ Aside0 (Kd.R (Kd.int .i64) 3 w' w.heap.size (fun k_ => some k_ ≠ ((.slice Ao24 t473.length co24) : Value).ownBlock ∧ some k_ ≠ ((.slice Ao24 t473.length co24) : Value).ownBlock) v479 t477) ∧ Aside0 (Kd.R (Kd.int .i64) 3 w' w.heap.size (fun k_ => some k_ ≠ (v479 : Value).ownBlock) (.slice Ao24 t473.length co24) t473) ∧ Aside0 (w'.heap[gb482]? = some (.cells #[.int .i64 ((a0b l0 x69_3).f0), .int .i64 ((a0b l0 x69_3).f1), .int .i64 ((a0b l0 x69_3).f2), .int .i64 ((a0b l0 x69_3).f3), .int .i64 ((a0b l0 x69_3).f4.f0), .int .i64 ((a0b l0 x69_3).f4.f1)] 30 (0, 0))) ∧ Aside0 (Below w.heap.size w w'))
            case atStart => exact ⟨(false), (0), qs_, qs_, H', ⟨Nat.le_refl _⟩, ⟨by (with_reducible repeat (first | apply Kd.a0l | apply Kd.a0m | apply Kd.a0n)); exact Kd.a1i (Kd.a1b (p := ⟨gb482, 5, none⟩) (Kd.a1b (p := ⟨gb482, 4, none⟩) (Kd.a1b (p := ⟨gb482, 3, none⟩) (Kd.a1b (p := ⟨gb482, 2, none⟩) (Kd.a1b (p := ⟨gb482, 1, none⟩) (Kd.a1b (p := ⟨gb482, 0, none⟩) (Kd.a3v HO_14.out BK482.out (by decide)) (fun _ hk => hk.2) (.int .i64 ((a0b l0 x69_3).f0))) (fun _ hk => hk.2) (.int .i64 ((a0b l0 x69_3).f1))) (fun _ hk => hk.2) (.int .i64 ((a0b l0 x69_3).f2))) (fun _ hk => hk.2) (.int .i64 ((a0b l0 x69_3).f3))) (fun _ hk => hk.2) (.int .i64 ((a0b l0 x69_3).f4.f0))) (fun _ hk => hk.2) (.int .i64 ((a0b l0 x69_3).f4.f1))) (fun _ hk => hk.1)⟩, ⟨by (with_reducible repeat (first | apply Kd.a0l | apply Kd.a0m | apply Kd.a0n)); exact Kd.a1i (Kd.a1b (p := ⟨gb482, 5, none⟩) (Kd.a1b (p := ⟨gb482, 4, none⟩) (Kd.a1b (p := ⟨gb482, 3, none⟩) (Kd.a1b (p := ⟨gb482, 2, none⟩) (Kd.a1b (p := ⟨gb482, 1, none⟩) (Kd.a1b (p := ⟨gb482, 0, none⟩) (Kd.a3v HO_16.out BK482.out (by decide)) (fun _ hk => hk.2) (.int .i64 ((a0b l0 x69_3).f0))) (fun _ hk => hk.2) (.int .i64 ((a0b l0 x69_3).f1))) (fun _ hk => hk.2) (.int .i64 ((a0b l0 x69_3).f2))) (fun _ hk => hk.2) (.int .i64 ((a0b l0 x69_3).f3))) (fun _ hk => hk.2) (.int .i64 ((a0b l0 x69_3).f4.f0))) (fun _ hk => hk.2) (.int .i64 ((a0b l0 x69_3).f4.f1))) (fun _ hk => ⟨hk.1, hk.1⟩)⟩, ⟨by (with_reducible repeat (first | apply Kd.a0l | apply Kd.a0m | apply Kd.a0n)); exact Kd.a1i (Kd.a1b (p := ⟨gb482, 5, none⟩) (Kd.a1b (p := ⟨gb482, 4, none⟩) (Kd.a1b (p := ⟨gb482, 3, none⟩) (Kd.a1b (p := ⟨gb482, 2, none⟩) (Kd.a1b (p := ⟨gb482, 1, none⟩) (Kd.a1b (p := ⟨gb482, 0, none⟩) (Kd.a3v HO_14.out BK482.out (by decide)) (fun _ hk => hk.2) (.int .i64 ((a0b l0 x69_3).f0))) (fun _ hk => hk.2) (.int .i64 ((a0b l0 x69_3).f1))) (fun _ hk => hk.2) (.int .i64 ((a0b l0 x69_3).f2))) (fun _ hk => hk.2) (.int .i64 ((a0b l0 x69_3).f3))) (fun _ hk => hk.2) (.int .i64 ((a0b l0 x69_3).f4.f0))) (fun _ hk => hk.2) (.int .i64 ((a0b l0 x69_3).f4.f1))) (fun _ hk => hk.1)⟩, ⟨by refine qd_ ?_; refine a0u (cs := #[.int .i64 ((a0b l0 x69_3).f0), .int .i64 ((a0b l0 x69_3).f1), .int .i64 ((a0b l0 x69_3).f2), .int .i64 ((a0b l0 x69_3).f3), .int .i64 ((a0b l0 x69_3).f4.f0), .int .i64 0]) ?_ 5 _ rfl; refine qd_ ?_; refine a0u (cs := #[.int .i64 ((a0b l0 x69_3).f0), .int .i64 ((a0b l0 x69_3).f1), .int .i64 ((a0b l0 x69_3).f2), .int .i64 ((a0b l0 x69_3).f3), .int .i64 0, .int .i64 0]) ?_ 4 _ rfl; refine qd_ ?_; refine a0u (cs := #[.int .i64 ((a0b l0 x69_3).f0), .int .i64 ((a0b l0 x69_3).f1), .int .i64 ((a0b l0 x69_3).f2), .int .i64 0, .int .i64 0, .int .i64 0]) ?_ 3 _ rfl; refine qd_ ?_; refine a0u (cs := #[.int .i64 ((a0b l0 x69_3).f0), .int .i64 ((a0b l0 x69_3).f1), .int .i64 0, .int .i64 0, .int .i64 0, .int .i64 0]) ?_ 2 _ rfl; refine qd_ ?_; refine a0u (cs := #[.int .i64 ((a0b l0 x69_3).f0), .int .i64 0, .int .i64 0, .int .i64 0, .int .i64 0, .int .i64 0]) ?_ 1 _ rfl; refine qd_ ?_; refine a0u (cs := #[.int .i64 0, .int .i64 0, .int .i64 0, .int .i64 0, .int .i64 0, .int .i64 0]) ?_ 0 _ rfl; refine qd_ ?_; exact BK482.out⟩, ⟨qb_⟩⟩
            case round => as_aux_lemma =>
             clear H'
             try clear c1
             try clear c2
             try clear p2
             try clear c4
             try clear p4
             try clear q4
             try clear hx4
             try clear c7
             try clear c8
             try clear c10
             try clear c10b0
             try clear c10b1
             try clear c11
             try clear c17
             try clear c17b0
             try clear c17b1
             try clear c18
             try clear c19
             try clear c19b0
             try clear c20
             try clear c20b0
             try clear c21
             try clear c21b0
             try clear z'23_0 z'23_1 z'23_2 z'23_3 z'23_4 z'23_5
             try clear y'23_0 y'23_1 y'23_2 y'23_3 y'23_4 y'23_5
             try clear hx481_0
             try clear hx481_1
             try clear hx481_2
             try clear hx481_3
             try clear hx481_4
             try clear hx481_5
             try clear p2
             try clear p481
             try clear q481
             obtain ⟨x20_4, x75_4, rfl, rfl, HA, HK4, HO_14, HO_16, HO_73, BK482, HB⟩ := hrel
             cases gk with
             | zero => exact absurd HA.out (by simp [a0c.l1])
             | succ k4 =>
              have H := HA.out
              clear HA
              simp only [a0c.l1] at H
              by_cases c25 : x75_4 < (t473.length : Int)
              ·rw [if_pos c25] at H
               have c25b0 : decide (x75_4 < (t473.length : Int)) = true := decide_eq_true c25
               clear c25
               by_cases c26 : 0 ≤ x75_4
               ·rw [if_pos c26] at H
                have c26b0 : decide (0 ≤ x75_4) = true := decide_eq_true c26
                clear c26
                by_cases c27 : x75_4 < (t473.length : Int)
                ·rw [if_pos c27] at H
                 have c27b0 : decide (x75_4 < (t473.length : Int)) = true := decide_eq_true c27
                 clear c27
                 by_cases c28 : x20_4 = true
                 ·subst c28
                  have H1 : (a0c.l1 k4 l0 l1 a2 a3 l4 a5 x13_3 t473 t477 true false false l0 (l0.length : Int) x69_3 t473 (t473.length : Int) (wrap64 (x75_4 + 1)) ((a0b l0 x69_3).f0) ((a0b l0 x69_3).f1) ((a0b l0 x69_3).f2) ((a0b l0 x69_3).f3) ((a0b l0 x69_3).f4.f0) ((a0b l0 x69_3).f4.f1)) = some r := by rw [if_pos rfl] at H; exact H
                  clear H
                  have H := H1
                  clear H1
                  have H' := am_ H
                  clear H
                  have p483 : 0 ≤ (x75_4 : Int) := ot_
                  have q483 : x75_4 < (t473.length : Int) := ot_
                  obtain ⟨ad483, e483, hx483_0⟩ := Kd.a3d (Kd.a0r HO_73.out).2.2 x75_4 p483 q483
                  cases e483
                  replace p483 := eq_true p483
                  replace q483 := eq_true q483
                  go_wp2
                  go_roundg k4
                  case measure => have := HJ7.out; have := HJ13.out; have := HK3.out; have := HK4.out; omega
                  case rel => exact ⟨(true), (wrap64 (x75_4 + 1)), qs_, qs_, H', ⟨by have := HJ7.out; have := HJ13.out; have := HK3.out; have := HK4.out; omega⟩, ⟨by (with_reducible repeat (first | apply Kd.a0l | apply Kd.a0m | apply Kd.a0n)); exact HO_14.out⟩, ⟨by (with_reducible repeat (first | apply Kd.a0l | apply Kd.a0m | apply Kd.a0n)); exact HO_16.out⟩, ⟨by (with_reducible repeat (first | apply Kd.a0l | apply Kd.a0m | apply Kd.a0n)); exact HO_73.out⟩, ⟨qk_ BK482⟩, ⟨qb_⟩⟩
                 ·replace c28 := be_ c28
                  subst c28
                  have H1 : (a0c.l1 k4 l0 l1 a2 a3 l4 a5 x13_3 t473 t477 ((rd t473 x75_4) == ((a0b l0 x69_3).f0)) false false l0 (l0.length : Int) x69_3 t473 (t473.length : Int) (wrap64 (x75_4 + 1)) ((a0b l0 x69_3).f0) ((a0b l0 x69_3).f1) ((a0b l0 x69_3).f2) ((a0b l0 x69_3).f3) ((a0b l0 x69_3).f4.f0) ((a0b l0 x69_3).f4.f1)) = some r := by rw [if_neg (show ¬ (false = true) by decide)] at H; exact H
                  clear H
                  have H := H1
                  clear H1
                  have H' := am_ H
                  clear H
                  have p483 : 0 ≤ (x75_4 : Int) := ot_
                  have q483 : x75_4 < (t473.length : Int) := ot_
                  obtain ⟨ad483, e483, hx483_0⟩ := Kd.a3d (Kd.a0r HO_73.out).2.2 x75_4 p483 q483
                  cases e483
                  replace p483 := eq_true p483
                  replace q483 := eq_true q483
                  obtain ⟨z'29_0, z'29_1, z'29_2, z'29_3, z'29_4, z'29_5⟩ := qz6_ BK482; obtain ⟨y'29_0, y'29_1, y'29_2, y'29_3, y'29_4, y'29_5⟩ := qf6_ BK482
                  go_wp2
                  go_roundg k4
                  case measure => have := HJ7.out; have := HJ13.out; have := HK3.out; have := HK4.out; omega
                  case rel => exact ⟨(((rd t473 x75_4) == ((a0b l0 x69_3).f0))), (wrap64 (x75_4 + 1)), qs_, qs_, H', ⟨by have := HJ7.out; have := HJ13.out; have := HK3.out; have := HK4.out; omega⟩, ⟨by (with_reducible repeat (first | apply Kd.a0l | apply Kd.a0m | apply Kd.a0n)); exact HO_14.out⟩, ⟨by (with_reducible repeat (first | apply Kd.a0l | apply Kd.a0m | apply Kd.a0n)); exact HO_16.out⟩, ⟨by (with_reducible repeat (first | apply Kd.a0l | apply Kd.a0m | apply Kd.a0n)); exact HO_73.out⟩, ⟨qk_ BK482⟩, ⟨qb_⟩⟩
                ·rw [if_neg c27] at H
                 exact absurd H (by simp)
               ·rw [if_neg c26] at H
                exact absurd H (by simp)
              ·rw [if_neg c25] at H
               have c25b0 : decide (x75_4 < (t473.length : Int)) = false := decide_eq_false c25
               clear c25
               have H' := am_ H
               clear H
               obtain ⟨Ao30, co30, eo30⟩ := Kd.a1o HO_16.out
               subst eo30
               go_wp2
               go_loopg [21, 89] k4 (fun kq v21 v89 w' => ∃ (x21_5 : Bool) (x89_5 : Int), v21 = .bool x21_5 ∧ v89 = .int .i64 x89_5 ∧ Aside0 (a0c.l2 kq l0 l1 a2 a3 l4 a5 x13_3 t473 t477 x20_4 x21_5 false l0 (l0.length : Int) x69_3 t477 (t477.length : Int) x89_5 ((a0b l0 x69_3).f0) ((a0b l0 x69_3).f1) ((a0b l0 x69_3).f2) ((a0b l0 x69_3).f3) ((a0b l0 x69_3).f4.f0) ((a0b l0 x69_3).f4.f1) = some r) ∧ Aside0 (kq ≤ k4) ∧ Aside0 (Kd.R (Kd.int .i64) 3 w' w.heap.size (fun k_ => some k_ ≠ ((.slice Ao30 t477.length co30) : Value).ownBlock ∧ some k_ ≠ ((.slice Ao30 t477.length co30) : Value).ownBlock) (.slice Ao24 t473.length co24) t473) ∧ Aside0 (Kd.R (Kd.int .i64) 3 w' w.heap.size (fun k_ => some k_ ≠ ((.slice Ao24 t473.length co24) : Value).ownBlock) (.slice Ao30 t477.length co30) t477) ∧ Aside0 (Kd.R (Kd.int .i64) 3 w' w.heap.size (fun k_ => some k_ ≠ ((.slice Ao24 t473.length co24) : Value).ownBlock) (.slice Ao30 t477.length co30) t477) ∧ Aside0 (w'.heap[gb482]? = some (.cells #[.int .i64 ((a0b l0 x69_3).f0), .int .i64 ((a0b l0 x69_3).f1), .int .i64 ((a0b l0 x69_3).f2), .int .i64 ((a0b l0 x69_3).f3), .int .i64 ((a0b l0 x69_3).f4.f0), .int .i64 ((a0b l0 x69_3).f4.f1)] 30 (0, 0))) ∧ Aside0 (Below w.heap.size w w'))
               case atStart => exact ⟨(false), (0), qs_, qs_, H', ⟨Nat.le_refl _⟩, ⟨by (with_reducible repeat (first | apply Kd.a0l | apply Kd.a0m | apply Kd.a0n)); exact Kd.a1i HO_14.out (fun _ hk => ⟨hk, hk⟩)⟩, ⟨by (with_reducible repeat (first | apply Kd.a0l | apply Kd.a0m | apply Kd.a0n)); exact Kd.a1i HO_16.out (fun _ hk => hk.1)⟩, ⟨by (with_reducible repeat (first | apply Kd.a0l | apply Kd.a0m | apply Kd.a0n)); exact Kd.a1i HO_16.out (fun _ hk => hk.1)⟩, ⟨qk_ BK482⟩, ⟨qb_⟩⟩
               case round => as_aux_lemma =>
                clear H'
                try clear c1
                try clear c2
                try clear p2
                try clear c4
                try clear p4
                try clear q4
                try clear hx4
                try clear p6
                try clear c7
                try clear c8
                try clear c10
                try clear c10b0
                try clear c10b1
                try clear c11
                try clear c17
                try clear c17b0
                try clear c17b1
                try clear c18
                try clear c19
                try clear c19b0
                try clear c20
                try clear c20b0
                try clear c21
                try clear c21b0
                try clear c25
                try clear c25b0
                try clear c26
                try clear c26b0
                try clear c27
                try clear c27b0
                try clear c28
                try clear z'23_0 z'23_1 z'23_2 z'23_3 z'23_4 z'23_5
                try clear z'29_0 z'29_1 z'29_2 z'29_3 z'29_4 z'29_5
                try clear y'23_0 y'23_1 y'23_2 y'23_3 y'23_4 y'23_5
                try clear y'29_0 y'29_1 y'29_2 y'29_3 y'29_4 y'29_5
                try clear hx481_0
                try clear hx481_1
                try clear hx481_2
                try clear hx481_3
                try clear hx481_4
                try clear hx481_5
                try clear hx483_0
                try clear p2
                try clear p4
                try clear p481
                try clear p483
                try clear q4
                try clear q481
                try clear q483
                obtain ⟨x21_5, x89_5, rfl, rfl, HA, HK5, HO_14, HO_16, HO_87, BK482, HB⟩ := hrel
                cases gk with
                | zero => exact absurd HA.out (by simp [a0c.l2])
                | succ k5 =>
                 have H := HA.out
                 clear HA
                 simp only [a0c.l2] at H
                 by_cases c31 : x89_5 < (t477.length : Int)
                 ·rw [if_pos c31] at H
                  have c31b0 : decide (x89_5 < (t477.length : Int)) = true := decide_eq_true c31
                  clear c31
                  by_cases c32 : 0 ≤ x89_5
                  ·rw [if_pos c32] at H
                   have c32b0 : decide (0 ≤ x89_5) = true := decide_eq_true c32
                   clear c32
                   by_cases c33 : x89_5 < (t477.length : Int)
                   ·rw [if_pos c33] at H
                    have c33b0 : decide (x89_5 < (t477.length : Int)) = true := decide_eq_true c33
                    clear c33
                    by_cases c34 : x21_5 = true
                    ·subst c34
                     have H1 : (a0c.l2 k5 l0 l1 a2 a3 l4 a5 x13_3 t473 t477 x20_4 true false l0 (l0.length : Int) x69_3 t477 (t477.length : Int) (wrap64 (x89_5 + 1)) ((a0b l0 x69_3).f0) ((a0b l0 x69_3).f1) ((a0b l0 x69_3).f2) ((a0b l0 x69_3).f3) ((a0b l0 x69_3).f4.f0) ((a0b l0 x69_3).f4.f1)) = some r := by rw [if_pos rfl] at H; exact H
                     clear H
                     have H := H1
                     clear H1
                     have H' := am_ H
                     clear H
                     have p484 : 0 ≤ (x89_5 : Int) := ot_
                     have q484 : x89_5 < (t477.length : Int) := ot_
                     obtain ⟨ad484, e484, hx484_0⟩ := Kd.a3d (Kd.a0r HO_87.out).2.2 x89_5 p484 q484
                     cases e484
                     replace p484 := eq_true p484
                     replace q484 := eq_true q484
                     go_wp2
                     go_roundg k5
                     case measure => have := HJ7.out; have := HJ13.out; have := HK3.out; have := HK4.out; have := HK5.out; omega
                     case rel => exact ⟨(true), (wrap64 (x89_5 + 1)), qs_, qs_, H', ⟨by have := HJ7.out; have := HJ13.out; have := HK3.out; have := HK4.out; have := HK5.out; omega⟩, ⟨by (with_reducible repeat (first | apply Kd.a0l | apply Kd.a0m | apply Kd.a0n)); exact HO_14.out⟩, ⟨by (with_reducible repeat (first | apply Kd.a0l | apply Kd.a0m | apply Kd.a0n)); exact HO_16.out⟩, ⟨by (with_reducible repeat (first | apply Kd.a0l | apply Kd.a0m | apply Kd.a0n)); exact HO_87.out⟩, ⟨qk_ BK482⟩, ⟨qb_⟩⟩
                    ·replace c34 := be_ c34
                     subst c34
                     have H1 : (a0c.l2 k5 l0 l1 a2 a3 l4 a5 x13_3 t473 t477 x20_4 ((rd t477 x89_5) == ((a0b l0 x69_3).f0)) false l0 (l0.length : Int) x69_3 t477 (t477.length : Int) (wrap64 (x89_5 + 1)) ((a0b l0 x69_3).f0) ((a0b l0 x69_3).f1) ((a0b l0 x69_3).f2) ((a0b l0 x69_3).f3) ((a0b l0 x69_3).f4.f0) ((a0b l0 x69_3).f4.f1)) = some r := by rw [if_neg (show ¬ (false = true) by decide)] at H; exact H
                     clear H
                     have H := H1
                     clear H1
                     have H' := am_ H
                     clear H
                     have p484 : 0 ≤ (x89_5 : Int) := ot_
                     have q484 : x89_5 < (t477.length : Int) := ot_
                     obtain ⟨ad484, e484, hx484_0⟩ := Kd.a3d (Kd.a0r HO_87.out).2.2 x89_5 p484 q484
                     cases e484
                     replace p484 := eq_true p484
                     replace q484 := eq_true q484
                     obtain ⟨z'35_0, z'35_1, z'35_2, z'35_3, z'35_4, z'35_5⟩ := qz6_ BK482; obtain ⟨y'35_0, y'35_1, y'35_2, y'35_3, y'35_4, y'35_5⟩ := qf6_ BK482
                     go_wp2
                     go_roundg k5
                     case measure => have := HJ7.out; have := HJ13.out; have := HK3.out; have := HK4.out; have := HK5.out; omega
                     case rel => exact ⟨(((rd t477 x89_5) == ((a0b l0 x69_3).f0))), (wrap64 (x89_5 + 1)), qs_, qs_, H', ⟨by have := HJ7.out; have := HJ13.out; have := HK3.out; have := HK4.out; have := HK5.out; omega⟩, ⟨by (with_reducible repeat (first | apply Kd.a0l | apply Kd.a0m | apply Kd.a0n)); exact HO_14.out⟩, ⟨by (with_reducible repeat (first | apply Kd.a0l | apply Kd.a0m | apply Kd.a0n)); exact HO_16.out⟩, ⟨by (with_reducible repeat (first | apply Kd.a0l | apply Kd.a0m | apply Kd.a0n)); exact HO_87.out⟩, ⟨qk_ BK482⟩, ⟨qb_⟩⟩
                   ·rw [if_neg c33] at H
                    exact absurd H (by simp)
                  ·rw [if_neg c32] at H
                   exact absurd H (by simp)
                 ·rw [if_neg c31] at H
                  have c31b0 : decide (x89_5 < (t477.length : Int)) = false := decide_eq_false c31
                  clear c31
                  have H' := am_ H
                  clear H
                  go_wp2
                  go_loopg [22, 103] k5 (fun kq v22 v103 w' => ∃ (x22_6 : Bool) (x103_6 : Int), v22 = .bool x22_6 ∧ v103 = .int .i64 x103_6 ∧ Aside0 (a0c.l3 kq l0 l1 a2 a3 l4 a5 x13_3 t473 t477 x20_4 x21_5 x22_6 l0 (l0.length : Int) x69_3 l4 (l4.length : Int) x103_6 ((a0b l0 x69_3).f0) ((a0b l0 x69_3).f1) ((a0b l0 x69_3).f2) ((a0b l0 x69_3).f3) ((a0b l0 x69_3).f4.f0) ((a0b l0 x69_3).f4.f1) = some r) ∧ Aside0 (kq ≤ k5) ∧ Aside0 (Kd.R (Kd.int .i64) 3 w' w.heap.size (fun k_ => some k_ ≠ ((.slice Ao30 t477.length co30) : Value).ownBlock) (.slice Ao24 t473.length co24) t473) ∧ Aside0 (Kd.R (Kd.int .i64) 3 w' w.heap.size (fun k_ => some k_ ≠ ((.slice Ao24 t473.length co24) : Value).ownBlock) (.slice Ao30 t477.length co30) t477) ∧ Aside0 (w'.heap[gb482]? = some (.cells #[.int .i64 ((a0b l0 x69_3).f0), .int .i64 ((a0b l0 x69_3).f1), .int .i64 ((a0b l0 x69_3).f2), .int .i64 ((a0b l0 x69_3).f3), .int .i64 ((a0b l0 x69_3).f4.f0), .int .i64 ((a0b l0 x69_3).f4.f1)] 30 (0, 0))) ∧ Aside0 (Below w.heap.size w w'))
                  case atStart => exact ⟨(false), (0), qs_, qs_, H', ⟨Nat.le_refl _⟩, ⟨by (with_reducible repeat (first | apply Kd.a0l | apply Kd.a0m | apply Kd.a0n)); exact Kd.a1i HO_14.out (fun _ hk => hk.1)⟩, ⟨by (with_reducible repeat (first | apply Kd.a0l | apply Kd.a0m | apply Kd.a0n)); exact HO_16.out⟩, ⟨qk_ BK482⟩, ⟨qb_⟩⟩
                  case round => as_aux_lemma =>
                   clear H'
                   try clear c1
                   try clear c2
                   try clear p2
                   try clear c3
                   try clear c4
                   try clear p4
                   try clear q4
                   try clear hx4
                   try clear p6
                   try clear c7
                   try clear c8
                   try clear c10
                   try clear c10b0
                   try clear c10b1
                   try clear c11
                   try clear c17
                   try clear c17b0
                   try clear c17b1
                   try clear c18
                   try clear c19
                   try clear c19b0
                   try clear c20
                   try clear c20b0
                   try clear c21
                   try clear c21b0
                   try clear c25
                   try clear c25b0
                   try clear c26
                   try clear c26b0
                   try clear c27
                   try clear c27b0
                   try clear c28
                   try clear c31
                   try clear c31b0
                   try clear c32
                   try clear c32b0
                   try clear c33
                   try clear c33b0
                   try clear c34
                   try clear z'23_0 z'23_1 z'23_2 z'23_3 z'23_4 z'23_5
                   try clear z'29_0 z'29_1 z'29_2 z'29_3 z'29_4 z'29_5
                   try clear z'35_0 z'35_1 z'35_2 z'35_3 z'35_4 z'35_5
                   try clear y'23_0 y'23_1 y'23_2 y'23_3 y'23_4 y'23_5
                   try clear y'29_0 y'29_1 y'29_2 y'29_3 y'29_4 y'29_5
                   try clear y'35_0 y'35_1 y'35_2 y'35_3 y'35_4 y'35_5
                   try clear hx481_0
                   try clear hx481_1
                   try clear hx481_2
                   try clear hx481_3
                   try clear hx481_4
                   try clear hx481_5
                   try clear hx483_0
                   try clear hx484_0
                   try clear p2
                   try clear p4
                   try clear p481
                   try clear p483
                   try clear p484
                   try clear p6
                   try clear q4
                   try clear q481
                   try clear q483
                   try clear q484
                   obtain ⟨x22_6, x103_6, rfl, rfl, HA, HK6, HO_14, HO_16, BK482, HB⟩ := hrel
                   cases gk with
                   | zero => exact absurd HA.out (by simp [a0c.l3])
                   | succ k6 =>
                    have H := HA.out
                    clear HA
                    simp only [a0c.l3] at H
                    by_cases c36 : x103_6 < (l4.length : Int)
                    ·rw [if_pos c36] at H
                     have c36b0 : decide (x103_6 < (l4.length : Int)) = true := decide_eq_true c36
                     clear c36
                     by_cases c37 : 0 ≤ x103_6
                     ·rw [if_pos c37] at H
                      have c37b0 : decide (0 ≤ x103_6) = true := decide_eq_true c37
                      clear c37
                      by_cases c38 : x103_6 < (l4.length : Int)
                      ·rw [if_pos c38] at H
                       have c38b0 : decide (x103_6 < (l4.length : Int)) = true := decide_eq_true c38
                       clear c38
                       by_cases c39 : x22_6 = true
                       ·subst c39
                        have H1 : (a0c.l3 k6 l0 l1 a2 a3 l4 a5 x13_3 t473 t477 x20_4 x21_5 true l0 (l0.length : Int) x69_3 l4 (l4.length : Int) (wrap64 (x103_6 + 1)) ((a0b l0 x69_3).f0) ((a0b l0 x69_3).f1) ((a0b l0 x69_3).f2) ((a0b l0 x69_3).f3) ((a0b l0 x69_3).f4.f0) ((a0b l0 x69_3).f4.f1)) = some r := by rw [if_pos rfl] at H; exact H
                        clear H
                        have H := H1
                        clear H1
                        have H' := am_ H
                        clear H
                        have p485 : 0 ≤ (x103_6 : Int) := ot_
                        have q485 : x103_6 < (l4.length : Int) := ot_
                        obtain ⟨ad485, e485, hx485_0⟩ := Kd.a3d HR4.out x103_6 p485 q485
                        cases e485
                        replace hx485_0 := qh_ HB hx485_0
                        replace p485 := eq_true p485
                        replace q485 := eq_true q485
                        go_wp2
                        go_roundg k6
                        case measure => have := HJ7.out; have := HJ13.out; have := HK3.out; have := HK4.out; have := HK5.out; have := HK6.out; omega
                        case rel => exact ⟨(true), (wrap64 (x103_6 + 1)), qs_, qs_, H', ⟨by have := HJ7.out; have := HJ13.out; have := HK3.out; have := HK4.out; have := HK5.out; have := HK6.out; omega⟩, ⟨by (with_reducible repeat (first | apply Kd.a0l | apply Kd.a0m | apply Kd.a0n)); exact HO_14.out⟩, ⟨by (with_reducible repeat (first | apply Kd.a0l | apply Kd.a0m | apply Kd.a0n)); exact HO_16.out⟩, ⟨qk_ BK482⟩, ⟨qb_⟩⟩
                       ·replace c39 := be_ c39
                        subst c39
                        have H1 : (a0c.l3 k6 l0 l1 a2 a3 l4 a5 x13_3 t473 t477 x20_4 x21_5 ((rd l4 x103_6) == ((a0b l0 x69_3).f1)) l0 (l0.length : Int) x69_3 l4 (l4.length : Int) (wrap64 (x103_6 + 1)) ((a0b l0 x69_3).f0) ((a0b l0 x69_3).f1) ((a0b l0 x69_3).f2) ((a0b l0 x69_3).f3) ((a0b l0 x69_3).f4.f0) ((a0b l0 x69_3).f4.f1)) = some r := by rw [if_neg (show ¬ (false = true) by decide)] at H; exact H
                        clear H
                        have H := H1
                        clear H1
                        have H' := am_ H
                        clear H
                        have p485 : 0 ≤ (x103_6 : Int) := ot_
                        have q485 : x103_6 < (l4.length : Int) := ot_
                        obtain ⟨ad485, e485, hx485_0⟩ := Kd.a3d HR4.out x103_6 p485 q485
                        cases e485
                        replace hx485_0 := qh_ HB hx485_0
                        replace p485 := eq_true p485
                        replace q485 := eq_true q485
                        obtain ⟨z'40_0, z'40_1, z'40_2, z'40_3, z'40_4, z'40_5⟩ := qz6_ BK482; obtain ⟨y'40_0, y'40_1, y'40_2, y'40_3, y'40_4, y'40_5⟩ := qf6_ BK482
                        go_wp2
                        go_roundg k6
                        case measure => have := HJ7.out; have := HJ13.out; have := HK3.out; have := HK4.out; have := HK5.out; have := HK6.out; omega
                        case rel => exact ⟨(((rd l4 x103_6) == ((a0b l0 x69_3).f1))), (wrap64 (x103_6 + 1)), qs_, qs_, H', ⟨by have := HJ7.out; have := HJ13.out; have := HK3.out; have := HK4.out; have := HK5.out; have := HK6.out; omega⟩, ⟨by (with_reducible repeat (first | apply Kd.a0l | apply Kd.a0m | apply Kd.a0n)); exact HO_14.out⟩, ⟨by (with_reducible repeat (first | apply Kd.a0l | apply Kd.a0m | apply Kd.a0n)); exact HO_16.out⟩, ⟨qk_ BK482⟩, ⟨qb_⟩⟩
                      ·rw [if_neg c38] at H
                       exact absurd H (by simp)
                     ·rw [if_neg c37] at H
                      exact absurd H (by simp)
                    ·rw [if_neg c36] at H
                     have c36b0 : decide (x103_6 < (l4.length : Int)) = false := decide_eq_false c36
                     clear c36
                     replace H := bm_ H
                     obtain ⟨⟨t486, t487⟩, A410, H⟩ := H
                     replace H : (if ((a0b l0 x69_3).f4.f0) ≤ a5 then (if a5 < ((a0b l0 x69_3).f4.f1) then (if x22_6 = true then (if x13_3 = true then (if t487 = 0 then (if (x20_4 == (t486 == a2)) = true then (if a2 = a3 then (a0c.l0 k6 l0 l1 a2 a3 l4 a5 true t473 t477 l0 (l0.length : Int) (wrap64 (x69_3 + 1))) else (if x20_4 = true then (a0c.l0 k6 l0 l1 a2 a3 l4 a5 (!x21_5) t473 t477 l0 (l0.length : Int) (wrap64 (x69_3 + 1))) else (a0c.l0 k6 l0 l1 a2 a3 l4 a5 true t473 t477 l0 (l0.length : Int) (wrap64 (x69_3 + 1))))) else (a0c.l0 k6 l0 l1 a2 a3 l4 a5 false t473 t477 l0 (l0.length : Int) (wrap64 (x69_3 + 1)))) else (a0c.l0 k6 l0 l1 a2 a3 l4 a5 false t473 t477 l0 (l0.length : Int) (wrap64 (x69_3 + 1)))) else (a0c.l0 k6 l0 l1 a2 a3 l4 a5 false t473 t477 l0 (l0.length : Int) (wrap64 (x69_3 + 1)))) else (if x13_3 = true then (if t487 = 0 then (if (x20_4 == false) = true then (if a2 = a3 then (a0c.l0 k6 l0 l1 a2 a3 l4 a5 true t473 t477 l0 (l0.length : Int) (wrap64 (x69_3 + 1))) else (if x20_4 = true then (a0c.l0 k6 l0 l1 a2 a3 l4 a5 (!x21_5) t473 t477 l0 (l0.length : Int) (wrap64 (x69_3 + 1))) else (a0c.l0 k6 l0 l1 a2 a3 l4 a5 true t473 t477 l0 (l0.length : Int) (wrap64 (x69_3 + 1))))) else (a0c.l0 k6 l0 l1 a2 a3 l4 a5 false t473 t477 l0 (l0.length : Int) (wrap64 (x69_3 + 1)))) else (a0c.l0 k6 l0 l1 a2 a3 l4 a5 false t473 t477 l0 (l0.length : Int) (wrap64 (x69_3 + 1)))) else (a0c.l0 k6 l0 l1 a2 a3 l4 a5 false t473 t477 l0 (l0.length : Int) (wrap64 (x69_3 + 1))))) else (if x13_3 = true then (if t487 = 0 then (if (x20_4 == false) = true then (if a2 = a3 then (a0c.l0 k6 l0 l1 a2 a3 l4 a5 true t473 t477 l0 (l0.length : Int) (wrap64 (x69_3 + 1))) else (if x20_4 = true then (a0c.l0 k6 l0 l1 a2 a3 l4 a5 (!x21_5) t473 t477 l0 (l0.length : Int) (wrap64 (x69_3 + 1))) else (a0c.l0 k6 l0 l1 a2 a3 l4 a5 true t473 t477 l0 (l0.length : Int) (wrap64 (x69_3 + 1))))) else (a0c.l0 k6 l0 l1 a2 a3 l4 a5 false t473 t477 l0 (l0.length : Int) (wrap64 (x69_3 + 1)))) else (a0c.l0 k6 l0 l1 a2 a3 l4 a5 false t473 t477 l0 (l0.length : Int) (wrap64 (x69_3 + 1)))) else (a0c.l0 k6 l0 l1 a2 a3 l4 a5 false t473 t477 l0 (l0.length : Int) (wrap64 (x69_3 + 1))))) else (if x13_3 = true then (if t487 = 0 then (if (x20_4 == false) = true then (if a2 = a3 then (a0c.l0 k6 l0 l1 a2 a3 l4 a5 true t473 t477 l0 (l0.length : Int) (wrap64 (x69_3 + 1))) else (if x20_4 = true then (a0c.l0 k6 l0 l1 a2 a3 l4 a5 (!x21_5) t473 t477 l0 (l0.length : Int) (wrap64 (x69_3 + 1))) else (a0c.l0 k6 l0 l1 a2 a3 l4 a5 true t473 t477 l0 (l0.length : Int) (wrap64 (x69_3 + 1))))) else (a0c.l0 k6 l0 l1 a2 a3 l4 a5 false t473 t477 l0 (l0.length : Int) (wrap64 (x69_3 + 1)))) else (a0c.l0 k6 l0 l1 a2 a3 l4 a5 false t473 t477 l0 (l0.length : Int) (wrap64 (x69_3 + 1)))) else (a0c.l0 k6 l0 l1 a2 a3 l4 a5 false t473 t477 l0 (l0.length : Int) (wrap64 (x69_3 + 1))))) = some r := H
                     have A41 := am_ A410
                     clear A410
                     by_cases c42 : ((a0b l0 x69_3).f4.f0) ≤ a5
                     ·rw [if_pos c42] at H
                      have c42b0 : decide (((a0b l0 x69_3).f4.f0) ≤ a5) = true := decide_eq_true c42
                      clear c42
                      by_cases c43 : a5 < ((a0b l0 x69_3).f4.f1)
                      ·rw [if_pos c43] at H
                       have c43b0 : decide (a5 < ((a0b l0 x69_3).f4.f1)) = true := decide_eq_true c43
                       clear c43
                       by_cases c44 : x22_6 = true
                       ·subst c44
                        have H1 : (if x13_3 = true then (if t487 = 0 then (if (x20_4 == (t486 == a2)) = true then (if a2 = a3 then (a0c.l0 k6 l0 l1 a2 a3 l4 a5 true t473 t477 l0 (l0.length : Int) (wrap64 (x69_3 + 1))) else (if x20_4 = true then (a0c.l0 k6 l0 l1 a2 a3 l4 a5 (!x21_5) t473 t477 l0 (l0.length : Int) (wrap64 (x69_3 + 1))) else (a0c.l0 k6 l0 l1 a2 a3 l4 a5 true t473 t477 l0 (l0.length : Int) (wrap64 (x69_3 + 1))))) else (a0c.l0 k6 l0 l1 a2 a3 l4 a5 false t473 t477 l0 (l0.length : Int) (wrap64 (x69_3 + 1)))) else (a0c.l0 k6 l0 l1 a2 a3 l4 a5 false t473 t477 l0 (l0.length : Int) (wrap64 (x69_3 + 1)))) else (a0c.l0 k6 l0 l1 a2 a3 l4 a5 false t473 t477 l0 (l0.length : Int) (wrap64 (x69_3 + 1)))) = some r := by rw [if_pos rfl] at H; exact H
                        clear H
                        have H := H1
                        clear H1
                        by_cases c45 : x13_3 = true
                        ·subst c45
                         have H1 : (if t487 = 0 then (if (x20_4 == (t486 == a2)) = true then (if a2 = a3 then (a0c.l0 k6 l0 l1 a2 a3 l4 a5 true t473 t477 l0 (l0.length : Int) (wrap64 (x69_3 + 1))) else (if x20_4 = true then (a0c.l0 k6 l0 l1 a2 a3 l4 a5 (!x21_5) t473 t477 l0 (l0.length : Int) (wrap64 (x69_3 + 1))) else (a0c.l0 k6 l0 l1 a2 a3 l4 a5 true t473 t477 l0 (l0.length : Int) (wrap64 (x69_3 + 1))))) else (a0c.l0 k6 l0 l1 a2 a3 l4 a5 false t473 t477 l0 (l0.length : Int) (wrap64 (x69_3 + 1)))) else (a0c.l0 k6 l0 l1 a2 a3 l4 a5 false t473 t477 l0 (l0.length : Int) (wrap64 (x69_3 + 1)))) = some r := by rw [if_pos rfl] at H; exact H
                         clear H
                         have H := H1
                         clear H1
                         by_cases c46 : t487 = 0
                         ·rw [if_pos c46] at H
                          have c46b0 : (t487 == 0) = true := beq_iff_eq.mpr c46
                          have c46b1 : (t487 != 0) = false := bne_eq_false_iff_eq.mpr c46
                          clear c46
                          by_cases c47 : (x20_4 == (t486 == a2)) = true
                          ·rw [if_pos c47] at H
                           have c47b0 : (x20_4 == (t486 == a2)) = true := c47
                           (try (have c47b1 : decide (x20_4 = (t486 == a2)) = true := by simpa using c47))
                           (try (have c47b2 : (x20_4 == (t486 == a2)) = true := by simpa using c47))
                           clear c47
                           by_cases c48 : a2 = a3
                           ·rw [if_pos c48] at H
                            have c48b0 : (a2 == a3) = true := beq_iff_eq.mpr c48
                            have c48b1 : (a2 != a3) = false := bne_eq_false_iff_eq.mpr c48
                            clear c48
                            have H' := am_ H
                            clear H
                            obtain ⟨z'49_0, z'49_1, z'49_2, z'49_3, z'49_4, z'49_5⟩ := qz6_ BK482; obtain ⟨y'49_0, y'49_1, y'49_2, y'49_3, y'49_4, y'49_5⟩ := qf6_ BK482
                            go_wp2_with (first | ((with_reducible refine a0s (f := 9) rfl ?_); refine a1d (some 119) rfl rfl Try.func9 (by kernel_rfl) rfl #[.agg #[.int .i64 ((a0b l0 x69_3).f0), .int .i64 ((a0b l0 x69_3).f1), .int .i64 ((a0b l0 x69_3).f2), .int .i64 ((a0b l0 x69_3).f3), .int .i64 ((a0b l0 x69_3).f4.f0), .int .i64 ((a0b l0 x69_3).f4.f1)], .slice A1 l1.length c1, .int .i64 a5] rfl ql_ ?_; (with_reducible refine (a0o.calls k6 ((a0b l0 x69_3).f0) ((a0b l0 x69_3).f1) ((a0b l0 x69_3).f2) ((a0b l0 x69_3).f3) ((a0b l0 x69_3).f4.f0) ((a0b l0 x69_3).f4.f1) _ _ l1 a5 t486 t487 _ ?s1 ?s2 A41.out).mono ?_); (case s1 => exact qc_ HR1); (case s2 => exact HC1.out); rintro e w50 ⟨rfl, hb⟩; refine ⟨_, rfl, ?_⟩; replace HO_14 := qrb_ HO_14 hb; replace HO_16 := qrb_ HO_16 hb; replace BK482 := qkb_ BK482 hb; replace HB := qbs_ hb; (try clear hb); (try clear hb2); (try clear hk); (try clear hi); obtain ⟨z'51_0, z'51_1, z'51_2, z'51_3, z'51_4, z'51_5⟩ := qz6_ BK482; obtain ⟨y'51_0, y'51_1, y'51_2, y'51_3, y'51_4, y'51_5⟩ := qf6_ BK482))
                            go_roundg k6
                            case measure => have := HJ7.out; have := HJ13.out; have := HK3.out; have := HK4.out; have := HK5.out; have := HK6.out; omega
                            case rel => exact ⟨(true), (wrap64 (x69_3 + 1)), qs_, qs_, H', ⟨by have := HJ7.out; have := HJ13.out; have := HK3.out; have := HK4.out; have := HK5.out; have := HK6.out; omega⟩, ⟨by (with_reducible repeat (first | apply Kd.a0l | apply Kd.a0m | apply Kd.a0n)); exact HO_14.out⟩, ⟨by (with_reducible repeat (first | apply Kd.a0l | apply Kd.a0m | apply Kd.a0n)); exact HO_16.out⟩, ⟨qb_⟩⟩
                           ·rw [if_neg c48] at H
                            have c48b0 : (a2 == a3) = false := beq_eq_false_iff_ne.mpr c48
                            have c48b1 : (a2 != a3) = true := bne_iff_ne.mpr c48
                            by_cases c52 : x20_4 = true
                            ·subst c52
                             have H1 : (a0c.l0 k6 l0 l1 a2 a3 l4 a5 (!x21_5) t473 t477 l0 (l0.length : Int) (wrap64 (x69_3 + 1))) = some r := by rw [if_pos rfl] at H; exact H
                             clear H
                             have H := H1
                             clear H1
                             have H' := am_ H
                             clear H
                             obtain ⟨z'53_0, z'53_1, z'53_2, z'53_3, z'53_4, z'53_5⟩ := qz6_ BK482; obtain ⟨y'53_0, y'53_1, y'53_2, y'53_3, y'53_4, y'53_5⟩ := qf6_ BK482
                             go_wp2_with (first | ((with_reducible refine a0s (f := 9) rfl ?_); refine a1d (some 119) rfl rfl Try.func9 (by kernel_rfl) rfl #[.agg #[.int .i64 ((a0b l0 x69_3).f0), .int .i64 ((a0b l0 x69_3).f1), .int .i64 ((a0b l0 x69_3).f2), .int .i64 ((a0b l0 x69_3).f3), .int .i64 ((a0b l0 x69_3).f4.f0), .int .i64 ((a0b l0 x69_3).f4.f1)], .slice A1 l1.length c1, .int .i64 a5] rfl ql_ ?_; (with_reducible refine (a0o.calls k6 ((a0b l0 x69_3).f0) ((a0b l0 x69_3).f1) ((a0b l0 x69_3).f2) ((a0b l0 x69_3).f3) ((a0b l0 x69_3).f4.f0) ((a0b l0 x69_3).f4.f1) _ _ l1 a5 t486 t487 _ ?s1 ?s2 A41.out).mono ?_); (case s1 => exact qc_ HR1); (case s2 => exact HC1.out); rintro e w54 ⟨rfl, hb⟩; refine ⟨_, rfl, ?_⟩; replace HO_14 := qrb_ HO_14 hb; replace HO_16 := qrb_ HO_16 hb; replace BK482 := qkb_ BK482 hb; replace HB := qbs_ hb; (try clear hb); (try clear hb2); (try clear hk); (try clear hi); obtain ⟨z'55_0, z'55_1, z'55_2, z'55_3, z'55_4, z'55_5⟩ := qz6_ BK482; obtain ⟨y'55_0, y'55_1, y'55_2, y'55_3, y'55_4, y'55_5⟩ := qf6_ BK482))
                             go_roundg k6
                             case measure => have := HJ7.out; have := HJ13.out; have := HK3.out; have := HK4.out; have := HK5.out; have := HK6.out; omega
                             case rel => exact ⟨(!x21_5), (wrap64 (x69_3 + 1)), qs_, qs_, H', ⟨by have := HJ7.out; have := HJ13.out; have := HK3.out; have := HK4.out; have := HK5.out; have := HK6.out; omega⟩, ⟨by (with_reducible repeat (first | apply Kd.a0l | apply Kd.a0m | apply Kd.a0n)); exact HO_14.out⟩, ⟨by (with_reducible repeat (first | apply Kd.a0l | apply Kd.a0m | apply Kd.a0n)); exact HO_16.out⟩, ⟨qb_⟩⟩
                            ·replace c52 := be_ c52
                             subst c52
                             have H1 : (a0c.l0 k6 l0 l1 a2 a3 l4 a5 true t473 t477 l0 (l0.length : Int) (wrap64 (x69_3 + 1))) = some r := by rw [if_neg (show ¬ (false = true) by decide)] at H; exact H
                             clear H
                             have H := H1
                             clear H1
                             have H' := am_ H
                             clear H
                             obtain ⟨z'56_0, z'56_1, z'56_2, z'56_3, z'56_4, z'56_5⟩ := qz6_ BK482; obtain ⟨y'56_0, y'56_1, y'56_2, y'56_3, y'56_4, y'56_5⟩ := qf6_ BK482
                             go_wp2_with (first | ((with_reducible refine a0s (f := 9) rfl ?_); refine a1d (some 119) rfl rfl Try.func9 (by kernel_rfl) rfl #[.agg #[.int .i64 ((a0b l0 x69_3).f0), .int .i64 ((a0b l0 x69_3).f1), .int .i64 ((a0b l0 x69_3).f2), .int .i64 ((a0b l0 x69_3).f3), .int .i64 ((a0b l0 x69_3).f4.f0), .int .i64 ((a0b l0 x69_3).f4.f1)], .slice A1 l1.length c1, .int .i64 a5] rfl ql_ ?_; (with_reducible refine (a0o.calls k6 ((a0b l0 x69_3).f0) ((a0b l0 x69_3).f1) ((a0b l0 x69_3).f2) ((a0b l0 x69_3).f3) ((a0b l0 x69_3).f4.f0) ((a0b l0 x69_3).f4.f1) _ _ l1 a5 t486 t487 _ ?s1 ?s2 A41.out).mono ?_); (case s1 => exact qc_ HR1); (case s2 => exact HC1.out); rintro e w57 ⟨rfl, hb⟩; refine ⟨_, rfl, ?_⟩; replace HO_14 := qrb_ HO_14 hb; replace HO_16 := qrb_ HO_16 hb; replace BK482 := qkb_ BK482 hb; replace HB := qbs_ hb; (try clear hb); (try clear hb2); (try clear hk); (try clear hi); obtain ⟨z'58_0, z'58_1, z'58_2, z'58_3, z'58_4, z'58_5⟩ := qz6_ BK482; obtain ⟨y'58_0, y'58_1, y'58_2, y'58_3, y'58_4, y'58_5⟩ := qf6_ BK482))
                             go_roundg k6
                             case measure => have := HJ7.out; have := HJ13.out; have := HK3.out; have := HK4.out; have := HK5.out; have := HK6.out; omega
                             case rel => exact ⟨(true), (wrap64 (x69_3 + 1)), qs_, qs_, H', ⟨by have := HJ7.out; have := HJ13.out; have := HK3.out; have := HK4.out; have := HK5.out; have := HK6.out; omega⟩, ⟨by (with_reducible repeat (first | apply Kd.a0l | apply Kd.a0m | apply Kd.a0n)); exact HO_14.out⟩, ⟨by (with_reducible repeat (first | apply Kd.a0l | apply Kd.a0m | apply Kd.a0n)); exact HO_16.out⟩, ⟨qb_⟩⟩
                          ·rw [if_neg c47] at H
                           have c47b0 : (x20_4 == (t486 == a2)) = false := by simpa using c47
                           (try (have c47b1 : decide (x20_4 = (t486 == a2)) = false := by simpa using c47))
                           (try (have c47b2 : (x20_4 == (t486 == a2)) = false := by simpa using c47))
                           (try (have c47b3 : ¬ (x20_4 = (t486 == a2)) := by simpa using c47))
                           clear c47
                           have H' := am_ H
                           clear H
                           obtain ⟨z'59_0, z'59_1, z'59_2, z'59_3, z'59_4, z'59_5⟩ := qz6_ BK482; obtain ⟨y'59_0, y'59_1, y'59_2, y'59_3, y'59_4, y'59_5⟩ := qf6_ BK482
                           go_wp2_with (first | ((with_reducible refine a0s (f := 9) rfl ?_); refine a1d (some 119) rfl rfl Try.func9 (by kernel_rfl) rfl #[.agg #[.int .i64 ((a0b l0 x69_3).f0), .int .i64 ((a0b l0 x69_3).f1), .int .i64 ((a0b l0 x69_3).f2), .int .i64 ((a0b l0 x69_3).f3), .int .i64 ((a0b l0 x69_3).f4.f0), .int .i64 ((a0b l0 x69_3).f4.f1)], .slice A1 l1.length c1, .int .i64 a5] rfl ql_ ?_; (with_reducible refine (a0o.calls k6 ((a0b l0 x69_3).f0) ((a0b l0 x69_3).f1) ((a0b l0 x69_3).f2) ((a0b l0 x69_3).f3) ((a0b l0 x69_3).f4.f0) ((a0b l0 x69_3).f4.f1) _ _ l1 a5 t486 t487 _ ?s1 ?s2 A41.out).mono ?_); (case s1 => exact qc_ HR1); (case s2 => exact HC1.out); rintro e w60 ⟨rfl, hb⟩; refine ⟨_, rfl, ?_⟩; replace HO_14 := qrb_ HO_14 hb; replace HO_16 := qrb_ HO_16 hb; replace BK482 := qkb_ BK482 hb; replace HB := qbs_ hb; (try clear hb); (try clear hb2); (try clear hk); (try clear hi); obtain ⟨z'61_0, z'61_1, z'61_2, z'61_3, z'61_4, z'61_5⟩ := qz6_ BK482; obtain ⟨y'61_0, y'61_1, y'61_2, y'61_3, y'61_4, y'61_5⟩ := qf6_ BK482))
                           go_roundg k6
                           case measure => have := HJ7.out; have := HJ13.out; have := HK3.out; have := HK4.out; have := HK5.out; have := HK6.out; omega
                           case rel => exact ⟨(false), (wrap64 (x69_3 + 1)), qs_, qs_, H', ⟨by have := HJ7.out; have := HJ13.out; have := HK3.out; have := HK4.out; have := HK5.out; have := HK6.out; omega⟩, ⟨by (with_reducible repeat (first | apply Kd.a0l | apply Kd.a0m | apply Kd.a0n)); exact HO_14.out⟩, ⟨by (with_reducible repeat (first | apply Kd.a0l | apply Kd.a0m | apply Kd.a0n)); exact HO_16.out⟩, ⟨qb_⟩⟩
                         ·rw [if_neg c46] at H
                          have c46b0 : (t487 == 0) = false := beq_eq_false_iff_ne.mpr c46
                          have c46b1 : (t487 != 0) = true := bne_iff_ne.mpr c46
                          have H' := am_ H
                          clear H
                          obtain ⟨z'62_0, z'62_1, z'62_2, z'62_3, z'62_4, z'62_5⟩ := qz6_ BK482; obtain ⟨y'62_0, y'62_1, y'62_2, y'62_3, y'62_4, y'62_5⟩ := qf6_ BK482
                          go_wp2_with (first | ((with_reducible refine a0s (f := 9) rfl ?_); refine a1d (some 119) rfl rfl Try.func9 (by kernel_rfl) rfl #[.agg #[.int .i64 ((a0b l0 x69_3).f0), .int .i64 ((a0b l0 x69_3).f1), .int .i64 ((a0b l0 x69_3).f2), .int .i64 ((a0b l0 x69_3).f3), .int .i64 ((a0b l0 x69_3).f4.f0), .int .i64 ((a0b l0 x69_3).f4.f1)], .slice A1 l1.length c1, .int .i64 a5] rfl ql_ ?_; (with_reducible refine (a0o.calls k6 ((a0b l0 x69_3).f0) ((a0b l0 x69_3).f1) ((a0b l0 x69_3).f2) ((a0b l0 x69_3).f3) ((a0b l0 x69_3).f4.f0) ((a0b l0 x69_3).f4.f1) _ _ l1 a5 t486 t487 _ ?s1 ?s2 A41.out).mono ?_); (case s1 => exact qc_ HR1); (case s2 => exact HC1.out); rintro e w63 ⟨rfl, hb⟩; refine ⟨_, rfl, ?_⟩; replace HO_14 := qrb_ HO_14 hb; replace HO_16 := qrb_ HO_16 hb; replace BK482 := qkb_ BK482 hb; replace HB := qbs_ hb; (try clear hb); (try clear hb2); (try clear hk); (try clear hi); obtain ⟨z'64_0, z'64_1, z'64_2, z'64_3, z'64_4, z'64_5⟩ := qz6_ BK482; obtain ⟨y'64_0, y'64_1, y'64_2, y'64_3, y'64_4, y'64_5⟩ := qf6_ BK482))
                          go_roundg k6
                          case measure => have := HJ7.out; have := HJ13.out; have := HK3.out; have := HK4.out; have := HK5.out; have := HK6.out; omega
                          case rel => exact ⟨(false), (wrap64 (x69_3 + 1)), qs_, qs_, H', ⟨by have := HJ7.out; have := HJ13.out; have := HK3.out; have := HK4.out; have := HK5.out; have := HK6.out; omega⟩, ⟨by (with_reducible repeat (first | apply Kd.a0l | apply Kd.a0m | apply Kd.a0n)); exact HO_14.out⟩, ⟨by (with_reducible repeat (first | apply Kd.a0l | apply Kd.a0m | apply Kd.a0n)); exact HO_16.out⟩, ⟨qb_⟩⟩
                        ·replace c45 := be_ c45
                         subst c45
                         have H1 : (a0c.l0 k6 l0 l1 a2 a3 l4 a5 false t473 t477 l0 (l0.length : Int) (wrap64 (x69_3 + 1))) = some r := by rw [if_neg (show ¬ (false = true) by decide)] at H; exact H
                         clear H
                         have H := H1
                         clear H1
                         have H' := am_ H
                         clear H
                         obtain ⟨z'65_0, z'65_1, z'65_2, z'65_3, z'65_4, z'65_5⟩ := qz6_ BK482; obtain ⟨y'65_0, y'65_1, y'65_2, y'65_3, y'65_4, y'65_5⟩ := qf6_ BK482
                         go_wp2_with (first | ((with_reducible refine a0s (f := 9) rfl ?_); refine a1d (some 119) rfl rfl Try.func9 (by kernel_rfl) rfl #[.agg #[.int .i64 ((a0b l0 x69_3).f0), .int .i64 ((a0b l0 x69_3).f1), .int .i64 ((a0b l0 x69_3).f2), .int .i64 ((a0b l0 x69_3).f3), .int .i64 ((a0b l0 x69_3).f4.f0), .int .i64 ((a0b l0 x69_3).f4.f1)], .slice A1 l1.length c1, .int .i64 a5] rfl ql_ ?_; (with_reducible refine (a0o.calls k6 ((a0b l0 x69_3).f0) ((a0b l0 x69_3).f1) ((a0b l0 x69_3).f2) ((a0b l0 x69_3).f3) ((a0b l0 x69_3).f4.f0) ((a0b l0 x69_3).f4.f1) _ _ l1 a5 t486 t487 _ ?s1 ?s2 A41.out).mono ?_); (case s1 => exact qc_ HR1); (case s2 => exact HC1.out); rintro e w66 ⟨rfl, hb⟩; refine ⟨_, rfl, ?_⟩; replace HO_14 := qrb_ HO_14 hb; replace HO_16 := qrb_ HO_16 hb; replace BK482 := qkb_ BK482 hb; replace HB := qbs_ hb; (try clear hb); (try clear hb2); (try clear hk); (try clear hi); obtain ⟨z'67_0, z'67_1, z'67_2, z'67_3, z'67_4, z'67_5⟩ := qz6_ BK482; obtain ⟨y'67_0, y'67_1, y'67_2, y'67_3, y'67_4, y'67_5⟩ := qf6_ BK482))
                         go_roundg k6
                         case measure => have := HJ7.out; have := HJ13.out; have := HK3.out; have := HK4.out; have := HK5.out; have := HK6.out; omega
                         case rel => exact ⟨(false), (wrap64 (x69_3 + 1)), qs_, qs_, H', ⟨by have := HJ7.out; have := HJ13.out; have := HK3.out; have := HK4.out; have := HK5.out; have := HK6.out; omega⟩, ⟨by (with_reducible repeat (first | apply Kd.a0l | apply Kd.a0m | apply Kd.a0n)); exact HO_14.out⟩, ⟨by (with_reducible repeat (first | apply Kd.a0l | apply Kd.a0m | apply Kd.a0n)); exact HO_16.out⟩, ⟨qb_⟩⟩
                       ·replace c44 := be_ c44
                        subst c44
                        have H1 : (if x13_3 = true then (if t487 = 0 then (if (x20_4 == false) = true then (if a2 = a3 then (a0c.l0 k6 l0 l1 a2 a3 l4 a5 true t473 t477 l0 (l0.length : Int) (wrap64 (x69_3 + 1))) else (if x20_4 = true then (a0c.l0 k6 l0 l1 a2 a3 l4 a5 (!x21_5) t473 t477 l0 (l0.length : Int) (wrap64 (x69_3 + 1))) else (a0c.l0 k6 l0 l1 a2 a3 l4 a5 true t473 t477 l0 (l0.length : Int) (wrap64 (x69_3 + 1))))) else (a0c.l0 k6 l0 l1 a2 a3 l4 a5 false t473 t477 l0 (l0.length : Int) (wrap64 (x69_3 + 1)))) else (a0c.l0 k6 l0 l1 a2 a3 l4 a5 false t473 t477 l0 (l0.length : Int) (wrap64 (x69_3 + 1)))) else (a0c.l0 k6 l0 l1 a2 a3 l4 a5 false t473 t477 l0 (l0.length : Int) (wrap64 (x69_3 + 1)))) = some r := by rw [if_neg (show ¬ (false = true) by decide)] at H; exact H
                        clear H
                        have H := H1
                        clear H1
                        by_cases c68 : x13_3 = true
                        ·subst c68
                         have H1 : (if t487 = 0 then (if (x20_4 == false) = true then (if a2 = a3 then (a0c.l0 k6 l0 l1 a2 a3 l4 a5 true t473 t477 l0 (l0.length : Int) (wrap64 (x69_3 + 1))) else (if x20_4 = true then (a0c.l0 k6 l0 l1 a2 a3 l4 a5 (!x21_5) t473 t477 l0 (l0.length : Int) (wrap64 (x69_3 + 1))) else (a0c.l0 k6 l0 l1 a2 a3 l4 a5 true t473 t477 l0 (l0.length : Int) (wrap64 (x69_3 + 1))))) else (a0c.l0 k6 l0 l1 a2 a3 l4 a5 false t473 t477 l0 (l0.length : Int) (wrap64 (x69_3 + 1)))) else (a0c.l0 k6 l0 l1 a2 a3 l4 a5 false t473 t477 l0 (l0.length : Int) (wrap64 (x69_3 + 1)))) = some r := by rw [if_pos rfl] at H; exact H
                         clear H
                         have H := H1
                         clear H1
                         by_cases c69 : t487 = 0
                         ·rw [if_pos c69] at H
                          have c69b0 : (t487 == 0) = true := beq_iff_eq.mpr c69
                          have c69b1 : (t487 != 0) = false := bne_eq_false_iff_eq.mpr c69
                          clear c69
                          by_cases c70 : (x20_4 == false) = true
                          ·rw [if_pos c70] at H
                           have c70b0 : (x20_4 == false) = true := c70
                           (try (have c70b1 : decide (x20_4 = false) = true := by simpa using c70))
                           (try (have c70b2 : (x20_4 == false) = true := by simpa using c70))
                           clear c70
                           by_cases c71 : a2 = a3
                           ·rw [if_pos c71] at H
                            have c71b0 : (a2 == a3) = true := beq_iff_eq.mpr c71
                            have c71b1 : (a2 != a3) = false := bne_eq_false_iff_eq.mpr c71
                            clear c71
                            have H' := am_ H
                            clear H
                            obtain ⟨z'72_0, z'72_1, z'72_2, z'72_3, z'72_4, z'72_5⟩ := qz6_ BK482; obtain ⟨y'72_0, y'72_1, y'72_2, y'72_3, y'72_4, y'72_5⟩ := qf6_ BK482
                            go_wp2_with (first | ((with_reducible refine a0s (f := 9) rfl ?_); refine a1d (some 119) rfl rfl Try.func9 (by kernel_rfl) rfl #[.agg #[.int .i64 ((a0b l0 x69_3).f0), .int .i64 ((a0b l0 x69_3).f1), .int .i64 ((a0b l0 x69_3).f2), .int .i64 ((a0b l0 x69_3).f3), .int .i64 ((a0b l0 x69_3).f4.f0), .int .i64 ((a0b l0 x69_3).f4.f1)], .slice A1 l1.length c1, .int .i64 a5] rfl ql_ ?_; (with_reducible refine (a0o.calls k6 ((a0b l0 x69_3).f0) ((a0b l0 x69_3).f1) ((a0b l0 x69_3).f2) ((a0b l0 x69_3).f3) ((a0b l0 x69_3).f4.f0) ((a0b l0 x69_3).f4.f1) _ _ l1 a5 t486 t487 _ ?s1 ?s2 A41.out).mono ?_); (case s1 => exact qc_ HR1); (case s2 => exact HC1.out); rintro e w73 ⟨rfl, hb⟩; refine ⟨_, rfl, ?_⟩; replace HO_14 := qrb_ HO_14 hb; replace HO_16 := qrb_ HO_16 hb; replace BK482 := qkb_ BK482 hb; replace HB := qbs_ hb; (try clear hb); (try clear hb2); (try clear hk); (try clear hi); obtain ⟨z'74_0, z'74_1, z'74_2, z'74_3, z'74_4, z'74_5⟩ := qz6_ BK482; obtain ⟨y'74_0, y'74_1, y'74_2, y'74_3, y'74_4, y'74_5⟩ := qf6_ BK482))
                            go_roundg k6
                            case measure => have := HJ7.out; have := HJ13.out; have := HK3.out; have := HK4.out; have := HK5.out; have := HK6.out; omega
                            case rel => exact ⟨(true), (wrap64 (x69_3 + 1)), qs_, qs_, H', ⟨by have := HJ7.out; have := HJ13.out; have := HK3.out; have := HK4.out; have := HK5.out; have := HK6.out; omega⟩, ⟨by (with_reducible repeat (first | apply Kd.a0l | apply Kd.a0m | apply Kd.a0n)); exact HO_14.out⟩, ⟨by (with_reducible repeat (first | apply Kd.a0l | apply Kd.a0m | apply Kd.a0n)); exact HO_16.out⟩, ⟨qb_⟩⟩
                           ·rw [if_neg c71] at H
                            have c71b0 : (a2 == a3) = false := beq_eq_false_iff_ne.mpr c71
                            have c71b1 : (a2 != a3) = true := bne_iff_ne.mpr c71
                            by_cases c75 : x20_4 = true
                            ·subst c75
                             have H1 : (a0c.l0 k6 l0 l1 a2 a3 l4 a5 (!x21_5) t473 t477 l0 (l0.length : Int) (wrap64 (x69_3 + 1))) = some r := by rw [if_pos rfl] at H; exact H
                             clear H
                             have H := H1
                             clear H1
                             have H' := am_ H
                             clear H
                             obtain ⟨z'76_0, z'76_1, z'76_2, z'76_3, z'76_4, z'76_5⟩ := qz6_ BK482; obtain ⟨y'76_0, y'76_1, y'76_2, y'76_3, y'76_4, y'76_5⟩ := qf6_ BK482
                             go_wp2_with (first | ((with_reducible refine a0s (f := 9) rfl ?_); refine a1d (some 119) rfl rfl Try.func9 (by kernel_rfl) rfl #[.agg #[.int .i64 ((a0b l0 x69_3).f0), .int .i64 ((a0b l0 x69_3).f1), .int .i64 ((a0b l0 x69_3).f2), .int .i64 ((a0b l0 x69_3).f3), .int .i64 ((a0b l0 x69_3).f4.f0), .int .i64 ((a0b l0 x69_3).f4.f1)], .slice A1 l1.length c1, .int .i64 a5] rfl ql_ ?_; (with_reducible refine (a0o.calls k6 ((a0b l0 x69_3).f0) ((a0b l0 x69_3).f1) ((a0b l0 x69_3).f2) ((a0b l0 x69_3).f3) ((a0b l0 x69_3).f4.f0) ((a0b l0 x69_3).f4.f1) _ _ l1 a5 t486 t487 _ ?s1 ?s2 A41.out).mono ?_); (case s1 => exact qc_ HR1); (case s2 => exact HC1.out); rintro e w77 ⟨rfl, hb⟩; refine ⟨_, rfl, ?_⟩; replace HO_14 := qrb_ HO_14 hb; replace HO_16 := qrb_ HO_16 hb; replace BK482 := qkb_ BK482 hb; replace HB := qbs_ hb; (try clear hb); (try clear hb2); (try clear hk); (try clear hi); obtain ⟨z'78_0, z'78_1, z'78_2, z'78_3, z'78_4, z'78_5⟩ := qz6_ BK482; obtain ⟨y'78_0, y'78_1, y'78_2, y'78_3, y'78_4, y'78_5⟩ := qf6_ BK482))
                             go_roundg k6
                             case measure => have := HJ7.out; have := HJ13.out; have := HK3.out; have := HK4.out; have := HK5.out; have := HK6.out; omega
                             case rel => exact ⟨(!x21_5), (wrap64 (x69_3 + 1)), qs_, qs_, H', ⟨by have := HJ7.out; have := HJ13.out; have := HK3.out; have := HK4.out; have := HK5.out; have := HK6.out; omega⟩, ⟨by (with_reducible repeat (first | apply Kd.a0l | apply Kd.a0m | apply Kd.a0n)); exact HO_14.out⟩, ⟨by (with_reducible repeat (first | apply Kd.a0l | apply Kd.a0m | apply Kd.a0n)); exact HO_16.out⟩, ⟨qb_⟩⟩
                            ·replace c75 := be_ c75
                             subst c75
                             have H1 : (a0c.l0 k6 l0 l1 a2 a3 l4 a5 true t473 t477 l0 (l0.length : Int) (wrap64 (x69_3 + 1))) = some r := by rw [if_neg (show ¬ (false = true) by decide)] at H; exact H
                             clear H
                             have H := H1
                             clear H1
                             have H' := am_ H
                             clear H
                             obtain ⟨z'79_0, z'79_1, z'79_2, z'79_3, z'79_4, z'79_5⟩ := qz6_ BK482; obtain ⟨y'79_0, y'79_1, y'79_2, y'79_3, y'79_4, y'79_5⟩ := qf6_ BK482
                             go_wp2_with (first | ((with_reducible refine a0s (f := 9) rfl ?_); refine a1d (some 119) rfl rfl Try.func9 (by kernel_rfl) rfl #[.agg #[.int .i64 ((a0b l0 x69_3).f0), .int .i64 ((a0b l0 x69_3).f1), .int .i64 ((a0b l0 x69_3).f2), .int .i64 ((a0b l0 x69_3).f3), .int .i64 ((a0b l0 x69_3).f4.f0), .int .i64 ((a0b l0 x69_3).f4.f1)], .slice A1 l1.length c1, .int .i64 a5] rfl ql_ ?_; (with_reducible refine (a0o.calls k6 ((a0b l0 x69_3).f0) ((a0b l0 x69_3).f1) ((a0b l0 x69_3).f2) ((a0b l0 x69_3).f3) ((a0b l0 x69_3).f4.f0) ((a0b l0 x69_3).f4.f1) _ _ l1 a5 t486 t487 _ ?s1 ?s2 A41.out).mono ?_); (case s1 => exact qc_ HR1); (case s2 => exact HC1.out); rintro e w80 ⟨rfl, hb⟩; refine ⟨_, rfl, ?_⟩; replace HO_14 := qrb_ HO_14 hb; replace HO_16 := qrb_ HO_16 hb; replace BK482 := qkb_ BK482 hb; replace HB := qbs_ hb; (try clear hb); (try clear hb2); (try clear hk); (try clear hi); obtain ⟨z'81_0, z'81_1, z'81_2, z'81_3, z'81_4, z'81_5⟩ := qz6_ BK482; obtain ⟨y'81_0, y'81_1, y'81_2, y'81_3, y'81_4, y'81_5⟩ := qf6_ BK482))
                             go_roundg k6
                             case measure => have := HJ7.out; have := HJ13.out; have := HK3.out; have := HK4.out; have := HK5.out; have := HK6.out; omega
                             case rel => exact ⟨(true), (wrap64 (x69_3 + 1)), qs_, qs_, H', ⟨by have := HJ7.out; have := HJ13.out; have := HK3.out; have := HK4.out; have := HK5.out; have := HK6.out; omega⟩, ⟨by (with_reducible repeat (first | apply Kd.a0l | apply Kd.a0m | apply Kd.a0n)); exact HO_14.out⟩, ⟨by (with_reducible repeat (first | apply Kd.a0l | apply Kd.a0m | apply Kd.a0n)); exact HO_16.out⟩, ⟨qb_⟩⟩
                          ·rw [if_neg c70] at H
                           have c70b0 : (x20_4 == false) = false := by simpa using c70
                           (try (have c70b1 : decide (x20_4 = false) = false := by simpa using c70))
                           (try (have c70b2 : (x20_4 == false) = false := by simpa using c70))
                           (try (have c70b3 : ¬ (x20_4 = false) := by simpa using c70))
                           clear c70
                           have H' := am_ H
                           clear H
                           obtain ⟨z'82_0, z'82_1, z'82_2, z'82_3, z'82_4, z'82_5⟩ := qz6_ BK482; obtain ⟨y'82_0, y'82_1, y'82_2, y'82_3, y'82_4, y'82_5⟩ := qf6_ BK482
                           go_wp2_with (first | ((with_reducible refine a0s (f := 9) rfl ?_); refine a1d (some 119) rfl rfl Try.func9 (by kernel_rfl) rfl #[.agg #[.int .i64 ((a0b l0 x69_3).f0), .int .i64 ((a0b l0 x69_3).f1), .int .i64 ((a0b l0 x69_3).f2), .int .i64 ((a0b l0 x69_3).f3), .int .i64 ((a0b l0 x69_3).f4.f0), .int .i64 ((a0b l0 x69_3).f4.f1)], .slice A1 l1.length c1, .int .i64 a5] rfl ql_ ?_; (with_reducible refine (a0o.calls k6 ((a0b l0 x69_3).f0) ((a0b l0 x69_3).f1) ((a0b l0 x69_3).f2) ((a0b l0 x69_3).f3) ((a0b l0 x69_3).f4.f0) ((a0b l0 x69_3).f4.f1) _ _ l1 a5 t486 t487 _ ?s1 ?s2 A41.out).mono ?_); (case s1 => exact qc_ HR1); (case s2 => exact HC1.out); rintro e w83 ⟨rfl, hb⟩; refine ⟨_, rfl, ?_⟩; replace HO_14 := qrb_ HO_14 hb; replace HO_16 := qrb_ HO_16 hb; replace BK482 := qkb_ BK482 hb; replace HB := qbs_ hb; (try clear hb); (try clear hb2); (try clear hk); (try clear hi); obtain ⟨z'84_0, z'84_1, z'84_2, z'84_3, z'84_4, z'84_5⟩ := qz6_ BK482; obtain ⟨y'84_0, y'84_1, y'84_2, y'84_3, y'84_4, y'84_5⟩ := qf6_ BK482))
                           go_roundg k6
                           case measure => have := HJ7.out; have := HJ13.out; have := HK3.out; have := HK4.out; have := HK5.out; have := HK6.out; omega
                           case rel => exact ⟨(false), (wrap64 (x69_3 + 1)), qs_, qs_, H', ⟨by have := HJ7.out; have := HJ13.out; have := HK3.out; have := HK4.out; have := HK5.out; have := HK6.out; omega⟩, ⟨by (with_reducible repeat (first | apply Kd.a0l | apply Kd.a0m | apply Kd.a0n)); exact HO_14.out⟩, ⟨by (with_reducible repeat (first | apply Kd.a0l | apply Kd.a0m | apply Kd.a0n)); exact HO_16.out⟩, ⟨qb_⟩⟩
                         ·rw [if_neg c69] at H
                          have c69b0 : (t487 == 0) = false := beq_eq_false_iff_ne.mpr c69
                          have c69b1 : (t487 != 0) = true := bne_iff_ne.mpr c69
                          have H' := am_ H
                          clear H
                          obtain ⟨z'85_0, z'85_1, z'85_2, z'85_3, z'85_4, z'85_5⟩ := qz6_ BK482; obtain ⟨y'85_0, y'85_1, y'85_2, y'85_3, y'85_4, y'85_5⟩ := qf6_ BK482
                          go_wp2_with (first | ((with_reducible refine a0s (f := 9) rfl ?_); refine a1d (some 119) rfl rfl Try.func9 (by kernel_rfl) rfl #[.agg #[.int .i64 ((a0b l0 x69_3).f0), .int .i64 ((a0b l0 x69_3).f1), .int .i64 ((a0b l0 x69_3).f2), .int .i64 ((a0b l0 x69_3).f3), .int .i64 ((a0b l0 x69_3).f4.f0), .int .i64 ((a0b l0 x69_3).f4.f1)], .slice A1 l1.length c1, .int .i64 a5] rfl ql_ ?_; (with_reducible refine (a0o.calls k6 ((a0b l0 x69_3).f0) ((a0b l0 x69_3).f1) ((a0b l0 x69_3).f2) ((a0b l0 x69_3).f3) ((a0b l0 x69_3).f4.f0) ((a0b l0 x69_3).f4.f1) _ _ l1 a5 t486 t487 _ ?s1 ?s2 A41.out).mono ?_); (case s1 => exact qc_ HR1); (case s2 => exact HC1.out); rintro e w86 ⟨rfl, hb⟩; refine ⟨_, rfl, ?_⟩; replace HO_14 := qrb_ HO_14 hb; replace HO_16 := qrb_ HO_16 hb; replace BK482 := qkb_ BK482 hb; replace HB := qbs_ hb; (try clear hb); (try clear hb2); (try clear hk); (try clear hi); obtain ⟨z'87_0, z'87_1, z'87_2, z'87_3, z'87_4, z'87_5⟩ := qz6_ BK482; obtain ⟨y'87_0, y'87_1, y'87_2, y'87_3, y'87_4, y'87_5⟩ := qf6_ BK482))
                          go_roundg k6
                          case measure => have := HJ7.out; have := HJ13.out; have := HK3.out; have := HK4.out; have := HK5.out; have := HK6.out; omega
                          case rel => exact ⟨(false), (wrap64 (x69_3 + 1)), qs_, qs_, H', ⟨by have := HJ7.out; have := HJ13.out; have := HK3.out; have := HK4.out; have := HK5.out; have := HK6.out; omega⟩, ⟨by (with_reducible repeat (first | apply Kd.a0l | apply Kd.a0m | apply Kd.a0n)); exact HO_14.out⟩, ⟨by (with_reducible repeat (first | apply Kd.a0l | apply Kd.a0m | apply Kd.a0n)); exact HO_16.out⟩, ⟨qb_⟩⟩
                        ·replace c68 := be_ c68
                         subst c68
                         have H1 : (a0c.l0 k6 l0 l1 a2 a3 l4 a5 false t473 t477 l0 (l0.length : Int) (wrap64 (x69_3 + 1))) = some r := by rw [if_neg (show ¬ (false = true) by decide)] at H; exact H
                         clear H
                         have H := H1
                         clear H1
                         have H' := am_ H
                         clear H
                         obtain ⟨z'88_0, z'88_1, z'88_2, z'88_3, z'88_4, z'88_5⟩ := qz6_ BK482; obtain ⟨y'88_0, y'88_1, y'88_2, y'88_3, y'88_4, y'88_5⟩ := qf6_ BK482
                         go_wp2_with (first | ((with_reducible refine a0s (f := 9) rfl ?_); refine a1d (some 119) rfl rfl Try.func9 (by kernel_rfl) rfl #[.agg #[.int .i64 ((a0b l0 x69_3).f0), .int .i64 ((a0b l0 x69_3).f1), .int .i64 ((a0b l0 x69_3).f2), .int .i64 ((a0b l0 x69_3).f3), .int .i64 ((a0b l0 x69_3).f4.f0), .int .i64 ((a0b l0 x69_3).f4.f1)], .slice A1 l1.length c1, .int .i64 a5] rfl ql_ ?_; (with_reducible refine (a0o.calls k6 ((a0b l0 x69_3).f0) ((a0b l0 x69_3).f1) ((a0b l0 x69_3).f2) ((a0b l0 x69_3).f3) ((a0b l0 x69_3).f4.f0) ((a0b l0 x69_3).f4.f1) _ _ l1 a5 t486 t487 _ ?s1 ?s2 A41.out).mono ?_); (case s1 => exact qc_ HR1); (case s2 => exact HC1.out); rintro e w89 ⟨rfl, hb⟩; refine ⟨_, rfl, ?_⟩; replace HO_14 := qrb_ HO_14 hb; replace HO_16 := qrb_ HO_16 hb; replace BK482 := qkb_ BK482 hb; replace HB := qbs_ hb; (try clear hb); (try clear hb2); (try clear hk); (try clear hi); obtain ⟨z'90_0, z'90_1, z'90_2, z'90_3, z'90_4, z'90_5⟩ := qz6_ BK482; obtain ⟨y'90_0, y'90_1, y'90_2, y'90_3, y'90_4, y'90_5⟩ := qf6_ BK482))
                         go_roundg k6
                         case measure => have := HJ7.out; have := HJ13.out; have := HK3.out; have := HK4.out; have := HK5.out; have := HK6.out; omega
                         case rel => exact ⟨(false), (wrap64 (x69_3 + 1)), qs_, qs_, H', ⟨by have := HJ7.out; have := HJ13.out; have := HK3.out; have := HK4.out; have := HK5.out; have := HK6.out; omega⟩, ⟨by (with_reducible repeat (first | apply Kd.a0l | apply Kd.a0m | apply Kd.a0n)); exact HO_14.out⟩, ⟨by (with_reducible repeat (first | apply Kd.a0l | apply Kd.a0m | apply Kd.a0n)); exact HO_16.out⟩, ⟨qb_⟩⟩
                      ·rw [if_neg c43] at H
                       have c43b0 : decide (a5 < ((a0b l0 x69_3).f4.f1)) = false := decide_eq_false c43
                       clear c43
                       by_cases c91 : x13_3 = true
                       ·subst c91
                        have H1 : (if t487 = 0 then (if (x20_4 == false) = true then (if a2 = a3 then (a0c.l0 k6 l0 l1 a2 a3 l4 a5 true t473 t477 l0 (l0.length : Int) (wrap64 (x69_3 + 1))) else (if x20_4 = true then (a0c.l0 k6 l0 l1 a2 a3 l4 a5 (!x21_5) t473 t477 l0 (l0.length : Int) (wrap64 (x69_3 + 1))) else (a0c.l0 k6 l0 l1 a2 a3 l4 a5 true t473 t477 l0 (l0.length : Int) (wrap64 (x69_3 + 1))))) else (a0c.l0 k6 l0 l1 a2 a3 l4 a5 false t473 t477 l0 (l0.length : Int) (wrap64 (x69_3 + 1)))) else (a0c.l0 k6 l0 l1 a2 a3 l4 a5 false t473 t477 l0 (l0.length : Int) (wrap64 (x69_3 + 1)))) = some r := by rw [if_pos rfl] at H; exact H
                        clear H
                        have H := H1
                        clear H1
                        by_cases c92 : t487 = 0
                        ·rw [if_pos c92] at H
                         have c92b0 : (t487 == 0) = true := beq_iff_eq.mpr c92
                         have c92b1 : (t487 != 0) = false := bne_eq_false_iff_eq.mpr c92
                         clear c92
                         by_cases c93 : (x20_4 == false) = true
                         ·rw [if_pos c93] at H
                          have c93b0 : (x20_4 == false) = true := c93
                          (try (have c93b1 : decide (x20_4 = false) = true := by simpa using c93))
                          (try (have c93b2 : (x20_4 == false) = true := by simpa using c93))
                          clear c93
                          by_cases c94 : a2 = a3
                          ·rw [if_pos c94] at H
                           have c94b0 : (a2 == a3) = true := beq_iff_eq.mpr c94
                           have c94b1 : (a2 != a3) = false := bne_eq_false_iff_eq.mpr c94
                           clear c94
                           have H' := am_ H
                           clear H
                           obtain ⟨z'95_0, z'95_1, z'95_2, z'95_3, z'95_4, z'95_5⟩ := qz6_ BK482; obtain ⟨y'95_0, y'95_1, y'95_2, y'95_3, y'95_4, y'95_5⟩ := qf6_ BK482
                           go_wp2_with (first | ((with_reducible refine a0s (f := 9) rfl ?_); refine a1d (some 119) rfl rfl Try.func9 (by kernel_rfl) rfl #[.agg #[.int .i64 ((a0b l0 x69_3).f0), .int .i64 ((a0b l0 x69_3).f1), .int .i64 ((a0b l0 x69_3).f2), .int .i64 ((a0b l0 x69_3).f3), .int .i64 ((a0b l0 x69_3).f4.f0), .int .i64 ((a0b l0 x69_3).f4.f1)], .slice A1 l1.length c1, .int .i64 a5] rfl ql_ ?_; (with_reducible refine (a0o.calls k6 ((a0b l0 x69_3).f0) ((a0b l0 x69_3).f1) ((a0b l0 x69_3).f2) ((a0b l0 x69_3).f3) ((a0b l0 x69_3).f4.f0) ((a0b l0 x69_3).f4.f1) _ _ l1 a5 t486 t487 _ ?s1 ?s2 A41.out).mono ?_); (case s1 => exact qc_ HR1); (case s2 => exact HC1.out); rintro e w96 ⟨rfl, hb⟩; refine ⟨_, rfl, ?_⟩; replace HO_14 := qrb_ HO_14 hb; replace HO_16 := qrb_ HO_16 hb; replace BK482 := qkb_ BK482 hb; replace HB := qbs_ hb; (try clear hb); (try clear hb2); (try clear hk); (try clear hi); obtain ⟨z'97_0, z'97_1, z'97_2, z'97_3, z'97_4, z'97_5⟩ := qz6_ BK482; obtain ⟨y'97_0, y'97_1, y'97_2, y'97_3, y'97_4, y'97_5⟩ := qf6_ BK482))
                           go_roundg k6
                           case measure => have := HJ7.out; have := HJ13.out; have := HK3.out; have := HK4.out; have := HK5.out; have := HK6.out; omega
                           case rel => exact ⟨(true), (wrap64 (x69_3 + 1)), qs_, qs_, H', ⟨by have := HJ7.out; have := HJ13.out; have := HK3.out; have := HK4.out; have := HK5.out; have := HK6.out; omega⟩, ⟨by (with_reducible repeat (first | apply Kd.a0l | apply Kd.a0m | apply Kd.a0n)); exact HO_14.out⟩, ⟨by (with_reducible repeat (first | apply Kd.a0l | apply Kd.a0m | apply Kd.a0n)); exact HO_16.out⟩, ⟨qb_⟩⟩
                          ·rw [if_neg c94] at H
                           have c94b0 : (a2 == a3) = false := beq_eq_false_iff_ne.mpr c94
                           have c94b1 : (a2 != a3) = true := bne_iff_ne.mpr c94
                           by_cases c98 : x20_4 = true
                           ·subst c98
                            have H1 : (a0c.l0 k6 l0 l1 a2 a3 l4 a5 (!x21_5) t473 t477 l0 (l0.length : Int) (wrap64 (x69_3 + 1))) = some r := by rw [if_pos rfl] at H; exact H
                            clear H
                            have H := H1
                            clear H1
                            have H' := am_ H
                            clear H
                            obtain ⟨z'99_0, z'99_1, z'99_2, z'99_3, z'99_4, z'99_5⟩ := qz6_ BK482; obtain ⟨y'99_0, y'99_1, y'99_2, y'99_3, y'99_4, y'99_5⟩ := qf6_ BK482
                            go_wp2_with (first | ((with_reducible refine a0s (f := 9) rfl ?_); refine a1d (some 119) rfl rfl Try.func9 (by kernel_rfl) rfl #[.agg #[.int .i64 ((a0b l0 x69_3).f0), .int .i64 ((a0b l0 x69_3).f1), .int .i64 ((a0b l0 x69_3).f2), .int .i64 ((a0b l0 x69_3).f3), .int .i64 ((a0b l0 x69_3).f4.f0), .int .i64 ((a0b l0 x69_3).f4.f1)], .slice A1 l1.length c1, .int .i64 a5] rfl ql_ ?_; (with_reducible refine (a0o.calls k6 ((a0b l0 x69_3).f0) ((a0b l0 x69_3).f1) ((a0b l0 x69_3).f2) ((a0b l0 x69_3).f3) ((a0b l0 x69_3).f4.f0) ((a0b l0 x69_3).f4.f1) _ _ l1 a5 t486 t487 _ ?s1 ?s2 A41.out).mono ?_); (case s1 => exact qc_ HR1); (case s2 => exact HC1.out); rintro e w100 ⟨rfl, hb⟩; refine ⟨_, rfl, ?_⟩; replace HO_14 := qrb_ HO_14 hb; replace HO_16 := qrb_ HO_16 hb; replace BK482 := qkb_ BK482 hb; replace HB := qbs_ hb; (try clear hb); (try clear hb2); (try clear hk); (try clear hi); obtain ⟨z'101_0, z'101_1, z'101_2, z'101_3, z'101_4, z'101_5⟩ := qz6_ BK482; obtain ⟨y'101_0, y'101_1, y'101_2, y'101_3, y'101_4, y'101_5⟩ := qf6_ BK482))
                            go_roundg k6
                            case measure => have := HJ7.out; have := HJ13.out; have := HK3.out; have := HK4.out; have := HK5.out; have := HK6.out; omega
                            case rel => exact ⟨(!x21_5), (wrap64 (x69_3 + 1)), qs_, qs_, H', ⟨by have := HJ7.out; have := HJ13.out; have := HK3.out; have := HK4.out; have := HK5.out; have := HK6.out; omega⟩, ⟨by (with_reducible repeat (first | apply Kd.a0l | apply Kd.a0m | apply Kd.a0n)); exact HO_14.out⟩, ⟨by (with_reducible repeat (first | apply Kd.a0l | apply Kd.a0m | apply Kd.a0n)); exact HO_16.out⟩, ⟨qb_⟩⟩
                           ·replace c98 := be_ c98
                            subst c98
                            have H1 : (a0c.l0 k6 l0 l1 a2 a3 l4 a5 true t473 t477 l0 (l0.length : Int) (wrap64 (x69_3 + 1))) = some r := by rw [if_neg (show ¬ (false = true) by decide)] at H; exact H
                            clear H
                            have H := H1
                            clear H1
                            have H' := am_ H
                            clear H
                            obtain ⟨z'102_0, z'102_1, z'102_2, z'102_3, z'102_4, z'102_5⟩ := qz6_ BK482; obtain ⟨y'102_0, y'102_1, y'102_2, y'102_3, y'102_4, y'102_5⟩ := qf6_ BK482
                            go_wp2_with (first | ((with_reducible refine a0s (f := 9) rfl ?_); refine a1d (some 119) rfl rfl Try.func9 (by kernel_rfl) rfl #[.agg #[.int .i64 ((a0b l0 x69_3).f0), .int .i64 ((a0b l0 x69_3).f1), .int .i64 ((a0b l0 x69_3).f2), .int .i64 ((a0b l0 x69_3).f3), .int .i64 ((a0b l0 x69_3).f4.f0), .int .i64 ((a0b l0 x69_3).f4.f1)], .slice A1 l1.length c1, .int .i64 a5] rfl ql_ ?_; (with_reducible refine (a0o.calls k6 ((a0b l0 x69_3).f0) ((a0b l0 x69_3).f1) ((a0b l0 x69_3).f2) ((a0b l0 x69_3).f3) ((a0b l0 x69_3).f4.f0) ((a0b l0 x69_3).f4.f1) _ _ l1 a5 t486 t487 _ ?s1 ?s2 A41.out).mono ?_); (case s1 => exact qc_ HR1); (case s2 => exact HC1.out); rintro e w103 ⟨rfl, hb⟩; refine ⟨_, rfl, ?_⟩; replace HO_14 := qrb_ HO_14 hb; replace HO_16 := qrb_ HO_16 hb; replace BK482 := qkb_ BK482 hb; replace HB := qbs_ hb; (try clear hb); (try clear hb2); (try clear hk); (try clear hi); obtain ⟨z'104_0, z'104_1, z'104_2, z'104_3, z'104_4, z'104_5⟩ := qz6_ BK482; obtain ⟨y'104_0, y'104_1, y'104_2, y'104_3, y'104_4, y'104_5⟩ := qf6_ BK482))
                            go_roundg k6
                            case measure => have := HJ7.out; have := HJ13.out; have := HK3.out; have := HK4.out; have := HK5.out; have := HK6.out; omega
                            case rel => exact ⟨(true), (wrap64 (x69_3 + 1)), qs_, qs_, H', ⟨by have := HJ7.out; have := HJ13.out; have := HK3.out; have := HK4.out; have := HK5.out; have := HK6.out; omega⟩, ⟨by (with_reducible repeat (first | apply Kd.a0l | apply Kd.a0m | apply Kd.a0n)); exact HO_14.out⟩, ⟨by (with_reducible repeat (first | apply Kd.a0l | apply Kd.a0m | apply Kd.a0n)); exact HO_16.out⟩, ⟨qb_⟩⟩
                         ·rw [if_neg c93] at H
                          have c93b0 : (x20_4 == false) = false := by simpa using c93
                          (try (have c93b1 : decide (x20_4 = false) = false := by simpa using c93))
                          (try (have c93b2 : (x20_4 == false) = false := by simpa using c93))
                          (try (have c93b3 : ¬ (x20_4 = false) := by simpa using c93))
                          clear c93
                          have H' := am_ H
                          clear H
                          obtain ⟨z'105_0, z'105_1, z'105_2, z'105_3, z'105_4, z'105_5⟩ := qz6_ BK482; obtain ⟨y'105_0, y'105_1, y'105_2, y'105_3, y'105_4, y'105_5⟩ := qf6_ BK482
                          go_wp2_with (first | ((with_reducible refine a0s (f := 9) rfl ?_); refine a1d (some 119) rfl rfl Try.func9 (by kernel_rfl) rfl #[.agg #[.int .i64 ((a0b l0 x69_3).f0), .int .i64 ((a0b l0 x69_3).f1), .int .i64 ((a0b l0 x69_3).f2), .int .i64 ((a0b l0 x69_3).f3), .int .i64 ((a0b l0 x69_3).f4.f0), .int .i64 ((a0b l0 x69_3).f4.f1)], .slice A1 l1.length c1, .int .i64 a5] rfl ql_ ?_; (with_reducible refine (a0o.calls k6 ((a0b l0 x69_3).f0) ((a0b l0 x69_3).f1) ((a0b l0 x69_3).f2) ((a0b l0 x69_3).f3) ((a0b l0 x69_3).f4.f0) ((a0b l0 x69_3).f4.f1) _ _ l1 a5 t486 t487 _ ?s1 ?s2 A41.out).mono ?_); (case s1 => exact qc_ HR1); (case s2 => exact HC1.out); rintro e w106 ⟨rfl, hb⟩; refine ⟨_, rfl, ?_⟩; replace HO_14 := qrb_ HO_14 hb; replace HO_16 := qrb_ HO_16 hb; replace BK482 := qkb_ BK482 hb; replace HB := qbs_ hb; (try clear hb); (try clear hb2); (try clear hk); (try clear hi); obtain ⟨z'107_0, z'107_1, z'107_2, z'107_3, z'107_4, z'107_5⟩ := qz6_ BK482; obtain ⟨y'107_0, y'107_1, y'107_2, y'107_3, y'107_4, y'107_5⟩ := qf6_ BK482))
                          go_roundg k6
                          case measure => have := HJ7.out; have := HJ13.out; have := HK3.out; have := HK4.out; have := HK5.out; have := HK6.out; omega
                          case rel => exact ⟨(false), (wrap64 (x69_3 + 1)), qs_, qs_, H', ⟨by have := HJ7.out; have := HJ13.out; have := HK3.out; have := HK4.out; have := HK5.out; have := HK6.out; omega⟩, ⟨by (with_reducible repeat (first | apply Kd.a0l | apply Kd.a0m | apply Kd.a0n)); exact HO_14.out⟩, ⟨by (with_reducible repeat (first | apply Kd.a0l | apply Kd.a0m | apply Kd.a0n)); exact HO_16.out⟩, ⟨qb_⟩⟩
                        ·rw [if_neg c92] at H
                         have c92b0 : (t487 == 0) = false := beq_eq_false_iff_ne.mpr c92
                         have c92b1 : (t487 != 0) = true := bne_iff_ne.mpr c92
                         have H' := am_ H
                         clear H
                         obtain ⟨z'108_0, z'108_1, z'108_2, z'108_3, z'108_4, z'108_5⟩ := qz6_ BK482; obtain ⟨y'108_0, y'108_1, y'108_2, y'108_3, y'108_4, y'108_5⟩ := qf6_ BK482
                         go_wp2_with (first | ((with_reducible refine a0s (f := 9) rfl ?_); refine a1d (some 119) rfl rfl Try.func9 (by kernel_rfl) rfl #[.agg #[.int .i64 ((a0b l0 x69_3).f0), .int .i64 ((a0b l0 x69_3).f1), .int .i64 ((a0b l0 x69_3).f2), .int .i64 ((a0b l0 x69_3).f3), .int .i64 ((a0b l0 x69_3).f4.f0), .int .i64 ((a0b l0 x69_3).f4.f1)], .slice A1 l1.length c1, .int .i64 a5] rfl ql_ ?_; (with_reducible refine (a0o.calls k6 ((a0b l0 x69_3).f0) ((a0b l0 x69_3).f1) ((a0b l0 x69_3).f2) ((a0b l0 x69_3).f3) ((a0b l0 x69_3).f4.f0) ((a0b l0 x69_3).f4.f1) _ _ l1 a5 t486 t487 _ ?s1 ?s2 A41.out).mono ?_); (case s1 => exact qc_ HR1); (case s2 => exact HC1.out); rintro e w109 ⟨rfl, hb⟩; refine ⟨_, rfl, ?_⟩; replace HO_14 := qrb_ HO_14 hb; replace HO_16 := qrb_ HO_16 hb; replace BK482 := qkb_ BK482 hb; replace HB := qbs_ hb; (try clear hb); (try clear hb2); (try clear hk); (try clear hi); obtain ⟨z'110_0, z'110_1, z'110_2, z'110_3, z'110_4, z'110_5⟩ := qz6_ BK482; obtain ⟨y'110_0, y'110_1, y'110_2, y'110_3, y'110_4, y'110_5⟩ := qf6_ BK482))
                         go_roundg k6
                         case measure => have := HJ7.out; have := HJ13.out; have := HK3.out; have := HK4.out; have := HK5.out; have := HK6.out; omega
                         case rel => exact ⟨(false), (wrap64 (x69_3 + 1)), qs_, qs_, H', ⟨by have := HJ7.out; have := HJ13.out; have := HK3.out; have := HK4.out; have := HK5.out; have := HK6.out; omega⟩, ⟨by (with_reducible repeat (first | apply Kd.a0l | apply Kd.a0m | apply Kd.a0n)); exact HO_14.out⟩, ⟨by (with_reducible repeat (first | apply Kd.a0l | apply Kd.a0m | apply Kd.a0n)); exact HO_16.out⟩, ⟨qb_⟩⟩
                       ·replace c91 := be_ c91
                        subst c91
                        have H1 : (a0c.l0 k6 l0 l1 a2 a3 l4 a5 false t473 t477 l0 (l0.length : Int) (wrap64 (x69_3 + 1))) = some r := by rw [if_neg (show ¬ (false = true) by decide)] at H; exact H
                        clear H
                        have H := H1
                        clear H1
                        have H' := am_ H
                        clear H
                        obtain ⟨z'111_0, z'111_1, z'111_2, z'111_3, z'111_4, z'111_5⟩ := qz6_ BK482; obtain ⟨y'111_0, y'111_1, y'111_2, y'111_3, y'111_4, y'111_5⟩ := qf6_ BK482
                        go_wp2_with (first | ((with_reducible refine a0s (f := 9) rfl ?_); refine a1d (some 119) rfl rfl Try.func9 (by kernel_rfl) rfl #[.agg #[.int .i64 ((a0b l0 x69_3).f0), .int .i64 ((a0b l0 x69_3).f1), .int .i64 ((a0b l0 x69_3).f2), .int .i64 ((a0b l0 x69_3).f3), .int .i64 ((a0b l0 x69_3).f4.f0), .int .i64 ((a0b l0 x69_3).f4.f1)], .slice A1 l1.length c1, .int .i64 a5] rfl ql_ ?_; (with_reducible refine (a0o.calls k6 ((a0b l0 x69_3).f0) ((a0b l0 x69_3).f1) ((a0b l0 x69_3).f2) ((a0b l0 x69_3).f3) ((a0b l0 x69_3).f4.f0) ((a0b l0 x69_3).f4.f1) _ _ l1 a5 t486 t487 _ ?s1 ?s2 A41.out).mono ?_); (case s1 => exact qc_ HR1); (case s2 => exact HC1.out); rintro e w112 ⟨rfl, hb⟩; refine ⟨_, rfl, ?_⟩; replace HO_14 := qrb_ HO_14 hb; replace HO_16 := qrb_ HO_16 hb; replace BK482 := qkb_ BK482 hb; replace HB := qbs_ hb; (try clear hb); (try clear hb2); (try clear hk); (try clear hi); obtain ⟨z'113_0, z'113_1, z'113_2, z'113_3, z'113_4, z'113_5⟩ := qz6_ BK482; obtain ⟨y'113_0, y'113_1, y'113_2, y'113_3, y'113_4, y'113_5⟩ := qf6_ BK482))
                        go_roundg k6
                        case measure => have := HJ7.out; have := HJ13.out; have := HK3.out; have := HK4.out; have := HK5.out; have := HK6.out; omega
                        case rel => exact ⟨(false), (wrap64 (x69_3 + 1)), qs_, qs_, H', ⟨by have := HJ7.out; have := HJ13.out; have := HK3.out; have := HK4.out; have := HK5.out; have := HK6.out; omega⟩, ⟨by (with_reducible repeat (first | apply Kd.a0l | apply Kd.a0m | apply Kd.a0n)); exact HO_14.out⟩, ⟨by (with_reducible repeat (first | apply Kd.a0l | apply Kd.a0m | apply Kd.a0n)); exact HO_16.out⟩, ⟨qb_⟩⟩
                     ·rw [if_neg c42] at H
                      have c42b0 : decide (((a0b l0 x69_3).f4.f0) ≤ a5) = false := decide_eq_false c42
                      clear c42
                      by_cases c114 : x13_3 = true
                      ·subst c114
                       have H1 : (if t487 = 0 then (if (x20_4 == false) = true then (if a2 = a3 then (a0c.l0 k6 l0 l1 a2 a3 l4 a5 true t473 t477 l0 (l0.length : Int) (wrap64 (x69_3 + 1))) else (if x20_4 = true then (a0c.l0 k6 l0 l1 a2 a3 l4 a5 (!x21_5) t473 t477 l0 (l0.length : Int) (wrap64 (x69_3 + 1))) else (a0c.l0 k6 l0 l1 a2 a3 l4 a5 true t473 t477 l0 (l0.length : Int) (wrap64 (x69_3 + 1))))) else (a0c.l0 k6 l0 l1 a2 a3 l4 a5 false t473 t477 l0 (l0.length : Int) (wrap64 (x69_3 + 1)))) else (a0c.l0 k6 l0 l1 a2 a3 l4 a5 false t473 t477 l0 (l0.length : Int) (wrap64 (x69_3 + 1)))) = some r := by rw [if_pos rfl] at H; exact H
                       clear H
                       have H := H1
                       clear H1
                       by_cases c115 : t487 = 0
                       ·rw [if_pos c115] at H
                        have c115b0 : (t487 == 0) = true := beq_iff_eq.mpr c115
                        have c115b1 : (t487 != 0) = false := bne_eq_false_iff_eq.mpr c115
                        clear c115
                        by_cases c116 : (x20_4 == false) = true
                        ·rw [if_pos c116] at H
                         have c116b0 : (x20_4 == false) = true := c116
                         (try (have c116b1 : decide (x20_4 = false) = true := by simpa using c116))
                         (try (have c116b2 : (x20_4 == false) = true := by simpa using c116))
                         clear c116
                         by_cases c117 : a2 = a3
                         ·rw [if_pos c117] at H
                          have c117b0 : (a2 == a3) = true := beq_iff_eq.mpr c117
                          have c117b1 : (a2 != a3) = false := bne_eq_false_iff_eq.mpr c117
                          clear c117
                          have H' := am_ H
                          clear H
                          obtain ⟨z'118_0, z'118_1, z'118_2, z'118_3, z'118_4, z'118_5⟩ := qz6_ BK482; obtain ⟨y'118_0, y'118_1, y'118_2, y'118_3, y'118_4, y'118_5⟩ := qf6_ BK482
                          go_wp2_with (first | ((with_reducible refine a0s (f := 9) rfl ?_); refine a1d (some 119) rfl rfl Try.func9 (by kernel_rfl) rfl #[.agg #[.int .i64 ((a0b l0 x69_3).f0), .int .i64 ((a0b l0 x69_3).f1), .int .i64 ((a0b l0 x69_3).f2), .int .i64 ((a0b l0 x69_3).f3), .int .i64 ((a0b l0 x69_3).f4.f0), .int .i64 ((a0b l0 x69_3).f4.f1)], .slice A1 l1.length c1, .int .i64 a5] rfl ql_ ?_; (with_reducible refine (a0o.calls k6 ((a0b l0 x69_3).f0) ((a0b l0 x69_3).f1) ((a0b l0 x69_3).f2) ((a0b l0 x69_3).f3) ((a0b l0 x69_3).f4.f0) ((a0b l0 x69_3).f4.f1) _ _ l1 a5 t486 t487 _ ?s1 ?s2 A41.out).mono ?_); (case s1 => exact qc_ HR1); (case s2 => exact HC1.out); rintro e w119 ⟨rfl, hb⟩; refine ⟨_, rfl, ?_⟩; replace HO_14 := qrb_ HO_14 hb; replace HO_16 := qrb_ HO_16 hb; replace BK482 := qkb_ BK482 hb; replace HB := qbs_ hb; (try clear hb); (try clear hb2); (try clear hk); (try clear hi); obtain ⟨z'120_0, z'120_1, z'120_2, z'120_3, z'120_4, z'120_5⟩ := qz6_ BK482; obtain ⟨y'120_0, y'120_1, y'120_2, y'120_3, y'120_4, y'120_5⟩ := qf6_ BK482))
                          go_roundg k6
                          case measure => have := HJ7.out; have := HJ13.out; have := HK3.out; have := HK4.out; have := HK5.out; have := HK6.out; omega
                          case rel => exact ⟨(true), (wrap64 (x69_3 + 1)), qs_, qs_, H', ⟨by have := HJ7.out; have := HJ13.out; have := HK3.out; have := HK4.out; have := HK5.out; have := HK6.out; omega⟩, ⟨by (with_reducible repeat (first | apply Kd.a0l | apply Kd.a0m | apply Kd.a0n)); exact HO_14.out⟩, ⟨by (with_reducible repeat (first | apply Kd.a0l | apply Kd.a0m | apply Kd.a0n)); exact HO_16.out⟩, ⟨qb_⟩⟩
                         ·rw [if_neg c117] at H
                          have c117b0 : (a2 == a3) = false := beq_eq_false_iff_ne.mpr c117
                          have c117b1 : (a2 != a3) = true := bne_iff_ne.mpr c117
                          by_cases c121 : x20_4 = true
                          ·subst c121
                           have H1 : (a0c.l0 k6 l0 l1 a2 a3 l4 a5 (!x21_5) t473 t477 l0 (l0.length : Int) (wrap64 (x69_3 + 1))) = some r := by rw [if_pos rfl] at H; exact H
                           clear H
                           have H := H1
                           clear H1
                           have H' := am_ H
                           clear H
                           obtain ⟨z'122_0, z'122_1, z'122_2, z'122_3, z'122_4, z'122_5⟩ := qz6_ BK482; obtain ⟨y'122_0, y'122_1, y'122_2, y'122_3, y'122_4, y'122_5⟩ := qf6_ BK482
                           go_wp2_with (first | ((with_reducible refine a0s (f := 9) rfl ?_); refine a1d (some 119) rfl rfl Try.func9 (by kernel_rfl) rfl #[.agg #[.int .i64 ((a0b l0 x69_3).f0), .int .i64 ((a0b l0 x69_3).f1), .int .i64 ((a0b l0 x69_3).f2), .int .i64 ((a0b l0 x69_3).f3), .int .i64 ((a0b l0 x69_3).f4.f0), .int .i64 ((a0b l0 x69_3).f4.f1)], .slice A1 l1.length c1, .int .i64 a5] rfl ql_ ?_; (with_reducible refine (a0o.calls k6 ((a0b l0 x69_3).f0) ((a0b l0 x69_3).f1) ((a0b l0 x69_3).f2) ((a0b l0 x69_3).f3) ((a0b l0 x69_3).f4.f0) ((a0b l0 x69_3).f4.f1) _ _ l1 a5 t486 t487 _ ?s1 ?s2 A41.out).mono ?_); (case s1 => exact qc_ HR1); (case s2 => exact HC1.out); rintro e w123 ⟨rfl, hb⟩; refine ⟨_, rfl, ?_⟩; replace HO_14 := qrb_ HO_14 hb; replace HO_16 := qrb_ HO_16 hb; replace BK482 := qkb_ BK482 hb; replace HB := qbs_ hb; (try clear hb); (try clear hb2); (try clear hk); (try clear hi); obtain ⟨z'124_0, z'124_1, z'124_2, z'124_3, z'124_4, z'124_5⟩ := qz6_ BK482; obtain ⟨y'124_0, y'124_1, y'124_2, y'124_3, y'124_4, y'124_5⟩ := qf6_ BK482))
                           go_roundg k6
                           case measure => have := HJ7.out; have := HJ13.out; have := HK3.out; have := HK4.out; have := HK5.out; have := HK6.out; omega
                           case rel => exact ⟨(!x21_5), (wrap64 (x69_3 + 1)), qs_, qs_, H', ⟨by have := HJ7.out; have := HJ13.out; have := HK3.out; have := HK4.out; have := HK5.out; have := HK6.out; omega⟩, ⟨by (with_reducible repeat (first | apply Kd.a0l | apply Kd.a0m | apply Kd.a0n)); exact HO_14.out⟩, ⟨by (with_reducible repeat (first | apply Kd.a0l | apply Kd.a0m | apply Kd.a0n)); exact HO_16.out⟩, ⟨qb_⟩⟩
                          ·replace c121 := be_ c121
                           subst c121
                           have H1 : (a0c.l0 k6 l0 l1 a2 a3 l4 a5 true t473 t477 l0 (l0.length : Int) (wrap64 (x69_3 + 1))) = some r := by rw [if_neg (show ¬ (false = true) by decide)] at H; exact H
                           clear H
                           have H := H1
                           clear H1
                           have H' := am_ H
                           clear H
                           obtain ⟨z'125_0, z'125_1, z'125_2, z'125_3, z'125_4, z'125_5⟩ := qz6_ BK482; obtain ⟨y'125_0, y'125_1, y'125_2, y'125_3, y'125_4, y'125_5⟩ := qf6_ BK482
                           go_wp2_with (first | ((with_reducible refine a0s (f := 9) rfl ?_); refine a1d (some 119) rfl rfl Try.func9 (by kernel_rfl) rfl #[.agg #[.int .i64 ((a0b l0 x69_3).f0), .int .i64 ((a0b l0 x69_3).f1), .int .i64 ((a0b l0 x69_3).f2), .int .i64 ((a0b l0 x69_3).f3), .int .i64 ((a0b l0 x69_3).f4.f0), .int .i64 ((a0b l0 x69_3).f4.f1)], .slice A1 l1.length c1, .int .i64 a5] rfl ql_ ?_; (with_reducible refine (a0o.calls k6 ((a0b l0 x69_3).f0) ((a0b l0 x69_3).f1) ((a0b l0 x69_3).f2) ((a0b l0 x69_3).f3) ((a0b l0 x69_3).f4.f0) ((a0b l0 x69_3).f4.f1) _ _ l1 a5 t486 t487 _ ?s1 ?s2 A41.out).mono ?_); (case s1 => exact qc_ HR1); (case s2 => exact HC1.out); rintro e w126 ⟨rfl, hb⟩; refine ⟨_, rfl, ?_⟩; replace HO_14 := qrb_ HO_14 hb; replace HO_16 := qrb_ HO_16 hb; replace BK482 := qkb_ BK482 hb; replace HB := qbs_ hb; (try clear hb); (try clear hb2); (try clear hk); (try clear hi); obtain ⟨z'127_0, z'127_1, z'127_2, z'127_3, z'127_4, z'127_5⟩ := qz6_ BK482; obtain ⟨y'127_0, y'127_1, y'127_2, y'127_3, y'127_4, y'127_5⟩ := qf6_ BK482))
                           go_roundg k6
                           case measure => have := HJ7.out; have := HJ13.out; have := HK3.out; have := HK4.out; have := HK5.out; have := HK6.out; omega
                           case rel => exact ⟨(true), (wrap64 (x69_3 + 1)), qs_, qs_, H', ⟨by have := HJ7.out; have := HJ13.out; have := HK3.out; have := HK4.out; have := HK5.out; have := HK6.out; omega⟩, ⟨by (with_reducible repeat (first | apply Kd.a0l | apply Kd.a0m | apply Kd.a0n)); exact HO_14.out⟩, ⟨by (with_reducible repeat (first | apply Kd.a0l | apply Kd.a0m | apply Kd.a0n)); exact HO_16.out⟩, ⟨qb_⟩⟩
                        ·rw [if_neg c116] at H
                         have c116b0 : (x20_4 == false) = false := by simpa using c116
                         (try (have c116b1 : decide (x20_4 = false) = false := by simpa using c116))
                         (try (have c116b2 : (x20_4 == false) = false := by simpa using c116))
                         (try (have c116b3 : ¬ (x20_4 = false) := by simpa using c116))
                         clear c116
                         have H' := am_ H
                         clear H
                         obtain ⟨z'128_0, z'128_1, z'128_2, z'128_3, z'128_4, z'128_5⟩ := qz6_ BK482; obtain ⟨y'128_0, y'128_1, y'128_2, y'128_3, y'128_4, y'128_5⟩ := qf6_ BK482
                         go_wp2_with (first | ((with_reducible refine a0s (f := 9) rfl ?_); refine a1d (some 119) rfl rfl Try.func9 (by kernel_rfl) rfl #[.agg #[.int .i64 ((a0b l0 x69_3).f0), .int .i64 ((a0b l0 x69_3).f1), .int .i64 ((a0b l0 x69_3).f2), .int .i64 ((a0b l0 x69_3).f3), .int .i64 ((a0b l0 x69_3).f4.f0), .int .i64 ((a0b l0 x69_3).f4.f1)], .slice A1 l1.length c1, .int .i64 a5] rfl ql_ ?_; (with_reducible refine (a0o.calls k6 ((a0b l0 x69_3).f0) ((a0b l0 x69_3).f1) ((a0b l0 x69_3).f2) ((a0b l0 x69_3).f3) ((a0b l0 x69_3).f4.f0) ((a0b l0 x69_3).f4.f1) _ _ l1 a5 t486 t487 _ ?s1 ?s2 A41.out).mono ?_); (case s1 => exact qc_ HR1); (case s2 => exact HC1.out); rintro e w129 ⟨rfl, hb⟩; refine ⟨_, rfl, ?_⟩; replace HO_14 := qrb_ HO_14 hb; replace HO_16 := qrb_ HO_16 hb; replace BK482 := qkb_ BK482 hb; replace HB := qbs_ hb; (try clear hb); (try clear hb2); (try clear hk); (try clear hi); obtain ⟨z'130_0, z'130_1, z'130_2, z'130_3, z'130_4, z'130_5⟩ := qz6_ BK482; obtain ⟨y'130_0, y'130_1, y'130_2, y'130_3, y'130_4, y'130_5⟩ := qf6_ BK482))
                         go_roundg k6
                         case measure => have := HJ7.out; have := HJ13.out; have := HK3.out; have := HK4.out; have := HK5.out; have := HK6.out; omega
                         case rel => exact ⟨(false), (wrap64 (x69_3 + 1)), qs_, qs_, H', ⟨by have := HJ7.out; have := HJ13.out; have := HK3.out; have := HK4.out; have := HK5.out; have := HK6.out; omega⟩, ⟨by (with_reducible repeat (first | apply Kd.a0l | apply Kd.a0m | apply Kd.a0n)); exact HO_14.out⟩, ⟨by (with_reducible repeat (first | apply Kd.a0l | apply Kd.a0m | apply Kd.a0n)); exact HO_16.out⟩, ⟨qb_⟩⟩
                       ·rw [if_neg c115] at H
                        have c115b0 : (t487 == 0) = false := beq_eq_false_iff_ne.mpr c115
                        have c115b1 : (t487 != 0) = true := bne_iff_ne.mpr c115
                        have H' := am_ H
                        clear H
                        obtain ⟨z'131_0, z'131_1, z'131_2, z'131_3, z'131_4, z'131_5⟩ := qz6_ BK482; obtain ⟨y'131_0, y'131_1, y'131_2, y'131_3, y'131_4, y'131_5⟩ := qf6_ BK482
                        go_wp2_with (first | ((with_reducible refine a0s (f := 9) rfl ?_); refine a1d (some 119) rfl rfl Try.func9 (by kernel_rfl) rfl #[.agg #[.int .i64 ((a0b l0 x69_3).f0), .int .i64 ((a0b l0 x69_3).f1), .int .i64 ((a0b l0 x69_3).f2), .int .i64 ((a0b l0 x69_3).f3), .int .i64 ((a0b l0 x69_3).f4.f0), .int .i64 ((a0b l0 x69_3).f4.f1)], .slice A1 l1.length c1, .int .i64 a5] rfl ql_ ?_; (with_reducible refine (a0o.calls k6 ((a0b l0 x69_3).f0) ((a0b l0 x69_3).f1) ((a0b l0 x69_3).f2) ((a0b l0 x69_3).f3) ((a0b l0 x69_3).f4.f0) ((a0b l0 x69_3).f4.f1) _ _ l1 a5 t486 t487 _ ?s1 ?s2 A41.out).mono ?_); (case s1 => exact qc_ HR1); (case s2 => exact HC1.out); rintro e w132 ⟨rfl, hb⟩; refine ⟨_, rfl, ?_⟩; replace HO_14 := qrb_ HO_14 hb; replace HO_16 := qrb_ HO_16 hb; replace BK482 := qkb_ BK482 hb; replace HB := qbs_ hb; (try clear hb); (try clear hb2); (try clear hk); (try clear hi); obtain ⟨z'133_0, z'133_1, z'133_2, z'133_3, z'133_4, z'133_5⟩ := qz6_ BK482; obtain ⟨y'133_0, y'133_1, y'133_2, y'133_3, y'133_4, y'133_5⟩ := qf6_ BK482))
                        go_roundg k6
                        case measure => have := HJ7.out; have := HJ13.out; have := HK3.out; have := HK4.out; have := HK5.out; have := HK6.out; omega
                        case rel => exact ⟨(false), (wrap64 (x69_3 + 1)), qs_, qs_, H', ⟨by have := HJ7.out; have := HJ13.out; have := HK3.out; have := HK4.out; have := HK5.out; have := HK6.out; omega⟩, ⟨by (with_reducible repeat (first | apply Kd.a0l | apply Kd.a0m | apply Kd.a0n)); exact HO_14.out⟩, ⟨by (with_reducible repeat (first | apply Kd.a0l | apply Kd.a0m | apply Kd.a0n)); exact HO_16.out⟩, ⟨qb_⟩⟩
                      ·replace c114 := be_ c114
                       subst c114
                       have H1 : (a0c.l0 k6 l0 l1 a2 a3 l4 a5 false t473 t477 l0 (l0.length : Int) (wrap64 (x69_3 + 1))) = some r := by rw [if_neg (show ¬ (false = true) by decide)] at H; exact H
                       clear H
                       have H := H1
                       clear H1
                       have H' := am_ H
                       clear H
                       obtain ⟨z'134_0, z'134_1, z'134_2, z'134_3, z'134_4, z'134_5⟩ := qz6_ BK482; obtain ⟨y'134_0, y'134_1, y'134_2, y'134_3, y'134_4, y'134_5⟩ := qf6_ BK482
                       go_wp2_with (first | ((with_reducible refine a0s (f := 9) rfl ?_); refine a1d (some 119) rfl rfl Try.func9 (by kernel_rfl) rfl #[.agg #[.int .i64 ((a0b l0 x69_3).f0), .int .i64 ((a0b l0 x69_3).f1), .int .i64 ((a0b l0 x69_3).f2), .int .i64 ((a0b l0 x69_3).f3), .int .i64 ((a0b l0 x69_3).f4.f0), .int .i64 ((a0b l0 x69_3).f4.f1)], .slice A1 l1.length c1, .int .i64 a5] rfl ql_ ?_; (with_reducible refine (a0o.calls k6 ((a0b l0 x69_3).f0) ((a0b l0 x69_3).f1) ((a0b l0 x69_3).f2) ((a0b l0 x69_3).f3) ((a0b l0 x69_3).f4.f0) ((a0b l0 x69_3).f4.f1) _ _ l1 a5 t486 t487 _ ?s1 ?s2 A41.out).mono ?_); (case s1 => exact qc_ HR1); (case s2 => exact HC1.out); rintro e w135 ⟨rfl, hb⟩; refine ⟨_, rfl, ?_⟩; replace HO_14 := qrb_ HO_14 hb; replace HO_16 := qrb_ HO_16 hb; replace BK482 := qkb_ BK482 hb; replace HB := qbs_ hb; (try clear hb); (try clear hb2); (try clear hk); (try clear hi); obtain ⟨z'136_0, z'136_1, z'136_2, z'136_3, z'136_4, z'136_5⟩ := qz6_ BK482; obtain ⟨y'136_0, y'136_1, y'136_2, y'136_3, y'136_4, y'136_5⟩ := qf6_ BK482))
                       go_roundg k6
                       case measure => have := HJ7.out; have := HJ13.out; have := HK3.out; have := HK4.out; have := HK5.out; have := HK6.out; omega
                       case rel => exact ⟨(false), (wrap64 (x69_3 + 1)), qs_, qs_, H', ⟨by have := HJ7.out; have := HJ13.out; have := HK3.out; have := HK4.out; have := HK5.out; have := HK6.out; omega⟩, ⟨by (with_reducible repeat (first | apply Kd.a0l | apply Kd.a0m | apply Kd.a0n)); exact HO_14.out⟩, ⟨by (with_reducible repeat (first | apply Kd.a0l | apply Kd.a0m | apply Kd.a0n)); exact HO_16.out⟩, ⟨qb_⟩⟩
           ·rw [if_neg c21] at H
            exact absurd H (by simp)
          ·rw [if_neg c20] at H
           exact absurd H (by simp)
         ·rw [if_neg c19] at H
          have c19b0 : decide (x69_3 < (l0.length : Int)) = false := decide_eq_false c19
          clear c19
          by_cases c137 : x13_3 = true
          ·subst c137
           have H1 : (some (decide ((t473.length : Int) ≤ (l0.length : Int)))) = some r := by rw [if_pos rfl] at H; exact H
           clear H
           have H := H1
           clear H1
           obtain rfl := si_ H
           obtain ⟨Ao138, co138, eo138⟩ := Kd.a1o HO_14.out
           subst eo138
           go_wp2
           go_ret
           exact ⟨qx_, qb_⟩
          ·replace c137 := be_ c137
           subst c137
           have H1 : (some false) = some r := by rw [if_neg (show ¬ (false = true) by decide)] at H; exact H
           clear H
           have H := H1
           clear H1
           obtain rfl := si_ H
           go_wp2
           go_ret
           exact ⟨qx_, qb_⟩
end Go.Proofs.Ytfbgkcadnmcakaa.Px
