/- Contracts of Go functions, printed. Conditions: as each theorem states. -/
import Derived.Test.YtemnlgefngjliaaPx0
import Derived.Test.YtemnlgefngjliaaPx8
import Derived.Test.YtemnlgefngjliaaPx13
import Derived.Test.YtemnlgefngjliaaPx14
import Derived.Test.YtemnlgefngjliaaGFlaws
namespace Go.Proofs.Ytemnlgefngjliaa.Px
open Go.Proofs.Ytemnlgefngjliaa.Given
open Go.RowKit Go.Proofs.YtemnlgefngjliaaW.PrintWords Go.Proofs.YtemnlgefngjliaaW.PrintLast Go.Proofs.YtemnlgefngjliaaW.PrintMore
attribute [local go_sem] a2f a2g a2r a2s a1x a1y a2h a2i
set_option linter.unusedVariables false
set_option linter.unusedSimpArgs false
def a0h.j0 : Nat → List Int → Int → Bool → Int → Bool → Int → Bool → Option (Bool)
 | 0, _, _, _, _, _, _, _ => none
 | k + 1, x8, x9, x10, x11, x12, x13, x14 => if x14 = true then (if x9 = 0 then ((a0v.f k x8 (([1, 2, 3, 4] : List Int))).bind fun t333 => (if t333 = true then (if x11 = 0 then (if x10 = true then (some false) else (if x13 = 0 then (if x12 = true then ((a2y.f).bind fun bt334 => ((a4i.f k bt334.1 bt334.2.1 bt334.2.2.1 bt334.2.2.2.1 bt334.2.2.2.2.1 bt334.2.2.2.2.2).bind fun t346 => (some t346))) else (some false)) else (some false))) else (some false)) else (some false))) else (some false)) else (some false)
def a0h.f (k : Nat)  : Option (Bool) := (a2y.f).bind fun bt254 => ((a1t.f k 14 4 5 1 false bt254.1 bt254.2.1 bt254.2.2.1 bt254.2.2.2.1 bt254.2.2.2.2.1 bt254.2.2.2.2.2).bind fun bt266 => ((a2y.f).bind fun bt270 => ((a2q.f k 14 4 5 1 false bt270.1 bt270.2.1 bt270.2.2.1 bt270.2.2.2.1 bt270.2.2.2.2.1 bt270.2.2.2.2.2 (⟨#[98, 117, 100, 103, 101, 116]⟩ : ByteArray) ([] : List Int)).bind fun bt282 => ((a2y.f).bind fun bt286 => ((a1t.f k 19 9 10 0 true bt286.1 bt286.2.1 bt286.2.2.1 bt286.2.2.2.1 bt286.2.2.2.2.1 bt286.2.2.2.2.2).bind fun bt298 => ((a2y.f).bind fun bt302 => ((a2q.f k 19 9 10 0 true bt302.1 bt302.2.1 bt302.2.2.1 bt302.2.2.2.1 bt302.2.2.2.2.1 bt302.2.2.2.2.2 (⟨#[114, 111, 111, 102]⟩ : ByteArray) ([] : List Int)).bind fun bt314 => ((a1h.f k 2 1 2 3).bind fun bt318 => ((a1h.f k 2 1 1 2).bind fun bt320 => (if bt266.2 = 0 then ((a0v.f k bt266.1 (([80, 0, 0] : List Int))).bind fun t325 => (if t325 = true then (if bt282.2 = 0 then (if (bt282.1.length : Int) = 0 then (if bt298.2 = 0 then ((a0v.f k bt298.1 (([2, 0, 0] : List Int))).bind fun t329 => (a0h.j0 k bt314.1 bt314.2 bt318.1 bt318.2 bt320.1 bt320.2 t329)) else (a0h.j0 k bt314.1 bt314.2 bt318.1 bt318.2 bt320.1 bt320.2 false)) else (a0h.j0 k bt314.1 bt314.2 bt318.1 bt318.2 bt320.1 bt320.2 false)) else (a0h.j0 k bt314.1 bt314.2 bt318.1 bt318.2 bt320.1 bt320.2 false)) else (a0h.j0 k bt314.1 bt314.2 bt318.1 bt318.2 bt320.1 bt320.2 false))) else (a0h.j0 k bt314.1 bt314.2 bt318.1 bt318.2 bt320.1 bt320.2 false)))))))))))
theorem a0h.a0t : ∀ k, (∀ y0 y1 y2 y3 y4 y5 y6, LeO (a0h.j0 k y0 y1 y2 y3 y4 y5 y6) (a0h.j0 (k + 1) y0 y1 y2 y3 y4 y5 y6))
 | 0 => fun _ _ _ _ _ _ _ r h => by simp [a0h.j0] at h
 | k + 1 => by
  have ih0 := a0h.a0t k
  ·intro y0 y1 y2 y3 y4 y5 y6
   unfold a0h.j0
   with_reducible (repeat' first | apply ih0 | apply a0v.mono | apply a2q.mono | apply a1h.mono | apply a4i.mono | apply a1t.mono | apply LeO.refl | apply LeO.none | apply LeO.ite | refine LeO.bind ?_ (fun _ => ?_))
theorem a0h.mono : ∀ k, LeO (a0h.f k ) (a0h.f (k + 1) ) := by
 intro  k
 have ih0 := a0h.a0t k
 unfold a0h.f
 with_reducible (repeat' first | apply ih0 | apply a0v.mono | apply a2q.mono | apply a1h.mono | apply a4i.mono | apply a1t.mono | apply LeO.refl | apply LeO.none | apply LeO.ite | refine LeO.bind ?_ (fun _ => ?_))
def a0h.T2 : Bool × List (List Nat × List Nat) := (true, [([], []), ([], []), ([0, 1, 1], [0, 1]), ([2], [2]), ([3], [3]), ([3], [3]), ([4, 2, 0, 1, 2, 3, 4], [4]), ([5, 6, 0, 1, 2, 3, 4, 5, 6], [5])])
def a0h.B2 : List Nat := [0, 0, 3, 7, 15, 15, 31, 127]
theorem a0h.tab2 : rtab .any (opsOf Try.f11 2) = a0h.T2 := by kernel_rfl
theorem a0h.b8m : a4z a0h.T2.2 a0h.B2 = true := by kernel_rfl
def a0h.T3 : Bool × List (List Nat × List Nat) := (true, [([], []), ([], []), ([0, 1, 1], [0, 1]), ([2], [2]), ([3], [3]), ([3], [3]), ([4, 2, 0, 1, 2, 3, 4], [4]), ([5, 6, 0, 1, 2, 3, 4, 5, 6], [5])])
def a0h.B3 : List Nat := [0, 0, 3, 7, 15, 15, 31, 127]
theorem a0h.tab3 : rtab .any (opsOf Try.f11 3) = a0h.T3 := by kernel_rfl
theorem a0h.b8n : a4z a0h.T3.2 a0h.B3 = true := by kernel_rfl
def a0h.T5 : Bool × List (List Nat × List Nat) := (true, [([], []), ([], []), ([0, 1, 1], [0, 1]), ([2], [2]), ([3], [3]), ([3], [3]), ([4, 2, 0, 1, 2, 3, 4], [4]), ([5, 6, 0, 1, 2, 3, 4, 5, 6], [5])])
def a0h.B5 : List Nat := [0, 0, 3, 7, 15, 15, 31, 127]
theorem a0h.tab5 : rtab .any (opsOf Try.f11 5) = a0h.T5 := by kernel_rfl
theorem a0h.b8o : a4z a0h.T5.2 a0h.B5 = true := by kernel_rfl
def a0h.T6 : Bool × List (List Nat × List Nat) := (true, [([], []), ([], []), ([0, 1, 1], [0, 1]), ([2], [2]), ([3], [3]), ([3], [3]), ([4, 2, 0, 1, 2, 3, 4], [4]), ([5, 6, 0, 1, 2, 3, 4, 5, 6], [5])])
def a0h.B6 : List Nat := [0, 0, 3, 7, 15, 15, 31, 127]
theorem a0h.tab6 : rtab .any (opsOf Try.f11 6) = a0h.T6 := by kernel_rfl
theorem a0h.a9p : a4z a0h.T6.2 a0h.B6 = true := by kernel_rfl
set_option maxHeartbeats 8000000 in
set_option maxRecDepth 100000 in
theorem a0h.calls (k : Nat)  (r : Bool) (w : World) (h : a0h.f k  = some r) :
  Calls Try.prog 11 #[] w fun e w' => e = .returned (.bool r) ∧ Below w.heap.size w w' := by
 have hu23 := Try.underlying23
 have hu25 := Try.underlying25
 have HB := am_ (Below.refl w.heap.size w)
 have H : ((a2y.f).bind fun bt254 => ((a1t.f k 14 4 5 1 false bt254.1 bt254.2.1 bt254.2.2.1 bt254.2.2.2.1 bt254.2.2.2.2.1 bt254.2.2.2.2.2).bind fun bt266 => ((a2y.f).bind fun bt270 => ((a2q.f k 14 4 5 1 false bt270.1 bt270.2.1 bt270.2.2.1 bt270.2.2.2.1 bt270.2.2.2.2.1 bt270.2.2.2.2.2 (⟨#[98, 117, 100, 103, 101, 116]⟩ : ByteArray) ([] : List Int)).bind fun bt282 => ((a2y.f).bind fun bt286 => ((a1t.f k 19 9 10 0 true bt286.1 bt286.2.1 bt286.2.2.1 bt286.2.2.2.1 bt286.2.2.2.2.1 bt286.2.2.2.2.2).bind fun bt298 => ((a2y.f).bind fun bt302 => ((a2q.f k 19 9 10 0 true bt302.1 bt302.2.1 bt302.2.2.1 bt302.2.2.2.1 bt302.2.2.2.2.1 bt302.2.2.2.2.2 (⟨#[114, 111, 111, 102]⟩ : ByteArray) ([] : List Int)).bind fun bt314 => ((a1h.f k 2 1 2 3).bind fun bt318 => ((a1h.f k 2 1 1 2).bind fun bt320 => (if bt266.2 = 0 then ((a0v.f k bt266.1 (([80, 0, 0] : List Int))).bind fun t325 => (if t325 = true then (if bt282.2 = 0 then (if (bt282.1.length : Int) = 0 then (if bt298.2 = 0 then ((a0v.f k bt298.1 (([2, 0, 0] : List Int))).bind fun t329 => (a0h.j0 k bt314.1 bt314.2 bt318.1 bt318.2 bt320.1 bt320.2 t329)) else (a0h.j0 k bt314.1 bt314.2 bt318.1 bt318.2 bt320.1 bt320.2 false)) else (a0h.j0 k bt314.1 bt314.2 bt318.1 bt318.2 bt320.1 bt320.2 false)) else (a0h.j0 k bt314.1 bt314.2 bt318.1 bt318.2 bt320.1 bt320.2 false)) else (a0h.j0 k bt314.1 bt314.2 bt318.1 bt318.2 bt320.1 bt320.2 false))) else (a0h.j0 k bt314.1 bt314.2 bt318.1 bt318.2 bt320.1 bt320.2 false)))))))))))) = some r := h
 clear h
 replace H := bm_ H
 obtain ⟨⟨t254, t255, t256, t257, t260, t263⟩, A10, H⟩ := H
 replace H : ((a1t.f k 14 4 5 1 false t254 t255 t256 t257 t260 t263).bind fun bt266 => ((a2y.f).bind fun bt270 => ((a2q.f k 14 4 5 1 false bt270.1 bt270.2.1 bt270.2.2.1 bt270.2.2.2.1 bt270.2.2.2.2.1 bt270.2.2.2.2.2 (⟨#[98, 117, 100, 103, 101, 116]⟩ : ByteArray) ([] : List Int)).bind fun bt282 => ((a2y.f).bind fun bt286 => ((a1t.f k 19 9 10 0 true bt286.1 bt286.2.1 bt286.2.2.1 bt286.2.2.2.1 bt286.2.2.2.2.1 bt286.2.2.2.2.2).bind fun bt298 => ((a2y.f).bind fun bt302 => ((a2q.f k 19 9 10 0 true bt302.1 bt302.2.1 bt302.2.2.1 bt302.2.2.2.1 bt302.2.2.2.2.1 bt302.2.2.2.2.2 (⟨#[114, 111, 111, 102]⟩ : ByteArray) ([] : List Int)).bind fun bt314 => ((a1h.f k 2 1 2 3).bind fun bt318 => ((a1h.f k 2 1 1 2).bind fun bt320 => (if bt266.2 = 0 then ((a0v.f k bt266.1 (([80, 0, 0] : List Int))).bind fun t325 => (if t325 = true then (if bt282.2 = 0 then (if (bt282.1.length : Int) = 0 then (if bt298.2 = 0 then ((a0v.f k bt298.1 (([2, 0, 0] : List Int))).bind fun t329 => (a0h.j0 k bt314.1 bt314.2 bt318.1 bt318.2 bt320.1 bt320.2 t329)) else (a0h.j0 k bt314.1 bt314.2 bt318.1 bt318.2 bt320.1 bt320.2 false)) else (a0h.j0 k bt314.1 bt314.2 bt318.1 bt318.2 bt320.1 bt320.2 false)) else (a0h.j0 k bt314.1 bt314.2 bt318.1 bt318.2 bt320.1 bt320.2 false)) else (a0h.j0 k bt314.1 bt314.2 bt318.1 bt318.2 bt320.1 bt320.2 false))) else (a0h.j0 k bt314.1 bt314.2 bt318.1 bt318.2 bt320.1 bt320.2 false))))))))))) = some r := H
 have A1 := am_ A10
 clear A10
 replace H := bm_ H
 obtain ⟨⟨t266, t269⟩, A20, H⟩ := H
 replace H : ((a2y.f).bind fun bt270 => ((a2q.f k 14 4 5 1 false bt270.1 bt270.2.1 bt270.2.2.1 bt270.2.2.2.1 bt270.2.2.2.2.1 bt270.2.2.2.2.2 (⟨#[98, 117, 100, 103, 101, 116]⟩ : ByteArray) ([] : List Int)).bind fun bt282 => ((a2y.f).bind fun bt286 => ((a1t.f k 19 9 10 0 true bt286.1 bt286.2.1 bt286.2.2.1 bt286.2.2.2.1 bt286.2.2.2.2.1 bt286.2.2.2.2.2).bind fun bt298 => ((a2y.f).bind fun bt302 => ((a2q.f k 19 9 10 0 true bt302.1 bt302.2.1 bt302.2.2.1 bt302.2.2.2.1 bt302.2.2.2.2.1 bt302.2.2.2.2.2 (⟨#[114, 111, 111, 102]⟩ : ByteArray) ([] : List Int)).bind fun bt314 => ((a1h.f k 2 1 2 3).bind fun bt318 => ((a1h.f k 2 1 1 2).bind fun bt320 => (if t269 = 0 then ((a0v.f k t266 (([80, 0, 0] : List Int))).bind fun t325 => (if t325 = true then (if bt282.2 = 0 then (if (bt282.1.length : Int) = 0 then (if bt298.2 = 0 then ((a0v.f k bt298.1 (([2, 0, 0] : List Int))).bind fun t329 => (a0h.j0 k bt314.1 bt314.2 bt318.1 bt318.2 bt320.1 bt320.2 t329)) else (a0h.j0 k bt314.1 bt314.2 bt318.1 bt318.2 bt320.1 bt320.2 false)) else (a0h.j0 k bt314.1 bt314.2 bt318.1 bt318.2 bt320.1 bt320.2 false)) else (a0h.j0 k bt314.1 bt314.2 bt318.1 bt318.2 bt320.1 bt320.2 false)) else (a0h.j0 k bt314.1 bt314.2 bt318.1 bt318.2 bt320.1 bt320.2 false))) else (a0h.j0 k bt314.1 bt314.2 bt318.1 bt318.2 bt320.1 bt320.2 false)))))))))) = some r := H
 have A2 := am_ A20
 clear A20
 replace H := bm_ H
 obtain ⟨⟨t270, t271, t272, t273, t276, t279⟩, A30, H⟩ := H
 replace H : ((a2q.f k 14 4 5 1 false t270 t271 t272 t273 t276 t279 (⟨#[98, 117, 100, 103, 101, 116]⟩ : ByteArray) ([] : List Int)).bind fun bt282 => ((a2y.f).bind fun bt286 => ((a1t.f k 19 9 10 0 true bt286.1 bt286.2.1 bt286.2.2.1 bt286.2.2.2.1 bt286.2.2.2.2.1 bt286.2.2.2.2.2).bind fun bt298 => ((a2y.f).bind fun bt302 => ((a2q.f k 19 9 10 0 true bt302.1 bt302.2.1 bt302.2.2.1 bt302.2.2.2.1 bt302.2.2.2.2.1 bt302.2.2.2.2.2 (⟨#[114, 111, 111, 102]⟩ : ByteArray) ([] : List Int)).bind fun bt314 => ((a1h.f k 2 1 2 3).bind fun bt318 => ((a1h.f k 2 1 1 2).bind fun bt320 => (if t269 = 0 then ((a0v.f k t266 (([80, 0, 0] : List Int))).bind fun t325 => (if t325 = true then (if bt282.2 = 0 then (if (bt282.1.length : Int) = 0 then (if bt298.2 = 0 then ((a0v.f k bt298.1 (([2, 0, 0] : List Int))).bind fun t329 => (a0h.j0 k bt314.1 bt314.2 bt318.1 bt318.2 bt320.1 bt320.2 t329)) else (a0h.j0 k bt314.1 bt314.2 bt318.1 bt318.2 bt320.1 bt320.2 false)) else (a0h.j0 k bt314.1 bt314.2 bt318.1 bt318.2 bt320.1 bt320.2 false)) else (a0h.j0 k bt314.1 bt314.2 bt318.1 bt318.2 bt320.1 bt320.2 false)) else (a0h.j0 k bt314.1 bt314.2 bt318.1 bt318.2 bt320.1 bt320.2 false))) else (a0h.j0 k bt314.1 bt314.2 bt318.1 bt318.2 bt320.1 bt320.2 false))))))))) = some r := H
 have A3 := am_ A30
 clear A30
 replace H := bm_ H
 obtain ⟨⟨t282, t285⟩, A40, H⟩ := H
 replace H : ((a2y.f).bind fun bt286 => ((a1t.f k 19 9 10 0 true bt286.1 bt286.2.1 bt286.2.2.1 bt286.2.2.2.1 bt286.2.2.2.2.1 bt286.2.2.2.2.2).bind fun bt298 => ((a2y.f).bind fun bt302 => ((a2q.f k 19 9 10 0 true bt302.1 bt302.2.1 bt302.2.2.1 bt302.2.2.2.1 bt302.2.2.2.2.1 bt302.2.2.2.2.2 (⟨#[114, 111, 111, 102]⟩ : ByteArray) ([] : List Int)).bind fun bt314 => ((a1h.f k 2 1 2 3).bind fun bt318 => ((a1h.f k 2 1 1 2).bind fun bt320 => (if t269 = 0 then ((a0v.f k t266 (([80, 0, 0] : List Int))).bind fun t325 => (if t325 = true then (if t285 = 0 then (if (t282.length : Int) = 0 then (if bt298.2 = 0 then ((a0v.f k bt298.1 (([2, 0, 0] : List Int))).bind fun t329 => (a0h.j0 k bt314.1 bt314.2 bt318.1 bt318.2 bt320.1 bt320.2 t329)) else (a0h.j0 k bt314.1 bt314.2 bt318.1 bt318.2 bt320.1 bt320.2 false)) else (a0h.j0 k bt314.1 bt314.2 bt318.1 bt318.2 bt320.1 bt320.2 false)) else (a0h.j0 k bt314.1 bt314.2 bt318.1 bt318.2 bt320.1 bt320.2 false)) else (a0h.j0 k bt314.1 bt314.2 bt318.1 bt318.2 bt320.1 bt320.2 false))) else (a0h.j0 k bt314.1 bt314.2 bt318.1 bt318.2 bt320.1 bt320.2 false)))))))) = some r := H
 have A4 := am_ A40
 clear A40
 replace H := bm_ H
 obtain ⟨⟨t286, t287, t288, t289, t292, t295⟩, A50, H⟩ := H
 replace H : ((a1t.f k 19 9 10 0 true t286 t287 t288 t289 t292 t295).bind fun bt298 => ((a2y.f).bind fun bt302 => ((a2q.f k 19 9 10 0 true bt302.1 bt302.2.1 bt302.2.2.1 bt302.2.2.2.1 bt302.2.2.2.2.1 bt302.2.2.2.2.2 (⟨#[114, 111, 111, 102]⟩ : ByteArray) ([] : List Int)).bind fun bt314 => ((a1h.f k 2 1 2 3).bind fun bt318 => ((a1h.f k 2 1 1 2).bind fun bt320 => (if t269 = 0 then ((a0v.f k t266 (([80, 0, 0] : List Int))).bind fun t325 => (if t325 = true then (if t285 = 0 then (if (t282.length : Int) = 0 then (if bt298.2 = 0 then ((a0v.f k bt298.1 (([2, 0, 0] : List Int))).bind fun t329 => (a0h.j0 k bt314.1 bt314.2 bt318.1 bt318.2 bt320.1 bt320.2 t329)) else (a0h.j0 k bt314.1 bt314.2 bt318.1 bt318.2 bt320.1 bt320.2 false)) else (a0h.j0 k bt314.1 bt314.2 bt318.1 bt318.2 bt320.1 bt320.2 false)) else (a0h.j0 k bt314.1 bt314.2 bt318.1 bt318.2 bt320.1 bt320.2 false)) else (a0h.j0 k bt314.1 bt314.2 bt318.1 bt318.2 bt320.1 bt320.2 false))) else (a0h.j0 k bt314.1 bt314.2 bt318.1 bt318.2 bt320.1 bt320.2 false))))))) = some r := H
 have A5 := am_ A50
 clear A50
 replace H := bm_ H
 obtain ⟨⟨t298, t301⟩, A60, H⟩ := H
 replace H : ((a2y.f).bind fun bt302 => ((a2q.f k 19 9 10 0 true bt302.1 bt302.2.1 bt302.2.2.1 bt302.2.2.2.1 bt302.2.2.2.2.1 bt302.2.2.2.2.2 (⟨#[114, 111, 111, 102]⟩ : ByteArray) ([] : List Int)).bind fun bt314 => ((a1h.f k 2 1 2 3).bind fun bt318 => ((a1h.f k 2 1 1 2).bind fun bt320 => (if t269 = 0 then ((a0v.f k t266 (([80, 0, 0] : List Int))).bind fun t325 => (if t325 = true then (if t285 = 0 then (if (t282.length : Int) = 0 then (if t301 = 0 then ((a0v.f k t298 (([2, 0, 0] : List Int))).bind fun t329 => (a0h.j0 k bt314.1 bt314.2 bt318.1 bt318.2 bt320.1 bt320.2 t329)) else (a0h.j0 k bt314.1 bt314.2 bt318.1 bt318.2 bt320.1 bt320.2 false)) else (a0h.j0 k bt314.1 bt314.2 bt318.1 bt318.2 bt320.1 bt320.2 false)) else (a0h.j0 k bt314.1 bt314.2 bt318.1 bt318.2 bt320.1 bt320.2 false)) else (a0h.j0 k bt314.1 bt314.2 bt318.1 bt318.2 bt320.1 bt320.2 false))) else (a0h.j0 k bt314.1 bt314.2 bt318.1 bt318.2 bt320.1 bt320.2 false)))))) = some r := H
 have A6 := am_ A60
 clear A60
 replace H := bm_ H
 obtain ⟨⟨t302, t303, t304, t305, t308, t311⟩, A70, H⟩ := H
 replace H : ((a2q.f k 19 9 10 0 true t302 t303 t304 t305 t308 t311 (⟨#[114, 111, 111, 102]⟩ : ByteArray) ([] : List Int)).bind fun bt314 => ((a1h.f k 2 1 2 3).bind fun bt318 => ((a1h.f k 2 1 1 2).bind fun bt320 => (if t269 = 0 then ((a0v.f k t266 (([80, 0, 0] : List Int))).bind fun t325 => (if t325 = true then (if t285 = 0 then (if (t282.length : Int) = 0 then (if t301 = 0 then ((a0v.f k t298 (([2, 0, 0] : List Int))).bind fun t329 => (a0h.j0 k bt314.1 bt314.2 bt318.1 bt318.2 bt320.1 bt320.2 t329)) else (a0h.j0 k bt314.1 bt314.2 bt318.1 bt318.2 bt320.1 bt320.2 false)) else (a0h.j0 k bt314.1 bt314.2 bt318.1 bt318.2 bt320.1 bt320.2 false)) else (a0h.j0 k bt314.1 bt314.2 bt318.1 bt318.2 bt320.1 bt320.2 false)) else (a0h.j0 k bt314.1 bt314.2 bt318.1 bt318.2 bt320.1 bt320.2 false))) else (a0h.j0 k bt314.1 bt314.2 bt318.1 bt318.2 bt320.1 bt320.2 false))))) = some r := H
 have A7 := am_ A70
 clear A70
 replace H := bm_ H
 obtain ⟨⟨t314, t317⟩, A80, H⟩ := H
 replace H : ((a1h.f k 2 1 2 3).bind fun bt318 => ((a1h.f k 2 1 1 2).bind fun bt320 => (if t269 = 0 then ((a0v.f k t266 (([80, 0, 0] : List Int))).bind fun t325 => (if t325 = true then (if t285 = 0 then (if (t282.length : Int) = 0 then (if t301 = 0 then ((a0v.f k t298 (([2, 0, 0] : List Int))).bind fun t329 => (a0h.j0 k t314 t317 bt318.1 bt318.2 bt320.1 bt320.2 t329)) else (a0h.j0 k t314 t317 bt318.1 bt318.2 bt320.1 bt320.2 false)) else (a0h.j0 k t314 t317 bt318.1 bt318.2 bt320.1 bt320.2 false)) else (a0h.j0 k t314 t317 bt318.1 bt318.2 bt320.1 bt320.2 false)) else (a0h.j0 k t314 t317 bt318.1 bt318.2 bt320.1 bt320.2 false))) else (a0h.j0 k t314 t317 bt318.1 bt318.2 bt320.1 bt320.2 false)))) = some r := H
 have A8 := am_ A80
 clear A80
 replace H := bm_ H
 obtain ⟨⟨t318, t319⟩, A90, H⟩ := H
 replace H : ((a1h.f k 2 1 1 2).bind fun bt320 => (if t269 = 0 then ((a0v.f k t266 (([80, 0, 0] : List Int))).bind fun t325 => (if t325 = true then (if t285 = 0 then (if (t282.length : Int) = 0 then (if t301 = 0 then ((a0v.f k t298 (([2, 0, 0] : List Int))).bind fun t329 => (a0h.j0 k t314 t317 t318 t319 bt320.1 bt320.2 t329)) else (a0h.j0 k t314 t317 t318 t319 bt320.1 bt320.2 false)) else (a0h.j0 k t314 t317 t318 t319 bt320.1 bt320.2 false)) else (a0h.j0 k t314 t317 t318 t319 bt320.1 bt320.2 false)) else (a0h.j0 k t314 t317 t318 t319 bt320.1 bt320.2 false))) else (a0h.j0 k t314 t317 t318 t319 bt320.1 bt320.2 false))) = some r := H
 have A9 := am_ A90
 clear A90
 replace H := bm_ H
 obtain ⟨⟨t320, t321⟩, A100, H⟩ := H
 replace H : (if t269 = 0 then ((a0v.f k t266 (([80, 0, 0] : List Int))).bind fun t325 => (if t325 = true then (if t285 = 0 then (if (t282.length : Int) = 0 then (if t301 = 0 then ((a0v.f k t298 (([2, 0, 0] : List Int))).bind fun t329 => (a0h.j0 k t314 t317 t318 t319 t320 t321 t329)) else (a0h.j0 k t314 t317 t318 t319 t320 t321 false)) else (a0h.j0 k t314 t317 t318 t319 t320 t321 false)) else (a0h.j0 k t314 t317 t318 t319 t320 t321 false)) else (a0h.j0 k t314 t317 t318 t319 t320 t321 false))) else (a0h.j0 k t314 t317 t318 t319 t320 t321 false)) = some r := H
 have A10 := am_ A100
 clear A100
 have HC11 := am_ H
 clear H
 go_enter Try.func11, Try.ntmps11
 try go_wp2_with (first | ((with_reducible refine a0f (N := 1) rfl ?_); (try (refine a3n (by rfl) ?_; dsimp only)); refine qev_ 1 #[.int .i64 0, .int .i64 0, .int .i64 0, .int .i64 0, .bool false] 25 ?_; intro gb253 hg w12 hbox hb; have BK253 := am_ (hbox); have GW253 := qga_ hg; have GE253 := qga_ hg; replace HB := qbs_ hb; clear hb hbox hg; obtain ⟨z'13_0, z'13_1, z'13_2, z'13_3, z'13_4⟩ := qz5_ BK253; obtain ⟨y'13_0, y'13_1, y'13_2, y'13_3, y'13_4⟩ := qf5_ BK253))
 have n0_ : Aside0 ((((((w12.setCell ⟨gb253, 0, none⟩ (.int .i64 14)).setCell ⟨gb253, 1, none⟩ (.int .i64 4)).setCell ⟨gb253, 2, none⟩ (.int .i64 5)).setCell ⟨gb253, 3, none⟩ (.int .i64 1)).setCell ⟨gb253, 4, none⟩ (.bool false)).heap[gb253]? = some (.cells #[.int .i64 14, .int .i64 4, .int .i64 5, .int .i64 1, .bool false] 25 (0, 0))) := ⟨by refine qd_ ?_; refine a0d (cs := #[.int .i64 14, .int .i64 4, .int .i64 5, .int .i64 1, .bool false]) ?_ 4 _ rfl; refine qd_ ?_; refine a0d (cs := #[.int .i64 14, .int .i64 4, .int .i64 5, .int .i64 0, .bool false]) ?_ 3 _ rfl; refine qd_ ?_; refine a0d (cs := #[.int .i64 14, .int .i64 4, .int .i64 0, .int .i64 0, .bool false]) ?_ 2 _ rfl; refine qd_ ?_; refine a0d (cs := #[.int .i64 14, .int .i64 0, .int .i64 0, .int .i64 0, .bool false]) ?_ 1 _ rfl; refine qd_ ?_; refine a0d (cs := #[.int .i64 0, .int .i64 0, .int .i64 0, .int .i64 0, .bool false]) ?_ 0 _ rfl; refine qd_ ?_; exact BK253.out⟩
 have n1_ : Aside0 (Below w.heap.size w (((((w12.setCell ⟨gb253, 0, none⟩ (.int .i64 14)).setCell ⟨gb253, 1, none⟩ (.int .i64 4)).setCell ⟨gb253, 2, none⟩ (.int .i64 5)).setCell ⟨gb253, 3, none⟩ (.int .i64 1)).setCell ⟨gb253, 4, none⟩ (.bool false))) := ⟨qb_⟩
 (try clear BK253)
 (try clear HB)
 generalize (((((w12.setCell ⟨gb253, 0, none⟩ (.int .i64 14)).setCell ⟨gb253, 1, none⟩ (.int .i64 4)).setCell ⟨gb253, 2, none⟩ (.int .i64 5)).setCell ⟨gb253, 3, none⟩ (.int .i64 1)).setCell ⟨gb253, 4, none⟩ (.bool false)) = w14 at n0_ n1_ ⊢
 have BK253 := n0_
 have HB := n1_
 clear n0_ n1_
 replace BK253 := am_ (bd_ BK253.out)
 replace HB := am_ (ld_ HB.out)
 refine a5m (n := 8) (S := fun w' => w'.cell? ⟨gb253, 0, none⟩ = some (.int .i64 14) ∧ w'.cell? ⟨gb253, 1, none⟩ = some (.int .i64 4) ∧ w'.cell? ⟨gb253, 2, none⟩ = some (.int .i64 5) ∧ w'.cell? ⟨gb253, 3, none⟩ = some (.int .i64 1) ∧ w'.cell? ⟨gb253, 4, none⟩ = some (.bool false)) (ds := []) #[i_,i_,i_,i_,i_,i_,i_,i_] (by kernel_rfl) rfl rfl ⟨(bc_ BK253.out 0).trans rfl, (bc_ BK253.out 1).trans rfl, (bc_ BK253.out 2).trans rfl, (bc_ BK253.out 3).trans rfl, (bc_ BK253.out 4).trans rfl⟩ (fun hHeld => ?_); refine a4g a0h.tab2 a0h.b8m (fun HT_ HW_ => ?_)
 generalize w14.drew = w15 at BK253 HB hHeld ⊢
 refine a3r (i := 0) (N := some 18) (v := ?_) (a' := ?_) #[o_,i_,i_,i_,i_,i_,i_,i_] rfl rfl (a2v HT_.out HW_.out (by kernel_rfl)) (fun _ _ _ h => h) (Or.inl ⟨by rfl, ?_⟩) hHeld ?_ ?_
 rotate_left
 ·rintro w' ⟨s0, s1, s2, s3, s4⟩
  go_simp
  with_reducible rfl
 rotate_left
 ·exact qp_
 refine one_ (i := 1) (N := some 19) #[o_,o_,i_,i_,i_,i_,i_,i_] rfl rfl (a4c HT_.out (by kernel_rfl)) (by decide) (fun K hK => ?_)
 refine a5e Try.func29 (by kernel_rfl) rfl #[] (by rfl) rfl rfl ql_ ?_
 with_reducible refine (a2y.calls  t254 t255 t256 t257 t260 t263 _ A1.out).mono ?_
 rintro e w16 ⟨v258, v261, v264, rfl, ho0, ho1, ho2, hb⟩
 refine ⟨_, rfl, ?_⟩
 have HO259 := am_ (Kd.a2d ho0 (a0x qb_))
 have HO262 := am_ (Kd.a2d ho1 (a0x qb_))
 have HO265 := am_ (Kd.a2d ho2 (a0x qb_))
 replace BK253 := qkb_ BK253 hb
 replace HB := qbs_ hb
 (try clear hb)
 (try clear hb2)
 (try clear hk)
 (try clear hi)
 (try clear ho0)
 (try clear ho1)
 (try clear ho2)
 obtain ⟨Ao17, co17, eo17⟩ := Kd.a1p HO259.out
 (first | subst eo17 | (injection eo17 with f1_ f2_ f3_; have f4_ := f1_.symm; have f5_ := f3_.symm; clear f1_ f2_ f3_; subst f4_; subst f5_))
 obtain ⟨Ao18, co18, eo18⟩ := Kd.a1p HO262.out
 (first | subst eo18 | (injection eo18 with f1_ f2_ f3_; have f4_ := f1_.symm; have f5_ := f3_.symm; clear f1_ f2_ f3_; subst f4_; subst f5_))
 obtain ⟨Ao19, co19, eo19⟩ := Kd.a1p HO265.out
 (first | subst eo19 | (injection eo19 with f1_ f2_ f3_; have f4_ := f1_.symm; have f5_ := f3_.symm; clear f1_ f2_ f3_; subst f4_; subst f5_))
 refine hK.out _ _ ⟨(bc_ BK253.out 0).trans rfl, (bc_ BK253.out 1).trans rfl, (bc_ BK253.out 2).trans rfl, (bc_ BK253.out 3).trans rfl, (bc_ BK253.out 4).trans rfl⟩ (fun hHeld => ?_)
 clear hK K
 refine a4s (a' := ?_) ?_ ?_
 rotate_left
 ·show Act.put _ (some 19) _ = _
  exact qp_
 refine one_ (i := 2) (N := some 20) #[o_,o_,o_,i_,i_,i_,i_,i_] rfl rfl (a4c HT_.out (by kernel_rfl)) (by decide) (fun K hK => ?_)
 refine a5e Try.func13 (by kernel_rfl) rfl #[.agg #[.int .i64 14, .int .i64 4, .int .i64 5, .int .i64 1, .bool false], .agg #[.int .i64 t254, .int .i64 t255, .int .i64 t256, .slice Ao17 t257.length co17, .slice Ao18 t260.length co18, .slice Ao19 t263.length co19]] (by rfl) rfl rfl ql_ ?_
 with_reducible refine (a1t.calls k 14 4 5 1 false t254 t255 t256 _ _ t257 _ _ t260 _ _ t263 t266 t269 _ ?s1 ?s2 ?s3 ?s4 ?s5 ?s6 A2.out).mono ?_
 (case s1 => exact qv_ (Kd.a0q HO259.out).2.2)
 (case s2 => exact (Kd.a0q HO259.out).2.1)
 (case s3 => exact qv_ (Kd.a0q HO262.out).2.2)
 (case s4 => exact (Kd.a0q HO262.out).2.1)
 (case s5 => exact qv_ (Kd.a0q HO265.out).2.2)
 (case s6 => exact (Kd.a0q HO265.out).2.1)
 rintro e w20 ⟨v267, rfl, ho0, hb⟩
 refine ⟨_, rfl, ?_⟩
 replace HO259 := qrb_ HO259 hb
 replace HO262 := qrb_ HO262 hb
 have HO268 := am_ (Kd.a2d (Kd.a1a ho0 (Kd.R_lt (qr_ HO265))) (a0x qb_))
 replace HO265 := qel_ HO265 ho0 hb
 replace BK253 := qkb_ BK253 hb
 replace HB := qbs_ hb
 (try clear hb)
 (try clear hb2)
 (try clear hk)
 (try clear hi)
 (try clear ho0)
 refine hK.out _ _ ⟨(bc_ BK253.out 0).trans rfl, (bc_ BK253.out 1).trans rfl, (bc_ BK253.out 2).trans rfl, (bc_ BK253.out 3).trans rfl, (bc_ BK253.out 4).trans rfl⟩ (fun hHeld => ?_)
 clear hK K
 refine a4s (a' := ?_) ?_ ?_
 rotate_left
 ·show Act.put _ (some 20) _ = _
  exact qp_
 refine qpu_ 3 (some 17) #[o_,o_,o_,o_,i_,i_,i_,i_] ?_
 refine qpu_ 4 (some 21) #[o_,o_,o_,o_,o_,i_,i_,i_] ?_
 refine qpu_ 5 (some 22) #[o_,o_,o_,o_,o_,o_,i_,i_] ?_
 refine qpu_ 6 (some 2) #[o_,o_,o_,o_,o_,o_,o_,i_] ?_
 refine qpu_ 7 (some 3) #[o_,o_,o_,o_,o_,o_,o_,o_] ?_
 refine a5z (a4y HT_.out (by kernel_rfl)) ?_
 try go_wp2
 replace HO259 := am_ (Kd.a0y HO259.out)
 replace HO262 := am_ (Kd.a0y HO262.out)
 replace HO265 := am_ (Kd.a0y HO265.out)
 replace HO268 := am_ (Kd.a0y HO268.out)
 replace BK253 := am_ (bd_ BK253.out)
 replace HB := am_ (ld_ HB.out)
 refine a5m (n := 8) (S := fun w' => w'.cell? ⟨gb253, 0, none⟩ = some (.int .i64 14) ∧ w'.cell? ⟨gb253, 1, none⟩ = some (.int .i64 4) ∧ w'.cell? ⟨gb253, 2, none⟩ = some (.int .i64 5) ∧ w'.cell? ⟨gb253, 3, none⟩ = some (.int .i64 1) ∧ w'.cell? ⟨gb253, 4, none⟩ = some (.bool false)) (ds := []) #[i_,i_,i_,i_,i_,i_,i_,i_] (by kernel_rfl) rfl rfl ⟨(bc_ BK253.out 0).trans rfl, (bc_ BK253.out 1).trans rfl, (bc_ BK253.out 2).trans rfl, (bc_ BK253.out 3).trans rfl, (bc_ BK253.out 4).trans rfl⟩ (fun hHeld => ?_); refine a4g a0h.tab3 a0h.b8n (fun HT_ HW_ => ?_)
 generalize w20.drew = w21 at HO259 HO262 HO265 HO268 BK253 HB hHeld ⊢
 refine a3r (i := 0) (N := some 24) (v := ?_) (a' := ?_) #[o_,i_,i_,i_,i_,i_,i_,i_] rfl rfl (a2v HT_.out HW_.out (by kernel_rfl)) (fun _ _ _ h => h) (Or.inl ⟨by rfl, ?_⟩) hHeld ?_ ?_
 rotate_left
 ·rintro w' ⟨s0, s1, s2, s3, s4⟩
  go_simp
  with_reducible rfl
 rotate_left
 ·exact qp_
 refine one_ (i := 1) (N := some 25) #[o_,o_,i_,i_,i_,i_,i_,i_] rfl rfl (a4c HT_.out (by kernel_rfl)) (by decide) (fun K hK => ?_)
 refine a5e Try.func29 (by kernel_rfl) rfl #[] (by rfl) rfl rfl ql_ ?_
 with_reducible refine (a2y.calls  t270 t271 t272 t273 t276 t279 _ A3.out).mono ?_
 rintro e w22 ⟨v274, v277, v280, rfl, ho0, ho1, ho2, hb⟩
 refine ⟨_, rfl, ?_⟩
 have HO275 := am_ (Kd.a2d (Kd.a1a ho0 (Kd.R_lt (qr_ HO259))) (a0x qb_))
 replace HO259 := qel_ HO259 ho0 hb
 have HO278 := am_ (Kd.a2d (Kd.a1a ho1 (Kd.R_lt (qr_ HO262))) (a0x qb_))
 replace HO262 := qel_ HO262 ho1 hb
 have HO281 := am_ (Kd.a2d (Kd.a1a (Kd.a1a ho2 (Kd.R_lt (qr_ HO265))) (Kd.R_lt (qr_ HO268))) (a0x qb_))
 replace HO265 := qel_ HO265 ho2 hb
 replace HO268 := qel_ HO268 ho2 hb
 replace BK253 := qkb_ BK253 hb
 replace HB := qbs_ hb
 (try clear hb)
 (try clear hb2)
 (try clear hk)
 (try clear hi)
 (try clear ho0)
 (try clear ho1)
 (try clear ho2)
 obtain ⟨Ao23, co23, eo23⟩ := Kd.a1p HO275.out
 (first | subst eo23 | (injection eo23 with f1_ f2_ f3_; have f4_ := f1_.symm; have f5_ := f3_.symm; clear f1_ f2_ f3_; subst f4_; subst f5_))
 obtain ⟨Ao24, co24, eo24⟩ := Kd.a1p HO278.out
 (first | subst eo24 | (injection eo24 with f1_ f2_ f3_; have f4_ := f1_.symm; have f5_ := f3_.symm; clear f1_ f2_ f3_; subst f4_; subst f5_))
 obtain ⟨Ao25, co25, eo25⟩ := Kd.a1p HO281.out
 (first | subst eo25 | (injection eo25 with f1_ f2_ f3_; have f4_ := f1_.symm; have f5_ := f3_.symm; clear f1_ f2_ f3_; subst f4_; subst f5_))
 refine hK.out _ _ ⟨(bc_ BK253.out 0).trans rfl, (bc_ BK253.out 1).trans rfl, (bc_ BK253.out 2).trans rfl, (bc_ BK253.out 3).trans rfl, (bc_ BK253.out 4).trans rfl⟩ (fun hHeld => ?_)
 clear hK K
 refine a4s (a' := ?_) ?_ ?_
 rotate_left
 ·show Act.put _ (some 25) _ = _
  exact qp_
 refine one_ (i := 2) (N := some 26) #[o_,o_,o_,i_,i_,i_,i_,i_] rfl rfl (a4c HT_.out (by kernel_rfl)) (by decide) (fun K hK => ?_)
 refine a5e Try.func18 (by kernel_rfl) rfl #[.agg #[.int .i64 14, .int .i64 4, .int .i64 5, .int .i64 1, .bool false], .agg #[.int .i64 t270, .int .i64 t271, .int .i64 t272, .slice Ao23 t273.length co23, .slice Ao24 t276.length co24, .slice Ao25 t279.length co25], .string (⟨#[98, 117, 100, 103, 101, 116]⟩ : ByteArray), .slice none 0 0] (by rfl) rfl rfl ql_ ?_
 refine (a2q.calls k 14 4 5 1 false t270 t271 t272 _ _ t273 _ _ t276 _ _ t279 (⟨#[98, 117, 100, 103, 101, 116]⟩ : ByteArray) _ _ ([] : List Int) t282 t285 _ ?s1 ?s2 ?s3 ?s4 ?s5 ?s6 ?s7 ?s8 A4.out).mono ?_
 (case s1 => exact qv_ (Kd.a0q HO275.out).2.2)
 (case s2 => exact (Kd.a0q HO275.out).2.1)
 (case s3 => exact qv_ (Kd.a0q HO278.out).2.2)
 (case s4 => exact (Kd.a0q HO278.out).2.1)
 (case s5 => exact qv_ (Kd.a0q HO281.out).2.2)
 (case s6 => exact (Kd.a0q HO281.out).2.1)
 (case s7 => exact Kd.a5s _ _)
 (case s8 => exact Nat.le_refl _)
 rintro e w26 ⟨v283, rfl, ho0, hb⟩
 refine ⟨_, rfl, ?_⟩
 replace HO259 := qrb_ HO259 hb
 replace HO262 := qrb_ HO262 hb
 replace HO275 := qrb_ HO275 hb
 replace HO278 := qrb_ HO278 hb
 have HO284 := am_ (Kd.a2d (Kd.a1a (Kd.a1a (Kd.a1a ho0 (Kd.R_lt (qr_ HO265))) (Kd.R_lt (qr_ HO268))) (Kd.R_lt (qr_ HO281))) (a0x qb_))
 replace HO265 := qel_ HO265 ho0 hb
 replace HO268 := qel_ HO268 ho0 hb
 replace HO281 := qel_ HO281 ho0 hb
 replace BK253 := qkb_ BK253 hb
 replace HB := qbs_ hb
 (try clear hb)
 (try clear hb2)
 (try clear hk)
 (try clear hi)
 (try clear ho0)
 refine hK.out _ _ ⟨(bc_ BK253.out 0).trans rfl, (bc_ BK253.out 1).trans rfl, (bc_ BK253.out 2).trans rfl, (bc_ BK253.out 3).trans rfl, (bc_ BK253.out 4).trans rfl⟩ (fun hHeld => ?_)
 clear hK K
 refine a4s (a' := ?_) ?_ ?_
 rotate_left
 ·show Act.put _ (some 26) _ = _
  exact qp_
 refine qpu_ 3 (some 23) #[o_,o_,o_,o_,i_,i_,i_,i_] ?_
 refine qpu_ 4 (some 27) #[o_,o_,o_,o_,o_,i_,i_,i_] ?_
 refine qpu_ 5 (some 28) #[o_,o_,o_,o_,o_,o_,i_,i_] ?_
 refine qpu_ 6 (some 4) #[o_,o_,o_,o_,o_,o_,o_,i_] ?_
 refine qpu_ 7 (some 5) #[o_,o_,o_,o_,o_,o_,o_,o_] ?_
 refine a5z (a4y HT_.out (by kernel_rfl)) ?_
 obtain ⟨z'27_0, z'27_1, z'27_2, z'27_3, z'27_4⟩ := qz5_ BK253; obtain ⟨y'27_0, y'27_1, y'27_2, y'27_3, y'27_4⟩ := qf5_ BK253
 try go_wp2
 have n0_ : Aside0 (Kd.R Kd.string 9 (((((w26.setCell ⟨gb253, 4, none⟩ (.bool true)).setCell ⟨gb253, 0, none⟩ (.int .i64 19)).setCell ⟨gb253, 1, none⟩ (.int .i64 9)).setCell ⟨gb253, 2, none⟩ (.int .i64 10)).setCell ⟨gb253, 3, none⟩ (.int .i64 0)) w.heap.size (fun k_ => some k_ ≠ (.slice Ao23 t273.length co23 : Value).ownBlock) (.slice Ao17 t257.length co17) t257) := ⟨by (with_reducible repeat (first | apply Kd.a1e | apply Kd.a1f | apply Kd.a0y)); exact Kd.a2w (Kd.a1c (p := ⟨gb253, 3, none⟩) (Kd.a1c (p := ⟨gb253, 2, none⟩) (Kd.a1c (p := ⟨gb253, 1, none⟩) (Kd.a1c (p := ⟨gb253, 0, none⟩) (Kd.a1c (p := ⟨gb253, 4, none⟩) (Kd.a3d HO259.out BK253.out (by decide)) (fun _ hk => hk.2) (.bool true)) (fun _ hk => hk.2) (.int .i64 19)) (fun _ hk => hk.2) (.int .i64 9)) (fun _ hk => hk.2) (.int .i64 10)) (fun _ hk => hk.2) (.int .i64 0)) (fun _ hk => hk.1.2)⟩
 have n1_ : Aside0 (Kd.R k43 43 (((((w26.setCell ⟨gb253, 4, none⟩ (.bool true)).setCell ⟨gb253, 0, none⟩ (.int .i64 19)).setCell ⟨gb253, 1, none⟩ (.int .i64 9)).setCell ⟨gb253, 2, none⟩ (.int .i64 10)).setCell ⟨gb253, 3, none⟩ (.int .i64 0)) w.heap.size (fun k_ => some k_ ≠ (.slice Ao24 t276.length co24 : Value).ownBlock) (.slice Ao18 t260.length co18) t260) := ⟨by (with_reducible repeat (first | apply Kd.a1e | apply Kd.a1f | apply Kd.a0y)); exact Kd.a2w (Kd.a1c (p := ⟨gb253, 3, none⟩) (Kd.a1c (p := ⟨gb253, 2, none⟩) (Kd.a1c (p := ⟨gb253, 1, none⟩) (Kd.a1c (p := ⟨gb253, 0, none⟩) (Kd.a1c (p := ⟨gb253, 4, none⟩) (Kd.a3d HO262.out BK253.out (by decide)) (fun _ hk => hk.2) (.bool true)) (fun _ hk => hk.2) (.int .i64 19)) (fun _ hk => hk.2) (.int .i64 9)) (fun _ hk => hk.2) (.int .i64 10)) (fun _ hk => hk.2) (.int .i64 0)) (fun _ hk => hk.1.2)⟩
 have n2_ : Aside0 (Kd.R (Kd.int .i64) 3 (((((w26.setCell ⟨gb253, 4, none⟩ (.bool true)).setCell ⟨gb253, 0, none⟩ (.int .i64 19)).setCell ⟨gb253, 1, none⟩ (.int .i64 9)).setCell ⟨gb253, 2, none⟩ (.int .i64 10)).setCell ⟨gb253, 3, none⟩ (.int .i64 0)) w.heap.size (fun k_ => some k_ ≠ (v267 : Value).ownBlock ∧ some k_ ≠ (.slice Ao25 t279.length co25 : Value).ownBlock ∧ some k_ ≠ (v283 : Value).ownBlock) (.slice Ao19 t263.length co19) t263) := ⟨by (with_reducible repeat (first | apply Kd.a1e | apply Kd.a1f | apply Kd.a0y)); exact Kd.a2w (Kd.a1c (p := ⟨gb253, 3, none⟩) (Kd.a1c (p := ⟨gb253, 2, none⟩) (Kd.a1c (p := ⟨gb253, 1, none⟩) (Kd.a1c (p := ⟨gb253, 0, none⟩) (Kd.a1c (p := ⟨gb253, 4, none⟩) (Kd.a3d HO265.out BK253.out (by decide)) (fun _ hk => hk.2) (.bool true)) (fun _ hk => hk.2) (.int .i64 19)) (fun _ hk => hk.2) (.int .i64 9)) (fun _ hk => hk.2) (.int .i64 10)) (fun _ hk => hk.2) (.int .i64 0)) (fun _ hk => ⟨hk.1.1.1.2, ⟨hk.1.1.2, hk.1.2⟩⟩)⟩
 have n3_ : Aside0 (Kd.R (Kd.int .i64) 3 (((((w26.setCell ⟨gb253, 4, none⟩ (.bool true)).setCell ⟨gb253, 0, none⟩ (.int .i64 19)).setCell ⟨gb253, 1, none⟩ (.int .i64 9)).setCell ⟨gb253, 2, none⟩ (.int .i64 10)).setCell ⟨gb253, 3, none⟩ (.int .i64 0)) w.heap.size (fun k_ => some k_ ≠ (.slice Ao19 t263.length co19 : Value).ownBlock ∧ some k_ ≠ (.slice Ao25 t279.length co25 : Value).ownBlock ∧ some k_ ≠ (v283 : Value).ownBlock) v267 t266) := ⟨by (with_reducible repeat (first | apply Kd.a1e | apply Kd.a1f | apply Kd.a0y)); exact Kd.a2w (Kd.a1c (p := ⟨gb253, 3, none⟩) (Kd.a1c (p := ⟨gb253, 2, none⟩) (Kd.a1c (p := ⟨gb253, 1, none⟩) (Kd.a1c (p := ⟨gb253, 0, none⟩) (Kd.a1c (p := ⟨gb253, 4, none⟩) (Kd.a3d HO268.out BK253.out (by decide)) (fun _ hk => hk.2) (.bool true)) (fun _ hk => hk.2) (.int .i64 19)) (fun _ hk => hk.2) (.int .i64 9)) (fun _ hk => hk.2) (.int .i64 10)) (fun _ hk => hk.2) (.int .i64 0)) (fun _ hk => ⟨hk.1.1.1.2, ⟨hk.1.1.2, hk.1.2⟩⟩)⟩
 have n4_ : Aside0 (Kd.R Kd.string 9 (((((w26.setCell ⟨gb253, 4, none⟩ (.bool true)).setCell ⟨gb253, 0, none⟩ (.int .i64 19)).setCell ⟨gb253, 1, none⟩ (.int .i64 9)).setCell ⟨gb253, 2, none⟩ (.int .i64 10)).setCell ⟨gb253, 3, none⟩ (.int .i64 0)) w.heap.size (fun k_ => some k_ ≠ (.slice Ao17 t257.length co17 : Value).ownBlock) (.slice Ao23 t273.length co23) t273) := ⟨by (with_reducible repeat (first | apply Kd.a1e | apply Kd.a1f | apply Kd.a0y)); exact Kd.a2w (Kd.a1c (p := ⟨gb253, 3, none⟩) (Kd.a1c (p := ⟨gb253, 2, none⟩) (Kd.a1c (p := ⟨gb253, 1, none⟩) (Kd.a1c (p := ⟨gb253, 0, none⟩) (Kd.a1c (p := ⟨gb253, 4, none⟩) (Kd.a3d HO275.out BK253.out (by decide)) (fun _ hk => hk.2) (.bool true)) (fun _ hk => hk.2) (.int .i64 19)) (fun _ hk => hk.2) (.int .i64 9)) (fun _ hk => hk.2) (.int .i64 10)) (fun _ hk => hk.2) (.int .i64 0)) (fun _ hk => hk.1.2)⟩
 have n5_ : Aside0 (Kd.R k43 43 (((((w26.setCell ⟨gb253, 4, none⟩ (.bool true)).setCell ⟨gb253, 0, none⟩ (.int .i64 19)).setCell ⟨gb253, 1, none⟩ (.int .i64 9)).setCell ⟨gb253, 2, none⟩ (.int .i64 10)).setCell ⟨gb253, 3, none⟩ (.int .i64 0)) w.heap.size (fun k_ => some k_ ≠ (.slice Ao18 t260.length co18 : Value).ownBlock) (.slice Ao24 t276.length co24) t276) := ⟨by (with_reducible repeat (first | apply Kd.a1e | apply Kd.a1f | apply Kd.a0y)); exact Kd.a2w (Kd.a1c (p := ⟨gb253, 3, none⟩) (Kd.a1c (p := ⟨gb253, 2, none⟩) (Kd.a1c (p := ⟨gb253, 1, none⟩) (Kd.a1c (p := ⟨gb253, 0, none⟩) (Kd.a1c (p := ⟨gb253, 4, none⟩) (Kd.a3d HO278.out BK253.out (by decide)) (fun _ hk => hk.2) (.bool true)) (fun _ hk => hk.2) (.int .i64 19)) (fun _ hk => hk.2) (.int .i64 9)) (fun _ hk => hk.2) (.int .i64 10)) (fun _ hk => hk.2) (.int .i64 0)) (fun _ hk => hk.1.2)⟩
 have n6_ : Aside0 (Kd.R (Kd.int .i64) 3 (((((w26.setCell ⟨gb253, 4, none⟩ (.bool true)).setCell ⟨gb253, 0, none⟩ (.int .i64 19)).setCell ⟨gb253, 1, none⟩ (.int .i64 9)).setCell ⟨gb253, 2, none⟩ (.int .i64 10)).setCell ⟨gb253, 3, none⟩ (.int .i64 0)) w.heap.size (fun k_ => some k_ ≠ (.slice Ao19 t263.length co19 : Value).ownBlock ∧ some k_ ≠ (v267 : Value).ownBlock ∧ some k_ ≠ (v283 : Value).ownBlock) (.slice Ao25 t279.length co25) t279) := ⟨by (with_reducible repeat (first | apply Kd.a1e | apply Kd.a1f | apply Kd.a0y)); exact Kd.a2w (Kd.a1c (p := ⟨gb253, 3, none⟩) (Kd.a1c (p := ⟨gb253, 2, none⟩) (Kd.a1c (p := ⟨gb253, 1, none⟩) (Kd.a1c (p := ⟨gb253, 0, none⟩) (Kd.a1c (p := ⟨gb253, 4, none⟩) (Kd.a3d HO281.out BK253.out (by decide)) (fun _ hk => hk.2) (.bool true)) (fun _ hk => hk.2) (.int .i64 19)) (fun _ hk => hk.2) (.int .i64 9)) (fun _ hk => hk.2) (.int .i64 10)) (fun _ hk => hk.2) (.int .i64 0)) (fun _ hk => ⟨hk.1.1.1.2, ⟨hk.1.1.2, hk.1.2⟩⟩)⟩
 have n7_ : Aside0 (Kd.R (Kd.int .i64) 3 (((((w26.setCell ⟨gb253, 4, none⟩ (.bool true)).setCell ⟨gb253, 0, none⟩ (.int .i64 19)).setCell ⟨gb253, 1, none⟩ (.int .i64 9)).setCell ⟨gb253, 2, none⟩ (.int .i64 10)).setCell ⟨gb253, 3, none⟩ (.int .i64 0)) w.heap.size (fun k_ => some k_ ≠ (.slice Ao19 t263.length co19 : Value).ownBlock ∧ some k_ ≠ (v267 : Value).ownBlock ∧ some k_ ≠ (.slice Ao25 t279.length co25 : Value).ownBlock) v283 t282) := ⟨by (with_reducible repeat (first | apply Kd.a1e | apply Kd.a1f | apply Kd.a0y)); exact Kd.a2w (Kd.a1c (p := ⟨gb253, 3, none⟩) (Kd.a1c (p := ⟨gb253, 2, none⟩) (Kd.a1c (p := ⟨gb253, 1, none⟩) (Kd.a1c (p := ⟨gb253, 0, none⟩) (Kd.a1c (p := ⟨gb253, 4, none⟩) (Kd.a3d HO284.out BK253.out (by decide)) (fun _ hk => hk.2) (.bool true)) (fun _ hk => hk.2) (.int .i64 19)) (fun _ hk => hk.2) (.int .i64 9)) (fun _ hk => hk.2) (.int .i64 10)) (fun _ hk => hk.2) (.int .i64 0)) (fun _ hk => ⟨hk.1.1.1.2, ⟨hk.1.1.2, hk.1.2⟩⟩)⟩
 have n8_ : Aside0 ((((((w26.setCell ⟨gb253, 4, none⟩ (.bool true)).setCell ⟨gb253, 0, none⟩ (.int .i64 19)).setCell ⟨gb253, 1, none⟩ (.int .i64 9)).setCell ⟨gb253, 2, none⟩ (.int .i64 10)).setCell ⟨gb253, 3, none⟩ (.int .i64 0)).heap[gb253]? = some (.cells #[.int .i64 19, .int .i64 9, .int .i64 10, .int .i64 0, .bool true] 25 (0, 0))) := ⟨by refine qd_ ?_; refine a0d (cs := #[.int .i64 19, .int .i64 9, .int .i64 10, .int .i64 1, .bool true]) ?_ 3 _ rfl; refine qd_ ?_; refine a0d (cs := #[.int .i64 19, .int .i64 9, .int .i64 5, .int .i64 1, .bool true]) ?_ 2 _ rfl; refine qd_ ?_; refine a0d (cs := #[.int .i64 19, .int .i64 4, .int .i64 5, .int .i64 1, .bool true]) ?_ 1 _ rfl; refine qd_ ?_; refine a0d (cs := #[.int .i64 14, .int .i64 4, .int .i64 5, .int .i64 1, .bool true]) ?_ 0 _ rfl; refine qd_ ?_; refine a0d (cs := #[.int .i64 14, .int .i64 4, .int .i64 5, .int .i64 1, .bool false]) ?_ 4 _ rfl; refine qd_ ?_; exact BK253.out⟩
 have n9_ : Aside0 (Below w.heap.size w (((((w26.setCell ⟨gb253, 4, none⟩ (.bool true)).setCell ⟨gb253, 0, none⟩ (.int .i64 19)).setCell ⟨gb253, 1, none⟩ (.int .i64 9)).setCell ⟨gb253, 2, none⟩ (.int .i64 10)).setCell ⟨gb253, 3, none⟩ (.int .i64 0))) := ⟨qb_⟩
 (try clear HO259)
 (try clear HO262)
 (try clear HO265)
 (try clear HO268)
 (try clear HO275)
 (try clear HO278)
 (try clear HO281)
 (try clear HO284)
 (try clear BK253)
 (try clear HB)
 generalize (((((w26.setCell ⟨gb253, 4, none⟩ (.bool true)).setCell ⟨gb253, 0, none⟩ (.int .i64 19)).setCell ⟨gb253, 1, none⟩ (.int .i64 9)).setCell ⟨gb253, 2, none⟩ (.int .i64 10)).setCell ⟨gb253, 3, none⟩ (.int .i64 0)) = w28 at n0_ n1_ n2_ n3_ n4_ n5_ n6_ n7_ n8_ n9_ ⊢
 have HO259 := n0_
 have HO262 := n1_
 have HO265 := n2_
 have HO268 := n3_
 have HO275 := n4_
 have HO278 := n5_
 have HO281 := n6_
 have HO284 := n7_
 have BK253 := n8_
 have HB := n9_
 clear n0_ n1_ n2_ n3_ n4_ n5_ n6_ n7_ n8_ n9_
 replace HO259 := am_ (Kd.a0y HO259.out)
 replace HO262 := am_ (Kd.a0y HO262.out)
 replace HO265 := am_ (Kd.a0y HO265.out)
 replace HO268 := am_ (Kd.a0y HO268.out)
 replace HO275 := am_ (Kd.a0y HO275.out)
 replace HO278 := am_ (Kd.a0y HO278.out)
 replace HO281 := am_ (Kd.a0y HO281.out)
 replace HO284 := am_ (Kd.a0y HO284.out)
 replace BK253 := am_ (bd_ BK253.out)
 replace HB := am_ (ld_ HB.out)
 refine a5m (n := 8) (S := fun w' => w'.cell? ⟨gb253, 0, none⟩ = some (.int .i64 19) ∧ w'.cell? ⟨gb253, 1, none⟩ = some (.int .i64 9) ∧ w'.cell? ⟨gb253, 2, none⟩ = some (.int .i64 10) ∧ w'.cell? ⟨gb253, 3, none⟩ = some (.int .i64 0) ∧ w'.cell? ⟨gb253, 4, none⟩ = some (.bool true)) (ds := []) #[i_,i_,i_,i_,i_,i_,i_,i_] (by kernel_rfl) rfl rfl ⟨(bc_ BK253.out 0).trans rfl, (bc_ BK253.out 1).trans rfl, (bc_ BK253.out 2).trans rfl, (bc_ BK253.out 3).trans rfl, (bc_ BK253.out 4).trans rfl⟩ (fun hHeld => ?_); refine a4g a0h.tab5 a0h.b8o (fun HT_ HW_ => ?_)
 generalize w28.drew = w29 at HO259 HO262 HO265 HO268 HO275 HO278 HO281 HO284 BK253 HB hHeld ⊢
 refine a3r (i := 0) (N := some 35) (v := ?_) (a' := ?_) #[o_,i_,i_,i_,i_,i_,i_,i_] rfl rfl (a2v HT_.out HW_.out (by kernel_rfl)) (fun _ _ _ h => h) (Or.inl ⟨by rfl, ?_⟩) hHeld ?_ ?_
 rotate_left
 ·rintro w' ⟨s0, s1, s2, s3, s4⟩
  go_simp
  with_reducible rfl
 rotate_left
 ·exact qp_
 refine one_ (i := 1) (N := some 36) #[o_,o_,i_,i_,i_,i_,i_,i_] rfl rfl (a4c HT_.out (by kernel_rfl)) (by decide) (fun K hK => ?_)
 refine a5e Try.func29 (by kernel_rfl) rfl #[] (by rfl) rfl rfl ql_ ?_
 with_reducible refine (a2y.calls  t286 t287 t288 t289 t292 t295 _ A5.out).mono ?_
 rintro e w30 ⟨v290, v293, v296, rfl, ho0, ho1, ho2, hb⟩
 refine ⟨_, rfl, ?_⟩
 have HO291 := am_ (Kd.a2d (Kd.a1a (Kd.a1a ho0 (Kd.R_lt (qr_ HO259))) (Kd.R_lt (qr_ HO275))) (a0x qb_))
 replace HO259 := qel_ HO259 ho0 hb
 replace HO275 := qel_ HO275 ho0 hb
 have HO294 := am_ (Kd.a2d (Kd.a1a (Kd.a1a ho1 (Kd.R_lt (qr_ HO262))) (Kd.R_lt (qr_ HO278))) (a0x qb_))
 replace HO262 := qel_ HO262 ho1 hb
 replace HO278 := qel_ HO278 ho1 hb
 have HO297 := am_ (Kd.a2d (Kd.a1a (Kd.a1a (Kd.a1a (Kd.a1a ho2 (Kd.R_lt (qr_ HO265))) (Kd.R_lt (qr_ HO268))) (Kd.R_lt (qr_ HO281))) (Kd.R_lt (qr_ HO284))) (a0x qb_))
 replace HO265 := qel_ HO265 ho2 hb
 replace HO268 := qel_ HO268 ho2 hb
 replace HO281 := qel_ HO281 ho2 hb
 replace HO284 := qel_ HO284 ho2 hb
 replace BK253 := qkb_ BK253 hb
 replace HB := qbs_ hb
 (try clear hb)
 (try clear hb2)
 (try clear hk)
 (try clear hi)
 (try clear ho0)
 (try clear ho1)
 (try clear ho2)
 obtain ⟨Ao31, co31, eo31⟩ := Kd.a1p HO291.out
 (first | subst eo31 | (injection eo31 with f1_ f2_ f3_; have f4_ := f1_.symm; have f5_ := f3_.symm; clear f1_ f2_ f3_; subst f4_; subst f5_))
 obtain ⟨Ao32, co32, eo32⟩ := Kd.a1p HO294.out
 (first | subst eo32 | (injection eo32 with f1_ f2_ f3_; have f4_ := f1_.symm; have f5_ := f3_.symm; clear f1_ f2_ f3_; subst f4_; subst f5_))
 obtain ⟨Ao33, co33, eo33⟩ := Kd.a1p HO297.out
 (first | subst eo33 | (injection eo33 with f1_ f2_ f3_; have f4_ := f1_.symm; have f5_ := f3_.symm; clear f1_ f2_ f3_; subst f4_; subst f5_))
 refine hK.out _ _ ⟨(bc_ BK253.out 0).trans rfl, (bc_ BK253.out 1).trans rfl, (bc_ BK253.out 2).trans rfl, (bc_ BK253.out 3).trans rfl, (bc_ BK253.out 4).trans rfl⟩ (fun hHeld => ?_)
 clear hK K
 refine a4s (a' := ?_) ?_ ?_
 rotate_left
 ·show Act.put _ (some 36) _ = _
  exact qp_
 refine one_ (i := 2) (N := some 37) #[o_,o_,o_,i_,i_,i_,i_,i_] rfl rfl (a4c HT_.out (by kernel_rfl)) (by decide) (fun K hK => ?_)
 refine a5e Try.func13 (by kernel_rfl) rfl #[.agg #[.int .i64 19, .int .i64 9, .int .i64 10, .int .i64 0, .bool true], .agg #[.int .i64 t286, .int .i64 t287, .int .i64 t288, .slice Ao31 t289.length co31, .slice Ao32 t292.length co32, .slice Ao33 t295.length co33]] (by rfl) rfl rfl ql_ ?_
 with_reducible refine (a1t.calls k 19 9 10 0 true t286 t287 t288 _ _ t289 _ _ t292 _ _ t295 t298 t301 _ ?s1 ?s2 ?s3 ?s4 ?s5 ?s6 A6.out).mono ?_
 (case s1 => exact qv_ (Kd.a0q HO291.out).2.2)
 (case s2 => exact (Kd.a0q HO291.out).2.1)
 (case s3 => exact qv_ (Kd.a0q HO294.out).2.2)
 (case s4 => exact (Kd.a0q HO294.out).2.1)
 (case s5 => exact qv_ (Kd.a0q HO297.out).2.2)
 (case s6 => exact (Kd.a0q HO297.out).2.1)
 rintro e w34 ⟨v299, rfl, ho0, hb⟩
 refine ⟨_, rfl, ?_⟩
 replace HO259 := qrb_ HO259 hb
 replace HO262 := qrb_ HO262 hb
 replace HO275 := qrb_ HO275 hb
 replace HO278 := qrb_ HO278 hb
 replace HO291 := qrb_ HO291 hb
 replace HO294 := qrb_ HO294 hb
 have HO300 := am_ (Kd.a2d (Kd.a1a (Kd.a1a (Kd.a1a (Kd.a1a (Kd.a1a ho0 (Kd.R_lt (qr_ HO265))) (Kd.R_lt (qr_ HO268))) (Kd.R_lt (qr_ HO281))) (Kd.R_lt (qr_ HO284))) (Kd.R_lt (qr_ HO297))) (a0x qb_))
 replace HO265 := qel_ HO265 ho0 hb
 replace HO268 := qel_ HO268 ho0 hb
 replace HO281 := qel_ HO281 ho0 hb
 replace HO284 := qel_ HO284 ho0 hb
 replace HO297 := qel_ HO297 ho0 hb
 replace BK253 := qkb_ BK253 hb
 replace HB := qbs_ hb
 (try clear hb)
 (try clear hb2)
 (try clear hk)
 (try clear hi)
 (try clear ho0)
 refine hK.out _ _ ⟨(bc_ BK253.out 0).trans rfl, (bc_ BK253.out 1).trans rfl, (bc_ BK253.out 2).trans rfl, (bc_ BK253.out 3).trans rfl, (bc_ BK253.out 4).trans rfl⟩ (fun hHeld => ?_)
 clear hK K
 refine a4s (a' := ?_) ?_ ?_
 rotate_left
 ·show Act.put _ (some 37) _ = _
  exact qp_
 refine qpu_ 3 (some 34) #[o_,o_,o_,o_,i_,i_,i_,i_] ?_
 refine qpu_ 4 (some 38) #[o_,o_,o_,o_,o_,i_,i_,i_] ?_
 refine qpu_ 5 (some 39) #[o_,o_,o_,o_,o_,o_,i_,i_] ?_
 refine qpu_ 6 (some 6) #[o_,o_,o_,o_,o_,o_,o_,i_] ?_
 refine qpu_ 7 (some 7) #[o_,o_,o_,o_,o_,o_,o_,o_] ?_
 refine a5z (a4y HT_.out (by kernel_rfl)) ?_
 try go_wp2
 replace HO259 := am_ (Kd.a0y HO259.out)
 replace HO262 := am_ (Kd.a0y HO262.out)
 replace HO265 := am_ (Kd.a0y HO265.out)
 replace HO268 := am_ (Kd.a0y HO268.out)
 replace HO275 := am_ (Kd.a0y HO275.out)
 replace HO278 := am_ (Kd.a0y HO278.out)
 replace HO281 := am_ (Kd.a0y HO281.out)
 replace HO284 := am_ (Kd.a0y HO284.out)
 replace HO291 := am_ (Kd.a0y HO291.out)
 replace HO294 := am_ (Kd.a0y HO294.out)
 replace HO297 := am_ (Kd.a0y HO297.out)
 replace HO300 := am_ (Kd.a0y HO300.out)
 replace BK253 := am_ (bd_ BK253.out)
 replace HB := am_ (ld_ HB.out)
 refine a5m (n := 8) (S := fun w' => w'.cell? ⟨gb253, 0, none⟩ = some (.int .i64 19) ∧ w'.cell? ⟨gb253, 1, none⟩ = some (.int .i64 9) ∧ w'.cell? ⟨gb253, 2, none⟩ = some (.int .i64 10) ∧ w'.cell? ⟨gb253, 3, none⟩ = some (.int .i64 0) ∧ w'.cell? ⟨gb253, 4, none⟩ = some (.bool true)) (ds := []) #[i_,i_,i_,i_,i_,i_,i_,i_] (by kernel_rfl) rfl rfl ⟨(bc_ BK253.out 0).trans rfl, (bc_ BK253.out 1).trans rfl, (bc_ BK253.out 2).trans rfl, (bc_ BK253.out 3).trans rfl, (bc_ BK253.out 4).trans rfl⟩ (fun hHeld => ?_); refine a4g a0h.tab6 a0h.a9p (fun HT_ HW_ => ?_)
 generalize w34.drew = w35 at HO259 HO262 HO265 HO268 HO275 HO278 HO281 HO284 HO291 HO294 HO297 HO300 BK253 HB hHeld ⊢
 refine a3r (i := 0) (N := some 41) (v := ?_) (a' := ?_) #[o_,i_,i_,i_,i_,i_,i_,i_] rfl rfl (a2v HT_.out HW_.out (by kernel_rfl)) (fun _ _ _ h => h) (Or.inl ⟨by rfl, ?_⟩) hHeld ?_ ?_
 rotate_left
 ·rintro w' ⟨s0, s1, s2, s3, s4⟩
  go_simp
  with_reducible rfl
 rotate_left
 ·exact qp_
 refine one_ (i := 1) (N := some 42) #[o_,o_,i_,i_,i_,i_,i_,i_] rfl rfl (a4c HT_.out (by kernel_rfl)) (by decide) (fun K hK => ?_)
 refine a5e Try.func29 (by kernel_rfl) rfl #[] (by rfl) rfl rfl ql_ ?_
 with_reducible refine (a2y.calls  t302 t303 t304 t305 t308 t311 _ A7.out).mono ?_
 rintro e w36 ⟨v306, v309, v312, rfl, ho0, ho1, ho2, hb⟩
 refine ⟨_, rfl, ?_⟩
 have HO307 := am_ (Kd.a2d (Kd.a1a (Kd.a1a (Kd.a1a ho0 (Kd.R_lt (qr_ HO259))) (Kd.R_lt (qr_ HO275))) (Kd.R_lt (qr_ HO291))) (a0x qb_))
 replace HO259 := qel_ HO259 ho0 hb
 replace HO275 := qel_ HO275 ho0 hb
 replace HO291 := qel_ HO291 ho0 hb
 have HO310 := am_ (Kd.a2d (Kd.a1a (Kd.a1a (Kd.a1a ho1 (Kd.R_lt (qr_ HO262))) (Kd.R_lt (qr_ HO278))) (Kd.R_lt (qr_ HO294))) (a0x qb_))
 replace HO262 := qel_ HO262 ho1 hb
 replace HO278 := qel_ HO278 ho1 hb
 replace HO294 := qel_ HO294 ho1 hb
 have HO313 := am_ (Kd.a2d (Kd.a1a (Kd.a1a (Kd.a1a (Kd.a1a (Kd.a1a (Kd.a1a ho2 (Kd.R_lt (qr_ HO265))) (Kd.R_lt (qr_ HO268))) (Kd.R_lt (qr_ HO281))) (Kd.R_lt (qr_ HO284))) (Kd.R_lt (qr_ HO297))) (Kd.R_lt (qr_ HO300))) (a0x qb_))
 replace HO265 := qel_ HO265 ho2 hb
 replace HO268 := qel_ HO268 ho2 hb
 replace HO281 := qel_ HO281 ho2 hb
 replace HO284 := qel_ HO284 ho2 hb
 replace HO297 := qel_ HO297 ho2 hb
 replace HO300 := qel_ HO300 ho2 hb
 replace BK253 := qkb_ BK253 hb
 replace HB := qbs_ hb
 (try clear hb)
 (try clear hb2)
 (try clear hk)
 (try clear hi)
 (try clear ho0)
 (try clear ho1)
 (try clear ho2)
 obtain ⟨Ao37, co37, eo37⟩ := Kd.a1p HO307.out
 (first | subst eo37 | (injection eo37 with f1_ f2_ f3_; have f4_ := f1_.symm; have f5_ := f3_.symm; clear f1_ f2_ f3_; subst f4_; subst f5_))
 obtain ⟨Ao38, co38, eo38⟩ := Kd.a1p HO310.out
 (first | subst eo38 | (injection eo38 with f1_ f2_ f3_; have f4_ := f1_.symm; have f5_ := f3_.symm; clear f1_ f2_ f3_; subst f4_; subst f5_))
 obtain ⟨Ao39, co39, eo39⟩ := Kd.a1p HO313.out
 (first | subst eo39 | (injection eo39 with f1_ f2_ f3_; have f4_ := f1_.symm; have f5_ := f3_.symm; clear f1_ f2_ f3_; subst f4_; subst f5_))
 refine hK.out _ _ ⟨(bc_ BK253.out 0).trans rfl, (bc_ BK253.out 1).trans rfl, (bc_ BK253.out 2).trans rfl, (bc_ BK253.out 3).trans rfl, (bc_ BK253.out 4).trans rfl⟩ (fun hHeld => ?_)
 clear hK K
 refine a4s (a' := ?_) ?_ ?_
 rotate_left
 ·show Act.put _ (some 42) _ = _
  exact qp_
 refine one_ (i := 2) (N := some 43) #[o_,o_,o_,i_,i_,i_,i_,i_] rfl rfl (a4c HT_.out (by kernel_rfl)) (by decide) (fun K hK => ?_)
 refine a5e Try.func18 (by kernel_rfl) rfl #[.agg #[.int .i64 19, .int .i64 9, .int .i64 10, .int .i64 0, .bool true], .agg #[.int .i64 t302, .int .i64 t303, .int .i64 t304, .slice Ao37 t305.length co37, .slice Ao38 t308.length co38, .slice Ao39 t311.length co39], .string (⟨#[114, 111, 111, 102]⟩ : ByteArray), .slice none 0 0] (by rfl) rfl rfl ql_ ?_
 refine (a2q.calls k 19 9 10 0 true t302 t303 t304 _ _ t305 _ _ t308 _ _ t311 (⟨#[114, 111, 111, 102]⟩ : ByteArray) _ _ ([] : List Int) t314 t317 _ ?s1 ?s2 ?s3 ?s4 ?s5 ?s6 ?s7 ?s8 A8.out).mono ?_
 (case s1 => exact qv_ (Kd.a0q HO307.out).2.2)
 (case s2 => exact (Kd.a0q HO307.out).2.1)
 (case s3 => exact qv_ (Kd.a0q HO310.out).2.2)
 (case s4 => exact (Kd.a0q HO310.out).2.1)
 (case s5 => exact qv_ (Kd.a0q HO313.out).2.2)
 (case s6 => exact (Kd.a0q HO313.out).2.1)
 (case s7 => exact Kd.a5s _ _)
 (case s8 => exact Nat.le_refl _)
 rintro e w40 ⟨v315, rfl, ho0, hb⟩
 refine ⟨_, rfl, ?_⟩
 replace HO259 := qrb_ HO259 hb
 replace HO262 := qrb_ HO262 hb
 replace HO275 := qrb_ HO275 hb
 replace HO278 := qrb_ HO278 hb
 replace HO291 := qrb_ HO291 hb
 replace HO294 := qrb_ HO294 hb
 replace HO307 := qrb_ HO307 hb
 replace HO310 := qrb_ HO310 hb
 have HO316 := am_ (Kd.a2d (Kd.a1a (Kd.a1a (Kd.a1a (Kd.a1a (Kd.a1a (Kd.a1a (Kd.a1a ho0 (Kd.R_lt (qr_ HO265))) (Kd.R_lt (qr_ HO268))) (Kd.R_lt (qr_ HO281))) (Kd.R_lt (qr_ HO284))) (Kd.R_lt (qr_ HO297))) (Kd.R_lt (qr_ HO300))) (Kd.R_lt (qr_ HO313))) (a0x qb_))
 replace HO265 := qel_ HO265 ho0 hb
 replace HO268 := qel_ HO268 ho0 hb
 replace HO281 := qel_ HO281 ho0 hb
 replace HO284 := qel_ HO284 ho0 hb
 replace HO297 := qel_ HO297 ho0 hb
 replace HO300 := qel_ HO300 ho0 hb
 replace HO313 := qel_ HO313 ho0 hb
 replace BK253 := qkb_ BK253 hb
 replace HB := qbs_ hb
 (try clear hb)
 (try clear hb2)
 (try clear hk)
 (try clear hi)
 (try clear ho0)
 refine hK.out _ _ ⟨(bc_ BK253.out 0).trans rfl, (bc_ BK253.out 1).trans rfl, (bc_ BK253.out 2).trans rfl, (bc_ BK253.out 3).trans rfl, (bc_ BK253.out 4).trans rfl⟩ (fun hHeld => ?_)
 clear hK K
 refine a4s (a' := ?_) ?_ ?_
 rotate_left
 ·show Act.put _ (some 43) _ = _
  exact qp_
 refine qpu_ 3 (some 40) #[o_,o_,o_,o_,i_,i_,i_,i_] ?_
 refine qpu_ 4 (some 44) #[o_,o_,o_,o_,o_,i_,i_,i_] ?_
 refine qpu_ 5 (some 45) #[o_,o_,o_,o_,o_,o_,i_,i_] ?_
 refine qpu_ 6 (some 8) #[o_,o_,o_,o_,o_,o_,o_,i_] ?_
 refine qpu_ 7 (some 9) #[o_,o_,o_,o_,o_,o_,o_,o_] ?_
 refine a5z (a4y HT_.out (by kernel_rfl)) ?_
 go_upto_region 9 with (first | ((with_reducible refine a0e (f := 20) rfl ?_); refine a0w (some 48) rfl rfl Try.func20 (by kernel_rfl) rfl #[.int .i64 2, .int .i64 1, .agg #[.int .i64 2, .int .i64 3]] rfl ql_ ?_; (with_reducible refine (a1h.calls k 2 1 2 3 t318 t319 _ A9.out).mono ?_); rintro e w41 ⟨rfl, hb⟩; refine ⟨_, rfl, ?_⟩; replace HO259 := qrb_ HO259 hb; replace HO262 := qrb_ HO262 hb; replace HO265 := qrb_ HO265 hb; replace HO268 := qrb_ HO268 hb; replace HO275 := qrb_ HO275 hb; replace HO278 := qrb_ HO278 hb; replace HO281 := qrb_ HO281 hb; replace HO284 := qrb_ HO284 hb; replace HO291 := qrb_ HO291 hb; replace HO294 := qrb_ HO294 hb; replace HO297 := qrb_ HO297 hb; replace HO300 := qrb_ HO300 hb; replace HO307 := qrb_ HO307 hb; replace HO310 := qrb_ HO310 hb; replace HO313 := qrb_ HO313 hb; replace HO316 := qrb_ HO316 hb; replace BK253 := qkb_ BK253 hb; replace HB := qbs_ hb; (try clear hb); (try clear hb2); (try clear hk); (try clear hi)) | ((with_reducible refine a0e (f := 20) rfl ?_); refine a0w (some 53) rfl rfl Try.func20 (by kernel_rfl) rfl #[.int .i64 2, .int .i64 1, .agg #[.int .i64 1, .int .i64 2]] rfl ql_ ?_; (with_reducible refine (a1h.calls k 2 1 1 2 t320 t321 _ A10.out).mono ?_); rintro e w42 ⟨rfl, hb⟩; refine ⟨_, rfl, ?_⟩; replace HO259 := qrb_ HO259 hb; replace HO262 := qrb_ HO262 hb; replace HO265 := qrb_ HO265 hb; replace HO268 := qrb_ HO268 hb; replace HO275 := qrb_ HO275 hb; replace HO278 := qrb_ HO278 hb; replace HO281 := qrb_ HO281 hb; replace HO284 := qrb_ HO284 hb; replace HO291 := qrb_ HO291 hb; replace HO294 := qrb_ HO294 hb; replace HO297 := qrb_ HO297 hb; replace HO300 := qrb_ HO300 hb; replace HO307 := qrb_ HO307 hb; replace HO310 := qrb_ HO310 hb; replace HO313 := qrb_ HO313 hb; replace HO316 := qrb_ HO316 hb; replace BK253 := qkb_ BK253 hb; replace HB := qbs_ hb; (try clear hb); (try clear hb2); (try clear hk); (try clear hi)))
 (try simp only [Act.put, List.setIfInBounds_toArray, List.set_cons_zero, List.set_cons_succ])
 go_cut [14] (fun v14 wc => ∃ (kq : Nat) (x14_10 : Bool), v14 = .bool x14_10 ∧ Aside0 (a0h.j0 kq t314 t317 t318 t319 t320 t321 x14_10 = some r) ∧ Aside0 (kq ≤ k) ∧ Aside0 (Kd.R (Kd.int .i64) 3 wc w.heap.size (fun _ => True) v315 t314) ∧ Aside0 (wc.heap[gb253]? = some (.cells #[.int .i64 19, .int .i64 9, .int .i64 10, .int .i64 0, .bool true] 25 (0, 0))) ∧ Aside0 (Below w.heap.size w wc))
 case first =>
  have H := HC11.out
  clear HC11
  by_cases c43 : t269 = 0
  ·rw [if_pos c43] at H
   have c43b0 : (t269 == 0) = true := beq_iff_eq.mpr c43
   have c43b1 : (t269 != 0) = false := bne_eq_false_iff_eq.mpr c43
   clear c43
   (first | rw [c43b0] | (simp only [a3h, a3u]; rw [c43b0]) | skip)
   obtain ⟨y322, hy322⟩ : ∃ y_ : List Int, y_ = (([80, 0, 0] : List Int)) := ⟨_, rfl⟩
   replace H : ((a0v.f k t266 y322).bind fun t325 => (if t325 = true then (if t285 = 0 then (if (t282.length : Int) = 0 then (if t301 = 0 then ((a0v.f k t298 (([2, 0, 0] : List Int))).bind fun t329 => (a0h.j0 k t314 t317 t318 t319 t320 t321 t329)) else (a0h.j0 k t314 t317 t318 t319 t320 t321 false)) else (a0h.j0 k t314 t317 t318 t319 t320 t321 false)) else (a0h.j0 k t314 t317 t318 t319 t320 t321 false)) else (a0h.j0 k t314 t317 t318 t319 t320 t321 false))) = some r := by first | (rw [hy322]; with_reducible exact H) | (have H2_ := (Option.bind_some _ _).symm.trans H; rw [hy322]; with_reducible exact H2_) | (have H2_ := (Option.bind_some _ _).symm.trans H; with_reducible exact H2_) | with_reducible exact H | (rw [hy322]; exact H) | exact H
   have Ny322 := am_ hy322
   clear hy322
   replace H := bm_ H
   obtain ⟨t325, A440, H⟩ := H
   replace H : (if t325 = true then (if t285 = 0 then (if (t282.length : Int) = 0 then (if t301 = 0 then ((a0v.f k t298 (([2, 0, 0] : List Int))).bind fun t329 => (a0h.j0 k t314 t317 t318 t319 t320 t321 t329)) else (a0h.j0 k t314 t317 t318 t319 t320 t321 false)) else (a0h.j0 k t314 t317 t318 t319 t320 t321 false)) else (a0h.j0 k t314 t317 t318 t319 t320 t321 false)) else (a0h.j0 k t314 t317 t318 t319 t320 t321 false)) = some r := H
   have A44 := am_ A440
   clear A440
   by_cases c45 : t325 = true
   ·subst c45
    have H1 : (if t285 = 0 then (if (t282.length : Int) = 0 then (if t301 = 0 then ((a0v.f k t298 (([2, 0, 0] : List Int))).bind fun t329 => (a0h.j0 k t314 t317 t318 t319 t320 t321 t329)) else (a0h.j0 k t314 t317 t318 t319 t320 t321 false)) else (a0h.j0 k t314 t317 t318 t319 t320 t321 false)) else (a0h.j0 k t314 t317 t318 t319 t320 t321 false)) = some r := by rw [if_pos rfl] at H; exact H
    clear H
    have H := H1
    clear H1
    by_cases c46 : t285 = 0
    ·rw [if_pos c46] at H
     have c46b0 : (t285 == 0) = true := beq_iff_eq.mpr c46
     have c46b1 : (t285 != 0) = false := bne_eq_false_iff_eq.mpr c46
     clear c46
     by_cases c47 : (t282.length : Int) = 0
     ·rw [if_pos c47] at H
      have c47b0 : ((t282.length : Int) == 0) = true := beq_iff_eq.mpr c47
      have c47b1 : ((t282.length : Int) != 0) = false := bne_eq_false_iff_eq.mpr c47
      clear c47
      by_cases c48 : t301 = 0
      ·rw [if_pos c48] at H
       have c48b0 : (t301 == 0) = true := beq_iff_eq.mpr c48
       have c48b1 : (t301 != 0) = false := bne_eq_false_iff_eq.mpr c48
       clear c48
       obtain ⟨y326, hy326⟩ : ∃ y_ : List Int, y_ = (([2, 0, 0] : List Int)) := ⟨_, rfl⟩
       replace H : ((a0v.f k t298 y326).bind fun t329 => (a0h.j0 k t314 t317 t318 t319 t320 t321 t329)) = some r := by first | (rw [hy326]; with_reducible exact H) | (have H2_ := (Option.bind_some _ _).symm.trans H; rw [hy326]; with_reducible exact H2_) | (have H2_ := (Option.bind_some _ _).symm.trans H; with_reducible exact H2_) | with_reducible exact H | (rw [hy326]; exact H) | exact H
       have Ny326 := am_ hy326
       clear hy326
       replace H := bm_ H
       obtain ⟨t329, A490, H⟩ := H
       replace H : (a0h.j0 k t314 t317 t318 t319 t320 t321 t329) = some r := H
       have A49 := am_ A490
       clear A490
       have H' := am_ H
       clear H
       go_wp2_with (first | ((with_reducible refine a0f (N := 60) rfl ?_); (try (refine a3n (by rfl) ?_; dsimp only)); refine Kd.a5l (Kd.int .i64) _ 3 ?hg (N := 60) ?hd (xs := ([80, 0, 0] : List Int)) (inner := [.int .i64 80, .int .i64 0, .int .i64 0]) (ok := fun _ => True) (okp := fun _ => True) ?hr ?hp (fun _ hk => hk) trivial (Below.refl _ _) (Nat.le_refl _) (by simp) ?_; (case hd => rfl); (case hg => rfl); (case hr => exact qq_); (case hp => exact (Reps.one (show Kd.M (Kd.int .i64) _ _ _ 80 [.int .i64 80] from rfl) (Reps.one (show Kd.M (Kd.int .i64) _ _ _ 0 [.int .i64 0] from rfl) (Reps.one (show Kd.M (Kd.int .i64) _ _ _ 0 [.int .i64 0] from rfl) (Reps.none _ _))))); intro v323 w50 ho51 hb hg_ hnew_; clear hg_ hnew_; (first | rw [← Ny322.out] at ho51 | (simp only [Int.reduceToNat] at ho51; rw [← Ny322.out] at ho51)); replace HO259 := qrb_ HO259 hb; replace HO262 := qrb_ HO262 hb; replace HO275 := qrb_ HO275 hb; replace HO278 := qrb_ HO278 hb; replace HO291 := qrb_ HO291 hb; replace HO294 := qrb_ HO294 hb; replace HO307 := qrb_ HO307 hb; replace HO310 := qrb_ HO310 hb; have HO324 := am_ (Kd.a2d (Kd.a1a (Kd.a1a (Kd.a1a (Kd.a1a (Kd.a1a (Kd.a1a (Kd.a1a (Kd.a1a ho51 (Kd.R_lt (qr_ HO265))) (Kd.R_lt (qr_ HO268))) (Kd.R_lt (qr_ HO281))) (Kd.R_lt (qr_ HO284))) (Kd.R_lt (qr_ HO297))) (Kd.R_lt (qr_ HO300))) (Kd.R_lt (qr_ HO313))) (Kd.R_lt (qr_ HO316))) (a0x qb_)); replace HO265 := qel_ HO265 ho51 hb; replace HO268 := qel_ HO268 ho51 hb; replace HO281 := qel_ HO281 ho51 hb; replace HO284 := qel_ HO284 ho51 hb; replace HO297 := qel_ HO297 ho51 hb; replace HO300 := qel_ HO300 ho51 hb; replace HO313 := qel_ HO313 ho51 hb; replace HO316 := qel_ HO316 ho51 hb; replace BK253 := qkb_ BK253 hb; replace HB := qbs_ hb; clear hb ho51; obtain ⟨Ao52, co52, eo52⟩ := Kd.a1p HO268.out; subst eo52; obtain ⟨Ao53, co53, eo53⟩ := Kd.a1p HO324.out; subst eo53) | (go_at_call 17; (with_reducible refine (a0v.calls k _ _ t266 _ _ y322 true _ ?s1 ?s2 ?s3 ?s4 A44.out).mono ?_); (case s1 => exact qv_ (Kd.a0q HO268.out).2.2); (case s2 => exact (Kd.a0q HO268.out).2.1); (case s3 => exact qv_ (Kd.a0q HO324.out).2.2); (case s4 => exact (Kd.a0q HO324.out).2.1); rintro e w' ⟨rfl, ⟨nd, rfl⟩⟩; obtain ⟨Ao54, co54, eo54⟩ := Kd.a1p HO284.out; subst eo54) | ((with_reducible refine a0f (N := 78) rfl ?_); (try (refine a3n (by rfl) ?_; dsimp only)); refine Kd.a5l (Kd.int .i64) _ 3 ?hg (N := 78) ?hd (xs := ([2, 0, 0] : List Int)) (inner := [.int .i64 2, .int .i64 0, .int .i64 0]) (ok := fun _ => True) (okp := fun _ => True) ?hr ?hp (fun _ hk => hk) trivial (Below.refl _ _) (Nat.le_refl _) (by simp) ?_; (case hd => rfl); (case hg => rfl); (case hr => exact qq_); (case hp => exact (Reps.one (show Kd.M (Kd.int .i64) _ _ _ 2 [.int .i64 2] from rfl) (Reps.one (show Kd.M (Kd.int .i64) _ _ _ 0 [.int .i64 0] from rfl) (Reps.one (show Kd.M (Kd.int .i64) _ _ _ 0 [.int .i64 0] from rfl) (Reps.none _ _))))); intro v327 w55 ho56 hb hg_ hnew_; clear hg_ hnew_; (first | rw [← Ny326.out] at ho56 | (simp only [Int.reduceToNat] at ho56; rw [← Ny326.out] at ho56)); replace HO259 := qrb_ HO259 hb; replace HO262 := qrb_ HO262 hb; replace HO275 := qrb_ HO275 hb; replace HO278 := qrb_ HO278 hb; replace HO291 := qrb_ HO291 hb; replace HO294 := qrb_ HO294 hb; replace HO307 := qrb_ HO307 hb; replace HO310 := qrb_ HO310 hb; have HO328 := am_ (Kd.a2d (Kd.a1a (Kd.a1a (Kd.a1a (Kd.a1a (Kd.a1a (Kd.a1a (Kd.a1a (Kd.a1a (Kd.a1a ho56 (Kd.R_lt (qr_ HO265))) (Kd.R_lt (qr_ HO268))) (Kd.R_lt (qr_ HO281))) (Kd.R_lt (qr_ HO284))) (Kd.R_lt (qr_ HO297))) (Kd.R_lt (qr_ HO300))) (Kd.R_lt (qr_ HO313))) (Kd.R_lt (qr_ HO316))) (Kd.R_lt (qr_ HO324))) (a0x qb_)); replace HO265 := qel_ HO265 ho56 hb; replace HO268 := qel_ HO268 ho56 hb; replace HO281 := qel_ HO281 ho56 hb; replace HO284 := qel_ HO284 ho56 hb; replace HO297 := qel_ HO297 ho56 hb; replace HO300 := qel_ HO300 ho56 hb; replace HO313 := qel_ HO313 ho56 hb; replace HO316 := qel_ HO316 ho56 hb; replace HO324 := qel_ HO324 ho56 hb; replace BK253 := qkb_ BK253 hb; replace HB := qbs_ hb; clear hb ho56; obtain ⟨Ao57, co57, eo57⟩ := Kd.a1p HO300.out; subst eo57; obtain ⟨Ao58, co58, eo58⟩ := Kd.a1p HO328.out; subst eo58) | (go_at_call 17; (with_reducible refine (a0v.calls k _ _ t298 _ _ y326 t329 _ ?s1 ?s2 ?s3 ?s4 A49.out).mono ?_); (case s1 => exact qv_ (Kd.a0q HO300.out).2.2); (case s2 => exact (Kd.a0q HO300.out).2.1); (case s3 => exact qv_ (Kd.a0q HO328.out).2.2); (case s4 => exact (Kd.a0q HO328.out).2.1); rintro e w' ⟨rfl, ⟨nd, rfl⟩⟩))
       go_meet
       case rel => exact ⟨_, (t329), qs_, H', ⟨qo_⟩, ⟨by (with_reducible repeat (first | apply Kd.a1e | apply Kd.a1f | apply Kd.a0y)); exact Kd.a2w HO316.out (fun _ hk => trivial)⟩, ⟨qk_ BK253⟩, ⟨qb_⟩⟩
      ·rw [if_neg c48] at H
       have c48b0 : (t301 == 0) = false := beq_eq_false_iff_ne.mpr c48
       have c48b1 : (t301 != 0) = true := bne_iff_ne.mpr c48
       have H' := am_ H
       clear H
       go_wp2_with (first | ((with_reducible refine a0f (N := 60) rfl ?_); (try (refine a3n (by rfl) ?_; dsimp only)); refine Kd.a5l (Kd.int .i64) _ 3 ?hg (N := 60) ?hd (xs := ([80, 0, 0] : List Int)) (inner := [.int .i64 80, .int .i64 0, .int .i64 0]) (ok := fun _ => True) (okp := fun _ => True) ?hr ?hp (fun _ hk => hk) trivial (Below.refl _ _) (Nat.le_refl _) (by simp) ?_; (case hd => rfl); (case hg => rfl); (case hr => exact qq_); (case hp => exact (Reps.one (show Kd.M (Kd.int .i64) _ _ _ 80 [.int .i64 80] from rfl) (Reps.one (show Kd.M (Kd.int .i64) _ _ _ 0 [.int .i64 0] from rfl) (Reps.one (show Kd.M (Kd.int .i64) _ _ _ 0 [.int .i64 0] from rfl) (Reps.none _ _))))); intro v323 w59 ho60 hb hg_ hnew_; clear hg_ hnew_; (first | rw [← Ny322.out] at ho60 | (simp only [Int.reduceToNat] at ho60; rw [← Ny322.out] at ho60)); replace HO259 := qrb_ HO259 hb; replace HO262 := qrb_ HO262 hb; replace HO275 := qrb_ HO275 hb; replace HO278 := qrb_ HO278 hb; replace HO291 := qrb_ HO291 hb; replace HO294 := qrb_ HO294 hb; replace HO307 := qrb_ HO307 hb; replace HO310 := qrb_ HO310 hb; have HO324 := am_ (Kd.a2d (Kd.a1a (Kd.a1a (Kd.a1a (Kd.a1a (Kd.a1a (Kd.a1a (Kd.a1a (Kd.a1a ho60 (Kd.R_lt (qr_ HO265))) (Kd.R_lt (qr_ HO268))) (Kd.R_lt (qr_ HO281))) (Kd.R_lt (qr_ HO284))) (Kd.R_lt (qr_ HO297))) (Kd.R_lt (qr_ HO300))) (Kd.R_lt (qr_ HO313))) (Kd.R_lt (qr_ HO316))) (a0x qb_)); replace HO265 := qel_ HO265 ho60 hb; replace HO268 := qel_ HO268 ho60 hb; replace HO281 := qel_ HO281 ho60 hb; replace HO284 := qel_ HO284 ho60 hb; replace HO297 := qel_ HO297 ho60 hb; replace HO300 := qel_ HO300 ho60 hb; replace HO313 := qel_ HO313 ho60 hb; replace HO316 := qel_ HO316 ho60 hb; replace BK253 := qkb_ BK253 hb; replace HB := qbs_ hb; clear hb ho60; obtain ⟨Ao61, co61, eo61⟩ := Kd.a1p HO268.out; subst eo61; obtain ⟨Ao62, co62, eo62⟩ := Kd.a1p HO324.out; subst eo62) | (go_at_call 17; (with_reducible refine (a0v.calls k _ _ t266 _ _ y322 true _ ?s1 ?s2 ?s3 ?s4 A44.out).mono ?_); (case s1 => exact qv_ (Kd.a0q HO268.out).2.2); (case s2 => exact (Kd.a0q HO268.out).2.1); (case s3 => exact qv_ (Kd.a0q HO324.out).2.2); (case s4 => exact (Kd.a0q HO324.out).2.1); rintro e w' ⟨rfl, ⟨nd, rfl⟩⟩; obtain ⟨Ao63, co63, eo63⟩ := Kd.a1p HO284.out; subst eo63))
       go_meet
       case rel => exact ⟨_, (false), qs_, H', ⟨qo_⟩, ⟨by (with_reducible repeat (first | apply Kd.a1e | apply Kd.a1f | apply Kd.a0y)); exact Kd.a2w HO316.out (fun _ hk => trivial)⟩, ⟨qk_ BK253⟩, ⟨qb_⟩⟩
     ·rw [if_neg c47] at H
      have c47b0 : ((t282.length : Int) == 0) = false := beq_eq_false_iff_ne.mpr c47
      have c47b1 : ((t282.length : Int) != 0) = true := bne_iff_ne.mpr c47
      have c47b2 : ¬ (t282 = []) := fun h_ => c47 (by rw [h_]; rfl)
      have H' := am_ H
      clear H
      go_wp2_with (first | ((with_reducible refine a0f (N := 60) rfl ?_); (try (refine a3n (by rfl) ?_; dsimp only)); refine Kd.a5l (Kd.int .i64) _ 3 ?hg (N := 60) ?hd (xs := ([80, 0, 0] : List Int)) (inner := [.int .i64 80, .int .i64 0, .int .i64 0]) (ok := fun _ => True) (okp := fun _ => True) ?hr ?hp (fun _ hk => hk) trivial (Below.refl _ _) (Nat.le_refl _) (by simp) ?_; (case hd => rfl); (case hg => rfl); (case hr => exact qq_); (case hp => exact (Reps.one (show Kd.M (Kd.int .i64) _ _ _ 80 [.int .i64 80] from rfl) (Reps.one (show Kd.M (Kd.int .i64) _ _ _ 0 [.int .i64 0] from rfl) (Reps.one (show Kd.M (Kd.int .i64) _ _ _ 0 [.int .i64 0] from rfl) (Reps.none _ _))))); intro v323 w64 ho65 hb hg_ hnew_; clear hg_ hnew_; (first | rw [← Ny322.out] at ho65 | (simp only [Int.reduceToNat] at ho65; rw [← Ny322.out] at ho65)); replace HO259 := qrb_ HO259 hb; replace HO262 := qrb_ HO262 hb; replace HO275 := qrb_ HO275 hb; replace HO278 := qrb_ HO278 hb; replace HO291 := qrb_ HO291 hb; replace HO294 := qrb_ HO294 hb; replace HO307 := qrb_ HO307 hb; replace HO310 := qrb_ HO310 hb; have HO324 := am_ (Kd.a2d (Kd.a1a (Kd.a1a (Kd.a1a (Kd.a1a (Kd.a1a (Kd.a1a (Kd.a1a (Kd.a1a ho65 (Kd.R_lt (qr_ HO265))) (Kd.R_lt (qr_ HO268))) (Kd.R_lt (qr_ HO281))) (Kd.R_lt (qr_ HO284))) (Kd.R_lt (qr_ HO297))) (Kd.R_lt (qr_ HO300))) (Kd.R_lt (qr_ HO313))) (Kd.R_lt (qr_ HO316))) (a0x qb_)); replace HO265 := qel_ HO265 ho65 hb; replace HO268 := qel_ HO268 ho65 hb; replace HO281 := qel_ HO281 ho65 hb; replace HO284 := qel_ HO284 ho65 hb; replace HO297 := qel_ HO297 ho65 hb; replace HO300 := qel_ HO300 ho65 hb; replace HO313 := qel_ HO313 ho65 hb; replace HO316 := qel_ HO316 ho65 hb; replace BK253 := qkb_ BK253 hb; replace HB := qbs_ hb; clear hb ho65; obtain ⟨Ao66, co66, eo66⟩ := Kd.a1p HO268.out; subst eo66; obtain ⟨Ao67, co67, eo67⟩ := Kd.a1p HO324.out; subst eo67) | (go_at_call 17; (with_reducible refine (a0v.calls k _ _ t266 _ _ y322 true _ ?s1 ?s2 ?s3 ?s4 A44.out).mono ?_); (case s1 => exact qv_ (Kd.a0q HO268.out).2.2); (case s2 => exact (Kd.a0q HO268.out).2.1); (case s3 => exact qv_ (Kd.a0q HO324.out).2.2); (case s4 => exact (Kd.a0q HO324.out).2.1); rintro e w' ⟨rfl, ⟨nd, rfl⟩⟩; obtain ⟨Ao68, co68, eo68⟩ := Kd.a1p HO284.out; subst eo68))
      go_meet
      case rel => exact ⟨_, (false), qs_, H', ⟨qo_⟩, ⟨by (with_reducible repeat (first | apply Kd.a1e | apply Kd.a1f | apply Kd.a0y)); exact Kd.a2w HO316.out (fun _ hk => trivial)⟩, ⟨qk_ BK253⟩, ⟨qb_⟩⟩
    ·rw [if_neg c46] at H
     have c46b0 : (t285 == 0) = false := beq_eq_false_iff_ne.mpr c46
     have c46b1 : (t285 != 0) = true := bne_iff_ne.mpr c46
     have H' := am_ H
     clear H
     go_wp2_with (first | ((with_reducible refine a0f (N := 60) rfl ?_); (try (refine a3n (by rfl) ?_; dsimp only)); refine Kd.a5l (Kd.int .i64) _ 3 ?hg (N := 60) ?hd (xs := ([80, 0, 0] : List Int)) (inner := [.int .i64 80, .int .i64 0, .int .i64 0]) (ok := fun _ => True) (okp := fun _ => True) ?hr ?hp (fun _ hk => hk) trivial (Below.refl _ _) (Nat.le_refl _) (by simp) ?_; (case hd => rfl); (case hg => rfl); (case hr => exact qq_); (case hp => exact (Reps.one (show Kd.M (Kd.int .i64) _ _ _ 80 [.int .i64 80] from rfl) (Reps.one (show Kd.M (Kd.int .i64) _ _ _ 0 [.int .i64 0] from rfl) (Reps.one (show Kd.M (Kd.int .i64) _ _ _ 0 [.int .i64 0] from rfl) (Reps.none _ _))))); intro v323 w69 ho70 hb hg_ hnew_; clear hg_ hnew_; (first | rw [← Ny322.out] at ho70 | (simp only [Int.reduceToNat] at ho70; rw [← Ny322.out] at ho70)); replace HO259 := qrb_ HO259 hb; replace HO262 := qrb_ HO262 hb; replace HO275 := qrb_ HO275 hb; replace HO278 := qrb_ HO278 hb; replace HO291 := qrb_ HO291 hb; replace HO294 := qrb_ HO294 hb; replace HO307 := qrb_ HO307 hb; replace HO310 := qrb_ HO310 hb; have HO324 := am_ (Kd.a2d (Kd.a1a (Kd.a1a (Kd.a1a (Kd.a1a (Kd.a1a (Kd.a1a (Kd.a1a (Kd.a1a ho70 (Kd.R_lt (qr_ HO265))) (Kd.R_lt (qr_ HO268))) (Kd.R_lt (qr_ HO281))) (Kd.R_lt (qr_ HO284))) (Kd.R_lt (qr_ HO297))) (Kd.R_lt (qr_ HO300))) (Kd.R_lt (qr_ HO313))) (Kd.R_lt (qr_ HO316))) (a0x qb_)); replace HO265 := qel_ HO265 ho70 hb; replace HO268 := qel_ HO268 ho70 hb; replace HO281 := qel_ HO281 ho70 hb; replace HO284 := qel_ HO284 ho70 hb; replace HO297 := qel_ HO297 ho70 hb; replace HO300 := qel_ HO300 ho70 hb; replace HO313 := qel_ HO313 ho70 hb; replace HO316 := qel_ HO316 ho70 hb; replace BK253 := qkb_ BK253 hb; replace HB := qbs_ hb; clear hb ho70; obtain ⟨Ao71, co71, eo71⟩ := Kd.a1p HO268.out; subst eo71; obtain ⟨Ao72, co72, eo72⟩ := Kd.a1p HO324.out; subst eo72) | (go_at_call 17; (with_reducible refine (a0v.calls k _ _ t266 _ _ y322 true _ ?s1 ?s2 ?s3 ?s4 A44.out).mono ?_); (case s1 => exact qv_ (Kd.a0q HO268.out).2.2); (case s2 => exact (Kd.a0q HO268.out).2.1); (case s3 => exact qv_ (Kd.a0q HO324.out).2.2); (case s4 => exact (Kd.a0q HO324.out).2.1); rintro e w' ⟨rfl, ⟨nd, rfl⟩⟩))
     go_meet
     case rel => exact ⟨_, (false), qs_, H', ⟨qo_⟩, ⟨by (with_reducible repeat (first | apply Kd.a1e | apply Kd.a1f | apply Kd.a0y)); exact Kd.a2w HO316.out (fun _ hk => trivial)⟩, ⟨qk_ BK253⟩, ⟨qb_⟩⟩
   ·replace c45 := be_ c45
    subst c45
    have H1 : (a0h.j0 k t314 t317 t318 t319 t320 t321 false) = some r := by rw [if_neg (show ¬ (false = true) by decide)] at H; exact H
    clear H
    have H := H1
    clear H1
    have H' := am_ H
    clear H
    go_wp2_with (first | ((with_reducible refine a0f (N := 60) rfl ?_); (try (refine a3n (by rfl) ?_; dsimp only)); refine Kd.a5l (Kd.int .i64) _ 3 ?hg (N := 60) ?hd (xs := ([80, 0, 0] : List Int)) (inner := [.int .i64 80, .int .i64 0, .int .i64 0]) (ok := fun _ => True) (okp := fun _ => True) ?hr ?hp (fun _ hk => hk) trivial (Below.refl _ _) (Nat.le_refl _) (by simp) ?_; (case hd => rfl); (case hg => rfl); (case hr => exact qq_); (case hp => exact (Reps.one (show Kd.M (Kd.int .i64) _ _ _ 80 [.int .i64 80] from rfl) (Reps.one (show Kd.M (Kd.int .i64) _ _ _ 0 [.int .i64 0] from rfl) (Reps.one (show Kd.M (Kd.int .i64) _ _ _ 0 [.int .i64 0] from rfl) (Reps.none _ _))))); intro v323 w73 ho74 hb hg_ hnew_; clear hg_ hnew_; (first | rw [← Ny322.out] at ho74 | (simp only [Int.reduceToNat] at ho74; rw [← Ny322.out] at ho74)); replace HO259 := qrb_ HO259 hb; replace HO262 := qrb_ HO262 hb; replace HO275 := qrb_ HO275 hb; replace HO278 := qrb_ HO278 hb; replace HO291 := qrb_ HO291 hb; replace HO294 := qrb_ HO294 hb; replace HO307 := qrb_ HO307 hb; replace HO310 := qrb_ HO310 hb; have HO324 := am_ (Kd.a2d (Kd.a1a (Kd.a1a (Kd.a1a (Kd.a1a (Kd.a1a (Kd.a1a (Kd.a1a (Kd.a1a ho74 (Kd.R_lt (qr_ HO265))) (Kd.R_lt (qr_ HO268))) (Kd.R_lt (qr_ HO281))) (Kd.R_lt (qr_ HO284))) (Kd.R_lt (qr_ HO297))) (Kd.R_lt (qr_ HO300))) (Kd.R_lt (qr_ HO313))) (Kd.R_lt (qr_ HO316))) (a0x qb_)); replace HO265 := qel_ HO265 ho74 hb; replace HO268 := qel_ HO268 ho74 hb; replace HO281 := qel_ HO281 ho74 hb; replace HO284 := qel_ HO284 ho74 hb; replace HO297 := qel_ HO297 ho74 hb; replace HO300 := qel_ HO300 ho74 hb; replace HO313 := qel_ HO313 ho74 hb; replace HO316 := qel_ HO316 ho74 hb; replace BK253 := qkb_ BK253 hb; replace HB := qbs_ hb; clear hb ho74; obtain ⟨Ao75, co75, eo75⟩ := Kd.a1p HO268.out; subst eo75; obtain ⟨Ao76, co76, eo76⟩ := Kd.a1p HO324.out; subst eo76) | (go_at_call 17; (with_reducible refine (a0v.calls k _ _ t266 _ _ y322 false _ ?s1 ?s2 ?s3 ?s4 A44.out).mono ?_); (case s1 => exact qv_ (Kd.a0q HO268.out).2.2); (case s2 => exact (Kd.a0q HO268.out).2.1); (case s3 => exact qv_ (Kd.a0q HO324.out).2.2); (case s4 => exact (Kd.a0q HO324.out).2.1); rintro e w' ⟨rfl, ⟨nd, rfl⟩⟩))
    go_meet
    case rel => exact ⟨_, (false), qs_, H', ⟨qo_⟩, ⟨by (with_reducible repeat (first | apply Kd.a1e | apply Kd.a1f | apply Kd.a0y)); exact Kd.a2w HO316.out (fun _ hk => trivial)⟩, ⟨qk_ BK253⟩, ⟨qb_⟩⟩
  ·rw [if_neg c43] at H
   have c43b0 : (t269 == 0) = false := beq_eq_false_iff_ne.mpr c43
   have c43b1 : (t269 != 0) = true := bne_iff_ne.mpr c43
   (first | rw [c43b0] | (simp only [a3h, a3u]; rw [c43b0]) | skip)
   have H' := am_ H
   clear H
   go_wp2
   go_meet
   case rel => exact ⟨_, (false), qs_, H', ⟨qo_⟩, ⟨by (with_reducible repeat (first | apply Kd.a1e | apply Kd.a1f | apply Kd.a0y)); exact Kd.a2w HO316.out (fun _ hk => trivial)⟩, ⟨qk_ BK253⟩, ⟨qb_⟩⟩
 case rest =>
  clear HC11
  try clear c1
  try clear c2
  try clear p2
  try clear c4
  try clear c13
  try clear c18
  try clear c20
  try clear c29
  try clear c43
  try clear c43b0
  try clear c43b1
  try clear c45
  try clear c46
  try clear c46b0
  try clear c46b1
  try clear c47
  try clear c47b0
  try clear c47b1
  try clear c47b2
  try clear c48
  try clear c48b0
  try clear c48b1
  try clear z'27_3 z'27_4
  try clear y'27_0 y'27_1 y'27_2 y'27_3 y'27_4
  obtain ⟨kq, x14_10, rfl, HA, HJ10, HO_8, BK253, HB⟩ := hcut
  cases kq with
  | zero => exact absurd HA.out (by simp [a0h.j0])
  | succ kj10 =>
   have H := HA.out
   clear HA
   simp only [a0h.j0] at H
   by_cases c77 : x14_10 = true
   ·subst c77
    have H1 : (if t317 = 0 then ((a0v.f kj10 t314 (([1, 2, 3, 4] : List Int))).bind fun t333 => (if t333 = true then (if t319 = 0 then (if t318 = true then (some false) else (if t321 = 0 then (if t320 = true then ((a2y.f).bind fun bt334 => ((a4i.f kj10 bt334.1 bt334.2.1 bt334.2.2.1 bt334.2.2.2.1 bt334.2.2.2.2.1 bt334.2.2.2.2.2).bind fun t346 => (some t346))) else (some false)) else (some false))) else (some false)) else (some false))) else (some false)) = some r := by rw [if_pos rfl] at H; exact H
    clear H
    have H := H1
    clear H1
    by_cases c78 : t317 = 0
    ·rw [if_pos c78] at H
     have c78b0 : (t317 == 0) = true := beq_iff_eq.mpr c78
     have c78b1 : (t317 != 0) = false := bne_eq_false_iff_eq.mpr c78
     clear c78
     obtain ⟨y330, hy330⟩ : ∃ y_ : List Int, y_ = (([1, 2, 3, 4] : List Int)) := ⟨_, rfl⟩
     replace H : ((a0v.f kj10 t314 y330).bind fun t333 => (if t333 = true then (if t319 = 0 then (if t318 = true then (some false) else (if t321 = 0 then (if t320 = true then ((a2y.f).bind fun bt334 => ((a4i.f kj10 bt334.1 bt334.2.1 bt334.2.2.1 bt334.2.2.2.1 bt334.2.2.2.2.1 bt334.2.2.2.2.2).bind fun t346 => (some t346))) else (some false)) else (some false))) else (some false)) else (some false))) = some r := by first | (rw [hy330]; with_reducible exact H) | (have H2_ := (Option.bind_some _ _).symm.trans H; rw [hy330]; with_reducible exact H2_) | (have H2_ := (Option.bind_some _ _).symm.trans H; with_reducible exact H2_) | with_reducible exact H | (rw [hy330]; exact H) | exact H
     have Ny330 := am_ hy330
     clear hy330
     replace H := bm_ H
     obtain ⟨t333, A790, H⟩ := H
     replace H : (if t333 = true then (if t319 = 0 then (if t318 = true then (some false) else (if t321 = 0 then (if t320 = true then ((a2y.f).bind fun bt334 => ((a4i.f kj10 bt334.1 bt334.2.1 bt334.2.2.1 bt334.2.2.2.1 bt334.2.2.2.2.1 bt334.2.2.2.2.2).bind fun t346 => (some t346))) else (some false)) else (some false))) else (some false)) else (some false)) = some r := H
     have A79 := am_ A790
     clear A790
     by_cases c80 : t333 = true
     ·subst c80
      have H1 : (if t319 = 0 then (if t318 = true then (some false) else (if t321 = 0 then (if t320 = true then ((a2y.f).bind fun bt334 => ((a4i.f kj10 bt334.1 bt334.2.1 bt334.2.2.1 bt334.2.2.2.1 bt334.2.2.2.2.1 bt334.2.2.2.2.2).bind fun t346 => (some t346))) else (some false)) else (some false))) else (some false)) = some r := by rw [if_pos rfl] at H; exact H
      clear H
      have H := H1
      clear H1
      by_cases c81 : t319 = 0
      ·rw [if_pos c81] at H
       have c81b0 : (t319 == 0) = true := beq_iff_eq.mpr c81
       have c81b1 : (t319 != 0) = false := bne_eq_false_iff_eq.mpr c81
       clear c81
       by_cases c82 : t318 = true
       ·subst c82
        have H1 : (some false) = some r := by rw [if_pos rfl] at H; exact H
        clear H
        have H := H1
        clear H1
        obtain rfl := si_ H
        go_wp2_with (first | ((with_reducible refine a0f (N := 88) rfl ?_); (try (refine a3n (by rfl) ?_; dsimp only)); refine Kd.a5l (Kd.int .i64) _ 3 ?hg (N := 88) ?hd (xs := ([1, 2, 3, 4] : List Int)) (inner := [.int .i64 1, .int .i64 2, .int .i64 3, .int .i64 4]) (ok := fun _ => True) (okp := fun _ => True) ?hr ?hp (fun _ hk => hk) trivial (Below.refl _ _) (Nat.le_refl _) (by simp) ?_; (case hd => rfl); (case hg => rfl); (case hr => exact qq_); (case hp => exact (Reps.one (show Kd.M (Kd.int .i64) _ _ _ 1 [.int .i64 1] from rfl) (Reps.one (show Kd.M (Kd.int .i64) _ _ _ 2 [.int .i64 2] from rfl) (Reps.one (show Kd.M (Kd.int .i64) _ _ _ 3 [.int .i64 3] from rfl) (Reps.one (show Kd.M (Kd.int .i64) _ _ _ 4 [.int .i64 4] from rfl) (Reps.none _ _)))))); intro v331 w83 ho84 hb hg_ hnew_; clear hg_ hnew_; (first | rw [← Ny330.out] at ho84 | (simp only [Int.reduceToNat] at ho84; rw [← Ny330.out] at ho84)); have HO332 := am_ (Kd.a2d (Kd.a1a ho84 (Kd.R_lt (qr_ HO_8))) (a0x qb_)); replace HO_8 := qel_ HO_8 ho84 hb; replace BK253 := qkb_ BK253 hb; replace HB := qbs_ hb; clear hb ho84; obtain ⟨Ao85, co85, eo85⟩ := Kd.a1p HO_8.out; subst eo85; obtain ⟨Ao86, co86, eo86⟩ := Kd.a1p HO332.out; subst eo86) | (go_at_call 17; (with_reducible refine (a0v.calls kj10 _ _ t314 _ _ y330 true _ ?s1 ?s2 ?s3 ?s4 A79.out).mono ?_); (case s1 => exact qv_ (Kd.a0q HO_8.out).2.2); (case s2 => exact (Kd.a0q HO_8.out).2.1); (case s3 => exact qv_ (Kd.a0q HO332.out).2.2); (case s4 => exact (Kd.a0q HO332.out).2.1); rintro e w' ⟨rfl, ⟨nd, rfl⟩⟩))
        go_ret
        exact ⟨qx_, qb_⟩
       ·replace c82 := be_ c82
        subst c82
        have H1 : (if t321 = 0 then (if t320 = true then ((a2y.f).bind fun bt334 => ((a4i.f kj10 bt334.1 bt334.2.1 bt334.2.2.1 bt334.2.2.2.1 bt334.2.2.2.2.1 bt334.2.2.2.2.2).bind fun t346 => (some t346))) else (some false)) else (some false)) = some r := by rw [if_neg (show ¬ (false = true) by decide)] at H; exact H
        clear H
        have H := H1
        clear H1
        by_cases c87 : t321 = 0
        ·rw [if_pos c87] at H
         have c87b0 : (t321 == 0) = true := beq_iff_eq.mpr c87
         have c87b1 : (t321 != 0) = false := bne_eq_false_iff_eq.mpr c87
         clear c87
         by_cases c88 : t320 = true
         ·subst c88
          have H1 : ((a2y.f).bind fun bt334 => ((a4i.f kj10 bt334.1 bt334.2.1 bt334.2.2.1 bt334.2.2.2.1 bt334.2.2.2.2.1 bt334.2.2.2.2.2).bind fun t346 => (some t346))) = some r := by rw [if_pos rfl] at H; exact H
          clear H
          have H := H1
          clear H1
          replace H := bm_ H
          obtain ⟨⟨t334, t335, t336, t337, t340, t343⟩, A890, H⟩ := H
          replace H : ((a4i.f kj10 t334 t335 t336 t337 t340 t343).bind fun t346 => (some t346)) = some r := H
          have A89 := am_ A890
          clear A890
          replace H := bm_ H
          obtain ⟨t346, A900, H⟩ := H
          replace H : (some t346) = some r := H
          have A90 := am_ A900
          clear A900
          obtain rfl := si_ H
          go_wp2_with (first | ((with_reducible refine a0f (N := 88) rfl ?_); (try (refine a3n (by rfl) ?_; dsimp only)); refine Kd.a5l (Kd.int .i64) _ 3 ?hg (N := 88) ?hd (xs := ([1, 2, 3, 4] : List Int)) (inner := [.int .i64 1, .int .i64 2, .int .i64 3, .int .i64 4]) (ok := fun _ => True) (okp := fun _ => True) ?hr ?hp (fun _ hk => hk) trivial (Below.refl _ _) (Nat.le_refl _) (by simp) ?_; (case hd => rfl); (case hg => rfl); (case hr => exact qq_); (case hp => exact (Reps.one (show Kd.M (Kd.int .i64) _ _ _ 1 [.int .i64 1] from rfl) (Reps.one (show Kd.M (Kd.int .i64) _ _ _ 2 [.int .i64 2] from rfl) (Reps.one (show Kd.M (Kd.int .i64) _ _ _ 3 [.int .i64 3] from rfl) (Reps.one (show Kd.M (Kd.int .i64) _ _ _ 4 [.int .i64 4] from rfl) (Reps.none _ _)))))); intro v331 w91 ho92 hb hg_ hnew_; clear hg_ hnew_; (first | rw [← Ny330.out] at ho92 | (simp only [Int.reduceToNat] at ho92; rw [← Ny330.out] at ho92)); have HO332 := am_ (Kd.a2d (Kd.a1a ho92 (Kd.R_lt (qr_ HO_8))) (a0x qb_)); replace HO_8 := qel_ HO_8 ho92 hb; replace BK253 := qkb_ BK253 hb; replace HB := qbs_ hb; clear hb ho92; obtain ⟨Ao93, co93, eo93⟩ := Kd.a1p HO_8.out; subst eo93; obtain ⟨Ao94, co94, eo94⟩ := Kd.a1p HO332.out; subst eo94) | (go_at_call 17; (with_reducible refine (a0v.calls kj10 _ _ t314 _ _ y330 true _ ?s1 ?s2 ?s3 ?s4 A79.out).mono ?_); (case s1 => exact qv_ (Kd.a0q HO_8.out).2.2); (case s2 => exact (Kd.a0q HO_8.out).2.1); (case s3 => exact qv_ (Kd.a0q HO332.out).2.2); (case s4 => exact (Kd.a0q HO332.out).2.1); rintro e w' ⟨rfl, ⟨nd, rfl⟩⟩) | (go_at_call 29; (with_reducible refine (a2y.calls  t334 t335 t336 t337 t340 t343 _ A89.out).mono ?_); rintro e w95 ⟨v338, v341, v344, rfl, ho0, ho1, ho2, hb⟩; have HO339 := am_ (Kd.a2d ho0 (a0x qb_)); have HO342 := am_ (Kd.a2d ho1 (a0x qb_)); have HO345 := am_ (Kd.a2d (Kd.a1a (Kd.a1a ho2 (Kd.R_lt (qr_ HO_8))) (Kd.R_lt (qr_ HO332))) (a0x qb_)); replace HO_8 := qel_ HO_8 ho2 hb; replace HO332 := qel_ HO332 ho2 hb; replace BK253 := qkb_ BK253 hb; replace HB := qbs_ hb; (try clear hb); (try clear hb2); (try clear hk); (try clear hi); (try clear ho0); (try clear ho1); (try clear ho2); obtain ⟨Ao96, co96, eo96⟩ := Kd.a1p HO339.out; subst eo96; obtain ⟨Ao97, co97, eo97⟩ := Kd.a1p HO342.out; subst eo97; obtain ⟨Ao98, co98, eo98⟩ := Kd.a1p HO345.out; subst eo98) | (go_at_call 15; (with_reducible refine (a4i.calls kj10 t334 t335 t336 _ _ t337 _ _ t340 _ _ t343 t346 _ ?s1 ?s2 ?s3 ?s4 ?s5 ?s6 A90.out).mono ?_); (case s1 => exact qv_ (Kd.a0q HO339.out).2.2); (case s2 => exact (Kd.a0q HO339.out).2.1); (case s3 => exact qv_ (Kd.a0q HO342.out).2.2); (case s4 => exact (Kd.a0q HO342.out).2.1); (case s5 => exact qv_ (Kd.a0q HO345.out).2.2); (case s6 => exact (Kd.a0q HO345.out).2.1); rintro e w99 ⟨rfl, hb⟩; replace HO_8 := qrb_ HO_8 hb; replace HO332 := qrb_ HO332 hb; replace HO339 := qrb_ HO339 hb; replace HO342 := qrb_ HO342 hb; replace HO345 := qrb_ HO345 hb; replace BK253 := qkb_ BK253 hb; replace HB := qbs_ hb; (try clear hb); (try clear hb2); (try clear hk); (try clear hi)))
          go_ret
          exact ⟨qx_, qb_⟩
         ·replace c88 := be_ c88
          subst c88
          have H1 : (some false) = some r := by rw [if_neg (show ¬ (false = true) by decide)] at H; exact H
          clear H
          have H := H1
          clear H1
          obtain rfl := si_ H
          go_wp2_with (first | ((with_reducible refine a0f (N := 88) rfl ?_); (try (refine a3n (by rfl) ?_; dsimp only)); refine Kd.a5l (Kd.int .i64) _ 3 ?hg (N := 88) ?hd (xs := ([1, 2, 3, 4] : List Int)) (inner := [.int .i64 1, .int .i64 2, .int .i64 3, .int .i64 4]) (ok := fun _ => True) (okp := fun _ => True) ?hr ?hp (fun _ hk => hk) trivial (Below.refl _ _) (Nat.le_refl _) (by simp) ?_; (case hd => rfl); (case hg => rfl); (case hr => exact qq_); (case hp => exact (Reps.one (show Kd.M (Kd.int .i64) _ _ _ 1 [.int .i64 1] from rfl) (Reps.one (show Kd.M (Kd.int .i64) _ _ _ 2 [.int .i64 2] from rfl) (Reps.one (show Kd.M (Kd.int .i64) _ _ _ 3 [.int .i64 3] from rfl) (Reps.one (show Kd.M (Kd.int .i64) _ _ _ 4 [.int .i64 4] from rfl) (Reps.none _ _)))))); intro v331 w100 ho101 hb hg_ hnew_; clear hg_ hnew_; (first | rw [← Ny330.out] at ho101 | (simp only [Int.reduceToNat] at ho101; rw [← Ny330.out] at ho101)); have HO332 := am_ (Kd.a2d (Kd.a1a ho101 (Kd.R_lt (qr_ HO_8))) (a0x qb_)); replace HO_8 := qel_ HO_8 ho101 hb; replace BK253 := qkb_ BK253 hb; replace HB := qbs_ hb; clear hb ho101; obtain ⟨Ao102, co102, eo102⟩ := Kd.a1p HO_8.out; subst eo102; obtain ⟨Ao103, co103, eo103⟩ := Kd.a1p HO332.out; subst eo103) | (go_at_call 17; (with_reducible refine (a0v.calls kj10 _ _ t314 _ _ y330 true _ ?s1 ?s2 ?s3 ?s4 A79.out).mono ?_); (case s1 => exact qv_ (Kd.a0q HO_8.out).2.2); (case s2 => exact (Kd.a0q HO_8.out).2.1); (case s3 => exact qv_ (Kd.a0q HO332.out).2.2); (case s4 => exact (Kd.a0q HO332.out).2.1); rintro e w' ⟨rfl, ⟨nd, rfl⟩⟩))
          go_ret
          exact ⟨qx_, qb_⟩
        ·rw [if_neg c87] at H
         have c87b0 : (t321 == 0) = false := beq_eq_false_iff_ne.mpr c87
         have c87b1 : (t321 != 0) = true := bne_iff_ne.mpr c87
         obtain rfl := si_ H
         go_wp2_with (first | ((with_reducible refine a0f (N := 88) rfl ?_); (try (refine a3n (by rfl) ?_; dsimp only)); refine Kd.a5l (Kd.int .i64) _ 3 ?hg (N := 88) ?hd (xs := ([1, 2, 3, 4] : List Int)) (inner := [.int .i64 1, .int .i64 2, .int .i64 3, .int .i64 4]) (ok := fun _ => True) (okp := fun _ => True) ?hr ?hp (fun _ hk => hk) trivial (Below.refl _ _) (Nat.le_refl _) (by simp) ?_; (case hd => rfl); (case hg => rfl); (case hr => exact qq_); (case hp => exact (Reps.one (show Kd.M (Kd.int .i64) _ _ _ 1 [.int .i64 1] from rfl) (Reps.one (show Kd.M (Kd.int .i64) _ _ _ 2 [.int .i64 2] from rfl) (Reps.one (show Kd.M (Kd.int .i64) _ _ _ 3 [.int .i64 3] from rfl) (Reps.one (show Kd.M (Kd.int .i64) _ _ _ 4 [.int .i64 4] from rfl) (Reps.none _ _)))))); intro v331 w104 ho105 hb hg_ hnew_; clear hg_ hnew_; (first | rw [← Ny330.out] at ho105 | (simp only [Int.reduceToNat] at ho105; rw [← Ny330.out] at ho105)); have HO332 := am_ (Kd.a2d (Kd.a1a ho105 (Kd.R_lt (qr_ HO_8))) (a0x qb_)); replace HO_8 := qel_ HO_8 ho105 hb; replace BK253 := qkb_ BK253 hb; replace HB := qbs_ hb; clear hb ho105; obtain ⟨Ao106, co106, eo106⟩ := Kd.a1p HO_8.out; subst eo106; obtain ⟨Ao107, co107, eo107⟩ := Kd.a1p HO332.out; subst eo107) | (go_at_call 17; (with_reducible refine (a0v.calls kj10 _ _ t314 _ _ y330 true _ ?s1 ?s2 ?s3 ?s4 A79.out).mono ?_); (case s1 => exact qv_ (Kd.a0q HO_8.out).2.2); (case s2 => exact (Kd.a0q HO_8.out).2.1); (case s3 => exact qv_ (Kd.a0q HO332.out).2.2); (case s4 => exact (Kd.a0q HO332.out).2.1); rintro e w' ⟨rfl, ⟨nd, rfl⟩⟩))
         go_ret
         exact ⟨qx_, qb_⟩
      ·rw [if_neg c81] at H
       have c81b0 : (t319 == 0) = false := beq_eq_false_iff_ne.mpr c81
       have c81b1 : (t319 != 0) = true := bne_iff_ne.mpr c81
       obtain rfl := si_ H
       go_wp2_with (first | ((with_reducible refine a0f (N := 88) rfl ?_); (try (refine a3n (by rfl) ?_; dsimp only)); refine Kd.a5l (Kd.int .i64) _ 3 ?hg (N := 88) ?hd (xs := ([1, 2, 3, 4] : List Int)) (inner := [.int .i64 1, .int .i64 2, .int .i64 3, .int .i64 4]) (ok := fun _ => True) (okp := fun _ => True) ?hr ?hp (fun _ hk => hk) trivial (Below.refl _ _) (Nat.le_refl _) (by simp) ?_; (case hd => rfl); (case hg => rfl); (case hr => exact qq_); (case hp => exact (Reps.one (show Kd.M (Kd.int .i64) _ _ _ 1 [.int .i64 1] from rfl) (Reps.one (show Kd.M (Kd.int .i64) _ _ _ 2 [.int .i64 2] from rfl) (Reps.one (show Kd.M (Kd.int .i64) _ _ _ 3 [.int .i64 3] from rfl) (Reps.one (show Kd.M (Kd.int .i64) _ _ _ 4 [.int .i64 4] from rfl) (Reps.none _ _)))))); intro v331 w108 ho109 hb hg_ hnew_; clear hg_ hnew_; (first | rw [← Ny330.out] at ho109 | (simp only [Int.reduceToNat] at ho109; rw [← Ny330.out] at ho109)); have HO332 := am_ (Kd.a2d (Kd.a1a ho109 (Kd.R_lt (qr_ HO_8))) (a0x qb_)); replace HO_8 := qel_ HO_8 ho109 hb; replace BK253 := qkb_ BK253 hb; replace HB := qbs_ hb; clear hb ho109; obtain ⟨Ao110, co110, eo110⟩ := Kd.a1p HO_8.out; subst eo110; obtain ⟨Ao111, co111, eo111⟩ := Kd.a1p HO332.out; subst eo111) | (go_at_call 17; (with_reducible refine (a0v.calls kj10 _ _ t314 _ _ y330 true _ ?s1 ?s2 ?s3 ?s4 A79.out).mono ?_); (case s1 => exact qv_ (Kd.a0q HO_8.out).2.2); (case s2 => exact (Kd.a0q HO_8.out).2.1); (case s3 => exact qv_ (Kd.a0q HO332.out).2.2); (case s4 => exact (Kd.a0q HO332.out).2.1); rintro e w' ⟨rfl, ⟨nd, rfl⟩⟩))
       go_ret
       exact ⟨qx_, qb_⟩
     ·replace c80 := be_ c80
      subst c80
      have H1 : (some false) = some r := by rw [if_neg (show ¬ (false = true) by decide)] at H; exact H
      clear H
      have H := H1
      clear H1
      obtain rfl := si_ H
      go_wp2_with (first | ((with_reducible refine a0f (N := 88) rfl ?_); (try (refine a3n (by rfl) ?_; dsimp only)); refine Kd.a5l (Kd.int .i64) _ 3 ?hg (N := 88) ?hd (xs := ([1, 2, 3, 4] : List Int)) (inner := [.int .i64 1, .int .i64 2, .int .i64 3, .int .i64 4]) (ok := fun _ => True) (okp := fun _ => True) ?hr ?hp (fun _ hk => hk) trivial (Below.refl _ _) (Nat.le_refl _) (by simp) ?_; (case hd => rfl); (case hg => rfl); (case hr => exact qq_); (case hp => exact (Reps.one (show Kd.M (Kd.int .i64) _ _ _ 1 [.int .i64 1] from rfl) (Reps.one (show Kd.M (Kd.int .i64) _ _ _ 2 [.int .i64 2] from rfl) (Reps.one (show Kd.M (Kd.int .i64) _ _ _ 3 [.int .i64 3] from rfl) (Reps.one (show Kd.M (Kd.int .i64) _ _ _ 4 [.int .i64 4] from rfl) (Reps.none _ _)))))); intro v331 w112 ho113 hb hg_ hnew_; clear hg_ hnew_; (first | rw [← Ny330.out] at ho113 | (simp only [Int.reduceToNat] at ho113; rw [← Ny330.out] at ho113)); have HO332 := am_ (Kd.a2d (Kd.a1a ho113 (Kd.R_lt (qr_ HO_8))) (a0x qb_)); replace HO_8 := qel_ HO_8 ho113 hb; replace BK253 := qkb_ BK253 hb; replace HB := qbs_ hb; clear hb ho113; obtain ⟨Ao114, co114, eo114⟩ := Kd.a1p HO_8.out; subst eo114; obtain ⟨Ao115, co115, eo115⟩ := Kd.a1p HO332.out; subst eo115) | (go_at_call 17; (with_reducible refine (a0v.calls kj10 _ _ t314 _ _ y330 false _ ?s1 ?s2 ?s3 ?s4 A79.out).mono ?_); (case s1 => exact qv_ (Kd.a0q HO_8.out).2.2); (case s2 => exact (Kd.a0q HO_8.out).2.1); (case s3 => exact qv_ (Kd.a0q HO332.out).2.2); (case s4 => exact (Kd.a0q HO332.out).2.1); rintro e w' ⟨rfl, ⟨nd, rfl⟩⟩))
      go_ret
      exact ⟨qx_, qb_⟩
    ·rw [if_neg c78] at H
     have c78b0 : (t317 == 0) = false := beq_eq_false_iff_ne.mpr c78
     have c78b1 : (t317 != 0) = true := bne_iff_ne.mpr c78
     obtain rfl := si_ H
     go_wp2
     go_ret
     exact ⟨qx_, qb_⟩
   ·replace c77 := be_ c77
    subst c77
    have H1 : (some false) = some r := by rw [if_neg (show ¬ (false = true) by decide)] at H; exact H
    clear H
    have H := H1
    clear H1
    obtain rfl := si_ H
    go_wp2
    go_ret
    exact ⟨qx_, qb_⟩
end Go.Proofs.Ytemnlgefngjliaa.Px
