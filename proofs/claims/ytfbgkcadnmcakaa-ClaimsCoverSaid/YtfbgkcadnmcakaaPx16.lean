/- Contracts of Go functions, printed. Conditions: as each theorem states. -/
import Derived.Test.YtfbgkcadnmcakaaPx0
import Derived.Test.YtfbgkcadnmcakaaPx2
import Derived.Test.YtfbgkcadnmcakaaPx11
import Derived.Test.YtfbgkcadnmcakaaPx12
import Derived.Test.YtfbgkcadnmcakaaPx14
import Derived.Test.YtfbgkcadnmcakaaPx15
namespace Go.Proofs.Ytfbgkcadnmcakaa.Px
open Go.Proofs.Ytfbgkcadnmcakaa.Given
open Go.RowKit Go.Proofs.YtfbgkcadnmcakaaW.PrintWords Go.Proofs.YtfbgkcadnmcakaaW.PrintLast Go.Proofs.YtfbgkcadnmcakaaW.PrintMore
attribute [local go_sem] a2w a2u a3d a3c a2q a2r a2x a2y
set_option linter.unusedVariables false
set_option linter.unusedSimpArgs false
def a0e.j0 : Nat → List (S30) → List (S30) → Bool → Option (Bool)
 | 0, _, _, _ => none
 | k + 1, x1, x6, x84 => if x84 = true then (some false) else (if 0 < (x1.length : Int) then ((some (x1.set (0 : Int).toNat (⟨(a0a x1 0).f0, (a0a x1 0).f1, (a0a x1 0).f2, 200, (⟨(a0a x1 0).f4.f0, (a0a x1 0).f4.f1⟩ : S28)⟩ : S30) : List (S30))).bind fun y291 => (if 1 < (x1.length : Int) then ((a0t.f k x6 (([(⟨(a0a y291 1).f0, (a0a y291 1).f1, (a0a y291 1).f2, (a0a y291 1).f3, (⟨(a0a y291 1).f4.f0, (a0a y291 1).f4.f1⟩ : S28)⟩ : S30), (⟨(a0a y291 0).f0, (a0a y291 0).f1, (a0a y291 0).f2, (a0a y291 0).f3, (⟨(a0a y291 0).f4.f0, (a0a y291 0).f4.f1⟩ : S28)⟩ : S30)] : List (S30)))).bind fun t297 => (some t297)) else (none))) else (none))
def a0e.f (k : Nat)  : Option (Bool) := (a3r.f).bind fun t247 => (if 0 < (t247.length : Int) then ((a1h.f k ((a0a t247 0).f0) ((a0a t247 0).f1) ((a0a t247 0).f2) ((a0a t247 0).f3) ((a0a t247 0).f4.f0) ((a0a t247 0).f4.f1) (([(⟨5, 1, 3, 18⟩ : S26), (⟨5, 1, 2, 15⟩ : S26)] : List (S26))) 20).bind fun bt254 => ((a0k.f k t247 ([] : List (S26)) 1 (([9] : List Int)) 60).bind fun bt259 => ((a0g.f k t247 (([5, 7] : List Int)) 500).bind fun bt266 => ((a0g.f k t247 (([5, 6] : List Int)) 500).bind fun bt274 => ((a0g.f k t247 (([5, 5] : List Int)) 500).bind fun bt282 => (if bt254.2 = 0 then (if bt259.2 = 0 then (if bt266.2.2 = 0 then (if bt274.2.2 = 4 then (if bt282.2.2 = 5 then (if bt254.1 = 2 then (if bt266.2.1 = 0 then ((a0x.f k bt259.1 (([5] : List Int))).bind fun t290 => (a0e.j0 k t247 bt266.1 (!t290))) else (a0e.j0 k t247 bt266.1 true)) else (a0e.j0 k t247 bt266.1 true)) else (a0e.j0 k t247 bt266.1 true)) else (a0e.j0 k t247 bt266.1 true)) else (a0e.j0 k t247 bt266.1 true)) else (a0e.j0 k t247 bt266.1 true)) else (a0e.j0 k t247 bt266.1 true))))))) else (none))
theorem a0e.a1k : ∀ k, (∀ y0 y1 y2, LeO (a0e.j0 k y0 y1 y2) (a0e.j0 (k + 1) y0 y1 y2))
 | 0 => fun _ _ _ r h => by simp [a0e.j0] at h
 | k + 1 => by
  have ih0 := a0e.a1k k
  ·intro y0 y1 y2
   unfold a0e.j0
   with_reducible (repeat' first | apply ih0 | apply a0g.mono | apply a1h.mono | apply a0k.mono | apply a0x.mono | apply a0t.mono | apply LeO.refl | apply LeO.none | apply LeO.ite | refine LeO.bind ?_ (fun _ => ?_))
theorem a0e.mono : ∀ k, LeO (a0e.f k ) (a0e.f (k + 1) ) := by
 intro  k
 have ih0 := a0e.a1k k
 unfold a0e.f
 with_reducible (repeat' first | apply ih0 | apply a0g.mono | apply a1h.mono | apply a0k.mono | apply a0x.mono | apply a0t.mono | apply LeO.refl | apply LeO.none | apply LeO.ite | refine LeO.bind ?_ (fun _ => ?_))
def a0e.T10 : Bool × List (List Nat × List Nat) := (true, [([], []), ([], []), ([1], [1]), ([2], [2]), ([], []), ([4], [4]), ([5], [5]), ([3, 6], [3, 6]), ([0, 7], [0, 7]), ([8, 8, 0, 1, 2, 3, 4, 5, 6, 7, 8], [8])])
def a0e.B10 : List Nat := [0, 0, 2, 6, 0, 16, 48, 126, 255, 511]
theorem a0e.b5s : rtab .any (opsOf Try.f8 10) = a0e.T10 := by kernel_rfl
theorem a0e.b4z : a3w a0e.T10.2 a0e.B10 = true := by kernel_rfl
set_option maxHeartbeats 8000000 in
set_option maxRecDepth 100000 in
theorem a0e.calls (k : Nat)  (r : Bool) (w : World) (h : a0e.f k  = some r) :
  Calls Try.prog 8 #[] w fun e w' => e = .returned (.bool r) ∧ Below w.heap.size w w' := by
 have hu30 := Try.underlying30
 have hu26 := Try.underlying26
 have HB := am_ (Below.refl w.heap.size w)
 have H : ((a3r.f).bind fun t247 => (if 0 < (t247.length : Int) then ((a1h.f k ((a0a t247 0).f0) ((a0a t247 0).f1) ((a0a t247 0).f2) ((a0a t247 0).f3) ((a0a t247 0).f4.f0) ((a0a t247 0).f4.f1) (([(⟨5, 1, 3, 18⟩ : S26), (⟨5, 1, 2, 15⟩ : S26)] : List (S26))) 20).bind fun bt254 => ((a0k.f k t247 ([] : List (S26)) 1 (([9] : List Int)) 60).bind fun bt259 => ((a0g.f k t247 (([5, 7] : List Int)) 500).bind fun bt266 => ((a0g.f k t247 (([5, 6] : List Int)) 500).bind fun bt274 => ((a0g.f k t247 (([5, 5] : List Int)) 500).bind fun bt282 => (if bt254.2 = 0 then (if bt259.2 = 0 then (if bt266.2.2 = 0 then (if bt274.2.2 = 4 then (if bt282.2.2 = 5 then (if bt254.1 = 2 then (if bt266.2.1 = 0 then ((a0x.f k bt259.1 (([5] : List Int))).bind fun t290 => (a0e.j0 k t247 bt266.1 (!t290))) else (a0e.j0 k t247 bt266.1 true)) else (a0e.j0 k t247 bt266.1 true)) else (a0e.j0 k t247 bt266.1 true)) else (a0e.j0 k t247 bt266.1 true)) else (a0e.j0 k t247 bt266.1 true)) else (a0e.j0 k t247 bt266.1 true)) else (a0e.j0 k t247 bt266.1 true))))))) else (none))) = some r := h
 clear h
 replace H := bm_ H
 obtain ⟨t247, A10, H⟩ := H
 replace H : (if 0 < (t247.length : Int) then ((a1h.f k ((a0a t247 0).f0) ((a0a t247 0).f1) ((a0a t247 0).f2) ((a0a t247 0).f3) ((a0a t247 0).f4.f0) ((a0a t247 0).f4.f1) (([(⟨5, 1, 3, 18⟩ : S26), (⟨5, 1, 2, 15⟩ : S26)] : List (S26))) 20).bind fun bt254 => ((a0k.f k t247 ([] : List (S26)) 1 (([9] : List Int)) 60).bind fun bt259 => ((a0g.f k t247 (([5, 7] : List Int)) 500).bind fun bt266 => ((a0g.f k t247 (([5, 6] : List Int)) 500).bind fun bt274 => ((a0g.f k t247 (([5, 5] : List Int)) 500).bind fun bt282 => (if bt254.2 = 0 then (if bt259.2 = 0 then (if bt266.2.2 = 0 then (if bt274.2.2 = 4 then (if bt282.2.2 = 5 then (if bt254.1 = 2 then (if bt266.2.1 = 0 then ((a0x.f k bt259.1 (([5] : List Int))).bind fun t290 => (a0e.j0 k t247 bt266.1 (!t290))) else (a0e.j0 k t247 bt266.1 true)) else (a0e.j0 k t247 bt266.1 true)) else (a0e.j0 k t247 bt266.1 true)) else (a0e.j0 k t247 bt266.1 true)) else (a0e.j0 k t247 bt266.1 true)) else (a0e.j0 k t247 bt266.1 true)) else (a0e.j0 k t247 bt266.1 true))))))) else (none)) = some r := H
 have A1 := am_ A10
 clear A10
 by_cases c2 : 0 < (t247.length : Int)
 ·rw [if_pos c2] at H
  have c2b0 : decide (0 < (t247.length : Int)) = true := decide_eq_true c2
  have c2b1 : decide (0 < t247.length) = true := decide_eq_true (by omega)
  clear c2
  obtain ⟨y251, hy251⟩ : ∃ y_ : List (S26), y_ = (([(⟨5, 1, 3, 18⟩ : S26), (⟨5, 1, 2, 15⟩ : S26)] : List (S26))) := ⟨_, rfl⟩
  replace H : ((a1h.f k ((a0a t247 0).f0) ((a0a t247 0).f1) ((a0a t247 0).f2) ((a0a t247 0).f3) ((a0a t247 0).f4.f0) ((a0a t247 0).f4.f1) y251 20).bind fun bt254 => ((a0k.f k t247 ([] : List (S26)) 1 (([9] : List Int)) 60).bind fun bt259 => ((a0g.f k t247 (([5, 7] : List Int)) 500).bind fun bt266 => ((a0g.f k t247 (([5, 6] : List Int)) 500).bind fun bt274 => ((a0g.f k t247 (([5, 5] : List Int)) 500).bind fun bt282 => (if bt254.2 = 0 then (if bt259.2 = 0 then (if bt266.2.2 = 0 then (if bt274.2.2 = 4 then (if bt282.2.2 = 5 then (if bt254.1 = 2 then (if bt266.2.1 = 0 then ((a0x.f k bt259.1 (([5] : List Int))).bind fun t290 => (a0e.j0 k t247 bt266.1 (!t290))) else (a0e.j0 k t247 bt266.1 true)) else (a0e.j0 k t247 bt266.1 true)) else (a0e.j0 k t247 bt266.1 true)) else (a0e.j0 k t247 bt266.1 true)) else (a0e.j0 k t247 bt266.1 true)) else (a0e.j0 k t247 bt266.1 true)) else (a0e.j0 k t247 bt266.1 true))))))) = some r := by first | (rw [hy251]; with_reducible exact H) | (have H2_ := (Option.bind_some _ _).symm.trans H; rw [hy251]; with_reducible exact H2_) | (have H2_ := (Option.bind_some _ _).symm.trans H; with_reducible exact H2_) | with_reducible exact H | (rw [hy251]; exact H) | exact H
  have Ny251 := am_ hy251
  clear hy251
  replace H := bm_ H
  obtain ⟨⟨t254, t255⟩, A30, H⟩ := H
  replace H : ((a0k.f k t247 ([] : List (S26)) 1 (([9] : List Int)) 60).bind fun bt259 => ((a0g.f k t247 (([5, 7] : List Int)) 500).bind fun bt266 => ((a0g.f k t247 (([5, 6] : List Int)) 500).bind fun bt274 => ((a0g.f k t247 (([5, 5] : List Int)) 500).bind fun bt282 => (if t255 = 0 then (if bt259.2 = 0 then (if bt266.2.2 = 0 then (if bt274.2.2 = 4 then (if bt282.2.2 = 5 then (if t254 = 2 then (if bt266.2.1 = 0 then ((a0x.f k bt259.1 (([5] : List Int))).bind fun t290 => (a0e.j0 k t247 bt266.1 (!t290))) else (a0e.j0 k t247 bt266.1 true)) else (a0e.j0 k t247 bt266.1 true)) else (a0e.j0 k t247 bt266.1 true)) else (a0e.j0 k t247 bt266.1 true)) else (a0e.j0 k t247 bt266.1 true)) else (a0e.j0 k t247 bt266.1 true)) else (a0e.j0 k t247 bt266.1 true)))))) = some r := H
  have A3 := am_ A30
  clear A30
  obtain ⟨y256, hy256⟩ : ∃ y_ : List Int, y_ = (([9] : List Int)) := ⟨_, rfl⟩
  replace H : ((a0k.f k t247 ([] : List (S26)) 1 y256 60).bind fun bt259 => ((a0g.f k t247 (([5, 7] : List Int)) 500).bind fun bt266 => ((a0g.f k t247 (([5, 6] : List Int)) 500).bind fun bt274 => ((a0g.f k t247 (([5, 5] : List Int)) 500).bind fun bt282 => (if t255 = 0 then (if bt259.2 = 0 then (if bt266.2.2 = 0 then (if bt274.2.2 = 4 then (if bt282.2.2 = 5 then (if t254 = 2 then (if bt266.2.1 = 0 then ((a0x.f k bt259.1 (([5] : List Int))).bind fun t290 => (a0e.j0 k t247 bt266.1 (!t290))) else (a0e.j0 k t247 bt266.1 true)) else (a0e.j0 k t247 bt266.1 true)) else (a0e.j0 k t247 bt266.1 true)) else (a0e.j0 k t247 bt266.1 true)) else (a0e.j0 k t247 bt266.1 true)) else (a0e.j0 k t247 bt266.1 true)) else (a0e.j0 k t247 bt266.1 true)))))) = some r := by first | (rw [hy256]; with_reducible exact H) | (have H2_ := (Option.bind_some _ _).symm.trans H; rw [hy256]; with_reducible exact H2_) | (have H2_ := (Option.bind_some _ _).symm.trans H; with_reducible exact H2_) | with_reducible exact H | (rw [hy256]; exact H) | exact H
  have Ny256 := am_ hy256
  clear hy256
  replace H := bm_ H
  obtain ⟨⟨t259, t260⟩, A40, H⟩ := H
  replace H : ((a0g.f k t247 (([5, 7] : List Int)) 500).bind fun bt266 => ((a0g.f k t247 (([5, 6] : List Int)) 500).bind fun bt274 => ((a0g.f k t247 (([5, 5] : List Int)) 500).bind fun bt282 => (if t255 = 0 then (if t260 = 0 then (if bt266.2.2 = 0 then (if bt274.2.2 = 4 then (if bt282.2.2 = 5 then (if t254 = 2 then (if bt266.2.1 = 0 then ((a0x.f k t259 (([5] : List Int))).bind fun t290 => (a0e.j0 k t247 bt266.1 (!t290))) else (a0e.j0 k t247 bt266.1 true)) else (a0e.j0 k t247 bt266.1 true)) else (a0e.j0 k t247 bt266.1 true)) else (a0e.j0 k t247 bt266.1 true)) else (a0e.j0 k t247 bt266.1 true)) else (a0e.j0 k t247 bt266.1 true)) else (a0e.j0 k t247 bt266.1 true))))) = some r := H
  have A4 := am_ A40
  clear A40
  obtain ⟨y263, hy263⟩ : ∃ y_ : List Int, y_ = (([5, 7] : List Int)) := ⟨_, rfl⟩
  replace H : ((a0g.f k t247 y263 500).bind fun bt266 => ((a0g.f k t247 (([5, 6] : List Int)) 500).bind fun bt274 => ((a0g.f k t247 (([5, 5] : List Int)) 500).bind fun bt282 => (if t255 = 0 then (if t260 = 0 then (if bt266.2.2 = 0 then (if bt274.2.2 = 4 then (if bt282.2.2 = 5 then (if t254 = 2 then (if bt266.2.1 = 0 then ((a0x.f k t259 (([5] : List Int))).bind fun t290 => (a0e.j0 k t247 bt266.1 (!t290))) else (a0e.j0 k t247 bt266.1 true)) else (a0e.j0 k t247 bt266.1 true)) else (a0e.j0 k t247 bt266.1 true)) else (a0e.j0 k t247 bt266.1 true)) else (a0e.j0 k t247 bt266.1 true)) else (a0e.j0 k t247 bt266.1 true)) else (a0e.j0 k t247 bt266.1 true))))) = some r := by first | (rw [hy263]; with_reducible exact H) | (have H2_ := (Option.bind_some _ _).symm.trans H; rw [hy263]; with_reducible exact H2_) | (have H2_ := (Option.bind_some _ _).symm.trans H; with_reducible exact H2_) | with_reducible exact H | (rw [hy263]; exact H) | exact H
  have Ny263 := am_ hy263
  clear hy263
  replace H := bm_ H
  obtain ⟨⟨t266, t267, t268⟩, A50, H⟩ := H
  replace H : ((a0g.f k t247 (([5, 6] : List Int)) 500).bind fun bt274 => ((a0g.f k t247 (([5, 5] : List Int)) 500).bind fun bt282 => (if t255 = 0 then (if t260 = 0 then (if t268 = 0 then (if bt274.2.2 = 4 then (if bt282.2.2 = 5 then (if t254 = 2 then (if t267 = 0 then ((a0x.f k t259 (([5] : List Int))).bind fun t290 => (a0e.j0 k t247 t266 (!t290))) else (a0e.j0 k t247 t266 true)) else (a0e.j0 k t247 t266 true)) else (a0e.j0 k t247 t266 true)) else (a0e.j0 k t247 t266 true)) else (a0e.j0 k t247 t266 true)) else (a0e.j0 k t247 t266 true)) else (a0e.j0 k t247 t266 true)))) = some r := H
  have A5 := am_ A50
  clear A50
  obtain ⟨y271, hy271⟩ : ∃ y_ : List Int, y_ = (([5, 6] : List Int)) := ⟨_, rfl⟩
  replace H : ((a0g.f k t247 y271 500).bind fun bt274 => ((a0g.f k t247 (([5, 5] : List Int)) 500).bind fun bt282 => (if t255 = 0 then (if t260 = 0 then (if t268 = 0 then (if bt274.2.2 = 4 then (if bt282.2.2 = 5 then (if t254 = 2 then (if t267 = 0 then ((a0x.f k t259 (([5] : List Int))).bind fun t290 => (a0e.j0 k t247 t266 (!t290))) else (a0e.j0 k t247 t266 true)) else (a0e.j0 k t247 t266 true)) else (a0e.j0 k t247 t266 true)) else (a0e.j0 k t247 t266 true)) else (a0e.j0 k t247 t266 true)) else (a0e.j0 k t247 t266 true)) else (a0e.j0 k t247 t266 true)))) = some r := by first | (rw [hy271]; with_reducible exact H) | (have H2_ := (Option.bind_some _ _).symm.trans H; rw [hy271]; with_reducible exact H2_) | (have H2_ := (Option.bind_some _ _).symm.trans H; with_reducible exact H2_) | with_reducible exact H | (rw [hy271]; exact H) | exact H
  have Ny271 := am_ hy271
  clear hy271
  replace H := bm_ H
  obtain ⟨⟨t274, t275, t276⟩, A60, H⟩ := H
  replace H : ((a0g.f k t247 (([5, 5] : List Int)) 500).bind fun bt282 => (if t255 = 0 then (if t260 = 0 then (if t268 = 0 then (if t276 = 4 then (if bt282.2.2 = 5 then (if t254 = 2 then (if t267 = 0 then ((a0x.f k t259 (([5] : List Int))).bind fun t290 => (a0e.j0 k t247 t266 (!t290))) else (a0e.j0 k t247 t266 true)) else (a0e.j0 k t247 t266 true)) else (a0e.j0 k t247 t266 true)) else (a0e.j0 k t247 t266 true)) else (a0e.j0 k t247 t266 true)) else (a0e.j0 k t247 t266 true)) else (a0e.j0 k t247 t266 true))) = some r := H
  have A6 := am_ A60
  clear A60
  obtain ⟨y279, hy279⟩ : ∃ y_ : List Int, y_ = (([5, 5] : List Int)) := ⟨_, rfl⟩
  replace H : ((a0g.f k t247 y279 500).bind fun bt282 => (if t255 = 0 then (if t260 = 0 then (if t268 = 0 then (if t276 = 4 then (if bt282.2.2 = 5 then (if t254 = 2 then (if t267 = 0 then ((a0x.f k t259 (([5] : List Int))).bind fun t290 => (a0e.j0 k t247 t266 (!t290))) else (a0e.j0 k t247 t266 true)) else (a0e.j0 k t247 t266 true)) else (a0e.j0 k t247 t266 true)) else (a0e.j0 k t247 t266 true)) else (a0e.j0 k t247 t266 true)) else (a0e.j0 k t247 t266 true)) else (a0e.j0 k t247 t266 true))) = some r := by first | (rw [hy279]; with_reducible exact H) | (have H2_ := (Option.bind_some _ _).symm.trans H; rw [hy279]; with_reducible exact H2_) | (have H2_ := (Option.bind_some _ _).symm.trans H; with_reducible exact H2_) | with_reducible exact H | (rw [hy279]; exact H) | exact H
  have Ny279 := am_ hy279
  clear hy279
  replace H := bm_ H
  obtain ⟨⟨t282, t283, t284⟩, A70, H⟩ := H
  replace H : (if t255 = 0 then (if t260 = 0 then (if t268 = 0 then (if t276 = 4 then (if t284 = 5 then (if t254 = 2 then (if t267 = 0 then ((a0x.f k t259 (([5] : List Int))).bind fun t290 => (a0e.j0 k t247 t266 (!t290))) else (a0e.j0 k t247 t266 true)) else (a0e.j0 k t247 t266 true)) else (a0e.j0 k t247 t266 true)) else (a0e.j0 k t247 t266 true)) else (a0e.j0 k t247 t266 true)) else (a0e.j0 k t247 t266 true)) else (a0e.j0 k t247 t266 true)) = some r := H
  have A7 := am_ A70
  clear A70
  have HC8 := am_ H
  clear H
  go_enter Try.func8, Try.ntmps8
  go_upto_region 7 with (first | ((with_reducible refine a1c (f := 21) rfl ?_); refine a1y (some 15) rfl rfl Try.func21 (by kernel_rfl) rfl #[] rfl ql_ ?_; (with_reducible refine (a3r.calls  t247 _ A1.out).mono ?_); rintro e w9 ⟨v248, rfl, ho0, hb⟩; refine ⟨_, rfl, ?_⟩; have HO249 := am_ (Kd.a2k ho0 (a1s qb_)); replace HB := qbs_ hb; (try clear hb); (try clear hb2); (try clear hk); (try clear hi); (try clear ho0); obtain ⟨Ao10, co10, eo10⟩ := Kd.a1v HO249.out; subst eo10; have p250 : 0 ≤ (0 : Int) := (by omega); have q250 : 0 < (t247.length : Int) := ot_; obtain ⟨ad250, e250, hx250_0, hx250_1, hx250_2, hx250_3, hx250_4, hx250_5⟩ := a3q (Kd.a0p HO249.out).2.2 0 p250 q250; cases e250; have qi250 : (0 < t247.length) = True := eq_true (by omega); (try rw [show ((0 : Int)).toNat = 0 from rfl] at hx250_0); (try rw [show 0 * 6 = 0 from rfl] at hx250_0); (try rw [Addr.add_zero'] at hx250_0); (try rw [show ((0 : Int)).toNat = 0 from rfl] at hx250_1); (try rw [show 0 * 6 = 0 from rfl] at hx250_1); (try rw [Addr.add_zero'] at hx250_1); (try rw [show ((0 : Int)).toNat = 0 from rfl] at hx250_2); (try rw [show 0 * 6 = 0 from rfl] at hx250_2); (try rw [Addr.add_zero'] at hx250_2); (try rw [show ((0 : Int)).toNat = 0 from rfl] at hx250_3); (try rw [show 0 * 6 = 0 from rfl] at hx250_3); (try rw [Addr.add_zero'] at hx250_3); (try rw [show ((0 : Int)).toNat = 0 from rfl] at hx250_4); (try rw [show 0 * 6 = 0 from rfl] at hx250_4); (try rw [Addr.add_zero'] at hx250_4); (try rw [show ((0 : Int)).toNat = 0 from rfl] at hx250_5); (try rw [show 0 * 6 = 0 from rfl] at hx250_5); (try rw [Addr.add_zero'] at hx250_5); replace p250 := eq_true p250; replace q250 := eq_true q250) | ((with_reducible refine a1g (N := 22) rfl ?_); (try (refine a2a (by rfl) ?_; dsimp only)); refine Kd.a4m k26 _ 26 ?hg (N := 22) ?hd (xs := ([(⟨5, 1, 3, 18⟩ : S26), (⟨5, 1, 2, 15⟩ : S26)] : List (S26))) (inner := [.int .i64 5, .int .i64 1, .int .i64 3, .int .i64 18, .int .i64 5, .int .i64 1, .int .i64 2, .int .i64 15]) (ok := fun _ => True) (okp := fun _ => True) ?hr ?hp (fun _ hk => hk) trivial (Below.refl _ _) (Nat.le_refl _) (by simp) ?_; (case hd => rfl); (case hg => rfl); (case hr => exact qq_); (case hp => exact (Reps.c4 (show Kd.M k26 _ _ _ (⟨5, 1, 3, 18⟩ : S26) [.int .i64 5, .int .i64 1, .int .i64 3, .int .i64 18] from (a4w _ _ _ (⟨5, 1, 3, 18⟩ : S26) )) (Reps.c4 (show Kd.M k26 _ _ _ (⟨5, 1, 2, 15⟩ : S26) [.int .i64 5, .int .i64 1, .int .i64 2, .int .i64 15] from (a4w _ _ _ (⟨5, 1, 2, 15⟩ : S26) )) (Reps.none _ _)))); intro v252 w11 ho12 hb hg_ hnew_; clear hg_ hnew_; (first | rw [← Ny251.out] at ho12 | (simp only [Int.reduceToNat] at ho12; rw [← Ny251.out] at ho12)); replace HO249 := qrb_ HO249 hb; have HO253 := am_ (Kd.a2k ho12 (a1s qb_)); replace HB := qbs_ hb; clear hb ho12; obtain ⟨Ao13, co13, eo13⟩ := Kd.a1v HO253.out; subst eo13) | ((with_reducible refine a1c (f := 9) rfl ?_); refine a1y (some 23) rfl rfl Try.func9 (by kernel_rfl) rfl #[.agg #[.int .i64 ((a0a t247 0).f0), .int .i64 ((a0a t247 0).f1), .int .i64 ((a0a t247 0).f2), .int .i64 ((a0a t247 0).f3), .int .i64 ((a0a t247 0).f4.f0), .int .i64 ((a0a t247 0).f4.f1)], .slice Ao13 y251.length co13, .int .i64 20] rfl ql_ ?_; (with_reducible refine (a1h.calls k ((a0a t247 0).f0) ((a0a t247 0).f1) ((a0a t247 0).f2) ((a0a t247 0).f3) ((a0a t247 0).f4.f0) ((a0a t247 0).f4.f1) _ _ y251 20 t254 t255 _ ?s1 ?s2 A3.out).mono ?_); (case s1 => exact qv_ (Kd.a0p HO253.out).2.2); (case s2 => exact (Kd.a0p HO253.out).2.1); rintro e w14 ⟨rfl, hb⟩; refine ⟨_, rfl, ?_⟩; replace HO249 := qrb_ HO249 hb; replace HO253 := qrb_ HO253 hb; replace HB := qbs_ hb; (try clear hb); (try clear hb2); (try clear hk); (try clear hi)) | ((with_reducible refine a1g (N := 28) rfl ?_); (try (refine a2a (by rfl) ?_; dsimp only)); refine Kd.a4m (Kd.int .i64) _ 3 ?hg (N := 28) ?hd (xs := ([9] : List Int)) (inner := [.int .i64 9]) (ok := fun _ => True) (okp := fun _ => True) ?hr ?hp (fun _ hk => hk) trivial (Below.refl _ _) (Nat.le_refl _) (by simp) ?_; (case hd => rfl); (case hg => rfl); (case hr => exact qq_); (case hp => exact (Reps.one (show Kd.M (Kd.int .i64) _ _ _ 9 [.int .i64 9] from rfl) (Reps.none _ _))); intro v257 w15 ho16 hb hg_ hnew_; clear hg_ hnew_; (first | rw [← Ny256.out] at ho16 | (simp only [Int.reduceToNat] at ho16; rw [← Ny256.out] at ho16)); replace HO249 := qrb_ HO249 hb; replace HO253 := qrb_ HO253 hb; have HO258 := am_ (Kd.a2k ho16 (a1s qb_)); replace HB := qbs_ hb; clear hb ho16; obtain ⟨Ao17, co17, eo17⟩ := Kd.a1v HO258.out; subst eo17) | ((with_reducible refine a1c (f := 11) rfl ?_); refine a1y (some 29) rfl rfl Try.func11 (by kernel_rfl) rfl #[.slice (some ad250) t247.length co10, .slice none 0 0, .int .i64 1, .slice Ao17 y256.length co17, .int .i64 60] rfl ql_ ?_; (refine (a0k.calls k _ _ t247 _ _ ([] : List (S26)) 1 _ _ y256 60 t259 t260 _ ?s1 ?s2 ?s3 ?s4 ?s5 ?s6 A4.out).mono ?_); (case s1 => exact qv_ (Kd.a0p HO249.out).2.2); (case s2 => exact (Kd.a0p HO249.out).2.1); (case s3 => exact Kd.a9s _ _); (case s4 => exact Nat.le_refl _); (case s5 => exact qv_ (Kd.a0p HO258.out).2.2); (case s6 => exact (Kd.a0p HO258.out).2.1); rintro e w18 ⟨v261, rfl, ho0, hb⟩; refine ⟨_, rfl, ?_⟩; replace HO249 := qrb_ HO249 hb; replace HO253 := qrb_ HO253 hb; have HO262 := am_ (Kd.a2k (Kd.a3e ho0 (Kd.R_lt (qr_ HO258))) (a1s qb_)); replace HO258 := qel_ HO258 ho0 hb; replace HB := qbs_ hb; (try clear hb); (try clear hb2); (try clear hk); (try clear hi); (try clear ho0)) | ((with_reducible refine a1g (N := 34) rfl ?_); (try (refine a2a (by rfl) ?_; dsimp only)); refine Kd.a4m (Kd.int .i64) _ 3 ?hg (N := 34) ?hd (xs := ([5, 7] : List Int)) (inner := [.int .i64 5, .int .i64 7]) (ok := fun _ => True) (okp := fun _ => True) ?hr ?hp (fun _ hk => hk) trivial (Below.refl _ _) (Nat.le_refl _) (by simp) ?_; (case hd => rfl); (case hg => rfl); (case hr => exact qq_); (case hp => exact (Reps.one (show Kd.M (Kd.int .i64) _ _ _ 5 [.int .i64 5] from rfl) (Reps.one (show Kd.M (Kd.int .i64) _ _ _ 7 [.int .i64 7] from rfl) (Reps.none _ _)))); intro v264 w19 ho20 hb hg_ hnew_; clear hg_ hnew_; (first | rw [← Ny263.out] at ho20 | (simp only [Int.reduceToNat] at ho20; rw [← Ny263.out] at ho20)); replace HO249 := qrb_ HO249 hb; replace HO253 := qrb_ HO253 hb; have HO265 := am_ (Kd.a2k (Kd.a3e (Kd.a3e ho20 (Kd.R_lt (qr_ HO258))) (Kd.R_lt (qr_ HO262))) (a1s qb_)); replace HO258 := qel_ HO258 ho20 hb; replace HO262 := qel_ HO262 ho20 hb; replace HB := qbs_ hb; clear hb ho20; obtain ⟨Ao21, co21, eo21⟩ := Kd.a1v HO265.out; subst eo21) | ((with_reducible refine a1c (f := 12) rfl ?_); refine a1y (some 35) rfl rfl Try.func12 (by kernel_rfl) rfl #[.slice (some ad250) t247.length co10, .slice Ao21 y263.length co21, .int .i64 500] rfl ql_ ?_; (with_reducible refine (a0g.calls k _ _ t247 _ _ y263 500 t266 t267 t268 _ ?s1 ?s2 ?s3 ?s4 A5.out).mono ?_); (case s1 => exact qv_ (Kd.a0p HO249.out).2.2); (case s2 => exact (Kd.a0p HO249.out).2.1); (case s3 => exact qv_ (Kd.a0p HO265.out).2.2); (case s4 => exact (Kd.a0p HO265.out).2.1); rintro e w22 ⟨v269, rfl, ho0, hb⟩; refine ⟨_, rfl, ?_⟩; replace HO253 := qrb_ HO253 hb; replace HO258 := qrb_ HO258 hb; replace HO262 := qrb_ HO262 hb; replace HO265 := qrb_ HO265 hb; have HO270 := am_ (Kd.a2k (Kd.a3e ho0 (Kd.R_lt (qr_ HO249))) (a1s qb_)); replace HO249 := qel_ HO249 ho0 hb; replace HB := qbs_ hb; (try clear hb); (try clear hb2); (try clear hk); (try clear hi); (try clear ho0)) | ((with_reducible refine a1g (N := 41) rfl ?_); (try (refine a2a (by rfl) ?_; dsimp only)); refine Kd.a4m (Kd.int .i64) _ 3 ?hg (N := 41) ?hd (xs := ([5, 6] : List Int)) (inner := [.int .i64 5, .int .i64 6]) (ok := fun _ => True) (okp := fun _ => True) ?hr ?hp (fun _ hk => hk) trivial (Below.refl _ _) (Nat.le_refl _) (by simp) ?_; (case hd => rfl); (case hg => rfl); (case hr => exact qq_); (case hp => exact (Reps.one (show Kd.M (Kd.int .i64) _ _ _ 5 [.int .i64 5] from rfl) (Reps.one (show Kd.M (Kd.int .i64) _ _ _ 6 [.int .i64 6] from rfl) (Reps.none _ _)))); intro v272 w23 ho24 hb hg_ hnew_; clear hg_ hnew_; (first | rw [← Ny271.out] at ho24 | (simp only [Int.reduceToNat] at ho24; rw [← Ny271.out] at ho24)); replace HO249 := qrb_ HO249 hb; replace HO253 := qrb_ HO253 hb; replace HO270 := qrb_ HO270 hb; have HO273 := am_ (Kd.a2k (Kd.a3e (Kd.a3e (Kd.a3e ho24 (Kd.R_lt (qr_ HO258))) (Kd.R_lt (qr_ HO262))) (Kd.R_lt (qr_ HO265))) (a1s qb_)); replace HO258 := qel_ HO258 ho24 hb; replace HO262 := qel_ HO262 ho24 hb; replace HO265 := qel_ HO265 ho24 hb; replace HB := qbs_ hb; clear hb ho24; obtain ⟨Ao25, co25, eo25⟩ := Kd.a1v HO273.out; subst eo25) | ((with_reducible refine a1c (f := 12) rfl ?_); refine a1y (some 42) rfl rfl Try.func12 (by kernel_rfl) rfl #[.slice (some ad250) t247.length co10, .slice Ao25 y271.length co25, .int .i64 500] rfl ql_ ?_; (with_reducible refine (a0g.calls k _ _ t247 _ _ y271 500 t274 t275 t276 _ ?s1 ?s2 ?s3 ?s4 A6.out).mono ?_); (case s1 => exact qv_ (Kd.a0p HO249.out).2.2); (case s2 => exact (Kd.a0p HO249.out).2.1); (case s3 => exact qv_ (Kd.a0p HO273.out).2.2); (case s4 => exact (Kd.a0p HO273.out).2.1); rintro e w26 ⟨v277, rfl, ho0, hb⟩; refine ⟨_, rfl, ?_⟩; replace HO253 := qrb_ HO253 hb; replace HO258 := qrb_ HO258 hb; replace HO262 := qrb_ HO262 hb; replace HO265 := qrb_ HO265 hb; replace HO273 := qrb_ HO273 hb; have HO278 := am_ (Kd.a2k (Kd.a3e (Kd.a3e ho0 (Kd.R_lt (qr_ HO249))) (Kd.R_lt (qr_ HO270))) (a1s qb_)); replace HO249 := qel_ HO249 ho0 hb; replace HO270 := qel_ HO270 ho0 hb; replace HB := qbs_ hb; (try clear hb); (try clear hb2); (try clear hk); (try clear hi); (try clear ho0)) | ((with_reducible refine a1g (N := 48) rfl ?_); (try (refine a2a (by rfl) ?_; dsimp only)); refine Kd.a4m (Kd.int .i64) _ 3 ?hg (N := 48) ?hd (xs := ([5, 5] : List Int)) (inner := [.int .i64 5, .int .i64 5]) (ok := fun _ => True) (okp := fun _ => True) ?hr ?hp (fun _ hk => hk) trivial (Below.refl _ _) (Nat.le_refl _) (by simp) ?_; (case hd => rfl); (case hg => rfl); (case hr => exact qq_); (case hp => exact (Reps.one (show Kd.M (Kd.int .i64) _ _ _ 5 [.int .i64 5] from rfl) (Reps.one (show Kd.M (Kd.int .i64) _ _ _ 5 [.int .i64 5] from rfl) (Reps.none _ _)))); intro v280 w27 ho28 hb hg_ hnew_; clear hg_ hnew_; (first | rw [← Ny279.out] at ho28 | (simp only [Int.reduceToNat] at ho28; rw [← Ny279.out] at ho28)); replace HO249 := qrb_ HO249 hb; replace HO253 := qrb_ HO253 hb; replace HO270 := qrb_ HO270 hb; replace HO278 := qrb_ HO278 hb; have HO281 := am_ (Kd.a2k (Kd.a3e (Kd.a3e (Kd.a3e (Kd.a3e ho28 (Kd.R_lt (qr_ HO258))) (Kd.R_lt (qr_ HO262))) (Kd.R_lt (qr_ HO265))) (Kd.R_lt (qr_ HO273))) (a1s qb_)); replace HO258 := qel_ HO258 ho28 hb; replace HO262 := qel_ HO262 ho28 hb; replace HO265 := qel_ HO265 ho28 hb; replace HO273 := qel_ HO273 ho28 hb; replace HB := qbs_ hb; clear hb ho28; obtain ⟨Ao29, co29, eo29⟩ := Kd.a1v HO281.out; subst eo29) | ((with_reducible refine a1c (f := 12) rfl ?_); refine a1y (some 49) rfl rfl Try.func12 (by kernel_rfl) rfl #[.slice (some ad250) t247.length co10, .slice Ao29 y279.length co29, .int .i64 500] rfl ql_ ?_; (with_reducible refine (a0g.calls k _ _ t247 _ _ y279 500 t282 t283 t284 _ ?s1 ?s2 ?s3 ?s4 A7.out).mono ?_); (case s1 => exact qv_ (Kd.a0p HO249.out).2.2); (case s2 => exact (Kd.a0p HO249.out).2.1); (case s3 => exact qv_ (Kd.a0p HO281.out).2.2); (case s4 => exact (Kd.a0p HO281.out).2.1); rintro e w30 ⟨v285, rfl, ho0, hb⟩; refine ⟨_, rfl, ?_⟩; replace HO253 := qrb_ HO253 hb; replace HO258 := qrb_ HO258 hb; replace HO262 := qrb_ HO262 hb; replace HO265 := qrb_ HO265 hb; replace HO273 := qrb_ HO273 hb; replace HO281 := qrb_ HO281 hb; have HO286 := am_ (Kd.a2k (Kd.a3e (Kd.a3e (Kd.a3e ho0 (Kd.R_lt (qr_ HO249))) (Kd.R_lt (qr_ HO270))) (Kd.R_lt (qr_ HO278))) (a1s qb_)); replace HO249 := qel_ HO249 ho0 hb; replace HO270 := qel_ HO270 ho0 hb; replace HO278 := qel_ HO278 ho0 hb; replace HB := qbs_ hb; (try clear hb); (try clear hb2); (try clear hk); (try clear hi); (try clear ho0)))
  (try simp only [Act.put, List.setIfInBounds_toArray, List.set_cons_zero, List.set_cons_succ])
  go_cut [84] (fun v84 wc => ∃ (kq : Nat) (x84_7 : Bool), v84 = .bool x84_7 ∧ Aside0 (a0e.j0 kq t247 t266 x84_7 = some r) ∧ Aside0 (kq ≤ k) ∧ Aside0 (Kd.R k30 30 wc w.heap.size (fun k_ => some k_ ≠ (v269 : Value).ownBlock) (.slice (some ad250) t247.length co10) t247) ∧ Aside0 (Kd.R k30 30 wc w.heap.size (fun k_ => some k_ ≠ ((.slice (some ad250) t247.length co10) : Value).ownBlock) v269 t266) ∧ Aside0 (Below w.heap.size w wc))
  case first =>
   have H := HC8.out
   clear HC8
   by_cases c31 : t255 = 0
   ·rw [if_pos c31] at H
    have c31b0 : (t255 == 0) = true := beq_iff_eq.mpr c31
    have c31b1 : (t255 != 0) = false := bne_eq_false_iff_eq.mpr c31
    clear c31
    (first | rw [c31b0] | (simp only [a3k, a4i]; rw [c31b0]) | skip)
    by_cases c32 : t260 = 0
    ·rw [if_pos c32] at H
     have c32b0 : (t260 == 0) = true := beq_iff_eq.mpr c32
     have c32b1 : (t260 != 0) = false := bne_eq_false_iff_eq.mpr c32
     clear c32
     by_cases c33 : t268 = 0
     ·rw [if_pos c33] at H
      have c33b0 : (t268 == 0) = true := beq_iff_eq.mpr c33
      have c33b1 : (t268 != 0) = false := bne_eq_false_iff_eq.mpr c33
      clear c33
      by_cases c34 : t276 = 4
      ·rw [if_pos c34] at H
       have c34b0 : (t276 == 4) = true := beq_iff_eq.mpr c34
       have c34b1 : (t276 != 4) = false := bne_eq_false_iff_eq.mpr c34
       clear c34
       by_cases c35 : t284 = 5
       ·rw [if_pos c35] at H
        have c35b0 : (t284 == 5) = true := beq_iff_eq.mpr c35
        have c35b1 : (t284 != 5) = false := bne_eq_false_iff_eq.mpr c35
        clear c35
        by_cases c36 : t254 = 2
        ·rw [if_pos c36] at H
         have c36b0 : (t254 == 2) = true := beq_iff_eq.mpr c36
         have c36b1 : (t254 != 2) = false := bne_eq_false_iff_eq.mpr c36
         clear c36
         by_cases c37 : t267 = 0
         ·rw [if_pos c37] at H
          have c37b0 : (t267 == 0) = true := beq_iff_eq.mpr c37
          have c37b1 : (t267 != 0) = false := bne_eq_false_iff_eq.mpr c37
          clear c37
          obtain ⟨y287, hy287⟩ : ∃ y_ : List Int, y_ = (([5] : List Int)) := ⟨_, rfl⟩
          replace H : ((a0x.f k t259 y287).bind fun t290 => (a0e.j0 k t247 t266 (!t290))) = some r := by first | (rw [hy287]; with_reducible exact H) | (have H2_ := (Option.bind_some _ _).symm.trans H; rw [hy287]; with_reducible exact H2_) | (have H2_ := (Option.bind_some _ _).symm.trans H; with_reducible exact H2_) | with_reducible exact H | (rw [hy287]; exact H) | exact H
          have Ny287 := am_ hy287
          clear hy287
          replace H := bm_ H
          obtain ⟨t290, A380, H⟩ := H
          replace H : (a0e.j0 k t247 t266 (!t290)) = some r := H
          have A38 := am_ A380
          clear A380
          have H' := am_ H
          clear H
          go_wp2_with (first | ((with_reducible refine a1g (N := 81) rfl ?_); (try (refine a2a (by rfl) ?_; dsimp only)); refine Kd.a4m (Kd.int .i64) _ 3 ?hg (N := 81) ?hd (xs := ([5] : List Int)) (inner := [.int .i64 5]) (ok := fun _ => True) (okp := fun _ => True) ?hr ?hp (fun _ hk => hk) trivial (Below.refl _ _) (Nat.le_refl _) (by simp) ?_; (case hd => rfl); (case hg => rfl); (case hr => exact qq_); (case hp => exact (Reps.one (show Kd.M (Kd.int .i64) _ _ _ 5 [.int .i64 5] from rfl) (Reps.none _ _))); intro v288 w39 ho40 hb hg_ hnew_; clear hg_ hnew_; (first | rw [← Ny287.out] at ho40 | (simp only [Int.reduceToNat] at ho40; rw [← Ny287.out] at ho40)); replace HO249 := qrb_ HO249 hb; replace HO253 := qrb_ HO253 hb; replace HO270 := qrb_ HO270 hb; replace HO278 := qrb_ HO278 hb; replace HO286 := qrb_ HO286 hb; have HO289 := am_ (Kd.a2k (Kd.a3e (Kd.a3e (Kd.a3e (Kd.a3e (Kd.a3e ho40 (Kd.R_lt (qr_ HO258))) (Kd.R_lt (qr_ HO262))) (Kd.R_lt (qr_ HO265))) (Kd.R_lt (qr_ HO273))) (Kd.R_lt (qr_ HO281))) (a1s qb_)); replace HO258 := qel_ HO258 ho40 hb; replace HO262 := qel_ HO262 ho40 hb; replace HO265 := qel_ HO265 ho40 hb; replace HO273 := qel_ HO273 ho40 hb; replace HO281 := qel_ HO281 ho40 hb; replace HB := qbs_ hb; clear hb ho40; obtain ⟨Ao41, co41, eo41⟩ := Kd.a1v HO262.out; subst eo41; obtain ⟨Ao42, co42, eo42⟩ := Kd.a1v HO289.out; subst eo42) | (go_at_call 19; (with_reducible refine (a0x.calls k _ _ t259 _ _ y287 t290 _ ?s1 ?s2 ?s3 ?s4 A38.out).mono ?_); (case s1 => exact qv_ (Kd.a0p HO262.out).2.2); (case s2 => exact (Kd.a0p HO262.out).2.1); (case s3 => exact qv_ (Kd.a0p HO289.out).2.2); (case s4 => exact (Kd.a0p HO289.out).2.1); rintro e w' ⟨rfl, ⟨nd, rfl⟩⟩))
          go_meet
          case rel => exact ⟨_, (!t290), qs_, H', ⟨qo_⟩, ⟨by (with_reducible repeat (first | apply Kd.a0n | apply Kd.a0o | apply Kd.a0m)); exact Kd.a0z HO249.out (fun _ hk => hk.1.1.2)⟩, ⟨by (with_reducible repeat (first | apply Kd.a0n | apply Kd.a0o | apply Kd.a0m)); exact Kd.a0z HO270.out (fun _ hk => hk.1.1.2)⟩, ⟨qb_⟩⟩
         ·rw [if_neg c37] at H
          have c37b0 : (t267 == 0) = false := beq_eq_false_iff_ne.mpr c37
          have c37b1 : (t267 != 0) = true := bne_iff_ne.mpr c37
          have H' := am_ H
          clear H
          go_wp2
          go_meet
          case rel => exact ⟨_, (true), qs_, H', ⟨qo_⟩, ⟨by (with_reducible repeat (first | apply Kd.a0n | apply Kd.a0o | apply Kd.a0m)); exact Kd.a0z HO249.out (fun _ hk => hk.1.1.2)⟩, ⟨by (with_reducible repeat (first | apply Kd.a0n | apply Kd.a0o | apply Kd.a0m)); exact Kd.a0z HO270.out (fun _ hk => hk.1.1.2)⟩, ⟨qb_⟩⟩
        ·rw [if_neg c36] at H
         have c36b0 : (t254 == 2) = false := beq_eq_false_iff_ne.mpr c36
         have c36b1 : (t254 != 2) = true := bne_iff_ne.mpr c36
         have H' := am_ H
         clear H
         go_wp2
         go_meet
         case rel => exact ⟨_, (true), qs_, H', ⟨qo_⟩, ⟨by (with_reducible repeat (first | apply Kd.a0n | apply Kd.a0o | apply Kd.a0m)); exact Kd.a0z HO249.out (fun _ hk => hk.1.1.2)⟩, ⟨by (with_reducible repeat (first | apply Kd.a0n | apply Kd.a0o | apply Kd.a0m)); exact Kd.a0z HO270.out (fun _ hk => hk.1.1.2)⟩, ⟨qb_⟩⟩
       ·rw [if_neg c35] at H
        have c35b0 : (t284 == 5) = false := beq_eq_false_iff_ne.mpr c35
        have c35b1 : (t284 != 5) = true := bne_iff_ne.mpr c35
        have H' := am_ H
        clear H
        go_wp2
        go_meet
        case rel => exact ⟨_, (true), qs_, H', ⟨qo_⟩, ⟨by (with_reducible repeat (first | apply Kd.a0n | apply Kd.a0o | apply Kd.a0m)); exact Kd.a0z HO249.out (fun _ hk => hk.1.1.2)⟩, ⟨by (with_reducible repeat (first | apply Kd.a0n | apply Kd.a0o | apply Kd.a0m)); exact Kd.a0z HO270.out (fun _ hk => hk.1.1.2)⟩, ⟨qb_⟩⟩
      ·rw [if_neg c34] at H
       have c34b0 : (t276 == 4) = false := beq_eq_false_iff_ne.mpr c34
       have c34b1 : (t276 != 4) = true := bne_iff_ne.mpr c34
       have H' := am_ H
       clear H
       go_wp2
       go_meet
       case rel => exact ⟨_, (true), qs_, H', ⟨qo_⟩, ⟨by (with_reducible repeat (first | apply Kd.a0n | apply Kd.a0o | apply Kd.a0m)); exact Kd.a0z HO249.out (fun _ hk => hk.1.1.2)⟩, ⟨by (with_reducible repeat (first | apply Kd.a0n | apply Kd.a0o | apply Kd.a0m)); exact Kd.a0z HO270.out (fun _ hk => hk.1.1.2)⟩, ⟨qb_⟩⟩
     ·rw [if_neg c33] at H
      have c33b0 : (t268 == 0) = false := beq_eq_false_iff_ne.mpr c33
      have c33b1 : (t268 != 0) = true := bne_iff_ne.mpr c33
      have H' := am_ H
      clear H
      go_wp2
      go_meet
      case rel => exact ⟨_, (true), qs_, H', ⟨qo_⟩, ⟨by (with_reducible repeat (first | apply Kd.a0n | apply Kd.a0o | apply Kd.a0m)); exact Kd.a0z HO249.out (fun _ hk => hk.1.1.2)⟩, ⟨by (with_reducible repeat (first | apply Kd.a0n | apply Kd.a0o | apply Kd.a0m)); exact Kd.a0z HO270.out (fun _ hk => hk.1.1.2)⟩, ⟨qb_⟩⟩
    ·rw [if_neg c32] at H
     have c32b0 : (t260 == 0) = false := beq_eq_false_iff_ne.mpr c32
     have c32b1 : (t260 != 0) = true := bne_iff_ne.mpr c32
     have H' := am_ H
     clear H
     go_wp2
     go_meet
     case rel => exact ⟨_, (true), qs_, H', ⟨qo_⟩, ⟨by (with_reducible repeat (first | apply Kd.a0n | apply Kd.a0o | apply Kd.a0m)); exact Kd.a0z HO249.out (fun _ hk => hk.1.1.2)⟩, ⟨by (with_reducible repeat (first | apply Kd.a0n | apply Kd.a0o | apply Kd.a0m)); exact Kd.a0z HO270.out (fun _ hk => hk.1.1.2)⟩, ⟨qb_⟩⟩
   ·rw [if_neg c31] at H
    have c31b0 : (t255 == 0) = false := beq_eq_false_iff_ne.mpr c31
    have c31b1 : (t255 != 0) = true := bne_iff_ne.mpr c31
    (first | rw [c31b0] | (simp only [a3k, a4i]; rw [c31b0]) | skip)
    have H' := am_ H
    clear H
    go_wp2
    go_meet
    case rel => exact ⟨_, (true), qs_, H', ⟨qo_⟩, ⟨by (with_reducible repeat (first | apply Kd.a0n | apply Kd.a0o | apply Kd.a0m)); exact Kd.a0z HO249.out (fun _ hk => hk.1.1.2)⟩, ⟨by (with_reducible repeat (first | apply Kd.a0n | apply Kd.a0o | apply Kd.a0m)); exact Kd.a0z HO270.out (fun _ hk => hk.1.1.2)⟩, ⟨qb_⟩⟩
  case rest =>
   clear HC8
   try clear c1
   try clear c2
   try clear c2b0
   try clear c2b1
   try clear p2
   try clear q2
   try clear hx2
   try clear qi2
   try clear c3
   try clear c4
   try clear c8
   try clear c9
   try clear c11
   try clear c12
   try clear c21
   try clear p25
   try clear q25
   try clear hx25
   try clear qi25
   try clear c31
   try clear c31b0
   try clear c31b1
   try clear c32
   try clear c32b0
   try clear c32b1
   try clear c33
   try clear c33b0
   try clear c33b1
   try clear c34
   try clear c34b0
   try clear c34b1
   try clear c35
   try clear c35b0
   try clear c35b1
   try clear c36
   try clear c36b0
   try clear c36b1
   try clear c37
   try clear c37b0
   try clear c37b1
   try clear hx250_0
   try clear hx250_1
   try clear hx250_2
   try clear hx250_3
   try clear hx250_4
   try clear hx250_5
   try clear p250
   try clear q250
   obtain ⟨kq, x84_7, rfl, HA, HJ7, HO_1, HO_6, HB⟩ := hcut
   cases kq with
   | zero => exact absurd HA.out (by simp [a0e.j0])
   | succ kj7 =>
    have H := HA.out
    clear HA
    simp only [a0e.j0] at H
    by_cases c43 : x84_7 = true
    ·subst c43
     have H1 : (some false) = some r := by rw [if_pos rfl] at H; exact H
     clear H
     have H := H1
     clear H1
     obtain rfl := si_ H
     go_wp2
     go_ret
     exact ⟨qx_, qb_⟩
    ·replace c43 := be_ c43
     subst c43
     have H1 : (if 0 < (t247.length : Int) then ((some (t247.set (0 : Int).toNat (⟨(a0a t247 0).f0, (a0a t247 0).f1, (a0a t247 0).f2, 200, (⟨(a0a t247 0).f4.f0, (a0a t247 0).f4.f1⟩ : S28)⟩ : S30) : List (S30))).bind fun y291 => (if 1 < (t247.length : Int) then ((a0t.f kj7 t266 (([(⟨(a0a y291 1).f0, (a0a y291 1).f1, (a0a y291 1).f2, (a0a y291 1).f3, (⟨(a0a y291 1).f4.f0, (a0a y291 1).f4.f1⟩ : S28)⟩ : S30), (⟨(a0a y291 0).f0, (a0a y291 0).f1, (a0a y291 0).f2, (a0a y291 0).f3, (⟨(a0a y291 0).f4.f0, (a0a y291 0).f4.f1⟩ : S28)⟩ : S30)] : List (S30)))).bind fun t297 => (some t297)) else (none))) else (none)) = some r := by rw [if_neg (show ¬ (false = true) by decide)] at H; exact H
     clear H
     have H := H1
     clear H1
     by_cases c44 : 0 < (t247.length : Int)
     ·rw [if_pos c44] at H
      have c44b0 : decide (0 < (t247.length : Int)) = true := decide_eq_true c44
      have c44b1 : decide (0 < t247.length) = true := decide_eq_true (by omega)
      clear c44
      obtain ⟨y291, hy291⟩ : ∃ y_ : List (S30), y_ = (t247.set (0 : Int).toNat (⟨(a0a t247 0).f0, (a0a t247 0).f1, (a0a t247 0).f2, 200, (⟨(a0a t247 0).f4.f0, (a0a t247 0).f4.f1⟩ : S28)⟩ : S30)) := ⟨_, rfl⟩
      replace H : (if 1 < (t247.length : Int) then ((a0t.f kj7 t266 (([(⟨(a0a y291 1).f0, (a0a y291 1).f1, (a0a y291 1).f2, (a0a y291 1).f3, (⟨(a0a y291 1).f4.f0, (a0a y291 1).f4.f1⟩ : S28)⟩ : S30), (⟨(a0a y291 0).f0, (a0a y291 0).f1, (a0a y291 0).f2, (a0a y291 0).f3, (⟨(a0a y291 0).f4.f0, (a0a y291 0).f4.f1⟩ : S28)⟩ : S30)] : List (S30)))).bind fun t297 => (some t297)) else (none)) = some r := by first | (rw [hy291]; with_reducible exact H) | (have H2_ := (Option.bind_some _ _).symm.trans H; rw [hy291]; with_reducible exact H2_) | (have H2_ := (Option.bind_some _ _).symm.trans H; with_reducible exact H2_) | with_reducible exact H | (rw [hy291]; exact H) | exact H
      have Ny291 := am_ hy291
      clear hy291
      by_cases c46 : 1 < (t247.length : Int)
      ·rw [if_pos c46] at H
       have c46b0 : decide (1 < (t247.length : Int)) = true := decide_eq_true c46
       have c46b1 : decide (1 < t247.length) = true := decide_eq_true (by omega)
       clear c46
       obtain ⟨y294, hy294⟩ : ∃ y_ : List (S30), y_ = (([(⟨(a0a y291 1).f0, (a0a y291 1).f1, (a0a y291 1).f2, (a0a y291 1).f3, (⟨(a0a y291 1).f4.f0, (a0a y291 1).f4.f1⟩ : S28)⟩ : S30), (⟨(a0a y291 0).f0, (a0a y291 0).f1, (a0a y291 0).f2, (a0a y291 0).f3, (⟨(a0a y291 0).f4.f0, (a0a y291 0).f4.f1⟩ : S28)⟩ : S30)] : List (S30))) := ⟨_, rfl⟩
       replace H : ((a0t.f kj7 t266 y294).bind fun t297 => (some t297)) = some r := by first | (rw [hy294]; with_reducible exact H) | (have H2_ := (Option.bind_some _ _).symm.trans H; rw [hy294]; with_reducible exact H2_) | (have H2_ := (Option.bind_some _ _).symm.trans H; with_reducible exact H2_) | with_reducible exact H | (rw [hy294]; exact H) | exact H
       have Ny294 := am_ hy294
       clear hy294
       replace H := bm_ H
       obtain ⟨t297, A470, H⟩ := H
       replace H : (some t297) = some r := H
       have A47 := am_ A470
       clear A470
       obtain rfl := si_ H
       have p45 : 0 ≤ (0 : Int) := (by omega)
       have q45 : (0 : Int) < ((t247.length : Int) : Int) := ot_
       have qi45 : (0 < t247.length) = True := eq_true (by omega)
       obtain ⟨go45, co45, eo45, gb45, gl45, cl45, HG45⟩ := Kd.a7j HO_1.out (by omega)
       (first | cases eo45 | (injection eo45 with ea_ en_ ec_; (first | subst ea_ | (injection ea_ with ea_; subst ea_)); subst ec_; clear en_))
       have GB45 := am_ gb45
       have GG45 := am_ HG45
       clear gb45 gl45 HG45
       (first | simp only [add_plain] at hx250_0 | skip)
       (first | simp only [add_plain] at hx250_1 | skip)
       (first | simp only [add_plain] at hx250_2 | skip)
       (first | simp only [add_plain] at hx250_3 | skip)
       (first | simp only [add_plain] at hx250_4 | skip)
       (first | simp only [add_plain] at hx250_5 | skip)
       obtain ⟨ce45, hcl45, hM45, hcc45, hfr45⟩ := Kd.a3x HO_1.out z30 (0 : Int) p45 q45
       obtain rfl := a7r hM45
       have hx45_0 : wc.cell? ⟨go45, (0 : Int).toNat * 6, none⟩ = some (.int .i64 ((a0a t247 0).f0)) := hcc45 0 _ rfl
       have hx45_1 : wc.cell? ⟨go45, (0 : Int).toNat * 6 + 1, none⟩ = some (.int .i64 ((a0a t247 0).f1)) := hcc45 1 _ rfl
       have hx45_2 : wc.cell? ⟨go45, (0 : Int).toNat * 6 + 2, none⟩ = some (.int .i64 ((a0a t247 0).f2)) := hcc45 2 _ rfl
       have hx45_3 : wc.cell? ⟨go45, (0 : Int).toNat * 6 + 3, none⟩ = some (.int .i64 ((a0a t247 0).f3)) := hcc45 3 _ rfl
       have hx45_4 : wc.cell? ⟨go45, (0 : Int).toNat * 6 + 4, none⟩ = some (.int .i64 ((a0a t247 0).f4.f0)) := hcc45 4 _ rfl
       have hx45_5 : wc.cell? ⟨go45, (0 : Int).toNat * 6 + 5, none⟩ = some (.int .i64 ((a0a t247 0).f4.f1)) := hcc45 5 _ rfl
       have hf45_0 : wc.frozen? ⟨go45, (0 : Int).toNat * 6, none⟩ = false := hfr45 0
       have hf45_1 : wc.frozen? ⟨go45, (0 : Int).toNat * 6 + 1, none⟩ = false := hfr45 1
       have hf45_2 : wc.frozen? ⟨go45, (0 : Int).toNat * 6 + 2, none⟩ = false := hfr45 2
       have hf45_3 : wc.frozen? ⟨go45, (0 : Int).toNat * 6 + 3, none⟩ = false := hfr45 3
       have hf45_4 : wc.frozen? ⟨go45, (0 : Int).toNat * 6 + 4, none⟩ = false := hfr45 4
       have hf45_5 : wc.frozen? ⟨go45, (0 : Int).toNat * 6 + 5, none⟩ = false := hfr45 5
       clear hcl45 hcc45 hfr45 hM45
       (try rw [show ((0 : Int)).toNat = 0 from rfl] at hx45_0)
       (try simp only [Nat.reduceMul, Nat.zero_mul, Nat.zero_add, Nat.reduceAdd] at hx45_0)
       (try rw [show ((0 : Int)).toNat = 0 from rfl] at hf45_0)
       (try simp only [Nat.reduceMul, Nat.zero_mul, Nat.zero_add, Nat.reduceAdd] at hf45_0)
       (try rw [show ((0 : Int)).toNat = 0 from rfl] at hx45_1)
       (try simp only [Nat.reduceMul, Nat.zero_mul, Nat.zero_add, Nat.reduceAdd] at hx45_1)
       (try rw [show ((0 : Int)).toNat = 0 from rfl] at hf45_1)
       (try simp only [Nat.reduceMul, Nat.zero_mul, Nat.zero_add, Nat.reduceAdd] at hf45_1)
       (try rw [show ((0 : Int)).toNat = 0 from rfl] at hx45_2)
       (try simp only [Nat.reduceMul, Nat.zero_mul, Nat.zero_add, Nat.reduceAdd] at hx45_2)
       (try rw [show ((0 : Int)).toNat = 0 from rfl] at hf45_2)
       (try simp only [Nat.reduceMul, Nat.zero_mul, Nat.zero_add, Nat.reduceAdd] at hf45_2)
       (try rw [show ((0 : Int)).toNat = 0 from rfl] at hx45_3)
       (try simp only [Nat.reduceMul, Nat.zero_mul, Nat.zero_add, Nat.reduceAdd] at hx45_3)
       (try rw [show ((0 : Int)).toNat = 0 from rfl] at hf45_3)
       (try simp only [Nat.reduceMul, Nat.zero_mul, Nat.zero_add, Nat.reduceAdd] at hf45_3)
       (try rw [show ((0 : Int)).toNat = 0 from rfl] at hx45_4)
       (try simp only [Nat.reduceMul, Nat.zero_mul, Nat.zero_add, Nat.reduceAdd] at hx45_4)
       (try rw [show ((0 : Int)).toNat = 0 from rfl] at hf45_4)
       (try simp only [Nat.reduceMul, Nat.zero_mul, Nat.zero_add, Nat.reduceAdd] at hf45_4)
       (try rw [show ((0 : Int)).toNat = 0 from rfl] at hx45_5)
       (try simp only [Nat.reduceMul, Nat.zero_mul, Nat.zero_add, Nat.reduceAdd] at hx45_5)
       (try rw [show ((0 : Int)).toNat = 0 from rfl] at hf45_5)
       (try simp only [Nat.reduceMul, Nat.zero_mul, Nat.zero_add, Nat.reduceAdd] at hf45_5)
       replace p45 := eq_true p45
       replace q45 := eq_true q45
       have HX48 := am_ (show Kd.R k30 30 wc w.heap.size (fun k_ => some k_ ≠ (v269 : Value).ownBlock) (.slice (some ⟨go45, 0, none⟩) t247.length co10) t247 from (qr_ HO_1))
       obtain ⟨ce48, hcl48, hM48, hcc48, hfr48⟩ := Kd.a3x HX48.out z30 (0 : Int) (by omega) (by have h_ : (0 : Int) < ((t247.length : Int) : Int) := ot_; first | exact h_ | (have e_ := (Kd.a0p HO_1.out).1; omega) | simpa using h_)
       obtain rfl := a7r hM48
       have HP48 := Kd.a5y HX48.out (0 : Int) (by omega) (by have h_ : (0 : Int) < ((t247.length : Int) : Int) := ot_; first | exact h_ | (have e_ := (Kd.a0p HO_1.out).1; omega) | simpa using h_) (seg := [.int .i64 200]) (j := 3) hcl48 hcc48 (show 4 ≤ 6 from by decide) (x' := (⟨(a0a t247 0).f0, (a0a t247 0).f1, (a0a t247 0).f2, 200, (⟨(a0a t247 0).f4.f0, (a0a t247 0).f4.f1⟩ : S28)⟩ : S30)) (a5e _ _ _ (⟨(a0a t247 0).f0, (a0a t247 0).f1, (a0a t247 0).f2, 200, (⟨(a0a t247 0).f4.f0, (a0a t247 0).f4.f1⟩ : S28)⟩ : S30) ) (fun _ hk => hk)
       have hx48_3 := hcc48 3 _ rfl
       (try simp only [show (k30).sz = 6 from rfl, Nat.mul_one, Nat.add_zero] at hx48_3)
       (try rw [show ((0 : Int)).toNat = 0 from rfl] at hx48_3)
       (try simp only [Nat.reduceMul, Nat.zero_mul, Nat.zero_add, Nat.reduceAdd] at hx48_3)
       have hf48_3 := hfr48 3
       (try simp only [show (k30).sz = 6 from rfl, Nat.mul_one, Nat.add_zero] at hf48_3)
       (try rw [show ((0 : Int)).toNat = 0 from rfl] at hf48_3)
       (try simp only [Nat.reduceMul, Nat.zero_mul, Nat.zero_add, Nat.reduceAdd] at hf48_3)
       clear hcl48 hcc48 hfr48 hM48
       try go_wp2_with (first | ((with_reducible refine a4g (t := 3) (p := 87) rfl ?_); refine a4a (t := 3) (p := 87) (v := ?vo_w49) (w1 := (wc.setCell ⟨go45, 3, none⟩ (.int .i64 200))) ?hg ?ho ?hn ?hr ?_; (case ho => rfl); (case hg => rfl); (case hn => rfl); (case hr => exact qq_); intro w49 hw; have hg : wc.grownBy w49 (some go45) := (by rw [hw]; exact HP48.2); have hp_ : Kd.R k30 30 w49 w.heap.size (fun k_ => some k_ ≠ (v269 : Value).ownBlock) (.slice (some ⟨go45, 0, none⟩) t247.length co10) y291 := (by rw [hw, Ny291.out]; exact HP48.1); clear HP48; replace HO_1 := am_ (hp_); replace HO_6 := am_ (Kd.b0v (v := (.slice (some ⟨go45, 0, none⟩) t247.length co10)) (v1 := (.slice (some ⟨go45, 0, none⟩) t247.length co10)) (ok := (fun _ => True)) (by (with_reducible repeat (first | apply Kd.a0n | apply Kd.a0o | apply Kd.a0m)); exact Kd.a0z HO_6.out (fun _ hk => ⟨trivial, hk⟩)) hg (.inl rfl)); replace HB := am_ ((by rw [hw]; exact ls_ (HB.out) GB45.out : Below w.heap.size w w49)); clear hg hw hp_))
       replace HO_1 := am_ (Kd.a0m HO_1.out)
       replace HO_6 := am_ (Kd.a0m HO_6.out)
       replace HB := am_ (ld_ HB.out)
       have p292 : 0 ≤ (1 : Int) := (by omega)
       have q292 : 1 < (y291.length : Int) := (by have h_ : (1 : Int) < ((t247.length : Int) : Int) := ot_; first | (have e_ := (Kd.a0p HO_1.out).1; omega) | simpa only [Ny291.out, List.length_set] using h_)
       have ql292 : ((1 : Int) < ((t247.length : Int) : Int)) = True := eq_true (ot_)
       (try have qn292 : (1 < t247.length) = True := eq_true (by have h_ : (1 : Int) < ((t247.length : Int) : Int) := ot_; omega))
       obtain ⟨ad292, e292, hx292_0, hx292_1, hx292_2, hx292_3, hx292_4, hx292_5⟩ := a3q (Kd.a0p HO_1.out).2.2 1 p292 q292
       obtain rfl : (⟨go45, 0, none⟩ : Addr) = ad292 := (by injection e292)
       (first | simp only [add_plain] at hx292_0 | simp only [a4n] at hx292_0 | simp only [Addr.add, Nat.zero_add] at hx292_0 | skip)
       (first | simp only [add_plain] at hx292_1 | simp only [a4n] at hx292_1 | simp only [Addr.add, Nat.zero_add] at hx292_1 | skip)
       (first | simp only [add_plain] at hx292_2 | simp only [a4n] at hx292_2 | simp only [Addr.add, Nat.zero_add] at hx292_2 | skip)
       (first | simp only [add_plain] at hx292_3 | simp only [a4n] at hx292_3 | simp only [Addr.add, Nat.zero_add] at hx292_3 | skip)
       (first | simp only [add_plain] at hx292_4 | simp only [a4n] at hx292_4 | simp only [Addr.add, Nat.zero_add] at hx292_4 | skip)
       (first | simp only [add_plain] at hx292_5 | simp only [a4n] at hx292_5 | simp only [Addr.add, Nat.zero_add] at hx292_5 | skip)
       have qi292 : (1 < y291.length) = True := eq_true (by omega)
       (try rw [show ((1 : Int)).toNat = 1 from rfl] at hx292_0)
       (try rw [show 1 * 6 = 6 from rfl] at hx292_0)
       (try rw [show ((1 : Int)).toNat = 1 from rfl] at hx292_1)
       (try rw [show 1 * 6 = 6 from rfl] at hx292_1)
       (try rw [show ((1 : Int)).toNat = 1 from rfl] at hx292_2)
       (try rw [show 1 * 6 = 6 from rfl] at hx292_2)
       (try rw [show ((1 : Int)).toNat = 1 from rfl] at hx292_3)
       (try rw [show 1 * 6 = 6 from rfl] at hx292_3)
       (try rw [show ((1 : Int)).toNat = 1 from rfl] at hx292_4)
       (try rw [show 1 * 6 = 6 from rfl] at hx292_4)
       (try rw [show ((1 : Int)).toNat = 1 from rfl] at hx292_5)
       (try rw [show 1 * 6 = 6 from rfl] at hx292_5)
       replace p292 := eq_true p292
       replace q292 := eq_true q292
       have p293 : 0 ≤ (0 : Int) := (by omega)
       have q293 : 0 < (y291.length : Int) := (by have h_ : (0 : Int) < ((t247.length : Int) : Int) := ot_; first | (have e_ := (Kd.a0p HO_1.out).1; omega) | simpa only [Ny291.out, List.length_set] using h_)
       have ql293 : ((0 : Int) < ((t247.length : Int) : Int)) = True := eq_true (ot_)
       (try have qn293 : (0 < t247.length) = True := eq_true (by have h_ : (0 : Int) < ((t247.length : Int) : Int) := ot_; omega))
       obtain ⟨ad293, e293, hx293_0, hx293_1, hx293_2, hx293_3, hx293_4, hx293_5⟩ := a3q (Kd.a0p HO_1.out).2.2 0 p293 q293
       obtain rfl : (⟨go45, 0, none⟩ : Addr) = ad293 := (by injection e293)
       (first | simp only [add_plain] at hx293_0 | simp only [a4n] at hx293_0 | simp only [Addr.add, Nat.zero_add] at hx293_0 | skip)
       (first | simp only [add_plain] at hx293_1 | simp only [a4n] at hx293_1 | simp only [Addr.add, Nat.zero_add] at hx293_1 | skip)
       (first | simp only [add_plain] at hx293_2 | simp only [a4n] at hx293_2 | simp only [Addr.add, Nat.zero_add] at hx293_2 | skip)
       (first | simp only [add_plain] at hx293_3 | simp only [a4n] at hx293_3 | simp only [Addr.add, Nat.zero_add] at hx293_3 | skip)
       (first | simp only [add_plain] at hx293_4 | simp only [a4n] at hx293_4 | simp only [Addr.add, Nat.zero_add] at hx293_4 | skip)
       (first | simp only [add_plain] at hx293_5 | simp only [a4n] at hx293_5 | simp only [Addr.add, Nat.zero_add] at hx293_5 | skip)
       have qi293 : (0 < y291.length) = True := eq_true (by omega)
       (try rw [show ((0 : Int)).toNat = 0 from rfl] at hx293_0)
       (try rw [show 0 * 6 = 0 from rfl] at hx293_0)
       (try rw [Addr.add_zero'] at hx293_0)
       (try rw [show ((0 : Int)).toNat = 0 from rfl] at hx293_1)
       (try rw [show 0 * 6 = 0 from rfl] at hx293_1)
       (try rw [Addr.add_zero'] at hx293_1)
       (try rw [show ((0 : Int)).toNat = 0 from rfl] at hx293_2)
       (try rw [show 0 * 6 = 0 from rfl] at hx293_2)
       (try rw [Addr.add_zero'] at hx293_2)
       (try rw [show ((0 : Int)).toNat = 0 from rfl] at hx293_3)
       (try rw [show 0 * 6 = 0 from rfl] at hx293_3)
       (try rw [Addr.add_zero'] at hx293_3)
       (try rw [show ((0 : Int)).toNat = 0 from rfl] at hx293_4)
       (try rw [show 0 * 6 = 0 from rfl] at hx293_4)
       (try rw [Addr.add_zero'] at hx293_4)
       (try rw [show ((0 : Int)).toNat = 0 from rfl] at hx293_5)
       (try rw [show 0 * 6 = 0 from rfl] at hx293_5)
       (try rw [Addr.add_zero'] at hx293_5)
       replace p293 := eq_true p293
       replace q293 := eq_true q293
       refine a3g (n := 10) (S := fun w' => w'.cell? ⟨go45, 6, none⟩ = some (.int .i64 ((a0a y291 1).f0)) ∧ w'.cell? ⟨go45, 7, none⟩ = some (.int .i64 ((a0a y291 1).f1)) ∧ w'.cell? ⟨go45, 8, none⟩ = some (.int .i64 ((a0a y291 1).f2)) ∧ w'.cell? ⟨go45, 9, none⟩ = some (.int .i64 ((a0a y291 1).f3)) ∧ w'.cell? ⟨go45, 10, none⟩ = some (.int .i64 ((a0a y291 1).f4.f0)) ∧ w'.cell? ⟨go45, 11, none⟩ = some (.int .i64 ((a0a y291 1).f4.f1)) ∧ w'.cell? ⟨go45, 0, none⟩ = some (.int .i64 ((a0a y291 0).f0)) ∧ w'.cell? ⟨go45, 1, none⟩ = some (.int .i64 ((a0a y291 0).f1)) ∧ w'.cell? ⟨go45, 2, none⟩ = some (.int .i64 ((a0a y291 0).f2)) ∧ w'.cell? ⟨go45, 3, none⟩ = some (.int .i64 ((a0a y291 0).f3)) ∧ w'.cell? ⟨go45, 4, none⟩ = some (.int .i64 ((a0a y291 0).f4.f0)) ∧ w'.cell? ⟨go45, 5, none⟩ = some (.int .i64 ((a0a y291 0).f4.f1))) (ds := []) #[i_,i_,i_,i_,i_,i_,i_,i_,i_,i_] (by kernel_rfl) rfl rfl ⟨hx292_0, hx292_1, hx292_2, hx292_3, hx292_4, hx292_5, hx293_0, hx293_1, hx293_2, hx293_3, hx293_4, hx293_5⟩ (fun hHeld => ?_); refine a2l a0e.b5s a0e.b4z (fun HT_ HW_ => ?_)
       generalize w49.drew = w50 at HO_1 HO_6 HB hx292_0 hx292_1 hx292_2 hx292_3 hx292_4 hx292_5 hx293_0 hx293_1 hx293_2 hx293_3 hx293_4 hx293_5 hHeld ⊢
       refine qpu_ 0 (some 88) #[o_,i_,i_,i_,i_,i_,i_,i_,i_,i_] ?_
       refine qpu_ 1 (some 89) #[o_,o_,i_,i_,i_,i_,i_,i_,i_,i_] ?_
       refine qpu_ 2 (some 90) #[o_,o_,o_,i_,i_,i_,i_,i_,i_,i_] ?_
       refine qpu_ 4 (some 92) #[o_,o_,o_,i_,o_,i_,i_,i_,i_,i_] ?_
       refine qpu_ 5 (some 93) #[o_,o_,o_,i_,o_,o_,i_,i_,i_,i_] ?_
       refine a2g (i := 3) (N := some 91) (v := ?_) (a' := ?_) #[o_,o_,o_,o_,o_,o_,i_,i_,i_,i_] rfl rfl (a1r HT_.out HW_.out (by kernel_rfl)) (fun _ _ _ h => h) (Or.inl ⟨by rfl, ?_⟩) hHeld ?_ ?_
       rotate_left
       ·rintro w' ⟨s0, s1, s2, s3, s4, s5, s6, s7, s8, s9, s10, s11⟩
        go_simp
        with_reducible rfl
       rotate_left
       ·exact qp_
       refine a2g (i := 6) (N := some 94) (v := ?_) (a' := ?_) #[o_,o_,o_,o_,o_,o_,o_,i_,i_,i_] rfl rfl (a1r HT_.out HW_.out (by kernel_rfl)) (fun _ _ _ h => h) (Or.inl ⟨by rfl, ?_⟩) hHeld ?_ ?_
       rotate_left
       ·rintro w' ⟨s0, s1, s2, s3, s4, s5, s6, s7, s8, s9, s10, s11⟩
        go_simp
        with_reducible rfl
       rotate_left
       ·exact qp_
       refine one_ (i := 7) (N := some 95) #[o_,o_,o_,o_,o_,o_,o_,o_,i_,i_] rfl rfl (a3h HT_.out (by kernel_rfl)) (by decide) (fun K hK => ?_)
       refine Kd.b1o k30 _ 30 ?hg (N := 95) ?hd (xs := ([(⟨(a0a y291 1).f0, (a0a y291 1).f1, (a0a y291 1).f2, (a0a y291 1).f3, (⟨(a0a y291 1).f4.f0, (a0a y291 1).f4.f1⟩ : S28)⟩ : S30), (⟨(a0a y291 0).f0, (a0a y291 0).f1, (a0a y291 0).f2, (a0a y291 0).f3, (⟨(a0a y291 0).f4.f0, (a0a y291 0).f4.f1⟩ : S28)⟩ : S30)] : List (S30))) (inner := [.int .i64 ((a0a y291 1).f0), .int .i64 ((a0a y291 1).f1), .int .i64 ((a0a y291 1).f2), .int .i64 ((a0a y291 1).f3), .int .i64 ((a0a y291 1).f4.f0), .int .i64 ((a0a y291 1).f4.f1), .int .i64 ((a0a y291 0).f0), .int .i64 ((a0a y291 0).f1), .int .i64 ((a0a y291 0).f2), .int .i64 ((a0a y291 0).f3), .int .i64 ((a0a y291 0).f4.f0), .int .i64 ((a0a y291 0).f4.f1)]) (ok := fun _ => True) (okp := fun _ => True) ?hr ?hp (fun _ hk => hk) trivial (Below.refl _ _) (Nat.le_refl _) (by simp) ?_; (case hd => rfl); (case hg => rfl); (case hr => exact qq_); (case hp => exact (Reps.c6 (show Kd.M k30 _ _ _ (⟨(a0a y291 1).f0, (a0a y291 1).f1, (a0a y291 1).f2, (a0a y291 1).f3, (⟨(a0a y291 1).f4.f0, (a0a y291 1).f4.f1⟩ : S28)⟩ : S30) [.int .i64 ((a0a y291 1).f0), .int .i64 ((a0a y291 1).f1), .int .i64 ((a0a y291 1).f2), .int .i64 ((a0a y291 1).f3), .int .i64 ((a0a y291 1).f4.f0), .int .i64 ((a0a y291 1).f4.f1)] from (a5e _ _ _ (⟨(a0a y291 1).f0, (a0a y291 1).f1, (a0a y291 1).f2, (a0a y291 1).f3, (⟨(a0a y291 1).f4.f0, (a0a y291 1).f4.f1⟩ : S28)⟩ : S30) )) (Reps.c6 (show Kd.M k30 _ _ _ (⟨(a0a y291 0).f0, (a0a y291 0).f1, (a0a y291 0).f2, (a0a y291 0).f3, (⟨(a0a y291 0).f4.f0, (a0a y291 0).f4.f1⟩ : S28)⟩ : S30) [.int .i64 ((a0a y291 0).f0), .int .i64 ((a0a y291 0).f1), .int .i64 ((a0a y291 0).f2), .int .i64 ((a0a y291 0).f3), .int .i64 ((a0a y291 0).f4.f0), .int .i64 ((a0a y291 0).f4.f1)] from (a5e _ _ _ (⟨(a0a y291 0).f0, (a0a y291 0).f1, (a0a y291 0).f2, (a0a y291 0).f3, (⟨(a0a y291 0).f4.f0, (a0a y291 0).f4.f1⟩ : S28)⟩ : S30) )) (Reps.none _ _))))
       intro v295 w51 ho52 hb hg_ hnew_
       have HS0_ := (hb.cell (World.block_lt_of_cell? _ _ (hHeld.1))).trans (hHeld.1)
       have HS1_ := (hb.cell (World.block_lt_of_cell? _ _ (hHeld.2.1))).trans (hHeld.2.1)
       have HS2_ := (hb.cell (World.block_lt_of_cell? _ _ (hHeld.2.2.1))).trans (hHeld.2.2.1)
       have HS3_ := (hb.cell (World.block_lt_of_cell? _ _ (hHeld.2.2.2.1))).trans (hHeld.2.2.2.1)
       have HS4_ := (hb.cell (World.block_lt_of_cell? _ _ (hHeld.2.2.2.2.1))).trans (hHeld.2.2.2.2.1)
       have HS5_ := (hb.cell (World.block_lt_of_cell? _ _ (hHeld.2.2.2.2.2.1))).trans (hHeld.2.2.2.2.2.1)
       have HS6_ := (hb.cell (World.block_lt_of_cell? _ _ (hHeld.2.2.2.2.2.2.1))).trans (hHeld.2.2.2.2.2.2.1)
       have HS7_ := (hb.cell (World.block_lt_of_cell? _ _ (hHeld.2.2.2.2.2.2.2.1))).trans (hHeld.2.2.2.2.2.2.2.1)
       have HS8_ := (hb.cell (World.block_lt_of_cell? _ _ (hHeld.2.2.2.2.2.2.2.2.1))).trans (hHeld.2.2.2.2.2.2.2.2.1)
       have HS9_ := (hb.cell (World.block_lt_of_cell? _ _ (hHeld.2.2.2.2.2.2.2.2.2.1))).trans (hHeld.2.2.2.2.2.2.2.2.2.1)
       have HS10_ := (hb.cell (World.block_lt_of_cell? _ _ (hHeld.2.2.2.2.2.2.2.2.2.2.1))).trans (hHeld.2.2.2.2.2.2.2.2.2.2.1)
       have HS11_ := (hb.cell (World.block_lt_of_cell? _ _ (hHeld.2.2.2.2.2.2.2.2.2.2.2))).trans (hHeld.2.2.2.2.2.2.2.2.2.2.2)
       clear hg_ hnew_
       (first | rw [← Ny294.out] at ho52 | (simp only [Int.reduceToNat] at ho52; rw [← Ny294.out] at ho52))
       have HO296 := am_ (Kd.a2k (Kd.a3e (Kd.a3e ho52 (Kd.R_lt (qr_ HO_1))) (Kd.R_lt (qr_ HO_6))) (a1s qb_))
       replace HO_1 := qel_ HO_1 ho52 hb
       replace HO_6 := qel_ HO_6 ho52 hb
       replace HB := qbs_ hb
       clear hb ho52
       obtain ⟨Ao53, co53, eo53⟩ := Kd.a1v HO_6.out
       (first | subst eo53 | (injection eo53 with f1_ f2_ f3_; have f4_ := f1_.symm; have f5_ := f3_.symm; clear f1_ f2_ f3_; subst f4_; subst f5_))
       obtain ⟨Ao54, co54, eo54⟩ := Kd.a1v HO296.out
       (first | subst eo54 | (injection eo54 with f1_ f2_ f3_; have f4_ := f1_.symm; have f5_ := f3_.symm; clear f1_ f2_ f3_; subst f4_; subst f5_))
       refine hK.out _ _ ⟨HS0_, HS1_, HS2_, HS3_, HS4_, HS5_, HS6_, HS7_, HS8_, HS9_, HS10_, HS11_⟩ (fun hHeld => ?_)
       clear hK K
       refine a4b (a' := ?_) ?_ ?_
       rotate_left
       ·show Act.put _ (some 95) _ = _
        exact qp_
       refine one_ (i := 8) (N := some 96) #[o_,o_,o_,o_,o_,o_,o_,o_,o_,i_] rfl rfl (a3h HT_.out (by kernel_rfl)) (by decide) (fun K hK => ?_)
       refine a5g Try.func13 (by kernel_rfl) rfl #[.slice Ao53 t266.length co53, .slice Ao54 y294.length co54] (by rfl) rfl rfl ql_ ?_
       with_reducible refine (a0t.calls kj7 _ _ t266 _ _ y294 t297 _ ?s1 ?s2 ?s3 ?s4 A47.out).mono ?_
       (case s1 => exact qv_ (Kd.a0p HO_6.out).2.2)
       (case s2 => exact (Kd.a0p HO_6.out).2.1)
       (case s3 => exact qv_ (Kd.a0p HO296.out).2.2)
       (case s4 => exact (Kd.a0p HO296.out).2.1)
       rintro e w' ⟨rfl, ⟨nd, rfl⟩⟩
       refine ⟨_, rfl, ?_⟩
       refine hK.out _ _ ⟨hHeld.1, hHeld.2.1, hHeld.2.2.1, hHeld.2.2.2.1, hHeld.2.2.2.2.1, hHeld.2.2.2.2.2.1, hHeld.2.2.2.2.2.2.1, hHeld.2.2.2.2.2.2.2.1, hHeld.2.2.2.2.2.2.2.2.1, hHeld.2.2.2.2.2.2.2.2.2.1, hHeld.2.2.2.2.2.2.2.2.2.2.1, hHeld.2.2.2.2.2.2.2.2.2.2.2⟩ (fun hHeld => ?_)
       clear hK K
       refine a4b (a' := ?_) ?_ ?_
       rotate_left
       ·show Act.put _ (some 96) _ = _
        exact qp_
       refine qpu_ 9 (some 0) #[o_,o_,o_,o_,o_,o_,o_,o_,o_,o_] ?_
       refine a3o (a3b HT_.out (by kernel_rfl)) ?_
       try go_wp2
       go_ret
       exact ⟨qx_, qb_⟩
      ·rw [if_neg c46] at H
       exact absurd H (by simp)
     ·rw [if_neg c44] at H
      exact absurd H (by simp)
 ·rw [if_neg c2] at H
  exact absurd H (by simp)
def a2e.f (a0_0 a0_1 a0_2 a0_3 a0_4 a0_5 a1_0 a1_1 a1_2 a1_3 a1_4 a1_5 : Int) : Option (Bool) := if a0_5 < a1_5 then (some true) else (if a0_5 = a1_5 then (some (decide (a0_0 < a1_0))) else (some false))
set_option maxHeartbeats 8000000 in
set_option maxRecDepth 100000 in
theorem a2e.calls (a0_0 a0_1 a0_2 a0_3 a0_4 a0_5 a1_0 a1_1 a1_2 a1_3 a1_4 a1_5 : Int) (r : Bool) (w : World) (h : a2e.f a0_0 a0_1 a0_2 a0_3 a0_4 a0_5 a1_0 a1_1 a1_2 a1_3 a1_4 a1_5 = some r) :
  Calls Try.prog 14 #[.agg #[.int .i64 a0_0, .int .i64 a0_1, .int .i64 a0_2, .int .i64 a0_3, .int .i64 a0_4, .int .i64 a0_5], .agg #[.int .i64 a1_0, .int .i64 a1_1, .int .i64 a1_2, .int .i64 a1_3, .int .i64 a1_4, .int .i64 a1_5]] w fun e w' => e = .returned (.bool r) ∧ Below w.heap.size w w' := by
 have hu30 := Try.underlying30
 have HB := am_ (Below.refl w.heap.size w)
 have H : (if a0_5 < a1_5 then (some true) else (if a0_5 = a1_5 then (some (decide (a0_0 < a1_0))) else (some false))) = some r := h
 clear h
 by_cases c3 : a0_5 < a1_5
 ·rw [if_pos c3] at H
  have c3b0 : decide (a0_5 < a1_5) = true := decide_eq_true c3
  clear c3
  obtain rfl := si_ H
  go_enter Try.func14, Try.ntmps14
  go_wp2_with (first | ((with_reducible refine a1g (N := 2) rfl ?_); refine qev_ 2 #[.int .i64 a0_0, .int .i64 a0_1, .int .i64 a0_2, .int .i64 a0_3, .int .i64 a0_4, .int .i64 a0_5] 30 ?_; intro gb298 hg w4 hbox hb; have BK298 := am_ (hbox); have GW298 := qga_ hg; have GE298 := qga_ hg; replace HB := qbs_ hb; clear hb hbox hg) | ((with_reducible refine a1g (N := 3) rfl ?_); refine qev_ 3 #[.int .i64 a1_0, .int .i64 a1_1, .int .i64 a1_2, .int .i64 a1_3, .int .i64 a1_4, .int .i64 a1_5] 30 ?_; intro gb299 hg w5 hbox hb; have BK299 := am_ (hbox); have GW299 := qga_ hg; have GE299 := qga_ hg; replace HB := qbs_ hb; have NB298_299 := am_ ((by rw [hg]; exact Nat.ne_of_lt (a2d (qk_ BK298)) : gb298 ≠ gb299)); have NB299_298 := am_ ((by rw [hg]; exact Nat.ne_of_gt (a2d (qk_ BK298)) : gb299 ≠ gb298)); replace BK298 := qkb_ BK298 hb; clear hb hbox hg; have hnb6 := NB298_299.out; have hnc6 := NB299_298.out; obtain ⟨z'7_0, z'7_1, z'7_2, z'7_3, z'7_4, z'7_5⟩ := qz6_ BK298; obtain ⟨y'7_0, y'7_1, y'7_2, y'7_3, y'7_4, y'7_5⟩ := qf6_ BK298; obtain ⟨z'8_0, z'8_1, z'8_2, z'8_3, z'8_4, z'8_5⟩ := qz6_ BK299; obtain ⟨y'8_0, y'8_1, y'8_2, y'8_3, y'8_4, y'8_5⟩ := qf6_ BK299))
  go_ret
  exact ⟨qx_, qb_⟩
 ·rw [if_neg c3] at H
  have c3b0 : decide (a0_5 < a1_5) = false := decide_eq_false c3
  clear c3
  by_cases c9 : a0_5 = a1_5
  ·rw [if_pos c9] at H
   have c9b0 : (a0_5 == a1_5) = true := beq_iff_eq.mpr c9
   have c9b1 : (a0_5 != a1_5) = false := bne_eq_false_iff_eq.mpr c9
   clear c9
   obtain rfl := si_ H
   go_enter Try.func14, Try.ntmps14
   go_wp2_with (first | ((with_reducible refine a1g (N := 2) rfl ?_); refine qev_ 2 #[.int .i64 a0_0, .int .i64 a0_1, .int .i64 a0_2, .int .i64 a0_3, .int .i64 a0_4, .int .i64 a0_5] 30 ?_; intro gb298 hg w10 hbox hb; have BK298 := am_ (hbox); have GW298 := qga_ hg; have GE298 := qga_ hg; replace HB := qbs_ hb; clear hb hbox hg) | ((with_reducible refine a1g (N := 3) rfl ?_); refine qev_ 3 #[.int .i64 a1_0, .int .i64 a1_1, .int .i64 a1_2, .int .i64 a1_3, .int .i64 a1_4, .int .i64 a1_5] 30 ?_; intro gb299 hg w11 hbox hb; have BK299 := am_ (hbox); have GW299 := qga_ hg; have GE299 := qga_ hg; replace HB := qbs_ hb; have NB298_299 := am_ ((by rw [hg]; exact Nat.ne_of_lt (a2d (qk_ BK298)) : gb298 ≠ gb299)); have NB299_298 := am_ ((by rw [hg]; exact Nat.ne_of_gt (a2d (qk_ BK298)) : gb299 ≠ gb298)); replace BK298 := qkb_ BK298 hb; clear hb hbox hg; have hnb12 := NB298_299.out; have hnc12 := NB299_298.out; obtain ⟨z'13_0, z'13_1, z'13_2, z'13_3, z'13_4, z'13_5⟩ := qz6_ BK298; obtain ⟨y'13_0, y'13_1, y'13_2, y'13_3, y'13_4, y'13_5⟩ := qf6_ BK298; obtain ⟨z'14_0, z'14_1, z'14_2, z'14_3, z'14_4, z'14_5⟩ := qz6_ BK299; obtain ⟨y'14_0, y'14_1, y'14_2, y'14_3, y'14_4, y'14_5⟩ := qf6_ BK299))
   go_ret
   exact ⟨qx_, qb_⟩
  ·rw [if_neg c9] at H
   have c9b0 : (a0_5 == a1_5) = false := beq_eq_false_iff_ne.mpr c9
   have c9b1 : (a0_5 != a1_5) = true := bne_iff_ne.mpr c9
   obtain rfl := si_ H
   go_enter Try.func14, Try.ntmps14
   go_wp2_with (first | ((with_reducible refine a1g (N := 2) rfl ?_); refine qev_ 2 #[.int .i64 a0_0, .int .i64 a0_1, .int .i64 a0_2, .int .i64 a0_3, .int .i64 a0_4, .int .i64 a0_5] 30 ?_; intro gb298 hg w15 hbox hb; have BK298 := am_ (hbox); have GW298 := qga_ hg; have GE298 := qga_ hg; replace HB := qbs_ hb; clear hb hbox hg) | ((with_reducible refine a1g (N := 3) rfl ?_); refine qev_ 3 #[.int .i64 a1_0, .int .i64 a1_1, .int .i64 a1_2, .int .i64 a1_3, .int .i64 a1_4, .int .i64 a1_5] 30 ?_; intro gb299 hg w16 hbox hb; have BK299 := am_ (hbox); have GW299 := qga_ hg; have GE299 := qga_ hg; replace HB := qbs_ hb; have NB298_299 := am_ ((by rw [hg]; exact Nat.ne_of_lt (a2d (qk_ BK298)) : gb298 ≠ gb299)); have NB299_298 := am_ ((by rw [hg]; exact Nat.ne_of_gt (a2d (qk_ BK298)) : gb299 ≠ gb298)); replace BK298 := qkb_ BK298 hb; clear hb hbox hg; have hnb17 := NB298_299.out; have hnc17 := NB299_298.out; obtain ⟨z'18_0, z'18_1, z'18_2, z'18_3, z'18_4, z'18_5⟩ := qz6_ BK298; obtain ⟨y'18_0, y'18_1, y'18_2, y'18_3, y'18_4, y'18_5⟩ := qf6_ BK298; obtain ⟨z'19_0, z'19_1, z'19_2, z'19_3, z'19_4, z'19_5⟩ := qz6_ BK299; obtain ⟨y'19_0, y'19_1, y'19_2, y'19_3, y'19_4, y'19_5⟩ := qf6_ BK299))
   go_ret
   exact ⟨qx_, qb_⟩
end Go.Proofs.Ytfbgkcadnmcakaa.Px
