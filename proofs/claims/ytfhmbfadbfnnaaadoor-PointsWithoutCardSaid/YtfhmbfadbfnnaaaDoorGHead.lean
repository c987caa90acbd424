/- The non-vacuity check of the points' statements: its one way (a program, wip/tools/headcut.py, has cut it out of the print's text). Conditions: none. -/
import Derived.Test.YtfhmbfadbfnnaaaDoorPx0
import Derived.Test.YtfhmbfadbfnnaaaDoorPx3
import Derived.Test.YtfhmbfadbfnnaaaDoorPx6
import Derived.Test.YtfhmbfadbfnnaaaDoorPx7
namespace Go.Proofs.YtfhmbfadbfnnaaaDoor.Given
open Go.Proofs.YtfhmbfadbfnnaaaDoor.Px
open Go.Proofs.YtfhmbfadbfnnaaaDoor.Given
open Go.RowKit Go.Proofs.YtfhmbfadbfnnaaaDoorW.PrintWords Go.Proofs.YtfhmbfadbfnnaaaDoorW.PrintLast Go.Proofs.YtfhmbfadbfnnaaaDoorW.PrintMore
attribute [local go_sem] max2_int min2_int max_two min_two max_three min_three max_four min_four   -- for this text's walks alone
set_option linter.unusedVariables false
set_option linter.unusedSimpArgs false
theorem leO_add_ {α : Type} {g : Nat → Option α} (hm : ∀ k, LeO (g k) (g (k + 1))) (k : Nat) : ∀ d, LeO (g k) (g (k + d))
  | 0 => LeO.refl _
  | d + 1 => fun r h => hm (k + d) r (leO_add_ hm k d r h)
theorem leO_one_ {α : Type} {g : Nat → Option α} (hm : ∀ k, LeO (g k) (g (k + 1))) {n k : Nat} {v t : α} (h : g n = some v) (h' : g k = some t) : t = v := by
  have a := leO_add_ hm n k v h
  have b := leO_add_ hm k n t h'
  rw [Nat.add_comm k n, a] at b
  exact (Option.some.inj b).symm
theorem hv1u {k : Nat} {a b : Int} (h : points_Count.f k 2 10 1 5 1 0 3 4 2 30 = some (a, b)) : a = 44 ∧ b = 0 := by
  have e := leO_one_ (fun k => points_Count.mono 2 10 1 5 1 0 3 4 2 30 k) (n := 400) (v := (44, 0)) (by decide +kernel) h
  exact ⟨congrArg Prod.fst e, congrArg Prod.snd e⟩
theorem hv2u {k : Nat} {a b : Int} (h : points_Count.f k 2 10 1 5 1 0 3 4 2 31 = some (a, b)) : a = 46 ∧ b = 0 := by
  have e := leO_one_ (fun k => points_Count.mono 2 10 1 5 1 0 3 4 2 31 k) (n := 400) (v := (46, 0)) (by decide +kernel) h
  exact ⟨congrArg Prod.fst e, congrArg Prod.snd e⟩
theorem hv3u {k : Nat} {a b : Int} (h : points_Count.f k 2 10 1 5 1 5 0 0 0 4 = some (a, b)) : b = 21 := by
  have e := leO_one_ (fun k => points_Count.mono 2 10 1 5 1 5 0 0 0 4 k) (n := 400) (v := (0, 21)) (by decide +kernel) h
  exact congrArg Prod.snd e
theorem hv4u {k : Nat} {a : List Int} {b : Int} (h : points_Order.f k 2 10 1 5 (([(⟨1, 0, 3, 4, 2⟩ : S25), (⟨2, 0, 3, 4 + 2, 2⟩ : S25), (⟨3, 0, 3, 4, 2⟩ : S25)] : List (S25))) 30 (([3, 2, 1] : List Int)) = some (a, b)) : a = [1, 2, 0] ∧ b = 0 := by
  have e := leO_one_ (fun k => points_Order.mono 2 10 1 5 _ 30 _ k) (n := 400) (v := ([1, 2, 0], 0)) (by decide +kernel) h
  exact ⟨congrArg Prod.fst e, congrArg Prod.snd e⟩
theorem hv6u {k : Nat} {a : Bool} (h : cohousingref21_Same.f k [1, 2, 0] [1, 2, 0] = some a) : a = true :=
  leO_one_ (fun k => cohousingref21_Same.mono [1, 2, 0] [1, 2, 0] k) (n := 400) (v := true) (by decide +kernel) h
theorem cells_all {w : World} {g : Nat} {t : TypeId} {cs : Array Value} (h : w.heap[g]? = some (.cells cs t (0, 0))) (l : List Value) (hl : l.length = cs.size) : (w.setCells g 0 l).heap[g]? = some (.cells l.toArray t (0, 0)) := by
  obtain ⟨cur', h1, h2, h3⟩ := setCells_row l 0 w cs h (by omega)
  rw [h1]
  have : cur' = l.toArray := by
    apply Array.ext'
    rw [h3]
    simp [hl]
  rw [this]
theorem below_cells {w0 W : World} {g : Nat} (h : Below w0.heap.size w0 W) (hg : w0.heap.size ≤ g) (l : List Value) : Below w0.heap.size w0 (W.setCells g 0 l) := by
  obtain ⟨s1, s2, s3, s4⟩ := setCells_same g l 0 W
  exact h.trans ⟨s1, s2, s3, by rw [s4]; exact Nat.le_refl _, fun k hk => setCells_far l 0 k (by omega)⟩
def cohousinglaw21_head.f (k : Nat)  : Option (Bool) := (points_Count.f k 2 10 1 5 1 0 3 4 2 30).bind fun bt190 => ((points_Count.f k 2 10 1 5 1 0 3 4 2 31).bind fun bt192 => ((points_Count.f k 2 10 1 5 1 5 0 0 0 4).bind fun bt194 => ((points_Order.f k 2 10 1 5 (([(⟨1, 0, 3, 4, 2⟩ : S25), (⟨2, 0, 3, 4 + 2, 2⟩ : S25), (⟨3, 0, 3, 4, 2⟩ : S25)] : List (S25))) 30 (([3, 2, 1] : List Int))).bind fun bt204 => ((points_Order.f k 2 10 1 5 (([(⟨1, 0, 3, 4, 2⟩ : S25), (⟨1, 0, 3, 4, 2⟩ : S25)] : List (S25))) 30 (([1, 2] : List Int))).bind fun bt214 => (if bt190.2 = 0 then (if bt190.1 = 44 then (if bt192.2 = 0 then (if bt192.1 = 46 then (if bt194.2 = 21 then (if bt204.2 = 0 then ((cohousingref21_Same.f k bt204.1 (([1, 2, 0] : List Int))).bind fun t221 => (if t221 = true then (some (bt214.2 == 1)) else (some false))) else (some false)) else (some false)) else (some false)) else (some false)) else (some false)) else (some false))))))
theorem cohousinglaw21_head.mono : ∀ k, LeO (cohousinglaw21_head.f k ) (cohousinglaw21_head.f (k + 1) ) := by
  intro  k
  unfold cohousinglaw21_head.f
  with_reducible (repeat' first | apply cohousingref21_Same.mono | apply points_Count.mono | apply points_Order.mono | apply LeO.refl | apply LeO.none | apply LeO.ite | refine LeO.bind ?_ (fun _ => ?_))
set_option maxHeartbeats 8000000 in
set_option maxRecDepth 100000 in
theorem cohousinglaw21_head.calls (k : Nat)  (r : Bool) (w : World) (HT : TabOK w) (h : cohousinglaw21_head.f k  = some r) :
    Calls Tryd.prog 10 #[] w fun e w' => e = .returned (.bool r) ∧ Below w.heap.size w w' := by
  have hu23 := Tryd.underlying23
  have hu25 := Tryd.underlying25
  have HTA := Aside0.mk HT
  clear HT
  have HB := Aside0.mk (Below.refl w.heap.size w)
  have H : ((points_Count.f k 2 10 1 5 1 0 3 4 2 30).bind fun bt190 => ((points_Count.f k 2 10 1 5 1 0 3 4 2 31).bind fun bt192 => ((points_Count.f k 2 10 1 5 1 5 0 0 0 4).bind fun bt194 => ((points_Order.f k 2 10 1 5 (([(⟨1, 0, 3, 4, 2⟩ : S25), (⟨2, 0, 3, 4 + 2, 2⟩ : S25), (⟨3, 0, 3, 4, 2⟩ : S25)] : List (S25))) 30 (([3, 2, 1] : List Int))).bind fun bt204 => ((points_Order.f k 2 10 1 5 (([(⟨1, 0, 3, 4, 2⟩ : S25), (⟨1, 0, 3, 4, 2⟩ : S25)] : List (S25))) 30 (([1, 2] : List Int))).bind fun bt214 => (if bt190.2 = 0 then (if bt190.1 = 44 then (if bt192.2 = 0 then (if bt192.1 = 46 then (if bt194.2 = 21 then (if bt204.2 = 0 then ((cohousingref21_Same.f k bt204.1 (([1, 2, 0] : List Int))).bind fun t221 => (if t221 = true then (some (bt214.2 == 1)) else (some false))) else (some false)) else (some false)) else (some false)) else (some false)) else (some false)) else (some false))))))) = some r := h
  clear h
  replace H := Option.bind_eq_some_iff.mp H
  obtain ⟨⟨t190, t191⟩, A10, H⟩ := H
  replace H : ((points_Count.f k 2 10 1 5 1 0 3 4 2 31).bind fun bt192 => ((points_Count.f k 2 10 1 5 1 5 0 0 0 4).bind fun bt194 => ((points_Order.f k 2 10 1 5 (([(⟨1, 0, 3, 4, 2⟩ : S25), (⟨2, 0, 3, 4 + 2, 2⟩ : S25), (⟨3, 0, 3, 4, 2⟩ : S25)] : List (S25))) 30 (([3, 2, 1] : List Int))).bind fun bt204 => ((points_Order.f k 2 10 1 5 (([(⟨1, 0, 3, 4, 2⟩ : S25), (⟨1, 0, 3, 4, 2⟩ : S25)] : List (S25))) 30 (([1, 2] : List Int))).bind fun bt214 => (if t191 = 0 then (if t190 = 44 then (if bt192.2 = 0 then (if bt192.1 = 46 then (if bt194.2 = 21 then (if bt204.2 = 0 then ((cohousingref21_Same.f k bt204.1 (([1, 2, 0] : List Int))).bind fun t221 => (if t221 = true then (some (bt214.2 == 1)) else (some false))) else (some false)) else (some false)) else (some false)) else (some false)) else (some false)) else (some false)))))) = some r := H
  have A1 := Aside0.mk A10
  clear A10
  replace H := Option.bind_eq_some_iff.mp H
  obtain ⟨⟨t192, t193⟩, A20, H⟩ := H
  replace H : ((points_Count.f k 2 10 1 5 1 5 0 0 0 4).bind fun bt194 => ((points_Order.f k 2 10 1 5 (([(⟨1, 0, 3, 4, 2⟩ : S25), (⟨2, 0, 3, 4 + 2, 2⟩ : S25), (⟨3, 0, 3, 4, 2⟩ : S25)] : List (S25))) 30 (([3, 2, 1] : List Int))).bind fun bt204 => ((points_Order.f k 2 10 1 5 (([(⟨1, 0, 3, 4, 2⟩ : S25), (⟨1, 0, 3, 4, 2⟩ : S25)] : List (S25))) 30 (([1, 2] : List Int))).bind fun bt214 => (if t191 = 0 then (if t190 = 44 then (if t193 = 0 then (if t192 = 46 then (if bt194.2 = 21 then (if bt204.2 = 0 then ((cohousingref21_Same.f k bt204.1 (([1, 2, 0] : List Int))).bind fun t221 => (if t221 = true then (some (bt214.2 == 1)) else (some false))) else (some false)) else (some false)) else (some false)) else (some false)) else (some false)) else (some false))))) = some r := H
  have A2 := Aside0.mk A20
  clear A20
  replace H := Option.bind_eq_some_iff.mp H
  obtain ⟨⟨t194, t195⟩, A30, H⟩ := H
  replace H : ((points_Order.f k 2 10 1 5 (([(⟨1, 0, 3, 4, 2⟩ : S25), (⟨2, 0, 3, 4 + 2, 2⟩ : S25), (⟨3, 0, 3, 4, 2⟩ : S25)] : List (S25))) 30 (([3, 2, 1] : List Int))).bind fun bt204 => ((points_Order.f k 2 10 1 5 (([(⟨1, 0, 3, 4, 2⟩ : S25), (⟨1, 0, 3, 4, 2⟩ : S25)] : List (S25))) 30 (([1, 2] : List Int))).bind fun bt214 => (if t191 = 0 then (if t190 = 44 then (if t193 = 0 then (if t192 = 46 then (if t195 = 21 then (if bt204.2 = 0 then ((cohousingref21_Same.f k bt204.1 (([1, 2, 0] : List Int))).bind fun t221 => (if t221 = true then (some (bt214.2 == 1)) else (some false))) else (some false)) else (some false)) else (some false)) else (some false)) else (some false)) else (some false)))) = some r := H
  have A3 := Aside0.mk A30
  clear A30
  obtain ⟨y198, hy198⟩ : ∃ y_ : List (S25), y_ = (([(⟨1, 0, 3, 4, 2⟩ : S25), (⟨2, 0, 3, 4 + 2, 2⟩ : S25), (⟨3, 0, 3, 4, 2⟩ : S25)] : List (S25))) := ⟨_, rfl⟩
  replace H : ((points_Order.f k 2 10 1 5 y198 30 (([3, 2, 1] : List Int))).bind fun bt204 => ((points_Order.f k 2 10 1 5 (([(⟨1, 0, 3, 4, 2⟩ : S25), (⟨1, 0, 3, 4, 2⟩ : S25)] : List (S25))) 30 (([1, 2] : List Int))).bind fun bt214 => (if t191 = 0 then (if t190 = 44 then (if t193 = 0 then (if t192 = 46 then (if t195 = 21 then (if bt204.2 = 0 then ((cohousingref21_Same.f k bt204.1 (([1, 2, 0] : List Int))).bind fun t221 => (if t221 = true then (some (bt214.2 == 1)) else (some false))) else (some false)) else (some false)) else (some false)) else (some false)) else (some false)) else (some false)))) = some r := by first | (rw [hy198]; with_reducible exact H) | (have H2_ := (Option.bind_some _ _).symm.trans H; rw [hy198]; with_reducible exact H2_) | (have H2_ := (Option.bind_some _ _).symm.trans H; with_reducible exact H2_) | with_reducible exact H | (rw [hy198]; exact H) | exact H
  have Ny198 := Aside0.mk hy198
  clear hy198
  obtain ⟨y201, hy201⟩ : ∃ y_ : List Int, y_ = (([3, 2, 1] : List Int)) := ⟨_, rfl⟩
  replace H : ((points_Order.f k 2 10 1 5 y198 30 y201).bind fun bt204 => ((points_Order.f k 2 10 1 5 (([(⟨1, 0, 3, 4, 2⟩ : S25), (⟨1, 0, 3, 4, 2⟩ : S25)] : List (S25))) 30 (([1, 2] : List Int))).bind fun bt214 => (if t191 = 0 then (if t190 = 44 then (if t193 = 0 then (if t192 = 46 then (if t195 = 21 then (if bt204.2 = 0 then ((cohousingref21_Same.f k bt204.1 (([1, 2, 0] : List Int))).bind fun t221 => (if t221 = true then (some (bt214.2 == 1)) else (some false))) else (some false)) else (some false)) else (some false)) else (some false)) else (some false)) else (some false)))) = some r := by first | (rw [hy201]; with_reducible exact H) | (have H2_ := (Option.bind_some _ _).symm.trans H; rw [hy201]; with_reducible exact H2_) | (have H2_ := (Option.bind_some _ _).symm.trans H; with_reducible exact H2_) | with_reducible exact H | (rw [hy201]; exact H) | exact H
  have Ny201 := Aside0.mk hy201
  clear hy201
  replace H := Option.bind_eq_some_iff.mp H
  obtain ⟨⟨t204, t207⟩, A40, H⟩ := H
  replace H : ((points_Order.f k 2 10 1 5 (([(⟨1, 0, 3, 4, 2⟩ : S25), (⟨1, 0, 3, 4, 2⟩ : S25)] : List (S25))) 30 (([1, 2] : List Int))).bind fun bt214 => (if t191 = 0 then (if t190 = 44 then (if t193 = 0 then (if t192 = 46 then (if t195 = 21 then (if t207 = 0 then ((cohousingref21_Same.f k t204 (([1, 2, 0] : List Int))).bind fun t221 => (if t221 = true then (some (bt214.2 == 1)) else (some false))) else (some false)) else (some false)) else (some false)) else (some false)) else (some false)) else (some false))) = some r := H
  have A4 := Aside0.mk A40
  clear A40
  obtain ⟨y208, hy208⟩ : ∃ y_ : List (S25), y_ = (([(⟨1, 0, 3, 4, 2⟩ : S25), (⟨1, 0, 3, 4, 2⟩ : S25)] : List (S25))) := ⟨_, rfl⟩
  replace H : ((points_Order.f k 2 10 1 5 y208 30 (([1, 2] : List Int))).bind fun bt214 => (if t191 = 0 then (if t190 = 44 then (if t193 = 0 then (if t192 = 46 then (if t195 = 21 then (if t207 = 0 then ((cohousingref21_Same.f k t204 (([1, 2, 0] : List Int))).bind fun t221 => (if t221 = true then (some (bt214.2 == 1)) else (some false))) else (some false)) else (some false)) else (some false)) else (some false)) else (some false)) else (some false))) = some r := by first | (rw [hy208]; with_reducible exact H) | (have H2_ := (Option.bind_some _ _).symm.trans H; rw [hy208]; with_reducible exact H2_) | (have H2_ := (Option.bind_some _ _).symm.trans H; with_reducible exact H2_) | with_reducible exact H | (rw [hy208]; exact H) | exact H
  have Ny208 := Aside0.mk hy208
  clear hy208
  obtain ⟨y211, hy211⟩ : ∃ y_ : List Int, y_ = (([1, 2] : List Int)) := ⟨_, rfl⟩
  replace H : ((points_Order.f k 2 10 1 5 y208 30 y211).bind fun bt214 => (if t191 = 0 then (if t190 = 44 then (if t193 = 0 then (if t192 = 46 then (if t195 = 21 then (if t207 = 0 then ((cohousingref21_Same.f k t204 (([1, 2, 0] : List Int))).bind fun t221 => (if t221 = true then (some (bt214.2 == 1)) else (some false))) else (some false)) else (some false)) else (some false)) else (some false)) else (some false)) else (some false))) = some r := by first | (rw [hy211]; with_reducible exact H) | (have H2_ := (Option.bind_some _ _).symm.trans H; rw [hy211]; with_reducible exact H2_) | (have H2_ := (Option.bind_some _ _).symm.trans H; with_reducible exact H2_) | with_reducible exact H | (rw [hy211]; exact H) | exact H
  have Ny211 := Aside0.mk hy211
  clear hy211
  replace H := Option.bind_eq_some_iff.mp H
  obtain ⟨⟨t214, t217⟩, A50, H⟩ := H
  replace H : (if t191 = 0 then (if t190 = 44 then (if t193 = 0 then (if t192 = 46 then (if t195 = 21 then (if t207 = 0 then ((cohousingref21_Same.f k t204 (([1, 2, 0] : List Int))).bind fun t221 => (if t221 = true then (some (t217 == 1)) else (some false))) else (some false)) else (some false)) else (some false)) else (some false)) else (some false)) else (some false)) = some r := H
  have A5 := Aside0.mk A50
  clear A50
  have V1 := hv1u A1.out
  have V2 := hv2u A2.out
  have V3 := hv3u A3.out
  have V4 := hv4u (Ny198.out ▸ Ny201.out ▸ A4.out)
  have c6 : t191 = 0 := V1.2
  rw [if_pos c6] at H
  have c6b0 : (t191 == 0) = true := beq_iff_eq.mpr c6
  have c6b1 : (t191 != 0) = false := bne_eq_false_iff_eq.mpr c6
  clear c6
  have c7 : t190 = 44 := V1.1
  rw [if_pos c7] at H
  have c7b0 : (t190 == 44) = true := beq_iff_eq.mpr c7
  have c7b1 : (t190 != 44) = false := bne_eq_false_iff_eq.mpr c7
  clear c7
  have c8 : t193 = 0 := V2.2
  rw [if_pos c8] at H
  have c8b0 : (t193 == 0) = true := beq_iff_eq.mpr c8
  have c8b1 : (t193 != 0) = false := bne_eq_false_iff_eq.mpr c8
  clear c8
  have c9 : t192 = 46 := V2.1
  rw [if_pos c9] at H
  have c9b0 : (t192 == 46) = true := beq_iff_eq.mpr c9
  have c9b1 : (t192 != 46) = false := bne_eq_false_iff_eq.mpr c9
  clear c9
  have c10 : t195 = 21 := V3
  rw [if_pos c10] at H
  have c10b0 : (t195 == 21) = true := beq_iff_eq.mpr c10
  have c10b1 : (t195 != 21) = false := bne_eq_false_iff_eq.mpr c10
  clear c10
  have c11 : t207 = 0 := V4.2
  rw [if_pos c11] at H
  have c11b0 : (t207 == 0) = true := beq_iff_eq.mpr c11
  have c11b1 : (t207 != 0) = false := bne_eq_false_iff_eq.mpr c11
  clear c11
  obtain ⟨y218, hy218⟩ : ∃ y_ : List Int, y_ = (([1, 2, 0] : List Int)) := ⟨_, rfl⟩
  replace H : ((cohousingref21_Same.f k t204 y218).bind fun t221 => (if t221 = true then (some (t217 == 1)) else (some false))) = some r := by first | (rw [hy218]; with_reducible exact H) | (have H2_ := (Option.bind_some _ _).symm.trans H; rw [hy218]; with_reducible exact H2_) | (have H2_ := (Option.bind_some _ _).symm.trans H; with_reducible exact H2_) | with_reducible exact H | (rw [hy218]; exact H) | exact H
  have Ny218 := Aside0.mk hy218
  clear hy218
  replace H := Option.bind_eq_some_iff.mp H
  obtain ⟨t221, A120, H⟩ := H
  replace H : (if t221 = true then (some (t217 == 1)) else (some false)) = some r := H
  have A12 := Aside0.mk A120
  clear A120
  have V6 : t221 = true := hv6u (by have e_ := A12.out; rw [V4.1, Ny218.out] at e_; exact e_)
  have c13 : t221 = true := V6
  subst c13
  have H1 : (some (t217 == 1)) = some r := by rw [if_pos rfl] at H; exact H
  clear H
  have H := H1
  clear H1
  obtain rfl := Option.some.inj H
  clear V1 V2 V3 V4 V6
  go_enter Tryd.func10, Tryd.ntmps10
  try go_wp2_with (first | ((with_reducible refine gate_dst (N := 1) rfl ?_); (try (refine gate_guard (by rfl) ?_; dsimp only)); refine qev_ 1 #[.int .i64 0, .int .i64 0, .int .i64 0, .int .i64 0] 23 ?_; intro gb188 hg w14 hbox hb; have BK188 := Aside0.mk (hbox); have GW188 := qga_ hg; have GE188 := qga_ hg; replace HB := qbs_ hb; clear hb hbox hg; obtain ⟨hcz15_0, hcz15_1, hcz15_2, hcz15_3⟩ := qz4_ BK188; obtain ⟨hfz15_0, hfz15_1, hfz15_2, hfz15_3⟩ := qf4_ BK188) | ((with_reducible refine gate_dst (N := 2) rfl ?_); (try (refine gate_guard (by rfl) ?_; dsimp only)); refine qev_ 2 #[.int .i64 0, .int .i64 0, .int .i64 0, .int .i64 0, .int .i64 0] 25 ?_; intro gb189 hg w16 hbox hb; have BK189 := Aside0.mk (hbox); have GW189 := qga_ hg; have GE189 := qga_ hg; replace HB := qbs_ hb; have NB188_189 := Aside0.mk ((by rw [hg]; exact Nat.ne_of_lt (blk_lt (g := gb188) (o := .cells #[.int .i64 2, .int .i64 10, .int .i64 1, .int .i64 5] 23 (0, 0)) (by refine qd_ ?_; refine blk_put (cs := #[.int .i64 2, .int .i64 10, .int .i64 1, .int .i64 0]) ?_ 3 _ rfl; refine qd_ ?_; refine blk_put (cs := #[.int .i64 2, .int .i64 10, .int .i64 0, .int .i64 0]) ?_ 2 _ rfl; refine qd_ ?_; refine blk_put (cs := #[.int .i64 2, .int .i64 0, .int .i64 0, .int .i64 0]) ?_ 1 _ rfl; refine qd_ ?_; refine blk_put (cs := #[.int .i64 0, .int .i64 0, .int .i64 0, .int .i64 0]) ?_ 0 _ rfl; refine qd_ ?_; exact BK188.out)) : gb188 ≠ gb189)); have NB189_188 := Aside0.mk ((by rw [hg]; exact Nat.ne_of_gt (blk_lt (g := gb188) (o := .cells #[.int .i64 2, .int .i64 10, .int .i64 1, .int .i64 5] 23 (0, 0)) (by refine qd_ ?_; refine blk_put (cs := #[.int .i64 2, .int .i64 10, .int .i64 1, .int .i64 0]) ?_ 3 _ rfl; refine qd_ ?_; refine blk_put (cs := #[.int .i64 2, .int .i64 10, .int .i64 0, .int .i64 0]) ?_ 2 _ rfl; refine qd_ ?_; refine blk_put (cs := #[.int .i64 2, .int .i64 0, .int .i64 0, .int .i64 0]) ?_ 1 _ rfl; refine qd_ ?_; refine blk_put (cs := #[.int .i64 0, .int .i64 0, .int .i64 0, .int .i64 0]) ?_ 0 _ rfl; refine qd_ ?_; exact BK188.out)) : gb189 ≠ gb188)); replace BK188 := Aside0.mk (blk_below (g := gb188) (o := .cells #[.int .i64 2, .int .i64 10, .int .i64 1, .int .i64 5] 23 (0, 0)) (by refine qd_ ?_; refine blk_put (cs := #[.int .i64 2, .int .i64 10, .int .i64 1, .int .i64 0]) ?_ 3 _ rfl; refine qd_ ?_; refine blk_put (cs := #[.int .i64 2, .int .i64 10, .int .i64 0, .int .i64 0]) ?_ 2 _ rfl; refine qd_ ?_; refine blk_put (cs := #[.int .i64 2, .int .i64 0, .int .i64 0, .int .i64 0]) ?_ 1 _ rfl; refine qd_ ?_; refine blk_put (cs := #[.int .i64 0, .int .i64 0, .int .i64 0, .int .i64 0]) ?_ 0 _ rfl; refine qd_ ?_; exact BK188.out) hb); clear hb hbox hg; have hnb17 := NB189_188.out; have hnc17 := NB188_189.out; obtain ⟨hcz18_0, hcz18_1, hcz18_2, hcz18_3, hcz18_4⟩ := qz5_ BK189; obtain ⟨hfz18_0, hfz18_1, hfz18_2, hfz18_3, hfz18_4⟩ := qf5_ BK189; obtain ⟨hcz19_0, hcz19_1, hcz19_2, hcz19_3⟩ := qz4_ BK188; obtain ⟨hfz19_0, hfz19_1, hfz19_2, hfz19_3⟩ := qf4_ BK188) | ((with_reducible refine gate_callee (f := 11) rfl ?_); refine goesL_ (some 20) rfl rfl Tryd.func11 (by kernel_rfl) rfl #[.agg #[.int .i64 2, .int .i64 10, .int .i64 1, .int .i64 5], .agg #[.int .i64 1, .int .i64 0, .int .i64 3, .int .i64 4, .int .i64 2], .int .i64 30] rfl ql_ ?_; (with_reducible refine (points_Count.calls k 2 10 1 5 1 0 3 4 2 30 t190 t191 _ ?side1 A1.out).mono ?_); (case side1 => exact TabOK.below HTA.out qb_); rintro e w20 ⟨rfl, hb⟩; refine ⟨_, rfl, ?_⟩; replace BK188 := Aside0.mk (blk_below (g := gb188) (o := .cells #[.int .i64 2, .int .i64 10, .int .i64 1, .int .i64 5] 23 (0, 0)) (by refine qd_ ?_; refine blk_far ?_ NB188_189.out _; refine qd_ ?_; refine blk_far ?_ NB188_189.out _; refine qd_ ?_; refine blk_far ?_ NB188_189.out _; refine qd_ ?_; refine blk_far ?_ NB188_189.out _; refine qd_ ?_; refine blk_far ?_ NB188_189.out _; refine qd_ ?_; exact BK188.out) hb); replace BK189 := Aside0.mk (blk_below (g := gb189) (o := .cells #[.int .i64 1, .int .i64 0, .int .i64 3, .int .i64 4, .int .i64 2] 25 (0, 0)) (by refine qd_ ?_; refine blk_put (cs := #[.int .i64 1, .int .i64 0, .int .i64 3, .int .i64 4, .int .i64 0]) ?_ 4 _ rfl; refine qd_ ?_; refine blk_put (cs := #[.int .i64 1, .int .i64 0, .int .i64 3, .int .i64 0, .int .i64 0]) ?_ 3 _ rfl; refine qd_ ?_; refine blk_put (cs := #[.int .i64 1, .int .i64 0, .int .i64 0, .int .i64 0, .int .i64 0]) ?_ 2 _ rfl; refine qd_ ?_; refine blk_put (cs := #[.int .i64 1, .int .i64 0, .int .i64 0, .int .i64 0, .int .i64 0]) ?_ 1 _ rfl; refine qd_ ?_; refine blk_put (cs := #[.int .i64 0, .int .i64 0, .int .i64 0, .int .i64 0, .int .i64 0]) ?_ 0 _ rfl; refine qd_ ?_; exact BK189.out) hb); replace HB := qbs_ hb; (try clear hb); (try clear hb2); (try clear hk); (try clear hi); obtain ⟨hcz21_0, hcz21_1, hcz21_2, hcz21_3⟩ := qz4_ BK188; obtain ⟨hfz21_0, hfz21_1, hfz21_2, hfz21_3⟩ := qf4_ BK188; obtain ⟨hcz22_0, hcz22_1, hcz22_2, hcz22_3, hcz22_4⟩ := qz5_ BK189; obtain ⟨hfz22_0, hfz22_1, hfz22_2, hfz22_3, hfz22_4⟩ := qf5_ BK189) | ((with_reducible refine gate_callee (f := 11) rfl ?_); refine goesL_ (some 26) rfl rfl Tryd.func11 (by kernel_rfl) rfl #[.agg #[.int .i64 2, .int .i64 10, .int .i64 1, .int .i64 5], .agg #[.int .i64 1, .int .i64 0, .int .i64 3, .int .i64 4, .int .i64 2], .int .i64 31] rfl ql_ ?_; (with_reducible refine (points_Count.calls k 2 10 1 5 1 0 3 4 2 31 t192 t193 _ ?side1 A2.out).mono ?_); (case side1 => exact TabOK.below HTA.out qb_); rintro e w23 ⟨rfl, hb⟩; refine ⟨_, rfl, ?_⟩; replace BK188 := qkb_ BK188 hb; replace BK189 := qkb_ BK189 hb; replace HB := qbs_ hb; (try clear hb); (try clear hb2); (try clear hk); (try clear hi); obtain ⟨hcz24_0, hcz24_1, hcz24_2, hcz24_3⟩ := qz4_ BK188; obtain ⟨hfz24_0, hfz24_1, hfz24_2, hfz24_3⟩ := qf4_ BK188) | ((with_reducible refine gate_callee (f := 11) rfl ?_); refine goesL_ (some 32) rfl rfl Tryd.func11 (by kernel_rfl) rfl #[.agg #[.int .i64 2, .int .i64 10, .int .i64 1, .int .i64 5], .agg #[.int .i64 1, .int .i64 5, .int .i64 0, .int .i64 0, .int .i64 0], .int .i64 4] rfl ql_ ?_; (with_reducible refine (points_Count.calls k 2 10 1 5 1 5 0 0 0 4 t194 t195 _ ?side1 A3.out).mono ?_); (case side1 => exact TabOK.below HTA.out qb_); rintro e w25 ⟨rfl, hb⟩; refine ⟨_, rfl, ?_⟩; replace BK188 := qkb_ BK188 hb; replace BK189 := qkb_ BK189 hb; replace HB := qbs_ hb; (try clear hb); (try clear hb2); (try clear hk); (try clear hi)))
  replace BK188 := Aside0.mk (blk_drew BK188.out)
  replace BK189 := Aside0.mk (blk_drew BK189.out)
  replace HB := Aside0.mk (below_drew1 HB.out)
  refine start_ (n := 6) (S := fun w' => w'.cell? ⟨gb189, 0, none⟩ = some (.int .i64 1) ∧ w'.cell? ⟨gb189, 1, none⟩ = some (.int .i64 0) ∧ w'.cell? ⟨gb189, 2, none⟩ = some (.int .i64 3) ∧ w'.cell? ⟨gb189, 3, none⟩ = some (.int .i64 4) ∧ w'.cell? ⟨gb189, 4, none⟩ = some (.int .i64 2)) (ds := []) #[i_,i_,i_,i_,i_,i_] (by kernel_rfl) rfl rfl ⟨(blk_cell BK189.out 0).trans rfl, (blk_cell BK189.out 1).trans rfl, (blk_cell BK189.out 2).trans rfl, (blk_cell BK189.out 3).trans rfl, (blk_cell BK189.out 4).trans rfl⟩ (fun hHeld => ?_)
  generalize w25.drew = w26 at BK188 BK189 HB hHeld ⊢
  refine take_ (i := 0) (N := some 35) (v := ?_) (a' := ?_) #[o_,i_,i_,i_,i_,i_] rfl rfl (by kernel_rfl) (fun _ _ _ h => h) (Or.inl ⟨by rfl, ?_⟩) hHeld ?_ ?_
  rotate_left
  · rintro w' ⟨s0, s1, s2, s3, s4⟩
    go_simp
    with_reducible rfl
  rotate_left
  · exact qp_
  refine take_ (i := 1) (N := some 36) (v := ?_) (a' := ?_) #[o_,o_,i_,i_,i_,i_] rfl rfl (by kernel_rfl) (fun _ _ _ h => h) (Or.inl ⟨by rfl, ?_⟩) hHeld ?_ ?_
  rotate_left
  · rintro w' ⟨s0, s1, s2, s3, s4⟩
    go_simp
    with_reducible rfl
  rotate_left
  · exact qp_
  refine join_ (σ := Nat × Nat) 2 #[o_,o_,o_,o_,i_,i_] (fun s_ => [(9, .pointer (some ⟨s_.1, 0, none⟩)), (10, .pointer (some ⟨s_.2, 0, none⟩))]) (fun s_ w' => (w'.cell? ⟨gb189, 0, none⟩ = some (.int .i64 1) ∧ w'.cell? ⟨gb189, 1, none⟩ = some (.int .i64 0) ∧ w'.cell? ⟨gb189, 2, none⟩ = some (.int .i64 3) ∧ w'.cell? ⟨gb189, 3, none⟩ = some (.int .i64 4) ∧ w'.cell? ⟨gb189, 4, none⟩ = some (.int .i64 2)) ∧ (w'.heap[gb188]? = some (.cells #[.int .i64 2, .int .i64 10, .int .i64 1, .int .i64 5] 23 (0, 0))) ∧ (w'.heap[gb189]? = some (.cells #[.int .i64 1, .int .i64 0, .int .i64 3, .int .i64 4, .int .i64 2] 25 (0, 0))) ∧ (w'.heap[s_.1]? = some (.cells #[.int .i64 0, .int .i64 0, .int .i64 0, .int .i64 0, .int .i64 0] 25 (0, 0))) ∧ (w'.heap[s_.2]? = some (.cells #[.int .i64 0, .int .i64 0, .int .i64 0, .int .i64 0, .int .i64 0] 25 (0, 0))) ∧ (w.heap.size ≤ s_.1) ∧ (w.heap.size ≤ s_.1) ∧ (gb188 ≠ s_.1) ∧ (s_.1 ≠ gb188) ∧ (gb189 ≠ s_.1) ∧ (s_.1 ≠ gb189) ∧ (s_.2 ≠ s_.1) ∧ (s_.1 ≠ s_.2) ∧ (w.heap.size ≤ s_.2) ∧ (w.heap.size ≤ s_.2) ∧ (gb188 ≠ s_.2) ∧ (s_.2 ≠ gb188) ∧ (gb189 ≠ s_.2) ∧ (s_.2 ≠ gb189) ∧ (Below w.heap.size w w')) ?_ ?_
  rotate_left
  · intro hCont
    refine two_ (i := 2) (j := 3) (Ni := some 9) (Nj := some 10) #[o_,o_,o_,i_,i_,i_] #[o_,o_,i_,o_,i_,i_] rfl rfl rfl rfl (by kernel_rfl) (by decide) (by decide) (fun K hK => ?_) (fun K hK => ?_)
    · skip
      refine box_step ?hg (N := 9) ?hd (cs := #[.int .i64 0, .int .i64 0, .int .i64 0, .int .i64 0, .int .i64 0]) (t := 25) ?hr ?_; (case hd => rfl); (case hg => rfl); (case hr => exact qq_)
      intro gb196 hg w27 hbox hb
      have BK196 := Aside0.mk (hbox)
      have GW196 := qga_ hg
      have GE196 := qga_ hg
      replace HB := qbs_ hb
      have NB188_196 := Aside0.mk ((by rw [hg]; exact Nat.ne_of_lt (blk_lt (qk_ BK188)) : gb188 ≠ gb196))
      have NB196_188 := Aside0.mk ((by rw [hg]; exact Nat.ne_of_gt (blk_lt (qk_ BK188)) : gb196 ≠ gb188))
      replace BK188 := qkb_ BK188 hb
      have NB189_196 := Aside0.mk ((by rw [hg]; exact Nat.ne_of_lt (blk_lt (qk_ BK189)) : gb189 ≠ gb196))
      have NB196_189 := Aside0.mk ((by rw [hg]; exact Nat.ne_of_gt (blk_lt (qk_ BK189)) : gb196 ≠ gb189))
      replace BK189 := qkb_ BK189 hb
      clear hb hbox hg
      refine hK.out _ _ ⟨(blk_cell BK189.out 0).trans rfl, (blk_cell BK189.out 1).trans rfl, (blk_cell BK189.out 2).trans rfl, (blk_cell BK189.out 3).trans rfl, (blk_cell BK189.out 4).trans rfl⟩ (fun hHeld => ?_)
      clear hK K
      refine norm_ (a' := ?_) ?_ ?_
      rotate_left
      · show Act.put _ (some 9) _ = _
        exact qp_
      refine one_ (i := 3) (N := some 10) #[o_,o_,o_,o_,i_,i_] rfl rfl (by kernel_rfl) (by decide) (fun K hK => ?_)
      refine box_step ?hg (N := 10) ?hd (cs := #[.int .i64 0, .int .i64 0, .int .i64 0, .int .i64 0, .int .i64 0]) (t := 25) ?hr ?_; (case hd => rfl); (case hg => rfl); (case hr => exact qq_)
      intro gb197 hg w28 hbox hb
      have BK197 := Aside0.mk (hbox)
      have GW197 := qga_ hg
      have GE197 := qga_ hg
      replace HB := qbs_ hb
      have NB188_197 := Aside0.mk ((by rw [hg]; exact Nat.ne_of_lt (blk_lt (qk_ BK188)) : gb188 ≠ gb197))
      have NB197_188 := Aside0.mk ((by rw [hg]; exact Nat.ne_of_gt (blk_lt (qk_ BK188)) : gb197 ≠ gb188))
      replace BK188 := qkb_ BK188 hb
      have NB189_197 := Aside0.mk ((by rw [hg]; exact Nat.ne_of_lt (blk_lt (qk_ BK189)) : gb189 ≠ gb197))
      have NB197_189 := Aside0.mk ((by rw [hg]; exact Nat.ne_of_gt (blk_lt (qk_ BK189)) : gb197 ≠ gb189))
      replace BK189 := qkb_ BK189 hb
      have NB196_197 := Aside0.mk ((by rw [hg]; exact Nat.ne_of_lt (blk_lt (qk_ BK196)) : gb196 ≠ gb197))
      have NB197_196 := Aside0.mk ((by rw [hg]; exact Nat.ne_of_gt (blk_lt (qk_ BK196)) : gb197 ≠ gb196))
      replace BK196 := qkb_ BK196 hb
      clear hb hbox hg
      refine hK.out _ _ ⟨(blk_cell BK189.out 0).trans rfl, (blk_cell BK189.out 1).trans rfl, (blk_cell BK189.out 2).trans rfl, (blk_cell BK189.out 3).trans rfl, (blk_cell BK189.out 4).trans rfl⟩ (fun hHeld => ?_)
      clear hK K
      refine norm_ (a' := ?_) ?_ ?_
      rotate_left
      · show Act.put _ (some 10) _ = _
        exact qp_
      exact norm_ (by simp only [putAll, Act.put, List.setIfInBounds_toArray, List.set_cons_zero, List.set_cons_succ]) (hCont (gb196, gb197) _ ⟨hHeld, (qk_ BK188), (qk_ BK189), (qk_ BK196), (qk_ BK197), GW196.out, GE196.out, NB188_196.out, NB196_188.out, NB189_196.out, NB196_189.out, NB197_196.out, NB196_197.out, GW197.out, GE197.out, NB188_197.out, NB197_188.out, NB189_197.out, NB197_189.out, qb_⟩)
    · skip
      refine box_step ?hg (N := 10) ?hd (cs := #[.int .i64 0, .int .i64 0, .int .i64 0, .int .i64 0, .int .i64 0]) (t := 25) ?hr ?_; (case hd => rfl); (case hg => rfl); (case hr => exact qq_)
      intro gb197 hg w27 hbox hb
      have BK197 := Aside0.mk (hbox)
      have GW197 := qga_ hg
      have GE197 := qga_ hg
      replace HB := qbs_ hb
      have NB188_197 := Aside0.mk ((by rw [hg]; exact Nat.ne_of_lt (blk_lt (qk_ BK188)) : gb188 ≠ gb197))
      have NB197_188 := Aside0.mk ((by rw [hg]; exact Nat.ne_of_gt (blk_lt (qk_ BK188)) : gb197 ≠ gb188))
      replace BK188 := qkb_ BK188 hb
      have NB189_197 := Aside0.mk ((by rw [hg]; exact Nat.ne_of_lt (blk_lt (qk_ BK189)) : gb189 ≠ gb197))
      have NB197_189 := Aside0.mk ((by rw [hg]; exact Nat.ne_of_gt (blk_lt (qk_ BK189)) : gb197 ≠ gb189))
      replace BK189 := qkb_ BK189 hb
      clear hb hbox hg
      refine hK.out _ _ ⟨(blk_cell BK189.out 0).trans rfl, (blk_cell BK189.out 1).trans rfl, (blk_cell BK189.out 2).trans rfl, (blk_cell BK189.out 3).trans rfl, (blk_cell BK189.out 4).trans rfl⟩ (fun hHeld => ?_)
      clear hK K
      refine norm_ (a' := ?_) ?_ ?_
      rotate_left
      · show Act.put _ (some 10) _ = _
        exact qp_
      refine one_ (i := 2) (N := some 9) #[o_,o_,o_,o_,i_,i_] rfl rfl (by kernel_rfl) (by decide) (fun K hK => ?_)
      refine box_step ?hg (N := 9) ?hd (cs := #[.int .i64 0, .int .i64 0, .int .i64 0, .int .i64 0, .int .i64 0]) (t := 25) ?hr ?_; (case hd => rfl); (case hg => rfl); (case hr => exact qq_)
      intro gb196 hg w28 hbox hb
      have BK196 := Aside0.mk (hbox)
      have GW196 := qga_ hg
      have GE196 := qga_ hg
      replace HB := qbs_ hb
      have NB188_196 := Aside0.mk ((by rw [hg]; exact Nat.ne_of_lt (blk_lt (qk_ BK188)) : gb188 ≠ gb196))
      have NB196_188 := Aside0.mk ((by rw [hg]; exact Nat.ne_of_gt (blk_lt (qk_ BK188)) : gb196 ≠ gb188))
      replace BK188 := qkb_ BK188 hb
      have NB189_196 := Aside0.mk ((by rw [hg]; exact Nat.ne_of_lt (blk_lt (qk_ BK189)) : gb189 ≠ gb196))
      have NB196_189 := Aside0.mk ((by rw [hg]; exact Nat.ne_of_gt (blk_lt (qk_ BK189)) : gb196 ≠ gb189))
      replace BK189 := qkb_ BK189 hb
      have NB197_196 := Aside0.mk ((by rw [hg]; exact Nat.ne_of_lt (blk_lt (qk_ BK197)) : gb197 ≠ gb196))
      have NB196_197 := Aside0.mk ((by rw [hg]; exact Nat.ne_of_gt (blk_lt (qk_ BK197)) : gb196 ≠ gb197))
      replace BK197 := qkb_ BK197 hb
      clear hb hbox hg
      refine hK.out _ _ ⟨(blk_cell BK189.out 0).trans rfl, (blk_cell BK189.out 1).trans rfl, (blk_cell BK189.out 2).trans rfl, (blk_cell BK189.out 3).trans rfl, (blk_cell BK189.out 4).trans rfl⟩ (fun hHeld => ?_)
      clear hK K
      refine norm_ (a' := ?_) ?_ ?_
      rotate_left
      · show Act.put _ (some 9) _ = _
        exact qp_
      exact norm_ (by simp only [putAll, Act.put, List.setIfInBounds_toArray, List.set_cons_zero, List.set_cons_succ]) (hCont (gb196, gb197) _ ⟨hHeld, (qk_ BK188), (qk_ BK189), (qk_ BK196), (qk_ BK197), GW196.out, GE196.out, NB188_196.out, NB196_188.out, NB189_196.out, NB196_189.out, NB197_196.out, NB196_197.out, GW197.out, GE197.out, NB188_197.out, NB197_188.out, NB189_197.out, NB197_189.out, qb_⟩)
  rintro ⟨gb196, gb197⟩ w29 ⟨hS_, h0_, h1_, h2_, h3_, h4_, h5_, h6_, h7_, h8_, h9_, h10_, h11_, h12_, h13_, h14_, h15_, h16_, h17_, h18_⟩
  replace BK188 : Aside0 (w29.heap[gb188]? = some (.cells #[.int .i64 2, .int .i64 10, .int .i64 1, .int .i64 5] 23 (0, 0))) := ⟨h0_⟩
  replace BK189 : Aside0 (w29.heap[gb189]? = some (.cells #[.int .i64 1, .int .i64 0, .int .i64 3, .int .i64 4, .int .i64 2] 25 (0, 0))) := ⟨h1_⟩
  have BK196 : Aside0 (w29.heap[gb196]? = some (.cells #[.int .i64 0, .int .i64 0, .int .i64 0, .int .i64 0, .int .i64 0] 25 (0, 0))) := ⟨h2_⟩
  have BK197 : Aside0 (w29.heap[gb197]? = some (.cells #[.int .i64 0, .int .i64 0, .int .i64 0, .int .i64 0, .int .i64 0] 25 (0, 0))) := ⟨h3_⟩
  have GW196 : Aside0 (w.heap.size ≤ gb196) := ⟨h4_⟩
  have GE196 : Aside0 (w.heap.size ≤ gb196) := ⟨h5_⟩
  have NB188_196 : Aside0 (gb188 ≠ gb196) := ⟨h6_⟩
  have NB196_188 : Aside0 (gb196 ≠ gb188) := ⟨h7_⟩
  have NB189_196 : Aside0 (gb189 ≠ gb196) := ⟨h8_⟩
  have NB196_189 : Aside0 (gb196 ≠ gb189) := ⟨h9_⟩
  have NB197_196 : Aside0 (gb197 ≠ gb196) := ⟨h10_⟩
  have NB196_197 : Aside0 (gb196 ≠ gb197) := ⟨h11_⟩
  have GW197 : Aside0 (w.heap.size ≤ gb197) := ⟨h12_⟩
  have GE197 : Aside0 (w.heap.size ≤ gb197) := ⟨h13_⟩
  have NB188_197 : Aside0 (gb188 ≠ gb197) := ⟨h14_⟩
  have NB197_188 : Aside0 (gb197 ≠ gb188) := ⟨h15_⟩
  have NB189_197 : Aside0 (gb189 ≠ gb197) := ⟨h16_⟩
  have NB197_189 : Aside0 (gb197 ≠ gb189) := ⟨h17_⟩
  replace HB : Aside0 (Below w.heap.size w w29) := ⟨h18_⟩
  clear h0_ h1_ h2_ h3_ h4_ h5_ h6_ h7_ h8_ h9_ h10_ h11_ h12_ h13_ h14_ h15_ h16_ h17_ h18_
  have hHeld : w29.cell? ⟨gb189, 0, none⟩ = some (.int .i64 1) ∧ w29.cell? ⟨gb189, 1, none⟩ = some (.int .i64 0) ∧ w29.cell? ⟨gb189, 2, none⟩ = some (.int .i64 3) ∧ w29.cell? ⟨gb189, 3, none⟩ = some (.int .i64 4) ∧ w29.cell? ⟨gb189, 4, none⟩ = some (.int .i64 2) := hS_
  refine norm_ (a' := ?_) ?_ ?_
  rotate_left
  · simp only [putAll, Act.put, List.setIfInBounds_toArray, List.set_cons_zero, List.set_cons_succ]
    rfl
  refine one_ (i := 4) (N := none) #[o_,o_,o_,o_,o_,i_] rfl rfl (by kernel_rfl) (by decide) (fun K hK => ?_)
  have hs30 : w29.cell? ⟨gb196, 0, none⟩ = some (.int .i64 0) := (blk_cell BK196.out 0).trans rfl
  have hfs30 := blk_frozen BK196.out 0
  have hns30_0 := NB188_196.out
  have hns30_1 := NB189_196.out
  have hns30_3 := NB197_196.out
  have hms30_0 := NB196_188.out
  have hms30_1 := NB196_189.out
  have hms30_3 := NB196_197.out
  have hs31 : w29.cell? ⟨gb196, 1, none⟩ = some (.int .i64 0) := (blk_cell BK196.out 1).trans rfl
  have hfs31 := blk_frozen BK196.out 1
  have hns31_0 := NB188_196.out
  have hns31_1 := NB189_196.out
  have hns31_3 := NB197_196.out
  have hms31_0 := NB196_188.out
  have hms31_1 := NB196_189.out
  have hms31_3 := NB196_197.out
  have hs32 : w29.cell? ⟨gb196, 2, none⟩ = some (.int .i64 0) := (blk_cell BK196.out 2).trans rfl
  have hfs32 := blk_frozen BK196.out 2
  have hns32_0 := NB188_196.out
  have hns32_1 := NB189_196.out
  have hns32_3 := NB197_196.out
  have hms32_0 := NB196_188.out
  have hms32_1 := NB196_189.out
  have hms32_3 := NB196_197.out
  have hs33 : w29.cell? ⟨gb196, 3, none⟩ = some (.int .i64 0) := (blk_cell BK196.out 3).trans rfl
  have hfs33 := blk_frozen BK196.out 3
  have hns33_0 := NB188_196.out
  have hns33_1 := NB189_196.out
  have hns33_3 := NB197_196.out
  have hms33_0 := NB196_188.out
  have hms33_1 := NB196_189.out
  have hms33_3 := NB196_197.out
  have hs34 : w29.cell? ⟨gb196, 4, none⟩ = some (.int .i64 0) := (blk_cell BK196.out 4).trans rfl
  have hfs34 := blk_frozen BK196.out 4
  have hns34_0 := NB188_196.out
  have hns34_1 := NB189_196.out
  have hns34_3 := NB197_196.out
  have hms34_0 := NB196_188.out
  have hms34_1 := NB196_189.out
  have hms34_3 := NB196_197.out
  refine skip_ (w1 := ?_) (by rfl) rfl ?_ ?_
  rotate_left
  · go_simp
    rfl
  refine hK.out _ _ ⟨((cell_far (p := ⟨gb196, _, none⟩) NB189_196.out _).trans (((cell_far (p := ⟨gb196, _, none⟩) NB189_196.out _).trans (((cell_far (p := ⟨gb196, _, none⟩) NB189_196.out _).trans (((cell_far (p := ⟨gb196, _, none⟩) NB189_196.out _).trans (((cell_far (p := ⟨gb196, _, none⟩) NB189_196.out _).trans (hHeld.1)))))))))), ((cell_far (p := ⟨gb196, _, none⟩) NB189_196.out _).trans (((cell_far (p := ⟨gb196, _, none⟩) NB189_196.out _).trans (((cell_far (p := ⟨gb196, _, none⟩) NB189_196.out _).trans (((cell_far (p := ⟨gb196, _, none⟩) NB189_196.out _).trans (((cell_far (p := ⟨gb196, _, none⟩) NB189_196.out _).trans (hHeld.2.1)))))))))), ((cell_far (p := ⟨gb196, _, none⟩) NB189_196.out _).trans (((cell_far (p := ⟨gb196, _, none⟩) NB189_196.out _).trans (((cell_far (p := ⟨gb196, _, none⟩) NB189_196.out _).trans (((cell_far (p := ⟨gb196, _, none⟩) NB189_196.out _).trans (((cell_far (p := ⟨gb196, _, none⟩) NB189_196.out _).trans (hHeld.2.2.1)))))))))), ((cell_far (p := ⟨gb196, _, none⟩) NB189_196.out _).trans (((cell_far (p := ⟨gb196, _, none⟩) NB189_196.out _).trans (((cell_far (p := ⟨gb196, _, none⟩) NB189_196.out _).trans (((cell_far (p := ⟨gb196, _, none⟩) NB189_196.out _).trans (((cell_far (p := ⟨gb196, _, none⟩) NB189_196.out _).trans (hHeld.2.2.2.1)))))))))), ((cell_far (p := ⟨gb196, _, none⟩) NB189_196.out _).trans (((cell_far (p := ⟨gb196, _, none⟩) NB189_196.out _).trans (((cell_far (p := ⟨gb196, _, none⟩) NB189_196.out _).trans (((cell_far (p := ⟨gb196, _, none⟩) NB189_196.out _).trans (((cell_far (p := ⟨gb196, _, none⟩) NB189_196.out _).trans (hHeld.2.2.2.2))))))))))⟩ (fun hHeld => ?_)
  clear hK K
  refine one_ (i := 5) (N := none) #[o_,o_,o_,o_,o_,o_] rfl rfl (by kernel_rfl) (by decide) (fun K hK => ?_)
  have hs35 : w29.cell? ⟨gb197, 0, none⟩ = some (.int .i64 0) := (blk_cell BK197.out 0).trans rfl
  have hfs35 := blk_frozen BK197.out 0
  have hns35_0 := NB188_197.out
  have hns35_1 := NB189_197.out
  have hns35_2 := NB196_197.out
  have hms35_0 := NB197_188.out
  have hms35_1 := NB197_189.out
  have hms35_2 := NB197_196.out
  have hs36 : w29.cell? ⟨gb197, 1, none⟩ = some (.int .i64 0) := (blk_cell BK197.out 1).trans rfl
  have hfs36 := blk_frozen BK197.out 1
  have hns36_0 := NB188_197.out
  have hns36_1 := NB189_197.out
  have hns36_2 := NB196_197.out
  have hms36_0 := NB197_188.out
  have hms36_1 := NB197_189.out
  have hms36_2 := NB197_196.out
  have hs37 : w29.cell? ⟨gb197, 2, none⟩ = some (.int .i64 0) := (blk_cell BK197.out 2).trans rfl
  have hfs37 := blk_frozen BK197.out 2
  have hns37_0 := NB188_197.out
  have hns37_1 := NB189_197.out
  have hns37_2 := NB196_197.out
  have hms37_0 := NB197_188.out
  have hms37_1 := NB197_189.out
  have hms37_2 := NB197_196.out
  have hs38 : w29.cell? ⟨gb197, 3, none⟩ = some (.int .i64 0) := (blk_cell BK197.out 3).trans rfl
  have hfs38 := blk_frozen BK197.out 3
  have hns38_0 := NB188_197.out
  have hns38_1 := NB189_197.out
  have hns38_2 := NB196_197.out
  have hms38_0 := NB197_188.out
  have hms38_1 := NB197_189.out
  have hms38_2 := NB197_196.out
  have hs39 : w29.cell? ⟨gb197, 4, none⟩ = some (.int .i64 0) := (blk_cell BK197.out 4).trans rfl
  have hfs39 := blk_frozen BK197.out 4
  have hns39_0 := NB188_197.out
  have hns39_1 := NB189_197.out
  have hns39_2 := NB196_197.out
  have hms39_0 := NB197_188.out
  have hms39_1 := NB197_189.out
  have hms39_2 := NB197_196.out
  refine skip_ (w1 := ?_) (by rfl) rfl ?_ ?_
  rotate_left
  · go_simp
    rfl
  refine hK.out _ _ ⟨((cell_far (p := ⟨gb197, _, none⟩) NB189_197.out _).trans (((cell_far (p := ⟨gb197, _, none⟩) NB189_197.out _).trans (((cell_far (p := ⟨gb197, _, none⟩) NB189_197.out _).trans (((cell_far (p := ⟨gb197, _, none⟩) NB189_197.out _).trans (((cell_far (p := ⟨gb197, _, none⟩) NB189_197.out _).trans (hHeld.1)))))))))), ((cell_far (p := ⟨gb197, _, none⟩) NB189_197.out _).trans (((cell_far (p := ⟨gb197, _, none⟩) NB189_197.out _).trans (((cell_far (p := ⟨gb197, _, none⟩) NB189_197.out _).trans (((cell_far (p := ⟨gb197, _, none⟩) NB189_197.out _).trans (((cell_far (p := ⟨gb197, _, none⟩) NB189_197.out _).trans (hHeld.2.1)))))))))), ((cell_far (p := ⟨gb197, _, none⟩) NB189_197.out _).trans (((cell_far (p := ⟨gb197, _, none⟩) NB189_197.out _).trans (((cell_far (p := ⟨gb197, _, none⟩) NB189_197.out _).trans (((cell_far (p := ⟨gb197, _, none⟩) NB189_197.out _).trans (((cell_far (p := ⟨gb197, _, none⟩) NB189_197.out _).trans (hHeld.2.2.1)))))))))), ((cell_far (p := ⟨gb197, _, none⟩) NB189_197.out _).trans (((cell_far (p := ⟨gb197, _, none⟩) NB189_197.out _).trans (((cell_far (p := ⟨gb197, _, none⟩) NB189_197.out _).trans (((cell_far (p := ⟨gb197, _, none⟩) NB189_197.out _).trans (((cell_far (p := ⟨gb197, _, none⟩) NB189_197.out _).trans (hHeld.2.2.2.1)))))))))), ((cell_far (p := ⟨gb197, _, none⟩) NB189_197.out _).trans (((cell_far (p := ⟨gb197, _, none⟩) NB189_197.out _).trans (((cell_far (p := ⟨gb197, _, none⟩) NB189_197.out _).trans (((cell_far (p := ⟨gb197, _, none⟩) NB189_197.out _).trans (((cell_far (p := ⟨gb197, _, none⟩) NB189_197.out _).trans (hHeld.2.2.2.2))))))))))⟩ (fun hHeld => ?_)
  clear hK K
  refine done_ (by kernel_rfl) ?_
  have hN1_ : (World.setCells (World.setCells w29 gb196 0 [.int .i64 1, .int .i64 0, .int .i64 3, .int .i64 4, .int .i64 2]) gb197 0 [.int .i64 1, .int .i64 0, .int .i64 3, .int .i64 4, .int .i64 2]).heap[gb188]? = _ := (setCells_far _ 0 _ NB188_197.out).trans ((setCells_far _ 0 _ NB188_196.out).trans BK188.out)
  have hN2_ : (World.setCells (World.setCells w29 gb196 0 [.int .i64 1, .int .i64 0, .int .i64 3, .int .i64 4, .int .i64 2]) gb197 0 [.int .i64 1, .int .i64 0, .int .i64 3, .int .i64 4, .int .i64 2]).heap[gb189]? = _ := (setCells_far _ 0 _ NB189_197.out).trans ((setCells_far _ 0 _ NB189_196.out).trans BK189.out)
  have hN3_ : (World.setCells (World.setCells w29 gb196 0 [.int .i64 1, .int .i64 0, .int .i64 3, .int .i64 4, .int .i64 2]) gb197 0 [.int .i64 1, .int .i64 0, .int .i64 3, .int .i64 4, .int .i64 2]).heap[gb196]? = _ := (setCells_far _ 0 _ NB196_197.out).trans (cells_all BK196.out [.int .i64 1, .int .i64 0, .int .i64 3, .int .i64 4, .int .i64 2] rfl)
  have hN4_ : (World.setCells (World.setCells w29 gb196 0 [.int .i64 1, .int .i64 0, .int .i64 3, .int .i64 4, .int .i64 2]) gb197 0 [.int .i64 1, .int .i64 0, .int .i64 3, .int .i64 4, .int .i64 2]).heap[gb197]? = _ := cells_all ((setCells_far _ 0 _ NB197_196.out).trans BK197.out) [.int .i64 1, .int .i64 0, .int .i64 3, .int .i64 4, .int .i64 2] rfl
  have hN5_ : Below w.heap.size w (World.setCells (World.setCells w29 gb196 0 [.int .i64 1, .int .i64 0, .int .i64 3, .int .i64 4, .int .i64 2]) gb197 0 [.int .i64 1, .int .i64 0, .int .i64 3, .int .i64 4, .int .i64 2]) := below_cells (below_cells HB.out GE196.out _) GE197.out _
  change Exit.then _ _ _ _ (World.setCells (World.setCells w29 gb196 0 [.int .i64 1, .int .i64 0, .int .i64 3, .int .i64 4, .int .i64 2]) gb197 0 [.int .i64 1, .int .i64 0, .int .i64 3, .int .i64 4, .int .i64 2])
  generalize (World.setCells (World.setCells w29 gb196 0 [.int .i64 1, .int .i64 0, .int .i64 3, .int .i64 4, .int .i64 2]) gb197 0 [.int .i64 1, .int .i64 0, .int .i64 3, .int .i64 4, .int .i64 2]) = W2_ at hN1_ hN2_ hN3_ hN4_ hN5_ ⊢
  replace BK188 := Aside0.mk hN1_
  replace BK189 := Aside0.mk hN2_
  replace BK196 := Aside0.mk hN3_
  replace BK197 := Aside0.mk hN4_
  replace HB := Aside0.mk hN5_
  clear hN1_ hN2_ hN3_ hN4_ hN5_ hHeld
  have hnb40 := NB196_188.out
  have hnc40 := NB188_196.out
  have hnb41 := NB196_189.out
  have hnc41 := NB189_196.out
  have hnb42 := NB196_197.out
  have hnc42 := NB197_196.out
  obtain ⟨hcz43_0, hcz43_1, hcz43_2, hcz43_3, hcz43_4⟩ := qz5_ BK196; obtain ⟨hfz43_0, hfz43_1, hfz43_2, hfz43_3, hfz43_4⟩ := qf5_ BK196
  have hnb44 := NB197_188.out
  have hnc44 := NB188_197.out
  have hnb45 := NB197_189.out
  have hnc45 := NB189_197.out
  obtain ⟨hcz46_0, hcz46_1, hcz46_2, hcz46_3, hcz46_4⟩ := qz5_ BK197; obtain ⟨hfz46_0, hfz46_1, hfz46_2, hfz46_3, hfz46_4⟩ := qf5_ BK197
  obtain ⟨hcz47_0, hcz47_1, hcz47_2, hcz47_3⟩ := qz4_ BK188; obtain ⟨hfz47_0, hfz47_1, hfz47_2, hfz47_3⟩ := qf4_ BK188
  obtain ⟨hcz48_0, hcz48_1, hcz48_2, hcz48_3, hcz48_4⟩ := qz5_ BK189; obtain ⟨hfz48_0, hfz48_1, hfz48_2, hfz48_3, hfz48_4⟩ := qf5_ BK189
  try go_wp2_with (first | ((with_reducible refine gate_dst (N := 48) rfl ?_); (try (refine gate_guard (by rfl) ?_; dsimp only)); refine Kd.R_lit k25 _ 25 ?hg (N := 48) ?hd (xs := ([(⟨1, 0, 3, 4, 2⟩ : S25), (⟨2, 0, 3, 4 + 2, 2⟩ : S25), (⟨3, 0, 3, 4, 2⟩ : S25)] : List (S25))) (inner := [.int .i64 1, .int .i64 0, .int .i64 3, .int .i64 4, .int .i64 2, .int .i64 2, .int .i64 0, .int .i64 3, .int .i64 (4 + 2), .int .i64 2, .int .i64 3, .int .i64 0, .int .i64 3, .int .i64 4, .int .i64 2]) (ok := fun _ => True) (okp := fun _ => True) ?hr ?hp (fun _ hk => hk) trivial (Below.refl _ _) (Nat.le_refl _) (by simp) ?_; (case hd => rfl); (case hg => rfl); (case hr => exact qq_); (case hp => exact (Reps.c5 (show Kd.M k25 _ _ _ (⟨1, 0, 3, 4, 2⟩ : S25) [.int .i64 1, .int .i64 0, .int .i64 3, .int .i64 4, .int .i64 2] from (k25_mkM _ _ _ (⟨1, 0, 3, 4, 2⟩ : S25) )) (Reps.c5 (show Kd.M k25 _ _ _ (⟨2, 0, 3, 4 + 2, 2⟩ : S25) [.int .i64 2, .int .i64 0, .int .i64 3, .int .i64 (4 + 2), .int .i64 2] from (k25_mkM _ _ _ (⟨2, 0, 3, 4 + 2, 2⟩ : S25) )) (Reps.c5 (show Kd.M k25 _ _ _ (⟨3, 0, 3, 4, 2⟩ : S25) [.int .i64 3, .int .i64 0, .int .i64 3, .int .i64 4, .int .i64 2] from (k25_mkM _ _ _ (⟨3, 0, 3, 4, 2⟩ : S25) )) (Reps.none _ _))))); intro v199 w49 ho50 hb hg_ hnew_; clear hg_ hnew_; (first | rw [← Ny198.out] at ho50 | (simp only [Int.reduceToNat] at ho50; rw [← Ny198.out] at ho50)); have HO200 := Aside0.mk (Kd.R_lower (Kd.R_newB (Kd.R_newB (Kd.R_newB ho50 (g := gb189) (o := .cells #[.int .i64 1, .int .i64 0, .int .i64 3, .int .i64 4, .int .i64 2] 25 (0, 0)) (by refine qd_ ?_; refine blk_far ?_ NB189_196.out _; refine qd_ ?_; refine blk_far ?_ NB189_197.out _; refine qd_ ?_; refine blk_far ?_ NB189_196.out _; refine qd_ ?_; exact BK189.out)) (g := gb196) (o := .cells #[.int .i64 2, .int .i64 0, .int .i64 3, .int .i64 (4 + 2), .int .i64 2] 25 (0, 0)) (by refine qd_ ?_; refine blk_put (cs := #[.int .i64 2, .int .i64 0, .int .i64 3, .int .i64 4, .int .i64 2]) ?_ 3 _ rfl; refine qd_ ?_; refine blk_far ?_ NB196_197.out _; refine qd_ ?_; refine blk_put (cs := #[.int .i64 1, .int .i64 0, .int .i64 3, .int .i64 4, .int .i64 2]) ?_ 0 _ rfl; refine qd_ ?_; exact BK196.out)) (g := gb197) (o := .cells #[.int .i64 3, .int .i64 0, .int .i64 3, .int .i64 4, .int .i64 2] 25 (0, 0)) (by refine qd_ ?_; refine blk_far ?_ NB197_196.out _; refine qd_ ?_; refine blk_put (cs := #[.int .i64 1, .int .i64 0, .int .i64 3, .int .i64 4, .int .i64 2]) ?_ 0 _ rfl; refine qd_ ?_; refine blk_far ?_ NB197_196.out _; refine qd_ ?_; exact BK197.out)) (below_size qb_)); replace BK188 := Aside0.mk (blk_below (g := gb188) (o := .cells #[.int .i64 2, .int .i64 10, .int .i64 1, .int .i64 5] 23 (0, 0)) (by refine qd_ ?_; refine blk_far ?_ NB188_196.out _; refine qd_ ?_; refine blk_far ?_ NB188_197.out _; refine qd_ ?_; refine blk_far ?_ NB188_196.out _; refine qd_ ?_; exact BK188.out) hb); replace BK189 := Aside0.mk (blk_below (g := gb189) (o := .cells #[.int .i64 1, .int .i64 0, .int .i64 3, .int .i64 4, .int .i64 2] 25 (0, 0)) (by refine qd_ ?_; refine blk_far ?_ NB189_196.out _; refine qd_ ?_; refine blk_far ?_ NB189_197.out _; refine qd_ ?_; refine blk_far ?_ NB189_196.out _; refine qd_ ?_; exact BK189.out) hb); replace BK196 := Aside0.mk (blk_below (g := gb196) (o := .cells #[.int .i64 2, .int .i64 0, .int .i64 3, .int .i64 (4 + 2), .int .i64 2] 25 (0, 0)) (by refine qd_ ?_; refine blk_put (cs := #[.int .i64 2, .int .i64 0, .int .i64 3, .int .i64 4, .int .i64 2]) ?_ 3 _ rfl; refine qd_ ?_; refine blk_far ?_ NB196_197.out _; refine qd_ ?_; refine blk_put (cs := #[.int .i64 1, .int .i64 0, .int .i64 3, .int .i64 4, .int .i64 2]) ?_ 0 _ rfl; refine qd_ ?_; exact BK196.out) hb); replace BK197 := Aside0.mk (blk_below (g := gb197) (o := .cells #[.int .i64 3, .int .i64 0, .int .i64 3, .int .i64 4, .int .i64 2] 25 (0, 0)) (by refine qd_ ?_; refine blk_far ?_ NB197_196.out _; refine qd_ ?_; refine blk_put (cs := #[.int .i64 1, .int .i64 0, .int .i64 3, .int .i64 4, .int .i64 2]) ?_ 0 _ rfl; refine qd_ ?_; refine blk_far ?_ NB197_196.out _; refine qd_ ?_; exact BK197.out) hb); replace HB := qbs_ hb; clear hb ho50) | ((with_reducible refine gate_dst (N := 49) rfl ?_); (try (refine gate_guard (by rfl) ?_; dsimp only)); refine Kd.R_lit (Kd.int .i64) _ 3 ?hg (N := 49) ?hd (xs := ([3, 2, 1] : List Int)) (inner := [.int .i64 3, .int .i64 2, .int .i64 1]) (ok := fun _ => True) (okp := fun _ => True) ?hr ?hp (fun _ hk => hk) trivial (Below.refl _ _) (Nat.le_refl _) (by simp) ?_; (case hd => rfl); (case hg => rfl); (case hr => exact qq_); (case hp => exact (Reps.one (show Kd.M (Kd.int .i64) _ _ _ 3 [.int .i64 3] from rfl) (Reps.one (show Kd.M (Kd.int .i64) _ _ _ 2 [.int .i64 2] from rfl) (Reps.one (show Kd.M (Kd.int .i64) _ _ _ 1 [.int .i64 1] from rfl) (Reps.none _ _))))); intro v202 w51 ho52 hb hg_ hnew_; clear hg_ hnew_; (first | rw [← Ny201.out] at ho52 | (simp only [Int.reduceToNat] at ho52; rw [← Ny201.out] at ho52)); replace HO200 := qrb_ HO200 hb; have HO203 := Aside0.mk (Kd.R_lower ho52 (below_size qb_)); replace BK188 := qkb_ BK188 hb; replace BK189 := qkb_ BK189 hb; replace BK196 := qkb_ BK196 hb; replace BK197 := qkb_ BK197 hb; replace HB := qbs_ hb; clear hb ho52; obtain ⟨Ao53, co53, eo53⟩ := Kd.R_slice HO200.out; subst eo53; obtain ⟨Ao54, co54, eo54⟩ := Kd.R_slice HO203.out; subst eo54) | ((with_reducible refine gate_callee (f := 13) rfl ?_); refine goesL_ (some 50) rfl rfl Tryd.func13 (by kernel_rfl) rfl #[.agg #[.int .i64 2, .int .i64 10, .int .i64 1, .int .i64 5], .slice Ao53 y198.length co53, .int .i64 30, .slice Ao54 y201.length co54] rfl ql_ ?_; (with_reducible refine (points_Order.calls k 2 10 1 5 _ _ y198 30 _ _ y201 t204 t207 _ ?side1 ?side2 ?side3 ?side4 ?side5 A4.out).mono ?_); (case side1 => exact qv_ (Kd.R_reads' HO200.out).2.2); (case side2 => exact (Kd.R_reads' HO200.out).2.1); (case side3 => exact qv_ (Kd.R_reads' HO203.out).2.2); (case side4 => exact (Kd.R_reads' HO203.out).2.1); (case side5 => exact TabOK.below HTA.out qb_); rintro e w55 ⟨v205, rfl, ho0, hb⟩; refine ⟨_, rfl, ?_⟩; replace HO200 := qrb_ HO200 hb; have HO206 := Aside0.mk (Kd.R_lower (Kd.R_new' ho0 (Kd.R_lt (qr_ HO203))) (below_size qb_)); replace HO203 := qel_ HO203 ho0 hb; replace BK188 := qkb_ BK188 hb; replace BK189 := qkb_ BK189 hb; replace BK196 := qkb_ BK196 hb; replace BK197 := qkb_ BK197 hb; replace HB := qbs_ hb; (try clear hb); (try clear hb2); (try clear hk); (try clear hi); (try clear ho0); obtain ⟨hcz56_0, hcz56_1, hcz56_2, hcz56_3⟩ := qz4_ BK188; obtain ⟨hfz56_0, hfz56_1, hfz56_2, hfz56_3⟩ := qf4_ BK188; obtain ⟨hcz57_0, hcz57_1, hcz57_2, hcz57_3, hcz57_4⟩ := qz5_ BK189; obtain ⟨hfz57_0, hfz57_1, hfz57_2, hfz57_3, hfz57_4⟩ := qf5_ BK189) | ((with_reducible refine gate_dst (N := 57) rfl ?_); (try (refine gate_guard (by rfl) ?_; dsimp only)); refine Kd.R_lit k25 _ 25 ?hg (N := 57) ?hd (xs := ([(⟨1, 0, 3, 4, 2⟩ : S25), (⟨1, 0, 3, 4, 2⟩ : S25)] : List (S25))) (inner := [.int .i64 1, .int .i64 0, .int .i64 3, .int .i64 4, .int .i64 2, .int .i64 1, .int .i64 0, .int .i64 3, .int .i64 4, .int .i64 2]) (ok := fun _ => True) (okp := fun _ => True) ?hr ?hp (fun _ hk => hk) trivial (Below.refl _ _) (Nat.le_refl _) (by simp) ?_; (case hd => rfl); (case hg => rfl); (case hr => exact qq_); (case hp => exact (Reps.c5 (show Kd.M k25 _ _ _ (⟨1, 0, 3, 4, 2⟩ : S25) [.int .i64 1, .int .i64 0, .int .i64 3, .int .i64 4, .int .i64 2] from (k25_mkM _ _ _ (⟨1, 0, 3, 4, 2⟩ : S25) )) (Reps.c5 (show Kd.M k25 _ _ _ (⟨1, 0, 3, 4, 2⟩ : S25) [.int .i64 1, .int .i64 0, .int .i64 3, .int .i64 4, .int .i64 2] from (k25_mkM _ _ _ (⟨1, 0, 3, 4, 2⟩ : S25) )) (Reps.none _ _)))); intro v209 w58 ho59 hb hg_ hnew_; clear hg_ hnew_; (first | rw [← Ny208.out] at ho59 | (simp only [Int.reduceToNat] at ho59; rw [← Ny208.out] at ho59)); replace HO203 := qrb_ HO203 hb; replace HO206 := qrb_ HO206 hb; have HO210 := Aside0.mk (Kd.R_lower (Kd.R_newB (Kd.R_newB (Kd.R_newB (Kd.R_new' ho59 (Kd.R_lt (qr_ HO200))) (g := gb189) (o := .cells #[.int .i64 1, .int .i64 0, .int .i64 3, .int .i64 4, .int .i64 2] 25 (0, 0)) (qk_ BK189)) (g := gb196) (o := .cells #[.int .i64 2, .int .i64 0, .int .i64 3, .int .i64 (4 + 2), .int .i64 2] 25 (0, 0)) (qk_ BK196)) (g := gb197) (o := .cells #[.int .i64 3, .int .i64 0, .int .i64 3, .int .i64 4, .int .i64 2] 25 (0, 0)) (qk_ BK197)) (below_size qb_)); replace HO200 := qel_ HO200 ho59 hb; replace BK188 := qkb_ BK188 hb; replace BK189 := qkb_ BK189 hb; replace BK196 := qkb_ BK196 hb; replace BK197 := qkb_ BK197 hb; replace HB := qbs_ hb; clear hb ho59) | ((with_reducible refine gate_dst (N := 58) rfl ?_); (try (refine gate_guard (by rfl) ?_; dsimp only)); refine Kd.R_lit (Kd.int .i64) _ 3 ?hg (N := 58) ?hd (xs := ([1, 2] : List Int)) (inner := [.int .i64 1, .int .i64 2]) (ok := fun _ => True) (okp := fun _ => True) ?hr ?hp (fun _ hk => hk) trivial (Below.refl _ _) (Nat.le_refl _) (by simp) ?_; (case hd => rfl); (case hg => rfl); (case hr => exact qq_); (case hp => exact (Reps.one (show Kd.M (Kd.int .i64) _ _ _ 1 [.int .i64 1] from rfl) (Reps.one (show Kd.M (Kd.int .i64) _ _ _ 2 [.int .i64 2] from rfl) (Reps.none _ _)))); intro v212 w60 ho61 hb hg_ hnew_; clear hg_ hnew_; (first | rw [← Ny211.out] at ho61 | (simp only [Int.reduceToNat] at ho61; rw [← Ny211.out] at ho61)); replace HO200 := qrb_ HO200 hb; replace HO210 := qrb_ HO210 hb; have HO213 := Aside0.mk (Kd.R_lower (Kd.R_new' (Kd.R_new' ho61 (Kd.R_lt (qr_ HO203))) (Kd.R_lt (qr_ HO206))) (below_size qb_)); replace HO203 := qel_ HO203 ho61 hb; replace HO206 := qel_ HO206 ho61 hb; replace BK188 := qkb_ BK188 hb; replace BK189 := qkb_ BK189 hb; replace BK196 := qkb_ BK196 hb; replace BK197 := qkb_ BK197 hb; replace HB := qbs_ hb; clear hb ho61; obtain ⟨Ao62, co62, eo62⟩ := Kd.R_slice HO210.out; subst eo62; obtain ⟨Ao63, co63, eo63⟩ := Kd.R_slice HO213.out; subst eo63) | ((with_reducible refine gate_callee (f := 13) rfl ?_); refine goesL_ (some 59) rfl rfl Tryd.func13 (by kernel_rfl) rfl #[.agg #[.int .i64 2, .int .i64 10, .int .i64 1, .int .i64 5], .slice Ao62 y208.length co62, .int .i64 30, .slice Ao63 y211.length co63] rfl ql_ ?_; (with_reducible refine (points_Order.calls k 2 10 1 5 _ _ y208 30 _ _ y211 t214 t217 _ ?side1 ?side2 ?side3 ?side4 ?side5 A5.out).mono ?_); (case side1 => exact qv_ (Kd.R_reads' HO210.out).2.2); (case side2 => exact (Kd.R_reads' HO210.out).2.1); (case side3 => exact qv_ (Kd.R_reads' HO213.out).2.2); (case side4 => exact (Kd.R_reads' HO213.out).2.1); (case side5 => exact TabOK.below HTA.out qb_); rintro e w64 ⟨v215, rfl, ho0, hb⟩; refine ⟨_, rfl, ?_⟩; replace HO200 := qrb_ HO200 hb; replace HO210 := qrb_ HO210 hb; have HO216 := Aside0.mk (Kd.R_lower (Kd.R_new' (Kd.R_new' (Kd.R_new' ho0 (Kd.R_lt (qr_ HO203))) (Kd.R_lt (qr_ HO206))) (Kd.R_lt (qr_ HO213))) (below_size qb_)); replace HO203 := qel_ HO203 ho0 hb; replace HO206 := qel_ HO206 ho0 hb; replace HO213 := qel_ HO213 ho0 hb; replace BK188 := qkb_ BK188 hb; replace BK189 := qkb_ BK189 hb; replace BK196 := qkb_ BK196 hb; replace BK197 := qkb_ BK197 hb; replace HB := qbs_ hb; (try clear hb); (try clear hb2); (try clear hk); (try clear hi); (try clear ho0)) | ((with_reducible refine gate_dst (N := 86) rfl ?_); (try (refine gate_guard (by rfl) ?_; dsimp only)); refine Kd.R_lit (Kd.int .i64) _ 3 ?hg (N := 86) ?hd (xs := ([1, 2, 0] : List Int)) (inner := [.int .i64 1, .int .i64 2, .int .i64 0]) (ok := fun _ => True) (okp := fun _ => True) ?hr ?hp (fun _ hk => hk) trivial (Below.refl _ _) (Nat.le_refl _) (by simp) ?_; (case hd => rfl); (case hg => rfl); (case hr => exact qq_); (case hp => exact (Reps.one (show Kd.M (Kd.int .i64) _ _ _ 1 [.int .i64 1] from rfl) (Reps.one (show Kd.M (Kd.int .i64) _ _ _ 2 [.int .i64 2] from rfl) (Reps.one (show Kd.M (Kd.int .i64) _ _ _ 0 [.int .i64 0] from rfl) (Reps.none _ _))))); intro v219 w65 ho66 hb hg_ hnew_; clear hg_ hnew_; (first | rw [← Ny218.out] at ho66 | (simp only [Int.reduceToNat] at ho66; rw [← Ny218.out] at ho66)); replace HO200 := qrb_ HO200 hb; replace HO210 := qrb_ HO210 hb; have HO220 := Aside0.mk (Kd.R_lower (Kd.R_new' (Kd.R_new' (Kd.R_new' (Kd.R_new' ho66 (Kd.R_lt (qr_ HO203))) (Kd.R_lt (qr_ HO206))) (Kd.R_lt (qr_ HO213))) (Kd.R_lt (qr_ HO216))) (below_size qb_)); replace HO203 := qel_ HO203 ho66 hb; replace HO206 := qel_ HO206 ho66 hb; replace HO213 := qel_ HO213 ho66 hb; replace HO216 := qel_ HO216 ho66 hb; replace BK188 := qkb_ BK188 hb; replace BK189 := qkb_ BK189 hb; replace BK196 := qkb_ BK196 hb; replace BK197 := qkb_ BK197 hb; replace HB := qbs_ hb; clear hb ho66; obtain ⟨Ao67, co67, eo67⟩ := Kd.R_slice HO206.out; subst eo67; obtain ⟨Ao68, co68, eo68⟩ := Kd.R_slice HO220.out; subst eo68) | (go_at_call 15; (with_reducible refine (cohousingref21_Same.calls k _ _ t204 _ _ y218 true _ ?side1 ?side2 ?side3 ?side4 A12.out).mono ?_); (case side1 => exact qv_ (Kd.R_reads' HO206.out).2.2); (case side2 => exact (Kd.R_reads' HO206.out).2.1); (case side3 => exact qv_ (Kd.R_reads' HO220.out).2.2); (case side4 => exact (Kd.R_reads' HO220.out).2.1); rintro e w' ⟨rfl, ⟨nd, rfl⟩⟩))
  go_ret
  exact ⟨qx_, qb_⟩
end Go.Proofs.YtfhmbfadbfnnaaaDoor.Given
