/- What works.open hands back, with the map of slices told by what its slices lead to. Conditions: as each theorem states. -/
import Derived.Test.YtheibjkjmkanoaaGSite
import Derived.Test.YtheibjkjmkanoaaPx6
namespace Go.Proofs.Ytheibjkjmkanoaa.Given
open Go.RowKit Go.MapKept Go.Proofs.YtheibjkjmkanoaaW.PrintWords Go.Proofs.YtheibjkjmkanoaaW.PrintLast Go.Proofs.YtheibjkjmkanoaaW.PrintMore Go.Proofs.Ytheibjkjmkanoaa.Px
set_option linter.unusedVariables false
set_option linter.unusedSimpArgs false
def a4n.f (k : Nat) (l0 : List S51) (l1 : List S58) : Option (Bool × List (Int × Int) × List (Int × List S56)) := (a0q.f k l0 l1).bind fun r => some (r.1, r.2.1, a4s l1 r.2.2)
theorem a4n.mono : ∀ a0 a1 k, LeO (a4n.f k a0 a1) (a4n.f (k + 1) a0 a1) := by
 intro a0 a1 k
 unfold a4n.f
 exact LeO.bind (a0q.mono _ _ _) (fun _ => LeO.refl _)
theorem a4n.a7s (k : Nat) (A0 : Option Addr) (c0 : Nat) (l0 : List S51) (A1 : Option Addr) (c1 : Nat) (l1 : List S58) (M1 : List (Int × Int)) (M2 : List (Int × List S56)) (w wb : World)
  (hr0 : Kd.C k51 wb A0 l0.length l0) (hc0 : l0.length ≤ c0) (hr1 : Kd.C k58 wb A1 l1.length l1) (hc1 : l1.length ≤ c1) (hB : Below wb.heap.size wb w) (h : a4n.f k l0 l1 = some (true, M1, M2)) :
  Calls Try.prog 30 #[.slice A0 l0.length c0, .slice A1 l1.length c1] w fun e w' => ∃ (g1 g2 : Nat) (gh : List (Int × (List S56 × Value))), e = .returned (.tuple #[.agg #[.slice A0 l0.length c0, .map (some g1), .map (some g2)], .bool true]) ∧
   w.heap.size ≤ g1 ∧ w.heap.size ≤ g2 ∧ g1 ≠ g2 ∧ w'.heap[g1]? = some (a1i (Value.int .i64) M1) ∧ w'.heap[g2]? = some (a1i (fun e_ : List (S56) × Value => e_.2) gh) ∧ a5n gh = M2 ∧ a5a k56 wb gh ∧ Below w.heap.size w w' := by
 unfold a4n.f at h
 obtain ⟨⟨r1, r2, r3⟩, h1, h2⟩ := Option.bind_eq_some_iff.1 h
 simp only [Option.some.injEq, Prod.mk.injEq] at h2
 obtain ⟨rfl, rfl, rfl⟩ := h2
 refine (a0q.calls k A0 c0 l0 A1 c1 l1 true r2 r3 w (Kd.a2s hr0 hB) hc0 (Kd.a2s hr1 hB) hc1 (fun i => trV w A1 l1 i) (fun _ => rfl) h1).mono ?_
 rintro e w' ⟨Aq, nq, cq, m1, m2, rfl, hp, hb⟩
 obtain ⟨ev, g1, g2, rfl, rfl, a1, a2, a3, a4, a5⟩ := hp rfl
 rw [ev]
 refine ⟨g1, g2, ixgh l1 (fun i => trV w A1 l1 i) r3, rfl, a1, a2, a3, a4, by rw [b4l]; exact a5, b2u _ _ _, b2v (fun i => b7u hr1 hB i) hr1 _, hb⟩
theorem a4n.b2w (k : Nat) (A0 : Option Addr) (c0 : Nat) (l0 : List S51) (A1 : Option Addr) (c1 : Nat) (l1 : List S58) (M1 : List (Int × Int)) (M2 : List (Int × List S56)) (w wb : World)
  (hr0 : Kd.C k51 wb A0 l0.length l0) (hc0 : l0.length ≤ c0) (hr1 : Kd.C k58 wb A1 l1.length l1) (hc1 : l1.length ≤ c1) (hB : Below wb.heap.size wb w) (h : a4n.f k l0 l1 = some (false, M1, M2)) :
  Calls Try.prog 30 #[.slice A0 l0.length c0, .slice A1 l1.length c1] w fun e w' => ∃ (Aq : Option Addr) (nq cq : Nat) (m1 m2 : Option Nat), e = .returned (.tuple #[.agg #[.slice Aq nq cq, .map m1, .map m2], .bool false]) ∧ Below w.heap.size w w' := by
 unfold a4n.f at h
 obtain ⟨⟨r1, r2, r3⟩, h1, h2⟩ := Option.bind_eq_some_iff.1 h
 simp only [Option.some.injEq, Prod.mk.injEq] at h2
 obtain ⟨rfl, rfl, rfl⟩ := h2
 refine (a0q.calls k A0 c0 l0 A1 c1 l1 false r2 r3 w (Kd.a2s hr0 hB) hc0 (Kd.a2s hr1 hB) hc1 (fun i => trV w A1 l1 i) (fun _ => rfl) h1).mono ?_
 rintro e w' ⟨Aq, nq, cq, m1, m2, rfl, _, hb⟩
 exact ⟨Aq, nq, cq, m1, m2, rfl, hb⟩
end Go.Proofs.Ytheibjkjmkanoaa.Given
