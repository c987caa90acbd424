/- The arguments of the laws, opened to what their cells hold (written by a program of this session's own, wip/tools/argsgen.py). Conditions: as each theorem states. -/
import Derived.Test.YtfbgkcadnmcakaaRows
import Derived.Test.YtfbgkcadnmcakaaPx0
import Derived.WalkKit
import Derived.ProofKit
import Derived.OpenShut
import Derived.Lib.SmallJoins
import Derived.ChangeArms
import Derived.SliceStrings
import Derived.Deep.Slices
import Derived.Deep.Fields
import Derived.Test.YtfbgkcadnmcakaaWWords
namespace Go.Proofs.Ytfbgkcadnmcakaa.Args
open Go.ChangeShapes Go.WideShapes Go.ChangeAt Go.RowKit
open Go.ChangeMaps (open_string shut_string)
open Go.Joins Go.Deep
open Go.Proofs.YtfbgkcadnmcakaaW.PrintWords Go.Proofs.Ytfbgkcadnmcakaa.Px
set_option linter.unusedVariables false
set_option linter.unusedSimpArgs false
theorem a9s {α : Type} (d : Kd α) (w : World) : Kd.C d w none ([] : List α).length [] := ⟨rfl, by simp, fun h => by simp at h⟩
theorem b1b {α : Type} {d : Kd α} {w : World} {a : Addr} {len : Nat} (hl : len ≤ 9223372036854775807)
    (h : ∀ i, i < len → ∃ x c, c.length = d.sz ∧ d.K w x c ∧ ∀ j u, c[j]? = some u → w.cell? (a.add (i * d.sz + j)) = some u) : ∃ xs : List α, xs.length = len ∧ Kd.C d w (some a) xs.length xs := by
  have key : ∀ n, n ≤ len → ∃ xs : List α, xs.length = n ∧ ∀ j p, xs[j]? = some p → ∃ c, c.length = d.sz ∧ d.K w p c ∧ ∀ i u, c[i]? = some u → w.cell? (a.add (j * d.sz + i)) = some u := by
    intro n
    induction n with
    | zero => exact fun _ => ⟨[], rfl, fun j p h => by simp at h⟩
    | succ n ih =>
      intro hn
      obtain ⟨xs, hx, hp⟩ := ih (by omega)
      obtain ⟨x, c, h1, h2, h3⟩ := h n (by omega)
      refine ⟨xs ++ [x], by simp [hx], fun j p hj => ?_⟩
      rcases Nat.lt_trichotomy j n with q | q | q
      · rw [List.getElem?_append_left (by omega)] at hj
        exact hp j p hj
      · subst q
        rw [List.getElem?_append_right (by omega), hx, Nat.sub_self] at hj
        obtain rfl : x = p := by simpa using hj
        exact ⟨c, h1, h2, h3⟩
      · rw [List.getElem?_eq_none (by simp [hx]; omega)] at hj
        simp at hj
  obtain ⟨xs, hx, hp⟩ := key len (Nat.le_refl _)
  exact ⟨xs, hx, rfl, by omega, fun _ => ⟨a, rfl, hp⟩⟩
section
variable {H : Type} {enc : TypeId × Value → H} {W : World} {n : Nat} {v : Value} {y : DataW H × List MemPlace}
theorem b0f : maxLen ≤ 9223372036854775807 := by decide
set_option maxRecDepth 100000 in
theorem b5i {c_0 c_1 : Value} (h : DataW.trod enc Try.prog W 0 (fun _ => true) true n 28 [c_0, c_1] = some y) : ∃ (f0 : Int) (f1 : Int), [c_0, c_1] = [.int .i64 f0, .int .i64 f1] ∧ (Lit.int .i64 f0).wf = true ∧ (Lit.int .i64 f1).wf = true := by
  obtain ⟨xs, n, _, hx, _, hlen, hg⟩ := DataW.trod_struct Try.underlying28 h
  match xs, hlen with
  | [y0, y1], _ =>
    have e0 : DataW.trod enc Try.prog W 0 (fun _ => true) true n 3 [c_0] = some y0 := hg 0 _ rfl
    obtain ⟨f0, q, _, s0⟩ := DataW.trod_int Try.underlying3 e0
    obtain rfl : c_0 = .int .i64 f0 := by simpa using q
    have e1 : DataW.trod enc Try.prog W 0 (fun _ => true) true n 3 [c_1] = some y1 := hg 1 _ rfl
    obtain ⟨f1, q, _, s1⟩ := DataW.trod_int Try.underlying3 e1
    obtain rfl : c_1 = .int .i64 f1 := by simpa using q
    exact ⟨f0, f1, rfl, s0, s1⟩
set_option maxRecDepth 100000 in
theorem b5j {c_0 c_1 c_2 c_3 c_4 c_5 : Value} (h : DataW.trod enc Try.prog W 0 (fun _ => true) true n 30 [c_0, c_1, c_2, c_3, c_4, c_5] = some y) : ∃ (f0 : Int) (f1 : Int) (f2 : Int) (f3 : Int) (f4 : Int) (f5 : Int), [c_0, c_1, c_2, c_3, c_4, c_5] = [.int .i64 f0, .int .i64 f1, .int .i64 f2, .int .i64 f3, .int .i64 f4, .int .i64 f5] ∧ (Lit.int .i64 f0).wf = true ∧ (Lit.int .i64 f1).wf = true ∧ (Lit.int .i64 f2).wf = true ∧ (Lit.int .i64 f3).wf = true ∧ (Lit.int .i64 f4).wf = true ∧ (Lit.int .i64 f5).wf = true := by
  obtain ⟨xs, n, _, hx, _, hlen, hg⟩ := DataW.trod_struct Try.underlying30 h
  match xs, hlen with
  | [y0, y1, y2, y3, y4], _ =>
    have e0 : DataW.trod enc Try.prog W 0 (fun _ => true) true n 3 [c_0] = some y0 := hg 0 _ rfl
    obtain ⟨f0, q, _, s0⟩ := DataW.trod_int Try.underlying3 e0
    obtain rfl : c_0 = .int .i64 f0 := by simpa using q
    have e1 : DataW.trod enc Try.prog W 0 (fun _ => true) true n 3 [c_1] = some y1 := hg 1 _ rfl
    obtain ⟨f1, q, _, s1⟩ := DataW.trod_int Try.underlying3 e1
    obtain rfl : c_1 = .int .i64 f1 := by simpa using q
    have e2 : DataW.trod enc Try.prog W 0 (fun _ => true) true n 3 [c_2] = some y2 := hg 2 _ rfl
    obtain ⟨f2, q, _, s2⟩ := DataW.trod_int Try.underlying3 e2
    obtain rfl : c_2 = .int .i64 f2 := by simpa using q
    have e3 : DataW.trod enc Try.prog W 0 (fun _ => true) true n 3 [c_3] = some y3 := hg 3 _ rfl
    obtain ⟨f3, q, _, s3⟩ := DataW.trod_int Try.underlying3 e3
    obtain rfl : c_3 = .int .i64 f3 := by simpa using q
    have e4 : DataW.trod enc Try.prog W 0 (fun _ => true) true n 28 [c_4, c_5] = some y4 := hg 4 _ rfl
    obtain ⟨f4, f5, q, s4, s5⟩ := b5i e4
    injection q with q_0 q_r
    subst q_0
    injection q_r with q_1 q_r
    subst q_1
    exact ⟨f0, f1, f2, f3, f4, f5, rfl, s0, s1, s2, s3, s4, s5⟩
set_option maxRecDepth 100000 in
theorem b5k (h : DataW.trod enc Try.prog W 0 (fun _ => true) true n 22 [v] = some y) : ∃ A c xs, v = .slice A xs.length c ∧ xs.length ≤ c ∧ Kd.C k30 W A xs.length xs := by
  rcases open_slice Try.underlying22 h with h0 | ⟨a, len, cap, m, n, D, Pl, hcs, hb, hl, hm, hmm, hx, hi⟩
  · obtain rfl : v = .slice none 0 0 := by simpa using h0.1
    exact ⟨none, 0, [], rfl, Nat.le_refl _, a9s _ _⟩
  · obtain rfl : v = .slice (some a) len cap := by simpa using hcs
    simp only [if_true] at hmm
    obtain ⟨xs, rfl, hC⟩ := b1b (d := k30) (w := W) (a := a) (len := len) (by have := b0f; omega) (fun i him => by
      obtain ⟨cs', hc, ht'⟩ := hi i (by omega)
      rw [show Try.prog.cellsOf 30 = 6 by kernel_rfl] at hc
      obtain ⟨_, hcl, hat⟩ := World.cells?_some hc
      match cs', hcl, hat, ht' with
      | [c_0, c_1, c_2, c_3, c_4, c_5], _, hat, ht' =>
        obtain ⟨f0, f1, f2, f3, f4, f5, q, s0, s1, s2, s3, s4, s5⟩ := b5j ht'
        injection q with q_0 q_r
        subst q_0
        injection q_r with q_1 q_r
        subst q_1
        injection q_r with q_2 q_r
        subst q_2
        injection q_r with q_3 q_r
        subst q_3
        injection q_r with q_4 q_r
        subst q_4
        injection q_r with q_5 q_r
        subst q_5
        refine ⟨(⟨f0, f1, f2, f3, (⟨f4, f5⟩ : S28)⟩ : S30), [.int .i64 f0, .int .i64 f1, .int .i64 f2, .int .i64 f3, .int .i64 f4, .int .i64 f5], rfl, b4v W (⟨f0, f1, f2, f3, (⟨f4, f5⟩ : S28)⟩ : S30) , fun j u hu => ?_⟩
        have hj : j < 6 := (List.getElem?_eq_some_iff.1 hu).1
        rw [show (k30).sz = 6 from rfl, ← Go.Deep.add_add]
        exact (hat j hj).trans hu)
    exact ⟨some a, cap, xs, rfl, hl, hC⟩
set_option maxRecDepth 100000 in
theorem b5l (h : DataW.trod enc Try.prog W 0 (fun _ => true) true n 34 [v] = some y) : ∃ A c xs, v = .slice A xs.length c ∧ xs.length ≤ c ∧ Kd.C (Kd.int .i64) W A xs.length xs := by
  rcases open_ints Try.underlying34 Try.underlying3 (by kernel_rfl) h with ⟨hcs, _⟩ | ⟨a, len, cap, zs, hcs, _, hl, hm, hz, _, hcell, _⟩
  · obtain rfl : v = .slice none 0 0 := by simpa using hcs
    exact ⟨none, 0, [], rfl, Nat.le_refl _, a9s _ _⟩
  · obtain rfl : v = .slice (some a) len cap := by simpa using hcs
    simp only [if_true] at hz
    obtain ⟨xs, rfl, hC⟩ := b1b (d := (Kd.int .i64)) (w := W) (a := a) (len := len) (by have := b0f; omega) (fun i hi => ⟨zs.getD i 0, [.int .i64 (zs.getD i 0)], rfl, rfl, fun j u hu => by
      match j, hu with
      | 0, hu =>
        obtain rfl : Value.int .i64 (zs.getD i 0) = u := by simpa using hu
        have := hcell i (by omega)
        rw [show i * ((Kd.int .i64)).sz + 0 = i from Nat.mul_one i]
        exact this⟩)
    exact ⟨some a, cap, xs, rfl, hl, hC⟩
set_option maxRecDepth 100000 in
theorem b4g {r : Reach} {b0 : Nat} {d : DataW H} {p : List MemPlace} (hv : Value.okWide Try.prog W r b0 22 v) (h : DataW.Trod enc Try.prog W 0 (fun _ => true) true 22 v d p) : ∃ A c xs, v = .slice A xs.length c ∧ xs.length ≤ c ∧ Kd.C k30 W A xs.length xs := by
  obtain ⟨a, len, cap, rfl⟩ := okWide_slice Try.underlying22 hv
  obtain ⟨fuel, hf⟩ := h
  exact b5k hf
set_option maxRecDepth 100000 in
theorem b3m {A : Option Addr} {m c : Nat} {d : DataW H} {p : List MemPlace} (h : DataW.Trod enc Try.prog W 0 (fun _ => true) true 22 (.slice A m c) d p) : (m : Int) ≤ 9223372036854775807 := by
  obtain ⟨fuel, hf⟩ := h
  rcases open_slice Try.underlying22 hf with h0 | ⟨a, len, cap, m1, n1, D, Pl, hcs, hb, hl, hm, hmm, hx, hi⟩
  · have e : A = none ∧ m = 0 ∧ c = 0 := by simpa [Value.cells] using h0.1
    omega
  · have e : A = some a ∧ m = len ∧ c = cap := by simpa [Value.cells] using hcs
    have := b0f
    omega
set_option maxRecDepth 100000 in
theorem b4h {r : Reach} {b0 : Nat} {d : DataW H} {p : List MemPlace} (hv : Value.okWide Try.prog W r b0 34 v) (h : DataW.Trod enc Try.prog W 0 (fun _ => true) true 34 v d p) : ∃ A c xs, v = .slice A xs.length c ∧ xs.length ≤ c ∧ Kd.C (Kd.int .i64) W A xs.length xs := by
  obtain ⟨a, len, cap, rfl⟩ := okWide_slice Try.underlying34 hv
  obtain ⟨fuel, hf⟩ := h
  exact b5l hf
end
end Go.Proofs.Ytfbgkcadnmcakaa.Args
