/- The arguments of the meeting's laws, opened to what their cells hold. Conditions: as each theorem states. -/
import Derived.Test.YtemnlgefngjliaaRows
import Derived.Test.YtemnlgefngjliaaPx0
import Derived.WalkKit
import Derived.ProofKit
import Derived.OpenShut
import Derived.Lib.SmallJoins
import Derived.ChangeArms
import Derived.SliceStrings
import Derived.Deep.Slices
import Derived.Deep.Fields
namespace Go.Proofs.Ytemnlgefngjliaa.Args
open Go.ChangeShapes Go.WideShapes Go.ChangeAt Go.RowKit
open Go.ChangeMaps (open_string shut_string)
open Go.Joins Go.Deep
open Go.Proofs.YtemnlgefngjliaaW.PrintWords Go.Proofs.Ytemnlgefngjliaa.Px
set_option linter.unusedVariables false
set_option linter.unusedSimpArgs false
theorem wf_i64 {n : Int} (h : (Lit.int .i64 n).wf = true) : -9223372036854775808 ≤ n ∧ n ≤ 9223372036854775807 := by
  simpa [Lit.wf, IntKind.min, IntKind.max, IntKind.bits, IntKind.signed] using h
theorem a5s {α : Type} (d : Kd α) (w : World) : Kd.C d w none ([] : List α).length [] := ⟨rfl, by simp, fun h => by simp at h⟩
theorem b0f {α : Type} {d : Kd α} {w : World} {a : Addr} {len : Nat} (hl : len ≤ 9223372036854775807)
    (h : ∀ i, i < len → ∃ x c, c.length = d.sz ∧ d.K w x c ∧ ∀ j u, c[j]? = some u → w.cell? (a.add (i * d.sz + j)) = some u) : ∃ xs : List α, xs.length = len ∧ Kd.C d w (some a) xs.length xs := by
  have key : ∀ n, n ≤ len → ∃ xs : List α, xs.length = n ∧ ∀ j p, xs[j]? = some p → ∃ c, c.length = d.sz ∧ d.K w p c ∧ ∀ i u, c[i]? = some u → w.cell? (a.add (j * d.sz + i)) = some u := by
    intro n
    induction n with
    | zero => exact fun _ => ⟨[], rfl, fun j p h => by simp at h⟩
    | succ n ih =>
      intro hn
      obtain ⟨xs, hx, hp⟩ := ih (by omega)
      obtain ⟨x, c, h1, h2, h3⟩ := h n (by omega)
      refine ⟨xs ++ [x], by simp [hx], fun j p hj => ?_⟩
      rcases Nat.lt_trichotomy j n with q | q | q
      · rw [List.getElem?_append_left (by omega)] at hj
        exact hp j p hj
      · subst q
        rw [List.getElem?_append_right (by omega), hx, Nat.sub_self] at hj
        obtain rfl : x = p := by simpa using hj
        exact ⟨c, h1, h2, h3⟩
      · rw [List.getElem?_eq_none (by simp [hx]; omega)] at hj
        simp at hj
  obtain ⟨xs, hx, hp⟩ := key len (Nat.le_refl _)
  exact ⟨xs, hx, rfl, by omega, fun _ => ⟨a, rfl, hp⟩⟩
section
variable {H : Type} {enc : TypeId × Value → H} {W : World} {n : Nat} {v : Value} {y : DataW H × List MemPlace}
theorem b1l : maxLen ≤ 9223372036854775807 := by decide
theorem b7s (h : DataW.trod enc Try.prog W 0 (fun _ => true) true n 28 [v] = some y) : ∃ A c xs, v = .slice A xs.length c ∧ xs.length ≤ c ∧ Kd.C (Kd.int .i64) W A xs.length xs := by
  rcases open_ints Try.underlying28 Try.underlying3 (by kernel_rfl) h with ⟨hcs, _⟩ | ⟨a, len, cap, zs, hcs, _, hl, hm, hz, _, hcell, _⟩
  · obtain rfl : v = .slice none 0 0 := by simpa using hcs
    exact ⟨none, 0, [], rfl, Nat.le_refl _, a5s _ _⟩
  · obtain rfl : v = .slice (some a) len cap := by simpa using hcs
    simp only [if_true] at hz
    obtain ⟨xs, rfl, hC⟩ := b0f (d := Kd.int .i64) (w := W) (a := a) (len := len) (by have := b1l; omega) (fun i hi => ⟨zs.getD i 0, [.int .i64 (zs.getD i 0)], rfl, rfl, fun j u hu => by
      match j, hu with
      | 0, hu =>
        obtain rfl : Value.int .i64 (zs.getD i 0) = u := by simpa using hu
        have := hcell i (by omega)
        rw [show i * (Kd.int .i64).sz + 0 = i from Nat.mul_one i]
        exact this⟩)
    exact ⟨some a, cap, xs, rfl, hl, hC⟩
theorem b7t (h : DataW.trod enc Try.prog W 0 (fun _ => true) true n 26 [v] = some y) : ∃ A c xs, v = .slice A xs.length c ∧ xs.length ≤ c ∧ Kd.C Kd.string W A xs.length xs := by
  rcases open_strings Try.underlying26 Try.underlying9 (by kernel_rfl) h with ⟨hcs, _⟩ | ⟨a, len, cap, zs, hcs, _, hl, hm, hz, _, hcell, _⟩
  · obtain rfl : v = .slice none 0 0 := by simpa using hcs
    exact ⟨none, 0, [], rfl, Nat.le_refl _, a5s _ _⟩
  · obtain rfl : v = .slice (some a) len cap := by simpa using hcs
    simp only [if_true] at hz
    obtain ⟨xs, rfl, hC⟩ := b0f (d := Kd.string) (w := W) (a := a) (len := len) (by have := b1l; omega) (fun i hi => ⟨zs.getD i ByteArray.empty, [.string (zs.getD i ByteArray.empty)], rfl, rfl, fun j u hu => by
      match j, hu with
      | 0, hu =>
        obtain rfl : Value.string (zs.getD i ByteArray.empty) = u := by simpa using hu
        have := hcell i (by omega)
        rw [show i * Kd.string.sz + 0 = i from Nat.mul_one i]
        exact this⟩)
    exact ⟨some a, cap, xs, rfl, hl, hC⟩
theorem b2d {t e : TypeId} {fs : Array Field} {fuel : Nat} {cs : List Value} {x : DataW H × List MemPlace} (ht : Try.prog.underlying t = some (.slice e)) (he : Try.prog.underlying e = some (.struct fs))
    (hone : oneCellFields Try.prog fs = true) (hC : Try.prog.cellsOf e = fs.size) (h : DataW.trod enc Try.prog W 0 (fun _ => true) true fuel t cs = some x) :
    cs = [.slice none 0 0] ∨
    ∃ (a : Addr) (len cap : Nat), cs = [.slice (some a) len cap] ∧ len ≤ cap ∧ cap ≤ maxLen ∧
      ∀ i, i < len → ∀ (j : Nat) (f : Field), fs[j]? = some f → ∃ (v : Value) (y : DataW H × List MemPlace) (n : Nat), W.cell? (a.add (i * fs.size + j)) = some v ∧ DataW.trod enc Try.prog W 0 (fun _ => true) true n f.type [v] = some y := by
  rcases open_slice ht h with h0 | ⟨a, len, cap, m, n, D, Pl, hcs, hb, hl, hm, hmm, hx, hi⟩
  · exact .inl h0.1
  · refine .inr ⟨a, len, cap, hcs, hl, hm, fun i him j f hj => ?_⟩
    simp only [if_true] at hmm
    obtain ⟨cs', hc, ht'⟩ := hi i (by omega)
    rw [hC] at hc
    obtain ⟨ys, n', hn', hy, hlen, hyl, hf⟩ := DataW.trod_struct he ht'
    obtain ⟨_, hcl, hat⟩ := World.cells?_some hc
    obtain ⟨ho, hk⟩ := hone_of hone j f hj
    have hjl : j < fs.size := (Array.getElem?_eq_some_iff.1 hj).1
    have hcell := hat j hjl
    have hv : cs'[j]? = some (cs'[j]'(by omega)) := List.getElem?_eq_getElem (by omega)
    have h1 := hf j f hj
    rw [ho, hk] at h1
    have hone' : (cs'.drop j).take 1 = [cs'[j]'(by omega)] := by
      rw [List.drop_eq_getElem_cons (by omega)]
      rfl
    rw [hone'] at h1
    have hys : ys[j]? = some (ys[j]'(by omega)) := List.getElem?_eq_getElem (by omega)
    refine ⟨_, _, n', ?_, h1.trans hys⟩
    rw [← Go.Deep.add_add, hcell, hv]
theorem b7u (h : DataW.trod enc Try.prog W 0 (fun _ => true) true n 27 [v] = some y) : ∃ A c xs, v = .slice A xs.length c ∧ xs.length ≤ c ∧ Kd.C k43 W A xs.length xs := by
  rcases b2d Try.underlying27 Try.underlying43 (by kernel_rfl) (by kernel_rfl) h with hcs | ⟨a, len, cap, hcs, hl, hm, hf⟩
  · obtain rfl : v = .slice none 0 0 := by simpa using hcs
    exact ⟨none, 0, [], rfl, Nat.le_refl _, a5s _ _⟩
  · obtain rfl : v = .slice (some a) len cap := by simpa using hcs
    obtain ⟨xs, rfl, hC⟩ := b0f (d := k43) (w := W) (a := a) (len := len) (by have := b1l; omega) (fun i hi => by
      obtain ⟨u0, y0, n0, c0, e0⟩ := hf i hi 0 _ rfl
      obtain ⟨u1, y1, n1, c1, e1⟩ := hf i hi 1 _ rfl
      obtain ⟨u2, y2, n2, c2, e2⟩ := hf i hi 2 _ rfl
      obtain ⟨f0, g0, _, _⟩ := DataW.trod_int Try.underlying3 e0
      obtain ⟨f1, g1, _, _⟩ := DataW.trod_int Try.underlying3 e1
      obtain ⟨f2, g2, _, _⟩ := DataW.trod_int Try.underlying3 e2
      obtain rfl : u0 = .int .i64 f0 := by simpa using g0
      obtain rfl : u1 = .int .i64 f1 := by simpa using g1
      obtain rfl : u2 = .int .i64 f2 := by simpa using g2
      refine ⟨⟨f0, f1, f2⟩, [.int .i64 f0, .int .i64 f1, .int .i64 f2], rfl, b7r W ⟨f0, f1, f2⟩, fun j u hu => ?_⟩
      match j, hu with
      | 0, hu =>
        obtain rfl : Value.int .i64 f0 = u := by simpa using hu
        exact c0
      | 1, hu =>
        obtain rfl : Value.int .i64 f1 = u := by simpa using hu
        exact c1
      | 2, hu =>
        obtain rfl : Value.int .i64 f2 = u := by simpa using hu
        exact c2)
    exact ⟨some a, cap, xs, rfl, hl, hC⟩
set_option maxRecDepth 100000 in
theorem b7v {r : Reach} {b0 : Nat} {d : DataW H} {p : List MemPlace} (hv : Value.okWide Try.prog W r b0 25 v) (h : DataW.Trod enc Try.prog W 0 (fun _ => true) true 25 v d p) :
    ∃ (a0 a1 a2 a3 : Int) (a4 : Bool), v = .agg #[.int .i64 a0, .int .i64 a1, .int .i64 a2, .int .i64 a3, .bool a4] ∧ (-9223372036854775808 ≤ a1 ∧ a1 ≤ 9223372036854775807) ∧ (-9223372036854775808 ≤ a2 ∧ a2 ≤ 9223372036854775807) := by
  obtain ⟨cs, rfl, hsz⟩ := okWide_struct Try.underlying25 hv
  obtain ⟨l⟩ := cs
  match l, hsz.trans (show Try.prog.cellsOf 25 = 5 by kernel_rfl) with
  | [c0, c1, c2, c3, c4], _ =>
    obtain ⟨fuel, hf⟩ := h
    obtain ⟨xs, n, _, hx, _, hlen, hg⟩ := DataW.trod_struct Try.underlying25 hf
    match xs, hlen with
    | [y0, y1, y2, y3], _ =>
      have g0 := hg 0 _ rfl
      have g1 := hg 1 _ rfl
      have g2 := hg 2 _ rfl
      have g3 := hg 3 _ rfl
      have e0 : DataW.trod enc Try.prog W 0 (fun _ => true) true n 3 [c0] = some y0 := g0
      have e1 : DataW.trod enc Try.prog W 0 (fun _ => true) true n 23 [c1, c2] = some y1 := g1
      have e2 : DataW.trod enc Try.prog W 0 (fun _ => true) true n 3 [c3] = some y2 := g2
      have e3 : DataW.trod enc Try.prog W 0 (fun _ => true) true n 4 [c4] = some y3 := g3
      obtain ⟨f0, q0, _, _⟩ := DataW.trod_int Try.underlying3 e0
      obtain ⟨f3, q3, _, _⟩ := DataW.trod_int Try.underlying3 e2
      obtain ⟨f4, q4, _⟩ := DataW.trod_bool Try.underlying4 e3
      obtain ⟨z, n', _, _, _, hz, hh⟩ := DataW.trod_struct Try.underlying23 e1
      match z, hz with
      | [z0, z1], _ =>
        have i0 : DataW.trod enc Try.prog W 0 (fun _ => true) true n' 3 [c1] = some z0 := hh 0 _ rfl
        have i1 : DataW.trod enc Try.prog W 0 (fun _ => true) true n' 3 [c2] = some z1 := hh 1 _ rfl
        obtain ⟨f1, q1, _, w1⟩ := DataW.trod_int Try.underlying3 i0
        obtain ⟨f2, q2, _, w2⟩ := DataW.trod_int Try.underlying3 i1
        obtain rfl : c0 = .int .i64 f0 := by simpa using q0
        obtain rfl : c1 = .int .i64 f1 := by simpa using q1
        obtain rfl : c2 = .int .i64 f2 := by simpa using q2
        obtain rfl : c3 = .int .i64 f3 := by simpa using q3
        obtain rfl : c4 = .bool f4 := by simpa using q4
        exact ⟨f0, f1, f2, f3, f4, rfl, wf_i64 w1, wf_i64 w2⟩
set_option maxRecDepth 100000 in
theorem b7w {r : Reach} {b0 : Nat} {d : DataW H} {p : List MemPlace} (hv : Value.okWide Try.prog W r b0 30 v) (h : DataW.Trod enc Try.prog W 0 (fun _ => true) true 30 v d p) :
    ∃ (a0 a1 a2 : Int) (A3 : Option Addr) (c3 : Nat) (l3 : List ByteArray) (A4 : Option Addr) (c4 : Nat) (l4 : List S43) (A5 : Option Addr) (c5 : Nat) (l5 : List Int),
      v = .agg #[.int .i64 a0, .int .i64 a1, .int .i64 a2, .slice A3 l3.length c3, .slice A4 l4.length c4, .slice A5 l5.length c5] ∧
      (-9223372036854775808 ≤ a0 ∧ a0 ≤ 9223372036854775807) ∧ (-9223372036854775808 ≤ a2 ∧ a2 ≤ 9223372036854775807) ∧
      (Kd.C Kd.string W A3 l3.length l3 ∧ l3.length ≤ c3) ∧ (Kd.C k43 W A4 l4.length l4 ∧ l4.length ≤ c4) ∧ (Kd.C (Kd.int .i64) W A5 l5.length l5 ∧ l5.length ≤ c5) := by
  obtain ⟨cs, rfl, hsz⟩ := okWide_struct Try.underlying30 hv
  obtain ⟨l⟩ := cs
  match l, hsz.trans (show Try.prog.cellsOf 30 = 6 by kernel_rfl) with
  | [c0, c1, c2, c3, c4, c5], _ =>
    obtain ⟨fuel, hf⟩ := h
    obtain ⟨xs, n, _, hx, _, hlen, hg⟩ := DataW.trod_struct Try.underlying30 hf
    match xs, hlen with
    | [y0, y1, y2, y3, y4, y5], _ =>
      have e0 : DataW.trod enc Try.prog W 0 (fun _ => true) true n 3 [c0] = some y0 := hg 0 _ rfl
      have e1 : DataW.trod enc Try.prog W 0 (fun _ => true) true n 3 [c1] = some y1 := hg 1 _ rfl
      have e2 : DataW.trod enc Try.prog W 0 (fun _ => true) true n 3 [c2] = some y2 := hg 2 _ rfl
      have e3 : DataW.trod enc Try.prog W 0 (fun _ => true) true n 26 [c3] = some y3 := hg 3 _ rfl
      have e4 : DataW.trod enc Try.prog W 0 (fun _ => true) true n 27 [c4] = some y4 := hg 4 _ rfl
      have e5 : DataW.trod enc Try.prog W 0 (fun _ => true) true n 28 [c5] = some y5 := hg 5 _ rfl
      obtain ⟨f0, q0, _, w0⟩ := DataW.trod_int Try.underlying3 e0
      obtain ⟨f1, q1, _, w1⟩ := DataW.trod_int Try.underlying3 e1
      obtain ⟨f2, q2, _, w2⟩ := DataW.trod_int Try.underlying3 e2
      obtain ⟨A3, k3, l3, rfl, b3, r3⟩ := b7t e3
      obtain ⟨A4, k4, l4, rfl, b4, r4⟩ := b7u e4
      obtain ⟨A5, k5, l5, rfl, b5, r5⟩ := b7s e5
      obtain rfl : c0 = .int .i64 f0 := by simpa using q0
      obtain rfl : c1 = .int .i64 f1 := by simpa using q1
      obtain rfl : c2 = .int .i64 f2 := by simpa using q2
      exact ⟨f0, f1, f2, A3, k3, l3, A4, k4, l4, A5, k5, l5, rfl, wf_i64 w0, wf_i64 w2, ⟨r3, b3⟩, ⟨r4, b4⟩, ⟨r5, b5⟩⟩
end
end Go.Proofs.Ytemnlgefngjliaa.Args
