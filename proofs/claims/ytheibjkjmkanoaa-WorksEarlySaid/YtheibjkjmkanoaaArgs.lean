/- The arguments of the laws, opened to what their cells hold (written by a program of this session's own, wip/tools/argsgen.py). Conditions: as each theorem states. -/
import Derived.WalkKit
import Derived.ProofKit
import Derived.OpenShut
import Derived.Lib.SmallJoins
import Derived.ChangeArms
import Derived.SliceStrings
import Derived.Deep.Slices
import Derived.Deep.Fields
import Derived.Test.YtheibjkjmkanoaaRows
import Derived.Test.YtheibjkjmkanoaaPx0
import Derived.Test.YtheibjkjmkanoaaWWords
namespace Go.Proofs.Ytheibjkjmkanoaa.Args
open Go.ChangeShapes Go.WideShapes Go.ChangeAt Go.RowKit
open Go.ChangeMaps (open_string shut_string)
open Go.Joins Go.Deep
open Go.Proofs.YtheibjkjmkanoaaW.PrintWords Go.Proofs.Ytheibjkjmkanoaa.Px
set_option linter.unusedVariables false
set_option linter.unusedSimpArgs false
theorem wf_u8 {n : Int} (h : (Lit.int .u8 n).wf = true) : 0 ≤ n ∧ n ≤ 255 := by
 simpa [Lit.wf, IntKind.min, IntKind.max, IntKind.bits, IntKind.signed] using h
theorem wf_u16 {n : Int} (h : (Lit.int .u16 n).wf = true) : 0 ≤ n ∧ n ≤ 65535 := by
 simpa [Lit.wf, IntKind.min, IntKind.max, IntKind.bits, IntKind.signed] using h
theorem b0p {α : Type} (d : Kd α) (w : World) : Kd.C d w none ([] : List α).length [] := ⟨rfl, by simp, fun h => by simp at h⟩
theorem b0t {α : Type} {d : Kd α} {w : World} {a : Addr} {len : Nat} (hl : len ≤ 9223372036854775807)
  (h : ∀ i, i < len → ∃ x c, c.length = d.sz ∧ d.K w x c ∧ ∀ j u, c[j]? = some u → w.cell? (a.add (i * d.sz + j)) = some u) : ∃ xs : List α, xs.length = len ∧ Kd.C d w (some a) xs.length xs := by
 have key : ∀ n, n ≤ len → ∃ xs : List α, xs.length = n ∧ ∀ j p, xs[j]? = some p → ∃ c, c.length = d.sz ∧ d.K w p c ∧ ∀ i u, c[i]? = some u → w.cell? (a.add (j * d.sz + i)) = some u := by
  intro n
  induction n with
  | zero => exact fun _ => ⟨[], rfl, fun j p h => by simp at h⟩
  | succ n ih =>
   intro hn
   obtain ⟨xs, hx, hp⟩ := ih (by omega)
   obtain ⟨x, c, h1, h2, h3⟩ := h n (by omega)
   refine ⟨xs ++ [x], by simp [hx], fun j p hj => ?_⟩
   rcases Nat.lt_trichotomy j n with q | q | q
   ·rw [List.getElem?_append_left (by omega)] at hj
    exact hp j p hj
   ·subst q
    rw [List.getElem?_append_right (by omega), hx, Nat.sub_self] at hj
    obtain rfl : x = p := by simpa using hj
    exact ⟨c, h1, h2, h3⟩
   ·rw [List.getElem?_eq_none (by simp [hx]; omega)] at hj
    simp at hj
 obtain ⟨xs, hx, hp⟩ := key len (Nat.le_refl _)
 exact ⟨xs, hx, rfl, by omega, fun _ => ⟨a, rfl, hp⟩⟩
section
variable {H : Type} {enc : TypeId × Value → H} {W : World} {n : Nat} {v : Value} {y : DataW H × List MemPlace}
theorem b1y : maxLen ≤ 9223372036854775807 := by decide
set_option maxRecDepth 100000 in
theorem b9s (h : DataW.trod enc Try.prog W 0 (fun _ => true) true n 25 [v] = some y) : ∃ A c xs, v = .slice A xs.length c ∧ xs.length ≤ c ∧ Kd.C (Kd.int .i64) W A xs.length xs := by
 rcases open_ints Try.underlying25 Try.underlying3 (by kernel_rfl) h with ⟨hcs, _⟩ | ⟨a, len, cap, zs, hcs, _, hl, hm, hz, _, hcell, _⟩
 ·obtain rfl : v = .slice none 0 0 := by simpa using hcs
  exact ⟨none, 0, [], rfl, Nat.le_refl _, b0p _ _⟩
 ·obtain rfl : v = .slice (some a) len cap := by simpa using hcs
  simp only [if_true] at hz
  obtain ⟨xs, rfl, hC⟩ := b0t (d := (Kd.int .i64)) (w := W) (a := a) (len := len) (by have := b1y; omega) (fun i hi => ⟨zs.getD i 0, [.int .i64 (zs.getD i 0)], rfl, rfl, fun j u hu => by
   match j, hu with
   | 0, hu =>
    obtain rfl : Value.int .i64 (zs.getD i 0) = u := by simpa using hu
    have := hcell i (by omega)
    rw [show i * ((Kd.int .i64)).sz + 0 = i from Nat.mul_one i]
    exact this⟩)
  exact ⟨some a, cap, xs, rfl, hl, hC⟩
set_option maxRecDepth 100000 in
theorem c2d {c_0 c_1 c_2 c_3 c_4 : Value} (h : DataW.trod enc Try.prog W 0 (fun _ => true) true n 51 [c_0, c_1, c_2, c_3, c_4] = some y) : ∃ (f0 : Int) (f1 : Int) (f2 : Int) (A3 : Option Addr) (c3 : Nat) (l3 : List Int) (A4 : Option Addr) (c4 : Nat) (l4 : List Int), [c_0, c_1, c_2, c_3, c_4] = [.int .i64 f0, .int .i64 f1, .int .i64 f2, .slice A3 l3.length c3, .slice A4 l4.length c4] ∧ (Lit.int .i64 f0).wf = true ∧ (Lit.int .i64 f1).wf = true ∧ (Lit.int .i64 f2).wf = true ∧ (Kd.C (Kd.int .i64) W A3 l3.length l3 ∧ l3.length ≤ c3) ∧ (Kd.C (Kd.int .i64) W A4 l4.length l4 ∧ l4.length ≤ c4) := by
 obtain ⟨xs, n, _, hx, _, hlen, hg⟩ := DataW.trod_struct Try.underlying51 h
 match xs, hlen with
 | [y0, y1, y2, y3, y4], _ =>
  have e0 : DataW.trod enc Try.prog W 0 (fun _ => true) true n 3 [c_0] = some y0 := hg 0 _ rfl
  obtain ⟨f0, q, _, s0⟩ := DataW.trod_int Try.underlying3 e0
  obtain rfl : c_0 = .int .i64 f0 := by simpa using q
  have e1 : DataW.trod enc Try.prog W 0 (fun _ => true) true n 3 [c_1] = some y1 := hg 1 _ rfl
  obtain ⟨f1, q, _, s1⟩ := DataW.trod_int Try.underlying3 e1
  obtain rfl : c_1 = .int .i64 f1 := by simpa using q
  have e2 : DataW.trod enc Try.prog W 0 (fun _ => true) true n 3 [c_2] = some y2 := hg 2 _ rfl
  obtain ⟨f2, q, _, s2⟩ := DataW.trod_int Try.underlying3 e2
  obtain rfl : c_2 = .int .i64 f2 := by simpa using q
  have e3 : DataW.trod enc Try.prog W 0 (fun _ => true) true n 25 [c_3] = some y3 := hg 3 _ rfl
  obtain ⟨A3, c3, l3, rfl, b, r⟩ := b9s e3
  have s3 := And.intro r b
  have e4 : DataW.trod enc Try.prog W 0 (fun _ => true) true n 25 [c_4] = some y4 := hg 4 _ rfl
  obtain ⟨A4, c4, l4, rfl, b, r⟩ := b9s e4
  have s4 := And.intro r b
  exact ⟨f0, f1, f2, A3, c3, l3, A4, c4, l4, rfl, s0, s1, s2, s3, s4⟩
set_option maxRecDepth 100000 in
theorem c2e (h : DataW.trod enc Try.prog W 0 (fun _ => true) true n 22 [v] = some y) : ∃ A c xs, v = .slice A xs.length c ∧ xs.length ≤ c ∧ Kd.C k51 W A xs.length xs := by
 rcases open_slice Try.underlying22 h with h0 | ⟨a, len, cap, m, n, D, Pl, hcs, hb, hl, hm, hmm, hx, hi⟩
 ·obtain rfl : v = .slice none 0 0 := by simpa using h0.1
  exact ⟨none, 0, [], rfl, Nat.le_refl _, b0p _ _⟩
 ·obtain rfl : v = .slice (some a) len cap := by simpa using hcs
  simp only [if_true] at hmm
  obtain ⟨xs, rfl, hC⟩ := b0t (d := k51) (w := W) (a := a) (len := len) (by have := b1y; omega) (fun i him => by
   obtain ⟨cs', hc, ht'⟩ := hi i (by omega)
   rw [show Try.prog.cellsOf 51 = 5 by kernel_rfl] at hc
   obtain ⟨_, hcl, hat⟩ := World.cells?_some hc
   match cs', hcl, hat, ht' with
   | [c_0, c_1, c_2, c_3, c_4], _, hat, ht' =>
    obtain ⟨f0, f1, f2, A3, c3, l3, A4, c4, l4, q, s0, s1, s2, s3, s4⟩ := c2d ht'
    injection q with q_0 q_r
    subst q_0
    injection q_r with q_1 q_r
    subst q_1
    injection q_r with q_2 q_r
    subst q_2
    injection q_r with q_3 q_r
    subst q_3
    injection q_r with q_4 q_r
    subst q_4
    refine ⟨(⟨f0, f1, f2, l3, l4⟩ : S51), [.int .i64 f0, .int .i64 f1, .int .i64 f2, .slice A3 l3.length c3, .slice A4 l4.length c4], rfl, b7s W (⟨f0, f1, f2, l3, l4⟩ : S51) s3.2 s3.1 s4.2 s4.1, fun j u hu => ?_⟩
    have hj : j < 5 := (List.getElem?_eq_some_iff.1 hu).1
    rw [show (k51).sz = 5 from rfl, ← Go.Deep.add_add]
    exact (hat j hj).trans hu)
  exact ⟨some a, cap, xs, rfl, hl, hC⟩
set_option maxRecDepth 100000 in
theorem c2f {c_0 c_1 : Value} (h : DataW.trod enc Try.prog W 0 (fun _ => true) true n 56 [c_0, c_1] = some y) : ∃ (f0 : Int) (f1 : Int), [c_0, c_1] = [.int .i64 f0, .int .i64 f1] ∧ (Lit.int .i64 f0).wf = true ∧ (Lit.int .i64 f1).wf = true := by
 obtain ⟨xs, n, _, hx, _, hlen, hg⟩ := DataW.trod_struct Try.underlying56 h
 match xs, hlen with
 | [y0, y1], _ =>
  have e0 : DataW.trod enc Try.prog W 0 (fun _ => true) true n 3 [c_0] = some y0 := hg 0 _ rfl
  obtain ⟨f0, q, _, s0⟩ := DataW.trod_int Try.underlying3 e0
  obtain rfl : c_0 = .int .i64 f0 := by simpa using q
  have e1 : DataW.trod enc Try.prog W 0 (fun _ => true) true n 3 [c_1] = some y1 := hg 1 _ rfl
  obtain ⟨f1, q, _, s1⟩ := DataW.trod_int Try.underlying3 e1
  obtain rfl : c_1 = .int .i64 f1 := by simpa using q
  exact ⟨f0, f1, rfl, s0, s1⟩
set_option maxRecDepth 100000 in
theorem c2g (h : DataW.trod enc Try.prog W 0 (fun _ => true) true n 34 [v] = some y) : ∃ A c xs, v = .slice A xs.length c ∧ xs.length ≤ c ∧ Kd.C k56 W A xs.length xs := by
 rcases open_slice Try.underlying34 h with h0 | ⟨a, len, cap, m, n, D, Pl, hcs, hb, hl, hm, hmm, hx, hi⟩
 ·obtain rfl : v = .slice none 0 0 := by simpa using h0.1
  exact ⟨none, 0, [], rfl, Nat.le_refl _, b0p _ _⟩
 ·obtain rfl : v = .slice (some a) len cap := by simpa using hcs
  simp only [if_true] at hmm
  obtain ⟨xs, rfl, hC⟩ := b0t (d := k56) (w := W) (a := a) (len := len) (by have := b1y; omega) (fun i him => by
   obtain ⟨cs', hc, ht'⟩ := hi i (by omega)
   rw [show Try.prog.cellsOf 56 = 2 by kernel_rfl] at hc
   obtain ⟨_, hcl, hat⟩ := World.cells?_some hc
   match cs', hcl, hat, ht' with
   | [c_0, c_1], _, hat, ht' =>
    obtain ⟨f0, f1, q, s0, s1⟩ := c2f ht'
    injection q with q_0 q_r
    subst q_0
    injection q_r with q_1 q_r
    subst q_1
    refine ⟨(⟨f0, f1⟩ : S56), [.int .i64 f0, .int .i64 f1], rfl, c1r W (⟨f0, f1⟩ : S56) , fun j u hu => ?_⟩
    have hj : j < 2 := (List.getElem?_eq_some_iff.1 hu).1
    rw [show (k56).sz = 2 from rfl, ← Go.Deep.add_add]
    exact (hat j hj).trans hu)
  exact ⟨some a, cap, xs, rfl, hl, hC⟩
set_option maxRecDepth 100000 in
theorem c2h {c_0 c_1 : Value} (h : DataW.trod enc Try.prog W 0 (fun _ => true) true n 58 [c_0, c_1] = some y) : ∃ (f0 : Int) (A1 : Option Addr) (c1 : Nat) (l1 : List S56), [c_0, c_1] = [.int .i64 f0, .slice A1 l1.length c1] ∧ (Lit.int .i64 f0).wf = true ∧ (Kd.C k56 W A1 l1.length l1 ∧ l1.length ≤ c1) := by
 obtain ⟨xs, n, _, hx, _, hlen, hg⟩ := DataW.trod_struct Try.underlying58 h
 match xs, hlen with
 | [y0, y1], _ =>
  have e0 : DataW.trod enc Try.prog W 0 (fun _ => true) true n 3 [c_0] = some y0 := hg 0 _ rfl
  obtain ⟨f0, q, _, s0⟩ := DataW.trod_int Try.underlying3 e0
  obtain rfl : c_0 = .int .i64 f0 := by simpa using q
  have e1 : DataW.trod enc Try.prog W 0 (fun _ => true) true n 34 [c_1] = some y1 := hg 1 _ rfl
  obtain ⟨A1, c1, l1, rfl, b, r⟩ := c2g e1
  have s1 := And.intro r b
  exact ⟨f0, A1, c1, l1, rfl, s0, s1⟩
set_option maxRecDepth 100000 in
theorem c2i (h : DataW.trod enc Try.prog W 0 (fun _ => true) true n 23 [v] = some y) : ∃ A c xs, v = .slice A xs.length c ∧ xs.length ≤ c ∧ Kd.C k58 W A xs.length xs := by
 rcases open_slice Try.underlying23 h with h0 | ⟨a, len, cap, m, n, D, Pl, hcs, hb, hl, hm, hmm, hx, hi⟩
 ·obtain rfl : v = .slice none 0 0 := by simpa using h0.1
  exact ⟨none, 0, [], rfl, Nat.le_refl _, b0p _ _⟩
 ·obtain rfl : v = .slice (some a) len cap := by simpa using hcs
  simp only [if_true] at hmm
  obtain ⟨xs, rfl, hC⟩ := b0t (d := k58) (w := W) (a := a) (len := len) (by have := b1y; omega) (fun i him => by
   obtain ⟨cs', hc, ht'⟩ := hi i (by omega)
   rw [show Try.prog.cellsOf 58 = 2 by kernel_rfl] at hc
   obtain ⟨_, hcl, hat⟩ := World.cells?_some hc
   match cs', hcl, hat, ht' with
   | [c_0, c_1], _, hat, ht' =>
    obtain ⟨f0, A1, c1, l1, q, s0, s1⟩ := c2h ht'
    injection q with q_0 q_r
    subst q_0
    injection q_r with q_1 q_r
    subst q_1
    refine ⟨(⟨f0, l1⟩ : S58), [.int .i64 f0, .slice A1 l1.length c1], rfl, b7t W (⟨f0, l1⟩ : S58) s1.2 s1.1, fun j u hu => ?_⟩
    have hj : j < 2 := (List.getElem?_eq_some_iff.1 hu).1
    rw [show (k58).sz = 2 from rfl, ← Go.Deep.add_add]
    exact (hat j hj).trans hu)
  exact ⟨some a, cap, xs, rfl, hl, hC⟩
set_option maxRecDepth 100000 in
theorem c0k {r : Reach} {b0 : Nat} {d : DataW H} {p : List MemPlace} (hv : Value.okWide Try.prog W r b0 22 v) (h : DataW.Trod enc Try.prog W 0 (fun _ => true) true 22 v d p) : ∃ A c xs, v = .slice A xs.length c ∧ xs.length ≤ c ∧ Kd.C k51 W A xs.length xs := by
 obtain ⟨a, len, cap, rfl⟩ := okWide_slice Try.underlying22 hv
 obtain ⟨fuel, hf⟩ := h
 exact c2e hf
set_option maxRecDepth 100000 in
theorem c0l {r : Reach} {b0 : Nat} {d : DataW H} {p : List MemPlace} (hv : Value.okWide Try.prog W r b0 23 v) (h : DataW.Trod enc Try.prog W 0 (fun _ => true) true 23 v d p) : ∃ A c xs, v = .slice A xs.length c ∧ xs.length ≤ c ∧ Kd.C k58 W A xs.length xs := by
 obtain ⟨a, len, cap, rfl⟩ := okWide_slice Try.underlying23 hv
 obtain ⟨fuel, hf⟩ := h
 exact c2i hf
end
end Go.Proofs.Ytheibjkjmkanoaa.Args
