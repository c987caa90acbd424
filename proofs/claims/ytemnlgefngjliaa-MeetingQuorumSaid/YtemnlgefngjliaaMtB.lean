/- What the meeting's functions and the reference's say of names, agendas and terms. Conditions: as each theorem states. -/
import Derived.Test.YtemnlgefngjliaaMtA
import Derived.Test.YtemnlgefngjliaaPx17
import Derived.Test.YtemnlgefngjliaaPx18
import Derived.Test.YtemnlgefngjliaaPx16
import Derived.Test.YtemnlgefngjliaaPx3
import Derived.Test.YtemnlgefngjliaaPx10
import Derived.Test.YtemnlgefngjliaaPx9
import Derived.Test.YtemnlgefngjliaaGName
import Derived.Test.YtemnlgefngjliaaGRat
namespace Go.Proofs.Ytemnlgefngjliaa.Meet
open Go.RowKit Go.Proofs.YtemnlgefngjliaaW.PrintWords Go.Proofs.Ytemnlgefngjliaa.Given Go.Proofs.Ytemnlgefngjliaa.Px
set_option linter.unusedVariables false
set_option linter.unusedSimpArgs false
theorem u64w {x : Int} (h : 0 ≤ x) (h2 : x ≤ 9223372036854775807) : IntKind.u64.wrap x = x := by
  simp only [IntKind.wrap]
  first
    | omega
    | (simp [IntKind.bits, IntKind.signed]; omega)
theorem a7h {α : Type} (d : α) (l : List α) (i : Int) (h0 : 0 ≤ i) (h1 : i < l.length) : l.drop i.toNat = rdOf d l i :: l.drop (i + 1).toNat := by
  have hi : i.toNat < l.length := by omega
  have e : (i + 1).toNat = i.toNat + 1 := by omega
  rw [e, List.drop_eq_getElem_cons hi]
  congr 1
  unfold rdOf
  simp [List.getD, hi]
def hasB (l : List ByteArray) (x : ByteArray) : Bool := l.any fun y => decide (y.toList = x.toList)
theorem a8l (y : ByteArray) (l : List ByteArray) (x : ByteArray) : hasB (y :: l) x = (decide (y.toList = x.toList) || hasB l x) := rfl
theorem b7x (l : List ByteArray) (x : ByteArray) (hl : l.length ≤ 1000000) : ∀ (n : Nat) (i : Int), 0 ≤ i → i + n = l.length →
    Ev (fun k => a3f.l0 k l x i) (hasB (l.drop i.toNat) x) := by
  intro n
  induction n with
  | zero =>
    intro i h0 hi
    refine evUp 0 fun k _ => ?_
    rw [a3f.l0, if_neg (by omega), List.drop_eq_nil_of_le (by omega)]
    rfl
  | succ n ih =>
    intro i h0 hi
    obtain ⟨K, hK⟩ := ih (i + 1) (by omega) (by omega)
    dsimp only at hK
    refine evUp K fun k hk => ?_
    rw [a3f.l0, if_pos (by omega), if_pos h0, a7h ByteArray.empty l i h0 (by omega), a8l]
    by_cases c : (rdOf ByteArray.empty l i).toList = x.toList
    · rw [if_pos c, decide_eq_true c, Bool.true_or]
    · rw [if_neg c, decide_eq_false c, Bool.false_or, w64 (by omega) (by omega)]
      exact hK k hk
theorem b7y (l : List ByteArray) (x : ByteArray) (hl : l.length ≤ 1000000) : Ev (fun k => a3f.f k l x) (hasB l x) :=
  b7x l x hl l.length 0 (by omega) (by omega)
theorem b5k (l : List ByteArray) (x : ByteArray) (hl : l.length ≤ 1000000) : ∀ (n : Nat) (i : Int), 0 ≤ i → i + n = l.length →
    ∃ r : Int, decide (r ≥ 0) = hasB (l.drop i.toNat) x ∧ Ev (fun k => Si.l0 k l x (l.length : Int) i) r := by
  intro n
  induction n with
  | zero =>
    intro i h0 hi
    refine ⟨-1, by rw [List.drop_eq_nil_of_le (by omega)]; rfl, evUp 0 fun k _ => ?_⟩
    rw [Si.l0, if_neg (by omega)]
  | succ n ih =>
    intro i h0 hi
    obtain ⟨r, hr, K, hK⟩ := ih (i + 1) (by omega) (by omega)
    dsimp only at hK
    by_cases c : x.toList = (rdOf ByteArray.empty l i).toList
    · refine ⟨i, ?_, evUp 0 fun k _ => ?_⟩
      · rw [a7h ByteArray.empty l i h0 (by omega), a8l, decide_eq_true (p := (rdOf ByteArray.empty l i).toList = x.toList) c.symm, Bool.true_or, decide_eq_true h0]
      · rw [Si.l0, if_pos (by omega), if_pos h0, if_pos (by omega), if_pos c]
    · refine ⟨r, ?_, evUp K fun k hk => ?_⟩
      · rw [a7h ByteArray.empty l i h0 (by omega), a8l, decide_eq_false (p := (rdOf ByteArray.empty l i).toList = x.toList) (fun h => c h.symm), Bool.false_or, hr]
      · rw [Si.l0, if_pos (by omega), if_pos h0, if_pos (by omega), if_neg c, w64 (by omega) (by omega)]
        exact hK k hk
theorem a9b (l : List ByteArray) (x : ByteArray) (hl : l.length ≤ 1000000) : Ev (fun k => Sc.f k l x) (hasB l x) := by
  obtain ⟨r, hr, K, hK⟩ := b5k l x hl l.length 0 (by omega) (by omega)
  dsimp only at hK
  refine ⟨K, fun k hk => ?_⟩
  show Sc.f k l x = _
  unfold Sc.f Si.f
  rw [hK k hk, Option.bind_some, hr]
  rfl
theorem b2h {c i : Int} (hi : 0 ≤ i) : a3o c i = true ↔ (c < 97 ∨ c > 122) ∧ (i = 0 ∨ (c ≠ 95 ∧ (c < 48 ∨ c > 57))) := by
  unfold a3o
  simp
theorem b0s (k : Nat) (s : ByteArray) (i : Int) (h0 : 0 ≤ i) (h1 : i < s.size) : a1d.l0 (k + 1) s i = a1d.j2 k s i (a3o (bt s i) i) := by
  rw [a1d.l0, if_pos h1, if_pos h0]
  generalize bt s i = c
  have hb := b2h (c := c) h0
  by_cases a : c < 97
  · rw [if_pos a]
    by_cases b : i = 0
    · rw [if_pos b, hb.mpr ⟨.inl a, .inl b⟩]
    · rw [if_neg b]
      by_cases d : c = 95
      · rw [if_pos d, (show a3o c i = false from Bool.eq_false_iff.mpr (fun h => by have := hb.mp h; omega))]
      · rw [if_neg d]
        by_cases e : c < 48
        · rw [if_pos e, hb.mpr ⟨.inl a, .inr ⟨d, .inl e⟩⟩]
        · rw [if_neg e]
          congr 1
          rw [Bool.eq_iff_iff, hb, decide_eq_true_eq]
          omega
  · rw [if_neg a]
    by_cases a2 : c > 122
    · rw [if_pos a2]
      by_cases b : i = 0
      · rw [if_pos b, hb.mpr ⟨.inr a2, .inl b⟩]
      · rw [if_neg b]
        by_cases d : c = 95
        · omega
        · rw [if_neg d]
          by_cases e : c < 48
          · omega
          · rw [if_neg e]
            congr 1
            rw [Bool.eq_iff_iff, hb, decide_eq_true_eq]
            omega
    · rw [if_neg a2, (show a3o c i = false from Bool.eq_false_iff.mpr (fun h => by have := hb.mp h; omega))]
theorem a7k (s : ByteArray) (n : Nat) : a5h s (n + 1) = (a5h s n && !a3o (bt s n) n) := by
  unfold a5h
  rw [List.range_succ, List.all_append]
  simp
theorem b1s {s : ByteArray} : ∀ {d n : Nat}, a5h s n = false → a5h s (n + d) = false
  | 0, _, h => h
  | d + 1, n, h => by
    rw [show n + (d + 1) = (n + d) + 1 by omega, a7k, b1s h, Bool.false_and]
theorem b6u (s : ByteArray) (hs : s.size ≤ 1000000) : ∀ (n i : Nat), i + n = s.size → a5h s i = true →
    Ev (fun k => a1d.l0 k s (i : Int)) (a5h s s.size) := by
  intro n
  induction n with
  | zero =>
    intro i hi hb
    obtain rfl : i = s.size := by omega
    refine evUp 0 fun k _ => ?_
    rw [a1d.l0, if_neg (by omega), hb]
  | succ n ih =>
    intro i hi hb
    cases c : a3o (bt s (i : Int)) (i : Int) with
    | true =>
      have hf : a5h s s.size = false := by
        rw [show s.size = (i + 1) + n by omega]
        refine b1s ?_
        rw [a7k, c]
        simp
      rw [hf]
      refine evUp 1 fun k hk => ?_
      obtain ⟨j, rfl⟩ : ∃ j, k = j + 1 := ⟨k - 1, by omega⟩
      rw [b0s _ s i (by omega) (by omega), c, a1d.j2, if_pos rfl]
    | false =>
      obtain ⟨K, hK⟩ := ih (i + 1) (by omega) (by rw [a7k, hb, c]; rfl)
      dsimp only at hK
      refine evUp (K + 1) fun k hk => ?_
      obtain ⟨j, rfl⟩ : ∃ j, k = j + 1 := ⟨k - 1, by omega⟩
      rw [b0s _ s i (by omega) (by omega), c, a1d.j2, if_neg (by simp), w64 (by omega) (by omega)]
      exact hK j (by omega)
theorem b2v (s : ByteArray) : Ev (fun k => a1d.f k s) (a4w s) := by
  by_cases c : (s.size : Int) < 1
  · refine evUp 0 fun k _ => ?_
    unfold a1d.f
    rw [if_pos c, a1d.j0, if_pos rfl]
    unfold a4w
    rw [decide_eq_false (show ¬ 1 ≤ s.size by omega)]
    simp
  · by_cases d : (s.size : Int) > 16
    · refine evUp 0 fun k _ => ?_
      unfold a1d.f
      rw [if_neg c, decide_eq_true d, a1d.j0, if_pos rfl]
      unfold a4w
      rw [decide_eq_false (show ¬ s.size ≤ 16 by omega)]
      simp
    · obtain ⟨K, hK⟩ := b6u s (by omega) s.size 0 (by omega) rfl
      dsimp only at hK
      refine evUp K fun k hk => ?_
      unfold a1d.f
      rw [if_neg c, decide_eq_false d, a1d.j0, if_neg (by simp)]
      refine (hK k hk).trans ?_
      unfold a4w
      rw [decide_eq_true (show 1 ≤ s.size by omega), decide_eq_true (show s.size ≤ 16 by omega)]
      simp
theorem b3h {s : ByteArray} (h : a4w s = true) : s.size ≤ 16 := by
  unfold a4w at h
  simp at h
  omega
theorem a8m {s : ByteArray} (h : s.size ≤ 1000000) : a4o.f s = some (a4w s) := by
  unfold a4o.f
  rw [if_pos h]
def agL (l : List ByteArray) : Nat → Int → Bool
  | 0, _ => true
  | n + 1, i => a4w (rdOf ByteArray.empty l i) && (!hasB (l.take i.toNat) (rdOf ByteArray.empty l i) && agL l n (i + 1))
def agB (l : List ByteArray) : Bool := agL l l.length 0 && decide (l.length ≤ 20)
def Small (l : List ByteArray) : Prop := ∀ i : Int, 0 ≤ i → i < l.length → (rdOf ByteArray.empty l i).size ≤ 100
theorem take_len (l : List ByteArray) (n : Nat) (h : l.length ≤ 1000000) : (l.take n).length ≤ 1000000 := by
  rw [List.length_take]
  omega
theorem b2i (l : List ByteArray) (hl : l.length ≤ 1000000) (hs : Small l) : ∀ (n : Nat) (i : Int), 0 ≤ i → i + n = l.length →
    Ev (fun k => a1k.l0 k l l (l.length : Int) i) (agL l n i && decide (l.length ≤ 20)) := by
  intro n
  induction n with
  | zero =>
    intro i h0 hi
    refine evUp 0 fun k _ => ?_
    rw [a1k.l0, if_neg (by omega)]
    simp [agL]
    omega
  | succ n ih =>
    intro i h0 hi
    obtain ⟨K, hK⟩ := ih (i + 1) (by omega) (by omega)
    obtain ⟨K2, hK2⟩ := a9b (l.take i.toNat) (rdOf ByteArray.empty l i) (take_len l _ hl)
    dsimp only at hK hK2
    refine evUp (K + K2) fun k hk => ?_
    rw [a1k.l0, if_pos (by omega), if_pos h0, if_pos (by omega), a8m (by have := hs i h0 (by omega); omega), Option.bind_some, agL]
    cases c : a4w (rdOf ByteArray.empty l i) with
    | false => rw [if_neg (by simp)]; simp
    | true =>
      rw [if_pos rfl, if_pos (by omega), hK2 k (by omega), Option.bind_some]
      cases d : hasB (l.take i.toNat) (rdOf ByteArray.empty l i) with
      | true => rw [if_pos rfl]; simp
      | false =>
        rw [if_neg (by simp), w64 (by omega) (by omega)]
        refine (hK k (by omega)).trans ?_
        simp
theorem b2j (l : List ByteArray) (hl : l.length ≤ 1000000) (hs : Small l) : Ev (fun k => a1k.f k l) (agB l) :=
  b2i l hl hs l.length 0 (by omega) (by omega)
theorem b4i (l : List ByteArray) (hl : l.length ≤ 1000000) : ∀ (n : Nat) (i : Int), 0 ≤ i → i + n = l.length →
    Ev (fun k => a0z.l0 k l i) (agL l n i) := by
  intro n
  induction n with
  | zero =>
    intro i h0 hi
    refine evUp 0 fun k _ => ?_
    rw [a0z.l0, if_neg (by omega)]
    rfl
  | succ n ih =>
    intro i h0 hi
    obtain ⟨K, hK⟩ := ih (i + 1) (by omega) (by omega)
    obtain ⟨K2, hK2⟩ := b7y (l.take i.toNat) (rdOf ByteArray.empty l i) (take_len l _ hl)
    obtain ⟨K3, hK3⟩ := b2v (rdOf ByteArray.empty l i)
    dsimp only at hK hK2 hK3
    refine evUp (K + K2 + K3) fun k hk => ?_
    rw [a0z.l0, if_pos (by omega), if_pos h0, hK3 k (by omega), Option.bind_some, agL]
    cases c : a4w (rdOf ByteArray.empty l i) with
    | false => rw [if_neg (by simp)]; simp
    | true =>
      rw [if_pos rfl, if_pos (by omega), hK2 k (by omega), Option.bind_some]
      cases d : hasB (l.take i.toNat) (rdOf ByteArray.empty l i) with
      | true => rw [if_pos rfl]; simp
      | false =>
        rw [if_neg (by simp), w64 (by omega) (by omega)]
        refine (hK k (by omega)).trans ?_
        simp
theorem b4j (l : List ByteArray) (hl : l.length ≤ 1000000) : Ev (fun k => a0z.f k l) (agB l) := by
  unfold agB
  by_cases c : (l.length : Int) > 20
  · refine ⟨0, fun k _ => ?_⟩
    show a0z.f k l = _
    unfold a0z.f
    rw [if_pos c, decide_eq_false (show ¬ l.length ≤ 20 by omega), Bool.and_false]
  · obtain ⟨K, hK⟩ := b4i l hl l.length 0 (by omega) (by omega)
    dsimp only at hK
    refine ⟨K, fun k hk => ?_⟩
    show a0z.f k l = _
    unfold a0z.f
    rw [if_neg c, hK k hk, decide_eq_true (show l.length ≤ 20 by omega), Bool.and_true]
def ratB (p q : Int) : Bool := decide (1 ≤ q ∧ q ≤ 1000000000 ∧ -1000000000 ≤ p ∧ p ≤ 1000000000 ∧ Nat.gcd p.natAbs q.toNat = 1)
def partOf (p q : Int) : Bool := ratB p q && decide (0 ≤ p ∧ p ≤ q)
theorem b4k (x : Int) : IntKind.u64.wrap x = x % 18446744073709551616 := by
  simp only [IntKind.wrap]
  first
    | omega
    | (simp [IntKind.bits, IntKind.signed])
theorem size_eq {p : Int} (h : -9223372036854775808 ≤ p) (h2 : p ≤ 9223372036854775807) : a5c.f p = some (p.natAbs : Int) := by
  unfold a5c.f
  simp only [b4k]
  split
  · congr 1
    omega
  · congr 1
    omega
theorem b4l (p q : Int) : a6h.f p q = some (ratB p q) := by
  unfold a6h.f ratB
  by_cases h1 : q ≥ 1
  · by_cases h2 : q ≤ 1000000000
    · by_cases h3 : p ≥ -1000000000
      · by_cases h4 : p ≤ 1000000000
        · rw [if_pos h1, if_pos h2, if_pos h3, if_pos h4, size_eq (by omega) (by omega), Option.bind_some, size_eq (by omega) (by omega), Option.bind_some]
          unfold a5d.f
          rw [if_pos ⟨by omega, by omega, by omega, by omega⟩, Option.bind_some]
          congr 1
          rw [Bool.eq_iff_iff, beq_iff_eq, decide_eq_true_eq, Int.toNat_natCast, Int.toNat_natCast]
          have e : q.natAbs = q.toNat := by omega
          rw [e]
          constructor
          · intro h; exact ⟨h1, h2, h3, h4, by omega⟩
          · intro h; have := h.2.2.2.2; omega
        · rw [if_pos h1, if_pos h2, if_pos h3, if_neg h4, decide_eq_false (by omega)]
      · rw [if_pos h1, if_pos h2, if_neg h3, decide_eq_false (by omega)]
    · rw [if_pos h1, if_neg h2, decide_eq_false (by omega)]
  · rw [if_neg h1, decide_eq_false (by omega)]
theorem b4m (p q : Int) : a3y.f p q = some (partOf p q) := by
  unfold a3y.f partOf
  rw [b4l, Option.bind_some]
  cases ratB p q with
  | false => rw [if_neg (by simp)]; rfl
  | true => rw [if_pos rfl, a4x, Option.bind_some]; rfl
def a4r (n p q x : Int) : Bool := decide (0 ≤ n ∧ n ≤ 1000) && (partOf p q && decide (0 ≤ x ∧ x ≤ 64))
theorem a8f (n p q x : Int) (b : Bool) : a3p.f n p q x b = some (a4r n p q x) := by
  unfold a3p.f a4r
  rw [a4x, Option.bind_some, b4m]
  by_cases c : 0 ≤ n ∧ n ≤ 1000
  · rw [decide_eq_true c, if_pos rfl, Option.bind_some]
    cases partOf p q with
    | false => rw [if_neg (by simp)]; rfl
    | true => rw [if_pos rfl, a4x, Option.bind_some]; rfl
  · rw [decide_eq_false c, if_neg (by simp)]; rfl
theorem b1t {p : Int} (h : -9223372036854775808 ≤ p) (h2 : p ≤ 9223372036854775807) : a3w.f p = some (p.natAbs : Int) := by
  unfold a3w.f
  simp only [b4k]
  split
  · congr 1
    rw [w64 (x := p + 1) (by omega) (by omega), w64 (by omega) (by omega)]
    omega
  · congr 1
    omega
theorem b4n : ∀ (n : Nat) (a b : Nat), b ≤ n → Ev (fun k => a2l.l0 k (a : Int) (b : Int)) ((Nat.gcd a b : Nat) : Int) := by
  intro n
  induction n with
  | zero =>
    intro a b hb
    obtain rfl : b = 0 := by omega
    refine evUp 0 fun k _ => ?_
    rw [a2l.l0, if_pos (show ((0 : Nat) : Int) = 0 from rfl), Nat.gcd_zero_right]
  | succ n ih =>
    intro a b hb
    by_cases c : b = 0
    · subst c
      refine evUp 0 fun k _ => ?_
      rw [a2l.l0, if_pos (show ((0 : Nat) : Int) = 0 from rfl), Nat.gcd_zero_right]
    · obtain ⟨K, hK⟩ := ih b (a % b) (by have := Nat.mod_lt a (show 0 < b by omega); omega)
      dsimp only at hK
      refine evUp K fun k hk => ?_
      rw [a2l.l0, if_neg (by omega), Int.tmod_eq_emod_of_nonneg (by omega), ← Int.natCast_emod, hK k hk, Nat.gcd_comm a b, Nat.gcd_rec b a, Nat.gcd_comm]
theorem u64x {x : Int} (h : 0 ≤ x) (h2 : x ≤ 18446744073709551615) : IntKind.u64.wrap x = x := by
  simp only [IntKind.wrap]
  first
    | omega
    | (simp [IntKind.bits, IntKind.signed]; omega)
theorem b0y {p q : Int} {g x y : Nat} (k : Nat) (h1 : ¬ q < 1) (hp : -9223372036854775808 ≤ p) (hp2 : p ≤ 9223372036854775807) (hq2 : q ≤ 9223372036854775807) (hg : 0 < g)
    (d1 : x ≤ p.natAbs) (d2 : y ≤ q.natAbs) (d3 : g ≠ 1 → y < q.natAbs) (d4 : g = 1 → x = p.natAbs ∧ y = q.natAbs) (R : Bool) (hR : R = true ↔ (1 ≤ q ∧ q ≤ 1000000000 ∧ -1000000000 ≤ p ∧ p ≤ 1000000000 ∧ g = 1)) :
    ((if IntKind.u64.wrap (x : Int) > 1000000000 then a2n.j0 (k + 1) p q (IntKind.u64.wrap (x : Int)) (IntKind.u64.wrap (y : Int)) true
      else a2n.j0 (k + 1) p q (IntKind.u64.wrap (x : Int)) (IntKind.u64.wrap (y : Int)) (decide (IntKind.u64.wrap (y : Int) > 1000000000))).bind fun bt356 => if bt356.2.2 = 0 then some (bt356.1 == p && (bt356.2.1 == q)) else some false) = some R := by
  rw [u64x (x := (x : Int)) (by omega) (by omega), u64x (x := (y : Int)) (by omega) (by omega)]
  by_cases c1 : (x : Int) > 1000000000
  · rw [if_pos c1, a2n.j0, if_pos rfl, Option.bind_some, if_neg (by decide), (show R = false from Bool.eq_false_iff.mpr (fun h => by have h := hR.mp h; have := d4 h.2.2.2.2; omega))]
  · rw [if_neg c1]
    by_cases c2 : (y : Int) > 1000000000
    · rw [decide_eq_true c2, a2n.j0, if_pos rfl, Option.bind_some, if_neg (by decide), (show R = false from Bool.eq_false_iff.mpr (fun h => by have h := hR.mp h; have := d4 h.2.2.2.2; omega))]
    · rw [decide_eq_false c2, a2n.j0, if_neg (by simp), w64 (x := (x : Int)) (by omega) (by omega), w64 (x := (y : Int)) (by omega) (by omega), w64 (x := -(x : Int)) (by omega) (by omega), decide_eq_false (show ¬ q < 0 by omega)]
      by_cases c3 : p < 0
      · rw [decide_eq_true c3, if_pos (by decide), Option.bind_some, if_pos rfl]
        congr 1
        rw [Bool.eq_iff_iff, hR]
        simp only [Bool.and_eq_true, beq_iff_eq]
        constructor
        · rintro ⟨e1, e2⟩
          refine ⟨by omega, by omega, by omega, by omega, ?_⟩
          rcases Nat.decEq g 1 with e | e
          · have := d3 e; omega
          · exact e
        · intro h
          have := d4 h.2.2.2.2
          omega
      · rw [decide_eq_false c3, if_neg (by decide), Option.bind_some, if_pos rfl]
        congr 1
        rw [Bool.eq_iff_iff, hR]
        simp only [Bool.and_eq_true, beq_iff_eq]
        constructor
        · rintro ⟨e1, e2⟩
          refine ⟨by omega, by omega, by omega, by omega, ?_⟩
          rcases Nat.decEq g 1 with e | e
          · have := d3 e; omega
          · exact e
        · intro h
          have := d4 h.2.2.2.2
          omega
theorem b2k {p q : Int} (hp : -9223372036854775808 ≤ p) (hp2 : p ≤ 9223372036854775807) (hq2 : q ≤ 9223372036854775807) : Ev (fun k => a4p.f k p q) (ratB p q) := by
  by_cases h1 : q < 1
  · refine evUp 0 fun k _ => ?_
    unfold a4p.f ratB
    rw [if_pos h1, decide_eq_false (by omega)]
  · obtain ⟨K, hK⟩ := b4n q.natAbs p.natAbs q.natAbs (Nat.le_refl _)
    dsimp only at hK
    refine evUp K fun k hk => ?_
    unfold a4p.f a2n.f a2l.f
    have hg : 0 < Nat.gcd p.natAbs q.natAbs := Nat.gcd_pos_of_pos_right _ (by omega)
    have d1 : p.natAbs / Nat.gcd p.natAbs q.natAbs ≤ p.natAbs := Nat.div_le_self _ _
    have d2 : q.natAbs / Nat.gcd p.natAbs q.natAbs ≤ q.natAbs := Nat.div_le_self _ _
    have d3 : Nat.gcd p.natAbs q.natAbs ≠ 1 → q.natAbs / Nat.gcd p.natAbs q.natAbs < q.natAbs := fun h => Nat.div_lt_self (by omega) (by omega)
    have d4 : Nat.gcd p.natAbs q.natAbs = 1 → p.natAbs / Nat.gcd p.natAbs q.natAbs = p.natAbs ∧ q.natAbs / Nat.gcd p.natAbs q.natAbs = q.natAbs := fun h => by rw [h, Nat.div_one, Nat.div_one]; exact ⟨rfl, rfl⟩
    rw [if_neg h1, if_neg (by omega), b1t hp hp2, Option.bind_some, b1t (by omega) hq2, Option.bind_some, hK (k + 1) (by omega), Option.bind_some, Option.bind_some, if_neg (by omega), Option.bind_some,
      Int.tdiv_eq_ediv_of_nonneg (by omega), Int.tdiv_eq_ediv_of_nonneg (by omega), ← Int.natCast_ediv, ← Int.natCast_ediv]
    refine b0y k h1 hp hp2 hq2 hg d1 d2 d3 d4 (ratB p q) ?_
    unfold ratB
    rw [decide_eq_true_eq, show q.toNat = q.natAbs by omega]
theorem b5l {p q : Int} (hp : -9223372036854775808 ≤ p) (hp2 : p ≤ 9223372036854775807) (hq2 : q ≤ 9223372036854775807) : Ev (fun k => a4m.f k p q) (partOf p q) := by
  obtain ⟨K, hK⟩ := b2k hp hp2 hq2
  dsimp only at hK
  refine ⟨K, fun k hk => ?_⟩
  show a4m.f k p q = _
  unfold a4m.f partOf
  rw [hK k hk, Option.bind_some]
  cases ratB p q with
  | false => rw [if_neg (by simp)]; rfl
  | true =>
    rw [if_pos rfl]
    by_cases c : p ≥ 0
    · rw [if_pos c]
      simp
      omega
    · rw [if_neg c, decide_eq_false (by omega)]; rfl
theorem b4o {n p q x : Int} (b : Bool) (hp : -9223372036854775808 ≤ p) (hp2 : p ≤ 9223372036854775807) (hq2 : q ≤ 9223372036854775807) : Ev (fun k => a3e.f k n p q x b) (a4r n p q x) := by
  obtain ⟨K, hK⟩ := b5l hp hp2 hq2
  dsimp only at hK
  refine ⟨K, fun k hk => ?_⟩
  show a3e.f k n p q x b = _
  unfold a3e.f a4r
  by_cases c1 : n ≥ 0
  · rw [if_pos c1]
    by_cases c2 : n ≤ 1000
    · rw [if_pos c2, hK k hk, Option.bind_some, decide_eq_true (show 0 ≤ n ∧ n ≤ 1000 from ⟨c1, c2⟩)]
      cases partOf p q with
      | false => rw [if_neg (by simp)]; rfl
      | true =>
        rw [if_pos rfl]
        by_cases c3 : x ≥ 0
        · rw [if_pos c3]
          simp
          omega
        · rw [if_neg c3, decide_eq_false (show ¬ (0 ≤ x ∧ x ≤ 64) by omega)]; rfl
    · rw [if_neg c2, decide_eq_false (by omega)]; rfl
  · rw [if_neg c1, decide_eq_false (by omega)]; rfl
def a9q (ag : List ByteArray) (vs : List S43) (here : List Int) : Bool := decide (ag.length ≤ 30 ∧ vs.length ≤ 70 ∧ here.length ≤ 70)
theorem b0h (k : Nat) (i a b c : Int) (ag : List ByteArray) (vs : List S43) (here : List Int) : a2u.j1 (k + 1) i false a b c ag vs here = some (a9q ag vs here) := by
  rw [a2u.j1, if_neg (by simp)]
  unfold a9q
  by_cases c1 : (ag.length : Int) ≤ 30
  · rw [if_pos c1]
    by_cases c2 : (vs.length : Int) ≤ 70
    · rw [if_pos c2]
      congr 1
      rw [decide_eq_decide]
      omega
    · rw [if_neg c2, decide_eq_false (by omega)]
  · rw [if_neg c1, decide_eq_false (by omega)]
theorem b7z (a b c : Int) (ag : List ByteArray) (vs : List S43) (here : List Int) : ∀ (n : Nat) (i : Int), 0 ≤ i → i + n = 30 → (∀ j : Int, 0 ≤ j → j < i → j < ag.length → (rdOf ByteArray.empty ag j).size ≤ 100) →
    ∃ r, (r = true → Small ag ∧ ag.length ≤ 30 ∧ vs.length ≤ 70 ∧ here.length ≤ 70) ∧ Ev (fun k => a2u.l0 k i a b c ag vs here) r := by
  intro n
  induction n with
  | zero =>
    intro i h0 hi hs
    refine ⟨a9q ag vs here, fun h => ?_, evUp 1 fun k hk => ?_⟩
    · have h := of_decide_eq_true h
      exact ⟨fun j j0 j1 => hs j j0 (by omega) j1, h⟩
    · obtain ⟨j, rfl⟩ : ∃ j, k = j + 1 := ⟨k - 1, by omega⟩
      rw [a2u.l0]
      by_cases c : i < (ag.length : Int)
      · rw [if_pos c, decide_eq_false (by omega), b0h]
      · rw [if_neg c, b0h]
  | succ n ih =>
    intro i h0 hi hs
    by_cases c1 : i < (ag.length : Int)
    · by_cases c2 : ((rdOf ByteArray.empty ag i).size : Int) > 100
      · refine ⟨false, fun h => by simp at h, evUp 1 fun k hk => ?_⟩
        obtain ⟨j, rfl⟩ : ∃ j, k = j + 1 := ⟨k - 1, by omega⟩
        rw [a2u.l0, if_pos c1, decide_eq_true (by omega), a2u.j1, if_pos rfl, if_pos h0, if_pos c1, if_pos c2]
      · obtain ⟨r, hr, K, hK⟩ := ih (i + 1) (by omega) (by omega) (fun j j0 j1 j2 => by
          by_cases d : j = i
          · subst d; omega
          · exact hs j j0 (by omega) j2)
        dsimp only at hK
        refine ⟨r, hr, evUp (K + 1) fun k hk => ?_⟩
        obtain ⟨j, rfl⟩ : ∃ j, k = j + 1 := ⟨k - 1, by omega⟩
        rw [a2u.l0, if_pos c1, decide_eq_true (by omega), a2u.j1, if_pos rfl, if_pos h0, if_pos c1, if_neg c2, w64 (by omega) (by omega)]
        exact hK j (by omega)
    · refine ⟨a9q ag vs here, fun h => ?_, evUp 1 fun k hk => ?_⟩
      · have h := of_decide_eq_true h
        exact ⟨fun j j0 j1 => hs j j0 (by omega) j1, h⟩
      · obtain ⟨j, rfl⟩ : ∃ j, k = j + 1 := ⟨k - 1, by omega⟩
        rw [a2u.l0, if_neg c1, b0h]
theorem b8a (a b c : Int) (ag : List ByteArray) (vs : List S43) (here : List Int) :
    ∃ r, (r = true → Small ag ∧ ag.length ≤ 30 ∧ vs.length ≤ 70 ∧ here.length ≤ 70) ∧ Ev (fun k => a2u.f k a b c ag vs here) r :=
  b7z a b c ag vs here 30 0 (by omega) (by omega) (fun j j0 j1 => by omega)
end Go.Proofs.Ytemnlgefngjliaa.Meet
