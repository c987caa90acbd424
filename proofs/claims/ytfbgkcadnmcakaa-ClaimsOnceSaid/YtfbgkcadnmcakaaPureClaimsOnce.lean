/- For any claims, assignments and day, and two different parties: no claim can be raised by both; each one that can be raised has the day, and somebody blamed, and is held by who raises it (up to 100 claims, 100 assignments and 100 blamed ones). Conditions: the list of claims has fewer than 2^63 elements, as every slice has. -/
import Derived.Test.YtfbgkcadnmcakaaClC
import Derived.Test.YtfbgkcadnmcakaaClH
import Derived.Test.YtfbgkcadnmcakaaPx26
namespace Go.Proofs.Ytfbgkcadnmcakaa.Pure
open Go.RowKit Go.Proofs.YtfbgkcadnmcakaaW.PrintWords Go.Proofs.Ytfbgkcadnmcakaa.Given Go.Proofs.Ytfbgkcadnmcakaa.Px Go.Proofs.Ytfbgkcadnmcakaa.Cl
set_option linter.unusedVariables false
set_option linter.unusedSimpArgs false
set_option linter.unusedSectionVars false
theorem b0z {l : List S30} (h : (l.map (·.f0)).Nodup) (p : S30 → Bool) {c : S30} (hc : c ∈ l) : ((l.filter p).map (·.f0)).contains c.f0 = p c := by
  have uniq : ∀ {l : List S30}, (l.map (·.f0)).Nodup → ∀ {y}, y ∈ l → ∀ {c}, c ∈ l → y.f0 = c.f0 → y = c := by
    intro l
    induction l with
    | nil => intro _ y hy; simp at hy
    | cons x t ih =>
      intro h y hy c hc e
      rw [List.map_cons, List.nodup_cons] at h
      rcases List.mem_cons.1 hy with q | q
      · rcases List.mem_cons.1 hc with r | r
        · rw [q, r]
        · exact absurd (List.mem_map_of_mem (f := (·.f0)) r) (by rw [← e, q]; exact h.1)
      · rcases List.mem_cons.1 hc with r | r
        · exact absurd (List.mem_map_of_mem (f := (·.f0)) q) (by rw [e, r]; exact h.1)
        · exact ih h.2 q r e
  cases hp : p c with
  | true =>
    rw [List.contains_iff_mem]
    exact List.mem_map_of_mem (List.mem_filter.2 ⟨hc, hp⟩)
  | false =>
    rw [← Bool.not_eq_true, List.contains_iff_mem]
    intro hm
    obtain ⟨y, hy, e⟩ := List.mem_map.1 hm
    obtain ⟨hy1, hy2⟩ := List.mem_filter.1 hy
    rw [uniq h hy1 hc e, hp] at hy2
    cases hy2
theorem flag (f a b r : Bool) (h : (f || (a || b)) = r) : ((if f = true then true else a) || b) = r := by
  cases f <;> simp_all
section
variable (l : List S30) (a : List S26) (one two day : Int) (b X Y : List Int) (hl : l.length ≤ 100) (hb : b.length ≤ 100) (hX : X.length ≤ 100) (hY : Y.length ≤ 100) (c : S30) (j : Int) (r : Bool)
include hl hb
theorem b4s (fi fa : Bool) (hn : Ev (fun k => (a0o.f k c.f0 c.f1 c.f2 c.f3 c.f4.f0 c.f4.f1 a day).bind fun bt486 => (if c.f4.f0 ≤ day then (if day < c.f4.f1 then (if b.contains c.f1 = true then (if true = true then (if bt486.2 = 0 then (if (fi == (bt486.1 == one)) = true then (if one = two then (a0c.l0 k l a one two b day true X Y l (l.length : Int) (wrap64 (j + 1))) else (if fi = true then (a0c.l0 k l a one two b day (!fa) X Y l (l.length : Int) (wrap64 (j + 1))) else (a0c.l0 k l a one two b day true X Y l (l.length : Int) (wrap64 (j + 1))))) else (a0c.l0 k l a one two b day false X Y l (l.length : Int) (wrap64 (j + 1)))) else (a0c.l0 k l a one two b day false X Y l (l.length : Int) (wrap64 (j + 1)))) else (a0c.l0 k l a one two b day false X Y l (l.length : Int) (wrap64 (j + 1)))) else (if true = true then (if bt486.2 = 0 then (if (fi == false) = true then (if one = two then (a0c.l0 k l a one two b day true X Y l (l.length : Int) (wrap64 (j + 1))) else (if fi = true then (a0c.l0 k l a one two b day (!fa) X Y l (l.length : Int) (wrap64 (j + 1))) else (a0c.l0 k l a one two b day true X Y l (l.length : Int) (wrap64 (j + 1))))) else (a0c.l0 k l a one two b day false X Y l (l.length : Int) (wrap64 (j + 1)))) else (a0c.l0 k l a one two b day false X Y l (l.length : Int) (wrap64 (j + 1)))) else (a0c.l0 k l a one two b day false X Y l (l.length : Int) (wrap64 (j + 1))))) else (if true = true then (if bt486.2 = 0 then (if (fi == false) = true then (if one = two then (a0c.l0 k l a one two b day true X Y l (l.length : Int) (wrap64 (j + 1))) else (if fi = true then (a0c.l0 k l a one two b day (!fa) X Y l (l.length : Int) (wrap64 (j + 1))) else (a0c.l0 k l a one two b day true X Y l (l.length : Int) (wrap64 (j + 1))))) else (a0c.l0 k l a one two b day false X Y l (l.length : Int) (wrap64 (j + 1)))) else (a0c.l0 k l a one two b day false X Y l (l.length : Int) (wrap64 (j + 1)))) else (a0c.l0 k l a one two b day false X Y l (l.length : Int) (wrap64 (j + 1))))) else (if true = true then (if bt486.2 = 0 then (if (fi == false) = true then (if one = two then (a0c.l0 k l a one two b day true X Y l (l.length : Int) (wrap64 (j + 1))) else (if fi = true then (a0c.l0 k l a one two b day (!fa) X Y l (l.length : Int) (wrap64 (j + 1))) else (a0c.l0 k l a one two b day true X Y l (l.length : Int) (wrap64 (j + 1))))) else (a0c.l0 k l a one two b day false X Y l (l.length : Int) (wrap64 (j + 1)))) else (a0c.l0 k l a one two b day false X Y l (l.length : Int) (wrap64 (j + 1)))) else (a0c.l0 k l a one two b day false X Y l (l.length : Int) (wrap64 (j + 1)))))) r) :
    ∀ (n : Nat) (i : Int) (g : Bool), 0 ≤ i → i + n = b.length → (g || (b.drop i.toNat).contains c.f1) = b.contains c.f1 →
    Ev (fun k => a0c.l3 k l a one two b day true X Y fi fa g l (l.length : Int) j b (b.length : Int) i c.f0 c.f1 c.f2 c.f3 c.f4.f0 c.f4.f1) r := by
  intro n
  induction n with
  | zero =>
    intro i g i0 hi hg
    rw [dropEnd b (by omega), List.contains_nil, Bool.or_false] at hg
    obtain ⟨K, hK⟩ := hn
    dsimp only at hK
    refine evUp K fun k hk => ?_
    rw [a0c.l3, if_neg (by omega), hg]
    exact hK k hk
  | succ n ih =>
    intro i g i0 hi hg
    rw [a7x b i0 (by omega), List.contains_cons] at hg
    obtain ⟨K, hK⟩ := ih (i + 1) (if g = true then true else rd b i == c.f1) (by omega) (by omega) (flag _ _ _ _ (by rw [show (rd b i == c.f1) = (c.f1 == rd b i) from Bool.beq_comm]; exact hg))
    dsimp only at hK
    refine evUp K fun k hk => ?_
    rw [a0c.l3, if_pos (by omega), if_pos i0, if_pos (by omega), w64 (x := i + 1) (by omega) (by omega)]
    by_cases q : g = true
    · rw [if_pos q]
      have := hK k hk
      rw [if_pos q] at this
      exact this
    · rw [if_neg q]
      have := hK k hk
      rw [if_neg q] at this
      exact this
include hY
theorem b4t (fi fa : Bool) (hn : Ev (fun k => a0c.l3 k l a one two b day true X Y fi fa false l (l.length : Int) j b (b.length : Int) 0 c.f0 c.f1 c.f2 c.f3 c.f4.f0 c.f4.f1) r) :
    ∀ (n : Nat) (i : Int) (g : Bool), 0 ≤ i → i + n = Y.length → (g || (Y.drop i.toNat).contains c.f0) = fa →
    Ev (fun k => a0c.l2 k l a one two b day true X Y fi g false l (l.length : Int) j Y (Y.length : Int) i c.f0 c.f1 c.f2 c.f3 c.f4.f0 c.f4.f1) r := by
  intro n
  induction n with
  | zero =>
    intro i g i0 hi hg
    rw [dropEnd Y (by omega), List.contains_nil, Bool.or_false] at hg
    obtain ⟨K, hK⟩ := hn
    dsimp only at hK
    refine evUp K fun k hk => ?_
    rw [a0c.l2, if_neg (by omega), hg]
    exact hK k hk
  | succ n ih =>
    intro i g i0 hi hg
    rw [a7x Y i0 (by omega), List.contains_cons] at hg
    obtain ⟨K, hK⟩ := ih (i + 1) (if g = true then true else rd Y i == c.f0) (by omega) (by omega) (flag _ _ _ _ (by rw [show (rd Y i == c.f0) = (c.f0 == rd Y i) from Bool.beq_comm]; exact hg))
    dsimp only at hK
    refine evUp K fun k hk => ?_
    rw [a0c.l2, if_pos (by omega), if_pos i0, if_pos (by omega), w64 (x := i + 1) (by omega) (by omega)]
    by_cases q : g = true
    · rw [if_pos q]
      have := hK k hk
      rw [if_pos q] at this
      exact this
    · rw [if_neg q]
      have := hK k hk
      rw [if_neg q] at this
      exact this
include hX
theorem b4u (fi : Bool) (hn : Ev (fun k => a0c.l2 k l a one two b day true X Y fi false false l (l.length : Int) j Y (Y.length : Int) 0 c.f0 c.f1 c.f2 c.f3 c.f4.f0 c.f4.f1) r) :
    ∀ (n : Nat) (i : Int) (g : Bool), 0 ≤ i → i + n = X.length → (g || (X.drop i.toNat).contains c.f0) = fi →
    Ev (fun k => a0c.l1 k l a one two b day true X Y g false false l (l.length : Int) j X (X.length : Int) i c.f0 c.f1 c.f2 c.f3 c.f4.f0 c.f4.f1) r := by
  intro n
  induction n with
  | zero =>
    intro i g i0 hi hg
    rw [dropEnd X (by omega), List.contains_nil, Bool.or_false] at hg
    obtain ⟨K, hK⟩ := hn
    dsimp only at hK
    refine evUp K fun k hk => ?_
    rw [a0c.l1, if_neg (by omega), hg]
    exact hK k hk
  | succ n ih =>
    intro i g i0 hi hg
    rw [a7x X i0 (by omega), List.contains_cons] at hg
    obtain ⟨K, hK⟩ := ih (i + 1) (if g = true then true else rd X i == c.f0) (by omega) (by omega) (flag _ _ _ _ (by rw [show (rd X i == c.f0) = (c.f0 == rd X i) from Bool.beq_comm]; exact hg))
    dsimp only at hK
    refine evUp K fun k hk => ?_
    rw [a0c.l1, if_pos (by omega), if_pos i0, if_pos (by omega), w64 (x := i + 1) (by omega) (by omega)]
    by_cases q : g = true
    · rw [if_pos q]
      have := hK k hk
      rw [if_pos q] at this
      exact this
    · rw [if_neg q]
      have := hK k hk
      rw [if_neg q] at this
      exact this
end
theorem b4v (l : List S30) (a : List S26) (one two day : Int) (b X Y : List Int) (hc : okC l = true) (ha : okA a = true) (hd : dayB day = true) (hb : b.length ≤ 100)
    (hX : X = (l.filter (canB a one b day)).map (·.f0)) (hY : Y = (l.filter (canB a two b day)).map (·.f0)) :
    ∀ (n : Nat) (i : Int), 0 ≤ i → i + n = l.length → Ev (fun k => a0c.l0 k l a one two b day true X Y l (l.length : Int) i) true := by
  have hl := b0x hc
  have xl : X.length ≤ l.length := by rw [hX, List.length_map]; exact List.length_filter_le _ _
  have yl : Y.length ≤ l.length := by rw [hY, List.length_map]; exact List.length_filter_le _ _
  intro n
  induction n with
  | zero =>
    intro i i0 hi
    exact evUp 0 fun k _ => by rw [a0c.l0, if_neg (by omega), if_pos rfl, decide_eq_true (by omega)]
  | succ n ih =>
    intro i i0 hi
    obtain ⟨K, hK⟩ := ih (i + 1) (by omega) (by omega)
    dsimp only at hK
    obtain ⟨c, hcc⟩ : ∃ c, c = a0b l i := ⟨_, rfl⟩
    have hm : c ∈ l := by
      have := a7y l i0 (by omega)
      exact List.mem_of_mem_drop (i := i.toNat) (by rw [this, hcc]; exact List.mem_cons_self)
    have hin : X.contains c.f0 = canB a one b day c := by rw [hX]; exact b0z (a8z hc) _ hm
    have hal : Y.contains c.f0 = canB a two b day c := by rw [hY]; exact b0z (a8z hc) _ hm
    obtain ⟨K2, h2⟩ := b2s c a day
    dsimp only at h2
    have e2 : a8b c a day = (a5h c.f0 day c.f2 (a3o a), 0) := b3j (b2t hc c hm) ha hd
    rw [e2] at h2
    obtain ⟨who, hwho⟩ : ∃ w, w = a5h c.f0 day c.f2 (a3o a) := ⟨_, rfl⟩
    rw [← hwho] at h2
    have key := b4u l a one two day b X Y hl hb (by omega) (by omega) c i true (X.contains c.f0) (b4t l a one two day b X Y hl hb (by omega) c i true (X.contains c.f0) (Y.contains c.f0) (b4s l a one two day b X Y hl hb c i true (X.contains c.f0) (Y.contains c.f0) (by
      refine ⟨K + K2, fun k hk => ?_⟩
      dsimp only
      rw [h2 k (by omega), Option.bind_some, hin, hal]
      unfold canB
      rw [← hwho, w64 (by omega) (by omega)]
      by_cases c1 : c.f4.f0 ≤ day
      · by_cases c2 : day < c.f4.f1
        · rw [if_pos c1, if_pos c2, decide_eq_true ⟨c1, c2⟩, Bool.true_and, Bool.true_and]
          by_cases c3 : b.contains c.f1 = true
          · rw [if_pos c3, if_pos rfl, if_pos rfl, c3, Bool.true_and, Bool.true_and, beq_self_eq_true, if_pos rfl]
            by_cases c4 : one = two
            · rw [if_pos c4]; exact hK k (by omega)
            · rw [if_neg c4]
              by_cases c5 : who = one
              · rw [if_pos (beq_iff_eq.2 c5), beq_false_of_ne (fun h => c4 (c5.symm.trans h))]; exact hK k (by omega)
              · rw [if_neg (fun h => c5 (beq_iff_eq.1 h))]; exact hK k (by omega)
          · rw [if_neg c3]
            rw [Bool.not_eq_true] at c3
            rw [if_pos rfl, if_pos rfl, c3, Bool.false_and, if_pos (show (false == false) = true from rfl)]
            by_cases c4 : one = two
            · rw [if_pos c4]; exact hK k (by omega)
            · rw [if_neg c4, if_neg Bool.false_ne_true]; exact hK k (by omega)
        · rw [if_pos c1, if_neg c2, decide_eq_false (fun h => c2 h.2), Bool.false_and, if_pos rfl, if_pos rfl, if_pos (show (false == false) = true from rfl)]
          by_cases c4 : one = two
          · rw [if_pos c4]; exact hK k (by omega)
          · rw [if_neg c4, if_neg Bool.false_ne_true]; exact hK k (by omega)
      · rw [if_neg c1, decide_eq_false (fun h => c1 h.1), Bool.false_and, if_pos rfl, if_pos rfl, if_pos (show (false == false) = true from rfl)]
        by_cases c4 : one = two
        · rw [if_pos c4]; exact hK k (by omega)
        · rw [if_neg c4, if_neg Bool.false_ne_true]; exact hK k (by omega)) b.length 0 false (by omega) (by omega) (by simp)) Y.length 0 false (by omega) (by omega) (by simp)) X.length 0 false (by omega) (by omega) (by simp)
    obtain ⟨K3, h3⟩ := key
    dsimp only at h3
    refine evUp K3 fun k hk => ?_
    rw [a0c.l0, if_pos (by omega), if_pos i0, if_pos (by omega), ← hcc]
    exact h3 k hk
theorem ClaimsOnce (l : List S30) (a : List S26) (one two : Int) (b : List Int) (day : Int) (hl : (l.length : Int) ≤ 9223372036854775807) : Ev (fun k => a0c.f k l a one two b day) true := by
  obtain ⟨K0, h0⟩ := b4r
  dsimp only at h0
  by_cases ca : (a.length : Int) > 100
  · refine ⟨K0 + 1, fun k hk => ?_⟩
    obtain ⟨k, rfl⟩ : ∃ j, k = j + 1 := ⟨k - 1, by omega⟩
    dsimp only
    unfold a0c.f
    rw [h0 _ (by omega), Option.bind_some, if_pos ca, a0c.j0, if_pos rfl]
  by_cases cb : (b.length : Int) > 100
  · refine ⟨K0 + 1, fun k hk => ?_⟩
    obtain ⟨k, rfl⟩ : ∃ j, k = j + 1 := ⟨k - 1, by omega⟩
    dsimp only
    unfold a0c.f
    rw [h0 _ (by omega), Option.bind_some, if_neg ca, decide_eq_true cb, a0c.j0, if_pos rfl]
  have hb : b.length ≤ 100 := by omega
  obtain ⟨K1, h1⟩ := b0f l hl a one b (by omega) day
  obtain ⟨K2, h2⟩ := b0f l hl a two b (by omega) day
  dsimp only at h1 h2
  by_cases c1 : (okC l && (okA a && (numB one && dayB day))) = true
  · have e1 : a4k l a one b day = ((l.filter (canB a one b day)).map (·.f0), 0) := by unfold a4k; rw [if_pos c1]
    rw [e1] at h1
    by_cases c2 : (okC l && (okA a && (numB two && dayB day))) = true
    · have e2 : a4k l a two b day = ((l.filter (canB a two b day)).map (·.f0), 0) := by unfold a4k; rw [if_pos c2]
      rw [e2] at h2
      rw [Bool.and_eq_true, Bool.and_eq_true, Bool.and_eq_true] at c1
      obtain ⟨d1, d2, d3, d4⟩ := c1
      obtain ⟨K3, h3⟩ := b4v l a one two day b _ _ d1 d2 d4 hb rfl rfl l.length 0 (by omega) (by omega)
      dsimp only at h3
      refine ⟨K0 + K1 + K2 + K3 + 2, fun k hk => ?_⟩
      obtain ⟨k, rfl⟩ : ∃ j, k = j + 2 := ⟨k - 2, by omega⟩
      dsimp only
      unfold a0c.f
      rw [h0 _ (by omega), Option.bind_some, if_neg ca, decide_eq_false cb, a0c.j0, if_neg (by decide), h1 _ (by omega), Option.bind_some, h2 _ (by omega), Option.bind_some, if_pos rfl, a0c.j1, if_neg (show ¬ ((0 : Int) != 0) = true by decide)]
      exact h3 k (by omega)
    · have e2 : a4k l a two b day = ([], 1) := by unfold a4k; rw [if_neg c2]
      rw [e2] at h2
      refine ⟨K0 + K1 + K2 + 2, fun k hk => ?_⟩
      obtain ⟨k, rfl⟩ : ∃ j, k = j + 2 := ⟨k - 2, by omega⟩
      dsimp only
      unfold a0c.f
      rw [h0 _ (by omega), Option.bind_some, if_neg ca, decide_eq_false cb, a0c.j0, if_neg (by decide), h1 _ (by omega), Option.bind_some, h2 _ (by omega), Option.bind_some, if_pos rfl, a0c.j1, if_pos (show ((1 : Int) != 0) = true by decide)]
  · have e1 : a4k l a one b day = ([], 1) := by unfold a4k; rw [if_neg c1]
    rw [e1] at h1
    refine ⟨K0 + K1 + K2 + 2, fun k hk => ?_⟩
    obtain ⟨k, rfl⟩ : ∃ j, k = j + 2 := ⟨k - 2, by omega⟩
    dsimp only
    unfold a0c.f
    rw [h0 _ (by omega), Option.bind_some, if_neg ca, decide_eq_false cb, a0c.j0, if_neg (by decide), h1 _ (by omega), Option.bind_some, h2 _ (by omega), Option.bind_some, if_neg (show ¬ (1 : Int) = 0 by decide), a0c.j1, if_pos rfl]
end Go.Proofs.Ytfbgkcadnmcakaa.Pure
