/- Words that the kit's print.sh printed, in a copy without what is not used. Conditions: as each theorem states. -/
import Derived.Test.YtemnlgefngjliaaMtE
import Derived.Test.YtemnlgefngjliaaGMap
import Derived.Test.YtemnlgefngjliaaPx37
import Derived.SizedLaws
import Derived.ChangeSlices
namespace Go.Proofs.Ytemnlgefngjliaa.Pure
open Go.RowKit Go.Proofs.YtemnlgefngjliaaW.PrintWords Go.Proofs.Ytemnlgefngjliaa.Given Go.Proofs.Ytemnlgefngjliaa.Px Go.Proofs.Ytemnlgefngjliaa.Meet
open Go.Proofs.Ytemnlgefngjliaa.Cal (rd_mem mem_rd workingOf)
set_option linter.unusedVariables false
set_option linter.unusedSimpArgs false
theorem a9r {α : Type} (k p : Int) (v : α) : ∀ M : List (Int × α), a3e (mput M k v) p = if p = k then some v else a3e M p
  | [] => by
    by_cases c : p = k
    · simp [mput, a3e, c]
    · have d : ¬ k = p := fun e => c e.symm
      simp [mput, a3e, c, d]
  | q :: t => by
    by_cases c : q.1 = k
    · by_cases d : p = k
      · subst d
        simp [mput, a3e, c]
      · have e : ¬ q.1 = p := fun e => d (e.symm.trans c)
        simp only [mput, if_pos c, a3e, if_neg e, if_neg d]
    · simp only [mput, if_neg c, a3e, a9r k p v t]
      by_cases d : q.1 = p
      · rw [if_pos d, if_pos d, if_neg (fun e => c (d.trans e))]
      · rw [if_neg d, if_neg d]
theorem a6c (M : List (Int × Int)) (k p v : Int) : a3r (mput M k v) p = if p = k then v else a3r M p := by
  unfold a3r
  rw [a9r]
  split <;> rfl
def sub_ (here : List Int) (v : S43) : Bool := decide (v.f2 ≠ 0 ∧ ¬ v.f0 ∈ here ∧ v.f2 ∈ here)
def cntR (vs : List S43) (here : List Int) (p : Int) : Nat → Int → Int
  | 0, _ => 0
  | n + 1, i => (if sub_ here (a0a vs i) = true ∧ (a0a vs i).f2 = p then 1 else 0) + cntR vs here p n (i + 1)
theorem b1z {vs : List S43} {here : List Int} (hz : ¬ (0 : Int) ∈ here) {h : Int} (hm : h ∈ here) : ∀ (n : Nat) (i : Int), cntR vs here h n i = othE vs here h n i := by
  intro n
  induction n with
  | zero => intro i; rfl
  | succ n ih =>
    intro i
    rw [cntR, othE, ih]
    congr 1
    have e : (sub_ here (a0a vs i) = true ∧ (a0a vs i).f2 = h) ↔ ((a0a vs i).f0 ≠ h ∧ a5r here (a0a vs i) = h) := by
      unfold sub_ a5r
      rw [decide_eq_true_eq]
      constructor
      · rintro ⟨⟨a, b, c⟩, d⟩
        refine ⟨fun q => b (q ▸ hm), ?_⟩
        rw [if_neg b, if_neg a, if_pos c, d]
      · rintro ⟨a, b⟩
        by_cases c : (a0a vs i).f0 ∈ here
        · rw [if_pos c] at b; exact absurd b a
        · rw [if_neg c] at b
          by_cases d : (a0a vs i).f2 = 0
          · rw [if_pos d] at b
            exact absurd (b ▸ hm) hz
          · rw [if_neg d] at b
            by_cases z : (a0a vs i).f2 ∈ here
            · rw [if_pos z] at b; exact ⟨⟨d, c, z⟩, b⟩
            · rw [if_neg z] at b
              exact absurd (b ▸ hm) hz
    by_cases c : sub_ here (a0a vs i) = true ∧ (a0a vs i).f2 = h
    · rw [if_pos c, if_pos (e.mp c)]
    · rw [if_neg c, if_neg (fun q => c (e.mpr q))]
theorem b4x {vs : List S43} {here : List Int} {h : Int} (hm : ¬ h ∈ here) : ∀ (n : Nat) (i : Int), cntR vs here h n i = 0 := by
  intro n
  induction n with
  | zero => intro i; rfl
  | succ n ih =>
    intro i
    rw [cntR, ih, if_neg]
    · rfl
    · rintro ⟨a, b⟩
      have a := of_decide_eq_true a
      exact hm (b ▸ a.2.2)
theorem b0o {vs : List S43} {here : List Int} (g : Meet.Good vs here) : ¬ (0 : Int) ∈ here := fun h => by
  have := g.hi 0 h
  rw [a8u g] at this
  omega
theorem b4y {vs : List S43} {here : List Int} (g : Meet.Good vs here) {p : Int} (p0 : 0 ≤ p) (p1 : p ≤ 64) : a4m p (wgt (fun _ => 1) vs here) = true ↔ ∃ h, cntR vs here h vs.length 0 > p := by
  rw [b5x g p0 p1, decide_eq_true_eq, b1y]
  constructor
  · rintro (h | ⟨j, j0, j1, h⟩)
    · omega
    · refine ⟨rd here j, ?_⟩
      rw [b1z (b0o g) (rd_mem j0 (by omega))]
      exact h
  · rintro ⟨h, hc⟩
    by_cases c : h ∈ here
    · rw [b1z (b0o g) c] at hc
      obtain ⟨j, j0, j1, rfl⟩ := mem_rd c
      exact .inr ⟨j, j0, by omega, hc⟩
    · rw [b4x c] at hc
      omega
theorem b3k {p q : Int} (h : p ≤ q) (p0 : 0 ≤ p) (q1 : q ≤ 64) {l : List Int} (hc : a4m q l = true) : a4m p l = true := by
  rw [a9q] at hc ⊢
  obtain ⟨j, j0, j1, h2⟩ := hc
  rw [w64 (x := q + 1) (by omega) (by omega)] at h2
  refine ⟨j, j0, j1, ?_⟩
  rw [w64 (x := p + 1) (by omega) (by omega)]
  omega
section
variable (t0 t1 t2 t3 : Int) (t4 : Bool) (m0 m1 m2 : Int) (ag : List ByteArray) (vs : List S43) (here : List Int) (act : ByteArray)
theorem b6h (hf : Small ag ∧ ag.length ≤ 30 ∧ vs.length ≤ 70 ∧ here.length ≤ 70) (ht : a5j t0 t1 t2 t3 = true) (hv : a5q m0 m1 m2 ag vs here = true) (hn : a4z act = true) :
    Ev (fun k => a2c.f k t0 t1 t2 t3 t4 m0 m1 m2 ag vs here act [] 4) (a4m t3 (wgt (fun _ => 1) vs here), true) := by
  have h := b6y t0 t1 t2 t3 t4 m0 m1 m2 ag vs here act [] hf.1 (by omega) (by omega) (by omega) (by simp) (by have := b3e hn; omega) 4
  unfold a5u at h
  rw [if_pos ⟨b2m, ht, hv, hn⟩] at h
  have e : decide ((4 : Int) ∈ a3o (a9o t0 m0 m1 m2 []) 1 ++ a3o (!hasB ag act) 2 ++ a3o (fewB t1 t2 vs here) 3 ++ a3o (a4m t3 (wgt (fun _ => 1) vs here)) 4) = a4m t3 (wgt (fun _ => 1) vs here) := by
    rw [Bool.eq_iff_iff, decide_eq_true_eq, List.mem_append, List.mem_append, List.mem_append, a7i, a7i, a7i, a7i]
    simp
  dsimp only at h
  rw [e] at h
  exact h
theorem b8q (hf : Small ag ∧ ag.length ≤ 30 ∧ vs.length ≤ 70 ∧ here.length ≤ 70) (ht : a5j t0 t1 t2 t3 = true) (hv : a5q m0 m1 m2 ag vs here = true) (hn : a4z act = true) : ∀ (n : Nat) (i x9 : Int) (M : List (Int × Int)), 0 ≤ i → i + n = vs.length →
    (∀ p, 0 ≤ a3r M p ∧ a3r M p ≤ i) → (∀ p, a3r M p + cntR vs here p n i = cntR vs here p vs.length 0) → (∀ t : Int, 0 ≤ t → (x9 > t ↔ ∃ p, a3r M p > t)) →
    Ev (fun k => a0e.l0 k act true x9 vs (vs.length : Int) i t0 t1 t2 t3 t4 m0 m1 m2 ag vs here M) true := by
  have g := a9a hv
  have hlv := g.lv
  intro n
  induction n with
  | zero =>
    intro i x9 M h0 hi hb hs hx
    have ht2 := ht
    unfold a5j at ht2
    simp only [Bool.and_eq_true, decide_eq_true_eq] at ht2
    have hm : mn (wrap64 (t3 + 1)) 64 = if t3 + 1 ≤ 64 then t3 + 1 else 64 := by
      rw [w64 (by omega) (by omega)]
      unfold mn
      by_cases c : 64 < t3 + 1
      · rw [if_pos c, if_neg (by omega)]
      · rw [if_neg c, if_pos (by omega)]
    have h2 : 0 ≤ mn (wrap64 (t3 + 1)) 64 ∧ mn (wrap64 (t3 + 1)) 64 ≤ 64 ∧ t3 ≤ mn (wrap64 (t3 + 1)) 64 := by
      rw [hm]
      split <;> omega
    obtain ⟨K1, hK1⟩ := b6h t0 t1 t2 t3 t4 m0 m1 m2 ag vs here act hf ht hv hn
    obtain ⟨K2, hK2⟩ := b6h t0 t1 t2 (mn (wrap64 (t3 + 1)) 64) t4 m0 m1 m2 ag vs here act hf (by
      unfold a5j
      simp only [Bool.and_eq_true, decide_eq_true_eq]
      exact ⟨ht2.1, ht2.2.1, h2.1, h2.2.1⟩) hv hn
    dsimp only at hK1 hK2
    have e : a4m t3 (wgt (fun _ => 1) vs here) = decide (x9 > t3) := by
      rw [Bool.eq_iff_iff, b4y g ht2.2.2.1 ht2.2.2.2, decide_eq_true_eq, hx t3 ht2.2.2.1]
      constructor
      · rintro ⟨p, hp⟩
        exact ⟨p, by have := hs p; simp only [cntR] at this; omega⟩
      · rintro ⟨p, hp⟩
        exact ⟨p, by have := hs p; simp only [cntR] at this; omega⟩
    refine evUp (K1 + K2) fun k hk => ?_
    rw [a0e.l0, if_neg (by omega), hK1 k (by omega), Option.bind_some, hK2 k (by omega), Option.bind_some, if_pos rfl, if_pos rfl, if_pos rfl, ← e, if_pos (by simp)]
    cases c : a4m t3 (wgt (fun _ => 1) vs here) with
    | true => rw [if_pos rfl]
    | false =>
      rw [if_neg (by simp)]
      cases d : a4m (mn (wrap64 (t3 + 1)) 64) (wgt (fun _ => 1) vs here) with
      | false => rfl
      | true =>
        have := b3k h2.2.2 ht2.2.2.1 h2.2.1 d
        rw [c] at this
        simp at this
  | succ n ih =>
    intro i x9 M h0 hi hb hs hx
    obtain ⟨K1, hK1⟩ := b2s m0 m1 m2 ag vs here (a0a vs i).f0 (by omega)
    obtain ⟨K2, hK2⟩ := b2s m0 m1 m2 ag vs here (a0a vs i).f2 (by omega)
    dsimp only at hK1 hK2
    cases c : sub_ here (a0a vs i) with
    | true =>
      have cc := of_decide_eq_true c
      have hbp := hb (a0a vs i).f2
      obtain ⟨K, hK⟩ := ih (i + 1) (mx x9 (a3r M (a0a vs i).f2 + 1)) (mput M (a0a vs i).f2 (a3r M (a0a vs i).f2 + 1)) (by omega) (by omega)
        (fun p => by
          rw [a6c]
          have := hb p
          split <;> omega)
        (fun p => by
          have h := hs p
          rw [cntR] at h
          rw [a6c]
          by_cases d : p = (a0a vs i).f2
          · rw [if_pos d]
            rw [if_pos ⟨c, d.symm⟩, d] at h
            rw [d]
            omega
          · rw [if_neg d]
            rw [if_neg (fun q => d q.2.symm)] at h
            omega)
        (fun t ht0 => by
          rw [b6g, hx t ht0]
          constructor
          · rintro (⟨p, hp⟩ | hp)
            · refine ⟨p, ?_⟩
              rw [a6c]
              split
              · rename_i d
                rw [d] at hp
                omega
              · exact hp
            · exact ⟨(a0a vs i).f2, by rw [a6c, if_pos rfl]; exact hp⟩
          · rintro ⟨p, hp⟩
            rw [a6c] at hp
            by_cases d : p = (a0a vs i).f2
            · rw [if_pos d] at hp; exact .inr hp
            · rw [if_neg d] at hp; exact .inl ⟨p, hp⟩)
      dsimp only at hK
      refine evUp (K + K1 + K2 + 1) fun k hk => ?_
      obtain ⟨j, rfl⟩ : ∃ j, k = j + 1 := ⟨k - 1, by omega⟩
      rw [a0e.l0, if_pos (by omega), if_pos h0, if_pos (by omega), if_neg cc.1, hK1 _ (by omega), Option.bind_some, if_neg (by simpa using cc.2.1), hK2 _ (by omega), Option.bind_some, decide_eq_true cc.2.2,
        a0e.j2, if_pos rfl, w64 (x := i + 1) (by omega) (by omega), w64 (x := a3r M (a0a vs i).f2 + 1) (by omega) (by omega), a6c, if_pos rfl]
      exact hK j (by omega)
    | false =>
      have cc : ¬ ((a0a vs i).f2 ≠ 0 ∧ ¬ (a0a vs i).f0 ∈ here ∧ (a0a vs i).f2 ∈ here) := of_decide_eq_false c
      obtain ⟨K, hK⟩ := ih (i + 1) x9 M (by omega) (by omega) (fun p => by have := hb p; omega)
        (fun p => by
          have h := hs p
          rw [cntR, if_neg (fun q => by rw [c] at q; simp at q)] at h
          omega) hx
      dsimp only at hK
      refine evUp (K + K1 + K2 + 1) fun k hk => ?_
      obtain ⟨j, rfl⟩ : ∃ j, k = j + 1 := ⟨k - 1, by omega⟩
      have step : a0e.j2 (j + 1) act true x9 vs (vs.length : Int) i false t0 t1 t2 t3 t4 m0 m1 m2 ag vs here M (a0a vs i).f0 (a0a vs i).f1 (a0a vs i).f2 = some true := by
        rw [a0e.j2, if_neg (by simp), w64 (x := i + 1) (by omega) (by omega)]
        exact hK j (by omega)
      rw [a0e.l0, if_pos (by omega), if_pos h0, if_pos (by omega), hK1 _ (by omega), Option.bind_some, hK2 _ (by omega), Option.bind_some]
      by_cases c1 : (a0a vs i).f2 = 0
      · rw [if_pos c1, step]
      · rw [if_neg c1]
        by_cases c2 : (a0a vs i).f0 ∈ here
        · rw [if_pos (decide_eq_true c2), step]
        · rw [if_neg (by simpa using c2), decide_eq_false (fun c3 => cc ⟨c1, c2, c3⟩), step]
theorem MeetingProxies (h1 : -9223372036854775808 ≤ t1) (h2 : t1 ≤ 9223372036854775807) (h3 : t2 ≤ 9223372036854775807) : Ev (fun k => a0e.f k t0 t1 t2 t3 t4 m0 m1 m2 ag vs here act) true := by
  obtain ⟨K1, hK1⟩ := b6q
  obtain ⟨r, hr, K2, hK2⟩ := b4u t0 t1 t2 t3 t4 m0 m1 m2 ag vs here h1 h2 h3
  obtain ⟨K3, hK3⟩ := b2q act
  dsimp only at hK1 hK2 hK3
  have e : ∀ k, a0e.j0 (k + 1) act true true t0 t1 t2 t3 t4 m0 m1 m2 ag vs here = some true := fun k => by rw [a0e.j0, if_pos rfl]
  by_cases c : r = true ∧ a4z act = true
  · obtain ⟨hf, ht, hv⟩ := hr c.1
    obtain ⟨K, hK⟩ := b8q t0 t1 t2 t3 t4 m0 m1 m2 ag vs here act hf ht hv c.2 vs.length 0 0 [] (by omega) (by omega) (fun p => by simp [a3r, a3e]) (fun p => by simp [a3r, a3e]) (fun t ht0 => by
      constructor
      · intro h; omega
      · rintro ⟨p, hp⟩
        simp [a3r, a3e] at hp
        omega)
    dsimp only at hK
    refine evUp (K + K1 + K2 + K3) fun k hk => ?_
    unfold a0e.f
    rw [hK1 _ (by omega), Option.bind_some, hK2 _ (by omega), Option.bind_some, if_pos c.1, hK3 _ (by omega), Option.bind_some, c.2, a0e.j0, if_neg (by simp)]
    exact hK k (by omega)
  · refine evUp (K1 + K2 + K3) fun k hk => ?_
    unfold a0e.f
    rw [hK1 _ (by omega), Option.bind_some, hK2 _ (by omega), Option.bind_some, hK3 _ (by omega), Option.bind_some, e]
    by_cases c1 : r = true
    · rw [if_pos c1, Bool.eq_false_iff.mpr (fun c2 => c ⟨c1, c2⟩)]
      exact e k
    · rw [if_neg c1]
end
end Go.Proofs.Ytemnlgefngjliaa.Pure
namespace Go.Proofs.YtemnlgefngjliaaW.PrintWords
open Go.ChangeShapes Go.WideShapes
end Go.Proofs.YtemnlgefngjliaaW.PrintWords
