/- For any claims and cost: what they cover, and what is left, is the cost; something is left only if all are used up; each claim but the last one that covers something is used up, and they are in the order in which they lapse; the order of the IDs does not matter (up to 100 claims and IDs). Conditions: the list of claims has fewer than 2^63 elements, as every slice has. -/
import Derived.Test.YtfbgkcadnmcakaaClH
import Derived.Test.YtfbgkcadnmcakaaPx17
namespace Go.Proofs.Ytfbgkcadnmcakaa.Pure
open Go.RowKit Go.Proofs.YtfbgkcadnmcakaaW.PrintWords Go.Proofs.YtfbgkcadnmcakaaW.PrintMore Go.Proofs.Ytfbgkcadnmcakaa.Given Go.Proofs.Ytfbgkcadnmcakaa.Px Go.Proofs.Ytfbgkcadnmcakaa.Cl
set_option linter.unusedVariables false
set_option linter.unusedSimpArgs false
def sumC : List S30 → Int
  | [] => 0
  | x :: t => x.f3 + sumC t
def Good : List S30 → List S30 → Prop
  | [], _ => True
  | _ :: _, [] => False
  | y :: o, s :: t => y.f0 = s.f0 ∧ y.f1 = s.f1 ∧ y.f2 = s.f2 ∧ y.f4 = s.f4 ∧ 0 < y.f3 ∧ y.f3 ≤ s.f3 ∧ (o ≠ [] → y.f3 = s.f3) ∧ Good o t
theorem a7d : ∀ {l : List S30}, (∀ x ∈ l, 1 ≤ x.f3) → 0 ≤ sumC l
  | [], _ => Int.le_refl _
  | x :: t, h => by
    have := a7d (l := t) (fun y hy => h y (List.mem_cons_of_mem _ hy))
    have := h x List.mem_cons_self
    show 0 ≤ x.f3 + sumC t
    omega
theorem b1h : ∀ {l : List S30}, (∀ x ∈ l, x.f3 ≤ 1000000000) → sumC l ≤ l.length * 1000000000
  | [], _ => by simp [sumC]
  | x :: t, h => by
    have := b1h (l := t) (fun y hy => h y (List.mem_cons_of_mem _ hy))
    have := h x List.mem_cons_self
    show x.f3 + sumC t ≤ _
    rw [List.length_cons]
    omega
theorem b3b {a b : List S30} (h : a.Perm b) : sumC a = sumC b := by
  induction h with
  | nil => rfl
  | cons x _ ih => show x.f3 + _ = x.f3 + _; rw [ih]
  | swap x y l => show y.f3 + (x.f3 + _) = x.f3 + (y.f3 + _); omega
  | trans _ _ ih1 ih2 => rw [ih1, ih2]
theorem a8q : ∀ (l : List S30) (c : Int), (∀ x ∈ l, 1 ≤ x.f3) → 0 ≤ c → sumC (a3m l c).1 + (a3m l c).2 = c ∧ 0 ≤ (a3m l c).2 ∧ ((a3m l c).2 ≠ 0 → sumC l = c - (a3m l c).2 ∧ (a3m l c).1.length = l.length) ∧ Good (a3m l c).1 l ∧ (c = 0 → (a3m l c).1 = [])
  | [], c, _, h0 => ⟨by show 0 + c = c; omega, h0, fun _ => ⟨by show (0 : Int) = c - c; omega, rfl⟩, trivial, fun _ => rfl⟩
  | x :: t, c, h, h0 => by
    rw [a3m]
    by_cases q : c = 0
    · rw [if_pos q]
      exact ⟨by show 0 + c = c; omega, h0, fun h => absurd q h, trivial, fun _ => rfl⟩
    · rw [if_neg q]
      have hx := h x List.mem_cons_self
      have hm := b3z x.f3 c
      obtain ⟨h1, h2, h3, h4, h5⟩ := a8q t (c - mn x.f3 c) (fun y hy => h y (List.mem_cons_of_mem _ hy)) (by omega)
      refine ⟨?_, h2, fun hq => ?_, ?_, fun e => absurd e q⟩
      · show mn x.f3 c + sumC (a3m t (c - mn x.f3 c)).1 + (a3m t (c - mn x.f3 c)).2 = c
        omega
      · obtain ⟨a, b⟩ := h3 hq
        refine ⟨?_, ?_⟩
        · show x.f3 + sumC t = c - (a3m t (c - mn x.f3 c)).2
          have hq : (a3m t (c - mn x.f3 c)).2 ≠ 0 := hq
          have : mn x.f3 c ≠ c := fun e => by
            have z : c - mn x.f3 c = 0 := by omega
            rw [z] at h1 h2 hq h5
            rw [h5 rfl] at h1
            have h1 : 0 + (a3m t 0).2 = 0 := h1
            omega
          omega
        · show (_ :: _ : List S30).length = _
          rw [List.length_cons, b, List.length_cons]
      · refine ⟨rfl, rfl, rfl, rfl, by show 0 < mn x.f3 c; omega, hm.1, fun hne => ?_, h4⟩
        show mn x.f3 c = x.f3
        rcases hm.2.2 with e | e
        · exact e
        · exact absurd (h5 (by omega)) hne
theorem Good.le : ∀ {o S : List S30}, Good o S → o.length ≤ S.length
  | [], _, _ => Nat.zero_le _
  | _ :: _, [], h => h.elim
  | y :: o, s :: t, h => by
    have := Good.le h.2.2.2.2.2.2.2
    simpa using this
theorem Good.at : ∀ {o S : List S30}, Good o S → ∀ i : Nat, i < o.length → (a0a o i).f0 = (a0a S i).f0 ∧ (a0a o i).f1 = (a0a S i).f1 ∧ (a0a o i).f2 = (a0a S i).f2 ∧ (a0a o i).f4 = (a0a S i).f4 ∧ 0 < (a0a o i).f3 ∧ (a0a o i).f3 ≤ (a0a S i).f3 ∧ (i + 1 < o.length → (a0a o i).f3 = (a0a S i).f3)
  | [], _, _, i, hi => by simp at hi
  | _ :: _, [], h, _, _ => h.elim
  | y :: o, s :: t, h, 0, _ => by
    refine ⟨h.1, h.2.1, h.2.2.1, h.2.2.2.1, h.2.2.2.2.1, h.2.2.2.2.2.1, fun hl => h.2.2.2.2.2.2.1 (fun e => ?_)⟩
    rw [e] at hl
    simp at hl
  | y :: o, s :: t, h, i + 1, hi => by
    have := Good.at h.2.2.2.2.2.2.2 i (by simpa using hi)
    refine ⟨this.1, this.2.1, this.2.2.1, this.2.2.2.1, this.2.2.2.2.1, this.2.2.2.2.2.1, fun hl => this.2.2.2.2.2.2 (by simpa using hl)⟩
theorem b4o {a b x y : S30} (h0 : a.f0 = x.f0) (h4 : a.f4 = x.f4) (k0 : b.f0 = y.f0) (k4 : b.f4 = y.f4) : cfS a b = cfS x y := by
  unfold cfS
  rw [h0, h4, k0, k4]
theorem a8g {l : List S30} {i : Int} (h0 : 0 ≤ i) (h1 : i < l.length) : a0a l i ∈ l := by
  have hd := a5t l h0 h1
  exact List.mem_of_mem_drop (i := i.toNat) (by rw [hd]; exact List.mem_cons_self)
theorem b3c {S : List S30} (h : S.Pairwise (fun a b => cfS a b ≤ 0)) (hn : (S.map (·.f0)).Nodup) {i j : Int} (i0 : 0 ≤ i) (ij : i < j) (jl : j < S.length) : cfS (a0a S i) (a0a S j) < 0 := by
  have hi : i.toNat < S.length := by omega
  have hj : j.toNat < S.length := by omega
  have e : ∀ k : Int, (hk : k.toNat < S.length) → a0a S k = S[k.toNat] := fun k hk => by
    unfold a0a
    rw [List.getD_eq_getElem?_getD, List.getElem?_eq_getElem hk]
    rfl
  rw [e i hi, e j hj]
  have h1 := List.pairwise_iff_getElem.1 h i.toNat j.toNat hi hj (by omega)
  have h2 : S[i.toNat].f0 ≠ S[j.toNat].f0 := by
    have := List.pairwise_iff_getElem.1 hn i.toNat j.toNat (by simpa using hi) (by simpa using hj) (by omega)
    simpa using this
  have h3 := (b0m S[i.toNat] S[j.toNat]).1
  by_cases q : cfS S[i.toNat] S[j.toNat] = 0
  · exact absurd (h3 q).2 h2
  · omega
def sumI (id : Int) : List S30 → Int
  | [] => 0
  | y :: t => if y.f0 = id then y.f3 + sumI id t else sumI id t
theorem b0o (id : Int) : ∀ {l : List S30}, (∀ x ∈ l, 1 ≤ x.f3) → 0 ≤ sumI id l
  | [], _ => Int.le_refl _
  | x :: t, h => by
    have := b0o id (l := t) (fun y hy => h y (List.mem_cons_of_mem _ hy))
    have := h x List.mem_cons_self
    rw [sumI]
    split <;> omega
theorem a9m {id : Int} : ∀ {l : List S30}, id ∉ l.map (·.f0) → sumI id l = 0
  | [], _ => rfl
  | x :: t, h => by
    rw [List.map_cons, List.mem_cons, not_or] at h
    rw [sumI, if_neg (fun e => h.1 e.symm)]
    exact a9m h.2
theorem b0p {id : Int} {s : S30} : ∀ {l : List S30}, (l.map (·.f0)).Nodup → fnd l id = some s → sumI id l = s.f3
  | [], _, h => by simp [fnd] at h
  | x :: t, hn, h => by
    rw [List.map_cons, List.nodup_cons] at hn
    unfold fnd at h
    rw [List.find?_cons] at h
    rw [sumI]
    by_cases c : x.f0 = id
    · rw [decide_eq_true c] at h
      obtain rfl := Option.some.inj h
      rw [if_pos c, a9m (by rw [← c]; exact hn.1)]
      omega
    · rw [decide_eq_false c] at h
      rw [if_neg c]
      exact b0p hn.2 h
section
variable (l : List S30) (ids : List Int) (cents : Int) (c S : List S30) (left : Int)
theorem b5b (hl : l.length ≤ 100) (hp : ∀ x ∈ l, 1 ≤ x.f3) (ii id sum fin : Int) (hf : fin ≤ 1000000000000) (r : Bool)
    (hr : Ev (fun k => a0d.l3 k l ids cents true c left sum fin ids (ids.length : Int) (wrap64 (ii + 1))) r) :
    ∀ (n : Nat) (j cur : Int), 0 ≤ j → j + n = l.length → 0 ≤ cur → cur + sumI id (l.drop j.toNat) = fin →
    Ev (fun k => a0d.l4 k l ids cents true c left sum cur id ids (ids.length : Int) ii l (l.length : Int) j) r := by
  intro n
  induction n with
  | zero =>
    intro j cur j0 hj c0 he
    rw [dropEnd l (by omega)] at he
    obtain rfl : cur = fin := by have he : cur + 0 = fin := he; omega
    obtain ⟨K, hK⟩ := hr
    dsimp only at hK
    exact evUp K fun k hk => by rw [a0d.l4, if_neg (by omega)]; exact hK k hk
  | succ n ih =>
    intro j cur j0 hj c0 he
    have hd := a5t l j0 (by omega)
    have hx := hp _ (a8g j0 (by omega : j < l.length))
    have hs := b0o id (l := l.drop (j + 1).toNat) (fun x hx => hp x (List.mem_of_mem_drop hx))
    rw [hd, sumI] at he
    by_cases q : (a0a l j).f0 = id
    · rw [if_pos q] at he
      obtain ⟨K, hK⟩ := ih (j + 1) (cur + (a0a l j).f3) (by omega) (by omega) (by omega) (by omega)
      dsimp only at hK
      refine evUp K fun k hk => ?_
      rw [a0d.l4, if_pos (by omega), if_pos j0, if_pos (by omega), if_pos q, w64 (x := j + 1) (by omega) (by omega), w64 (x := cur + _) (by omega) (by omega)]
      exact hK k hk
    · rw [if_neg q] at he
      obtain ⟨K, hK⟩ := ih (j + 1) cur (by omega) (by omega) c0 he
      dsimp only at hK
      refine evUp K fun k hk => ?_
      rw [a0d.l4, if_pos (by omega), if_pos j0, if_pos (by omega), if_neg q, w64 (x := j + 1) (by omega) (by omega)]
      exact hK k hk
theorem b5c (hl : okC l = true) (hi : ids.length ≤ 100) (hf : ∀ id ∈ ids, (fnd l id).isSome = true) (h0 : 0 ≤ left) (h1 : left ≤ cents) (h2 : cents ≤ 1000000000)
    (hlast : left ≠ 0 → sumC (ids.filterMap (fnd l)) = cents - left ∧ c.length = ids.length) :
    ∀ (n : Nat) (i cur : Int), 0 ≤ i → i + n = ids.length → 0 ≤ cur → cur + sumC ((ids.drop i.toNat).filterMap (fnd l)) = sumC (ids.filterMap (fnd l)) →
    Ev (fun k => a0d.l3 k l ids cents true c left cents cur ids (ids.length : Int) i) true := by
  have hR : ∀ x ∈ l, 1 ≤ x.f3 ∧ x.f3 ≤ 1000000000 := fun x hx => by
    have := a7v hl x hx
    unfold a5j at this
    simp only [Bool.and_eq_true, decide_eq_true_eq] at this
    omega
  have hfm : ∀ t : List Int, ∀ x ∈ t.filterMap (fnd l), x ∈ l := fun t x hx => by
    obtain ⟨id, _, e⟩ := List.mem_filterMap.1 hx
    exact (a6w e).2
  have hll := b1g hl
  have htot : sumC (ids.filterMap (fnd l)) ≤ 100000000000 := by
    have a := b1h (l := ids.filterMap (fnd l)) (fun x hx => (hR x (hfm _ x hx)).2)
    have b := List.length_filterMap_le (fnd l) ids
    omega
  intro n
  induction n with
  | zero =>
    intro i cur i0 hii c0 he
    rw [dropEnd ids (by omega)] at he
    have he : cur + 0 = sumC (ids.filterMap (fnd l)) := he
    refine evUp 0 fun k _ => ?_
    rw [a0d.l3, if_neg (by omega), if_pos rfl, if_pos rfl]
    by_cases q : left = 0
    · rw [if_pos q]
    · obtain ⟨a, b⟩ := hlast q
      rw [if_neg q, w64 (by omega) (by omega), if_pos (by omega), b, beq_self_eq_true]
  | succ n ih =>
    intro i cur i0 hii c0 he
    have hd := a9u ids i0 (by omega)
    have hm : rd ids i ∈ ids := List.mem_of_mem_drop (i := i.toNat) (by rw [hd]; exact List.mem_cons_self)
    have hsm := hf _ hm
    obtain ⟨s, es⟩ := Option.isSome_iff_exists.1 hsm
    have hs := b0p (a6q hl) es
    have hpos := a7d (l := (ids.drop (i + 1).toNat).filterMap (fnd l)) (fun x hx => (hR x (hfm _ x hx)).1)
    have hsl := hR s (a6w es).2
    rw [hd, List.filterMap_cons, es] at he
    have he : cur + (s.f3 + sumC ((ids.drop (i + 1).toNat).filterMap (fnd l))) = sumC (ids.filterMap (fnd l)) := he
    have h3 := ih (i + 1) (cur + s.f3) (by omega) (by omega) (by omega) (by omega)
    have h3' : Ev (fun k => a0d.l3 k l ids cents true c left cents (cur + s.f3) ids (ids.length : Int) (wrap64 (i + 1))) true := by
      rw [w64 (by omega) (by omega)]; exact h3
    obtain ⟨K, hK⟩ := b5b l ids cents c left hll (fun x hx => (hR x hx).1) i (rd ids i) cents (cur + s.f3) (by omega) true h3' l.length 0 cur (by omega) (by omega) c0 (by rw [show (0 : Int).toNat = 0 from rfl, List.drop_zero, hs])
    dsimp only at hK
    refine evUp K fun k hk => ?_
    rw [a0d.l3, if_pos (by omega), if_pos i0, if_pos (by omega)]
    exact hK k hk
theorem b5d (hl : l.length ≤ 100) (x s : S30) (hs : ∀ y ∈ l, y.f0 = x.f0 → y = s) (e1 : s.f1 = x.f1) (e2 : s.f2 = x.f2) (e4 : s.f4 = x.f4) (i sum al : Int) (r : Bool)
    (hr : Ev (fun k => a0d.l2 k l ids cents true c left sum al i s.f3 c (c.length : Int) i l (l.length : Int) (l.length : Int) x.f0 x.f1 x.f2 x.f3 x.f4.f0 x.f4.f1) r) :
    ∀ (n : Nat) (j full : Int), 0 ≤ j → j + n = l.length → (full = s.f3 ∨ ∃ y ∈ l.drop j.toNat, y.f0 = x.f0) →
    Ev (fun k => a0d.l2 k l ids cents true c left sum al i full c (c.length : Int) i l (l.length : Int) j x.f0 x.f1 x.f2 x.f3 x.f4.f0 x.f4.f1) r := by
  intro n
  induction n with
  | zero =>
    intro j full j0 hj he
    rw [dropEnd l (by omega)] at he
    rcases he with e | ⟨y, hy, _⟩
    · rw [e, show j = (l.length : Int) by omega]; exact hr
    · simp at hy
  | succ n ih =>
    intro j full j0 hj he
    have hd := a5t l j0 (by omega)
    have hm := a8g j0 (by omega : j < l.length)
    by_cases q : (a0a l j).f0 = x.f0
    · have es := hs _ hm q
      obtain ⟨K, hK⟩ := ih (j + 1) s.f3 (by omega) (by omega) (.inl rfl)
      dsimp only at hK
      refine evUp K fun k hk => ?_
      rw [a0d.l2, if_pos (by omega), if_pos j0, if_pos (by omega), if_pos q, if_pos rfl, w64 (x := j + 1) (by omega) (by omega), q, es, e1, e2, e4]
      simp only [beq_self_eq_true, Bool.and_self]
      exact hK k hk
    · obtain ⟨K, hK⟩ := ih (j + 1) full (by omega) (by omega) (by
        rcases he with e | ⟨y, hy, ey⟩
        · exact .inl e
        · rw [hd] at hy
          rcases List.mem_cons.1 hy with d | d
          · rw [d] at ey; exact absurd ey q
          · exact .inr ⟨y, d, ey⟩)
      dsimp only at hK
      refine evUp K fun k hk => ?_
      rw [a0d.l2, if_pos (by omega), if_pos j0, if_pos (by omega), if_neg q, w64 (x := j + 1) (by omega) (by omega)]
      exact hK k hk
theorem b5e (hl : okC l = true) (hcl : c.length ≤ 100) (hg : Good c S) (hS : ∀ x ∈ S, x ∈ l) (hord : S.Pairwise (fun a b => cfS a b ≤ 0)) (hnd : (S.map (·.f0)).Nodup) (h0 : 0 ≤ left) (h2 : cents ≤ 1000000000)
    (hr : Ev (fun k => a0d.l3 k l ids cents true c left cents 0 ids (ids.length : Int) 0) true) :
    ∀ (n : Nat) (i sum : Int), 0 ≤ i → i + n = c.length → 0 ≤ sum → sum + sumC (c.drop i.toNat) = cents →
    Ev (fun k => a0d.l1 k l ids cents true c left sum 0 c (c.length : Int) i) true := by
  have hle := hg.le
  intro n
  induction n with
  | zero =>
    intro i sum i0 hi s0 he
    rw [dropEnd c (by omega)] at he
    obtain rfl : sum = cents := by have he : sum + 0 = cents := he; omega
    obtain ⟨K, hK⟩ := hr
    dsimp only at hK
    exact evUp K fun k hk => by rw [a0d.l1, if_neg (by omega)]; exact hK k hk
  | succ n ih =>
    intro i sum i0 hi s0 he
    have hd := a5t c i0 (by omega)
    rw [hd] at he
    have he : sum + ((a0a c i).f3 + sumC (c.drop (i + 1).toNat)) = cents := he
    have cpos : ∀ y ∈ c, 1 ≤ y.f3 := fun y hy => by
      obtain ⟨m, hm, e⟩ := List.getElem_of_mem hy
      have := (hg.at m hm).2.2.2.2.1
      have ey : a0a c (m : Int) = y := by
        unfold a0a
        rw [List.getD_eq_getElem?_getD, show ((m : Int)).toNat = m by omega, List.getElem?_eq_getElem hm]
        exact e
      rw [ey] at this
      omega
    have hpos := a7d (l := c.drop (i + 1).toNat) (fun y hy => cpos y (List.mem_of_mem_drop hy))
    obtain ⟨a0, a1, a2, a4, a5, a6, a7⟩ := hg.at i.toNat (by omega)
    rw [show ((i.toNat : Nat) : Int) = i by omega] at a0 a1 a2 a4 a5 a6 a7
    obtain ⟨x, hx⟩ : ∃ x, x = a0a c i := ⟨_, rfl⟩
    obtain ⟨s, hs⟩ : ∃ s, s = a0a S i := ⟨_, rfl⟩
    have hsm : s ∈ l := hS s (by rw [hs]; exact a8g i0 (by omega))
    rw [← hx] at a0 a1 a2 a4 a5 a6 a7
    rw [← hs] at a0 a1 a2 a4 a6 a7
    rw [← hx] at he
    have uniq : ∀ y ∈ l, y.f0 = x.f0 → y = s := fun y hy e => by
      have h1 : fnd l y.f0 = some y := by
        have key : ∀ {l : List S30}, (l.map (·.f0)).Nodup → ∀ {y}, y ∈ l → fnd l y.f0 = some y := by
          intro l
          induction l with
          | nil => intro _ y hy; simp at hy
          | cons z t ih =>
            intro hn y hy
            rw [List.map_cons, List.nodup_cons] at hn
            unfold fnd
            rw [List.find?_cons]
            by_cases q : z.f0 = y.f0
            · rw [decide_eq_true q]
              rcases List.mem_cons.1 hy with d | d
              · rw [d]
              · exact absurd (List.mem_map_of_mem (f := (·.f0)) d) (by rw [← q]; exact hn.1)
            · rw [decide_eq_false q]
              rcases List.mem_cons.1 hy with d | d
              · rw [d] at q; exact absurd rfl q
              · exact ih hn.2 d
        exact key (a6q hl) hy
      have h2 : fnd l s.f0 = some s := by
        have key : ∀ {l : List S30}, (l.map (·.f0)).Nodup → ∀ {y}, y ∈ l → fnd l y.f0 = some y := by
          intro l
          induction l with
          | nil => intro _ y hy; simp at hy
          | cons z t ih =>
            intro hn y hy
            rw [List.map_cons, List.nodup_cons] at hn
            unfold fnd
            rw [List.find?_cons]
            by_cases q : z.f0 = y.f0
            · rw [decide_eq_true q]
              rcases List.mem_cons.1 hy with d | d
              · rw [d]
              · exact absurd (List.mem_map_of_mem (f := (·.f0)) d) (by rw [← q]; exact hn.1)
            · rw [decide_eq_false q]
              rcases List.mem_cons.1 hy with d | d
              · rw [d] at q; exact absurd rfl q
              · exact ih hn.2 d
        exact key (a6q hl) hsm
      rw [e, a0, h2] at h1
      exact (Option.some.inj h1).symm
    obtain ⟨K, hK⟩ := ih (i + 1) (sum + x.f3) (by omega) (by omega) (by omega) (by omega)
    dsimp only at hK
    have hbef : i ≠ 0 → a2e.f (a0a c (i - 1)).f0 (a0a c (i - 1)).f1 (a0a c (i - 1)).f2 (a0a c (i - 1)).f3 (a0a c (i - 1)).f4.f0 (a0a c (i - 1)).f4.f1 x.f0 x.f1 x.f2 x.f3 x.f4.f0 x.f4.f1 = some true := fun hne => by
      rw [b2z]
      obtain ⟨b0, _, _, b4, _⟩ := hg.at (i - 1).toNat (by omega)
      rw [show (((i - 1).toNat : Nat) : Int) = i - 1 by omega] at b0 b4
      rw [b4o b0 b4 a0 a4, hs, decide_eq_true (b3c hord hnd (by omega) (by omega) (by omega))]
    have hend : Ev (fun k => a0d.l2 k l ids cents true c left sum 0 i s.f3 c (c.length : Int) i l (l.length : Int) (l.length : Int) x.f0 x.f1 x.f2 x.f3 x.f4.f0 x.f4.f1) true := by
      refine evUp K fun k hk => ?_
      have hg1 := hK k hk
      rw [a0d.l2, if_neg (by omega), if_pos rfl, if_pos a5, if_pos a6, w64 (x := (c.length : Int) - 1) (by omega) (by omega), w64 (x := i + 1) (by omega) (by omega), w64 (x := sum + _) (by omega) (by omega), w64 (x := i - 1) (by omega) (by omega)]
      by_cases q : i = (c.length : Int) - 1
      · rw [if_pos q]
        by_cases z : i = 0
        · rw [if_pos z]; exact hg1
        · rw [if_neg z, if_pos (by omega), if_pos (by omega), hbef z, Option.bind_some]; exact hg1
      · rw [if_neg q, if_pos (a7 (by omega))]
        by_cases z : i = 0
        · rw [if_pos z]; exact hg1
        · rw [if_neg z, if_pos (by omega), if_pos (by omega), hbef z, Option.bind_some]; exact hg1
    obtain ⟨K2, h3⟩ := b5d l ids cents c left (b1g hl) x s uniq a1.symm a2.symm a4.symm i sum 0 true hend l.length 0 0 (by omega) (by omega) (.inr ⟨s, by rw [show (0 : Int).toNat = 0 from rfl, List.drop_zero]; exact hsm, a0.symm⟩)
    dsimp only at h3
    refine evUp K2 fun k hk => ?_
    rw [a0d.l1, if_pos (by omega), if_pos i0, if_pos (by omega), ← hx]
    exact h3 k hk
end
theorem a7e {l : List S30} {ids : List Int} (h : (pick l ids []).2 = 0) : (ids.Nodup ∧ ∀ id ∈ ids, (fnd l id).isSome = true) ∧ pick l ids [] = (ids.filterMap (fnd l), 0) := by
  rcases a7w l ids [] (by simp) with ⟨a, b, c⟩ | ⟨_, _, c⟩
  · exact ⟨⟨by simpa using a, b⟩, by simpa using c⟩
  · exact absurd h c
theorem a9n (l : List S30) (ids : List Int) : (pick l ids.reverse []).2 = 0 ↔ (pick l ids []).2 = 0 := by
  have key : ∀ ids : List Int, (ids.Nodup ∧ ∀ id ∈ ids, (fnd l id).isSome = true) → (pick l ids []).2 = 0 := fun ids h => by
    rcases a7w l ids [] (by simp) with ⟨_, _, c⟩ | ⟨a, _, _⟩
    · rw [c]
    · exact absurd ⟨by simpa using h.1, h.2⟩ a
  constructor
  · intro h
    obtain ⟨⟨a, b⟩, _⟩ := a7e h
    exact key ids ⟨by simpa [List.nodup_iff_pairwise_ne, List.pairwise_reverse, ne_comm] using a, fun id hid => b id (by simpa using hid)⟩
  · intro h
    obtain ⟨⟨a, b⟩, _⟩ := a7e h
    exact key ids.reverse ⟨List.pairwise_reverse.2 (a.imp (fun h => h.symm)), fun id hid => b id (by simpa using hid)⟩
theorem b4p (l : List S30) (ids : List Int) (hi : ids.length ≤ 100) (cents : Int) (c : List S30) (left e : Int) (r : Bool)
    (hr : Ev (fun k => a0d.l0 k l ids cents true c left e ids.reverse (-1)) r) : ∀ (n : Nat) (i : Int), i + 1 = n → i < ids.length →
    Ev (fun k => a0d.l0 k l ids cents true c left e (ids.drop (i + 1).toNat).reverse i) r := by
  intro n
  induction n with
  | zero =>
    intro i hn hl
    obtain rfl : i = -1 := by omega
    exact hr
  | succ n ih =>
    intro i hn hl
    obtain ⟨K, hK⟩ := ih (i - 1) (by omega) (by omega)
    dsimp only at hK
    rw [show i - 1 + 1 = i by omega, a9u ids (by omega : 0 ≤ i) hl, List.reverse_cons] at hK
    have hlen : (ids.drop (i + 1).toNat).reverse.length ≤ ids.length := by rw [List.length_reverse, List.length_drop]; omega
    refine evUp K fun k hk => ?_
    rw [a0d.l0, if_pos (by omega), if_pos (by omega), if_pos hl, if_pos (by omega), w64 (by omega) (by omega)]
    exact hK k hk
theorem ClaimsCover (l : List S30) (ids : List Int) (cents : Int) (hl : (l.length : Int) ≤ 9223372036854775807) : Ev (fun k => a0d.f k l ids cents) true := by
  obtain ⟨K0, h0⟩ := b4n
  dsimp only at h0
  by_cases ci : (ids.length : Int) > 100
  · refine ⟨K0, fun k hk => ?_⟩
    dsimp only
    unfold a0d.f
    rw [h0 _ (by omega), Option.bind_some, if_pos ci]
  have hi : ids.length ≤ 100 := by omega
  obtain ⟨K1, h1⟩ := b0n l hl ids (by omega) cents
  obtain ⟨K2, h2⟩ := b0n l hl ids.reverse (by rw [List.length_reverse]; omega) cents
  dsimp only at h1 h2
  have main : Ev (fun k => a0d.l0 k l ids cents true (a5k l ids cents).1 (a5k l ids cents).2.1 (a5k l ids cents).2.2 ids.reverse (-1)) true := by
    by_cases ok : (okC l && decide (0 ≤ cents ∧ cents ≤ 1000000000)) = true
    · have eR : ∀ ids, a5k l ids cents = covF (pick l ids []) cents := fun ids => by unfold a5k; rw [if_pos ok]
      rw [eR] at h2
      rw [eR]
      rw [Bool.and_eq_true, decide_eq_true_eq] at ok
      obtain ⟨hok, c0, c1⟩ := ok
      by_cases q : (pick l ids []).2 = 0
      · have q' := (a9n l ids).2 q
        obtain ⟨⟨hn, hf⟩, ep⟩ := a7e q
        obtain ⟨⟨hn', hf'⟩, ep'⟩ := a7e q'
        have hnd : ((ids.filterMap (fnd l)).map (·.f0)).Nodup := by rw [a5w l hf]; exact hn
        have hperm : (ids.reverse.filterMap (fnd l)).Perm (ids.filterMap (fnd l)) := (List.reverse_perm ids).filterMap _
        have esort : a3v cfS (ids.reverse.filterMap (fnd l)) = a3v cfS (ids.filterMap (fnd l)) :=
          a7i a8o (a8f hnd) ((a4p cfS _).trans hperm) (a5a a8o _)
        have e1 : covF (pick l ids []) cents = ((a3m (a3v cfS (ids.filterMap (fnd l))) cents).1, (a3m (a3v cfS (ids.filterMap (fnd l))) cents).2, 0) := by
          unfold covF; rw [if_pos q, ep]
        have e2 : covF (pick l ids.reverse []) cents = ((a3m (a3v cfS (ids.filterMap (fnd l))) cents).1, (a3m (a3v cfS (ids.filterMap (fnd l))) cents).2, 0) := by
          unfold covF; rw [if_pos q', ep', esort]
        rw [e1]
        rw [e2] at h2
        obtain ⟨S, hS⟩ : ∃ S, S = a3v cfS (ids.filterMap (fnd l)) := ⟨_, rfl⟩
        rw [← hS] at h2 ⊢
        have pS : S.Perm (ids.filterMap (fnd l)) := by rw [hS]; exact a4p cfS _
        have mS : ∀ x ∈ S, x ∈ l := fun x hx => by
          obtain ⟨id, _, e⟩ := List.mem_filterMap.1 (pS.subset hx)
          exact (a6w e).2
        have rS : ∀ x ∈ S, 1 ≤ x.f3 := fun x hx => by
          have := a7v hok x (mS x hx)
          unfold a5j at this
          simp only [Bool.and_eq_true, decide_eq_true_eq] at this
          omega
        obtain ⟨g1, g2, g3, g4, _⟩ := a8q S cents rS c0
        have lS : S.length ≤ 100 := by
          have := pS.length_eq
          have := List.length_filterMap_le (fnd l) ids
          omega
        obtain ⟨c, hc⟩ : ∃ c, c = (a3m S cents).1 := ⟨_, rfl⟩
        obtain ⟨left, hleft⟩ : ∃ z, z = (a3m S cents).2 := ⟨_, rfl⟩
        rw [← hc, ← hleft] at g1 g3
        rw [← hc] at g4
        rw [← hleft] at g2
        rw [← hc, ← hleft] at h2 ⊢
        have lc := g4.le
        have hcp : 0 ≤ sumC c := a7d (fun y hy => by
          obtain ⟨m, hm, e⟩ := List.getElem_of_mem hy
          have := (g4.at m hm).2.2.2.2.1
          have ey : a0a c (m : Int) = y := by
            unfold a0a
            rw [List.getD_eq_getElem?_getD, show ((m : Int)).toNat = m by omega, List.getElem?_eq_getElem hm]
            exact e
          rw [ey] at this
          omega)
        have hlenf : (ids.filterMap (fnd l)).length = ids.length := by
          have := congrArg List.length (a5w l hf)
          rw [List.length_map] at this
          exact this
        have k3 := b5c l ids cents c left hok hi hf g2 (by omega) c1 (fun hne => by
          obtain ⟨a, b⟩ := g3 hne
          refine ⟨by rw [← b3b pS]; exact a, ?_⟩
          rw [b, pS.length_eq, hlenf]) ids.length 0 0 (by omega) (by omega) (by omega) (by rw [show (0 : Int).toNat = 0 from rfl, List.drop_zero]; omega)
        obtain ⟨K3, h3⟩ := b5e l ids cents c S left hok (by omega) g4 mS (by rw [hS]; exact a5a a8o _) ((pS.map (·.f0)).nodup_iff.2 hnd) g2 c1 k3 c.length 0 left (by omega) (by omega) g2 (by rw [show (0 : Int).toNat = 0 from rfl, List.drop_zero]; omega)
        obtain ⟨K4, h4⟩ := b3a c (by omega)
        dsimp only at h3 h4
        refine ⟨K2 + K3 + K4 + 2, fun k hk => ?_⟩
        obtain ⟨k, rfl⟩ : ∃ j, k = j + 2 := ⟨k - 2, by omega⟩
        dsimp only
        rw [a0d.l0, if_neg (by decide), h2 _ (by omega), Option.bind_some, if_pos rfl, if_pos rfl, if_pos rfl, h4 _ (by omega), Option.bind_some, if_pos rfl, decide_eq_false (by omega), a0d.j1, if_neg (by decide)]
        exact h3 k (by omega)
      · have q' : ¬ (pick l ids.reverse []).2 = 0 := fun h => q ((a9n l ids).1 h)
        have e1 : covF (pick l ids []) cents = ([], 0, (pick l ids []).2) := by unfold covF; rw [if_neg q]
        have e2 : covF (pick l ids.reverse []) cents = ([], 0, (pick l ids.reverse []).2) := by unfold covF; rw [if_neg q']
        rw [e1]
        rw [e2] at h2
        refine ⟨K2 + 1, fun k hk => ?_⟩
        obtain ⟨k, rfl⟩ : ∃ j, k = j + 1 := ⟨k - 1, by omega⟩
        dsimp only
        rw [a0d.l0, if_neg (by decide), h2 _ (by omega), Option.bind_some, if_neg q, if_pos rfl, if_pos (by simp), if_pos rfl]
        simp [q']
    · have eR : ∀ ids, a5k l ids cents = ([], 0, 1) := fun ids => by unfold a5k; rw [if_neg ok]
      rw [eR] at h2
      rw [eR]
      refine ⟨K2 + 1, fun k hk => ?_⟩
      obtain ⟨k, rfl⟩ : ∃ j, k = j + 1 := ⟨k - 1, by omega⟩
      dsimp only
      rw [a0d.l0, if_neg (by decide), h2 _ (by omega), Option.bind_some, if_neg (show ¬ (1 : Int) = 0 by decide), if_pos rfl, if_pos (by simp), if_pos rfl]
      rfl
  obtain ⟨K5, h5⟩ := b4p l ids hi cents _ _ _ true main ids.length ((ids.length : Int) - 1) (by omega) (by omega)
  dsimp only at h5
  rw [show ((ids.length : Int) - 1 + 1).toNat = ids.length by omega, List.drop_length] at h5
  refine ⟨K0 + K1 + K5, fun k hk => ?_⟩
  dsimp only
  unfold a0d.f
  rw [h0 _ (by omega), Option.bind_some, if_neg ci, h1 _ (by omega), Option.bind_some, w64 (by omega) (by omega)]
  exact h5 k (by omega)
end Go.Proofs.Ytfbgkcadnmcakaa.Pure
