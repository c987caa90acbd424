/- What the reference's functions on claims count: the same as the program's. Conditions: as each theorem states. -/
import Derived.Test.YtfbgkcadnmcakaaClC
import Derived.Test.YtfbgkcadnmcakaaPx20
import Derived.Test.YtfbgkcadnmcakaaPx18
import Derived.Test.YtfbgkcadnmcakaaPx19
import Derived.Test.YtfbgkcadnmcakaaPx21
import Derived.Test.YtfbgkcadnmcakaaPx22
namespace Go.Proofs.Ytfbgkcadnmcakaa.Cl
open Go.RowKit Go.Proofs.YtfbgkcadnmcakaaW.PrintWords Go.Proofs.Ytfbgkcadnmcakaa.Given Go.Proofs.Ytfbgkcadnmcakaa.Px
set_option linter.unusedVariables false
set_option linter.unusedSimpArgs false
theorem a4x (n a b : Int) : a0l.f n a b = some (decide (a ≤ n ∧ n ≤ b)) := by
  unfold a0l.f
  by_cases c : n ≥ a
  · rw [if_pos c]; congr 1; simp; intro _; exact c
  · rw [if_neg c]; congr 1; simp; omega
theorem b4k (a b : Int) : a3g.f a b = some (a7v a b) := by
  unfold a3g.f a7v
  by_cases c : a ≥ 0
  · rw [if_pos c]
    by_cases d : a < b
    · rw [if_pos d]; congr 1; simp [d]; intro _; exact c
    · rw [if_neg d]; congr 1; simp [d]
  · rw [if_neg c]; congr 1; simp; omega
theorem a5q (x : S30) (k : Nat) : a0o.f (k + 1) x.f0 x.f1 x.f2 x.f3 x.f4.f0 x.f4.f1 = some (a4l x) := by
  unfold a0o.f
  rw [a4x, a4x, a4x, a4x]
  simp only [Option.bind_some]
  have e0 : decide (1 ≤ x.f0 ∧ x.f0 ≤ 1000000) = numB x.f0 := rfl
  have e1 : decide (1 ≤ x.f1 ∧ x.f1 ≤ 1000000) = numB x.f1 := rfl
  have e2 : decide (1 ≤ x.f2 ∧ x.f2 ≤ 1000000) = numB x.f2 := rfl
  rw [e0, e1, e2]
  unfold a4l
  cases numB x.f0 with
  | false => rw [if_neg (by decide), a0o.j0, if_pos rfl]; rfl
  | true =>
    cases numB x.f1 with
    | false => rw [if_pos rfl, if_neg (by decide), a0o.j0, if_pos rfl]; rfl
    | true =>
      cases numB x.f2 with
      | false => rw [if_pos rfl, if_pos rfl, if_neg (by decide), a0o.j0, if_pos rfl]; rfl
      | true =>
        rw [if_pos rfl, if_pos rfl, if_pos rfl, a0o.j0, b4k]
        cases decide (1 ≤ x.f3 ∧ x.f3 ≤ 1000000000) with
        | false => rfl
        | true => rfl
theorem b5r (l : List S26) (hl : (l.length : Int) ≤ 9223372036854775807) : ∀ (n : Nat) (i : Int), 0 ≤ i → i + n = l.length →
    Ev (fun k => a0k.l0 k l i) ((l.drop i.toNat).all asgB && decide ((l.length : Int) ≤ 1000)) := by
  intro n
  induction n with
  | zero =>
    intro i i0 hi
    rw [dropEnd l (by omega)]
    exact evUp 0 fun k _ => by rw [a0k.l0, if_neg (by omega)]; rfl
  | succ n ih =>
    intro i i0 hi
    obtain ⟨K, hK⟩ := ih (i + 1) (by omega) (by omega)
    dsimp only at hK
    refine evUp (K + 1) fun k hk => ?_
    obtain ⟨k, rfl⟩ : ∃ j, k = j + 1 := ⟨k - 1, by omega⟩
    rw [a0k.l0, if_pos (by omega), if_pos i0, a4x, a4x, a4x, a4x, a9w l i0 (by omega), List.all_cons]
    simp only [Option.bind_some]
    have hgo : a0k.j1 (k + 1) l i false = some ((l.drop (i + 1).toNat).all asgB && decide ((l.length : Int) ≤ 1000)) := by
      rw [a0k.j1, if_neg (by decide), w64 (by omega) (by omega)]
      exact hK k (by omega)
    have hno : a0k.j1 (k + 1) l i true = some false := by rw [a0k.j1, if_pos rfl]
    generalize a0c l i = x
    have e0 : decide (1 ≤ x.f0 ∧ x.f0 ≤ 1000000) = numB x.f0 := rfl
    have e1 : decide (1 ≤ x.f1 ∧ x.f1 ≤ 1000000) = numB x.f1 := rfl
    have e2 : decide (1 ≤ x.f2 ∧ x.f2 ≤ 1000000) = numB x.f2 := rfl
    have e3 : decide (0 ≤ x.f3 ∧ x.f3 ≤ 36524) = dayB x.f3 := rfl
    rw [e0, e1, e2, e3]
    unfold asgB
    cases numB x.f0 with
    | false => rw [if_neg (by decide), hno]; rfl
    | true =>
      cases numB x.f1 with
      | false => rw [if_pos rfl, if_neg (by decide), hno]; rfl
      | true =>
        cases numB x.f2 with
        | false => rw [if_pos rfl, if_pos rfl, if_neg (by decide), hno]; rfl
        | true =>
          rw [if_pos rfl, if_pos rfl, if_pos rfl]
          cases dayB x.f3 with
          | false => exact hno
          | true => exact hgo
theorem b1d (l : List S26) (hl : (l.length : Int) ≤ 9223372036854775807) : Ev (fun k => a0k.f k l) (okA l) := by
  have h := b5r l hl l.length 0 (by omega) (by omega)
  have e : ((l.drop (0 : Int).toNat).all asgB && decide ((l.length : Int) ≤ 1000)) = okA l := by
    unfold okA
    rw [Bool.and_comm]
    congr 1
    exact decide_eq_decide.2 (by omega)
  rw [e] at h
  exact h
def later (day i : Int) (x : S26) (j : Int) : Prop := x.f3 > day ∨ x.f3 = day ∧ j > i
def a7d (l : List S26) (id day i m r : Int) : Prop := (r = -1 ∧ ∀ j : Int, 0 ≤ j → j < m → (a0c l j).f0 = id → ¬ later day i (a0c l j) j) ∨
  (0 ≤ r ∧ r < m ∧ (a0c l r).f0 = id ∧ later day i (a0c l r) r ∧ ∀ j : Int, 0 ≤ j → j < m → (a0c l j).f0 = id → later day i (a0c l j) j → (a0c l r).f3 < (a0c l j).f3 ∨ (a0c l r).f3 = (a0c l j).f3 ∧ r ≤ j)
theorem b7y (l : List S26) (hl : (l.length : Int) ≤ 9223372036854775807) (id day i : Int) : ∀ (n : Nat) (m best : Int), 0 ≤ m → m + n = l.length → a7d l id day i m best →
    ∃ r, Ev (fun k => a0j.l0 k l id day i best m) r ∧ a7d l id day i l.length r := by
  intro n
  induction n with
  | zero =>
    intro m best m0 hm hb
    exact ⟨best, evUp 0 fun k _ => by rw [a0j.l0, if_neg (by omega)], by rw [show (l.length : Int) = m by omega]; exact hb⟩
  | succ n ih =>
    intro m best m0 hm hb
    by_cases q : (a0c l m).f0 = id ∧ later day i (a0c l m) m
    · by_cases t : best < 0 ∨ (a0c l m).f3 < (a0c l best).f3
      · have hnew : a7d l id day i (m + 1) m := by
          refine .inr ⟨m0, by omega, q.1, q.2, fun j j0 j1 hj hl' => ?_⟩
          by_cases e : j = m
          · rw [e]; omega
          · rcases hb with ⟨_, h2⟩ | ⟨h1, h2, h3, h4, h5⟩
            · exact absurd hl' (h2 j j0 (by omega) hj)
            · have := h5 j j0 (by omega) hj hl'
              omega
        obtain ⟨r, ⟨K, hK⟩, hr⟩ := ih (m + 1) m (by omega) (by omega) hnew
        dsimp only at hK
        refine ⟨r, evUp (K + 2) fun k hk => ?_, hr⟩
        obtain ⟨k, rfl⟩ : ∃ j, k = j + 2 := ⟨k - 2, by omega⟩
        have step : a0j.l0 (k + 2 + 1) l id day i best m = a0j.j2 (k + 1) l id day i best m false := by
          rw [a0j.l0, if_pos (by omega), if_pos m0]
          by_cases g : (a0c l m).f3 > day
          · rw [if_pos g, a0j.j1, if_pos m0, if_pos (by omega), if_pos q.1]; rfl
          · have g2 : (a0c l m).f3 = day ∧ m > i := by have := q.2; unfold later at this; omega
            rw [if_neg g, if_pos g2.1, decide_eq_true g2.2, a0j.j1, if_pos m0, if_pos (by omega), if_pos q.1]; rfl
        rw [step, a0j.j2, if_neg (by decide), w64 (by omega) (by omega)]
        by_cases s : best < 0
        · rw [if_pos s]; exact hK k (by omega)
        · have hb2 : best < m := by
            rcases hb with ⟨h1, _⟩ | ⟨_, h2, _⟩ <;> omega
          rw [if_neg s, if_pos m0, if_pos (by omega), if_pos (by omega), if_pos (by omega), if_pos (by omega)]
          exact hK k (by omega)
      · have s : ¬ best < 0 := fun h => t (.inl h)
        have s2 : ¬ (a0c l m).f3 < (a0c l best).f3 := fun h => t (.inr h)
        have hnew : a7d l id day i (m + 1) best := by
          rcases hb with ⟨h1, _⟩ | ⟨h1, h2, h3, h4, h5⟩
          · omega
          · refine .inr ⟨h1, by omega, h3, h4, fun j j0 j1 hj hl' => ?_⟩
            by_cases e : j = m
            · subst e; omega
            · exact h5 j j0 (by omega) hj hl'
        obtain ⟨r, ⟨K, hK⟩, hr⟩ := ih (m + 1) best (by omega) (by omega) hnew
        dsimp only at hK
        refine ⟨r, evUp (K + 2) fun k hk => ?_, hr⟩
        obtain ⟨k, rfl⟩ : ∃ j, k = j + 2 := ⟨k - 2, by omega⟩
        have step : a0j.l0 (k + 2 + 1) l id day i best m = a0j.j2 (k + 1) l id day i best m false := by
          rw [a0j.l0, if_pos (by omega), if_pos m0]
          by_cases g : (a0c l m).f3 > day
          · rw [if_pos g, a0j.j1, if_pos m0, if_pos (by omega), if_pos q.1]; rfl
          · have g2 : (a0c l m).f3 = day ∧ m > i := by have := q.2; unfold later at this; omega
            rw [if_neg g, if_pos g2.1, decide_eq_true g2.2, a0j.j1, if_pos m0, if_pos (by omega), if_pos q.1]; rfl
        have hb2 : best < m := by
          rcases hb with ⟨h1, _⟩ | ⟨_, h2, _⟩ <;> omega
        rw [step, a0j.j2, if_neg (by decide), w64 (by omega) (by omega), if_neg s, if_pos m0, if_pos (by omega), if_pos (by omega), if_pos (by omega), if_neg s2]
        exact hK k (by omega)
    · have hnew : a7d l id day i (m + 1) best := by
        rcases hb with ⟨h1, h2⟩ | ⟨h1, h2, h3, h4, h5⟩
        · refine .inl ⟨h1, fun j j0 j1 hj => ?_⟩
          by_cases e : j = m
          · subst e; exact fun h => q ⟨hj, h⟩
          · exact h2 j j0 (by omega) hj
        · refine .inr ⟨h1, by omega, h3, h4, fun j j0 j1 hj hl' => ?_⟩
          by_cases e : j = m
          · subst e; exact absurd ⟨hj, hl'⟩ q
          · exact h5 j j0 (by omega) hj hl'
      obtain ⟨r, ⟨K, hK⟩, hr⟩ := ih (m + 1) best (by omega) (by omega) hnew
      dsimp only at hK
      refine ⟨r, evUp (K + 2) fun k hk => ?_, hr⟩
      obtain ⟨k, rfl⟩ : ∃ j, k = j + 2 := ⟨k - 2, by omega⟩
      have step : a0j.l0 (k + 2 + 1) l id day i best m = a0j.j2 (k + 1) l id day i best m true := by
        rw [a0j.l0, if_pos (by omega), if_pos m0]
        by_cases f : (a0c l m).f0 = id
        · have hl' : ¬ later day i (a0c l m) m := fun h => q ⟨f, h⟩
          unfold later at hl'
          rw [if_neg (fun g => hl' (.inl g))]
          by_cases g : (a0c l m).f3 = day
          · rw [if_pos g, decide_eq_false (fun h => hl' (.inr ⟨g, h⟩)), a0j.j1, if_pos m0, if_pos (by omega), if_pos f]; rfl
          · rw [if_neg g, a0j.j1, if_pos m0, if_pos (by omega), if_pos f]; rfl
        · have hj : ∀ b, a0j.j1 (k + 1 + 1) l id day i best m b = a0j.j2 (k + 1) l id day i best m true := fun b => by
            rw [a0j.j1, if_pos m0, if_pos (by omega), if_neg f]
          rw [hj, hj, hj, ite_self, ite_self]
      rw [step, a0j.j2, if_pos rfl, w64 (by omega) (by omega)]
      exact hK k (by omega)
theorem b3v (l : List S26) (hl : (l.length : Int) ≤ 9223372036854775807) (id day i : Int) : ∃ r, Ev (fun k => a0j.f k l id day i) r ∧ a7d l id day i l.length r :=
  b7y l hl id day i l.length 0 (-1) (by omega) (by omega) (.inl ⟨rfl, fun j j0 j1 => by omega⟩)
def a6o : List S26 → Int → List (S26 × Int)
  | [], _ => []
  | x :: t, i => (x, i) :: a6o t (i + 1)
def insP (p : S26 × Int) : List (S26 × Int) → List (S26 × Int)
  | [] => [p]
  | q :: t => if p.1.f3 ≤ q.1.f3 then p :: q :: t else q :: insP p t
def a6p : List (S26 × Int) → List (S26 × Int)
  | [] => []
  | p :: t => insP p (a6p t)
theorem b2u (p : S26 × Int) : ∀ L : List (S26 × Int), (insP p L).map (·.1) = ins1 p.1 (L.map (·.1))
  | [] => rfl
  | q :: t => by
    rw [insP, List.map_cons, ins1]
    split
    · rfl
    · rw [List.map_cons, b2u p t]
theorem b1e : ∀ (l : List S26) (i : Int), (a6p (a6o l i)).map (·.1) = a4c l
  | [], _ => rfl
  | x :: t, i => by rw [a6o, a6p, b2u, b1e t, a4c]
theorem a9g {p q : S26 × Int} : ∀ {L : List (S26 × Int)}, q ∈ insP p L ↔ q = p ∨ q ∈ L
  | [] => by simp [insP]
  | r :: t => by
    rw [insP]
    split
    · simp
    · rw [List.mem_cons, a9g, List.mem_cons]
      constructor
      · rintro (h | h | h)
        · exact .inr (.inl h)
        · exact .inl h
        · exact .inr (.inr h)
      · rintro (h | h | h)
        · exact .inr (.inl h)
        · exact .inl h
        · exact .inr (.inr h)
theorem a8q {q : S26 × Int} : ∀ {L : List (S26 × Int)}, q ∈ a6p L ↔ q ∈ L
  | [] => by simp [a6p]
  | p :: t => by rw [a6p, a9g, a8q, List.mem_cons]
theorem a8r {q : S26 × Int} : ∀ {l : List S26} {i : Int}, q ∈ a6o l i ↔ i ≤ q.2 ∧ q.2 < i + l.length ∧ q.1 = a0c l (q.2 - i)
  | [], i => by
    simp only [a6o, List.not_mem_nil, List.length_nil, false_iff]
    omega
  | x :: t, i => by
    rw [a6o, List.mem_cons, a8r, List.length_cons]
    constructor
    · rintro (h | ⟨h1, h2, h3⟩)
      · rw [h]
        refine ⟨Int.le_refl _, by show i < i + ((t.length + 1 : Nat) : Int); omega, ?_⟩
        show x = a0c (x :: t) (i - i)
        rw [Int.sub_self]; rfl
      · refine ⟨by omega, by omega, ?_⟩
        rw [h3]
        unfold a0c
        rw [show (q.2 - i).toNat = (q.2 - (i + 1)).toNat + 1 by omega]
        rfl
    · rintro ⟨h1, h2, h3⟩
      by_cases e : q.2 = i
      · left
        rw [e, Int.sub_self] at h3
        have h3 : q.1 = x := h3
        obtain ⟨a, b⟩ := q
        simp only at e h3
        rw [e, h3]
      · right
        refine ⟨by omega, by omega, ?_⟩
        rw [h3]
        unfold a0c
        rw [show (q.2 - i).toNat = (q.2 - (i + 1)).toNat + 1 by omega]
        rfl
def lexP (p q : S26 × Int) : Prop := p.1.f3 < q.1.f3 ∨ p.1.f3 = q.1.f3 ∧ p.2 < q.2
theorem lexP.trans {p q r : S26 × Int} (h : lexP p q) (k : lexP q r) : lexP p r := by unfold lexP at *; omega
theorem b2v {p : S26 × Int} : ∀ {L : List (S26 × Int)}, L.Pairwise lexP → (∀ q ∈ L, p.2 < q.2) → (insP p L).Pairwise lexP
  | [], _, _ => List.pairwise_singleton _ _
  | q :: t, h, hp => by
    have h' := List.pairwise_cons.1 h
    have hq := hp q List.mem_cons_self
    rw [insP]
    split
    · rename_i c
      have c2 : lexP p q := by unfold lexP; omega
      refine List.pairwise_cons.2 ⟨fun r hr => ?_, h⟩
      rcases List.mem_cons.1 hr with e | e
      · rw [e]; exact c2
      · exact c2.trans (h'.1 r e)
    · rename_i c
      refine List.pairwise_cons.2 ⟨fun r hr => ?_, b2v h'.2 (fun r hr => hp r (List.mem_cons_of_mem _ hr))⟩
      rcases a9g.1 hr with e | e
      · rw [e]; unfold lexP; omega
      · exact h'.1 r e
theorem b1f : ∀ (l : List S26) (i : Int), (a6p (a6o l i)).Pairwise lexP
  | [], _ => List.Pairwise.nil
  | x :: t, i => by
    rw [a6o, a6p]
    refine b2v (b1f t (i + 1)) fun q hq => ?_
    have := (a8r.1 (a8q.1 hq)).1
    show i < q.2
    omega
def place : List (S26 × Int) → Int
  | [] => -1
  | p :: _ => p.2
def a5o (l : List S26) (id : Int) : List (S26 × Int) := (a6p (a6o l 0)).filter (fun p => decide (p.1.f0 = id))
theorem a6j {l : List S26} {id : Int} {p : S26 × Int} : p ∈ a5o l id ↔ 0 ≤ p.2 ∧ p.2 < l.length ∧ p.1 = a0c l p.2 ∧ p.1.f0 = id := by
  unfold a5o
  rw [List.mem_filter, a8q, a8r, decide_eq_true_eq, Int.sub_zero, Int.zero_add]
  constructor
  · rintro ⟨⟨a, b, c⟩, d⟩; exact ⟨a, b, c, d⟩
  · rintro ⟨a, b, c, d⟩; exact ⟨⟨a, b, c⟩, d⟩
theorem b1g (l : List S26) (id : Int) : (a5o l id).Pairwise lexP := (b1f l 0).filter _
theorem b3w {l : List S26} {id day i r : Int} {A B : List (S26 × Int)} (h : a7d l id day i l.length r) (he : a5o l id = A ++ B) (hA : ∀ p ∈ A, ¬ later day i p.1 p.2) (hB : ∀ p ∈ B, later day i p.1 p.2) : r = place B := by
  have hlex := b1g l id
  rw [he, List.pairwise_append] at hlex
  cases B with
  | nil =>
    rcases h with ⟨h1, _⟩ | ⟨h1, h2, h3, h4, _⟩
    · exact h1
    · have : (a0c l r, r) ∈ a5o l id := a6j.2 ⟨h1, h2, rfl, h3⟩
      rw [he, List.append_nil] at this
      exact absurd h4 (hA _ this)
  | cons p B =>
    have hp : p ∈ a5o l id := by rw [he]; exact List.mem_append_right _ List.mem_cons_self
    obtain ⟨p0, p1, p2, p3⟩ := a6j.1 hp
    have hpl := hB p List.mem_cons_self
    rcases h with ⟨_, h2⟩ | ⟨h1, h2, h3, h4, h5⟩
    · exact absurd hpl (by rw [p2]; exact h2 p.2 p0 p1 (by rw [← p2]; exact p3))
    · have hr : (a0c l r, r) ∈ a5o l id := a6j.2 ⟨h1, h2, rfl, h3⟩
      rw [he] at hr
      rcases List.mem_append.1 hr with q | q
      · exact absurd h4 (hA _ q)
      · rcases List.mem_cons.1 q with e | e
        · show r = p.2
          rw [← e]
        · have lt := (List.pairwise_cons.1 hlex.2.1).1 _ e
          have := h5 p.2 p0 p1 (by rw [← p2]; exact p3) (by rw [← p2]; exact hpl)
          rw [← p2] at this
          unfold lexP at lt
          dsimp only at lt
          omega
theorem a9a (id day : Int) : ∀ (who : Int) (l : List S26), (∀ x ∈ l, day < x.f3) → a4p id day who l = who
  | who, [], _ => rfl
  | who, x :: t, h => by
    have := h x List.mem_cons_self
    show a4p id day (hstep id day who x) t = who
    unfold hstep
    rw [if_neg (by omega)]
    exact a9a id day who t (fun y hy => h y (List.mem_cons_of_mem _ hy))
theorem b4l (c : S30) (l : List S26) (hl : (l.length : Int) ≤ 9223372036854775807) (day : Int) : ∀ (B A : List (S26 × Int)) (who : Int), a5o l c.f0 = A ++ B →
    Ev (fun k => a0s.l0 k l day who (place B) c.f0 c.f1 c.f2 c.f3 c.f4.f0 c.f4.f1) (a4p c.f0 day who (B.map (·.1))) := by
  intro B
  induction B with
  | nil =>
    intro A who he
    refine evUp 1 fun k hk => ?_
    obtain ⟨k, rfl⟩ : ∃ j, k = j + 1 := ⟨k - 1, by omega⟩
    rw [a0s.l0, if_neg (by decide), a0s.j1, if_neg (by decide)]
    rfl
  | cons p B ih =>
    intro A who he
    have hp : p ∈ a5o l c.f0 := by rw [he]; exact List.mem_append_right _ List.mem_cons_self
    obtain ⟨p0, p1, p2, p3⟩ := a6j.1 hp
    have hlex := b1g l c.f0
    have he2 : a5o l c.f0 = (A ++ [p]) ++ B := by rw [he, List.append_assoc]; rfl
    rw [he2, List.pairwise_append] at hlex
    by_cases d : p.1.f3 ≤ day
    · obtain ⟨K1, h1⟩ := ih (A ++ [p]) (hstep c.f0 day who p.1) he2
      obtain ⟨r, ⟨K2, h2⟩, hr⟩ := b3v l hl c.f0 p.1.f3 p.2
      dsimp only at h1 h2
      have er : r = place B := b3w hr he2 (fun q hq => by
        have lt : q = p ∨ lexP q p := by
          rcases List.mem_append.1 hq with e | e
          · exact .inr ((List.pairwise_append.1 hlex.1).2.2 q e p (by simp))
          · exact .inl (by simpa using e)
        rcases lt with e | e
        · rw [e]; unfold later; omega
        · unfold lexP at e; unfold later; omega) (fun q hq => by
        have := hlex.2.2 p (by simp) q hq
        unfold lexP at this
        unfold later
        omega)
      rw [er] at h2
      refine evUp (K1 + K2 + 1) fun k hk => ?_
      obtain ⟨k, rfl⟩ : ∃ j, k = j + 1 := ⟨k - 1, by omega⟩
      have hg := h1 k (by omega)
      unfold hstep at hg
      show a0s.l0 (k + 1 + 1) l day who p.2 c.f0 c.f1 c.f2 c.f3 c.f4.f0 c.f4.f1 = some (a4p c.f0 day (hstep c.f0 day who p.1) (B.map (·.1)))
      rw [a0s.l0, if_pos p0, if_pos p0, if_pos p1, ← p2, decide_eq_true d, a0s.j1, if_pos rfl, if_pos p0, if_pos p1, ← p2]
      unfold hstep
      by_cases e : p.1.f1 = who
      · rw [if_pos e, h2 k (by omega), Option.bind_some]
        rw [if_pos ⟨p3, d, e⟩] at hg ⊢
        exact hg
      · rw [if_neg e, h2 k (by omega), Option.bind_some]
        rw [if_neg (fun h => e h.2.2)] at hg ⊢
        exact hg
    · have hw : a4p c.f0 day who ((p :: B).map (·.1)) = who := a9a _ _ _ _ fun x hx => by
        obtain ⟨q, hq, rfl⟩ := List.mem_map.1 hx
        rcases List.mem_cons.1 hq with e | e
        · rw [e]; omega
        · have := hlex.2.2 p (by simp) q e
          unfold lexP at this
          omega
      rw [hw]
      refine evUp 1 fun k hk => ?_
      obtain ⟨k, rfl⟩ : ∃ j, k = j + 1 := ⟨k - 1, by omega⟩
      show a0s.l0 (k + 1 + 1) l day who p.2 c.f0 c.f1 c.f2 c.f3 c.f4.f0 c.f4.f1 = some who
      rw [a0s.l0, if_pos p0, if_pos p0, if_pos p1, ← p2, decide_eq_false d, a0s.j1, if_neg (by decide)]
theorem a6a (id : Int) : ∀ L : List (S26 × Int), (L.filter (fun p => decide (p.1.f0 = id))).map (·.1) = (L.map (·.1)).filter (fun x => decide (x.f0 = id))
  | [] => rfl
  | p :: t => by
    rw [List.filter_cons, List.map_cons, List.filter_cons]
    split
    · rw [List.map_cons, a6a id t]
    · exact a6a id t
theorem a9h (id day : Int) : ∀ (who : Int) (l : List S26), a4p id day who (l.filter (fun x => decide (x.f0 = id))) = a4p id day who l
  | who, [] => rfl
  | who, x :: t => by
    rw [List.filter_cons]
    by_cases c : x.f0 = id
    · rw [if_pos (decide_eq_true c)]
      exact a9h id day _ t
    · rw [if_neg (by simpa using c), a9h id day who t]
      have e : hstep id day who x = who := by
        unfold hstep
        rw [if_neg (fun h => c h.1)]
      show _ = a4p id day (hstep id day who x) t
      rw [e]
theorem a9z (c : S30) (l : List S26) (hl : (l.length : Int) ≤ 9223372036854775807) (h0 : ∀ x ∈ l, 0 ≤ x.f3) (day : Int) :
    Ev (fun k => a0s.f k c.f0 c.f1 c.f2 c.f3 c.f4.f0 c.f4.f1 l day) (a4p c.f0 day c.f2 (a4c l)) := by
  obtain ⟨r, ⟨K2, h2⟩, hr⟩ := b3v l hl c.f0 (-1) (-1)
  have er : r = place (a5o l c.f0) := b3w (A := []) hr rfl (fun p hp => by simp at hp) (fun p hp => by
    obtain ⟨p0, p1, p2, p3⟩ := a6j.1 hp
    have : p.1 ∈ l := by
      have hd := a9w l p0 p1
      exact List.mem_of_mem_drop (i := p.2.toNat) (by rw [hd, p2]; exact List.mem_cons_self)
    have := h0 _ this
    unfold later
    omega)
  rw [er] at h2
  obtain ⟨K1, h1⟩ := b4l c l hl day (a5o l c.f0) [] c.f2 rfl
  dsimp only at h1 h2
  have e : a4p c.f0 day c.f2 ((a5o l c.f0).map (·.1)) = a4p c.f0 day c.f2 (a4c l) := by
    unfold a5o
    rw [a6a, b1e, a9h]
  rw [e] at h1
  refine ⟨K1 + K2, fun k hk => ?_⟩
  dsimp only
  unfold a0s.f
  rw [h2 k (by omega), Option.bind_some]
  exact h1 k (by omega)
theorem b2w {l : List S26} (h : okA l = true) : ∀ x ∈ l, 0 ≤ x.f3 := by
  intro x hx
  unfold okA at h
  rw [Bool.and_eq_true, List.all_eq_true] at h
  have := h.2 x hx
  unfold asgB dayB at this
  simp only [Bool.and_eq_true, decide_eq_true_eq] at this
  exact this.2.2.2.1
theorem b2x (x : S30) (l : List S26) (hl : (l.length : Int) ≤ 9223372036854775807) (day : Int) : Ev (fun k => a0w.f k x.f0 x.f1 x.f2 x.f3 x.f4.f0 x.f4.f1 l day) (b1o x l day) := by
  obtain ⟨K2, h2⟩ := b1d l hl
  dsimp only at h2
  have eday : decide (0 ≤ day ∧ day ≤ 36524) = dayB day := rfl
  unfold b1o
  have hno : ∀ k, a0w.j0 (k + 1) l day true x.f0 x.f1 x.f2 x.f3 x.f4.f0 x.f4.f1 = some (0, 1) := fun k => by rw [a0w.j0, if_pos rfl]
  by_cases c1 : a4l x = true
  · by_cases c2 : okA l = true
    · by_cases c3 : dayB day = true
      · obtain ⟨K4, h4⟩ := a9z x l hl (b2w c2) day
        dsimp only at h4
        refine ⟨K2 + K4 + 1, fun k hk => ?_⟩
        obtain ⟨k, rfl⟩ : ∃ j, k = j + 1 := ⟨k - 1, by omega⟩
        dsimp only
        unfold a0w.f
        rw [a5q, Option.bind_some, h2 _ (by omega), Option.bind_some, if_pos c1, if_pos c2, a4x, eday, Option.bind_some, c3, a0w.j0, if_neg (by decide), h4 _ (by omega), Option.bind_some, c1, c2]
        rfl
      · rw [Bool.not_eq_true] at c3
        refine ⟨K2 + 1, fun k hk => ?_⟩
        obtain ⟨k, rfl⟩ : ∃ j, k = j + 1 := ⟨k - 1, by omega⟩
        dsimp only
        unfold a0w.f
        rw [a5q, Option.bind_some, h2 _ (by omega), Option.bind_some, if_pos c1, if_pos c2, a4x, eday, Option.bind_some, c3, c1, c2]
        exact hno k
    · refine ⟨K2 + 1, fun k hk => ?_⟩
      obtain ⟨k, rfl⟩ : ∃ j, k = j + 1 := ⟨k - 1, by omega⟩
      dsimp only
      unfold a0w.f
      rw [a5q, Option.bind_some, h2 _ (by omega), Option.bind_some, if_pos c1, if_neg c2, hno]
      rw [Bool.not_eq_true] at c2
      rw [c1, c2]
      rfl
  · refine ⟨K2 + 1, fun k hk => ?_⟩
    obtain ⟨k, rfl⟩ : ∃ j, k = j + 1 := ⟨k - 1, by omega⟩
    dsimp only
    unfold a0w.f
    rw [a5q, Option.bind_some, h2 _ (by omega), Option.bind_some, if_neg c1, hno]
    rw [Bool.not_eq_true] at c1
    rw [c1]
    rfl
end Go.Proofs.Ytfbgkcadnmcakaa.Cl
