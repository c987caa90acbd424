/- What Cover counts: the claims that are chosen, in their order, and how they cover a cost. Conditions: as each theorem states. -/
import Derived.Test.YtfbgkcadnmcakaaClC
import Derived.Test.YtfbgkcadnmcakaaPx14
namespace Go.Proofs.Ytfbgkcadnmcakaa.Cl
open Go.RowKit Go.Proofs.YtfbgkcadnmcakaaW.PrintWords Go.Proofs.YtfbgkcadnmcakaaW.PrintMore Go.Proofs.Ytfbgkcadnmcakaa.Given Go.Proofs.Ytfbgkcadnmcakaa.Px
set_option linter.unusedVariables false
set_option linter.unusedSimpArgs false
def fnd (l : List S30) (id : Int) : Option S30 := l.find? (fun x => decide (x.f0 = id))
theorem a6w {l : List S30} {id : Int} {x : S30} (h : fnd l id = some x) : x.f0 = id ∧ x ∈ l := by
  have := List.find?_some h
  rw [decide_eq_true_eq] at this
  exact ⟨this, List.mem_of_find?_eq_some h⟩
theorem b4m {l : List S30} (h : (l.map (·.f0)).Nodup) (id : Int) : a2m (regF [] l) id = fnd l id := by
  rw [a9l id l [] h (fun _ _ => rfl)]
  unfold fnd
  cases l.find? (fun x => decide (x.f0 = id)) <;> rfl
def pick (l : List S30) : List Int → List S30 → List S30 × Int
  | [], out => (out, 0)
  | id :: t, out => match fnd l id with
    | none => ([], 4)
    | some x => if (out.map (·.f0)).contains id = true then ([], 5) else pick l t (out ++ [x])
def pay (x : S30) (c : Int) : S30 := ⟨x.f0, x.f1, x.f2, mn x.f3 c, ⟨x.f4.f0, x.f4.f1⟩⟩
def a3m : List S30 → Int → List S30 × Int
  | [], c => ([], c)
  | x :: t, c => if c = 0 then ([], c) else (pay x c :: (a3m t (c - mn x.f3 c)).1, (a3m t (c - mn x.f3 c)).2)
def covF (p : List S30 × Int) (c : Int) : List S30 × Int × Int := if p.2 = 0 then ((a3m (a3v cfS p.1) c).1, (a3m (a3v cfS p.1) c).2, 0) else ([], 0, p.2)
def a5k (l : List S30) (ids : List Int) (cents : Int) : List S30 × Int × Int :=
  if (okC l && decide (0 ≤ cents ∧ cents ≤ 1000000000)) = true then covF (pick l ids []) cents else ([], 0, 1)
theorem b0m (x y : S30) : cfS x y = 0 ↔ x.f4.f1 = y.f4.f1 ∧ x.f0 = y.f0 := by
  have a := b0i x y
  have b := b2y x y
  have c := b2x x y
  omega
theorem a8f : ∀ {l : List S30}, (l.map (·.f0)).Nodup → a5f cfS l = true
  | [], _ => rfl
  | x :: t, h => by
    rw [List.map_cons, List.nodup_cons] at h
    rw [a5f, a8f h.2, Bool.and_true, List.all_eq_true]
    intro y hy
    rw [bne_iff_ne]
    intro e
    exact h.1 (by rw [((b0m x y).1 e).2]; exact List.mem_map_of_mem hy)
theorem a7w (l : List S30) : ∀ (ids : List Int) (out : List S30), (out.map (·.f0)).Nodup →
    ((out.map (·.f0) ++ ids).Nodup ∧ (∀ id ∈ ids, (fnd l id).isSome = true) ∧ pick l ids out = (out ++ ids.filterMap (fnd l), 0)) ∨ (¬ ((out.map (·.f0) ++ ids).Nodup ∧ ∀ id ∈ ids, (fnd l id).isSome = true) ∧ (pick l ids out).1 = [] ∧ (pick l ids out).2 ≠ 0)
  | [], out, h => .inl ⟨by rw [List.append_nil]; exact h, fun _ hm => by simp at hm, by rw [pick]; simp⟩
  | id :: t, out, h => by
    rw [pick]
    cases e : fnd l id with
    | none => exact .inr ⟨fun q => (by have := q.2 id List.mem_cons_self; rw [e] at this; cases this), rfl, show (4 : Int) ≠ 0 by decide⟩
    | some x =>
      have hx := (a6w e).1
      dsimp only
      by_cases c : (out.map (·.f0)).contains id = true
      · rw [if_pos c]
        refine .inr ⟨fun q => ?_, rfl, show (5 : Int) ≠ 0 by decide⟩
        rw [List.contains_iff_mem] at c
        exact (List.nodup_append.1 q.1).2.2 id c id List.mem_cons_self rfl
      · rw [if_neg c]
        rw [List.contains_iff_mem] at c
        have eq : (out ++ [x]).map (·.f0) ++ t = out.map (·.f0) ++ id :: t := by rw [List.map_append, List.map_cons, List.map_nil, hx, List.append_assoc]; rfl
        have hn : ((out ++ [x]).map (·.f0)).Nodup := by
          rw [List.map_append, List.nodup_append]
          refine ⟨h, by simp, fun u hu v hv => ?_⟩
          rw [List.map_cons, List.map_nil, List.mem_singleton, hx] at hv
          rw [hv]
          exact fun q => c (by rw [← q]; exact hu)
        rcases a7w l t (out ++ [x]) hn with ⟨h1, h2, h3⟩ | ⟨h1, h2, h3⟩
        · refine .inl ⟨by rw [← eq]; exact h1, fun j hj => ?_, ?_⟩
          · rcases List.mem_cons.1 hj with q | q
            · rw [q, e]; rfl
            · exact h2 j q
          · rw [h3, List.filterMap_cons, e, List.append_assoc]; rfl
        · refine .inr ⟨fun q => h1 ⟨by rw [eq]; exact q.1, fun j hj => q.2 j (List.mem_cons_of_mem _ hj)⟩, h2, h3⟩
theorem a5w (l : List S30) : ∀ {ids : List Int}, (∀ id ∈ ids, (fnd l id).isSome = true) → (ids.filterMap (fnd l)).map (·.f0) = ids
  | [], _ => rfl
  | id :: t, h => by
    have := h id List.mem_cons_self
    cases e : fnd l id with
    | none => rw [e] at this; cases this
    | some x =>
      rw [List.filterMap_cons, e]
      dsimp only
      rw [List.map_cons, a5w l (fun j hj => h j (List.mem_cons_of_mem _ hj)), (a6w e).1]
theorem b3z (a b : Int) : mn a b ≤ a ∧ mn a b ≤ b ∧ (mn a b = a ∨ mn a b = b) := by unfold mn; omega
theorem b3q (S : List S30) (hS : S.length ≤ 1000) (hR : ∀ x ∈ S, 0 ≤ x.f3) : ∀ (n : Nat) (i c : Int) (out : List S30), 0 ≤ i → i + n = S.length → out.length ≤ i → 0 ≤ c → c ≤ 1000000000 →
    Ev (fun k => a0g.l1 k c out S (S.length : Int) i) (out ++ (a3m (S.drop i.toNat) c).1, (a3m (S.drop i.toNat) c).2, 0) := by
  intro n
  induction n with
  | zero =>
    intro i c out i0 hi ho c0 c1
    rw [dropEnd S (by omega)]
    refine evUp 0 fun k _ => ?_
    rw [a0g.l1, if_neg (by omega)]
    simp [a3m]
  | succ n ih =>
    intro i c out i0 hi ho c0 c1
    have hd := a5t S i0 (by omega)
    have hm : a0a S i ∈ S := List.mem_of_mem_drop (i := i.toNat) (by rw [hd]; exact List.mem_cons_self)
    have hx := hR _ hm
    have hmn := b3z (a0a S i).f3 c
    have hm0 : 0 ≤ mn (a0a S i).f3 c := by omega
    rw [hd, a3m]
    by_cases q : c = 0
    · rw [if_pos q]
      refine evUp 0 fun k _ => ?_
      rw [a0g.l1, if_pos (by omega), if_pos i0, if_pos (by omega), if_pos q]
      simp
    · rw [if_neg q]
      obtain ⟨K, hK⟩ := ih (i + 1) (c - mn (a0a S i).f3 c) (out ++ [pay (a0a S i) c]) (by omega) (by omega) (by rw [List.length_append, List.length_singleton]; omega) (by omega) (by omega)
      dsimp only at hK
      refine evUp K fun k hk => ?_
      rw [a0g.l1, if_pos (by omega), if_pos i0, if_pos (by omega), if_neg q, if_pos (by omega), w64 (x := i + 1) (by omega) (by omega), w64 (x := c - _) (by omega) (by omega)]
      rw [List.append_assoc] at hK
      exact hK k hk
theorem b3r (l : List S30) (hl : okC l = true) (ids : List Int) (hids : ids.length ≤ 1000) (c : Int) (c0 : 0 ≤ c) (c1 : c ≤ 1000000000) :
    ∀ (n : Nat) (i : Int) (out : List S30) (M : List (Int × Bool)), 0 ≤ i → i + n = ids.length → out.length ≤ i → (∀ j, a4s M j = (out.map (·.f0)).contains j) → (∀ x ∈ out, x ∈ l) → (out.map (·.f0)).Nodup →
    Ev (fun k => a0g.l0 k c out ids (ids.length : Int) i (regF [] l) M) (covF (pick l (ids.drop i.toNat) out) c) := by
  intro n
  induction n with
  | zero =>
    intro i out M i0 hi ho hM hout hnd
    rw [dropEnd ids (by omega), pick]
    have hsl := a7h cfS out
    obtain ⟨K, hK⟩ := b3q (a3v cfS out) (by omega) (fun x hx => by
      have := a7v hl x (hout x ((a4p cfS out).subset hx))
      unfold a5j at this
      simp only [Bool.and_eq_true, decide_eq_true_eq] at this
      omega) (a3v cfS out).length 0 c [] (by omega) (by omega) (by simp) c0 c1
    dsimp only at hK
    rw [hsl] at hK
    refine evUp K fun k hk => ?_
    have hsort : a1t.f k out = some (a3v cfS out) := by
      unfold a1t.f
      rw [a8f hnd, decide_eq_true (by omega)]
      rfl
    rw [a0g.l0, if_neg (by omega), hsort, Option.bind_some]
    unfold covF
    rw [if_pos rfl]
    exact hK k hk
  | succ n ih =>
    intro i out M i0 hi ho hM hout hnd
    rw [a9u ids i0 (by omega), pick]
    have hf := b4m (a6q hl) (rd ids i)
    cases e : fnd l (rd ids i) with
    | none =>
      rw [e] at hf
      refine evUp 0 fun k _ => ?_
      have hno : ¬ mhas (regF [] l) (rd ids i) = true := by unfold mhas; rw [hf]; decide
      rw [a0g.l0, if_pos (by omega), if_pos i0, if_pos (by omega), if_neg hno]
      rfl
    | some x =>
      rw [e] at hf
      have hyes : mhas (regF [] l) (rd ids i) = true := by unfold mhas; rw [hf]; rfl
      have hx := a6w e
      have hget : a1q z30 (regF [] l) (rd ids i) = x := by unfold a1q; rw [hf]; rfl
      dsimp only
      by_cases q : (out.map (·.f0)).contains (rd ids i) = true
      · rw [if_pos q]
        refine evUp 0 fun k _ => ?_
        rw [a0g.l0, if_pos (by omega), if_pos i0, if_pos (by omega), if_pos hyes, hM, if_pos q]
        rfl
      · rw [if_neg q]
        have q' := q
        rw [List.contains_iff_mem] at q'
        obtain ⟨K, hK⟩ := ih (i + 1) (out ++ [x]) (mput M (rd ids i) true) (by omega) (by omega) (by rw [List.length_append, List.length_singleton]; omega) (fun j => by
          rw [b1w, hM, List.map_append, List.contains_append, List.map_cons, List.map_nil, List.contains_cons, List.contains_nil, Bool.or_false, hx.1]
          by_cases d : rd ids i = j
          · rw [if_pos d, d]; simp
          · rw [if_neg d, beq_false_of_ne (fun h => d h.symm), Bool.or_false]) (fun y hy => by
            rcases List.mem_append.1 hy with d | d
            · exact hout y d
            · rw [List.mem_singleton.1 d]; exact hx.2) (by
          rw [List.map_append, List.nodup_append]
          refine ⟨hnd, by simp, fun u hu v hv => ?_⟩
          rw [List.map_cons, List.map_nil, List.mem_singleton, hx.1] at hv
          rw [hv]
          exact fun d => q' (by rw [← d]; exact hu))
        dsimp only at hK
        refine evUp K fun k hk => ?_
        rw [a0g.l0, if_pos (by omega), if_pos i0, if_pos (by omega), if_pos hyes, hM, if_neg q, if_pos (by omega), hget, w64 (by omega) (by omega)]
        exact hK k hk
theorem b0n (l : List S30) (hl : (l.length : Int) ≤ 9223372036854775807) (ids : List Int) (hids : ids.length ≤ 1000) (c : Int) : Ev (fun k => a0g.f k l ids c) (a5k l ids c) := by
  obtain ⟨K1, h1⟩ := b4l l hl
  dsimp only at h1
  unfold a5k
  have hno : ∀ k M, a0g.j0 (k + 1) ids c true M = some ([], 0, 1) := fun k M => by rw [a0g.j0, if_pos rfl]
  by_cases q1 : okC l = true
  · by_cases q2 : c < 0
    · refine ⟨K1 + 1, fun k hk => ?_⟩
      obtain ⟨k, rfl⟩ : ∃ j, k = j + 1 := ⟨k - 1, by omega⟩
      dsimp only
      unfold a0g.f
      rw [h1 _ (by omega), Option.bind_some, if_pos q1, if_pos q2, hno, if_neg (by rw [q1, decide_eq_false (by omega)]; decide)]
    · by_cases q3 : c > 1000000000
      · refine ⟨K1 + 1, fun k hk => ?_⟩
        obtain ⟨k, rfl⟩ : ∃ j, k = j + 1 := ⟨k - 1, by omega⟩
        dsimp only
        unfold a0g.f
        rw [h1 _ (by omega), Option.bind_some, if_pos q1, if_neg q2, decide_eq_true q3, hno, if_neg (by rw [q1, decide_eq_false (by omega)]; decide)]
      · obtain ⟨K2, h2⟩ := b3r l q1 ids hids c (by omega) (by omega) ids.length 0 [] [] (by omega) (by omega) (by simp) (fun _ => rfl) (by simp) (by simp)
        dsimp only at h2
        rw [show (0 : Int).toNat = 0 from rfl, List.drop_zero] at h2
        refine ⟨K1 + K2 + 1, fun k hk => ?_⟩
        obtain ⟨k, rfl⟩ : ∃ j, k = j + 1 := ⟨k - 1, by omega⟩
        dsimp only
        unfold a0g.f
        rw [h1 _ (by omega), Option.bind_some, if_pos q1, if_neg q2, decide_eq_false q3, a0g.j0, if_neg (by decide), if_pos (by rw [q1, decide_eq_true (by omega)]; rfl)]
        exact h2 k (by omega)
  · refine ⟨K1 + 1, fun k hk => ?_⟩
    obtain ⟨k, rfl⟩ : ∃ j, k = j + 1 := ⟨k - 1, by omega⟩
    dsimp only
    unfold a0g.f
    rw [h1 _ (by omega), Option.bind_some, if_neg q1, hno, if_neg (by rw [Bool.and_eq_true]; exact fun h => q1 h.1)]
end Go.Proofs.Ytfbgkcadnmcakaa.Cl
