/- Contracts of Go functions, printed. Conditions: as each theorem states. -/
import Derived.Test.YtemnlgefngjliaaPx0
import Derived.Test.YtemnlgefngjliaaPx17
import Derived.Test.YtemnlgefngjliaaMtF
import Derived.Test.YtemnlgefngjliaaPx23
import Derived.Test.YtemnlgefngjliaaPx28
import Derived.Test.YtemnlgefngjliaaPx14
import Derived.Test.YtemnlgefngjliaaPx22
import Derived.Test.YtemnlgefngjliaaPx26
import Derived.Test.YtemnlgefngjliaaPx27
import Derived.Test.YtemnlgefngjliaaPx25
import Derived.Test.YtemnlgefngjliaaPx13
namespace Go.Proofs.Ytemnlgefngjliaa.Px
open Go.Proofs.Ytemnlgefngjliaa.Given
open Go.RowKit Go.Proofs.YtemnlgefngjliaaW.PrintWords Go.Proofs.YtemnlgefngjliaaW.PrintLast Go.Proofs.YtemnlgefngjliaaW.PrintMore
attribute [local go_sem] a2h a2i a2u a2v a1z a2a a2j a2k
set_option linter.unusedVariables false
set_option linter.unusedSimpArgs false
def a2w.j0 : Nat → Int → Int → Bool → Int → Int → Option (Bool × Int)
 | 0, _, _, _, _, _ => none
 | k + 1, x0, x1, x26, u0, u1 => if x26 = true then (some (false, 1)) else (some (decide ((wrap64 (x0 * u1)) > (wrap64 (u0 * (wrap64 (x0 + x1))))), 0))
def a2w.f (k : Nat) (a0 a1 a2_0 a2_1 : Int) : Option (Bool × Int) := if a0 < 0 then (a2w.j0 k a0 a1 true a2_0 a2_1) else (if a0 > 1000000 then (a2w.j0 k a0 a1 true a2_0 a2_1) else (if a1 < 0 then (a2w.j0 k a0 a1 true a2_0 a2_1) else (if a1 > 1000000 then (a2w.j0 k a0 a1 true a2_0 a2_1) else ((a4f.f k a2_0 a2_1).bind fun t459 => (a2w.j0 k a0 a1 (!t459) a2_0 a2_1)))))
theorem a2w.a0x : ∀ k, (∀ y0 y1 y2 y3 y4, LeO (a2w.j0 k y0 y1 y2 y3 y4) (a2w.j0 (k + 1) y0 y1 y2 y3 y4))
 | 0 => fun _ _ _ _ _ r h => by simp [a2w.j0] at h
 | k + 1 => by
  have ih0 := a2w.a0x k
  ·intro y0 y1 y2 y3 y4
   unfold a2w.j0
   with_reducible (repeat' first | apply ih0 | apply a4f.mono | apply LeO.refl | apply LeO.none | apply LeO.ite | refine LeO.bind ?_ (fun _ => ?_))
theorem a2w.mono : ∀ a0 a1 a2 a3 k, LeO (a2w.f k a0 a1 a2 a3) (a2w.f (k + 1) a0 a1 a2 a3) := by
 intro a0 a1 a2 a3 k
 have ih0 := a2w.a0x k
 unfold a2w.f
 with_reducible (repeat' first | apply ih0 | apply a4f.mono | apply LeO.refl | apply LeO.none | apply LeO.ite | refine LeO.bind ?_ (fun _ => ?_))
set_option maxHeartbeats 8000000 in
set_option maxRecDepth 100000 in
theorem a2w.calls (k : Nat) (a0 a1 a2_0 a2_1 : Int) (r1 : Bool) (r2 : Int) (w : World) (h : a2w.f k a0 a1 a2_0 a2_1 = some (r1, r2)) :
  Calls Try.prog 21 #[.int .i64 a0, .int .i64 a1, .agg #[.int .i64 a2_0, .int .i64 a2_1]] w fun e w' => e = .returned (.tuple #[.bool r1, .int .i64 r2]) ∧ Below w.heap.size w w' := by
 have hu23 := Try.underlying23
 have HB := Aside0.mk (Below.refl w.heap.size w)
 have H : (if a0 < 0 then (a2w.j0 k a0 a1 true a2_0 a2_1) else (if a0 > 1000000 then (a2w.j0 k a0 a1 true a2_0 a2_1) else (if a1 < 0 then (a2w.j0 k a0 a1 true a2_0 a2_1) else (if a1 > 1000000 then (a2w.j0 k a0 a1 true a2_0 a2_1) else ((a4f.f k a2_0 a2_1).bind fun t459 => (a2w.j0 k a0 a1 (!t459) a2_0 a2_1)))))) = some (r1, r2) := h
 clear h
 have HC4 := Aside0.mk H
 clear H
 go_enter Try.func21, Try.ntmps21
 go_upto_region 1 with (first | ((with_reducible refine a0e (N := 5) rfl ?_); refine qev_ 5 #[.int .i64 a2_0, .int .i64 a2_1] 23 ?_; intro gb458 hg w5 hbox hb; have BK458 := Aside0.mk (hbox); have GW458 := qga_ hg; have GE458 := qga_ hg; replace HB := qbs_ hb; clear hb hbox hg))
 (try simp only [Act.put, List.setIfInBounds_toArray, List.set_cons_zero, List.set_cons_succ])
 go_cut [26] (fun v26 wc => ∃ (kq : Nat) (x26_3 : Bool), v26 = .bool x26_3 ∧ Aside0 (a2w.j0 kq a0 a1 x26_3 a2_0 a2_1 = some (r1, r2)) ∧ Aside0 (kq ≤ k) ∧ Aside0 (wc.heap[gb458]? = some (.cells #[.int .i64 a2_0, .int .i64 a2_1] 23 (0, 0))) ∧ Aside0 (Below w.heap.size w wc))
 case first =>
  have H := HC4.out
  clear HC4
  by_cases c6 : a0 < 0
  ·rw [if_pos c6] at H
   have c6b0 : decide (a0 < 0) = true := decide_eq_true c6
   clear c6
   (first | rw [c6b0] | (simp only [a2l, a2y]; rw [c6b0]) | skip)
   have H' := Aside0.mk H
   clear H
   go_wp2
   go_meet
   case rel => exact ⟨_, (true), qs_, H', ⟨qo_⟩, ⟨qk_ BK458⟩, ⟨qb_⟩⟩
  ·rw [if_neg c6] at H
   have c6b0 : decide (a0 < 0) = false := decide_eq_false c6
   clear c6
   (first | rw [c6b0] | (simp only [a2l, a2y]; rw [c6b0]) | skip)
   by_cases c7 : a0 > 1000000
   ·rw [if_pos c7] at H
    have c7b0 : decide (1000000 < a0) = true := decide_eq_true c7
    clear c7
    have H' := Aside0.mk H
    clear H
    go_wp2
    go_meet
    case rel => exact ⟨_, (true), qs_, H', ⟨qo_⟩, ⟨qk_ BK458⟩, ⟨qb_⟩⟩
   ·rw [if_neg c7] at H
    have c7b0 : decide (1000000 < a0) = false := decide_eq_false c7
    clear c7
    by_cases c8 : a1 < 0
    ·rw [if_pos c8] at H
     have c8b0 : decide (a1 < 0) = true := decide_eq_true c8
     clear c8
     have H' := Aside0.mk H
     clear H
     go_wp2
     go_meet
     case rel => exact ⟨_, (true), qs_, H', ⟨qo_⟩, ⟨qk_ BK458⟩, ⟨qb_⟩⟩
    ·rw [if_neg c8] at H
     have c8b0 : decide (a1 < 0) = false := decide_eq_false c8
     clear c8
     by_cases c9 : a1 > 1000000
     ·rw [if_pos c9] at H
      have c9b0 : decide (1000000 < a1) = true := decide_eq_true c9
      clear c9
      have H' := Aside0.mk H
      clear H
      go_wp2
      go_meet
      case rel => exact ⟨_, (true), qs_, H', ⟨qo_⟩, ⟨qk_ BK458⟩, ⟨qb_⟩⟩
     ·rw [if_neg c9] at H
      have c9b0 : decide (1000000 < a1) = false := decide_eq_false c9
      clear c9
      replace H := Option.bind_eq_some_iff.mp H
      obtain ⟨t459, A100, H⟩ := H
      replace H : (a2w.j0 k a0 a1 (!t459) a2_0 a2_1) = some (r1, r2) := H
      have A10 := Aside0.mk A100
      clear A100
      have H' := Aside0.mk H
      clear H
      obtain ⟨z'11_0, z'11_1⟩ := qz2_ BK458; obtain ⟨y'11_0, y'11_1⟩ := qf2_ BK458
      go_wp2_with (first | (go_at_call 53; (with_reducible refine (a4f.calls k a2_0 a2_1 t459 _ A10.out).mono ?_); rintro e w12 ⟨rfl, hb⟩; replace BK458 := qkb_ BK458 hb; replace HB := qbs_ hb; (try clear hb); (try clear hb2); (try clear hk); (try clear hi)))
      go_meet
      case rel => exact ⟨_, (!t459), qs_, H', ⟨qo_⟩, ⟨qk_ BK458⟩, ⟨qb_⟩⟩
 case rest =>
  clear HC4
  try clear c2
  try clear p2
  try clear c6
  try clear c6b0
  try clear c7
  try clear c7b0
  try clear c8
  try clear c8b0
  try clear c9
  try clear c9b0
  try clear z'11_0 z'11_1
  try clear y'11_0 y'11_1
  obtain ⟨kq, x26_3, rfl, HA, HJ3, BK458, HB⟩ := hcut
  cases kq with
  | zero => exact absurd HA.out (by simp [a2w.j0])
  | succ kj3 =>
   have H := HA.out
   clear HA
   simp only [a2w.j0] at H
   by_cases c13 : x26_3 = true
   ·subst c13
    have H1 : (some (false, 1)) = some (r1, r2) := by rw [if_pos rfl] at H; exact H
    clear H
    have H := H1
    clear H1
    simp only [Option.some.injEq, Prod.mk.injEq] at H
    obtain ⟨rfl, rfl⟩ := H
    go_wp2
    go_ret2
    exact ⟨qx_, qb_⟩
   ·replace c13 := Bool.eq_false_iff.mpr c13
    subst c13
    have H1 : (some (decide ((wrap64 (a0 * a2_1)) > (wrap64 (a2_0 * (wrap64 (a0 + a1))))), 0)) = some (r1, r2) := by rw [if_neg (show ¬ (false = true) by decide)] at H; exact H
    clear H
    have H := H1
    clear H1
    simp only [Option.some.injEq, Prod.mk.injEq] at H
    obtain ⟨rfl, rfl⟩ := H
    obtain ⟨z'14_0, z'14_1⟩ := qz2_ BK458; obtain ⟨y'14_0, y'14_1⟩ := qf2_ BK458
    go_wp2
    go_ret2
    exact ⟨qx_, qb_⟩
end Go.Proofs.Ytemnlgefngjliaa.Px
/- What the reference says of weights and flaws, and that it is what the meeting's own functions say. Conditions: as each theorem states. -/
namespace Go.Proofs.Ytemnlgefngjliaa.Meet
open Go.RowKit Go.Proofs.YtemnlgefngjliaaW.PrintWords Go.Proofs.Ytemnlgefngjliaa.Given Go.Proofs.Ytemnlgefngjliaa.Px
open Go.Proofs.Ytemnlgefngjliaa.Cal
set_option linter.unusedVariables false
set_option linter.unusedSimpArgs false
def sm : List Int → Int
  | [] => 0
  | x :: t => x + sm t
theorem b3o (v : Int) : ∀ (l : List Int) (k : Nat), k < l.length → sm (l.set k v) = sm l - l.getD k 0 + v
  | [], k, h => by simp at h
  | x :: t, 0, h => by simp [sm]; omega
  | x :: t, k + 1, h => by
    have := b3o v t k (by simpa using h)
    simp [sm] at this ⊢
    omega
theorem b3p (l : List Int) (k j v : Int) (h0 : 0 ≤ k) (h1 : k < l.length) (j0 : 0 ≤ j) : rd (l.set k.toNat v) j = if j = k then v else rd l j := by
  unfold rd
  by_cases c : j = k
  · subst c
    rw [if_pos rfl, List.getD_eq_getElem?_getD, List.getElem?_set_self (by omega), Option.getD_some]
  · rw [if_neg c, List.getD_eq_getElem?_getD, List.getElem?_set_ne (by omega), List.getD_eq_getElem?_getD]
def BD (l : List Int) (M : Int) : Prop := ∀ j : Int, 0 ≤ j → j < l.length → 0 ≤ rd l j ∧ rd l j ≤ M
theorem b4j {own : S43 → Int} {vs : List S43} {here : List Int} {i : Int} {o : List Int} {M D : Int} (h1 : i < vs.length) (ho : o.length = vs.length) (hb : BD o M) (hv : 0 ≤ own (a0a vs i) ∧ own (a0a vs i) ≤ D) (hM : M ≤ 1000000000) (hD : D ≤ 1000000) (hM0 : 0 ≤ M) :
    BD (stepW own vs here i o) (M + D) := by
  intro j j0 j1
  rw [a5w] at j1
  unfold stepW
  by_cases c : 0 ≤ byI vs here i
  · have hlt := a7x (here := here) h1
    rw [if_pos c, b3p _ _ _ _ c (by omega) j0]
    have hk := hb _ c (by omega)
    split
    · rw [w64 (by omega) (by omega)]; omega
    · have := hb j j0 j1; omega
  · rw [if_neg c]
    have := hb j j0 j1
    omega
theorem a7y (m : Nat) (j : Int) : rd (List.replicate m 0) j = 0 := by
  unfold rd
  rw [List.getD_eq_getElem?_getD, List.getElem?_replicate]
  split <;> rfl
theorem a7z : ∀ m : Nat, sm (List.replicate m 0) = 0
  | 0 => rfl
  | m + 1 => by rw [List.replicate_succ, sm, a7z m]; rfl
theorem b1a (m : Nat) {M : Int} (h : 0 ≤ M) : BD (List.replicate m 0) M := fun j _ _ => by rw [a7y]; omega
theorem b5j {vs : List S43} {here : List Int} (g : Good vs here) : idxV vs 0 = -1 :=
  a6n fun t t0 t1 e => by have := of_decide_eq_true (g.ok t t0 t1); omega
section
variable (t0 t1 t2 t3 : Int) (t4 : Bool) (m0 m1 m2 : Int) (ag : List ByteArray) (vs : List S43) (here : List Int) (act : ByteArray) (hol : List Int)
theorem b5k (x : Int) (hh : here.length ≤ 1000000) : ∀ (n : Nat) (i : Int), 0 ≤ i → i + n = here.length →
    Ev (fun k => a1x.l0 k x i m0 m1 m2 ag vs here) (decide (x ∈ here.drop i.toNat)) := by
  intro n
  induction n with
  | zero =>
    intro i h0 hi
    refine evUp 0 fun k _ => ?_
    rw [a1x.l0, if_neg (by omega), List.drop_eq_nil_of_le (by omega)]
    simp
  | succ n ih =>
    intro i h0 hi
    obtain ⟨K, hK⟩ := ih (i + 1) (by omega) (by omega)
    dsimp only at hK
    refine evUp K fun k hk => ?_
    rw [a1x.l0, if_pos (by omega), if_pos h0, a7p here i h0 (by omega)]
    by_cases c : rd here i = x
    · rw [if_pos c, decide_eq_true (by rw [c]; exact List.mem_cons_self)]
    · rw [if_neg c, w64 (by omega) (by omega), hK k hk]
      congr 1
      rw [decide_eq_decide, List.mem_cons]
      constructor
      · exact .inr
      · rintro (h | h)
        · exact absurd h.symm c
        · exact h
theorem b1t (x : Int) (hh : here.length ≤ 1000000) : Ev (fun k => a1x.f k m0 m1 m2 ag vs here x) (decide (x ∈ here)) :=
  b5k m0 m1 m2 ag vs here x hh here.length 0 (by omega) (by omega)
def ownT (b : Bool) (v : S43) : Int := if b = true then 1 else v.f1
noncomputable def a5k : List Int × Int := if a5j t0 t1 t2 t3 = true ∧ a5a m0 m1 m2 ag vs here = true then (wgt (ownT t4) vs here, 0) else ([], 1)
theorem a8y (hs : Small ag) (ha : ag.length ≤ 1000000) (hl : vs.length ≤ 1000000) (hh : here.length ≤ 1000000) :
    Ev (fun k => a1f.f k t0 t1 t2 t3 t4 m0 m1 m2 ag vs here) (a5k t0 t1 t2 t3 t4 m0 m1 m2 ag vs here) := by
  obtain ⟨K2, hK2⟩ := b4i t0 t1 t2 t3 t4 m0 m1 m2 ag vs here (⟨#[]⟩ : ByteArray) [] hl hh ha hs
  dsimp only at hK2
  by_cases c : a5j t0 t1 t2 t3 = true ∧ a5a m0 m1 m2 ag vs here = true
  · have g := a6e c.2
    obtain ⟨K3, hK3⟩ := b3k t0 t1 t2 t3 t4 m0 m1 m2 ag vs here (⟨#[]⟩ : ByteArray) [] hl hh g
    obtain ⟨K4, hK4⟩ := b3m t0 t1 t2 t3 t4 m0 m1 m2 ag vs here (⟨#[]⟩ : ByteArray) [] hl hh g
    dsimp only at hK3 hK4
    refine evUp (K2 + K3 + K4) fun k hk => ?_
    unfold a1f.f a5k
    rw [a7o, Option.bind_some, if_pos c.1, hK2 (k + 1) (by omega), Option.bind_some, if_pos c, c.2, a1f.j0, if_neg (by simp), hK3 k (by omega), hK4 k (by omega), Option.bind_some, Option.bind_some]
    cases t4 with
    | true => rfl
    | false => rfl
  · refine evUp K2 fun k hk => ?_
    have e : a1f.j0 (k + 1) true t0 t1 t2 t3 t4 t0 t1 t2 t3 t4 m0 m1 m2 ag vs here (⟨#[]⟩ : ByteArray) = some ([], 1) := by rw [a1f.j0, if_pos rfl]
    unfold a1f.f a5k
    rw [a7o, Option.bind_some, hK2 (k + 1) (by omega), Option.bind_some, if_neg c, e]
    by_cases c1 : a5j t0 t1 t2 t3 = true
    · rw [if_pos c1, Bool.eq_false_iff.mpr (fun c2 => c ⟨c1, c2⟩)]
      exact e
    · rw [if_neg c1]
end
theorem b5l (l : List Int) (hl : l.length ≤ 1000000) : ∀ (n : Nat) (i : Int), 0 ≤ i → i + n = l.length → Ev (fun k => a0l.l0 k l l i) true := by
  intro n
  induction n with
  | zero =>
    intro i h0 hi
    refine evUp 0 fun k _ => ?_
    rw [a0l.l0, if_neg (by omega)]
  | succ n ih =>
    intro i h0 hi
    obtain ⟨K, hK⟩ := ih (i + 1) (by omega) (by omega)
    dsimp only at hK
    refine evUp K fun k hk => ?_
    rw [a0l.l0, if_pos (by omega), if_pos h0, if_pos (by omega), if_pos rfl, w64 (by omega) (by omega), hK k hk]
theorem b5m (l : List Int) (hl : l.length ≤ 1000000) : Ev (fun k => a0l.f k l l) true := by
  obtain ⟨K, hK⟩ := b5l l hl l.length 0 (by omega) (by omega)
  dsimp only at hK
  refine ⟨K, fun k hk => ?_⟩
  show a0l.f k l l = _
  unfold a0l.f
  rw [if_pos rfl, hK k hk]
end Go.Proofs.Ytemnlgefngjliaa.Meet
