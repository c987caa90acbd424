/- Contracts of Go functions, printed. Conditions: as each theorem states. -/
import Derived.Test.YtemnlgefngjliaaPx0
import Derived.Test.YtemnlgefngjliaaPx17
import Derived.Test.YtemnlgefngjliaaMtF
import Derived.Test.YtemnlgefngjliaaPx23
import Derived.Test.YtemnlgefngjliaaPx28
import Derived.Test.YtemnlgefngjliaaPx14
import Derived.Test.YtemnlgefngjliaaPx22
import Derived.Test.YtemnlgefngjliaaPx26
import Derived.Test.YtemnlgefngjliaaPx27
import Derived.Test.YtemnlgefngjliaaPx25
import Derived.Test.YtemnlgefngjliaaPx13
namespace Go.Proofs.Ytemnlgefngjliaa.Px
open Go.Proofs.Ytemnlgefngjliaa.Given
open Go.RowKit Go.Proofs.YtemnlgefngjliaaW.PrintWords Go.Proofs.YtemnlgefngjliaaW.PrintLast Go.Proofs.YtemnlgefngjliaaW.PrintMore
attribute [local go_sem] a2h a2i a2t a2u a1x a1y a2j a2k
set_option linter.unusedVariables false
set_option linter.unusedSimpArgs false
def a2w.j0 : Nat → Int → Int → Bool → Int → Int → Option (Bool × Int)
 | 0, _, _, _, _, _ => none
 | k + 1, x0, x1, x26, u0, u1 => if x26 = true then (some (false, 1)) else (some (decide ((wrap64 (x0 * u1)) > (wrap64 (u0 * (wrap64 (x0 + x1))))), 0))
def a2w.f (k : Nat) (a0 a1 a2_0 a2_1 : Int) : Option (Bool × Int) := if a0 < 0 then (a2w.j0 k a0 a1 true a2_0 a2_1) else (if a0 > 1000000 then (a2w.j0 k a0 a1 true a2_0 a2_1) else (if a1 < 0 then (a2w.j0 k a0 a1 true a2_0 a2_1) else (if a1 > 1000000 then (a2w.j0 k a0 a1 true a2_0 a2_1) else ((a4n.f k a2_0 a2_1).bind fun t459 => (a2w.j0 k a0 a1 (!t459) a2_0 a2_1)))))
theorem a2w.a0v : ∀ k, (∀ y0 y1 y2 y3 y4, LeO (a2w.j0 k y0 y1 y2 y3 y4) (a2w.j0 (k + 1) y0 y1 y2 y3 y4))
 | 0 => fun _ _ _ _ _ r h => by simp [a2w.j0] at h
 | k + 1 => by
  have ih0 := a2w.a0v k
  ·intro y0 y1 y2 y3 y4
   unfold a2w.j0
   with_reducible (repeat' first | apply ih0 | apply a4n.mono | apply LeO.refl | apply LeO.none | apply LeO.ite | refine LeO.bind ?_ (fun _ => ?_))
theorem a2w.mono : ∀ a0 a1 a2 a3 k, LeO (a2w.f k a0 a1 a2 a3) (a2w.f (k + 1) a0 a1 a2 a3) := by
 intro a0 a1 a2 a3 k
 have ih0 := a2w.a0v k
 unfold a2w.f
 with_reducible (repeat' first | apply ih0 | apply a4n.mono | apply LeO.refl | apply LeO.none | apply LeO.ite | refine LeO.bind ?_ (fun _ => ?_))
set_option maxHeartbeats 8000000 in
set_option maxRecDepth 100000 in
theorem a2w.calls (k : Nat) (a0 a1 a2_0 a2_1 : Int) (r1 : Bool) (r2 : Int) (w : World) (h : a2w.f k a0 a1 a2_0 a2_1 = some (r1, r2)) :
  Calls Try.prog 21 #[.int .i64 a0, .int .i64 a1, .agg #[.int .i64 a2_0, .int .i64 a2_1]] w fun e w' => e = .returned (.tuple #[.bool r1, .int .i64 r2]) ∧ Below w.heap.size w w' := by
 have hu23 := Try.underlying23
 have HB := Aside0.mk (Below.refl w.heap.size w)
 have H : (if a0 < 0 then (a2w.j0 k a0 a1 true a2_0 a2_1) else (if a0 > 1000000 then (a2w.j0 k a0 a1 true a2_0 a2_1) else (if a1 < 0 then (a2w.j0 k a0 a1 true a2_0 a2_1) else (if a1 > 1000000 then (a2w.j0 k a0 a1 true a2_0 a2_1) else ((a4n.f k a2_0 a2_1).bind fun t459 => (a2w.j0 k a0 a1 (!t459) a2_0 a2_1)))))) = some (r1, r2) := h
 clear h
 have HC4 := Aside0.mk H
 clear H
 go_enter Try.func21, Try.ntmps21
 go_upto_region 1 with (first | ((with_reducible refine a0d (N := 5) rfl ?_); refine qev_ 5 #[.int .i64 a2_0, .int .i64 a2_1] 23 ?_; intro gb458 hg w5 hbox hb; have BK458 := Aside0.mk (hbox); have GW458 := qga_ hg; have GE458 := qga_ hg; replace HB := qbs_ hb; clear hb hbox hg))
 (try simp only [Act.put, List.setIfInBounds_toArray, List.set_cons_zero, List.set_cons_succ])
 go_cut [26] (fun v26 wc => ∃ (kq : Nat) (x26_3 : Bool), v26 = .bool x26_3 ∧ Aside0 (a2w.j0 kq a0 a1 x26_3 a2_0 a2_1 = some (r1, r2)) ∧ Aside0 (kq ≤ k) ∧ Aside0 (wc.heap[gb458]? = some (.cells #[.int .i64 a2_0, .int .i64 a2_1] 23 (0, 0))) ∧ Aside0 (Below w.heap.size w wc))
 case first =>
  have H := HC4.out
  clear HC4
  by_cases c6 : a0 < 0
  ·rw [if_pos c6] at H
   have c6b0 : decide (a0 < 0) = true := decide_eq_true c6
   clear c6
   (first | rw [c6b0] | (simp only [a2r, a2y]; rw [c6b0]) | skip)
   have H' := Aside0.mk H
   clear H
   go_wp2
   go_meet
   case rel => exact ⟨_, (true), qs_, H', ⟨qo_⟩, ⟨qk_ BK458⟩, ⟨qb_⟩⟩
  ·rw [if_neg c6] at H
   have c6b0 : decide (a0 < 0) = false := decide_eq_false c6
   clear c6
   (first | rw [c6b0] | (simp only [a2r, a2y]; rw [c6b0]) | skip)
   by_cases c7 : a0 > 1000000
   ·rw [if_pos c7] at H
    have c7b0 : decide (1000000 < a0) = true := decide_eq_true c7
    clear c7
    have H' := Aside0.mk H
    clear H
    go_wp2
    go_meet
    case rel => exact ⟨_, (true), qs_, H', ⟨qo_⟩, ⟨qk_ BK458⟩, ⟨qb_⟩⟩
   ·rw [if_neg c7] at H
    have c7b0 : decide (1000000 < a0) = false := decide_eq_false c7
    clear c7
    by_cases c8 : a1 < 0
    ·rw [if_pos c8] at H
     have c8b0 : decide (a1 < 0) = true := decide_eq_true c8
     clear c8
     have H' := Aside0.mk H
     clear H
     go_wp2
     go_meet
     case rel => exact ⟨_, (true), qs_, H', ⟨qo_⟩, ⟨qk_ BK458⟩, ⟨qb_⟩⟩
    ·rw [if_neg c8] at H
     have c8b0 : decide (a1 < 0) = false := decide_eq_false c8
     clear c8
     by_cases c9 : a1 > 1000000
     ·rw [if_pos c9] at H
      have c9b0 : decide (1000000 < a1) = true := decide_eq_true c9
      clear c9
      have H' := Aside0.mk H
      clear H
      go_wp2
      go_meet
      case rel => exact ⟨_, (true), qs_, H', ⟨qo_⟩, ⟨qk_ BK458⟩, ⟨qb_⟩⟩
     ·rw [if_neg c9] at H
      have c9b0 : decide (1000000 < a1) = false := decide_eq_false c9
      clear c9
      replace H := Option.bind_eq_some_iff.mp H
      obtain ⟨t459, A100, H⟩ := H
      replace H : (a2w.j0 k a0 a1 (!t459) a2_0 a2_1) = some (r1, r2) := H
      have A10 := Aside0.mk A100
      clear A100
      have H' := Aside0.mk H
      clear H
      obtain ⟨z'11_0, z'11_1⟩ := qz2_ BK458; obtain ⟨y'11_0, y'11_1⟩ := qf2_ BK458
      go_wp2_with (first | (go_at_call 53; (with_reducible refine (a4n.calls k a2_0 a2_1 t459 _ A10.out).mono ?_); rintro e w12 ⟨rfl, hb⟩; replace BK458 := qkb_ BK458 hb; replace HB := qbs_ hb; (try clear hb); (try clear hb2); (try clear hk); (try clear hi)))
      go_meet
      case rel => exact ⟨_, (!t459), qs_, H', ⟨qo_⟩, ⟨qk_ BK458⟩, ⟨qb_⟩⟩
 case rest =>
  clear HC4
  try clear c2
  try clear p2
  try clear c6
  try clear c6b0
  try clear c7
  try clear c7b0
  try clear c8
  try clear c8b0
  try clear c9
  try clear c9b0
  try clear z'11_0 z'11_1
  try clear y'11_0 y'11_1
  obtain ⟨kq, x26_3, rfl, HA, HJ3, BK458, HB⟩ := hcut
  cases kq with
  | zero => exact absurd HA.out (by simp [a2w.j0])
  | succ kj3 =>
   have H := HA.out
   clear HA
   simp only [a2w.j0] at H
   by_cases c13 : x26_3 = true
   ·subst c13
    have H1 : (some (false, 1)) = some (r1, r2) := by rw [if_pos rfl] at H; exact H
    clear H
    have H := H1
    clear H1
    simp only [Option.some.injEq, Prod.mk.injEq] at H
    obtain ⟨rfl, rfl⟩ := H
    go_wp2
    go_ret2
    exact ⟨qx_, qb_⟩
   ·replace c13 := Bool.eq_false_iff.mpr c13
    subst c13
    have H1 : (some (decide ((wrap64 (a0 * a2_1)) > (wrap64 (a2_0 * (wrap64 (a0 + a1))))), 0)) = some (r1, r2) := by rw [if_neg (show ¬ (false = true) by decide)] at H; exact H
    clear H
    have H := H1
    clear H1
    simp only [Option.some.injEq, Prod.mk.injEq] at H
    obtain ⟨rfl, rfl⟩ := H
    obtain ⟨z'14_0, z'14_1⟩ := qz2_ BK458; obtain ⟨y'14_0, y'14_1⟩ := qf2_ BK458
    go_wp2
    go_ret2
    exact ⟨qx_, qb_⟩
end Go.Proofs.Ytemnlgefngjliaa.Px
/- What the reference says of weights and flaws, and that it is what the meeting's own functions say. Conditions: as each theorem states. -/
namespace Go.Proofs.Ytemnlgefngjliaa.Meet
open Go.RowKit Go.Proofs.YtemnlgefngjliaaW.PrintWords Go.Proofs.Ytemnlgefngjliaa.Given Go.Proofs.Ytemnlgefngjliaa.Px
open Go.Proofs.Ytemnlgefngjliaa.Cal
set_option linter.unusedVariables false
set_option linter.unusedSimpArgs false
theorem b4v (l : List Int) (k j v : Int) (h0 : 0 ≤ k) (h1 : k < l.length) (j0 : 0 ≤ j) : rd (l.set k.toNat v) j = if j = k then v else rd l j := by
  unfold rd
  by_cases c : j = k
  · subst c
    rw [if_pos rfl, List.getD_eq_getElem?_getD, List.getElem?_set_self (by omega), Option.getD_some]
  · rw [if_neg c, List.getD_eq_getElem?_getD, List.getElem?_set_ne (by omega), List.getD_eq_getElem?_getD]
def BD (l : List Int) (M : Int) : Prop := ∀ j : Int, 0 ≤ j → j < l.length → 0 ≤ rd l j ∧ rd l j ≤ M
def allE (vs : List S43) : Nat → Int → Int
  | 0, _ => 0
  | n + 1, i => (a0a vs i).f1 + allE vs n (i + 1)
theorem b5v {own : S43 → Int} {vs : List S43} {here : List Int} {i : Int} {o : List Int} {M D : Int} (h1 : i < vs.length) (ho : o.length = vs.length) (hb : BD o M) (hv : 0 ≤ own (a0a vs i) ∧ own (a0a vs i) ≤ D) (hM : M ≤ 1000000000) (hD : D ≤ 1000000) (hM0 : 0 ≤ M) :
    BD (stepW own vs here i o) (M + D) := by
  intro j j0 j1
  rw [a6p] at j1
  unfold stepW
  by_cases c : 0 ≤ byI vs here i
  · have hlt := a9n (here := here) h1
    rw [if_pos c, b4v _ _ _ _ c (by omega) j0]
    have hk := hb _ c (by omega)
    split
    · rw [w64 (by omega) (by omega)]; omega
    · have := hb j j0 j1; omega
  · rw [if_neg c]
    have := hb j j0 j1
    omega
theorem a8m (m : Nat) (j : Int) : rd (List.replicate m 0) j = 0 := by
  unfold rd
  rw [List.getD_eq_getElem?_getD, List.getElem?_replicate]
  split <;> rfl
theorem b1x (m : Nat) {M : Int} (h : 0 ≤ M) : BD (List.replicate m 0) M := fun j _ _ => by rw [a8m]; omega
def a5r (here : List Int) (v : S43) : Int := if v.f0 ∈ here then v.f0 else if v.f2 = 0 then 0 else if v.f2 ∈ here then v.f2 else 0
theorem a8u {vs : List S43} {here : List Int} (g : Good vs here) : idxV vs 0 = -1 :=
  a8r fun t t0 t1 e => by have := of_decide_eq_true (g.ok t t0 t1); omega
theorem b4w {vs : List S43} {here : List Int} (g : Good vs here) {i : Int} (h0 : 0 ≤ i) (h1 : i < vs.length) : idxV vs (a5r here (a0a vs i)) = byI vs here i := by
  unfold a5r byI
  by_cases c1 : (a0a vs i).f0 ∈ here
  · rw [if_pos c1, if_pos c1]
    exact a6z g.sv ⟨h0, h1, rfl⟩
  · rw [if_neg c1, if_neg c1]
    by_cases c2 : (a0a vs i).f2 = 0
    · rw [if_pos c2, c2, a8u g, if_neg]
      intro h
      have := g.hi 0 h
      rw [a8u g] at this
      omega
    · rw [if_neg c2]
      by_cases c3 : (a0a vs i).f2 ∈ here
      · rw [if_pos c3, if_pos c3]
      · rw [if_neg c3, if_neg c3, a8u g]
section
variable (t0 t1 t2 t3 : Int) (t4 : Bool) (m0 m1 m2 : Int) (ag : List ByteArray) (vs : List S43) (here : List Int) (act : ByteArray) (hol : List Int)
theorem b6z (x : Int) (hh : here.length ≤ 1000000) : ∀ (n : Nat) (i : Int), 0 ≤ i → i + n = here.length →
    Ev (fun k => a2b.l0 k x i m0 m1 m2 ag vs here) (decide (x ∈ here.drop i.toNat)) := by
  intro n
  induction n with
  | zero =>
    intro i h0 hi
    refine evUp 0 fun k _ => ?_
    rw [a2b.l0, if_neg (by omega), List.drop_eq_nil_of_le (by omega)]
    simp
  | succ n ih =>
    intro i h0 hi
    obtain ⟨K, hK⟩ := ih (i + 1) (by omega) (by omega)
    dsimp only at hK
    refine evUp K fun k hk => ?_
    rw [a2b.l0, if_pos (by omega), if_pos h0, a7z here i h0 (by omega)]
    by_cases c : rd here i = x
    · rw [if_pos c, decide_eq_true (by rw [c]; exact List.mem_cons_self)]
    · rw [if_neg c, w64 (by omega) (by omega), hK k hk]
      congr 1
      rw [decide_eq_decide, List.mem_cons]
      constructor
      · exact .inr
      · rintro (h | h)
        · exact absurd h.symm c
        · exact h
theorem b2s (x : Int) (hh : here.length ≤ 1000000) : Ev (fun k => a2b.f k m0 m1 m2 ag vs here x) (decide (x ∈ here)) :=
  b6z m0 m1 m2 ag vs here x hh here.length 0 (by omega) (by omega)
noncomputable def thF (vs : List S43) (here : List Int) : Nat → Int → Int → Int
  | 0, _, s => s
  | n + 1, i, s => thF vs here n (i + 1) (if a5r here (a0a vs i) = 0 then s else wrap64 (s + (a0a vs i).f1))
noncomputable def cntE (vs : List S43) (here : List Int) (x : Int) : Nat → Int → Int
  | 0, _ => 0
  | n + 1, i => (if byI vs here i = x then 1 else 0) + cntE vs here x n (i + 1)
theorem b8p {vs : List S43} {here : List Int} (hl : vs.length ≤ 64) {x : Int} (x0 : 0 ≤ x) (x1 : x < vs.length) : ∀ (n : Nat) (i : Int) (o : List Int), 0 ≤ i → i + n = vs.length → o.length = vs.length → BD o i →
    rd (W (fun _ => 1) vs here n i o) x = rd o x + cntE vs here x n i := by
  intro n
  induction n with
  | zero => intro i o _ _ _ _; simp [W, cntE]
  | succ n ih =>
    intro i o h0 hi ho hb
    have hs := b5v (own := fun _ => 1) (vs := vs) (here := here) (i := i) (o := o) (M := i) (D := 1) (by omega) ho hb ⟨by omega, by omega⟩ (by omega) (by omega) (by omega)
    rw [W, ih (i + 1) _ (by omega) (by omega) (by rw [a6p, ho]) hs, cntE]
    unfold stepW
    dsimp only
    by_cases c : 0 ≤ byI vs here i
    · have hlt := a9n (here := here) (show i < vs.length by omega)
      have hk := hb _ c (by omega)
      rw [if_pos c, b4v _ _ _ _ c (by omega) x0, w64 (by omega) (by omega)]
      by_cases d : x = byI vs here i
      · rw [if_pos d, if_pos d.symm, d]
        omega
      · rw [if_neg d, if_neg (fun h => d h.symm)]
        omega
    · rw [if_neg c, if_neg (by omega)]
      omega
theorem b2t {vs : List S43} {here : List Int} (hl : vs.length ≤ 64) {x : Int} (x0 : 0 ≤ x) (x1 : x < vs.length) : rd (wgt (fun _ => 1) vs here) x = cntE vs here x vs.length 0 := by
  unfold wgt
  rw [b8p hl x0 x1 vs.length 0 _ (by omega) (by omega) (by rw [List.length_replicate]) (b1x _ (by omega)), a8m]
  omega
def othE (vs : List S43) (here : List Int) (h : Int) : Nat → Int → Int
  | 0, _ => 0
  | n + 1, i => (if (a0a vs i).f0 ≠ h ∧ a5r here (a0a vs i) = h then 1 else 0) + othE vs here h n (i + 1)
def othO (vs : List S43) (here : List Int) (h : Int) : Int := othE vs here h vs.length 0
theorem b2u {vs : List S43} {here : List Int} (g : Good vs here) {h k : Int} (hm : h ∈ here) (hk : isAt vs h k) : ∀ (n : Nat) (i : Int), 0 ≤ i → i + n = vs.length →
    cntE vs here k n i = othE vs here h n i + (if i ≤ k then 1 else 0) := by
  intro n
  induction n with
  | zero =>
    intro i h0 hi
    have := hk.2.1
    rw [if_neg (by omega)]
    rfl
  | succ n ih =>
    intro i h0 hi
    rw [cntE, othE, ih (i + 1) (by omega) (by omega)]
    by_cases c : i = k
    · subst c
      have e : byI vs here i = i := by
        unfold byI
        rw [if_pos (by rw [hk.2.2]; exact hm)]
      rw [if_pos e, if_neg (show ¬ ((a0a vs i).f0 ≠ h ∧ a5r here (a0a vs i) = h) from fun q => q.1 hk.2.2), if_neg (show ¬ i + 1 ≤ i by omega), if_pos (Int.le_refl _)]
      omega
    · have hf : (a0a vs i).f0 ≠ h := fun q => by
        have a := a6z g.sv ⟨h0, show i < vs.length by omega, q⟩
        have b := a6z g.sv hk
        omega
      have hb : byI vs here i = k ↔ a5r here (a0a vs i) = h := by
        rw [← b4w g h0 (by omega)]
        constructor
        · intro q
          have a := a8q (vs := vs) (x := a5r here (a0a vs i)) (by rw [q]; exact hk.1)
          rw [q] at a
          rw [← a.2.2, hk.2.2]
        · intro q
          rw [q]
          exact a6z g.sv hk
      by_cases d : byI vs here i = k
      · rw [if_pos d, if_pos (show (a0a vs i).f0 ≠ h ∧ a5r here (a0a vs i) = h from ⟨hf, hb.mp d⟩)]
        by_cases e : i ≤ k
        · rw [if_pos (show i + 1 ≤ k by omega), if_pos e]; omega
        · rw [if_neg (show ¬ i + 1 ≤ k by omega), if_neg e]; omega
      · rw [if_neg d, if_neg (show ¬ ((a0a vs i).f0 ≠ h ∧ a5r here (a0a vs i) = h) from fun q => d (hb.mpr q.2))]
        by_cases e : i ≤ k
        · rw [if_pos (show i + 1 ≤ k by omega), if_pos e]; omega
        · rw [if_neg (show ¬ i + 1 ≤ k by omega), if_neg e]; omega
theorem b5w {vs : List S43} {here : List Int} {k : Int} (k0 : 0 ≤ k) (hm : ¬ (a0a vs k).f0 ∈ here) : ∀ (n : Nat) (i : Int), cntE vs here k n i = 0 := by
  intro n
  induction n with
  | zero => intro i; rfl
  | succ n ih =>
    intro i
    rw [cntE, ih (i + 1), if_neg]
    · rfl
    · intro q
      unfold byI at q
      by_cases c1 : (a0a vs i).f0 ∈ here
      · rw [if_pos c1] at q
        subst q
        exact hm c1
      · rw [if_neg c1] at q
        by_cases c2 : (a0a vs i).f2 ∈ here
        · rw [if_pos c2] at q
          have a := a8q (vs := vs) (x := (a0a vs i).f2) (by rw [q]; exact k0)
          rw [q] at a
          rw [a.2.2] at hm
          exact hm c2
        · rw [if_neg c2] at q
          omega
def b1a (vs : List S43) (here : List Int) : Nat → Int → Int → Int
  | 0, _, s => s
  | n + 1, i, s => b1a vs here n (i + 1) (mx s (othO vs here (rd here i)))
theorem b6g (a b t : Int) : mx a b > t ↔ a > t ∨ b > t := by
  unfold mx
  first
    | omega
    | (split <;> omega)
theorem b1y (vs : List S43) (here : List Int) (t : Int) : ∀ (n : Nat) (i s : Int), b1a vs here n i s > t ↔ s > t ∨ ∃ j : Int, i ≤ j ∧ j < i + n ∧ othO vs here (rd here j) > t := by
  intro n
  induction n with
  | zero =>
    intro i s
    constructor
    · exact .inl
    · rintro (h | ⟨j, j0, j1, _⟩)
      · exact h
      · omega
  | succ n ih =>
    intro i s
    rw [b1a, ih, b6g]
    constructor
    · rintro ((h | h) | ⟨j, j0, j1, h⟩)
      · exact .inl h
      · exact .inr ⟨i, by omega, by omega, h⟩
      · exact .inr ⟨j, by omega, by omega, h⟩
    · rintro (h | ⟨j, j0, j1, h⟩)
      · exact .inl (.inl h)
      · by_cases c : j = i
        · subst c; exact .inl (.inr h)
        · exact .inr ⟨j, by omega, by omega, h⟩
theorem a9q (p : Int) (l : List Int) : a4m p l = true ↔ ∃ j : Int, 0 ≤ j ∧ j < l.length ∧ rd l j > wrap64 (p + 1) := by
  unfold a4m a6s a7f
  simp only [List.any_eq_true, List.mem_range, decide_eq_true_eq]
  constructor
  · rintro ⟨i, hi, h⟩
    exact ⟨i, by omega, by omega, h⟩
  · rintro ⟨j, j0, j1, h⟩
    exact ⟨j.toNat, by omega, by rw [Int.toNat_of_nonneg j0]; exact h⟩
theorem b5x {vs : List S43} {here : List Int} (g : Good vs here) {p : Int} (p0 : 0 ≤ p) (p1 : p ≤ 64) : a4m p (wgt (fun _ => 1) vs here) = decide (b1a vs here here.length 0 0 > p) := by
  rw [Bool.eq_iff_iff, a9q, decide_eq_true_eq, b1y, w64 (x := p + 1) (by omega) (by omega)]
  constructor
  · rintro ⟨k, k0, k1, h⟩
    rw [a7o] at k1
    rw [b2t g.lv k0 k1] at h
    by_cases c : (a0a vs k).f0 ∈ here
    · rw [b2u g c ⟨k0, k1, rfl⟩ vs.length 0 (by omega) (by omega), if_pos k0] at h
      obtain ⟨j, j0, j1, e⟩ := mem_rd c
      refine .inr ⟨j, j0, by omega, ?_⟩
      rw [e]
      unfold othO
      omega
    · rw [b5w k0 c] at h
      omega
  · rintro (h | ⟨j, j0, j1, h⟩)
    · omega
    · have hm : rd here j ∈ here := rd_mem j0 (by omega)
      have hk := a8q (g.hi _ hm)
      refine ⟨idxV vs (rd here j), hk.1, by rw [a7o]; exact hk.2.1, ?_⟩
      rw [b2t g.lv hk.1 hk.2.1, b2u g hm hk vs.length 0 (by omega) (by omega), if_pos hk.1]
      unfold othO at h
      omega
end
end Go.Proofs.Ytemnlgefngjliaa.Meet
