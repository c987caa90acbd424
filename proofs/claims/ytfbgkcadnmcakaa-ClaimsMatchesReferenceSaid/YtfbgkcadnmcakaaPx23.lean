/- Contracts of Go functions, printed. Conditions: as each theorem states. -/
import Derived.Test.YtfbgkcadnmcakaaPx0
import Derived.Test.YtfbgkcadnmcakaaPx16
import Derived.Test.YtfbgkcadnmcakaaPx18
import Derived.Test.YtfbgkcadnmcakaaPx20
import Derived.Test.YtfbgkcadnmcakaaPx21
namespace Go.Proofs.Ytfbgkcadnmcakaa.Px
open Go.Proofs.Ytfbgkcadnmcakaa.Given
open Go.RowKit Go.Proofs.YtfbgkcadnmcakaaW.PrintWords Go.Proofs.YtfbgkcadnmcakaaW.PrintLast Go.Proofs.YtfbgkcadnmcakaaW.PrintMore
attribute [local go_sem] a2y a2v a3h a3e a2q a2r a2z a3a
set_option linter.unusedVariables false
set_option linter.unusedSimpArgs false
section
variable {P : Program} {ops : Array Oper} {rest : List Oper} {o : Oper} {a : Act} {Q : Exit → Act → World → Prop}
theorem b4j {x y : Operand} {ts : Array TypeId} (_ho : o.op = .call { callee := .builtin .min, args := #[x, y], argTypes := ts }) {W : World} (h : wpList P ops Q (o :: rest) a W) : wpList P ops Q (o :: rest) a W := h
theorem b3c {W : World} (hgd : o.guard = none) {x y : Operand} {ts : Array TypeId} (ho : o.op = .call { callee := .builtin .min, args := #[x, y], argTypes := ts }) {k : IntKind} {p q z : Int} (hx : a.eval x = .int k p) (hy : a.eval y = .int k q) (hz : (if q < p then q else p) = z)
  (h : wpList P ops Q rest (a.put o.dst (.int k z)) W) : wpList P ops Q (o :: rest) a W := by
 subst hz
 refine wpList_plain hgd fun K' hK' => ?_
 unfold Oper.wp
 simp [execOp, ho, resolve, invoke, builtin, hx, hy, a3e, a2v, Result.andThen]
 exact hK' _ _ h
theorem b2g {W : World} (hgd : o.guard = none) {N : Tmp} (_hd : o.dst = some N) {ty : TypeId} {x : Operand} (ho : o.op = .load ty x) {p : Addr} (hx : a.eval x = .pointer (some p)) {k : IntKind} (hu : P.underlying ty = some (.int k)) (v : Value) (hc : W.cell? p = some v)
  (h : wpList P ops Q rest (a.put o.dst v) W) : wpList P ops Q (o :: rest) a W := by
 have hagg : (isAgg ty).run P W = .ok false W := by
  unfold isAgg
  rw [Sem.run_bind, run_underlying hu W]
  rfl
 have hl : (loadVar ty p).run P W = .ok v W := by simp [loadVar, Sem.run_bind, hagg, hc]
 refine wpList_plain hgd fun K' hK' => ?_
 unfold Oper.wp execOp
 simp only [ho, hx, Instr.loadAt, Instr.sureAddr, Sem.run_bind, Sem.run_pure, Result.andThen_ok, hl]
 exact hK' _ _ h
end
mutual
def a0e.j0 : Nat → List (S30) → List Int → Int → Bool → Option ((List (S30)) × Int × Int)
 | 0, _, _, _, _ => none
 | k + 1, x0, x1, x2, x26 => if x26 = true then (some (([] : List (S30)), 0, 1)) else (a0e.l0 k x0 x1 x2 ([] : List (S30)) 0)
def a0e.l0 : Nat → List (S30) → List Int → Int → List (S30) → Int → Option ((List (S30)) × Int × Int)
 | 0, _, _, _, _, _ => none
 | k + 1, x0, x1, x2, x10, x11 => if x11 < (x1.length : Int) then (if 0 ≤ x11 then ((a1e.f k x0 (rd x1 x11)).bind fun t383 => (if t383 < 0 then (some (([] : List (S30)), 0, 4)) else (if x11 ≤ (x1.length : Int) then ((a1g.f k (x1.take (x11 : Int).toNat) (rd x1 x11)).bind fun t386 => (if t386 = true then (some (([] : List (S30)), 0, 5)) else (if 0 ≤ t383 then (if t383 < (x0.length : Int) then (if x10.length < 2932031007402 then (a0e.l0 k x0 x1 x2 (x10 ++ [(⟨(a0a x0 t383).f0, (a0a x0 t383).f1, (a0a x0 t383).f2, (a0a x0 t383).f3, (⟨(a0a x0 t383).f4.f0, (a0a x0 t383).f4.f1⟩ : S28)⟩ : S30)]) (wrap64 (x11 + 1))) else (none)) else (none)) else (none)))) else (none)))) else (none)) else (a0e.l1 k x2 x10 ([] : List (S30)))
def a0e.l1 : Nat → Int → List (S30) → List (S30) → Option ((List (S30)) × Int × Int)
 | 0, _, _, _ => none
 | k + 1, x2, x10, x13 => if (x10.length : Int) > 0 then (a0e.j3 k x2 x10 x13 (decide (x2 > 0))) else (a0e.j3 k x2 x10 x13 false)
def a0e.j3 : Nat → Int → List (S30) → List (S30) → Bool → Option ((List (S30)) × Int × Int)
 | 0, _, _, _, _ => none
 | k + 1, x2, x10, x13, x62 => if x62 = true then (a0e.l2 k x2 x10 x13 0 1) else (some (x13, x2, 0))
def a0e.l2 : Nat → Int → List (S30) → List (S30) → Int → Int → Option ((List (S30)) × Int × Int)
 | 0, _, _, _, _, _ => none
 | k + 1, x2, x10, x13, x14, x15 => if x15 < (x10.length : Int) then (if 0 ≤ x15 then (if 0 ≤ x14 then (if x14 < (x10.length : Int) then ((a3j.f ((a0a x10 x15).f0) ((a0a x10 x15).f1) ((a0a x10 x15).f2) ((a0a x10 x15).f3) ((a0a x10 x15).f4.f0) ((a0a x10 x15).f4.f1) ((a0a x10 x14).f0) ((a0a x10 x14).f1) ((a0a x10 x14).f2) ((a0a x10 x14).f3) ((a0a x10 x14).f4.f0) ((a0a x10 x14).f4.f1)).bind fun t415 => (if t415 = true then (a0e.l2 k x2 x10 x13 x15 (wrap64 (x15 + 1))) else (a0e.l2 k x2 x10 x13 x14 (wrap64 (x15 + 1))))) else (none)) else (none)) else (none)) else (if 0 ≤ x14 then (if x14 < (x10.length : Int) then (if x13.length < 2932031007402 then ((some (([] : List (S30)) : List (S30))).bind fun y396 => (if x14 ≤ (x10.length : Int) then ((some (x10.take (x14 : Int).toNat : List (S30))).bind fun y399 => (if y396.length + y399.length < 2932031007402 then ((some (y396 ++ y399 : List (S30))).bind fun y403 => (if 0 ≤ (wrap64 (x14 + 1)) then (if (wrap64 (x14 + 1)) ≤ (x10.length : Int) then ((some (x10.drop ((wrap64 (x14 + 1)) : Int).toNat : List (S30))).bind fun y406 => (if y403.length + y406.length < 2932031007402 then (a0e.l1 k (wrap64 (x2 - (mn ((a0a x10 x14).f3) x2))) (y403 ++ y406) (x13 ++ [(⟨(a0a x10 x14).f0, (a0a x10 x14).f1, (a0a x10 x14).f2, mn ((a0a x10 x14).f3) x2, (⟨(a0a x10 x14).f4.f0, (a0a x10 x14).f4.f1⟩ : S28)⟩ : S30)])) else (none))) else (none)) else (none))) else (none))) else (none))) else (none)) else (none)) else (none))
end
def a0e.f (k : Nat) (l0 : List (S30)) (l1 : List Int) (a2 : Int) : Option ((List (S30)) × Int × Int) := (a0t.f k l0).bind fun t380 => (if t380 = true then ((a0l.f a2 0 1000000000).bind fun t381 => (a0e.j0 k l0 l1 a2 (!t381))) else (a0e.j0 k l0 l1 a2 true))
theorem a0e.a1p : ∀ k, (∀ y0 y1 y2 y3, LeO (a0e.j0 k y0 y1 y2 y3) (a0e.j0 (k + 1) y0 y1 y2 y3)) ∧ (∀ y0 y1 y2 y3 y4, LeO (a0e.l0 k y0 y1 y2 y3 y4) (a0e.l0 (k + 1) y0 y1 y2 y3 y4)) ∧ (∀ y0 y1 y2, LeO (a0e.l1 k y0 y1 y2) (a0e.l1 (k + 1) y0 y1 y2)) ∧ (∀ y0 y1 y2 y3, LeO (a0e.j3 k y0 y1 y2 y3) (a0e.j3 (k + 1) y0 y1 y2 y3)) ∧ (∀ y0 y1 y2 y3 y4, LeO (a0e.l2 k y0 y1 y2 y3 y4) (a0e.l2 (k + 1) y0 y1 y2 y3 y4))
 | 0 => ⟨fun _ _ _ _ r h => by simp [a0e.j0] at h, fun _ _ _ _ _ r h => by simp [a0e.l0] at h, fun _ _ _ r h => by simp [a0e.l1] at h, fun _ _ _ _ r h => by simp [a0e.j3] at h, fun _ _ _ _ _ r h => by simp [a0e.l2] at h⟩
 | k + 1 => by
  obtain ⟨ih0, ih1, ih2, ih3, ih4⟩ := a0e.a1p k
  refine ⟨?_, ?_, ?_, ?_, ?_⟩
  ·intro y0 y1 y2 y3
   unfold a0e.j0
   with_reducible (repeat' first | apply ih0 | apply ih1 | apply ih2 | apply ih3 | apply ih4 | apply a1g.mono | apply a0t.mono | apply a1e.mono | apply LeO.refl | apply LeO.none | apply LeO.ite | refine LeO.bind ?_ (fun _ => ?_))
  ·intro y0 y1 y2 y3 y4
   unfold a0e.l0
   with_reducible (repeat' first | apply ih0 | apply ih1 | apply ih2 | apply ih3 | apply ih4 | apply a1g.mono | apply a0t.mono | apply a1e.mono | apply LeO.refl | apply LeO.none | apply LeO.ite | refine LeO.bind ?_ (fun _ => ?_))
  ·intro y0 y1 y2
   unfold a0e.l1
   with_reducible (repeat' first | apply ih0 | apply ih1 | apply ih2 | apply ih3 | apply ih4 | apply a1g.mono | apply a0t.mono | apply a1e.mono | apply LeO.refl | apply LeO.none | apply LeO.ite | refine LeO.bind ?_ (fun _ => ?_))
  ·intro y0 y1 y2 y3
   unfold a0e.j3
   with_reducible (repeat' first | apply ih0 | apply ih1 | apply ih2 | apply ih3 | apply ih4 | apply a1g.mono | apply a0t.mono | apply a1e.mono | apply LeO.refl | apply LeO.none | apply LeO.ite | refine LeO.bind ?_ (fun _ => ?_))
  ·intro y0 y1 y2 y3 y4
   unfold a0e.l2
   with_reducible (repeat' first | apply ih0 | apply ih1 | apply ih2 | apply ih3 | apply ih4 | apply a1g.mono | apply a0t.mono | apply a1e.mono | apply LeO.refl | apply LeO.none | apply LeO.ite | refine LeO.bind ?_ (fun _ => ?_))
theorem a0e.mono : ∀ a0 a1 a2 k, LeO (a0e.f k a0 a1 a2) (a0e.f (k + 1) a0 a1 a2) := by
 intro a0 a1 a2 k
 obtain ⟨ih0, ih1, ih2, ih3, ih4⟩ := a0e.a1p k
 unfold a0e.f
 with_reducible (repeat' first | apply ih0 | apply ih1 | apply ih2 | apply ih3 | apply ih4 | apply a1g.mono | apply a0t.mono | apply a1e.mono | apply LeO.refl | apply LeO.none | apply LeO.ite | refine LeO.bind ?_ (fun _ => ?_))
def a0e.T11 : Bool × List (List Nat × List Nat) := (true, [([], []), ([], []), ([0, 1], [0, 1]), ([], []), ([], []), ([3, 4], [3, 4]), ([5], [5]), ([2, 6], [2, 6])])
def a0e.B11 : List Nat := [0, 0, 3, 0, 0, 24, 56, 127]
theorem a0e.b1m : rtab .any (opsOf Try.f20 11) = a0e.T11 := by kernel_rfl
theorem a0e.a9t : a3t a0e.T11.2 a0e.B11 = true := by kernel_rfl
def a0e.T20 : Bool × List (List Nat × List Nat) := (true, [([], []), ([], []), ([0, 1], [0, 1]), ([2], [2]), ([], []), ([], []), ([4, 5], [4, 5]), ([6], [6]), ([3, 7], [3, 7]), ([8, 8, 0, 1, 2, 3, 4, 5, 6, 7, 8], [8])])
def a0e.B20 : List Nat := [0, 0, 3, 7, 0, 0, 48, 112, 255, 511]
theorem a0e.b6y : rtab .any (opsOf Try.f20 20) = a0e.T20 := by kernel_rfl
theorem a0e.b5m : a3t a0e.T20.2 a0e.B20 = true := by kernel_rfl
def a0e.T27 : Bool × List (List Nat × List Nat) := (true, [([], []), ([], []), ([], []), ([1, 2], [1, 2]), ([0, 3], [0, 3]), ([], []), ([], []), ([6], [6]), ([5, 7], [5, 7]), ([4, 8, 4], [4, 8]), ([9, 9, 0, 1, 2, 3, 4, 5, 6, 7, 8, 9], [1, 5, 9])])
def a0e.B27 : List Nat := [0, 0, 0, 6, 15, 0, 0, 64, 224, 511, 1023]
theorem a0e.b9j : rtab .any (opsOf Try.f20 27) = a0e.T27 := by kernel_rfl
theorem a0e.b8k : a3t a0e.T27.2 a0e.B27 = true := by kernel_rfl
set_option maxHeartbeats 8000000 in
set_option maxRecDepth 100000 in
theorem a0e.calls (k : Nat) (A0 : Option Addr) (c0 : Nat) (l0 : List (S30)) (A1 : Option Addr) (c1 : Nat) (l1 : List Int) (a2 : Int) (r1 : List (S30)) (r2 r3 : Int) (w : World) (hr0 : Kd.C k30 w A0 l0.length l0) (hc0 : l0.length ≤ c0) (hr1 : Kd.C (Kd.int .i64) w A1 l1.length l1) (hc1 : l1.length ≤ c1) (h : a0e.f k l0 l1 a2 = some (r1, r2, r3)) :
  Calls Try.prog 20 #[.slice A0 l0.length c0, .slice A1 l1.length c1, .int .i64 a2] w fun e w' => ∃ v0_ : Value, e = .returned (.tuple #[v0_, .int .i64 r2, .int .i64 r3]) ∧ Kd.R k30 30 w' w.heap.size (fun _ => True) v0_ r1 ∧ Below w.heap.size w w' := by
 have hu30 := Try.underlying30
 have HR0 := am_ hr0
 have HC0 := am_ hc0
 clear hr0 hc0
 have HR1 := am_ hr1
 have HC1 := am_ hc1
 clear hr1 hc1
 have HB := am_ (Below.refl w.heap.size w)
 have H : ((a0t.f k l0).bind fun t380 => (if t380 = true then ((a0l.f a2 0 1000000000).bind fun t381 => (a0e.j0 k l0 l1 a2 (!t381))) else (a0e.j0 k l0 l1 a2 true))) = some (r1, r2, r3) := h
 clear h
 replace H := bm_ H
 obtain ⟨t380, A40, H⟩ := H
 replace H : (if t380 = true then ((a0l.f a2 0 1000000000).bind fun t381 => (a0e.j0 k l0 l1 a2 (!t381))) else (a0e.j0 k l0 l1 a2 true)) = some (r1, r2, r3) := H
 have A4 := am_ A40
 clear A40
 have HC5 := am_ H
 clear H
 go_enter Try.func20, Try.ntmps20
 go_upto_region 2 with (first | ((with_reducible refine a1a (f := 17) rfl ?_); refine a1r (some 19) rfl rfl Try.func17 (by kernel_rfl) rfl #[.slice A0 l0.length c0] rfl ql_ ?_; (with_reducible refine (a0t.calls k _ _ l0 t380 _ ?s1 ?s2 A4.out).mono ?_); (case s1 => repeat (first | exact HR0.out | (with_reducible refine Kd.a4a ?_ _) | (with_reducible refine Kd.a4b ?_ _) | (with_reducible refine Kd.a4k ?_))); (case s2 => exact HC0.out); rintro e w6 ⟨rfl, hb⟩; refine ⟨_, rfl, ?_⟩; replace HB := qbs_ hb; (try clear hb); (try clear hb2); (try clear hk); (try clear hi)))
 (try simp only [Act.put, List.setIfInBounds_toArray, List.set_cons_zero, List.set_cons_succ])
 go_cut [26] (fun v26 wc => ∃ (kq : Nat) (x26_4 : Bool), v26 = .bool x26_4 ∧ Aside0 (a0e.j0 kq l0 l1 a2 x26_4 = some (r1, r2, r3)) ∧ Aside0 (kq ≤ k) ∧ Aside0 (Below w.heap.size w wc))
 case first =>
  have H := HC5.out
  clear HC5
  by_cases c7 : t380 = true
  ·subst c7
   have H1 : ((a0l.f a2 0 1000000000).bind fun t381 => (a0e.j0 k l0 l1 a2 (!t381))) = some (r1, r2, r3) := by rw [if_pos rfl] at H; exact H
   clear H
   have H := H1
   clear H1
   replace H := bm_ H
   obtain ⟨t381, A80, H⟩ := H
   replace H : (a0e.j0 k l0 l1 a2 (!t381)) = some (r1, r2, r3) := H
   have A8 := am_ A80
   clear A80
   have H' := am_ H
   clear H
   go_wp2_with (first | (go_at_call 35; (with_reducible refine (a0l.calls a2 0 1000000000 t381 _ A8.out).mono ?_); rintro e w' ⟨rfl, ⟨nd, rfl⟩⟩))
   go_meet
   case rel => exact ⟨_, (!t381), qs_, H', ⟨qo_⟩, ⟨qb_⟩⟩
  ·replace c7 := be_ c7
   subst c7
   have H1 : (a0e.j0 k l0 l1 a2 true) = some (r1, r2, r3) := by rw [if_neg (show ¬ (false = true) by decide)] at H; exact H
   clear H
   have H := H1
   clear H1
   have H' := am_ H
   clear H
   go_wp2
   go_meet
   case rel => exact ⟨_, (true), qs_, H', ⟨qo_⟩, ⟨qb_⟩⟩
 case rest =>
  clear HC5
  try clear c1
  try clear c2
  try clear p2
  try clear c7
  obtain ⟨kq, x26_4, rfl, HA, HJ4, HB⟩ := hcut
  cases kq with
  | zero => exact absurd HA.out (by simp [a0e.j0])
  | succ kj4 =>
   have H := HA.out
   clear HA
   simp only [a0e.j0] at H
   by_cases c9 : x26_4 = true
   ·subst c9
    have H1 : (some (([] : List (S30)), 0, 1)) = some (r1, r2, r3) := by rw [if_pos rfl] at H; exact H
    clear H
    have H := H1
    clear H1
    simp only [Option.some.injEq, Prod.mk.injEq] at H
    obtain ⟨rfl, rfl, rfl⟩ := H
    go_wp2
    go_ret3
    exact ⟨_, qx_, by first | exact Kd.a5c _ _ _ _ _ | exact Kd.N_nil _ _ _ _ _ | exact Kd.V_nil _ _ _ _ _ | exact Kd.Q_nil _ _ _ _ _ | exact Kd.S_nil _ _ _ _ _, qb_⟩
   ·replace c9 := be_ c9
    subst c9
    have H1 : (a0e.l0 kj4 l0 l1 a2 ([] : List (S30)) 0) = some (r1, r2, r3) := by rw [if_neg (show ¬ (false = true) by decide)] at H; exact H
    clear H
    have H := H1
    clear H1
    have H' := am_ H
    clear H
    go_wp2
    go_loopg [10, 11] kj4 (fun kq v10 v11 w' => ∃ (x10_2 : List (S30)) (x11_2 : Int), v11 = .int .i64 x11_2 ∧ Aside0 (a0e.l0 kq l0 l1 a2 x10_2 x11_2 = some (r1, r2, r3)) ∧ Aside0 (kq ≤ kj4) ∧ Aside0 (Kd.R k30 30 w' w.heap.size (fun _ => True) v10 x10_2) ∧ Aside0 (Below w.heap.size w w'))
    case atStart => exact ⟨(([] : List (S30))), (0), qs_, H', ⟨Nat.le_refl _⟩, ⟨by first | exact Kd.a5c _ _ _ _ _ | exact Kd.N_nil _ _ _ _ _ | exact Kd.V_nil _ _ _ _ _ | exact Kd.Q_nil _ _ _ _ _ | exact Kd.S_nil _ _ _ _ _⟩, ⟨qb_⟩⟩
    case round =>
     clear H'
     try clear c1
     try clear c2
     try clear p2
     try clear c7
     try clear c9
     try clear p2
     obtain ⟨x10_2, x11_2, rfl, HA, HK2, HO_10, HB⟩ := hrel
     cases gk with
     | zero => exact absurd HA.out (by simp [a0e.l0])
     | succ k2 =>
      have H := HA.out
      clear HA
      simp only [a0e.l0] at H
      by_cases c10 : x11_2 < (l1.length : Int)
      ·rw [if_pos c10] at H
       have c10b0 : decide (x11_2 < (l1.length : Int)) = true := decide_eq_true c10
       clear c10
       by_cases c11 : 0 ≤ x11_2
       ·rw [if_pos c11] at H
        have c11b0 : decide (0 ≤ x11_2) = true := decide_eq_true c11
        clear c11
        replace H := bm_ H
        obtain ⟨t383, A120, H⟩ := H
        replace H : (if t383 < 0 then (some (([] : List (S30)), 0, 4)) else (if x11_2 ≤ (l1.length : Int) then ((a1g.f k2 (l1.take (x11_2 : Int).toNat) (rd l1 x11_2)).bind fun t386 => (if t386 = true then (some (([] : List (S30)), 0, 5)) else (if 0 ≤ t383 then (if t383 < (l0.length : Int) then (if x10_2.length < 2932031007402 then (a0e.l0 k2 l0 l1 a2 (x10_2 ++ [(⟨(a0a l0 t383).f0, (a0a l0 t383).f1, (a0a l0 t383).f2, (a0a l0 t383).f3, (⟨(a0a l0 t383).f4.f0, (a0a l0 t383).f4.f1⟩ : S28)⟩ : S30)]) (wrap64 (x11_2 + 1))) else (none)) else (none)) else (none)))) else (none))) = some (r1, r2, r3) := H
        have A12 := am_ A120
        clear A120
        by_cases c13 : t383 < 0
        ·rw [if_pos c13] at H
         have c13b0 : decide (t383 < 0) = true := decide_eq_true c13
         clear c13
         simp only [Option.some.injEq, Prod.mk.injEq] at H
         obtain ⟨rfl, rfl, rfl⟩ := H
         have p382 : 0 ≤ (x11_2 : Int) := ot_
         have q382 : x11_2 < (l1.length : Int) := ot_
         obtain ⟨ad382, e382, hx382_0⟩ := Kd.a3y HR1.out x11_2 p382 q382
         cases e382
         replace hx382_0 := qh_ HB hx382_0
         replace p382 := eq_true p382
         replace q382 := eq_true q382
         go_wp2_with (first | ((with_reducible refine a1a (f := 37) rfl ?_); refine a1r (some 38) rfl rfl Try.func37 (by kernel_rfl) rfl #[.slice A0 l0.length c0, .int .i64 (rd l1 x11_2)] rfl ql_ ?_; (with_reducible refine (a1e.calls k2 _ _ l0 (rd l1 x11_2) t383 _ ?s1 ?s2 A12.out).mono ?_); (case s1 => exact qc_ HR0); (case s2 => exact HC0.out); rintro e w' ⟨rfl, ⟨nd, rfl⟩⟩; refine ⟨_, rfl, ?_⟩))
         go_ret3
         exact ⟨_, qx_, by first | exact Kd.a5c _ _ _ _ _ | exact Kd.N_nil _ _ _ _ _ | exact Kd.V_nil _ _ _ _ _ | exact Kd.Q_nil _ _ _ _ _ | exact Kd.S_nil _ _ _ _ _, qb_⟩
        ·rw [if_neg c13] at H
         have c13b0 : decide (t383 < 0) = false := decide_eq_false c13
         clear c13
         have c14b0 := eq_true (ot_ : 0 ≤ x11_2)
         by_cases c15 : x11_2 ≤ (l1.length : Int)
         ·rw [if_pos c15] at H
          have c15b0 := eq_true c15
          have c15b1 : decide (x11_2 ≤ (l1.length : Int)) = true := decide_eq_true c15
          clear c15
          replace H := bm_ H
          obtain ⟨t386, A160, H⟩ := H
          replace H : (if t386 = true then (some (([] : List (S30)), 0, 5)) else (if 0 ≤ t383 then (if t383 < (l0.length : Int) then (if x10_2.length < 2932031007402 then (a0e.l0 k2 l0 l1 a2 (x10_2 ++ [(⟨(a0a l0 t383).f0, (a0a l0 t383).f1, (a0a l0 t383).f2, (a0a l0 t383).f3, (⟨(a0a l0 t383).f4.f0, (a0a l0 t383).f4.f1⟩ : S28)⟩ : S30)]) (wrap64 (x11_2 + 1))) else (none)) else (none)) else (none))) = some (r1, r2, r3) := H
          have A16 := am_ A160
          clear A160
          by_cases c17 : t386 = true
          ·subst c17
           have H1 : (some (([] : List (S30)), 0, 5)) = some (r1, r2, r3) := by rw [if_pos rfl] at H; exact H
           clear H
           have H := H1
           clear H1
           simp only [Option.some.injEq, Prod.mk.injEq] at H
           obtain ⟨rfl, rfl, rfl⟩ := H
           have p382 : 0 ≤ (x11_2 : Int) := ot_
           have q382 : x11_2 < (l1.length : Int) := ot_
           obtain ⟨ad382, e382, hx382_0⟩ := Kd.a3y HR1.out x11_2 p382 q382
           cases e382
           replace hx382_0 := qh_ HB hx382_0
           replace p382 := eq_true p382
           replace q382 := eq_true q382
           try go_wp2_with (first | ((with_reducible refine a1a (f := 37) rfl ?_); refine a1r (some 38) rfl rfl Try.func37 (by kernel_rfl) rfl #[.slice A0 l0.length c0, .int .i64 (rd l1 x11_2)] rfl ql_ ?_; (with_reducible refine (a1e.calls k2 _ _ l0 (rd l1 x11_2) t383 _ ?s1 ?s2 A12.out).mono ?_); (case s1 => exact qc_ HR0); (case s2 => exact HC0.out); rintro e w' ⟨rfl, ⟨nd, rfl⟩⟩; refine ⟨_, rfl, ?_⟩))
           (try (rw [a9s wr]; generalize hq_ : World.drewN wr _ = wr; replace HO_10 : Aside0 (Kd.R k30 30 wr w.heap.size (fun _ => True) u10 x10_2) := ⟨by rw [← hq_]; exact (qr_ HO_10)⟩; replace HB : Aside0 (Below w.heap.size w wr) := ⟨by rw [← hq_]; exact qb_⟩; clear hq_))
           replace HO_10 := am_ (Kd.a0z HO_10.out)
           replace HB := am_ (ld_ HB.out)
           obtain ⟨i019, hi019, _, hsz19, _⟩ := info_parts info3
           obtain ⟨hcut19, hA19, hC19⟩ := a7x (P := Try.prog) (Value.int .i64) 0 34 3 .i64 Try.underlying34 hi019 hsz19 (some ad382) c1 l1 x11_2 (ot_) (ot_) HC1.out
           have HR384 := am_ (Kd.a9k (h1 := fun _ => rfl) (hA19 _ (Kd.a7o HR1.out)))
           have HC384 := am_ hC19
           clear hA19 hC19 hi019 hsz19
           have p385 : 0 ≤ (x11_2 : Int) := ot_
           have q385 : x11_2 < (l1.length : Int) := ot_
           obtain ⟨ad385, e385, hx385_0⟩ := Kd.a3y HR1.out x11_2 p385 q385
           have hw385_0 := hx385_0
           obtain rfl : ad382 = ad385 := (by injection e385)
           replace hx385_0 := qh_ HB hx385_0
           replace p385 := eq_true p385
           replace q385 := eq_true q385
           refine a3l (n := 8) (S := fun w' => w'.cell? (ad382.add (x11_2).toNat) = some (.int .i64 (rd l1 x11_2))) (ds := []) #[i_,i_,i_,i_,i_,i_,i_,i_] (by kernel_rfl) rfl rfl (((HB.out.cell (World.block_lt_of_cell? w _ hw385_0)).trans hw385_0)) (fun hHeld => ?_); refine a2u a0e.b1m a0e.a9t (fun HT_ HW_ => ?_)
           generalize wr.drew = w18 at HO_10 HB HR384 hx385_0 hHeld ⊢
           refine qpu_ 0 (some 41) #[o_,i_,i_,i_,i_,i_,i_,i_] ?_
           refine qpu_ 1 (some 42) #[o_,o_,i_,i_,i_,i_,i_,i_] ?_
           refine qpu_ 2 (some 43) #[o_,o_,o_,i_,i_,i_,i_,i_] ?_
           refine qpu_ 3 (some 44) #[o_,o_,o_,o_,i_,i_,i_,i_] ?_
           refine qpu_ 4 (some 45) #[o_,o_,o_,o_,o_,i_,i_,i_] ?_
           refine qpu_ 5 (some 46) #[o_,o_,o_,o_,o_,o_,i_,i_] ?_
           refine a2o (i := 6) (N := some 47) (v := ?_) (a' := ?_) #[o_,o_,o_,o_,o_,o_,o_,i_] rfl rfl (a2c HT_.out HW_.out (by kernel_rfl)) (fun _ _ _ h => h) (Or.inl ⟨by rfl, ?_⟩) hHeld ?_ ?_
           rotate_left
           ·intro w' s0
            go_simp
            with_reducible rfl
           rotate_left
           ·exact qp_
           refine one_ (i := 7) (N := some 48) #[o_,o_,o_,o_,o_,o_,o_,o_] rfl rfl (a3b HT_.out (by kernel_rfl)) (by decide) (fun K hK => ?_)
           refine a5p Try.func38 (by kernel_rfl) rfl #[.slice (some ad382) (l1.take (x11_2 : Int).toNat).length c1, .int .i64 (rd l1 x11_2)] (by rfl) rfl rfl (by (try simp only [List.map_toArray, List.map_cons, List.map_nil]); first | done | (rw [show (l1.take (x11_2 : Int).toNat).length = x11_2.toNat from (by rw [List.length_take]; have h_ : (x11_2 : Int) ≤ (l1.length : Int) := ot_; omega)] <;> rfl) | rfl | (simp only [List.length_drop, List.length_take]; rfl)) ?_
           with_reducible refine (a1g.calls k2 _ _ (l1.take (x11_2 : Int).toNat) (rd l1 x11_2) true _ ?s1 ?s2 A16.out).mono ?_
           (case s1 => exact qc_ HR384)
           (case s2 => exact HC384.out)
           rintro e w' ⟨rfl, ⟨nd, rfl⟩⟩
           refine ⟨_, rfl, ?_⟩
           refine hK.out _ _ (((HB.out.cell (World.block_lt_of_cell? w _ hw385_0)).trans hw385_0)) (fun hHeld => ?_)
           clear hK K
           refine a3r (a' := ?_) ?_ ?_
           rotate_left
           ·show Act.put _ (some 48) _ = _
            exact qp_
           refine a3w (a3i HT_.out (by kernel_rfl)) ?_
           try go_wp2
           go_ret3
           exact ⟨_, qx_, by first | exact Kd.a5c _ _ _ _ _ | exact Kd.N_nil _ _ _ _ _ | exact Kd.V_nil _ _ _ _ _ | exact Kd.Q_nil _ _ _ _ _ | exact Kd.S_nil _ _ _ _ _, qb_⟩
          ·replace c17 := be_ c17
           subst c17
           have H1 : (if 0 ≤ t383 then (if t383 < (l0.length : Int) then (if x10_2.length < 2932031007402 then (a0e.l0 k2 l0 l1 a2 (x10_2 ++ [(⟨(a0a l0 t383).f0, (a0a l0 t383).f1, (a0a l0 t383).f2, (a0a l0 t383).f3, (⟨(a0a l0 t383).f4.f0, (a0a l0 t383).f4.f1⟩ : S28)⟩ : S30)]) (wrap64 (x11_2 + 1))) else (none)) else (none)) else (none)) = some (r1, r2, r3) := by rw [if_neg (show ¬ (false = true) by decide)] at H; exact H
           clear H
           have H := H1
           clear H1
           by_cases c20 : 0 ≤ t383
           ·rw [if_pos c20] at H
            have c20b0 : decide (0 ≤ t383) = true := decide_eq_true c20
            clear c20
            by_cases c21 : t383 < (l0.length : Int)
            ·rw [if_pos c21] at H
             have c21b0 : decide (t383 < (l0.length : Int)) = true := decide_eq_true c21
             clear c21
             by_cases c22 : x10_2.length < 2932031007402
             ·rw [if_pos c22] at H
              have LMc22 := am_ c22
              clear c22
              obtain ⟨y388, hy388⟩ : ∃ y_ : List (S30), y_ = (x10_2 ++ [(⟨(a0a l0 t383).f0, (a0a l0 t383).f1, (a0a l0 t383).f2, (a0a l0 t383).f3, (⟨(a0a l0 t383).f4.f0, (a0a l0 t383).f4.f1⟩ : S28)⟩ : S30)]) := ⟨_, rfl⟩
              replace H : (a0e.l0 k2 l0 l1 a2 y388 (wrap64 (x11_2 + 1))) = some (r1, r2, r3) := by first | (rw [hy388]; with_reducible exact H) | (have H2_ := (Option.bind_some _ _).symm.trans H; rw [hy388]; with_reducible exact H2_) | (have H2_ := (Option.bind_some _ _).symm.trans H; with_reducible exact H2_) | with_reducible exact H | (rw [hy388]; exact H) | exact H
              have Ny388 := am_ hy388
              clear hy388
              have H' := am_ H
              clear H
              have p382 : 0 ≤ (x11_2 : Int) := ot_
              have q382 : x11_2 < (l1.length : Int) := ot_
              obtain ⟨ad382, e382, hx382_0⟩ := Kd.a3y HR1.out x11_2 p382 q382
              cases e382
              replace hx382_0 := qh_ HB hx382_0
              replace p382 := eq_true p382
              replace q382 := eq_true q382
              try go_wp2_with (first | ((with_reducible refine a1a (f := 37) rfl ?_); refine a1r (some 38) rfl rfl Try.func37 (by kernel_rfl) rfl #[.slice A0 l0.length c0, .int .i64 (rd l1 x11_2)] rfl ql_ ?_; (with_reducible refine (a1e.calls k2 _ _ l0 (rd l1 x11_2) t383 _ ?s1 ?s2 A12.out).mono ?_); (case s1 => exact qc_ HR0); (case s2 => exact HC0.out); rintro e w' ⟨rfl, ⟨nd, rfl⟩⟩; refine ⟨_, rfl, ?_⟩))
              (try (rw [a9s wr]; generalize hq_ : World.drewN wr _ = wr; replace HO_10 : Aside0 (Kd.R k30 30 wr w.heap.size (fun _ => True) u10 x10_2) := ⟨by rw [← hq_]; exact (qr_ HO_10)⟩; replace HB : Aside0 (Below w.heap.size w wr) := ⟨by rw [← hq_]; exact qb_⟩; clear hq_))
              replace HO_10 := am_ (Kd.a0z HO_10.out)
              replace HB := am_ (ld_ HB.out)
              obtain ⟨i024, hi024, _, hsz24, _⟩ := info_parts info3
              obtain ⟨hcut24, hA24, hC24⟩ := a7x (P := Try.prog) (Value.int .i64) 0 34 3 .i64 Try.underlying34 hi024 hsz24 (some ad382) c1 l1 x11_2 (ot_) (ot_) HC1.out
              have HR384 := am_ (Kd.a9k (h1 := fun _ => rfl) (hA24 _ (Kd.a7o HR1.out)))
              have HC384 := am_ hC24
              clear hA24 hC24 hi024 hsz24
              have p385 : 0 ≤ (x11_2 : Int) := ot_
              have q385 : x11_2 < (l1.length : Int) := ot_
              obtain ⟨ad385, e385, hx385_0⟩ := Kd.a3y HR1.out x11_2 p385 q385
              have hw385_0 := hx385_0
              obtain rfl : ad382 = ad385 := (by injection e385)
              replace hx385_0 := qh_ HB hx385_0
              replace p385 := eq_true p385
              replace q385 := eq_true q385
              refine a3l (n := 8) (S := fun w' => w'.cell? (ad382.add (x11_2).toNat) = some (.int .i64 (rd l1 x11_2))) (ds := []) #[i_,i_,i_,i_,i_,i_,i_,i_] (by kernel_rfl) rfl rfl (((HB.out.cell (World.block_lt_of_cell? w _ hw385_0)).trans hw385_0)) (fun hHeld => ?_); refine a2u a0e.b1m a0e.a9t (fun HT_ HW_ => ?_)
              generalize wr.drew = w23 at HO_10 HB HR384 hx385_0 hHeld ⊢
              refine qpu_ 0 (some 41) #[o_,i_,i_,i_,i_,i_,i_,i_] ?_
              refine qpu_ 1 (some 42) #[o_,o_,i_,i_,i_,i_,i_,i_] ?_
              refine qpu_ 2 (some 43) #[o_,o_,o_,i_,i_,i_,i_,i_] ?_
              refine qpu_ 3 (some 44) #[o_,o_,o_,o_,i_,i_,i_,i_] ?_
              refine qpu_ 4 (some 45) #[o_,o_,o_,o_,o_,i_,i_,i_] ?_
              refine qpu_ 5 (some 46) #[o_,o_,o_,o_,o_,o_,i_,i_] ?_
              refine a2o (i := 6) (N := some 47) (v := ?_) (a' := ?_) #[o_,o_,o_,o_,o_,o_,o_,i_] rfl rfl (a2c HT_.out HW_.out (by kernel_rfl)) (fun _ _ _ h => h) (Or.inl ⟨by rfl, ?_⟩) hHeld ?_ ?_
              rotate_left
              ·intro w' s0
               go_simp
               with_reducible rfl
              rotate_left
              ·exact qp_
              refine one_ (i := 7) (N := some 48) #[o_,o_,o_,o_,o_,o_,o_,o_] rfl rfl (a3b HT_.out (by kernel_rfl)) (by decide) (fun K hK => ?_)
              refine a5p Try.func38 (by kernel_rfl) rfl #[.slice (some ad382) (l1.take (x11_2 : Int).toNat).length c1, .int .i64 (rd l1 x11_2)] (by rfl) rfl rfl (by (try simp only [List.map_toArray, List.map_cons, List.map_nil]); first | done | (rw [show (l1.take (x11_2 : Int).toNat).length = x11_2.toNat from (by rw [List.length_take]; have h_ : (x11_2 : Int) ≤ (l1.length : Int) := ot_; omega)] <;> rfl) | rfl | (simp only [List.length_drop, List.length_take]; rfl)) ?_
              with_reducible refine (a1g.calls k2 _ _ (l1.take (x11_2 : Int).toNat) (rd l1 x11_2) false _ ?s1 ?s2 A16.out).mono ?_
              (case s1 => exact qc_ HR384)
              (case s2 => exact HC384.out)
              rintro e w' ⟨rfl, ⟨nd, rfl⟩⟩
              refine ⟨_, rfl, ?_⟩
              refine hK.out _ _ (((HB.out.cell (World.block_lt_of_cell? w _ hw385_0)).trans hw385_0)) (fun hHeld => ?_)
              clear hK K
              refine a3r (a' := ?_) ?_ ?_
              rotate_left
              ·show Act.put _ (some 48) _ = _
               exact qp_
              refine a3w (a3i HT_.out (by kernel_rfl)) ?_
              have p387 : 0 ≤ (t383 : Int) := ot_
              have q387 : t383 < (l0.length : Int) := ot_
              obtain ⟨ad387, e387, hx387_0, hx387_1, hx387_2, hx387_3, hx387_4, hx387_5⟩ := a3c HR0.out t383 p387 q387
              cases e387
              replace hx387_0 := qh_ HB hx387_0
              replace hx387_1 := qh_ HB hx387_1
              replace hx387_2 := qh_ HB hx387_2
              replace hx387_3 := qh_ HB hx387_3
              replace hx387_4 := qh_ HB hx387_4
              replace hx387_5 := qh_ HB hx387_5
              replace p387 := eq_true p387
              replace q387 := eq_true q387
              try go_wp2_with (first | ((with_reducible refine a5a (b := .append) (xs := #[.tmp 49, .tmp 54]) rfl ?_); at_builtin; refine Kd.a5z k30 (w0 := w) w.heap.size rfl (.tmp 49) (.tmp 54) 22 30 (.agg #[(.int .i64 0), (.int .i64 0), (.int .i64 0), (.int .i64 0), (.int .i64 0), (.int .i64 0)]) 48 rfl Try.underlying22 a4w rfl (by decide) (by omega) u10 x10_2 (⟨(a0a l0 t383).f0, (a0a l0 t383).f1, (a0a l0 t383).f2, (a0a l0 t383).f3, (⟨(a0a l0 t383).f4.f0, (a0a l0 t383).f4.f1⟩ : S28)⟩ : S30) [.int .i64 ((a0a l0 t383).f0), .int .i64 ((a0a l0 t383).f1), .int .i64 ((a0a l0 t383).f2), .int .i64 ((a0a l0 t383).f3), .int .i64 ((a0a l0 t383).f4.f0), .int .i64 ((a0a l0 t383).f4.f1)] (fun _ => True) (fun _ => False) rfl rfl ?aP (fun _ hk => hk.elim) ?aF ?aO ?aB ?aS ?aL ?_; (case aP => exact a5j _ _ _ (⟨(a0a l0 t383).f0, (a0a l0 t383).f1, (a0a l0 t383).f2, (a0a l0 t383).f3, (⟨(a0a l0 t383).f4.f0, (a0a l0 t383).f4.f1⟩ : S28)⟩ : S30)); (case aB => exact qb_); (case aF => exact (fun _ _ => trivial)); (case aO => exact (qr_ HO_10)); (case aS => exact (a1o qb_)); (case aL => have := LMc22.out; omega); intro v389 w25 ho hb hg hat; rw [← Ny388.out] at ho; replace HB := am_ (hb); have HO390 := am_ (ho); clear HO_10 ho hb hg hat))
              go_roundg k2
              case measure => have := HJ4.out; have := HK2.out; omega
              case rel => exact ⟨(y388), (wrap64 (x11_2 + 1)), qs_, H', ⟨by have := HJ4.out; have := HK2.out; omega⟩, ⟨by (with_reducible repeat (first | apply Kd.a1b | apply Kd.a1c | apply Kd.a0z)); exact HO390.out⟩, ⟨qb_⟩⟩
             ·rw [if_neg c22] at H
              exact absurd H (by simp)
            ·rw [if_neg c21] at H
             exact absurd H (by simp)
           ·rw [if_neg c20] at H
            exact absurd H (by simp)
         ·rw [if_neg c15] at H
          exact absurd H (by simp)
       ·rw [if_neg c11] at H
        exact absurd H (by simp)
      ·rw [if_neg c10] at H
       have c10b0 : decide (x11_2 < (l1.length : Int)) = false := decide_eq_false c10
       clear c10
       have H' := am_ H
       clear H
       go_wp2
       go_loopg [2, 10, 13] k2 (fun kq v2 v10 v13 w' => ∃ (x2_3 : Int) (x10_3 : List (S30)) (x13_3 : List (S30)), v2 = .int .i64 x2_3 ∧ Aside0 (a0e.l1 kq x2_3 x10_3 x13_3 = some (r1, r2, r3)) ∧ Aside0 (kq ≤ k2) ∧ Aside0 (Kd.R k30 30 w' w.heap.size (fun k_ => some k_ ≠ (v13 : Value).ownBlock) v10 x10_3) ∧ Aside0 (Kd.R k30 30 w' w.heap.size (fun k_ => some k_ ≠ (v10 : Value).ownBlock) v13 x13_3) ∧ Aside0 (Below w.heap.size w w'))
       case atStart => exact ⟨(a2), (x10_2), (([] : List (S30))), qs_, H', ⟨Nat.le_refl _⟩, ⟨by (with_reducible repeat (first | apply Kd.a1b | apply Kd.a1c | apply Kd.a0z)); exact Kd.a1s HO_10.out (fun _ hk => (by simp [Value.ownBlock]))⟩, ⟨by first | exact Kd.a5c _ _ _ _ _ | exact Kd.N_nil _ _ _ _ _ | exact Kd.V_nil _ _ _ _ _ | exact Kd.Q_nil _ _ _ _ _ | exact Kd.S_nil _ _ _ _ _⟩, ⟨qb_⟩⟩
       case round =>
        clear H'
        try clear c1
        try clear c2
        try clear p2
        try clear c3
        try clear p3
        try clear q3
        try clear hx3
        try clear p6
        try clear c7
        try clear c9
        try clear c10
        try clear c10b0
        try clear c11
        try clear c11b0
        try clear c13
        try clear c13b0
        try clear c14
        try clear c14b0
        try clear c15
        try clear c15b0
        try clear c15b1
        try clear c17
        try clear c20
        try clear c20b0
        try clear c21
        try clear c21b0
        try clear c22
        try clear hx382_0
        try clear hx385_0
        try clear hx387_0
        try clear hx387_1
        try clear hx387_2
        try clear hx387_3
        try clear hx387_4
        try clear hx387_5
        try clear p2
        try clear p382
        try clear p385
        try clear p387
        try clear q382
        try clear q385
        try clear q387
        obtain ⟨x2_3, x10_3, x13_3, rfl, HA, HK3, HO_10, HO_13, HB⟩ := hrel
        cases gk with
        | zero => exact absurd HA.out (by simp [a0e.l1])
        | succ k3 =>
         have H := HA.out
         clear HA
         simp only [a0e.l1] at H
         have HC26 := am_ H
         clear H
         go_upto_region 15 with (fail)
         go_cut [62] (fun v62 wc => ∃ (kq : Nat) (x62_25 : Bool), v62 = .bool x62_25 ∧ Aside0 (a0e.j3 kq x2_3 x10_3 x13_3 x62_25 = some (r1, r2, r3)) ∧ Aside0 (kq ≤ k3) ∧ Aside0 (Kd.R k30 30 wc w.heap.size (fun k_ => some k_ ≠ (u13 : Value).ownBlock) u10 x10_3) ∧ Aside0 (Kd.R k30 30 wc w.heap.size (fun k_ => some k_ ≠ (u10 : Value).ownBlock) u13 x13_3) ∧ Aside0 (Below w.heap.size w wc))
         case first =>
          have H := HC26.out
          clear HC26
          by_cases c27 : (x10_3.length : Int) > 0
          ·rw [if_pos c27] at H
           have c27b0 : decide (0 < (x10_3.length : Int)) = true := decide_eq_true c27
           have c27b1 : decide (0 < x10_3.length) = true := decide_eq_true (by omega)
           clear c27
           (first | rw [c27b0] | (simp only [a2x, a3m]; rw [c27b0]) | skip)
           have H' := am_ H
           clear H
           obtain ⟨Ao28, co28, eo28⟩ := Kd.a1w HO_10.out
           subst eo28
           go_wp2
           go_meet
           case rel => exact ⟨_, (decide (x2_3 > 0)), qs_, H', ⟨by have := HJ4.out; have := HK2.out; have := HK3.out; first | omega | exact Nat.le_refl _⟩, ⟨by (with_reducible repeat (first | apply Kd.a1b | apply Kd.a1c | apply Kd.a0z)); exact HO_10.out⟩, ⟨by (with_reducible repeat (first | apply Kd.a1b | apply Kd.a1c | apply Kd.a0z)); exact HO_13.out⟩, ⟨qb_⟩⟩
          ·rw [if_neg c27] at H
           have c27b0 : decide (0 < (x10_3.length : Int)) = false := decide_eq_false c27
           have c27b1 : decide (0 < x10_3.length) = false := decide_eq_false (by omega)
           clear c27
           (first | rw [c27b0] | (simp only [a2x, a3m]; rw [c27b0]) | skip)
           have H' := am_ H
           clear H
           obtain ⟨Ao29, co29, eo29⟩ := Kd.a1w HO_10.out
           subst eo29
           go_wp2
           go_meet
           case rel => exact ⟨_, (false), qs_, H', ⟨by have := HJ4.out; have := HK2.out; have := HK3.out; first | omega | exact Nat.le_refl _⟩, ⟨by (with_reducible repeat (first | apply Kd.a1b | apply Kd.a1c | apply Kd.a0z)); exact HO_10.out⟩, ⟨by (with_reducible repeat (first | apply Kd.a1b | apply Kd.a1c | apply Kd.a0z)); exact HO_13.out⟩, ⟨qb_⟩⟩
         case rest =>
          clear HC26
          try clear c1
          try clear c2
          try clear p2
          try clear c3
          try clear p3
          try clear q3
          try clear hx3
          try clear p6
          try clear c7
          try clear c9
          try clear c10
          try clear c10b0
          try clear c11
          try clear c11b0
          try clear c13
          try clear c13b0
          try clear c14
          try clear c14b0
          try clear c15
          try clear c15b0
          try clear c15b1
          try clear c17
          try clear c20
          try clear c20b0
          try clear c21
          try clear c21b0
          try clear c22
          try clear c27
          try clear c27b0
          try clear c27b1
          try clear hx382_0
          try clear hx385_0
          try clear hx387_0
          try clear hx387_1
          try clear hx387_2
          try clear hx387_3
          try clear hx387_4
          try clear hx387_5
          try clear p2
          try clear p3
          try clear p382
          try clear p385
          try clear p387
          try clear p6
          try clear q3
          try clear q382
          try clear q385
          try clear q387
          obtain ⟨kq, x62_25, rfl, HA, HJ25, HO_10, HO_13, HB⟩ := hcut
          cases kq with
          | zero => exact absurd HA.out (by simp [a0e.j3])
          | succ kj25 =>
           have H := HA.out
           clear HA
           simp only [a0e.j3] at H
           by_cases c30 : x62_25 = true
           ·subst c30
            have H1 : (a0e.l2 kj25 x2_3 x10_3 x13_3 0 1) = some (r1, r2, r3) := by rw [if_pos rfl] at H; exact H
            clear H
            have H := H1
            clear H1
            have H' := am_ H
            clear H
            go_wp2
            go_loopg [14, 15] kj25 (fun kq v14 v15 w' => ∃ (x14_5 : Int) (x15_5 : Int), v14 = .int .i64 x14_5 ∧ v15 = .int .i64 x15_5 ∧ Aside0 (a0e.l2 kq x2_3 x10_3 x13_3 x14_5 x15_5 = some (r1, r2, r3)) ∧ Aside0 (kq ≤ kj25) ∧ Aside0 (Kd.R k30 30 w' w.heap.size (fun k_ => some k_ ≠ (u13 : Value).ownBlock) u10 x10_3) ∧ Aside0 (Kd.R k30 30 w' w.heap.size (fun k_ => some k_ ≠ (u10 : Value).ownBlock) u13 x13_3) ∧ Aside0 (Below w.heap.size w w'))
            case atStart => exact ⟨(0), (1), qs_, qs_, H', ⟨Nat.le_refl _⟩, ⟨by (with_reducible repeat (first | apply Kd.a1b | apply Kd.a1c | apply Kd.a0z)); exact HO_10.out⟩, ⟨by (with_reducible repeat (first | apply Kd.a1b | apply Kd.a1c | apply Kd.a0z)); exact HO_13.out⟩, ⟨qb_⟩⟩
            case round =>
             clear H'
             try clear c1
             try clear c2
             try clear p2
             try clear c3
             try clear p3
             try clear q3
             try clear hx3
             try clear p6
             try clear c7
             try clear c9
             try clear c10
             try clear c10b0
             try clear c11
             try clear c11b0
             try clear c13
             try clear c13b0
             try clear c14
             try clear c14b0
             try clear c15
             try clear c15b0
             try clear c15b1
             try clear c17
             try clear c20
             try clear c20b0
             try clear c21
             try clear c21b0
             try clear c22
             try clear c27
             try clear c27b0
             try clear c27b1
             try clear c30
             try clear hx382_0
             try clear hx385_0
             try clear hx387_0
             try clear hx387_1
             try clear hx387_2
             try clear hx387_3
             try clear hx387_4
             try clear hx387_5
             try clear p2
             try clear p3
             try clear p382
             try clear p385
             try clear p387
             try clear p6
             try clear q3
             try clear q382
             try clear q385
             try clear q387
             obtain ⟨x14_5, x15_5, rfl, rfl, HA, HK5, HO_10, HO_13, HB⟩ := hrel
             cases gk with
             | zero => exact absurd HA.out (by simp [a0e.l2])
             | succ k5 =>
              have H := HA.out
              clear HA
              simp only [a0e.l2] at H
              by_cases c31 : x15_5 < (x10_3.length : Int)
              ·rw [if_pos c31] at H
               have c31b0 : decide (x15_5 < (x10_3.length : Int)) = true := decide_eq_true c31
               clear c31
               by_cases c32 : 0 ≤ x15_5
               ·rw [if_pos c32] at H
                have c32b0 : decide (0 ≤ x15_5) = true := decide_eq_true c32
                clear c32
                by_cases c33 : 0 ≤ x14_5
                ·rw [if_pos c33] at H
                 have c33b0 : decide (0 ≤ x14_5) = true := decide_eq_true c33
                 clear c33
                 by_cases c34 : x14_5 < (x10_3.length : Int)
                 ·rw [if_pos c34] at H
                  have c34b0 : decide (x14_5 < (x10_3.length : Int)) = true := decide_eq_true c34
                  clear c34
                  replace H := bm_ H
                  obtain ⟨t415, A350, H⟩ := H
                  replace H : (if t415 = true then (a0e.l2 k5 x2_3 x10_3 x13_3 x15_5 (wrap64 (x15_5 + 1))) else (a0e.l2 k5 x2_3 x10_3 x13_3 x14_5 (wrap64 (x15_5 + 1)))) = some (r1, r2, r3) := H
                  have A35 := am_ A350
                  clear A350
                  by_cases c36 : t415 = true
                  ·subst c36
                   have H1 : (a0e.l2 k5 x2_3 x10_3 x13_3 x15_5 (wrap64 (x15_5 + 1))) = some (r1, r2, r3) := by rw [if_pos rfl] at H; exact H
                   clear H
                   have H := H1
                   clear H1
                   have H' := am_ H
                   clear H
                   obtain ⟨Ao37, co37, eo37⟩ := Kd.a1w HO_10.out
                   subst eo37
                   try go_wp2
                   replace HO_10 := am_ (Kd.a0z HO_10.out)
                   replace HO_13 := am_ (Kd.a0z HO_13.out)
                   replace HB := am_ (ld_ HB.out)
                   have p413 : 0 ≤ (x15_5 : Int) := ot_
                   have q413 : x15_5 < (x10_3.length : Int) := ot_
                   obtain ⟨ad413, e413, hx413_0, hx413_1, hx413_2, hx413_3, hx413_4, hx413_5⟩ := a3c (Kd.a0v HO_10.out).2.2 x15_5 p413 q413
                   cases e413
                   replace p413 := eq_true p413
                   replace q413 := eq_true q413
                   have p414 : 0 ≤ (x14_5 : Int) := ot_
                   have q414 : x14_5 < (x10_3.length : Int) := ot_
                   obtain ⟨ad414, e414, hx414_0, hx414_1, hx414_2, hx414_3, hx414_4, hx414_5⟩ := a3c (Kd.a0v HO_10.out).2.2 x14_5 p414 q414
                   obtain rfl : ad413 = ad414 := (by injection e414)
                   replace p414 := eq_true p414
                   replace q414 := eq_true q414
                   refine a3l (n := 10) (S := fun w' => w'.cell? (ad413.add ((x15_5).toNat * 6)) = some (.int .i64 ((a0a x10_3 x15_5).f0)) ∧ w'.cell? ⟨(ad413.add ((x15_5).toNat * 6)).block, (ad413.add ((x15_5).toNat * 6)).off + 1, none⟩ = some (.int .i64 ((a0a x10_3 x15_5).f1)) ∧ w'.cell? ⟨(ad413.add ((x15_5).toNat * 6)).block, (ad413.add ((x15_5).toNat * 6)).off + 2, none⟩ = some (.int .i64 ((a0a x10_3 x15_5).f2)) ∧ w'.cell? ⟨(ad413.add ((x15_5).toNat * 6)).block, (ad413.add ((x15_5).toNat * 6)).off + 3, none⟩ = some (.int .i64 ((a0a x10_3 x15_5).f3)) ∧ w'.cell? ⟨(ad413.add ((x15_5).toNat * 6)).block, (ad413.add ((x15_5).toNat * 6)).off + 4, none⟩ = some (.int .i64 ((a0a x10_3 x15_5).f4.f0)) ∧ w'.cell? ⟨(ad413.add ((x15_5).toNat * 6)).block, (ad413.add ((x15_5).toNat * 6)).off + 5, none⟩ = some (.int .i64 ((a0a x10_3 x15_5).f4.f1)) ∧ w'.cell? (ad413.add ((x14_5).toNat * 6)) = some (.int .i64 ((a0a x10_3 x14_5).f0)) ∧ w'.cell? ⟨(ad413.add ((x14_5).toNat * 6)).block, (ad413.add ((x14_5).toNat * 6)).off + 1, none⟩ = some (.int .i64 ((a0a x10_3 x14_5).f1)) ∧ w'.cell? ⟨(ad413.add ((x14_5).toNat * 6)).block, (ad413.add ((x14_5).toNat * 6)).off + 2, none⟩ = some (.int .i64 ((a0a x10_3 x14_5).f2)) ∧ w'.cell? ⟨(ad413.add ((x14_5).toNat * 6)).block, (ad413.add ((x14_5).toNat * 6)).off + 3, none⟩ = some (.int .i64 ((a0a x10_3 x14_5).f3)) ∧ w'.cell? ⟨(ad413.add ((x14_5).toNat * 6)).block, (ad413.add ((x14_5).toNat * 6)).off + 4, none⟩ = some (.int .i64 ((a0a x10_3 x14_5).f4.f0)) ∧ w'.cell? ⟨(ad413.add ((x14_5).toNat * 6)).block, (ad413.add ((x14_5).toNat * 6)).off + 5, none⟩ = some (.int .i64 ((a0a x10_3 x14_5).f4.f1))) (ds := []) #[i_,i_,i_,i_,i_,i_,i_,i_,i_,i_] (by kernel_rfl) rfl rfl ⟨hx413_0, hx413_1, hx413_2, hx413_3, hx413_4, hx413_5, hx414_0, hx414_1, hx414_2, hx414_3, hx414_4, hx414_5⟩ (fun hHeld => ?_); refine a2u a0e.b6y a0e.b5m (fun HT_ HW_ => ?_)
                   generalize wr.drew = w38 at HO_10 HO_13 HB hx413_0 hx413_1 hx413_2 hx413_3 hx413_4 hx413_5 hx414_0 hx414_1 hx414_2 hx414_3 hx414_4 hx414_5 hHeld ⊢
                   refine qpu_ 0 (some 69) #[o_,i_,i_,i_,i_,i_,i_,i_,i_,i_] ?_
                   refine qpu_ 1 (some 70) #[o_,o_,i_,i_,i_,i_,i_,i_,i_,i_] ?_
                   refine qpu_ 2 (some 71) #[o_,o_,o_,i_,i_,i_,i_,i_,i_,i_] ?_
                   refine qpu_ 4 (some 73) #[o_,o_,o_,i_,o_,i_,i_,i_,i_,i_] ?_
                   refine qpu_ 5 (some 74) #[o_,o_,o_,i_,o_,o_,i_,i_,i_,i_] ?_
                   refine qpu_ 6 (some 75) #[o_,o_,o_,i_,o_,o_,o_,i_,i_,i_] ?_
                   refine a2o (i := 3) (N := some 72) (v := ?_) (a' := ?_) #[o_,o_,o_,o_,o_,o_,o_,i_,i_,i_] rfl rfl (a2c HT_.out HW_.out (by kernel_rfl)) (fun _ _ _ h => h) (Or.inl ⟨by rfl, ?_⟩) hHeld ?_ ?_
                   rotate_left
                   ·rintro w' ⟨s0, s1, s2, s3, s4, s5, s6, s7, s8, s9, s10, s11⟩
                    go_simp
                    with_reducible rfl
                   rotate_left
                   ·exact qp_
                   refine a2o (i := 7) (N := some 76) (v := ?_) (a' := ?_) #[o_,o_,o_,o_,o_,o_,o_,o_,i_,i_] rfl rfl (a2c HT_.out HW_.out (by kernel_rfl)) (fun _ _ _ h => h) (Or.inl ⟨by rfl, ?_⟩) hHeld ?_ ?_
                   rotate_left
                   ·rintro w' ⟨s0, s1, s2, s3, s4, s5, s6, s7, s8, s9, s10, s11⟩
                    go_simp
                    with_reducible rfl
                   rotate_left
                   ·exact qp_
                   refine one_ (i := 8) (N := some 77) #[o_,o_,o_,o_,o_,o_,o_,o_,o_,i_] rfl rfl (a3b HT_.out (by kernel_rfl)) (by decide) (fun K hK => ?_)
                   refine a5p Try.func14 (by kernel_rfl) rfl #[.agg #[.int .i64 ((a0a x10_3 x15_5).f0), .int .i64 ((a0a x10_3 x15_5).f1), .int .i64 ((a0a x10_3 x15_5).f2), .int .i64 ((a0a x10_3 x15_5).f3), .int .i64 ((a0a x10_3 x15_5).f4.f0), .int .i64 ((a0a x10_3 x15_5).f4.f1)], .agg #[.int .i64 ((a0a x10_3 x14_5).f0), .int .i64 ((a0a x10_3 x14_5).f1), .int .i64 ((a0a x10_3 x14_5).f2), .int .i64 ((a0a x10_3 x14_5).f3), .int .i64 ((a0a x10_3 x14_5).f4.f0), .int .i64 ((a0a x10_3 x14_5).f4.f1)]] (by rfl) rfl rfl ql_ ?_
                   with_reducible refine (a3j.calls ((a0a x10_3 x15_5).f0) ((a0a x10_3 x15_5).f1) ((a0a x10_3 x15_5).f2) ((a0a x10_3 x15_5).f3) ((a0a x10_3 x15_5).f4.f0) ((a0a x10_3 x15_5).f4.f1) ((a0a x10_3 x14_5).f0) ((a0a x10_3 x14_5).f1) ((a0a x10_3 x14_5).f2) ((a0a x10_3 x14_5).f3) ((a0a x10_3 x14_5).f4.f0) ((a0a x10_3 x14_5).f4.f1) true _ A35.out).mono ?_
                   rintro e w39 ⟨rfl, hb⟩
                   have HS0_ := (hb.cell (World.block_lt_of_cell? _ _ (hHeld.1))).trans (hHeld.1)
                   have HS1_ := (hb.cell (World.block_lt_of_cell? _ _ (hHeld.2.1))).trans (hHeld.2.1)
                   have HS2_ := (hb.cell (World.block_lt_of_cell? _ _ (hHeld.2.2.1))).trans (hHeld.2.2.1)
                   have HS3_ := (hb.cell (World.block_lt_of_cell? _ _ (hHeld.2.2.2.1))).trans (hHeld.2.2.2.1)
                   have HS4_ := (hb.cell (World.block_lt_of_cell? _ _ (hHeld.2.2.2.2.1))).trans (hHeld.2.2.2.2.1)
                   have HS5_ := (hb.cell (World.block_lt_of_cell? _ _ (hHeld.2.2.2.2.2.1))).trans (hHeld.2.2.2.2.2.1)
                   have HS6_ := (hb.cell (World.block_lt_of_cell? _ _ (hHeld.2.2.2.2.2.2.1))).trans (hHeld.2.2.2.2.2.2.1)
                   have HS7_ := (hb.cell (World.block_lt_of_cell? _ _ (hHeld.2.2.2.2.2.2.2.1))).trans (hHeld.2.2.2.2.2.2.2.1)
                   have HS8_ := (hb.cell (World.block_lt_of_cell? _ _ (hHeld.2.2.2.2.2.2.2.2.1))).trans (hHeld.2.2.2.2.2.2.2.2.1)
                   have HS9_ := (hb.cell (World.block_lt_of_cell? _ _ (hHeld.2.2.2.2.2.2.2.2.2.1))).trans (hHeld.2.2.2.2.2.2.2.2.2.1)
                   have HS10_ := (hb.cell (World.block_lt_of_cell? _ _ (hHeld.2.2.2.2.2.2.2.2.2.2.1))).trans (hHeld.2.2.2.2.2.2.2.2.2.2.1)
                   have HS11_ := (hb.cell (World.block_lt_of_cell? _ _ (hHeld.2.2.2.2.2.2.2.2.2.2.2))).trans (hHeld.2.2.2.2.2.2.2.2.2.2.2)
                   refine ⟨_, rfl, ?_⟩
                   replace HO_10 := qrb_ HO_10 hb
                   replace HO_13 := qrb_ HO_13 hb
                   replace HB := qbs_ hb
                   (try clear hb)
                   (try clear hb2)
                   (try clear hk)
                   (try clear hi)
                   refine hK.out _ _ ⟨HS0_, HS1_, HS2_, HS3_, HS4_, HS5_, HS6_, HS7_, HS8_, HS9_, HS10_, HS11_⟩ (fun hHeld => ?_)
                   clear hK K
                   refine a3r (a' := ?_) ?_ ?_
                   rotate_left
                   ·show Act.put _ (some 77) _ = _
                    exact qp_
                   refine qpu_ 9 (some 16) #[o_,o_,o_,o_,o_,o_,o_,o_,o_,o_] ?_
                   refine a3w (a3i HT_.out (by kernel_rfl)) ?_
                   try go_wp2
                   go_roundg k5
                   case measure => have := HJ4.out; have := HK2.out; have := HK3.out; have := HJ25.out; have := HK5.out; omega
                   case rel => exact ⟨(x15_5), (wrap64 (x15_5 + 1)), qs_, qs_, H', ⟨by have := HJ4.out; have := HK2.out; have := HK3.out; have := HJ25.out; have := HK5.out; omega⟩, ⟨by (with_reducible repeat (first | apply Kd.a1b | apply Kd.a1c | apply Kd.a0z)); exact HO_10.out⟩, ⟨by (with_reducible repeat (first | apply Kd.a1b | apply Kd.a1c | apply Kd.a0z)); exact HO_13.out⟩, ⟨qb_⟩⟩
                  ·replace c36 := be_ c36
                   subst c36
                   have H1 : (a0e.l2 k5 x2_3 x10_3 x13_3 x14_5 (wrap64 (x15_5 + 1))) = some (r1, r2, r3) := by rw [if_neg (show ¬ (false = true) by decide)] at H; exact H
                   clear H
                   have H := H1
                   clear H1
                   have H' := am_ H
                   clear H
                   obtain ⟨Ao40, co40, eo40⟩ := Kd.a1w HO_10.out
                   subst eo40
                   try go_wp2
                   replace HO_10 := am_ (Kd.a0z HO_10.out)
                   replace HO_13 := am_ (Kd.a0z HO_13.out)
                   replace HB := am_ (ld_ HB.out)
                   have p413 : 0 ≤ (x15_5 : Int) := ot_
                   have q413 : x15_5 < (x10_3.length : Int) := ot_
                   obtain ⟨ad413, e413, hx413_0, hx413_1, hx413_2, hx413_3, hx413_4, hx413_5⟩ := a3c (Kd.a0v HO_10.out).2.2 x15_5 p413 q413
                   cases e413
                   replace p413 := eq_true p413
                   replace q413 := eq_true q413
                   have p414 : 0 ≤ (x14_5 : Int) := ot_
                   have q414 : x14_5 < (x10_3.length : Int) := ot_
                   obtain ⟨ad414, e414, hx414_0, hx414_1, hx414_2, hx414_3, hx414_4, hx414_5⟩ := a3c (Kd.a0v HO_10.out).2.2 x14_5 p414 q414
                   obtain rfl : ad413 = ad414 := (by injection e414)
                   replace p414 := eq_true p414
                   replace q414 := eq_true q414
                   refine a3l (n := 10) (S := fun w' => w'.cell? (ad413.add ((x15_5).toNat * 6)) = some (.int .i64 ((a0a x10_3 x15_5).f0)) ∧ w'.cell? ⟨(ad413.add ((x15_5).toNat * 6)).block, (ad413.add ((x15_5).toNat * 6)).off + 1, none⟩ = some (.int .i64 ((a0a x10_3 x15_5).f1)) ∧ w'.cell? ⟨(ad413.add ((x15_5).toNat * 6)).block, (ad413.add ((x15_5).toNat * 6)).off + 2, none⟩ = some (.int .i64 ((a0a x10_3 x15_5).f2)) ∧ w'.cell? ⟨(ad413.add ((x15_5).toNat * 6)).block, (ad413.add ((x15_5).toNat * 6)).off + 3, none⟩ = some (.int .i64 ((a0a x10_3 x15_5).f3)) ∧ w'.cell? ⟨(ad413.add ((x15_5).toNat * 6)).block, (ad413.add ((x15_5).toNat * 6)).off + 4, none⟩ = some (.int .i64 ((a0a x10_3 x15_5).f4.f0)) ∧ w'.cell? ⟨(ad413.add ((x15_5).toNat * 6)).block, (ad413.add ((x15_5).toNat * 6)).off + 5, none⟩ = some (.int .i64 ((a0a x10_3 x15_5).f4.f1)) ∧ w'.cell? (ad413.add ((x14_5).toNat * 6)) = some (.int .i64 ((a0a x10_3 x14_5).f0)) ∧ w'.cell? ⟨(ad413.add ((x14_5).toNat * 6)).block, (ad413.add ((x14_5).toNat * 6)).off + 1, none⟩ = some (.int .i64 ((a0a x10_3 x14_5).f1)) ∧ w'.cell? ⟨(ad413.add ((x14_5).toNat * 6)).block, (ad413.add ((x14_5).toNat * 6)).off + 2, none⟩ = some (.int .i64 ((a0a x10_3 x14_5).f2)) ∧ w'.cell? ⟨(ad413.add ((x14_5).toNat * 6)).block, (ad413.add ((x14_5).toNat * 6)).off + 3, none⟩ = some (.int .i64 ((a0a x10_3 x14_5).f3)) ∧ w'.cell? ⟨(ad413.add ((x14_5).toNat * 6)).block, (ad413.add ((x14_5).toNat * 6)).off + 4, none⟩ = some (.int .i64 ((a0a x10_3 x14_5).f4.f0)) ∧ w'.cell? ⟨(ad413.add ((x14_5).toNat * 6)).block, (ad413.add ((x14_5).toNat * 6)).off + 5, none⟩ = some (.int .i64 ((a0a x10_3 x14_5).f4.f1))) (ds := []) #[i_,i_,i_,i_,i_,i_,i_,i_,i_,i_] (by kernel_rfl) rfl rfl ⟨hx413_0, hx413_1, hx413_2, hx413_3, hx413_4, hx413_5, hx414_0, hx414_1, hx414_2, hx414_3, hx414_4, hx414_5⟩ (fun hHeld => ?_); refine a2u a0e.b6y a0e.b5m (fun HT_ HW_ => ?_)
                   generalize wr.drew = w41 at HO_10 HO_13 HB hx413_0 hx413_1 hx413_2 hx413_3 hx413_4 hx413_5 hx414_0 hx414_1 hx414_2 hx414_3 hx414_4 hx414_5 hHeld ⊢
                   refine qpu_ 0 (some 69) #[o_,i_,i_,i_,i_,i_,i_,i_,i_,i_] ?_
                   refine qpu_ 1 (some 70) #[o_,o_,i_,i_,i_,i_,i_,i_,i_,i_] ?_
                   refine qpu_ 2 (some 71) #[o_,o_,o_,i_,i_,i_,i_,i_,i_,i_] ?_
                   refine qpu_ 4 (some 73) #[o_,o_,o_,i_,o_,i_,i_,i_,i_,i_] ?_
                   refine qpu_ 5 (some 74) #[o_,o_,o_,i_,o_,o_,i_,i_,i_,i_] ?_
                   refine qpu_ 6 (some 75) #[o_,o_,o_,i_,o_,o_,o_,i_,i_,i_] ?_
                   refine a2o (i := 3) (N := some 72) (v := ?_) (a' := ?_) #[o_,o_,o_,o_,o_,o_,o_,i_,i_,i_] rfl rfl (a2c HT_.out HW_.out (by kernel_rfl)) (fun _ _ _ h => h) (Or.inl ⟨by rfl, ?_⟩) hHeld ?_ ?_
                   rotate_left
                   ·rintro w' ⟨s0, s1, s2, s3, s4, s5, s6, s7, s8, s9, s10, s11⟩
                    go_simp
                    with_reducible rfl
                   rotate_left
                   ·exact qp_
                   refine a2o (i := 7) (N := some 76) (v := ?_) (a' := ?_) #[o_,o_,o_,o_,o_,o_,o_,o_,i_,i_] rfl rfl (a2c HT_.out HW_.out (by kernel_rfl)) (fun _ _ _ h => h) (Or.inl ⟨by rfl, ?_⟩) hHeld ?_ ?_
                   rotate_left
                   ·rintro w' ⟨s0, s1, s2, s3, s4, s5, s6, s7, s8, s9, s10, s11⟩
                    go_simp
                    with_reducible rfl
                   rotate_left
                   ·exact qp_
                   refine one_ (i := 8) (N := some 77) #[o_,o_,o_,o_,o_,o_,o_,o_,o_,i_] rfl rfl (a3b HT_.out (by kernel_rfl)) (by decide) (fun K hK => ?_)
                   refine a5p Try.func14 (by kernel_rfl) rfl #[.agg #[.int .i64 ((a0a x10_3 x15_5).f0), .int .i64 ((a0a x10_3 x15_5).f1), .int .i64 ((a0a x10_3 x15_5).f2), .int .i64 ((a0a x10_3 x15_5).f3), .int .i64 ((a0a x10_3 x15_5).f4.f0), .int .i64 ((a0a x10_3 x15_5).f4.f1)], .agg #[.int .i64 ((a0a x10_3 x14_5).f0), .int .i64 ((a0a x10_3 x14_5).f1), .int .i64 ((a0a x10_3 x14_5).f2), .int .i64 ((a0a x10_3 x14_5).f3), .int .i64 ((a0a x10_3 x14_5).f4.f0), .int .i64 ((a0a x10_3 x14_5).f4.f1)]] (by rfl) rfl rfl ql_ ?_
                   with_reducible refine (a3j.calls ((a0a x10_3 x15_5).f0) ((a0a x10_3 x15_5).f1) ((a0a x10_3 x15_5).f2) ((a0a x10_3 x15_5).f3) ((a0a x10_3 x15_5).f4.f0) ((a0a x10_3 x15_5).f4.f1) ((a0a x10_3 x14_5).f0) ((a0a x10_3 x14_5).f1) ((a0a x10_3 x14_5).f2) ((a0a x10_3 x14_5).f3) ((a0a x10_3 x14_5).f4.f0) ((a0a x10_3 x14_5).f4.f1) false _ A35.out).mono ?_
                   rintro e w42 ⟨rfl, hb⟩
                   have HS0_ := (hb.cell (World.block_lt_of_cell? _ _ (hHeld.1))).trans (hHeld.1)
                   have HS1_ := (hb.cell (World.block_lt_of_cell? _ _ (hHeld.2.1))).trans (hHeld.2.1)
                   have HS2_ := (hb.cell (World.block_lt_of_cell? _ _ (hHeld.2.2.1))).trans (hHeld.2.2.1)
                   have HS3_ := (hb.cell (World.block_lt_of_cell? _ _ (hHeld.2.2.2.1))).trans (hHeld.2.2.2.1)
                   have HS4_ := (hb.cell (World.block_lt_of_cell? _ _ (hHeld.2.2.2.2.1))).trans (hHeld.2.2.2.2.1)
                   have HS5_ := (hb.cell (World.block_lt_of_cell? _ _ (hHeld.2.2.2.2.2.1))).trans (hHeld.2.2.2.2.2.1)
                   have HS6_ := (hb.cell (World.block_lt_of_cell? _ _ (hHeld.2.2.2.2.2.2.1))).trans (hHeld.2.2.2.2.2.2.1)
                   have HS7_ := (hb.cell (World.block_lt_of_cell? _ _ (hHeld.2.2.2.2.2.2.2.1))).trans (hHeld.2.2.2.2.2.2.2.1)
                   have HS8_ := (hb.cell (World.block_lt_of_cell? _ _ (hHeld.2.2.2.2.2.2.2.2.1))).trans (hHeld.2.2.2.2.2.2.2.2.1)
                   have HS9_ := (hb.cell (World.block_lt_of_cell? _ _ (hHeld.2.2.2.2.2.2.2.2.2.1))).trans (hHeld.2.2.2.2.2.2.2.2.2.1)
                   have HS10_ := (hb.cell (World.block_lt_of_cell? _ _ (hHeld.2.2.2.2.2.2.2.2.2.2.1))).trans (hHeld.2.2.2.2.2.2.2.2.2.2.1)
                   have HS11_ := (hb.cell (World.block_lt_of_cell? _ _ (hHeld.2.2.2.2.2.2.2.2.2.2.2))).trans (hHeld.2.2.2.2.2.2.2.2.2.2.2)
                   refine ⟨_, rfl, ?_⟩
                   replace HO_10 := qrb_ HO_10 hb
                   replace HO_13 := qrb_ HO_13 hb
                   replace HB := qbs_ hb
                   (try clear hb)
                   (try clear hb2)
                   (try clear hk)
                   (try clear hi)
                   refine hK.out _ _ ⟨HS0_, HS1_, HS2_, HS3_, HS4_, HS5_, HS6_, HS7_, HS8_, HS9_, HS10_, HS11_⟩ (fun hHeld => ?_)
                   clear hK K
                   refine a3r (a' := ?_) ?_ ?_
                   rotate_left
                   ·show Act.put _ (some 77) _ = _
                    exact qp_
                   refine qpu_ 9 (some 16) #[o_,o_,o_,o_,o_,o_,o_,o_,o_,o_] ?_
                   refine a3w (a3i HT_.out (by kernel_rfl)) ?_
                   try go_wp2
                   go_roundg k5
                   case measure => have := HJ4.out; have := HK2.out; have := HK3.out; have := HJ25.out; have := HK5.out; omega
                   case rel => exact ⟨(x14_5), (wrap64 (x15_5 + 1)), qs_, qs_, H', ⟨by have := HJ4.out; have := HK2.out; have := HK3.out; have := HJ25.out; have := HK5.out; omega⟩, ⟨by (with_reducible repeat (first | apply Kd.a1b | apply Kd.a1c | apply Kd.a0z)); exact HO_10.out⟩, ⟨by (with_reducible repeat (first | apply Kd.a1b | apply Kd.a1c | apply Kd.a0z)); exact HO_13.out⟩, ⟨qb_⟩⟩
                 ·rw [if_neg c34] at H
                  exact absurd H (by simp)
                ·rw [if_neg c33] at H
                 exact absurd H (by simp)
               ·rw [if_neg c32] at H
                exact absurd H (by simp)
              ·rw [if_neg c31] at H
               have c31b0 : decide (x15_5 < (x10_3.length : Int)) = false := decide_eq_false c31
               clear c31
               by_cases c43 : 0 ≤ x14_5
               ·rw [if_pos c43] at H
                have c43b0 : decide (0 ≤ x14_5) = true := decide_eq_true c43
                clear c43
                by_cases c44 : x14_5 < (x10_3.length : Int)
                ·rw [if_pos c44] at H
                 have c44b0 : decide (x14_5 < (x10_3.length : Int)) = true := decide_eq_true c44
                 clear c44
                 obtain ⟨ji45, hji45⟩ : ∃ j_ : Int, (mn ((a0a x10_3 x14_5).f3) x2_3) = j_ := ⟨_, rfl⟩
                 replace H : (if x13_3.length < 2932031007402 then ((some (([] : List (S30)) : List (S30))).bind fun y396 => (if x14_5 ≤ (x10_3.length : Int) then ((some (x10_3.take (x14_5 : Int).toNat : List (S30))).bind fun y399 => (if y396.length + y399.length < 2932031007402 then ((some (y396 ++ y399 : List (S30))).bind fun y403 => (if 0 ≤ (wrap64 (x14_5 + 1)) then (if (wrap64 (x14_5 + 1)) ≤ (x10_3.length : Int) then ((some (x10_3.drop ((wrap64 (x14_5 + 1)) : Int).toNat : List (S30))).bind fun y406 => (if y403.length + y406.length < 2932031007402 then (a0e.l1 k5 (wrap64 (x2_3 - (ji45))) (y403 ++ y406) (x13_3 ++ [(⟨(a0a x10_3 x14_5).f0, (a0a x10_3 x14_5).f1, (a0a x10_3 x14_5).f2, ji45, (⟨(a0a x10_3 x14_5).f4.f0, (a0a x10_3 x14_5).f4.f1⟩ : S28)⟩ : S30)])) else (none))) else (none)) else (none))) else (none))) else (none))) else (none)) = some (r1, r2, r3) := by first | (rw [hji45] at H; exact H) | (simp only [hji45] at H ⊢; exact H)
                 have hji45_ : (if x2_3 < ((a0a x10_3 x14_5).f3) then x2_3 else ((a0a x10_3 x14_5).f3)) = ji45 := hji45
                 by_cases c46 : x13_3.length < 2932031007402
                 ·rw [if_pos c46] at H
                  have LMc46 := am_ c46
                  clear c46
                  obtain ⟨y393, hy393⟩ : ∃ y_ : List (S30), y_ = (x13_3 ++ [(⟨(a0a x10_3 x14_5).f0, (a0a x10_3 x14_5).f1, (a0a x10_3 x14_5).f2, ji45, (⟨(a0a x10_3 x14_5).f4.f0, (a0a x10_3 x14_5).f4.f1⟩ : S28)⟩ : S30)]) := ⟨_, rfl⟩
                  replace H : ((some (([] : List (S30)) : List (S30))).bind fun y396 => (if x14_5 ≤ (x10_3.length : Int) then ((some (x10_3.take (x14_5 : Int).toNat : List (S30))).bind fun y399 => (if y396.length + y399.length < 2932031007402 then ((some (y396 ++ y399 : List (S30))).bind fun y403 => (if 0 ≤ (wrap64 (x14_5 + 1)) then (if (wrap64 (x14_5 + 1)) ≤ (x10_3.length : Int) then ((some (x10_3.drop ((wrap64 (x14_5 + 1)) : Int).toNat : List (S30))).bind fun y406 => (if y403.length + y406.length < 2932031007402 then (a0e.l1 k5 (wrap64 (x2_3 - (ji45))) (y403 ++ y406) y393) else (none))) else (none)) else (none))) else (none))) else (none))) = some (r1, r2, r3) := by first | (rw [hy393]; with_reducible exact H) | (have H2_ := (Option.bind_some _ _).symm.trans H; rw [hy393]; with_reducible exact H2_) | (have H2_ := (Option.bind_some _ _).symm.trans H; with_reducible exact H2_) | with_reducible exact H | (rw [hy393]; exact H) | exact H
                  have Ny393 := am_ hy393
                  clear hy393
                  obtain ⟨y396, hy396⟩ : ∃ y_ : List (S30), y_ = (([] : List (S30))) := ⟨_, rfl⟩
                  replace H : (if x14_5 ≤ (x10_3.length : Int) then ((some (x10_3.take (x14_5 : Int).toNat : List (S30))).bind fun y399 => (if y396.length + y399.length < 2932031007402 then ((some (y396 ++ y399 : List (S30))).bind fun y403 => (if 0 ≤ (wrap64 (x14_5 + 1)) then (if (wrap64 (x14_5 + 1)) ≤ (x10_3.length : Int) then ((some (x10_3.drop ((wrap64 (x14_5 + 1)) : Int).toNat : List (S30))).bind fun y406 => (if y403.length + y406.length < 2932031007402 then (a0e.l1 k5 (wrap64 (x2_3 - (ji45))) (y403 ++ y406) y393) else (none))) else (none)) else (none))) else (none))) else (none)) = some (r1, r2, r3) := by first | (rw [hy396]; with_reducible exact H) | (have H2_ := (Option.bind_some _ _).symm.trans H; rw [hy396]; with_reducible exact H2_) | (have H2_ := (Option.bind_some _ _).symm.trans H; with_reducible exact H2_) | with_reducible exact H | (rw [hy396]; exact H) | exact H
                  have Ny396 := am_ hy396
                  clear hy396
                  have c47b0 := eq_true (ot_ : 0 ≤ x14_5)
                  by_cases c48 : x14_5 ≤ (x10_3.length : Int)
                  ·rw [if_pos c48] at H
                   have c48b0 := eq_true c48
                   have c48b1 : decide (x14_5 ≤ (x10_3.length : Int)) = true := decide_eq_true c48
                   clear c48
                   obtain ⟨y399, hy399⟩ : ∃ y_ : List (S30), y_ = (x10_3.take (x14_5 : Int).toNat) := ⟨_, rfl⟩
                   replace H : (if y396.length + y399.length < 2932031007402 then ((some (y396 ++ y399 : List (S30))).bind fun y403 => (if 0 ≤ (wrap64 (x14_5 + 1)) then (if (wrap64 (x14_5 + 1)) ≤ (x10_3.length : Int) then ((some (x10_3.drop ((wrap64 (x14_5 + 1)) : Int).toNat : List (S30))).bind fun y406 => (if y403.length + y406.length < 2932031007402 then (a0e.l1 k5 (wrap64 (x2_3 - (ji45))) (y403 ++ y406) y393) else (none))) else (none)) else (none))) else (none)) = some (r1, r2, r3) := by first | (rw [hy399]; with_reducible exact H) | (have H2_ := (Option.bind_some _ _).symm.trans H; rw [hy399]; with_reducible exact H2_) | (have H2_ := (Option.bind_some _ _).symm.trans H; with_reducible exact H2_) | with_reducible exact H | (rw [hy399]; exact H) | exact H
                   have Ny399 := am_ hy399
                   clear hy399
                   by_cases c49 : y396.length + y399.length < 2932031007402
                   ·rw [if_pos c49] at H
                    have LMc49 := am_ c49
                    clear c49
                    obtain ⟨y403, hy403⟩ : ∃ y_ : List (S30), y_ = (y396 ++ y399) := ⟨_, rfl⟩
                    replace H : (if 0 ≤ (wrap64 (x14_5 + 1)) then (if (wrap64 (x14_5 + 1)) ≤ (x10_3.length : Int) then ((some (x10_3.drop ((wrap64 (x14_5 + 1)) : Int).toNat : List (S30))).bind fun y406 => (if y403.length + y406.length < 2932031007402 then (a0e.l1 k5 (wrap64 (x2_3 - (ji45))) (y403 ++ y406) y393) else (none))) else (none)) else (none)) = some (r1, r2, r3) := by first | (rw [hy403]; with_reducible exact H) | (have H2_ := (Option.bind_some _ _).symm.trans H; rw [hy403]; with_reducible exact H2_) | (have H2_ := (Option.bind_some _ _).symm.trans H; with_reducible exact H2_) | with_reducible exact H | (rw [hy403]; exact H) | exact H
                    have Ny403 := am_ hy403
                    clear hy403
                    obtain ⟨ji50, hji50⟩ : ∃ j_ : Int, (wrap64 (x14_5 + 1)) = j_ := ⟨_, rfl⟩
                    replace H : (if 0 ≤ (ji50) then (if (ji50) ≤ (x10_3.length : Int) then ((some (x10_3.drop ((ji50) : Int).toNat : List (S30))).bind fun y406 => (if y403.length + y406.length < 2932031007402 then (a0e.l1 k5 (wrap64 (x2_3 - (ji45))) (y403 ++ y406) y393) else (none))) else (none)) else (none)) = some (r1, r2, r3) := by first | (rw [hji50] at H; exact H) | (simp only [hji50] at H ⊢; exact H)
                    have hji50w : (IntKind.i64.wrap (x14_5 + 1)) = ji50 := (a2x _).trans hji50
                    by_cases c51 : 0 ≤ (ji50)
                    ·rw [if_pos c51] at H
                     have c51b0 := eq_true c51
                     have c51b1 : decide (0 ≤ (ji50)) = true := decide_eq_true c51
                     clear c51
                     by_cases c52 : (ji50) ≤ (x10_3.length : Int)
                     ·rw [if_pos c52] at H
                      have c52b0 := eq_true c52
                      have c52b1 : decide ((ji50) ≤ (x10_3.length : Int)) = true := decide_eq_true c52
                      clear c52
                      obtain ⟨y406, hy406⟩ : ∃ y_ : List (S30), y_ = (x10_3.drop ((ji50) : Int).toNat) := ⟨_, rfl⟩
                      replace H : (if y403.length + y406.length < 2932031007402 then (a0e.l1 k5 (wrap64 (x2_3 - (ji45))) (y403 ++ y406) y393) else (none)) = some (r1, r2, r3) := by first | (rw [hy406]; with_reducible exact H) | (have H2_ := (Option.bind_some _ _).symm.trans H; rw [hy406]; with_reducible exact H2_) | (have H2_ := (Option.bind_some _ _).symm.trans H; with_reducible exact H2_) | with_reducible exact H | (rw [hy406]; exact H) | exact H
                      have Ny406 := am_ hy406
                      clear hy406
                      by_cases c53 : y403.length + y406.length < 2932031007402
                      ·rw [if_pos c53] at H
                       have LMc53 := am_ c53
                       clear c53
                       obtain ⟨y410, hy410⟩ : ∃ y_ : List (S30), y_ = (y403 ++ y406) := ⟨_, rfl⟩
                       replace H : (a0e.l1 k5 (wrap64 (x2_3 - (ji45))) y410 y393) = some (r1, r2, r3) := by first | (rw [hy410]; with_reducible exact H) | (have H2_ := (Option.bind_some _ _).symm.trans H; rw [hy410]; with_reducible exact H2_) | (have H2_ := (Option.bind_some _ _).symm.trans H; with_reducible exact H2_) | with_reducible exact H | (rw [hy410]; exact H) | exact H
                       have Ny410 := am_ hy410
                       clear hy410
                       have H' := am_ H
                       clear H
                       obtain ⟨Ao54, co54, eo54⟩ := Kd.a1w HO_10.out
                       subst eo54
                       have p391 : 0 ≤ (x14_5 : Int) := ot_
                       have q391 : x14_5 < (x10_3.length : Int) := ot_
                       obtain ⟨ad391, e391, hx391_0, hx391_1, hx391_2, hx391_3, hx391_4, hx391_5⟩ := a3c (Kd.a0v HO_10.out).2.2 x14_5 p391 q391
                       cases e391
                       replace p391 := eq_true p391
                       replace q391 := eq_true q391
                       try go_wp2_with (first | ((with_reducible refine b4j rfl ?_); refine b3c rfl rfl rfl rfl hji45_ ?_) | ((with_reducible refine a1m (N := 91) rfl ?_); refine b2g rfl rfl rfl rfl Try.underlying3 (.int .i64 ji45) (cell_of_row _ _ 3 #[.int .i64 ((a0a x10_3 x14_5).f0), .int .i64 ((a0a x10_3 x14_5).f1), .int .i64 ((a0a x10_3 x14_5).f2), .int .i64 ji45, .int .i64 ((a0a x10_3 x14_5).f4.f0), .int .i64 ((a0a x10_3 x14_5).f4.f1)] 30 _ (by refine qd_ ?_; refine a0u (cs := #[.int .i64 ((a0a x10_3 x14_5).f0), .int .i64 ((a0a x10_3 x14_5).f1), .int .i64 ((a0a x10_3 x14_5).f2), .int .i64 ((a0a x10_3 x14_5).f3), .int .i64 ((a0a x10_3 x14_5).f4.f0), .int .i64 ((a0a x10_3 x14_5).f4.f1)]) ?_ 3 _ rfl; refine qd_ ?_; refine a0u (cs := #[.int .i64 ((a0a x10_3 x14_5).f0), .int .i64 ((a0a x10_3 x14_5).f1), .int .i64 ((a0a x10_3 x14_5).f2), .int .i64 ((a0a x10_3 x14_5).f3), .int .i64 ((a0a x10_3 x14_5).f4.f0), .int .i64 0]) ?_ 5 _ rfl; refine qd_ ?_; refine a0u (cs := #[.int .i64 ((a0a x10_3 x14_5).f0), .int .i64 ((a0a x10_3 x14_5).f1), .int .i64 ((a0a x10_3 x14_5).f2), .int .i64 ((a0a x10_3 x14_5).f3), .int .i64 0, .int .i64 0]) ?_ 4 _ rfl; refine qd_ ?_; refine a0u (cs := #[.int .i64 ((a0a x10_3 x14_5).f0), .int .i64 ((a0a x10_3 x14_5).f1), .int .i64 ((a0a x10_3 x14_5).f2), .int .i64 0, .int .i64 0, .int .i64 0]) ?_ 3 _ rfl; refine qd_ ?_; refine a0u (cs := #[.int .i64 ((a0a x10_3 x14_5).f0), .int .i64 ((a0a x10_3 x14_5).f1), .int .i64 0, .int .i64 0, .int .i64 0, .int .i64 0]) ?_ 2 _ rfl; refine qd_ ?_; refine a0u (cs := #[.int .i64 ((a0a x10_3 x14_5).f0), .int .i64 0, .int .i64 0, .int .i64 0, .int .i64 0, .int .i64 0]) ?_ 1 _ rfl; refine qd_ ?_; refine a0u (cs := #[.int .i64 0, .int .i64 0, .int .i64 0, .int .i64 0, .int .i64 0, .int .i64 0]) ?_ 0 _ rfl; refine qd_ ?_; exact BK392.out)) ?_) | ((with_reducible refine a1m (N := 94) rfl ?_); refine wpList_load_row rfl 30 _ rfl gb392 rfl 30 #[.int .i64 ((a0a x10_3 x14_5).f0), .int .i64 ((a0a x10_3 x14_5).f1), .int .i64 ((a0a x10_3 x14_5).f2), .int .i64 ji45, .int .i64 ((a0a x10_3 x14_5).f4.f0), .int .i64 ((a0a x10_3 x14_5).f4.f1)] (0, 0) _ (by refine qd_ ?_; refine a0u (cs := #[.int .i64 ((a0a x10_3 x14_5).f0), .int .i64 ((a0a x10_3 x14_5).f1), .int .i64 ((a0a x10_3 x14_5).f2), .int .i64 ((a0a x10_3 x14_5).f3), .int .i64 ((a0a x10_3 x14_5).f4.f0), .int .i64 ((a0a x10_3 x14_5).f4.f1)]) ?_ 3 _ rfl; refine qd_ ?_; refine a0u (cs := #[.int .i64 ((a0a x10_3 x14_5).f0), .int .i64 ((a0a x10_3 x14_5).f1), .int .i64 ((a0a x10_3 x14_5).f2), .int .i64 ((a0a x10_3 x14_5).f3), .int .i64 ((a0a x10_3 x14_5).f4.f0), .int .i64 0]) ?_ 5 _ rfl; refine qd_ ?_; refine a0u (cs := #[.int .i64 ((a0a x10_3 x14_5).f0), .int .i64 ((a0a x10_3 x14_5).f1), .int .i64 ((a0a x10_3 x14_5).f2), .int .i64 ((a0a x10_3 x14_5).f3), .int .i64 0, .int .i64 0]) ?_ 4 _ rfl; refine qd_ ?_; refine a0u (cs := #[.int .i64 ((a0a x10_3 x14_5).f0), .int .i64 ((a0a x10_3 x14_5).f1), .int .i64 ((a0a x10_3 x14_5).f2), .int .i64 0, .int .i64 0, .int .i64 0]) ?_ 3 _ rfl; refine qd_ ?_; refine a0u (cs := #[.int .i64 ((a0a x10_3 x14_5).f0), .int .i64 ((a0a x10_3 x14_5).f1), .int .i64 0, .int .i64 0, .int .i64 0, .int .i64 0]) ?_ 2 _ rfl; refine qd_ ?_; refine a0u (cs := #[.int .i64 ((a0a x10_3 x14_5).f0), .int .i64 0, .int .i64 0, .int .i64 0, .int .i64 0, .int .i64 0]) ?_ 1 _ rfl; refine qd_ ?_; refine a0u (cs := #[.int .i64 0, .int .i64 0, .int .i64 0, .int .i64 0, .int .i64 0, .int .i64 0]) ?_ 0 _ rfl; refine qd_ ?_; exact BK392.out) Try.underlying30 rfl (by kernel_rfl) ?_) | ((with_reducible refine a1m (N := 17) rfl ?_); refine qev_ 17 #[.int .i64 0, .int .i64 0, .int .i64 0, .int .i64 0, .int .i64 0, .int .i64 0] 30 ?_; intro gb392 hg w55 hbox hb; replace HO_10 := am_ (Kd.a3z (Kd.a5d (qr_ HO_10) gb392 (Nat.le_of_eq hg.symm)) hb); replace HO_13 := am_ (Kd.a3z (Kd.a5d (qr_ HO_13) gb392 (Nat.le_of_eq hg.symm)) hb); have BK392 := am_ (hbox); have GW392 := qga_ hg; have GE392 := qga_ hg; replace HB := qbs_ hb; clear hb hbox hg; obtain ⟨z'56_0, z'56_1, z'56_2, z'56_3, z'56_4, z'56_5⟩ := qz6_ BK392; obtain ⟨y'56_0, y'56_1, y'56_2, y'56_3, y'56_4, y'56_5⟩ := qf6_ BK392) | ((with_reducible refine a5a (b := .append) (xs := #[.tmp 93, .tmp 95]) rfl ?_); at_builtin; refine Kd.a5z k30 (w0 := w) w.heap.size rfl (.tmp 93) (.tmp 95) 22 30 (.agg #[(.int .i64 0), (.int .i64 0), (.int .i64 0), (.int .i64 0), (.int .i64 0), (.int .i64 0)]) 48 rfl Try.underlying22 a4w rfl (by decide) (by omega) u13 x13_3 (⟨(a0a x10_3 x14_5).f0, (a0a x10_3 x14_5).f1, (a0a x10_3 x14_5).f2, ji45, (⟨(a0a x10_3 x14_5).f4.f0, (a0a x10_3 x14_5).f4.f1⟩ : S28)⟩ : S30) [.int .i64 ((a0a x10_3 x14_5).f0), .int .i64 ((a0a x10_3 x14_5).f1), .int .i64 ((a0a x10_3 x14_5).f2), .int .i64 ji45, .int .i64 ((a0a x10_3 x14_5).f4.f0), .int .i64 ((a0a x10_3 x14_5).f4.f1)] (fun k_ => some k_ ≠ (.slice (some ad391) x10_3.length co54 : Value).ownBlock ∧ k_ ≠ gb392) (fun _ => False) rfl (by first | (go_simp; done) | (go_simp; rfl)) ?aP (fun _ hk => hk.elim) ?aF ?aO ?aB ?aS ?aL ?_; (case aP => exact a5j _ _ _ (⟨(a0a x10_3 x14_5).f0, (a0a x10_3 x14_5).f1, (a0a x10_3 x14_5).f2, ji45, (⟨(a0a x10_3 x14_5).f4.f0, (a0a x10_3 x14_5).f4.f1⟩ : S28)⟩ : S30)); (case aB => exact qb_); (case aF => exact (fun k_ hk => ⟨Kd.fresh' (Kd.R_lt (by (with_reducible repeat (first | apply Kd.a1b | apply Kd.a1c | apply Kd.a0z)); exact (Kd.a1s (Kd.a1k (p := ⟨gb392, 3, none⟩) (Kd.a1k (p := ⟨gb392, 5, none⟩) (Kd.a1k (p := ⟨gb392, 4, none⟩) (Kd.a1k (p := ⟨gb392, 3, none⟩) (Kd.a1k (p := ⟨gb392, 2, none⟩) (Kd.a1k (p := ⟨gb392, 1, none⟩) (Kd.a1k (p := ⟨gb392, 0, none⟩) (Kd.a1s HO_10.out (fun k_ hk => (⟨hk, hk.2⟩ : _ ∧ k_ ≠ gb392))) (fun _ hk => hk.2) (.int .i64 ((a0a x10_3 x14_5).f0))) (fun _ hk => hk.2) (.int .i64 ((a0a x10_3 x14_5).f1))) (fun _ hk => hk.2) (.int .i64 ((a0a x10_3 x14_5).f2))) (fun _ hk => hk.2) (.int .i64 ((a0a x10_3 x14_5).f3))) (fun _ hk => hk.2) (.int .i64 ((a0a x10_3 x14_5).f4.f0))) (fun _ hk => hk.2) (.int .i64 ((a0a x10_3 x14_5).f4.f1))) (fun _ hk => hk.2) (.int .i64 ji45)) (fun _ h_ => h_.1)))) k_ hk, Kd.a8d (g := gb392) (o := .cells #[.int .i64 ((a0a x10_3 x14_5).f0), .int .i64 ((a0a x10_3 x14_5).f1), .int .i64 ((a0a x10_3 x14_5).f2), .int .i64 ji45, .int .i64 ((a0a x10_3 x14_5).f4.f0), .int .i64 ((a0a x10_3 x14_5).f4.f1)] 30 (0, 0)) (by refine qd_ ?_; refine a0u (cs := #[.int .i64 ((a0a x10_3 x14_5).f0), .int .i64 ((a0a x10_3 x14_5).f1), .int .i64 ((a0a x10_3 x14_5).f2), .int .i64 ((a0a x10_3 x14_5).f3), .int .i64 ((a0a x10_3 x14_5).f4.f0), .int .i64 ((a0a x10_3 x14_5).f4.f1)]) ?_ 3 _ rfl; refine qd_ ?_; refine a0u (cs := #[.int .i64 ((a0a x10_3 x14_5).f0), .int .i64 ((a0a x10_3 x14_5).f1), .int .i64 ((a0a x10_3 x14_5).f2), .int .i64 ((a0a x10_3 x14_5).f3), .int .i64 ((a0a x10_3 x14_5).f4.f0), .int .i64 0]) ?_ 5 _ rfl; refine qd_ ?_; refine a0u (cs := #[.int .i64 ((a0a x10_3 x14_5).f0), .int .i64 ((a0a x10_3 x14_5).f1), .int .i64 ((a0a x10_3 x14_5).f2), .int .i64 ((a0a x10_3 x14_5).f3), .int .i64 0, .int .i64 0]) ?_ 4 _ rfl; refine qd_ ?_; refine a0u (cs := #[.int .i64 ((a0a x10_3 x14_5).f0), .int .i64 ((a0a x10_3 x14_5).f1), .int .i64 ((a0a x10_3 x14_5).f2), .int .i64 0, .int .i64 0, .int .i64 0]) ?_ 3 _ rfl; refine qd_ ?_; refine a0u (cs := #[.int .i64 ((a0a x10_3 x14_5).f0), .int .i64 ((a0a x10_3 x14_5).f1), .int .i64 0, .int .i64 0, .int .i64 0, .int .i64 0]) ?_ 2 _ rfl; refine qd_ ?_; refine a0u (cs := #[.int .i64 ((a0a x10_3 x14_5).f0), .int .i64 0, .int .i64 0, .int .i64 0, .int .i64 0, .int .i64 0]) ?_ 1 _ rfl; refine qd_ ?_; refine a0u (cs := #[.int .i64 0, .int .i64 0, .int .i64 0, .int .i64 0, .int .i64 0, .int .i64 0]) ?_ 0 _ rfl; refine qd_ ?_; exact BK392.out) k_ hk⟩)); (case aO => exact (by (with_reducible repeat (first | apply Kd.a1b | apply Kd.a1c | apply Kd.a0z)); exact Kd.a1s (Kd.a1k (p := ⟨gb392, 3, none⟩) (Kd.a1k (p := ⟨gb392, 5, none⟩) (Kd.a1k (p := ⟨gb392, 4, none⟩) (Kd.a1k (p := ⟨gb392, 3, none⟩) (Kd.a1k (p := ⟨gb392, 2, none⟩) (Kd.a1k (p := ⟨gb392, 1, none⟩) (Kd.a1k (p := ⟨gb392, 0, none⟩) (Kd.a1s HO_13.out (fun k_ hk => (⟨hk, hk.2⟩ : _ ∧ k_ ≠ gb392))) (fun _ hk => hk.2) (.int .i64 ((a0a x10_3 x14_5).f0))) (fun _ hk => hk.2) (.int .i64 ((a0a x10_3 x14_5).f1))) (fun _ hk => hk.2) (.int .i64 ((a0a x10_3 x14_5).f2))) (fun _ hk => hk.2) (.int .i64 ((a0a x10_3 x14_5).f3))) (fun _ hk => hk.2) (.int .i64 ((a0a x10_3 x14_5).f4.f0))) (fun _ hk => hk.2) (.int .i64 ((a0a x10_3 x14_5).f4.f1))) (fun _ hk => hk.2) (.int .i64 ji45)) (fun _ hk => ⟨hk.1.1, hk.1.2⟩))); (case aS => exact (a1o qb_)); (case aL => have := LMc46.out; omega); intro v394 w57 ho hb hg hat; rw [← Ny393.out] at ho; replace HO_10 := am_ (Kd.a4n (ok := (fun k_ => k_ ≠ gb392)) (by (with_reducible repeat (first | apply Kd.a1b | apply Kd.a1c | apply Kd.a0z)); exact Kd.a1s (Kd.a1k (p := ⟨gb392, 3, none⟩) (Kd.a1k (p := ⟨gb392, 5, none⟩) (Kd.a1k (p := ⟨gb392, 4, none⟩) (Kd.a1k (p := ⟨gb392, 3, none⟩) (Kd.a1k (p := ⟨gb392, 2, none⟩) (Kd.a1k (p := ⟨gb392, 1, none⟩) (Kd.a1k (p := ⟨gb392, 0, none⟩) (Kd.a1s HO_10.out (fun k_ hk => (⟨hk, hk.2⟩ : _ ∧ k_ ≠ gb392))) (fun _ hk => hk.2) (.int .i64 ((a0a x10_3 x14_5).f0))) (fun _ hk => hk.2) (.int .i64 ((a0a x10_3 x14_5).f1))) (fun _ hk => hk.2) (.int .i64 ((a0a x10_3 x14_5).f2))) (fun _ hk => hk.2) (.int .i64 ((a0a x10_3 x14_5).f3))) (fun _ hk => hk.2) (.int .i64 ((a0a x10_3 x14_5).f4.f0))) (fun _ hk => hk.2) (.int .i64 ((a0a x10_3 x14_5).f4.f1))) (fun _ hk => hk.2) (.int .i64 ji45)) (fun _ hk => ⟨hk.1.2, hk.1.1⟩)) hg hat); replace BK392 := am_ (a3n (g := gb392) (o := .cells #[.int .i64 ((a0a x10_3 x14_5).f0), .int .i64 ((a0a x10_3 x14_5).f1), .int .i64 ((a0a x10_3 x14_5).f2), .int .i64 ji45, .int .i64 ((a0a x10_3 x14_5).f4.f0), .int .i64 ((a0a x10_3 x14_5).f4.f1)] 30 (0, 0)) (by refine qd_ ?_; refine a0u (cs := #[.int .i64 ((a0a x10_3 x14_5).f0), .int .i64 ((a0a x10_3 x14_5).f1), .int .i64 ((a0a x10_3 x14_5).f2), .int .i64 ((a0a x10_3 x14_5).f3), .int .i64 ((a0a x10_3 x14_5).f4.f0), .int .i64 ((a0a x10_3 x14_5).f4.f1)]) ?_ 3 _ rfl; refine qd_ ?_; refine a0u (cs := #[.int .i64 ((a0a x10_3 x14_5).f0), .int .i64 ((a0a x10_3 x14_5).f1), .int .i64 ((a0a x10_3 x14_5).f2), .int .i64 ((a0a x10_3 x14_5).f3), .int .i64 ((a0a x10_3 x14_5).f4.f0), .int .i64 0]) ?_ 5 _ rfl; refine qd_ ?_; refine a0u (cs := #[.int .i64 ((a0a x10_3 x14_5).f0), .int .i64 ((a0a x10_3 x14_5).f1), .int .i64 ((a0a x10_3 x14_5).f2), .int .i64 ((a0a x10_3 x14_5).f3), .int .i64 0, .int .i64 0]) ?_ 4 _ rfl; refine qd_ ?_; refine a0u (cs := #[.int .i64 ((a0a x10_3 x14_5).f0), .int .i64 ((a0a x10_3 x14_5).f1), .int .i64 ((a0a x10_3 x14_5).f2), .int .i64 0, .int .i64 0, .int .i64 0]) ?_ 3 _ rfl; refine qd_ ?_; refine a0u (cs := #[.int .i64 ((a0a x10_3 x14_5).f0), .int .i64 ((a0a x10_3 x14_5).f1), .int .i64 0, .int .i64 0, .int .i64 0, .int .i64 0]) ?_ 2 _ rfl; refine qd_ ?_; refine a0u (cs := #[.int .i64 ((a0a x10_3 x14_5).f0), .int .i64 0, .int .i64 0, .int .i64 0, .int .i64 0, .int .i64 0]) ?_ 1 _ rfl; refine qd_ ?_; refine a0u (cs := #[.int .i64 0, .int .i64 0, .int .i64 0, .int .i64 0, .int .i64 0, .int .i64 0]) ?_ 0 _ rfl; refine qd_ ?_; exact BK392.out) hg (Kd.a8b HO_13.out (fun _ hk => hk.2))); replace HB := am_ (hb); have HO395 := am_ (ho); clear HO_13 ho hb hg hat))
                       replace HO_10 := am_ (Kd.a0z HO_10.out)
                       replace HO395 := am_ (Kd.a0z HO395.out)
                       replace BK392 := am_ (bd_ BK392.out)
                       replace HB := am_ (ld_ HB.out)
                       have q59 : (x14_5 : Int) ≤ ((x10_3.length : Int) : Int) := ot_
                       obtain ⟨i059, hi059, _, hsz59, _⟩ := info_parts a4w
                       have hroom59 : x10_3.length ≤ co54 := (Kd.a0v HO_10.out).2.1
                       have hC59 : Kd.C k30 _ (some ad391) x10_3.length x10_3 := (Kd.a0v HO_10.out).2.2
                       have hcut59 := a6s (P := Try.prog) 22 30 .i64 Try.underlying22 hi059 (some ad391) x10_3.length co54 x14_5 (ot_) q59 hroom59
                       have hr59 := Kd.a5w (m := (x14_5 : Int).toNat) hC59 (by omega)
                       have hy59 : y399.length = (x14_5 : Int).toNat := (by rw [Ny399.out, List.length_take]; omega)
                       rw [← Ny399.out] at hr59
                       rw [← hy59] at hcut59
                       have HR402 := am_ hr59
                       have HC402 := am_ (show y399.length ≤ co54 from by omega)
                       clear hr59 hC59 hroom59 hi059 hsz59
                       have KY59 := am_ hy59
                       clear hy59
                       have KL59 := am_ (show (x14_5 : Int).toNat ≤ x10_3.length from by omega)
                       replace q59 := eq_true q59
                       have q60 : ((ji50) : Int) ≤ ((x10_3.length : Int) : Int) := ot_
                       obtain ⟨i060, hi060, _, hsz60, _⟩ := info_parts a4w
                       have hroom60 : x10_3.length ≤ co54 := (Kd.a0v HO_10.out).2.1
                       have hC60 : Kd.C k30 _ (some ad391) x10_3.length x10_3 := (Kd.a0v HO_10.out).2.2
                       have q060 : (0 : Int) ≤ ((ji50) : Int) := ot_
                       have hcut60 := b5x (P := Try.prog) 22 30 .i64 Try.underlying22 hi060 6 hsz60 (some ad391) x10_3.length co54 (ji50) q060 q60
                       have hr60 := Kd.b1t (m := ((ji50) : Int).toNat) (c := co54) hC60 (by omega) hroom60
                       obtain ⟨A60, hA60⟩ : ∃ A1_, A1_ = (if co54 = ((ji50) : Int).toNat then (some ad391) else ((some ad391) : Option Addr).map (·.add (((ji50) : Int).toNat * 6))) := ⟨_, rfl⟩
                       obtain ⟨c60, hc60⟩ : ∃ c1_, c1_ = co54 - ((ji50) : Int).toNat := ⟨_, rfl⟩
                       have hy60 : y406.length = x10_3.length - ((ji50) : Int).toNat := (by rw [Ny406.out, List.length_drop] <;> omega)
                       rw [show (x10_3).drop ((ji50) : Int).toNat = y406 from Ny406.out.symm] at hr60
                       replace hr60 : Kd.C k30 _ A60 y406.length y406 := (by rw [hA60]; exact hr60)
                       rw [← hy60, ← hA60, ← hc60] at hcut60
                       have HR409 := am_ hr60
                       have HC409 := am_ (show y406.length ≤ c60 from by rw [hy60, hc60]; exact Nat.sub_le_sub_right hroom60 _)
                       clear hr60 hC60 hroom60 hi060 hsz60 hc60
                       have KY60 := am_ hy60
                       have KA60 := am_ hA60
                       clear hy60 hA60
                       have KL60 := am_ (show ((ji50) : Int).toNat ≤ x10_3.length from by omega)
                       replace q60 := eq_true q60
                       refine a3l (n := 11) (S := fun w' => True) (ds := []) #[i_,i_,i_,i_,i_,i_,i_,i_,i_,i_,i_] (by kernel_rfl) rfl rfl trivial (fun hHeld => ?_); refine a2u a0e.b9j a0e.b8k (fun HT_ HW_ => ?_)
                       generalize w57.drew = w58 at HO_10 HO395 BK392 HB HR402 HR409 hHeld ⊢
                       refine qpu_ 1 (some 98) #[i_,o_,i_,i_,i_,i_,i_,i_,i_,i_,i_] ?_
                       refine qpu_ 2 (some 99) #[i_,o_,o_,i_,i_,i_,i_,i_,i_,i_,i_] ?_
                       refine qpu_ 3 (some 100) #[i_,o_,o_,o_,i_,i_,i_,i_,i_,i_,i_] ?_
                       refine qpu_ 5 (some 102) #[i_,o_,o_,o_,i_,o_,i_,i_,i_,i_,i_] ?_
                       refine qpu_ 6 (some 103) #[i_,o_,o_,o_,i_,o_,o_,i_,i_,i_,i_] ?_
                       refine qpu_ 7 (some 104) #[i_,o_,o_,o_,i_,o_,o_,o_,i_,i_,i_] ?_
                       refine qpu_ 8 (some 105) #[i_,o_,o_,o_,i_,o_,o_,o_,o_,i_,i_] ?_
                       refine one_ (i := 0) (N := some 97) #[o_,o_,o_,o_,i_,o_,o_,o_,o_,i_,i_] rfl rfl (a3b HT_.out (by kernel_rfl)) (by decide) (fun K hK => ?_)
                       refine Kd.a9n k30 _ 30 ?hg (N := 97) ?hd (xs := ([] : List (S30))) (inner := []) (ok := fun _ => True) (okp := fun _ => True) ?hr ?hp (fun _ hk => hk) trivial (Below.refl _ _) (Nat.le_refl _) (by simp) ?_; (case hd => rfl); (case hg => rfl); (case hr => exact qq_); (case hp => exact (Reps.none _ _))
                       intro v397 w61 ho62 hb hg_ hnew_
                       clear hg_ hnew_
                       (first | rw [← Ny396.out] at ho62 | (simp only [Int.reduceToNat] at ho62; rw [← Ny396.out] at ho62))
                       have HO398 := am_ (Kd.a2h (Kd.a5x (Kd.a3f (Kd.a3f ho62 (Kd.R_lt (qr_ HO_10))) (Kd.R_lt (qr_ HO395))) (g := gb392) (o := .cells #[.int .i64 ((a0a x10_3 x14_5).f0), .int .i64 ((a0a x10_3 x14_5).f1), .int .i64 ((a0a x10_3 x14_5).f2), .int .i64 ji45, .int .i64 ((a0a x10_3 x14_5).f4.f0), .int .i64 ((a0a x10_3 x14_5).f4.f1)] 30 (0, 0)) (qk_ BK392)) (a1o qb_))
                       replace HO_10 := qel_ HO_10 ho62 hb
                       replace HO395 := qel_ HO395 ho62 hb
                       replace BK392 := qkb_ BK392 hb
                       replace HR402 := am_ (Kd.a5h (by repeat (first | (with_reducible exact HR402.out) | (with_reducible refine Kd.a4a ?_ _) | (with_reducible refine Kd.a4b ?_ _) | (with_reducible refine Kd.a4k ?_) | exact HR402.out)) hb)
                       replace HR409 := am_ (Kd.a5h (by repeat (first | (with_reducible exact HR409.out) | (with_reducible refine Kd.a4a ?_ _) | (with_reducible refine Kd.a4b ?_ _) | (with_reducible refine Kd.a4k ?_) | exact HR409.out)) hb)
                       replace HB := qbs_ hb
                       clear hb ho62
                       refine hK.out _ _ trivial (fun hHeld => ?_)
                       clear hK K
                       refine a3r (a' := ?_) ?_ ?_
                       rotate_left
                       ·show Act.put _ (some 97) _ = _
                        exact qp_
                       refine one_ (i := 4) (N := some 101) #[o_,o_,o_,o_,o_,o_,o_,o_,o_,i_,i_] rfl rfl (a3b HT_.out (by kernel_rfl)) (by decide) (fun K hK => ?_)
                       refine Kd.a6f k30 (w0 := w) w.heap.size (by rfl) (.tmp 97) (.tmp 100) 22 30 (.agg #[(.int .i64 0), (.int .i64 0), (.int .i64 0), (.int .i64 0), (.int .i64 0), (.int .i64 0)]) 48 rfl Try.underlying22 a4w rfl (by decide) (by omega) v397 y396 y399 _ _ _ (fun k_ => some k_ ≠ (.slice (some ad391) x10_3.length co54 : Value).ownBlock ∧ some k_ ≠ (v394 : Value).ownBlock ∧ k_ ≠ gb392) (fun _ => False) rfl rfl ?aO ?aR (fun _ _ h => h) (fun _ h => h.elim) ?aF ?aB ?aS ?aL ?_
                       (case aR => repeat (first | exact (by repeat (first | (with_reducible exact HR402.out) | (with_reducible refine Kd.a4a ?_ _) | (with_reducible refine Kd.a4b ?_ _) | (with_reducible refine Kd.a4k ?_) | exact HR402.out)) | (with_reducible refine Kd.a4a ?_ _) | (with_reducible refine Kd.a4b ?_ _) | (with_reducible refine Kd.a4k ?_)))
                       (case aB => exact qb_)
                       (case aF => exact (fun k_ hk => ⟨Kd.fresh' (Kd.R_lt (qr_ HO_10)) k_ hk, Kd.fresh' (Kd.R_lt (qr_ HO395)) k_ hk, Kd.a8d (g := gb392) (o := .cells #[.int .i64 ((a0a x10_3 x14_5).f0), .int .i64 ((a0a x10_3 x14_5).f1), .int .i64 ((a0a x10_3 x14_5).f2), .int .i64 ji45, .int .i64 ((a0a x10_3 x14_5).f4.f0), .int .i64 ((a0a x10_3 x14_5).f4.f1)] 30 (0, 0)) (qk_ BK392) k_ hk⟩))
                       (case aO => exact (by (with_reducible repeat (first | apply Kd.a1b | apply Kd.a1c | apply Kd.a0z)); exact Kd.a1s HO398.out (fun _ hk => ⟨hk.1.1.2, ⟨hk.1.2, hk.2⟩⟩)))
                       (case aS => exact (a1o qb_))
                       (case aL => have := LMc49.out; omega)
                       intro v404 w63 ho hb hg hat
                       rw [← Ny403.out] at ho
                       replace BK392 := am_ (a3n (g := gb392) (o := .cells #[.int .i64 ((a0a x10_3 x14_5).f0), .int .i64 ((a0a x10_3 x14_5).f1), .int .i64 ((a0a x10_3 x14_5).f2), .int .i64 ji45, .int .i64 ((a0a x10_3 x14_5).f4.f0), .int .i64 ((a0a x10_3 x14_5).f4.f1)] 30 (0, 0)) (qk_ BK392) hg (Kd.a8b HO398.out (fun _ hk => hk.2)))
                       replace HO395 := am_ (Kd.a4n (ok := (fun k_ => some k_ ≠ (.slice (some ad391) x10_3.length co54 : Value).ownBlock ∧ k_ ≠ gb392)) (qr_ HO395) hg hat)
                       replace HB := am_ (hb)
                       replace HR402 := am_ ((show Kd.C k30 w63 (some ad391) y399.length y399 from by rw [Ny399.out]; exact Kd.a5w (m := (x14_5 : Int).toNat) ((Kd.a0v (Kd.a4n (ok := (fun k_ => some k_ ≠ (v394 : Value).ownBlock ∧ k_ ≠ gb392)) (by (with_reducible repeat (first | apply Kd.a1b | apply Kd.a1c | apply Kd.a0z)); exact Kd.a1s HO_10.out (fun _ hk => ⟨⟨hk.1.2, hk.1.1⟩, hk.2⟩)) hg hat)).2.2) KL59.out))
                       replace HR409 := am_ ((show Kd.C k30 w63 A60 y406.length y406 from by rw [Ny406.out, KA60.out]; exact Kd.b1t (m := ((ji50) : Int).toNat) (c := co54) ((Kd.a0v (Kd.a4n (ok := (fun k_ => some k_ ≠ (v394 : Value).ownBlock ∧ k_ ≠ gb392)) (by (with_reducible repeat (first | apply Kd.a1b | apply Kd.a1c | apply Kd.a0z)); exact Kd.a1s HO_10.out (fun _ hk => ⟨⟨hk.1.2, hk.1.1⟩, hk.2⟩)) hg hat)).2.2) KL60.out ((Kd.a0v (Kd.a4n (ok := (fun k_ => some k_ ≠ (v394 : Value).ownBlock ∧ k_ ≠ gb392)) (by (with_reducible repeat (first | apply Kd.a1b | apply Kd.a1c | apply Kd.a0z)); exact Kd.a1s HO_10.out (fun _ hk => ⟨⟨hk.1.2, hk.1.1⟩, hk.2⟩)) hg hat)).2.1)))
                       replace HO_10 := am_ (Kd.a4n (ok := (fun k_ => some k_ ≠ (v394 : Value).ownBlock ∧ k_ ≠ gb392)) (by (with_reducible repeat (first | apply Kd.a1b | apply Kd.a1c | apply Kd.a0z)); exact Kd.a1s HO_10.out (fun _ hk => ⟨⟨hk.1.2, hk.1.1⟩, hk.2⟩)) hg hat)
                       have HO405 := am_ (ho)
                       clear HO398 ho hb hg hat
                       refine hK.out _ _ trivial (fun hHeld => ?_)
                       clear hK K
                       refine a3r (a' := ?_) ?_ ?_
                       rotate_left
                       ·show Act.put _ (some 101) _ = _
                        exact qp_
                       refine one_ (i := 9) (N := some 106) #[o_,o_,o_,o_,o_,o_,o_,o_,o_,o_,i_] rfl rfl (a3b HT_.out (by kernel_rfl)) (by decide) (fun K hK => ?_)
                       refine Kd.a6f k30 (w0 := w) w.heap.size (by rfl) (.tmp 101) (.tmp 105) 22 30 (.agg #[(.int .i64 0), (.int .i64 0), (.int .i64 0), (.int .i64 0), (.int .i64 0), (.int .i64 0)]) 48 rfl Try.underlying22 a4w rfl (by decide) (by omega) v404 y403 y406 _ _ _ (fun k_ => some k_ ≠ (.slice (some ad391) x10_3.length co54 : Value).ownBlock ∧ some k_ ≠ (v394 : Value).ownBlock ∧ k_ ≠ gb392) (fun _ => False) rfl rfl ?aO ?aR (fun _ _ h => h) (fun _ h => h.elim) ?aF ?aB ?aS ?aL ?_
                       (case aR => repeat (first | exact (by repeat (first | (with_reducible exact HR409.out) | (with_reducible refine Kd.a4a ?_ _) | (with_reducible refine Kd.a4b ?_ _) | (with_reducible refine Kd.a4k ?_) | exact HR409.out)) | (with_reducible refine Kd.a4a ?_ _) | (with_reducible refine Kd.a4b ?_ _) | (with_reducible refine Kd.a4k ?_)))
                       (case aB => exact qb_)
                       (case aF => exact (fun k_ hk => ⟨Kd.fresh' (Kd.R_lt (qr_ HO_10)) k_ hk, Kd.fresh' (Kd.R_lt (qr_ HO395)) k_ hk, Kd.a8d (g := gb392) (o := .cells #[.int .i64 ((a0a x10_3 x14_5).f0), .int .i64 ((a0a x10_3 x14_5).f1), .int .i64 ((a0a x10_3 x14_5).f2), .int .i64 ji45, .int .i64 ((a0a x10_3 x14_5).f4.f0), .int .i64 ((a0a x10_3 x14_5).f4.f1)] 30 (0, 0)) (qk_ BK392) k_ hk⟩))
                       (case aO => exact (qr_ HO405))
                       (case aS => exact (a1o qb_))
                       (case aL => have := LMc53.out; omega)
                       intro v411 w64 ho hb hg hat
                       rw [← Ny410.out] at ho
                       replace BK392 := am_ (a3n (g := gb392) (o := .cells #[.int .i64 ((a0a x10_3 x14_5).f0), .int .i64 ((a0a x10_3 x14_5).f1), .int .i64 ((a0a x10_3 x14_5).f2), .int .i64 ji45, .int .i64 ((a0a x10_3 x14_5).f4.f0), .int .i64 ((a0a x10_3 x14_5).f4.f1)] 30 (0, 0)) (qk_ BK392) hg (Kd.a8b HO405.out (fun _ hk => hk.2.2)))
                       replace HO395 := am_ (Kd.a4n (ok := (fun k_ => some k_ ≠ (.slice (some ad391) x10_3.length co54 : Value).ownBlock ∧ k_ ≠ gb392)) (qr_ HO395) hg hat)
                       replace HB := am_ (hb)
                       replace HR402 := am_ ((show Kd.C k30 w64 (some ad391) y399.length y399 from by rw [Ny399.out]; exact Kd.a5w (m := (x14_5 : Int).toNat) ((Kd.a0v (Kd.a4n (ok := (fun k_ => some k_ ≠ (v394 : Value).ownBlock ∧ k_ ≠ gb392)) (qr_ HO_10) hg hat)).2.2) KL59.out))
                       replace HR409 := am_ ((show Kd.C k30 w64 A60 y406.length y406 from by rw [Ny406.out, KA60.out]; exact Kd.b1t (m := ((ji50) : Int).toNat) (c := co54) ((Kd.a0v (Kd.a4n (ok := (fun k_ => some k_ ≠ (v394 : Value).ownBlock ∧ k_ ≠ gb392)) (qr_ HO_10) hg hat)).2.2) KL60.out ((Kd.a0v (Kd.a4n (ok := (fun k_ => some k_ ≠ (v394 : Value).ownBlock ∧ k_ ≠ gb392)) (qr_ HO_10) hg hat)).2.1)))
                       replace HO_10 := am_ (Kd.a4n (ok := (fun k_ => some k_ ≠ (v394 : Value).ownBlock ∧ k_ ≠ gb392)) (qr_ HO_10) hg hat)
                       have HO412 := am_ (ho)
                       clear HO405 ho hb hg hat
                       refine hK.out _ _ trivial (fun hHeld => ?_)
                       clear hK K
                       refine a3r (a' := ?_) ?_ ?_
                       rotate_left
                       ·show Act.put _ (some 106) _ = _
                        exact qp_
                       refine qpu_ 10 (some 10) #[o_,o_,o_,o_,o_,o_,o_,o_,o_,o_,o_] ?_
                       refine a3w (a3i HT_.out (by kernel_rfl)) ?_
                       try go_wp2
                       go_roundg k5
                       case measure => have := HJ4.out; have := HK2.out; have := HK3.out; have := HJ25.out; have := HK5.out; omega
                       case rel => exact ⟨(wrap64 (x2_3 - (ji45))), (y410), (y393), (by first | rfl | (simp; done) | (simp only [← hji45] <;> (first | rfl | simp)) | (simp [*]; done)), H', ⟨by have := HJ4.out; have := HK2.out; have := HK3.out; have := HJ25.out; have := HK5.out; omega⟩, ⟨by (with_reducible repeat (first | apply Kd.a1b | apply Kd.a1c | apply Kd.a0z)); exact Kd.a1s HO412.out (fun _ hk => hk.2.1)⟩, ⟨by (with_reducible repeat (first | apply Kd.a1b | apply Kd.a1c | apply Kd.a0z)); exact Kd.a1s HO395.out (fun _ hk => hk.2)⟩, ⟨qb_⟩⟩
                      ·rw [if_neg c53] at H
                       exact absurd H (by simp)
                     ·rw [if_neg c52] at H
                      exact absurd H (by simp)
                    ·rw [if_neg c51] at H
                     exact absurd H (by simp)
                   ·rw [if_neg c49] at H
                    exact absurd H (by simp)
                  ·rw [if_neg c48] at H
                   exact absurd H (by simp)
                 ·rw [if_neg c46] at H
                  exact absurd H (by simp)
                ·rw [if_neg c44] at H
                 exact absurd H (by simp)
               ·rw [if_neg c43] at H
                exact absurd H (by simp)
           ·replace c30 := be_ c30
            subst c30
            have H1 : (some (x13_3, x2_3, 0)) = some (r1, r2, r3) := by rw [if_neg (show ¬ (false = true) by decide)] at H; exact H
            clear H
            have H := H1
            clear H1
            simp only [Option.some.injEq, Prod.mk.injEq] at H
            obtain ⟨rfl, rfl, rfl⟩ := H
            go_wp2
            go_ret3
            exact ⟨_, qx_, by (with_reducible repeat (first | apply Kd.a1b | apply Kd.a1c | apply Kd.a0z)); exact Kd.a1s HO_13.out (fun _ hk => trivial), qb_⟩
end Go.Proofs.Ytfbgkcadnmcakaa.Px
