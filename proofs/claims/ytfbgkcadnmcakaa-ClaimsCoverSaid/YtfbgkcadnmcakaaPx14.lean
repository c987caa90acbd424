/- Contracts of Go functions, printed. Conditions: as each theorem states. -/
import Derived.Test.YtfbgkcadnmcakaaPx0
import Derived.Test.YtfbgkcadnmcakaaPx11
import Derived.Test.YtfbgkcadnmcakaaGSort
namespace Go.Proofs.Ytfbgkcadnmcakaa.Px
open Go.Proofs.Ytfbgkcadnmcakaa.Given
open Go.RowKit Go.Proofs.YtfbgkcadnmcakaaW.PrintWords Go.Proofs.YtfbgkcadnmcakaaW.PrintLast Go.Proofs.YtfbgkcadnmcakaaW.PrintMore
attribute [local go_sem] a2w a2u a3d a3c a2q a2r a2x a2y
set_option linter.unusedVariables false
set_option linter.unusedSimpArgs false
section
variable {P : Program} {ops : Array Oper} {rest : List Oper} {o : Oper} {a : Act} {Q : Exit → Act → World → Prop}
theorem b1t {x y : Operand} {ts : Array TypeId} (_ho : o.op = .call { callee := .builtin .min, args := #[x, y], argTypes := ts }) {W : World} (h : wpList P ops Q (o :: rest) a W) : wpList P ops Q (o :: rest) a W := h
theorem b0t {W : World} (hgd : o.guard = none) {x y : Operand} {ts : Array TypeId} (ho : o.op = .call { callee := .builtin .min, args := #[x, y], argTypes := ts }) {k : IntKind} {p q z : Int} (hx : a.eval x = .int k p) (hy : a.eval y = .int k q) (hz : (if q < p then q else p) = z)
  (h : wpList P ops Q rest (a.put o.dst (.int k z)) W) : wpList P ops Q (o :: rest) a W := by
 subst hz
 refine wpList_plain hgd fun K' hK' => ?_
 unfold Oper.wp
 simp [execOp, ho, resolve, invoke, builtin, hx, hy, a3c, a2u, Result.andThen]
 exact hK' _ _ h
theorem b0j {W : World} (hgd : o.guard = none) {N : Tmp} (_hd : o.dst = some N) {ty : TypeId} {x : Operand} (ho : o.op = .load ty x) {p : Addr} (hx : a.eval x = .pointer (some p)) {k : IntKind} (hu : P.underlying ty = some (.int k)) (v : Value) (hc : W.cell? p = some v)
  (h : wpList P ops Q rest (a.put o.dst v) W) : wpList P ops Q (o :: rest) a W := by
 have hagg : (isAgg ty).run P W = .ok false W := by
  unfold isAgg
  rw [Sem.run_bind, run_underlying hu W]
  rfl
 have hl : (loadVar ty p).run P W = .ok v W := by simp [loadVar, Sem.run_bind, hagg, hc]
 refine wpList_plain hgd fun K' hK' => ?_
 unfold Oper.wp execOp
 simp only [ho, hx, Instr.loadAt, Instr.sureAddr, Sem.run_bind, Sem.run_pure, Result.andThen_ok, hl]
 exact hK' _ _ h
end
mutual
def a0g.j0 : Nat → List Int → Int → Bool → List (Int × S30) → Option ((List (S30)) × Int × Int)
 | 0, _, _, _, _ => none
 | k + 1, x1, x2, x34, b0 => if x34 = true then (some (([] : List (S30)), 0, 1)) else (a0g.l0 k x2 ([] : List (S30)) x1 (x1.length : Int) 0 b0 ([] : List (Int × Bool)))
def a0g.l0 : Nat → Int → List (S30) → List Int → Int → Int → List (Int × S30) → List (Int × Bool) → Option ((List (S30)) × Int × Int)
 | 0, _, _, _, _, _, _, _ => none
 | k + 1, x2, x12, x36, x37, x38, b0, b1 => if x38 < x37 then (if 0 ≤ x38 then (if x38 < (x36.length : Int) then (if (mhas b0 (rd x36 x38) = true) then (if a4s b1 (rd x36 x38) = true then (some (([] : List (S30)), 0, 5)) else (if x12.length < 2932031007402 then (a0g.l0 k x2 (x12 ++ [(⟨(a1q z30 b0 (rd x36 x38)).f0, (a1q z30 b0 (rd x36 x38)).f1, (a1q z30 b0 (rd x36 x38)).f2, (a1q z30 b0 (rd x36 x38)).f3, (⟨(a1q z30 b0 (rd x36 x38)).f4.f0, (a1q z30 b0 (rd x36 x38)).f4.f1⟩ : S28)⟩ : S30)]) x36 x37 (wrap64 (x38 + 1)) b0 (mput b1 (rd x36 x38) true)) else (none))) else (some (([] : List (S30)), 0, 4))) else (none)) else (none)) else ((a1t.f k x12).bind fun t237 => (a0g.l1 k x2 ([] : List (S30)) t237 (x12.length : Int) 0))
def a0g.l1 : Nat → Int → List (S30) → List (S30) → Int → Int → Option ((List (S30)) × Int × Int)
 | 0, _, _, _, _, _ => none
 | k + 1, x2, x17, x64, x65, x66 => if x66 < x65 then (if 0 ≤ x66 then (if x66 < (x64.length : Int) then (if x2 = 0 then (some (x17, x2, 0)) else (if x17.length < 2932031007402 then (a0g.l1 k (wrap64 (x2 - (mn ((a0a x64 x66).f3) x2))) (x17 ++ [(⟨(a0a x64 x66).f0, (a0a x64 x66).f1, (a0a x64 x66).f2, mn ((a0a x64 x66).f3) x2, (⟨(a0a x64 x66).f4.f0, (a0a x64 x66).f4.f1⟩ : S28)⟩ : S30)]) x64 x65 (wrap64 (x66 + 1))) else (none))) else (none)) else (none)) else (some (x17, x2, 0))
end
def a0g.f (k : Nat) (l0 : List (S30)) (l1 : List Int) (a2 : Int) : Option ((List (S30)) × Int × Int) := (a1w.f k l0).bind fun bt228 => (if bt228.2 = true then (if a2 < 0 then (a0g.j0 k l1 a2 true bt228.1) else (a0g.j0 k l1 a2 (decide (a2 > 1000000000)) bt228.1)) else (a0g.j0 k l1 a2 true bt228.1))
theorem a0g.a1k : ∀ k, (∀ y0 y1 y2 y3, LeO (a0g.j0 k y0 y1 y2 y3) (a0g.j0 (k + 1) y0 y1 y2 y3)) ∧ (∀ y0 y1 y2 y3 y4 y5 y6, LeO (a0g.l0 k y0 y1 y2 y3 y4 y5 y6) (a0g.l0 (k + 1) y0 y1 y2 y3 y4 y5 y6)) ∧ (∀ y0 y1 y2 y3 y4, LeO (a0g.l1 k y0 y1 y2 y3 y4) (a0g.l1 (k + 1) y0 y1 y2 y3 y4))
 | 0 => ⟨fun _ _ _ _ r h => by simp [a0g.j0] at h, fun _ _ _ _ _ _ _ r h => by simp [a0g.l0] at h, fun _ _ _ _ _ r h => by simp [a0g.l1] at h⟩
 | k + 1 => by
  obtain ⟨ih0, ih1, ih2⟩ := a0g.a1k k
  refine ⟨?_, ?_, ?_⟩
  ·intro y0 y1 y2 y3
   unfold a0g.j0
   with_reducible (repeat' first | apply ih0 | apply ih1 | apply ih2 | apply a1t.mono | apply a1w.mono | apply LeO.refl | apply LeO.none | apply LeO.ite | refine LeO.bind ?_ (fun _ => ?_))
  ·intro y0 y1 y2 y3 y4 y5 y6
   unfold a0g.l0
   with_reducible (repeat' first | apply ih0 | apply ih1 | apply ih2 | apply a1t.mono | apply a1w.mono | apply LeO.refl | apply LeO.none | apply LeO.ite | refine LeO.bind ?_ (fun _ => ?_))
  ·intro y0 y1 y2 y3 y4
   unfold a0g.l1
   with_reducible (repeat' first | apply ih0 | apply ih1 | apply ih2 | apply a1t.mono | apply a1w.mono | apply LeO.refl | apply LeO.none | apply LeO.ite | refine LeO.bind ?_ (fun _ => ?_))
theorem a0g.mono : ∀ a0 a1 a2 k, LeO (a0g.f k a0 a1 a2) (a0g.f (k + 1) a0 a1 a2) := by
 intro a0 a1 a2 k
 obtain ⟨ih0, ih1, ih2⟩ := a0g.a1k k
 unfold a0g.f
 with_reducible (repeat' first | apply ih0 | apply ih1 | apply ih2 | apply a1t.mono | apply a1w.mono | apply LeO.refl | apply LeO.none | apply LeO.ite | refine LeO.bind ?_ (fun _ => ?_))
set_option maxHeartbeats 8000000 in
set_option maxRecDepth 100000 in
theorem a0g.calls (k : Nat) (A0 : Option Addr) (c0 : Nat) (l0 : List (S30)) (A1 : Option Addr) (c1 : Nat) (l1 : List Int) (a2 : Int) (r1 : List (S30)) (r2 r3 : Int) (w : World) (hr0 : Kd.C k30 w A0 l0.length l0) (hc0 : l0.length ≤ c0) (hr1 : Kd.C (Kd.int .i64) w A1 l1.length l1) (hc1 : l1.length ≤ c1) (h : a0g.f k l0 l1 a2 = some (r1, r2, r3)) :
  Calls Try.prog 12 #[.slice A0 l0.length c0, .slice A1 l1.length c1, .int .i64 a2] w fun e w' => ∃ v0_ : Value, e = .returned (.tuple #[v0_, .int .i64 r2, .int .i64 r3]) ∧ Kd.R k30 30 w' w.heap.size (fun _ => True) v0_ r1 ∧ Below w.heap.size w w' := by
 have hu30 := Try.underlying30
 have HR0 := am_ hr0
 have HC0 := am_ hc0
 clear hr0 hc0
 have HR1 := am_ hr1
 have HC1 := am_ hc1
 clear hr1 hc1
 have HB := am_ (Below.refl w.heap.size w)
 have H : ((a1w.f k l0).bind fun bt228 => (if bt228.2 = true then (if a2 < 0 then (a0g.j0 k l1 a2 true bt228.1) else (a0g.j0 k l1 a2 (decide (a2 > 1000000000)) bt228.1)) else (a0g.j0 k l1 a2 true bt228.1))) = some (r1, r2, r3) := h
 clear h
 replace H := bm_ H
 obtain ⟨⟨t228, t230⟩, A40, H⟩ := H
 replace H : (if t230 = true then (if a2 < 0 then (a0g.j0 k l1 a2 true t228) else (a0g.j0 k l1 a2 (decide (a2 > 1000000000)) t228)) else (a0g.j0 k l1 a2 true t228)) = some (r1, r2, r3) := H
 have A4 := am_ A40
 clear A40
 have HC5 := am_ H
 clear H
 go_enter Try.func12, Try.ntmps12
 go_upto_region 2 with (first | ((with_reducible refine a1c (f := 28) rfl ?_); refine a1y (some 22) rfl rfl Try.func28 (by kernel_rfl) rfl #[.slice A0 l0.length c0] rfl ql_ ?_; (with_reducible refine (a1w.calls k _ _ l0 t228 t230 _ ?s1 ?s2 A4.out).mono ?_); (case s1 => repeat (first | exact HR0.out | (with_reducible refine Kd.a5b ?_ _) | (with_reducible refine Kd.a5c ?_ _) | (with_reducible refine Kd.a5p ?_))); (case s2 => exact HC0.out); rintro e w6 ⟨gb229, hg, rfl, hbox, hb⟩; refine ⟨_, rfl, ?_⟩; have BK229 := am_ (hbox); have GW229 := am_ ((Nat.le_trans ((a1s qb_)) hg : w.heap.size ≤ gb229)); have GE229 := am_ ((Nat.le_trans ((a1s qb_)) hg : w.heap.size ≤ gb229)); replace HB := qbs_ hb; clear hb hbox hg))
 (try simp only [Act.put, List.setIfInBounds_toArray, List.set_cons_zero, List.set_cons_succ])
 go_cut [34] (fun v34 wc => ∃ (kq : Nat) (x34_4 : Bool), v34 = .bool x34_4 ∧ Aside0 (a0g.j0 kq l1 a2 x34_4 t228 = some (r1, r2, r3)) ∧ Aside0 (kq ≤ k) ∧ Aside0 (wc.heap[gb229]? = some (a1o (fun x_ : S30 => Value.agg #[.int .i64 x_.f0, .int .i64 x_.f1, .int .i64 x_.f2, .int .i64 x_.f3, .int .i64 x_.f4.f0, .int .i64 x_.f4.f1]) t228)) ∧ Aside0 (Below w.heap.size w wc))
 case first =>
  have H := HC5.out
  clear HC5
  by_cases c7 : t230 = true
  ·subst c7
   have H1 : (if a2 < 0 then (a0g.j0 k l1 a2 true t228) else (a0g.j0 k l1 a2 (decide (a2 > 1000000000)) t228)) = some (r1, r2, r3) := by rw [if_pos rfl] at H; exact H
   clear H
   have H := H1
   clear H1
   by_cases c8 : a2 < 0
   ·rw [if_pos c8] at H
    have c8b0 : decide (a2 < 0) = true := decide_eq_true c8
    clear c8
    (first | rw [c8b0] | (simp only [a3k, a4i]; rw [c8b0]) | skip)
    have H' := am_ H
    clear H
    go_wp2
    go_meet
    case rel => exact ⟨_, (true), qs_, H', ⟨qo_⟩, ⟨qk_ BK229⟩, ⟨qb_⟩⟩
   ·rw [if_neg c8] at H
    have c8b0 : decide (a2 < 0) = false := decide_eq_false c8
    clear c8
    (first | rw [c8b0] | (simp only [a3k, a4i]; rw [c8b0]) | skip)
    have H' := am_ H
    clear H
    go_wp2
    go_meet
    case rel => exact ⟨_, (decide (a2 > 1000000000)), qs_, H', ⟨qo_⟩, ⟨qk_ BK229⟩, ⟨qb_⟩⟩
  ·replace c7 := be_ c7
   subst c7
   have H1 : (a0g.j0 k l1 a2 true t228) = some (r1, r2, r3) := by rw [if_neg (show ¬ (false = true) by decide)] at H; exact H
   clear H
   have H := H1
   clear H1
   have H' := am_ H
   clear H
   go_wp2
   go_meet
   case rel => exact ⟨_, (true), qs_, H', ⟨qo_⟩, ⟨qk_ BK229⟩, ⟨qb_⟩⟩
 case rest =>
  clear HC5
  try clear c1
  try clear c2
  try clear p2
  try clear c7
  try clear c8
  try clear c8b0
  obtain ⟨kq, x34_4, rfl, HA, HJ4, BK229, HB⟩ := hcut
  cases kq with
  | zero => exact absurd HA.out (by simp [a0g.j0])
  | succ kj4 =>
   have H := HA.out
   clear HA
   simp only [a0g.j0] at H
   by_cases c9 : x34_4 = true
   ·subst c9
    have H1 : (some (([] : List (S30)), 0, 1)) = some (r1, r2, r3) := by rw [if_pos rfl] at H; exact H
    clear H
    have H := H1
    clear H1
    simp only [Option.some.injEq, Prod.mk.injEq] at H
    obtain ⟨rfl, rfl, rfl⟩ := H
    go_wp2
    go_ret3
    exact ⟨_, qx_, by first | exact Kd.a5x _ _ _ _ _ | exact Kd.N_nil _ _ _ _ _ | exact Kd.V_nil _ _ _ _ _ | exact Kd.Q_nil _ _ _ _ _ | exact Kd.S_nil _ _ _ _ _, qb_⟩
   ·replace c9 := be_ c9
    subst c9
    have H1 : (a0g.l0 kj4 a2 ([] : List (S30)) l1 (l1.length : Int) 0 t228 ([] : List (Int × Bool))) = some (r1, r2, r3) := by rw [if_neg (show ¬ (false = true) by decide)] at H; exact H
    clear H
    have H := H1
    clear H1
    have H' := am_ H
    clear H
    go_wp2_with (first | ((with_reducible refine a1g (N := 35) rfl ?_); refine a7p (Value.bool) ?hg (N := 35) ?hd (T := 57) ?ho ?_; (case hg => rfl); (case hd => rfl); (case ho => rfl); intro gb231 hg w10 hbox hb; have BK231 := am_ (hbox); have GW231 := qga_ hg; have GE231 := qga_ hg; replace HB := qbs_ hb; have NB229_231 := am_ ((by rw [hg]; exact Nat.ne_of_lt (a2d (g := gb229) (o := a1o (fun x_ : S30 => Value.agg #[.int .i64 x_.f0, .int .i64 x_.f1, .int .i64 x_.f2, .int .i64 x_.f3, .int .i64 x_.f4.f0, .int .i64 x_.f4.f1]) t228) (qk_ BK229)) : gb229 ≠ gb231)); have NB231_229 := am_ ((by rw [hg]; exact Nat.ne_of_gt (a2d (g := gb229) (o := a1o (fun x_ : S30 => Value.agg #[.int .i64 x_.f0, .int .i64 x_.f1, .int .i64 x_.f2, .int .i64 x_.f3, .int .i64 x_.f4.f0, .int .i64 x_.f4.f1]) t228) (qk_ BK229)) : gb231 ≠ gb229)); replace BK229 := am_ (a2v (g := gb229) (o := a1o (fun x_ : S30 => Value.agg #[.int .i64 x_.f0, .int .i64 x_.f1, .int .i64 x_.f2, .int .i64 x_.f3, .int .i64 x_.f4.f0, .int .i64 x_.f4.f1]) t228) (qk_ BK229) hb); clear hb hbox hg))
    go_loopg [12, 38] kj4 (fun kq v12 v38 w' => ∃ (x12_2 : List (S30)) (x38_2 : Int) (x232000_2 : List (Int × Bool)), v38 = .int .i64 x38_2 ∧ Aside0 (a0g.l0 kq a2 x12_2 l1 (l1.length : Int) x38_2 t228 x232000_2 = some (r1, r2, r3)) ∧ Aside0 (kq ≤ kj4) ∧ Aside0 (Kd.R k30 30 w' w.heap.size (fun _ => True) v12 x12_2) ∧ Aside0 (w'.heap[gb229]? = some (a1o (fun x_ : S30 => Value.agg #[.int .i64 x_.f0, .int .i64 x_.f1, .int .i64 x_.f2, .int .i64 x_.f3, .int .i64 x_.f4.f0, .int .i64 x_.f4.f1]) t228)) ∧ Aside0 (w'.heap[gb231]? = some (a1o (Value.bool) x232000_2)) ∧ Aside0 (Below w.heap.size w w'))
    case atStart => exact ⟨(([] : List (S30))), (0), (([] : List (Int × Bool))), qs_, H', ⟨Nat.le_refl _⟩, ⟨by first | exact Kd.a5x _ _ _ _ _ | exact Kd.N_nil _ _ _ _ _ | exact Kd.V_nil _ _ _ _ _ | exact Kd.Q_nil _ _ _ _ _ | exact Kd.S_nil _ _ _ _ _⟩, ⟨qk_ BK229⟩, ⟨qk_ BK231⟩, ⟨qb_⟩⟩
    case round =>
     clear H'
     try clear c1
     try clear c2
     try clear p2
     try clear c7
     try clear c8
     try clear c8b0
     try clear c9
     try clear p2
     obtain ⟨x12_2, x38_2, x232000_2, rfl, HA, HK2, HO_12, BK229, BK231, HB⟩ := hrel
     cases gk with
     | zero => exact absurd HA.out (by simp [a0g.l0])
     | succ k2 =>
      have H := HA.out
      clear HA
      simp only [a0g.l0] at H
      by_cases c11 : x38_2 < (l1.length : Int)
      ·rw [if_pos c11] at H
       have c11b0 : decide (x38_2 < (l1.length : Int)) = true := decide_eq_true c11
       clear c11
       by_cases c12 : 0 ≤ x38_2
       ·rw [if_pos c12] at H
        have c12b0 : decide (0 ≤ x38_2) = true := decide_eq_true c12
        clear c12
        by_cases c13 : x38_2 < (l1.length : Int)
        ·rw [if_pos c13] at H
         have c13b0 : decide (x38_2 < (l1.length : Int)) = true := decide_eq_true c13
         clear c13
         by_cases c14 : (mhas t228 (rd l1 x38_2) = true)
         ·rw [if_pos c14] at H
          have c14b0 : mhas t228 (rd l1 x38_2) = true := c14
          clear c14
          by_cases c15 : a4s x232000_2 (rd l1 x38_2) = true
          ·rw [if_pos c15] at H
           have c15b0 : a4s x232000_2 (rd l1 x38_2) = true := c15
           clear c15
           simp only [Option.some.injEq, Prod.mk.injEq] at H
           obtain ⟨rfl, rfl, rfl⟩ := H
           have p232 : 0 ≤ (x38_2 : Int) := ot_
           have q232 : x38_2 < (l1.length : Int) := ot_
           obtain ⟨ad232, e232, hx232_0⟩ := Kd.a4l HR1.out x38_2 p232 q232
           cases e232
           replace hx232_0 := qh_ HB hx232_0
           replace p232 := eq_true p232
           replace q232 := eq_true q232
           go_wp2_with (first | ((with_reducible refine a1g (N := 45) rfl ?_); refine a6g (enc := fun x_ : S30 => Value.agg #[.int .i64 x_.f0, .int .i64 x_.f1, .int .i64 x_.f2, .int .i64 x_.f3, .int .i64 x_.f4.f0, .int .i64 x_.f4.f1]) (d := z30) rfl (N := 45) rfl rfl (M := t228) (k := rd l1 x38_2) Try.underlying59 Try.underlying3 (by kernel_rfl) (qk_ BK229) rfl ?hx ?_; (case hx => first | rfl | (go_simp; done) | (go_simp; rfl))) | ((with_reducible refine a1g (N := 15) rfl ?_); refine qev_ 15 #[.int .i64 0, .int .i64 0, .int .i64 0, .int .i64 0, .int .i64 0, .int .i64 0] 30 ?_; intro gb233 hg w16 hbox hb; replace HO_12 := am_ (Kd.a3f (Kd.a3n (qr_ HO_12) gb233 (Nat.le_of_eq hg.symm)) hb); have BK233 := am_ (hbox); have GW233 := qga_ hg; have GE233 := qga_ hg; replace HB := qbs_ hb; have NB229_233 := am_ ((by rw [hg]; exact Nat.ne_of_lt (a2d (g := gb229) (o := a1o (fun x_ : S30 => Value.agg #[.int .i64 x_.f0, .int .i64 x_.f1, .int .i64 x_.f2, .int .i64 x_.f3, .int .i64 x_.f4.f0, .int .i64 x_.f4.f1]) t228) (qk_ BK229)) : gb229 ≠ gb233)); have NB233_229 := am_ ((by rw [hg]; exact Nat.ne_of_gt (a2d (g := gb229) (o := a1o (fun x_ : S30 => Value.agg #[.int .i64 x_.f0, .int .i64 x_.f1, .int .i64 x_.f2, .int .i64 x_.f3, .int .i64 x_.f4.f0, .int .i64 x_.f4.f1]) t228) (qk_ BK229)) : gb233 ≠ gb229)); replace BK229 := am_ (a2v (g := gb229) (o := a1o (fun x_ : S30 => Value.agg #[.int .i64 x_.f0, .int .i64 x_.f1, .int .i64 x_.f2, .int .i64 x_.f3, .int .i64 x_.f4.f0, .int .i64 x_.f4.f1]) t228) (qk_ BK229) hb); have NB231_233 := am_ ((by rw [hg]; exact Nat.ne_of_lt (a2d (g := gb231) (o := a1o (Value.bool) x232000_2) (qk_ BK231)) : gb231 ≠ gb233)); have NB233_231 := am_ ((by rw [hg]; exact Nat.ne_of_gt (a2d (g := gb231) (o := a1o (Value.bool) x232000_2) (qk_ BK231)) : gb233 ≠ gb231)); replace BK231 := am_ (a2v (g := gb231) (o := a1o (Value.bool) x232000_2) (qk_ BK231) hb); clear hb hbox hg; have hnb17 := NB233_229.out; have hnc17 := NB229_233.out; have hnb18 := NB233_231.out; have hnc18 := NB231_233.out; obtain ⟨z'19_0, z'19_1, z'19_2, z'19_3, z'19_4, z'19_5⟩ := qz6_ BK233; obtain ⟨y'19_0, y'19_1, y'19_2, y'19_3, y'19_4, y'19_5⟩ := qf6_ BK233) | ((with_reducible refine a1g (N := 54) rfl ?_); refine a5h rfl (N := 54) rfl rfl (M := x232000_2) (k := rd l1 x38_2) Try.underlying57 Try.underlying3 (a6o _) (by refine qd_ ?_; refine a1e ?_ NB231_233.out _; refine qd_ ?_; refine a1e ?_ NB231_233.out _; refine qd_ ?_; refine a1e ?_ NB231_233.out _; refine qd_ ?_; refine a1e ?_ NB231_233.out _; refine qd_ ?_; refine a1e ?_ NB231_233.out _; refine qd_ ?_; refine a1e ?_ NB231_233.out _; refine qd_ ?_; exact BK231.out) rfl ?hx ?_; (case hx => first | rfl | (go_simp; done) | (go_simp; rfl))))
           go_ret3
           exact ⟨_, qx_, by first | exact Kd.a5x _ _ _ _ _ | exact Kd.N_nil _ _ _ _ _ | exact Kd.V_nil _ _ _ _ _ | exact Kd.Q_nil _ _ _ _ _ | exact Kd.S_nil _ _ _ _ _, qb_⟩
          ·rw [if_neg c15] at H
           have c15b0 : a4s x232000_2 (rd l1 x38_2) = false := by simpa using c15
           clear c15
           by_cases c20 : x12_2.length < 2932031007402
           ·rw [if_pos c20] at H
            have LMc20 := am_ c20
            clear c20
            obtain ⟨y234, hy234⟩ : ∃ y_ : List (S30), y_ = (x12_2 ++ [(⟨(a1q z30 t228 (rd l1 x38_2)).f0, (a1q z30 t228 (rd l1 x38_2)).f1, (a1q z30 t228 (rd l1 x38_2)).f2, (a1q z30 t228 (rd l1 x38_2)).f3, (⟨(a1q z30 t228 (rd l1 x38_2)).f4.f0, (a1q z30 t228 (rd l1 x38_2)).f4.f1⟩ : S28)⟩ : S30)]) := ⟨_, rfl⟩
            replace H : (a0g.l0 k2 a2 y234 l1 (l1.length : Int) (wrap64 (x38_2 + 1)) t228 (mput x232000_2 (rd l1 x38_2) true)) = some (r1, r2, r3) := by first | (rw [hy234]; with_reducible exact H) | (have H2_ := (Option.bind_some _ _).symm.trans H; rw [hy234]; with_reducible exact H2_) | (have H2_ := (Option.bind_some _ _).symm.trans H; with_reducible exact H2_) | with_reducible exact H | (rw [hy234]; exact H) | exact H
            have Ny234 := am_ hy234
            clear hy234
            have H' := am_ H
            clear H
            have p232 : 0 ≤ (x38_2 : Int) := ot_
            have q232 : x38_2 < (l1.length : Int) := ot_
            obtain ⟨ad232, e232, hx232_0⟩ := Kd.a4l HR1.out x38_2 p232 q232
            cases e232
            replace hx232_0 := qh_ HB hx232_0
            replace p232 := eq_true p232
            replace q232 := eq_true q232
            go_wp2_with (first | ((with_reducible refine a1g (N := 45) rfl ?_); refine a6g (enc := fun x_ : S30 => Value.agg #[.int .i64 x_.f0, .int .i64 x_.f1, .int .i64 x_.f2, .int .i64 x_.f3, .int .i64 x_.f4.f0, .int .i64 x_.f4.f1]) (d := z30) rfl (N := 45) rfl rfl (M := t228) (k := rd l1 x38_2) Try.underlying59 Try.underlying3 (by kernel_rfl) (qk_ BK229) rfl ?hx ?_; (case hx => first | rfl | (go_simp; done) | (go_simp; rfl))) | ((with_reducible refine a1g (N := 15) rfl ?_); refine qev_ 15 #[.int .i64 0, .int .i64 0, .int .i64 0, .int .i64 0, .int .i64 0, .int .i64 0] 30 ?_; intro gb233 hg w21 hbox hb; replace HO_12 := am_ (Kd.a3f (Kd.a3n (qr_ HO_12) gb233 (Nat.le_of_eq hg.symm)) hb); have BK233 := am_ (hbox); have GW233 := qga_ hg; have GE233 := qga_ hg; replace HB := qbs_ hb; have NB229_233 := am_ ((by rw [hg]; exact Nat.ne_of_lt (a2d (g := gb229) (o := a1o (fun x_ : S30 => Value.agg #[.int .i64 x_.f0, .int .i64 x_.f1, .int .i64 x_.f2, .int .i64 x_.f3, .int .i64 x_.f4.f0, .int .i64 x_.f4.f1]) t228) (qk_ BK229)) : gb229 ≠ gb233)); have NB233_229 := am_ ((by rw [hg]; exact Nat.ne_of_gt (a2d (g := gb229) (o := a1o (fun x_ : S30 => Value.agg #[.int .i64 x_.f0, .int .i64 x_.f1, .int .i64 x_.f2, .int .i64 x_.f3, .int .i64 x_.f4.f0, .int .i64 x_.f4.f1]) t228) (qk_ BK229)) : gb233 ≠ gb229)); replace BK229 := am_ (a2v (g := gb229) (o := a1o (fun x_ : S30 => Value.agg #[.int .i64 x_.f0, .int .i64 x_.f1, .int .i64 x_.f2, .int .i64 x_.f3, .int .i64 x_.f4.f0, .int .i64 x_.f4.f1]) t228) (qk_ BK229) hb); have NB231_233 := am_ ((by rw [hg]; exact Nat.ne_of_lt (a2d (g := gb231) (o := a1o (Value.bool) x232000_2) (qk_ BK231)) : gb231 ≠ gb233)); have NB233_231 := am_ ((by rw [hg]; exact Nat.ne_of_gt (a2d (g := gb231) (o := a1o (Value.bool) x232000_2) (qk_ BK231)) : gb233 ≠ gb231)); replace BK231 := am_ (a2v (g := gb231) (o := a1o (Value.bool) x232000_2) (qk_ BK231) hb); clear hb hbox hg; have hnb22 := NB233_229.out; have hnc22 := NB229_233.out; have hnb23 := NB233_231.out; have hnc23 := NB231_233.out; obtain ⟨z'24_0, z'24_1, z'24_2, z'24_3, z'24_4, z'24_5⟩ := qz6_ BK233; obtain ⟨y'24_0, y'24_1, y'24_2, y'24_3, y'24_4, y'24_5⟩ := qf6_ BK233) | ((with_reducible refine a1g (N := 54) rfl ?_); refine a5h rfl (N := 54) rfl rfl (M := x232000_2) (k := rd l1 x38_2) Try.underlying57 Try.underlying3 (a6o _) (by refine qd_ ?_; refine a1e ?_ NB231_233.out _; refine qd_ ?_; refine a1e ?_ NB231_233.out _; refine qd_ ?_; refine a1e ?_ NB231_233.out _; refine qd_ ?_; refine a1e ?_ NB231_233.out _; refine qd_ ?_; refine a1e ?_ NB231_233.out _; refine qd_ ?_; refine a1e ?_ NB231_233.out _; refine qd_ ?_; exact BK231.out) rfl ?hx ?_; (case hx => first | rfl | (go_simp; done) | (go_simp; rfl))) | ((with_reducible refine a5i (b := .append) (xs := #[.tmp 57, .tmp 59]) rfl ?_); at_builtin; refine Kd.a6x k30 (w0 := w) w.heap.size rfl (.tmp 57) (.tmp 59) 22 30 (.agg #[(.int .i64 0), (.int .i64 0), (.int .i64 0), (.int .i64 0), (.int .i64 0), (.int .i64 0)]) 48 rfl Try.underlying22 b2o rfl (by decide) (by omega) u12 x12_2 (⟨(a1q z30 t228 (rd l1 x38_2)).f0, (a1q z30 t228 (rd l1 x38_2)).f1, (a1q z30 t228 (rd l1 x38_2)).f2, (a1q z30 t228 (rd l1 x38_2)).f3, (⟨(a1q z30 t228 (rd l1 x38_2)).f4.f0, (a1q z30 t228 (rd l1 x38_2)).f4.f1⟩ : S28)⟩ : S30) [.int .i64 ((a1q z30 t228 (rd l1 x38_2)).f0), .int .i64 ((a1q z30 t228 (rd l1 x38_2)).f1), .int .i64 ((a1q z30 t228 (rd l1 x38_2)).f2), .int .i64 ((a1q z30 t228 (rd l1 x38_2)).f3), .int .i64 ((a1q z30 t228 (rd l1 x38_2)).f4.f0), .int .i64 ((a1q z30 t228 (rd l1 x38_2)).f4.f1)] (fun k_ => k_ ≠ gb233) (fun _ => False) rfl (by first | (go_simp; done) | (go_simp; rfl)) ?aP (fun _ hk => hk.elim) ?aF ?aO ?aB ?aS ?aL ?_; (case aP => exact a5e _ _ _ (⟨(a1q z30 t228 (rd l1 x38_2)).f0, (a1q z30 t228 (rd l1 x38_2)).f1, (a1q z30 t228 (rd l1 x38_2)).f2, (a1q z30 t228 (rd l1 x38_2)).f3, (⟨(a1q z30 t228 (rd l1 x38_2)).f4.f0, (a1q z30 t228 (rd l1 x38_2)).f4.f1⟩ : S28)⟩ : S30)); (case aB => exact qb_); (case aF => exact (fun k_ hk => Kd.b2e (g := gb233) (o := .cells #[.int .i64 ((a1q z30 t228 (rd l1 x38_2)).f0), .int .i64 ((a1q z30 t228 (rd l1 x38_2)).f1), .int .i64 ((a1q z30 t228 (rd l1 x38_2)).f2), .int .i64 ((a1q z30 t228 (rd l1 x38_2)).f3), .int .i64 ((a1q z30 t228 (rd l1 x38_2)).f4.f0), .int .i64 ((a1q z30 t228 (rd l1 x38_2)).f4.f1)] 30 (0, 0)) (by refine qd_ ?_; refine a0q (cs := #[.int .i64 ((a1q z30 t228 (rd l1 x38_2)).f0), .int .i64 ((a1q z30 t228 (rd l1 x38_2)).f1), .int .i64 ((a1q z30 t228 (rd l1 x38_2)).f2), .int .i64 ((a1q z30 t228 (rd l1 x38_2)).f3), .int .i64 ((a1q z30 t228 (rd l1 x38_2)).f4.f0), .int .i64 0]) ?_ 5 _ rfl; refine qd_ ?_; refine a0q (cs := #[.int .i64 ((a1q z30 t228 (rd l1 x38_2)).f0), .int .i64 ((a1q z30 t228 (rd l1 x38_2)).f1), .int .i64 ((a1q z30 t228 (rd l1 x38_2)).f2), .int .i64 ((a1q z30 t228 (rd l1 x38_2)).f3), .int .i64 0, .int .i64 0]) ?_ 4 _ rfl; refine qd_ ?_; refine a0q (cs := #[.int .i64 ((a1q z30 t228 (rd l1 x38_2)).f0), .int .i64 ((a1q z30 t228 (rd l1 x38_2)).f1), .int .i64 ((a1q z30 t228 (rd l1 x38_2)).f2), .int .i64 0, .int .i64 0, .int .i64 0]) ?_ 3 _ rfl; refine qd_ ?_; refine a0q (cs := #[.int .i64 ((a1q z30 t228 (rd l1 x38_2)).f0), .int .i64 ((a1q z30 t228 (rd l1 x38_2)).f1), .int .i64 0, .int .i64 0, .int .i64 0, .int .i64 0]) ?_ 2 _ rfl; refine qd_ ?_; refine a0q (cs := #[.int .i64 ((a1q z30 t228 (rd l1 x38_2)).f0), .int .i64 0, .int .i64 0, .int .i64 0, .int .i64 0, .int .i64 0]) ?_ 1 _ rfl; refine qd_ ?_; refine a0q (cs := #[.int .i64 0, .int .i64 0, .int .i64 0, .int .i64 0, .int .i64 0, .int .i64 0]) ?_ 0 _ rfl; refine qd_ ?_; exact BK233.out) k_ hk)); (case aO => exact (by (with_reducible repeat (first | apply Kd.a0n | apply Kd.a0o | apply Kd.a0m)); exact Kd.a0z (Kd.a0v (p := ⟨gb233, 5, none⟩) (Kd.a0v (p := ⟨gb233, 4, none⟩) (Kd.a0v (p := ⟨gb233, 3, none⟩) (Kd.a0v (p := ⟨gb233, 2, none⟩) (Kd.a0v (p := ⟨gb233, 1, none⟩) (Kd.a0v (p := ⟨gb233, 0, none⟩) (Kd.a0z HO_12.out (fun k_ hk => (⟨hk, hk.2⟩ : _ ∧ k_ ≠ gb233))) (fun _ hk => hk.2) (.int .i64 ((a1q z30 t228 (rd l1 x38_2)).f0))) (fun _ hk => hk.2) (.int .i64 ((a1q z30 t228 (rd l1 x38_2)).f1))) (fun _ hk => hk.2) (.int .i64 ((a1q z30 t228 (rd l1 x38_2)).f2))) (fun _ hk => hk.2) (.int .i64 ((a1q z30 t228 (rd l1 x38_2)).f3))) (fun _ hk => hk.2) (.int .i64 ((a1q z30 t228 (rd l1 x38_2)).f4.f0))) (fun _ hk => hk.2) (.int .i64 ((a1q z30 t228 (rd l1 x38_2)).f4.f1))) (fun _ hk => hk.1.2))); (case aS => exact (a1s qb_)); (case aL => have := LMc20.out; omega); intro v235 w25 ho hb hg hat; rw [← Ny234.out] at ho; replace BK229 := am_ (a4c (g := gb229) (o := a1o (fun x_ : S30 => Value.agg #[.int .i64 x_.f0, .int .i64 x_.f1, .int .i64 x_.f2, .int .i64 x_.f3, .int .i64 x_.f4.f0, .int .i64 x_.f4.f1]) t228) (by refine qd_ ?_; refine a1e ?_ NB229_233.out _; refine qd_ ?_; refine a1e ?_ NB229_233.out _; refine qd_ ?_; refine a1e ?_ NB229_233.out _; refine qd_ ?_; refine a1e ?_ NB229_233.out _; refine qd_ ?_; refine a1e ?_ NB229_233.out _; refine qd_ ?_; refine a1e ?_ NB229_233.out _; refine qd_ ?_; exact BK229.out) hg (a6z HO_12.out BK229.out)); replace BK231 := am_ (a4c (g := gb231) (o := a1o (Value.bool) x232000_2) (by refine qd_ ?_; refine a1e ?_ NB231_233.out _; refine qd_ ?_; refine a1e ?_ NB231_233.out _; refine qd_ ?_; refine a1e ?_ NB231_233.out _; refine qd_ ?_; refine a1e ?_ NB231_233.out _; refine qd_ ?_; refine a1e ?_ NB231_233.out _; refine qd_ ?_; refine a1e ?_ NB231_233.out _; refine qd_ ?_; exact BK231.out) hg (a6z HO_12.out BK231.out)); replace BK233 := am_ (a4c (g := gb233) (o := .cells #[.int .i64 ((a1q z30 t228 (rd l1 x38_2)).f0), .int .i64 ((a1q z30 t228 (rd l1 x38_2)).f1), .int .i64 ((a1q z30 t228 (rd l1 x38_2)).f2), .int .i64 ((a1q z30 t228 (rd l1 x38_2)).f3), .int .i64 ((a1q z30 t228 (rd l1 x38_2)).f4.f0), .int .i64 ((a1q z30 t228 (rd l1 x38_2)).f4.f1)] 30 (0, 0)) (by refine qd_ ?_; refine a0q (cs := #[.int .i64 ((a1q z30 t228 (rd l1 x38_2)).f0), .int .i64 ((a1q z30 t228 (rd l1 x38_2)).f1), .int .i64 ((a1q z30 t228 (rd l1 x38_2)).f2), .int .i64 ((a1q z30 t228 (rd l1 x38_2)).f3), .int .i64 ((a1q z30 t228 (rd l1 x38_2)).f4.f0), .int .i64 0]) ?_ 5 _ rfl; refine qd_ ?_; refine a0q (cs := #[.int .i64 ((a1q z30 t228 (rd l1 x38_2)).f0), .int .i64 ((a1q z30 t228 (rd l1 x38_2)).f1), .int .i64 ((a1q z30 t228 (rd l1 x38_2)).f2), .int .i64 ((a1q z30 t228 (rd l1 x38_2)).f3), .int .i64 0, .int .i64 0]) ?_ 4 _ rfl; refine qd_ ?_; refine a0q (cs := #[.int .i64 ((a1q z30 t228 (rd l1 x38_2)).f0), .int .i64 ((a1q z30 t228 (rd l1 x38_2)).f1), .int .i64 ((a1q z30 t228 (rd l1 x38_2)).f2), .int .i64 0, .int .i64 0, .int .i64 0]) ?_ 3 _ rfl; refine qd_ ?_; refine a0q (cs := #[.int .i64 ((a1q z30 t228 (rd l1 x38_2)).f0), .int .i64 ((a1q z30 t228 (rd l1 x38_2)).f1), .int .i64 0, .int .i64 0, .int .i64 0, .int .i64 0]) ?_ 2 _ rfl; refine qd_ ?_; refine a0q (cs := #[.int .i64 ((a1q z30 t228 (rd l1 x38_2)).f0), .int .i64 0, .int .i64 0, .int .i64 0, .int .i64 0, .int .i64 0]) ?_ 1 _ rfl; refine qd_ ?_; refine a0q (cs := #[.int .i64 0, .int .i64 0, .int .i64 0, .int .i64 0, .int .i64 0, .int .i64 0]) ?_ 0 _ rfl; refine qd_ ?_; exact BK233.out) hg (Kd.b2c HO_12.out (fun _ hk => hk.2))); replace HB := am_ (hb); have HO236 := am_ (ho); clear HO_12 ho hb hg hat) | ((with_reducible refine a7o (t := 57) (p := 55) rfl ?_); refine a6y rfl rfl (M := x232000_2) (k := rd l1 x38_2) (y := true) Try.underlying57 Try.underlying3 (qk_ BK231) rfl ?hx ?hv ?_; (case hx => first | rfl | (go_simp; done) | (go_simp; rfl)); (case hv => first | rfl | (go_simp; done) | (go_simp; rfl)); intro w26 hM hg; replace BK229 := am_ (a4c (g := gb229) (o := a1o (fun x_ : S30 => Value.agg #[.int .i64 x_.f0, .int .i64 x_.f1, .int .i64 x_.f2, .int .i64 x_.f3, .int .i64 x_.f4.f0, .int .i64 x_.f4.f1]) t228) (qk_ BK229) hg (fun h_ => NB229_231.out (si_ h_))); replace BK233 := am_ (a4c (g := gb233) (o := .cells #[.int .i64 ((a1q z30 t228 (rd l1 x38_2)).f0), .int .i64 ((a1q z30 t228 (rd l1 x38_2)).f1), .int .i64 ((a1q z30 t228 (rd l1 x38_2)).f2), .int .i64 ((a1q z30 t228 (rd l1 x38_2)).f3), .int .i64 ((a1q z30 t228 (rd l1 x38_2)).f4.f0), .int .i64 ((a1q z30 t228 (rd l1 x38_2)).f4.f1)] 30 (0, 0)) (qk_ BK233) hg (fun h_ => NB233_231.out (si_ h_))); replace HO236 := am_ (b3j (qr_ HO236) (qk_ BK231) hg); replace BK231 := am_ (hM); replace HB := am_ (a6h qb_ hg GE231.out); clear hg hM))
            go_roundg k2
            case measure => have := HJ4.out; have := HK2.out; omega
            case rel => exact ⟨(y234), (wrap64 (x38_2 + 1)), (mput x232000_2 (rd l1 x38_2) true), qs_, H', ⟨by have := HJ4.out; have := HK2.out; omega⟩, ⟨by (with_reducible repeat (first | apply Kd.a0n | apply Kd.a0o | apply Kd.a0m)); exact Kd.a0z HO236.out (fun _ hk => trivial)⟩, ⟨qk_ BK229⟩, ⟨qk_ BK231⟩, ⟨qb_⟩⟩
           ·rw [if_neg c20] at H
            exact absurd H (by simp)
         ·rw [if_neg c14] at H
          have c14b0 : mhas t228 (rd l1 x38_2) = false := by simpa using c14
          clear c14
          simp only [Option.some.injEq, Prod.mk.injEq] at H
          obtain ⟨rfl, rfl, rfl⟩ := H
          have p232 : 0 ≤ (x38_2 : Int) := ot_
          have q232 : x38_2 < (l1.length : Int) := ot_
          obtain ⟨ad232, e232, hx232_0⟩ := Kd.a4l HR1.out x38_2 p232 q232
          cases e232
          replace hx232_0 := qh_ HB hx232_0
          replace p232 := eq_true p232
          replace q232 := eq_true q232
          go_wp2_with (first | ((with_reducible refine a1g (N := 45) rfl ?_); refine a6g (enc := fun x_ : S30 => Value.agg #[.int .i64 x_.f0, .int .i64 x_.f1, .int .i64 x_.f2, .int .i64 x_.f3, .int .i64 x_.f4.f0, .int .i64 x_.f4.f1]) (d := z30) rfl (N := 45) rfl rfl (M := t228) (k := rd l1 x38_2) Try.underlying59 Try.underlying3 (by kernel_rfl) (qk_ BK229) rfl ?hx ?_; (case hx => first | rfl | (go_simp; done) | (go_simp; rfl))) | ((with_reducible refine a1g (N := 15) rfl ?_); refine qev_ 15 #[.int .i64 0, .int .i64 0, .int .i64 0, .int .i64 0, .int .i64 0, .int .i64 0] 30 ?_; intro gb233 hg w27 hbox hb; replace HO_12 := am_ (Kd.a3f (Kd.a3n (qr_ HO_12) gb233 (Nat.le_of_eq hg.symm)) hb); have BK233 := am_ (hbox); have GW233 := qga_ hg; have GE233 := qga_ hg; replace HB := qbs_ hb; have NB229_233 := am_ ((by rw [hg]; exact Nat.ne_of_lt (a2d (g := gb229) (o := a1o (fun x_ : S30 => Value.agg #[.int .i64 x_.f0, .int .i64 x_.f1, .int .i64 x_.f2, .int .i64 x_.f3, .int .i64 x_.f4.f0, .int .i64 x_.f4.f1]) t228) (qk_ BK229)) : gb229 ≠ gb233)); have NB233_229 := am_ ((by rw [hg]; exact Nat.ne_of_gt (a2d (g := gb229) (o := a1o (fun x_ : S30 => Value.agg #[.int .i64 x_.f0, .int .i64 x_.f1, .int .i64 x_.f2, .int .i64 x_.f3, .int .i64 x_.f4.f0, .int .i64 x_.f4.f1]) t228) (qk_ BK229)) : gb233 ≠ gb229)); replace BK229 := am_ (a2v (g := gb229) (o := a1o (fun x_ : S30 => Value.agg #[.int .i64 x_.f0, .int .i64 x_.f1, .int .i64 x_.f2, .int .i64 x_.f3, .int .i64 x_.f4.f0, .int .i64 x_.f4.f1]) t228) (qk_ BK229) hb); have NB231_233 := am_ ((by rw [hg]; exact Nat.ne_of_lt (a2d (g := gb231) (o := a1o (Value.bool) x232000_2) (qk_ BK231)) : gb231 ≠ gb233)); have NB233_231 := am_ ((by rw [hg]; exact Nat.ne_of_gt (a2d (g := gb231) (o := a1o (Value.bool) x232000_2) (qk_ BK231)) : gb233 ≠ gb231)); replace BK231 := am_ (a2v (g := gb231) (o := a1o (Value.bool) x232000_2) (qk_ BK231) hb); clear hb hbox hg; have hnb28 := NB233_229.out; have hnc28 := NB229_233.out; have hnb29 := NB233_231.out; have hnc29 := NB231_233.out; obtain ⟨z'30_0, z'30_1, z'30_2, z'30_3, z'30_4, z'30_5⟩ := qz6_ BK233; obtain ⟨y'30_0, y'30_1, y'30_2, y'30_3, y'30_4, y'30_5⟩ := qf6_ BK233))
          go_ret3
          exact ⟨_, qx_, by first | exact Kd.a5x _ _ _ _ _ | exact Kd.N_nil _ _ _ _ _ | exact Kd.V_nil _ _ _ _ _ | exact Kd.Q_nil _ _ _ _ _ | exact Kd.S_nil _ _ _ _ _, qb_⟩
        ·rw [if_neg c13] at H
         exact absurd H (by simp)
       ·rw [if_neg c12] at H
        exact absurd H (by simp)
      ·rw [if_neg c11] at H
       have c11b0 : decide (x38_2 < (l1.length : Int)) = false := decide_eq_false c11
       clear c11
       replace H := bm_ H
       obtain ⟨t237, A310, H⟩ := H
       replace H : (a0g.l1 k2 a2 ([] : List (S30)) t237 (x12_2.length : Int) 0) = some (r1, r2, r3) := H
       have A31 := am_ A310
       clear A310
       have H' := am_ H
       clear H
       obtain ⟨Ao32, co32, eo32⟩ := Kd.a1v HO_12.out
       subst eo32
       go_wp2_with (first | ((with_reducible refine a1c (f := 29) rfl ?_); refine a1y (some 63) rfl rfl Try.func29 (by kernel_rfl) rfl #[.slice Ao32 x12_2.length co32, .func (.func 30) #[] #[]] rfl ql_ ?_; (with_reducible refine (a1t.calls k2 (fun k_ => some k_ = (.slice Ao32 x12_2.length co32 : Value).ownBlock) (.slice Ao32 x12_2.length co32) x12_2  t237 w _ ?s1 ?s2 A31.out).mono ?_); (case s1 => repeat (first | (with_reducible first | exact HB.out | apply la_ | apply ln_ | apply ld_ | refine ls_ ?_ GE229.out | refine ls_ ?_ GE231.out) | exact HB.out)); (case s2 => exact Kd.a4f rfl HO_12.out); rintro e w33 ⟨rfl, hy0, hb, hkp⟩; refine ⟨_, rfl, ?_⟩; replace BK229 := am_ (b0c (qk_ BK229) hkp (fun hs_ => (fun e_ => (a6z HO_12.out BK229.out) e_) hs_)); replace BK231 := am_ (b0c (qk_ BK231) hkp (fun hs_ => (fun e_ => (a6z HO_12.out BK231.out) e_) hs_)); replace HO_12 := am_ (Kd.a4r rfl hy0 (fun k_ e_ => HO_12.out.1 k_ e_)); replace HB := am_ (hb); (try clear hb); (try clear hkp); (try clear hy0)))
       go_loopg [2, 17, 66] k2 (fun kq v2 v17 v66 w' => ∃ (x2_3 : Int) (x17_3 : List (S30)) (x66_3 : Int), v2 = .int .i64 x2_3 ∧ v66 = .int .i64 x66_3 ∧ Aside0 (a0g.l1 kq x2_3 x17_3 t237 (x12_2.length : Int) x66_3 = some (r1, r2, r3)) ∧ Aside0 (kq ≤ k2) ∧ Aside0 (Kd.R k30 30 w' w.heap.size (fun k_ => some k_ ≠ ((.slice Ao32 x12_2.length co32) : Value).ownBlock) v17 x17_3) ∧ Aside0 (Kd.R k30 30 w' w.heap.size (fun k_ => some k_ ≠ (v17 : Value).ownBlock) (.slice Ao32 x12_2.length co32) t237) ∧ Aside0 (w'.heap[gb229]? = some (a1o (fun x_ : S30 => Value.agg #[.int .i64 x_.f0, .int .i64 x_.f1, .int .i64 x_.f2, .int .i64 x_.f3, .int .i64 x_.f4.f0, .int .i64 x_.f4.f1]) t228)) ∧ Aside0 (w'.heap[gb231]? = some (a1o (Value.bool) x232000_2)) ∧ Aside0 (Below w.heap.size w w'))
       case atStart => exact ⟨(a2), (([] : List (S30))), (0), qs_, qs_, H', ⟨Nat.le_refl _⟩, ⟨by first | exact Kd.a5x _ _ _ _ _ | exact Kd.N_nil _ _ _ _ _ | exact Kd.V_nil _ _ _ _ _ | exact Kd.Q_nil _ _ _ _ _ | exact Kd.S_nil _ _ _ _ _⟩, ⟨by (with_reducible repeat (first | apply Kd.a0n | apply Kd.a0o | apply Kd.a0m)); exact Kd.a0z HO_12.out (fun _ hk => (by simp [Value.ownBlock]))⟩, ⟨qk_ BK229⟩, ⟨qk_ BK231⟩, ⟨qb_⟩⟩
       case round =>
        clear H'
        try clear c1
        try clear c2
        try clear p2
        try clear q2
        try clear hx2
        try clear p6
        try clear c7
        try clear c8
        try clear c8b0
        try clear c9
        try clear c11
        try clear c11b0
        try clear c12
        try clear c12b0
        try clear c13
        try clear c13b0
        try clear c14
        try clear c14b0
        try clear c15
        try clear c15b0
        try clear c17
        try clear c18
        try clear c20
        try clear c22
        try clear c23
        try clear p23
        try clear q23
        try clear hx23
        try clear c28
        try clear c29
        try clear z'19_0 z'19_1 z'19_2 z'19_3 z'19_4 z'19_5
        try clear z'24_0 z'24_1 z'24_2 z'24_3 z'24_4 z'24_5
        try clear z'30_0 z'30_1 z'30_2 z'30_3 z'30_4 z'30_5
        try clear y'19_0 y'19_1 y'19_2 y'19_3 y'19_4 y'19_5
        try clear y'24_0 y'24_1 y'24_2 y'24_3 y'24_4 y'24_5
        try clear y'30_0 y'30_1 y'30_2 y'30_3 y'30_4 y'30_5
        try clear hx232_0
        try clear p2
        try clear p232
        try clear q232
        obtain ⟨x2_3, x17_3, x66_3, rfl, rfl, HA, HK3, HO_17, HO_64, BK229, BK231, HB⟩ := hrel
        have hl64_3 := (Kd.a0p HO_64.out).1
        rw [hl64_3] at HO_64
        (try simp only [hl64_3])
        (try simp only [hl64_3] at BK229)
        (try simp only [hl64_3] at BK231)
        (try simp only [hl64_3] at HO_17)
        cases gk with
        | zero => exact absurd HA.out (by simp [a0g.l1])
        | succ k3 =>
         have H := HA.out
         clear HA
         simp only [a0g.l1] at H
         by_cases c34 : x66_3 < (x12_2.length : Int)
         ·rw [if_pos c34] at H
          have c34b0 : decide (x66_3 < (x12_2.length : Int)) = true := decide_eq_true c34
          clear c34
          by_cases c35 : 0 ≤ x66_3
          ·rw [if_pos c35] at H
           have c35b0 : decide (0 ≤ x66_3) = true := decide_eq_true c35
           clear c35
           by_cases c36 : x66_3 < (t237.length : Int)
           ·rw [if_pos c36] at H
            have c36b0 : decide (x66_3 < (t237.length : Int)) = true := decide_eq_true c36
            clear c36
            by_cases c37 : x2_3 = 0
            ·rw [if_pos c37] at H
             have c37b0 : (x2_3 == 0) = true := beq_iff_eq.mpr c37
             have c37b1 : (x2_3 != 0) = false := bne_eq_false_iff_eq.mpr c37
             clear c37
             simp only [Option.some.injEq, Prod.mk.injEq] at H
             obtain ⟨rfl, rfl, rfl⟩ := H
             have p238 : 0 ≤ (x66_3 : Int) := ot_
             have q238 : x66_3 < (t237.length : Int) := ot_
             obtain ⟨ad238, e238, hx238_0, hx238_1, hx238_2, hx238_3, hx238_4, hx238_5⟩ := a3q (Kd.a0p HO_64.out).2.2 x66_3 p238 q238
             cases e238
             replace p238 := eq_true p238
             replace q238 := eq_true q238
             go_wp2_with (first | ((with_reducible refine a1g (N := 19) rfl ?_); refine qev_ 19 #[.int .i64 0, .int .i64 0, .int .i64 0, .int .i64 0, .int .i64 0, .int .i64 0] 30 ?_; intro gb239 hg w38 hbox hb; replace HO_17 := am_ (Kd.a3f (Kd.a3n (qr_ HO_17) gb239 (Nat.le_of_eq hg.symm)) hb); replace HO_64 := am_ (Kd.a3f (Kd.a3n (qr_ HO_64) gb239 (Nat.le_of_eq hg.symm)) hb); have BK239 := am_ (hbox); have GW239 := qga_ hg; have GE239 := qga_ hg; replace HB := qbs_ hb; have NB229_239 := am_ ((by rw [hg]; exact Nat.ne_of_lt (a2d (g := gb229) (o := a1o (fun x_ : S30 => Value.agg #[.int .i64 x_.f0, .int .i64 x_.f1, .int .i64 x_.f2, .int .i64 x_.f3, .int .i64 x_.f4.f0, .int .i64 x_.f4.f1]) t228) (qk_ BK229)) : gb229 ≠ gb239)); have NB239_229 := am_ ((by rw [hg]; exact Nat.ne_of_gt (a2d (g := gb229) (o := a1o (fun x_ : S30 => Value.agg #[.int .i64 x_.f0, .int .i64 x_.f1, .int .i64 x_.f2, .int .i64 x_.f3, .int .i64 x_.f4.f0, .int .i64 x_.f4.f1]) t228) (qk_ BK229)) : gb239 ≠ gb229)); replace BK229 := am_ (a2v (g := gb229) (o := a1o (fun x_ : S30 => Value.agg #[.int .i64 x_.f0, .int .i64 x_.f1, .int .i64 x_.f2, .int .i64 x_.f3, .int .i64 x_.f4.f0, .int .i64 x_.f4.f1]) t228) (qk_ BK229) hb); have NB231_239 := am_ ((by rw [hg]; exact Nat.ne_of_lt (a2d (g := gb231) (o := a1o (Value.bool) x232000_2) (qk_ BK231)) : gb231 ≠ gb239)); have NB239_231 := am_ ((by rw [hg]; exact Nat.ne_of_gt (a2d (g := gb231) (o := a1o (Value.bool) x232000_2) (qk_ BK231)) : gb239 ≠ gb231)); replace BK231 := am_ (a2v (g := gb231) (o := a1o (Value.bool) x232000_2) (qk_ BK231) hb); clear hb hbox hg; have hnb39 := NB239_229.out; have hnc39 := NB229_239.out; have hnb40 := NB239_231.out; have hnc40 := NB231_239.out; obtain ⟨z'41_0, z'41_1, z'41_2, z'41_3, z'41_4, z'41_5⟩ := qz6_ BK239; obtain ⟨y'41_0, y'41_1, y'41_2, y'41_3, y'41_4, y'41_5⟩ := qf6_ BK239))
             go_ret3
             exact ⟨_, qx_, by (with_reducible repeat (first | apply Kd.a0n | apply Kd.a0o | apply Kd.a0m)); exact Kd.a0z (Kd.a0v (p := ⟨gb239, 5, none⟩) (Kd.a0v (p := ⟨gb239, 4, none⟩) (Kd.a0v (p := ⟨gb239, 3, none⟩) (Kd.a0v (p := ⟨gb239, 2, none⟩) (Kd.a0v (p := ⟨gb239, 1, none⟩) (Kd.a0v (p := ⟨gb239, 0, none⟩) (Kd.a0z HO_17.out (fun k_ hk => (⟨hk, hk.2⟩ : _ ∧ k_ ≠ gb239))) (fun _ hk => hk.2) (.int .i64 ((a0a t237 x66_3).f0))) (fun _ hk => hk.2) (.int .i64 ((a0a t237 x66_3).f1))) (fun _ hk => hk.2) (.int .i64 ((a0a t237 x66_3).f2))) (fun _ hk => hk.2) (.int .i64 ((a0a t237 x66_3).f3))) (fun _ hk => hk.2) (.int .i64 ((a0a t237 x66_3).f4.f0))) (fun _ hk => hk.2) (.int .i64 ((a0a t237 x66_3).f4.f1))) (fun _ hk => trivial), qb_⟩
            ·rw [if_neg c37] at H
             have c37b0 : (x2_3 == 0) = false := beq_eq_false_iff_ne.mpr c37
             have c37b1 : (x2_3 != 0) = true := bne_iff_ne.mpr c37
             obtain ⟨ji42, hji42⟩ : ∃ j_ : Int, (mn ((a0a t237 x66_3).f3) x2_3) = j_ := ⟨_, rfl⟩
             replace H : (if x17_3.length < 2932031007402 then (a0g.l1 k3 (wrap64 (x2_3 - (ji42))) (x17_3 ++ [(⟨(a0a t237 x66_3).f0, (a0a t237 x66_3).f1, (a0a t237 x66_3).f2, ji42, (⟨(a0a t237 x66_3).f4.f0, (a0a t237 x66_3).f4.f1⟩ : S28)⟩ : S30)]) t237 (x12_2.length : Int) (wrap64 (x66_3 + 1))) else (none)) = some (r1, r2, r3) := by first | (rw [hji42] at H; exact H) | (simp only [hji42] at H ⊢; exact H)
             have hji42_ : (if x2_3 < ((a0a t237 x66_3).f3) then x2_3 else ((a0a t237 x66_3).f3)) = ji42 := hji42
             by_cases c43 : x17_3.length < 2932031007402
             ·rw [if_pos c43] at H
              have LMc43 := am_ c43
              clear c43
              obtain ⟨y240, hy240⟩ : ∃ y_ : List (S30), y_ = (x17_3 ++ [(⟨(a0a t237 x66_3).f0, (a0a t237 x66_3).f1, (a0a t237 x66_3).f2, ji42, (⟨(a0a t237 x66_3).f4.f0, (a0a t237 x66_3).f4.f1⟩ : S28)⟩ : S30)]) := ⟨_, rfl⟩
              replace H : (a0g.l1 k3 (wrap64 (x2_3 - (ji42))) y240 t237 (x12_2.length : Int) (wrap64 (x66_3 + 1))) = some (r1, r2, r3) := by first | (rw [hy240]; with_reducible exact H) | (have H2_ := (Option.bind_some _ _).symm.trans H; rw [hy240]; with_reducible exact H2_) | (have H2_ := (Option.bind_some _ _).symm.trans H; with_reducible exact H2_) | with_reducible exact H | (rw [hy240]; exact H) | exact H
              have Ny240 := am_ hy240
              clear hy240
              have H' := am_ H
              clear H
              have p238 : 0 ≤ (x66_3 : Int) := ot_
              have q238 : x66_3 < (t237.length : Int) := ot_
              obtain ⟨ad238, e238, hx238_0, hx238_1, hx238_2, hx238_3, hx238_4, hx238_5⟩ := a3q (Kd.a0p HO_64.out).2.2 x66_3 p238 q238
              cases e238
              replace p238 := eq_true p238
              replace q238 := eq_true q238
              go_wp2_with (first | ((with_reducible refine b1t rfl ?_); refine b0t rfl rfl rfl rfl hji42_ ?_) | ((with_reducible refine a1g (N := 79) rfl ?_); refine b0j rfl rfl rfl rfl Try.underlying3 (.int .i64 ji42) (cell_of_row _ _ 3 #[.int .i64 ((a0a t237 x66_3).f0), .int .i64 ((a0a t237 x66_3).f1), .int .i64 ((a0a t237 x66_3).f2), .int .i64 ji42, .int .i64 ((a0a t237 x66_3).f4.f0), .int .i64 ((a0a t237 x66_3).f4.f1)] 30 _ (by refine qd_ ?_; refine a0q (cs := #[.int .i64 ((a0a t237 x66_3).f0), .int .i64 ((a0a t237 x66_3).f1), .int .i64 ((a0a t237 x66_3).f2), .int .i64 ((a0a t237 x66_3).f3), .int .i64 ((a0a t237 x66_3).f4.f0), .int .i64 ((a0a t237 x66_3).f4.f1)]) ?_ 3 _ rfl; refine qd_ ?_; refine a0q (cs := #[.int .i64 ((a0a t237 x66_3).f0), .int .i64 ((a0a t237 x66_3).f1), .int .i64 ((a0a t237 x66_3).f2), .int .i64 ((a0a t237 x66_3).f3), .int .i64 ((a0a t237 x66_3).f4.f0), .int .i64 0]) ?_ 5 _ rfl; refine qd_ ?_; refine a0q (cs := #[.int .i64 ((a0a t237 x66_3).f0), .int .i64 ((a0a t237 x66_3).f1), .int .i64 ((a0a t237 x66_3).f2), .int .i64 ((a0a t237 x66_3).f3), .int .i64 0, .int .i64 0]) ?_ 4 _ rfl; refine qd_ ?_; refine a0q (cs := #[.int .i64 ((a0a t237 x66_3).f0), .int .i64 ((a0a t237 x66_3).f1), .int .i64 ((a0a t237 x66_3).f2), .int .i64 0, .int .i64 0, .int .i64 0]) ?_ 3 _ rfl; refine qd_ ?_; refine a0q (cs := #[.int .i64 ((a0a t237 x66_3).f0), .int .i64 ((a0a t237 x66_3).f1), .int .i64 0, .int .i64 0, .int .i64 0, .int .i64 0]) ?_ 2 _ rfl; refine qd_ ?_; refine a0q (cs := #[.int .i64 ((a0a t237 x66_3).f0), .int .i64 0, .int .i64 0, .int .i64 0, .int .i64 0, .int .i64 0]) ?_ 1 _ rfl; refine qd_ ?_; refine a0q (cs := #[.int .i64 0, .int .i64 0, .int .i64 0, .int .i64 0, .int .i64 0, .int .i64 0]) ?_ 0 _ rfl; refine qd_ ?_; exact BK239.out)) ?_) | ((with_reducible refine a1g (N := 82) rfl ?_); refine wpList_load_row rfl 30 _ rfl gb239 rfl 30 #[.int .i64 ((a0a t237 x66_3).f0), .int .i64 ((a0a t237 x66_3).f1), .int .i64 ((a0a t237 x66_3).f2), .int .i64 ji42, .int .i64 ((a0a t237 x66_3).f4.f0), .int .i64 ((a0a t237 x66_3).f4.f1)] (0, 0) _ (by refine qd_ ?_; refine a0q (cs := #[.int .i64 ((a0a t237 x66_3).f0), .int .i64 ((a0a t237 x66_3).f1), .int .i64 ((a0a t237 x66_3).f2), .int .i64 ((a0a t237 x66_3).f3), .int .i64 ((a0a t237 x66_3).f4.f0), .int .i64 ((a0a t237 x66_3).f4.f1)]) ?_ 3 _ rfl; refine qd_ ?_; refine a0q (cs := #[.int .i64 ((a0a t237 x66_3).f0), .int .i64 ((a0a t237 x66_3).f1), .int .i64 ((a0a t237 x66_3).f2), .int .i64 ((a0a t237 x66_3).f3), .int .i64 ((a0a t237 x66_3).f4.f0), .int .i64 0]) ?_ 5 _ rfl; refine qd_ ?_; refine a0q (cs := #[.int .i64 ((a0a t237 x66_3).f0), .int .i64 ((a0a t237 x66_3).f1), .int .i64 ((a0a t237 x66_3).f2), .int .i64 ((a0a t237 x66_3).f3), .int .i64 0, .int .i64 0]) ?_ 4 _ rfl; refine qd_ ?_; refine a0q (cs := #[.int .i64 ((a0a t237 x66_3).f0), .int .i64 ((a0a t237 x66_3).f1), .int .i64 ((a0a t237 x66_3).f2), .int .i64 0, .int .i64 0, .int .i64 0]) ?_ 3 _ rfl; refine qd_ ?_; refine a0q (cs := #[.int .i64 ((a0a t237 x66_3).f0), .int .i64 ((a0a t237 x66_3).f1), .int .i64 0, .int .i64 0, .int .i64 0, .int .i64 0]) ?_ 2 _ rfl; refine qd_ ?_; refine a0q (cs := #[.int .i64 ((a0a t237 x66_3).f0), .int .i64 0, .int .i64 0, .int .i64 0, .int .i64 0, .int .i64 0]) ?_ 1 _ rfl; refine qd_ ?_; refine a0q (cs := #[.int .i64 0, .int .i64 0, .int .i64 0, .int .i64 0, .int .i64 0, .int .i64 0]) ?_ 0 _ rfl; refine qd_ ?_; exact BK239.out) Try.underlying30 rfl (by kernel_rfl) ?_) | ((with_reducible refine a1g (N := 19) rfl ?_); refine qev_ 19 #[.int .i64 0, .int .i64 0, .int .i64 0, .int .i64 0, .int .i64 0, .int .i64 0] 30 ?_; intro gb239 hg w44 hbox hb; replace HO_17 := am_ (Kd.a3f (Kd.a3n (qr_ HO_17) gb239 (Nat.le_of_eq hg.symm)) hb); replace HO_64 := am_ (Kd.a3f (Kd.a3n (qr_ HO_64) gb239 (Nat.le_of_eq hg.symm)) hb); have BK239 := am_ (hbox); have GW239 := qga_ hg; have GE239 := qga_ hg; replace HB := qbs_ hb; have NB229_239 := am_ ((by rw [hg]; exact Nat.ne_of_lt (a2d (g := gb229) (o := a1o (fun x_ : S30 => Value.agg #[.int .i64 x_.f0, .int .i64 x_.f1, .int .i64 x_.f2, .int .i64 x_.f3, .int .i64 x_.f4.f0, .int .i64 x_.f4.f1]) t228) (qk_ BK229)) : gb229 ≠ gb239)); have NB239_229 := am_ ((by rw [hg]; exact Nat.ne_of_gt (a2d (g := gb229) (o := a1o (fun x_ : S30 => Value.agg #[.int .i64 x_.f0, .int .i64 x_.f1, .int .i64 x_.f2, .int .i64 x_.f3, .int .i64 x_.f4.f0, .int .i64 x_.f4.f1]) t228) (qk_ BK229)) : gb239 ≠ gb229)); replace BK229 := am_ (a2v (g := gb229) (o := a1o (fun x_ : S30 => Value.agg #[.int .i64 x_.f0, .int .i64 x_.f1, .int .i64 x_.f2, .int .i64 x_.f3, .int .i64 x_.f4.f0, .int .i64 x_.f4.f1]) t228) (qk_ BK229) hb); have NB231_239 := am_ ((by rw [hg]; exact Nat.ne_of_lt (a2d (g := gb231) (o := a1o (Value.bool) x232000_2) (qk_ BK231)) : gb231 ≠ gb239)); have NB239_231 := am_ ((by rw [hg]; exact Nat.ne_of_gt (a2d (g := gb231) (o := a1o (Value.bool) x232000_2) (qk_ BK231)) : gb239 ≠ gb231)); replace BK231 := am_ (a2v (g := gb231) (o := a1o (Value.bool) x232000_2) (qk_ BK231) hb); clear hb hbox hg; have hnb45 := NB239_229.out; have hnc45 := NB229_239.out; have hnb46 := NB239_231.out; have hnc46 := NB231_239.out; obtain ⟨z'47_0, z'47_1, z'47_2, z'47_3, z'47_4, z'47_5⟩ := qz6_ BK239; obtain ⟨y'47_0, y'47_1, y'47_2, y'47_3, y'47_4, y'47_5⟩ := qf6_ BK239) | ((with_reducible refine a5i (b := .append) (xs := #[.tmp 81, .tmp 83]) rfl ?_); at_builtin; refine Kd.a6x k30 (w0 := w) w.heap.size rfl (.tmp 81) (.tmp 83) 22 30 (.agg #[(.int .i64 0), (.int .i64 0), (.int .i64 0), (.int .i64 0), (.int .i64 0), (.int .i64 0)]) 48 rfl Try.underlying22 b2o rfl (by decide) (by omega) u17 x17_3 (⟨(a0a t237 x66_3).f0, (a0a t237 x66_3).f1, (a0a t237 x66_3).f2, ji42, (⟨(a0a t237 x66_3).f4.f0, (a0a t237 x66_3).f4.f1⟩ : S28)⟩ : S30) [.int .i64 ((a0a t237 x66_3).f0), .int .i64 ((a0a t237 x66_3).f1), .int .i64 ((a0a t237 x66_3).f2), .int .i64 ji42, .int .i64 ((a0a t237 x66_3).f4.f0), .int .i64 ((a0a t237 x66_3).f4.f1)] (fun k_ => some k_ ≠ (.slice (some ad238) t237.length co32 : Value).ownBlock ∧ k_ ≠ gb239) (fun _ => False) rfl (by first | (go_simp; done) | (go_simp; rfl)) ?aP (fun _ hk => hk.elim) ?aF ?aO ?aB ?aS ?aL ?_; (case aP => exact a5e _ _ _ (⟨(a0a t237 x66_3).f0, (a0a t237 x66_3).f1, (a0a t237 x66_3).f2, ji42, (⟨(a0a t237 x66_3).f4.f0, (a0a t237 x66_3).f4.f1⟩ : S28)⟩ : S30)); (case aB => exact qb_); (case aF => exact (fun k_ hk => ⟨Kd.fresh' (Kd.R_lt (by (with_reducible repeat (first | apply Kd.a0n | apply Kd.a0o | apply Kd.a0m)); exact (Kd.a0z (Kd.a0v (p := ⟨gb239, 3, none⟩) (Kd.a0v (p := ⟨gb239, 5, none⟩) (Kd.a0v (p := ⟨gb239, 4, none⟩) (Kd.a0v (p := ⟨gb239, 3, none⟩) (Kd.a0v (p := ⟨gb239, 2, none⟩) (Kd.a0v (p := ⟨gb239, 1, none⟩) (Kd.a0v (p := ⟨gb239, 0, none⟩) (Kd.a0z HO_64.out (fun k_ hk => (⟨hk, hk.2⟩ : _ ∧ k_ ≠ gb239))) (fun _ hk => hk.2) (.int .i64 ((a0a t237 x66_3).f0))) (fun _ hk => hk.2) (.int .i64 ((a0a t237 x66_3).f1))) (fun _ hk => hk.2) (.int .i64 ((a0a t237 x66_3).f2))) (fun _ hk => hk.2) (.int .i64 ((a0a t237 x66_3).f3))) (fun _ hk => hk.2) (.int .i64 ((a0a t237 x66_3).f4.f0))) (fun _ hk => hk.2) (.int .i64 ((a0a t237 x66_3).f4.f1))) (fun _ hk => hk.2) (.int .i64 ji42)) (fun _ h_ => h_.1)))) k_ hk, Kd.b2e (g := gb239) (o := .cells #[.int .i64 ((a0a t237 x66_3).f0), .int .i64 ((a0a t237 x66_3).f1), .int .i64 ((a0a t237 x66_3).f2), .int .i64 ji42, .int .i64 ((a0a t237 x66_3).f4.f0), .int .i64 ((a0a t237 x66_3).f4.f1)] 30 (0, 0)) (by refine qd_ ?_; refine a0q (cs := #[.int .i64 ((a0a t237 x66_3).f0), .int .i64 ((a0a t237 x66_3).f1), .int .i64 ((a0a t237 x66_3).f2), .int .i64 ((a0a t237 x66_3).f3), .int .i64 ((a0a t237 x66_3).f4.f0), .int .i64 ((a0a t237 x66_3).f4.f1)]) ?_ 3 _ rfl; refine qd_ ?_; refine a0q (cs := #[.int .i64 ((a0a t237 x66_3).f0), .int .i64 ((a0a t237 x66_3).f1), .int .i64 ((a0a t237 x66_3).f2), .int .i64 ((a0a t237 x66_3).f3), .int .i64 ((a0a t237 x66_3).f4.f0), .int .i64 0]) ?_ 5 _ rfl; refine qd_ ?_; refine a0q (cs := #[.int .i64 ((a0a t237 x66_3).f0), .int .i64 ((a0a t237 x66_3).f1), .int .i64 ((a0a t237 x66_3).f2), .int .i64 ((a0a t237 x66_3).f3), .int .i64 0, .int .i64 0]) ?_ 4 _ rfl; refine qd_ ?_; refine a0q (cs := #[.int .i64 ((a0a t237 x66_3).f0), .int .i64 ((a0a t237 x66_3).f1), .int .i64 ((a0a t237 x66_3).f2), .int .i64 0, .int .i64 0, .int .i64 0]) ?_ 3 _ rfl; refine qd_ ?_; refine a0q (cs := #[.int .i64 ((a0a t237 x66_3).f0), .int .i64 ((a0a t237 x66_3).f1), .int .i64 0, .int .i64 0, .int .i64 0, .int .i64 0]) ?_ 2 _ rfl; refine qd_ ?_; refine a0q (cs := #[.int .i64 ((a0a t237 x66_3).f0), .int .i64 0, .int .i64 0, .int .i64 0, .int .i64 0, .int .i64 0]) ?_ 1 _ rfl; refine qd_ ?_; refine a0q (cs := #[.int .i64 0, .int .i64 0, .int .i64 0, .int .i64 0, .int .i64 0, .int .i64 0]) ?_ 0 _ rfl; refine qd_ ?_; exact BK239.out) k_ hk⟩)); (case aO => exact (by (with_reducible repeat (first | apply Kd.a0n | apply Kd.a0o | apply Kd.a0m)); exact Kd.a0z (Kd.a0v (p := ⟨gb239, 3, none⟩) (Kd.a0v (p := ⟨gb239, 5, none⟩) (Kd.a0v (p := ⟨gb239, 4, none⟩) (Kd.a0v (p := ⟨gb239, 3, none⟩) (Kd.a0v (p := ⟨gb239, 2, none⟩) (Kd.a0v (p := ⟨gb239, 1, none⟩) (Kd.a0v (p := ⟨gb239, 0, none⟩) (Kd.a0z HO_17.out (fun k_ hk => (⟨hk, hk.2⟩ : _ ∧ k_ ≠ gb239))) (fun _ hk => hk.2) (.int .i64 ((a0a t237 x66_3).f0))) (fun _ hk => hk.2) (.int .i64 ((a0a t237 x66_3).f1))) (fun _ hk => hk.2) (.int .i64 ((a0a t237 x66_3).f2))) (fun _ hk => hk.2) (.int .i64 ((a0a t237 x66_3).f3))) (fun _ hk => hk.2) (.int .i64 ((a0a t237 x66_3).f4.f0))) (fun _ hk => hk.2) (.int .i64 ((a0a t237 x66_3).f4.f1))) (fun _ hk => hk.2) (.int .i64 ji42)) (fun _ hk => ⟨hk.1.1, hk.1.2⟩))); (case aS => exact (a1s qb_)); (case aL => have := LMc43.out; omega); intro v241 w48 ho hb hg hat; rw [← Ny240.out] at ho; replace HO_64 := am_ (Kd.b0v (ok := (fun k_ => k_ ≠ gb239)) (by (with_reducible repeat (first | apply Kd.a0n | apply Kd.a0o | apply Kd.a0m)); exact Kd.a0z (Kd.a0v (p := ⟨gb239, 3, none⟩) (Kd.a0v (p := ⟨gb239, 5, none⟩) (Kd.a0v (p := ⟨gb239, 4, none⟩) (Kd.a0v (p := ⟨gb239, 3, none⟩) (Kd.a0v (p := ⟨gb239, 2, none⟩) (Kd.a0v (p := ⟨gb239, 1, none⟩) (Kd.a0v (p := ⟨gb239, 0, none⟩) (Kd.a0z HO_64.out (fun k_ hk => (⟨hk, hk.2⟩ : _ ∧ k_ ≠ gb239))) (fun _ hk => hk.2) (.int .i64 ((a0a t237 x66_3).f0))) (fun _ hk => hk.2) (.int .i64 ((a0a t237 x66_3).f1))) (fun _ hk => hk.2) (.int .i64 ((a0a t237 x66_3).f2))) (fun _ hk => hk.2) (.int .i64 ((a0a t237 x66_3).f3))) (fun _ hk => hk.2) (.int .i64 ((a0a t237 x66_3).f4.f0))) (fun _ hk => hk.2) (.int .i64 ((a0a t237 x66_3).f4.f1))) (fun _ hk => hk.2) (.int .i64 ji42)) (fun _ hk => ⟨hk.1.2, hk.1.1⟩)) hg hat); replace BK229 := am_ (a4c (g := gb229) (o := a1o (fun x_ : S30 => Value.agg #[.int .i64 x_.f0, .int .i64 x_.f1, .int .i64 x_.f2, .int .i64 x_.f3, .int .i64 x_.f4.f0, .int .i64 x_.f4.f1]) t228) (by refine qd_ ?_; refine a1e ?_ NB229_239.out _; refine qd_ ?_; refine a1e ?_ NB229_239.out _; refine qd_ ?_; refine a1e ?_ NB229_239.out _; refine qd_ ?_; refine a1e ?_ NB229_239.out _; refine qd_ ?_; refine a1e ?_ NB229_239.out _; refine qd_ ?_; refine a1e ?_ NB229_239.out _; refine qd_ ?_; refine a1e ?_ NB229_239.out _; refine qd_ ?_; exact BK229.out) hg (a6z HO_17.out BK229.out)); replace BK231 := am_ (a4c (g := gb231) (o := a1o (Value.bool) x232000_2) (by refine qd_ ?_; refine a1e ?_ NB231_239.out _; refine qd_ ?_; refine a1e ?_ NB231_239.out _; refine qd_ ?_; refine a1e ?_ NB231_239.out _; refine qd_ ?_; refine a1e ?_ NB231_239.out _; refine qd_ ?_; refine a1e ?_ NB231_239.out _; refine qd_ ?_; refine a1e ?_ NB231_239.out _; refine qd_ ?_; refine a1e ?_ NB231_239.out _; refine qd_ ?_; exact BK231.out) hg (a6z HO_17.out BK231.out)); replace BK239 := am_ (a4c (g := gb239) (o := .cells #[.int .i64 ((a0a t237 x66_3).f0), .int .i64 ((a0a t237 x66_3).f1), .int .i64 ((a0a t237 x66_3).f2), .int .i64 ji42, .int .i64 ((a0a t237 x66_3).f4.f0), .int .i64 ((a0a t237 x66_3).f4.f1)] 30 (0, 0)) (by refine qd_ ?_; refine a0q (cs := #[.int .i64 ((a0a t237 x66_3).f0), .int .i64 ((a0a t237 x66_3).f1), .int .i64 ((a0a t237 x66_3).f2), .int .i64 ((a0a t237 x66_3).f3), .int .i64 ((a0a t237 x66_3).f4.f0), .int .i64 ((a0a t237 x66_3).f4.f1)]) ?_ 3 _ rfl; refine qd_ ?_; refine a0q (cs := #[.int .i64 ((a0a t237 x66_3).f0), .int .i64 ((a0a t237 x66_3).f1), .int .i64 ((a0a t237 x66_3).f2), .int .i64 ((a0a t237 x66_3).f3), .int .i64 ((a0a t237 x66_3).f4.f0), .int .i64 0]) ?_ 5 _ rfl; refine qd_ ?_; refine a0q (cs := #[.int .i64 ((a0a t237 x66_3).f0), .int .i64 ((a0a t237 x66_3).f1), .int .i64 ((a0a t237 x66_3).f2), .int .i64 ((a0a t237 x66_3).f3), .int .i64 0, .int .i64 0]) ?_ 4 _ rfl; refine qd_ ?_; refine a0q (cs := #[.int .i64 ((a0a t237 x66_3).f0), .int .i64 ((a0a t237 x66_3).f1), .int .i64 ((a0a t237 x66_3).f2), .int .i64 0, .int .i64 0, .int .i64 0]) ?_ 3 _ rfl; refine qd_ ?_; refine a0q (cs := #[.int .i64 ((a0a t237 x66_3).f0), .int .i64 ((a0a t237 x66_3).f1), .int .i64 0, .int .i64 0, .int .i64 0, .int .i64 0]) ?_ 2 _ rfl; refine qd_ ?_; refine a0q (cs := #[.int .i64 ((a0a t237 x66_3).f0), .int .i64 0, .int .i64 0, .int .i64 0, .int .i64 0, .int .i64 0]) ?_ 1 _ rfl; refine qd_ ?_; refine a0q (cs := #[.int .i64 0, .int .i64 0, .int .i64 0, .int .i64 0, .int .i64 0, .int .i64 0]) ?_ 0 _ rfl; refine qd_ ?_; exact BK239.out) hg (Kd.b2c HO_17.out (fun _ hk => hk.2))); replace HB := am_ (hb); have HO242 := am_ (ho); clear HO_17 ho hb hg hat))
              (try simp only [← hl64_3])
              go_roundg k3
              case measure => have := HJ4.out; have := HK2.out; have := HK3.out; omega
              case rel => exact ⟨(wrap64 (x2_3 - (ji42))), (y240), (wrap64 (x66_3 + 1)), (by first | rfl | (simp; done) | (simp only [← hji42] <;> (first | rfl | simp)) | (simp [*]; done)), qs_, H', ⟨by have := HJ4.out; have := HK2.out; have := HK3.out; omega⟩, ⟨by (try simp only [hl64_3]); (with_reducible repeat (first | apply Kd.a0n | apply Kd.a0o | apply Kd.a0m)); exact Kd.a0z HO242.out (fun _ hk => hk.1)⟩, ⟨by (try simp only [hl64_3]); (with_reducible repeat (first | apply Kd.a0n | apply Kd.a0o | apply Kd.a0m)); exact Kd.a0z HO_64.out (fun _ hk => hk.2)⟩, ⟨by (try simp only [hl64_3]); refine qd_ ?_; exact BK229.out⟩, ⟨by (try simp only [hl64_3]); refine qd_ ?_; exact BK231.out⟩, ⟨qb_⟩⟩
             ·rw [if_neg c43] at H
              exact absurd H (by simp)
           ·rw [if_neg c36] at H
            exact absurd H (by simp)
          ·rw [if_neg c35] at H
           exact absurd H (by simp)
         ·rw [if_neg c34] at H
          have c34b0 : decide (x66_3 < (x12_2.length : Int)) = false := decide_eq_false c34
          have c34b8 := c34b0
          try rw [hl64_3] at c34b8
          clear c34
          simp only [Option.some.injEq, Prod.mk.injEq] at H
          obtain ⟨rfl, rfl, rfl⟩ := H
          go_wp2
          go_ret3
          exact ⟨_, qx_, by (with_reducible repeat (first | apply Kd.a0n | apply Kd.a0o | apply Kd.a0m)); exact Kd.a0z HO_17.out (fun _ hk => trivial), qb_⟩
def a0x.l0 : Nat → List Int → List Int → Int → Option (Bool)
 | 0, _, _, _ => none
 | k + 1, x0, x1, x5 => if x5 < (x0.length : Int) then (if 0 ≤ x5 then (if x5 < (x1.length : Int) then (if (rd x0 x5) = (rd x1 x5) then (a0x.l0 k x0 x1 (wrap64 (x5 + 1))) else (some false)) else (none)) else (none)) else (some true)
def a0x.f (k : Nat) (l0 l1 : List Int) : Option (Bool) := if (l0.length : Int) = (l1.length : Int) then (a0x.l0 k l0 l1 0) else (some false)
theorem a0x.a1k : ∀ k, (∀ y0 y1 y2, LeO (a0x.l0 k y0 y1 y2) (a0x.l0 (k + 1) y0 y1 y2))
 | 0 => fun _ _ _ r h => by simp [a0x.l0] at h
 | k + 1 => by
  have ih0 := a0x.a1k k
  ·intro y0 y1 y2
   unfold a0x.l0
   with_reducible (repeat' first | apply ih0 | apply LeO.refl | apply LeO.none | apply LeO.ite | refine LeO.bind ?_ (fun _ => ?_))
theorem a0x.mono : ∀ a0 a1 k, LeO (a0x.f k a0 a1) (a0x.f (k + 1) a0 a1) := by
 intro a0 a1 k
 have ih0 := a0x.a1k k
 unfold a0x.f
 with_reducible (repeat' first | apply ih0 | apply LeO.refl | apply LeO.none | apply LeO.ite | refine LeO.bind ?_ (fun _ => ?_))
set_option maxHeartbeats 8000000 in
set_option maxRecDepth 100000 in
theorem a0x.calls (k : Nat) (A0 : Option Addr) (c0 : Nat) (l0 : List Int) (A1 : Option Addr) (c1 : Nat) (l1 : List Int) (r : Bool) (w : World) (hr0 : Kd.C (Kd.int .i64) w A0 l0.length l0) (hc0 : l0.length ≤ c0) (hr1 : Kd.C (Kd.int .i64) w A1 l1.length l1) (hc1 : l1.length ≤ c1) (h : a0x.f k l0 l1 = some r) :
  Calls Try.prog 19 #[.slice A0 l0.length c0, .slice A1 l1.length c1] w fun e w' => e = .returned (.bool r) ∧ a3j w w' := by
 have HR0 := am_ hr0
 have HC0 := am_ hc0
 clear hr0 hc0
 have HR1 := am_ hr1
 have HC1 := am_ hc1
 clear hr1 hc1
 have H : (if (l0.length : Int) = (l1.length : Int) then (a0x.l0 k l0 l1 0) else (some false)) = some r := h
 clear h
 by_cases c3 : (l0.length : Int) = (l1.length : Int)
 ·rw [if_pos c3] at H
  have c3b0 : ((l0.length : Int) == (l1.length : Int)) = true := beq_iff_eq.mpr c3
  have c3b1 : ((l0.length : Int) != (l1.length : Int)) = false := bne_eq_false_iff_eq.mpr c3
  have c3b2 : (l0.length == l1.length) = true := by first | simpa using c3 | (simp at c3 ⊢; omega)
  clear c3
  have H' := am_ H
  clear H
  go_enter Try.func19, Try.ntmps19
  go_wp2
  repeat (go_quiet (fail); try go_wp2)
  go_loopg [5] k (fun kq v5 w' => ∃ (x5_1 : Int), v5 = .int .i64 x5_1 ∧ Aside0 (a0x.l0 kq l0 l1 x5_1 = some r) ∧ Aside0 (kq ≤ k) ∧ a3j w w')
  case atStart => exact ⟨(0), qs_, H', ⟨Nat.le_refl _⟩, qy_⟩
  case round =>
   clear H'
   try clear c1
   try clear p2
   try clear c3
   try clear c3b0
   try clear c3b1
   try clear c3b2
   obtain ⟨x5_1, rfl, HA, HK1, ⟨m1, rfl⟩⟩ := hrel
   cases gk with
   | zero => exact absurd HA.out (by simp [a0x.l0])
   | succ k1 =>
    have H := HA.out
    clear HA
    simp only [a0x.l0] at H
    by_cases c4 : x5_1 < (l0.length : Int)
    ·rw [if_pos c4] at H
     have c4b0 : decide (x5_1 < (l0.length : Int)) = true := decide_eq_true c4
     clear c4
     by_cases c5 : 0 ≤ x5_1
     ·rw [if_pos c5] at H
      have c5b0 : decide (0 ≤ x5_1) = true := decide_eq_true c5
      clear c5
      by_cases c6 : x5_1 < (l1.length : Int)
      ·rw [if_pos c6] at H
       have c6b0 : decide (x5_1 < (l1.length : Int)) = true := decide_eq_true c6
       clear c6
       by_cases c7 : (rd l0 x5_1) = (rd l1 x5_1)
       ·rw [if_pos c7] at H
        have c7b0 : ((rd l0 x5_1) == (rd l1 x5_1)) = true := beq_iff_eq.mpr c7
        have c7b1 : ((rd l0 x5_1) != (rd l1 x5_1)) = false := bne_eq_false_iff_eq.mpr c7
        clear c7
        have H' := am_ H
        clear H
        have p243 : 0 ≤ (x5_1 : Int) := ot_
        have q243 : x5_1 < (l0.length : Int) := ot_
        obtain ⟨ad243, e243, hx243_0⟩ := Kd.a4l HR0.out x5_1 p243 q243
        cases e243
        replace p243 := eq_true p243
        replace q243 := eq_true q243
        have p244 : 0 ≤ (x5_1 : Int) := ot_
        have q244 : x5_1 < (l1.length : Int) := ot_
        obtain ⟨ad244, e244, hx244_0⟩ := Kd.a4l HR1.out x5_1 p244 q244
        cases e244
        replace p244 := eq_true p244
        replace q244 := eq_true q244
        go_wp2
        repeat (go_quiet (fail); try go_wp2)
        go_roundg k1
        case measure => have := HK1.out; omega
        case rel => exact ⟨(wrap64 (x5_1 + 1)), qs_, H', ⟨by have := HK1.out; omega⟩, qy_⟩
       ·rw [if_neg c7] at H
        have c7b0 : ((rd l0 x5_1) == (rd l1 x5_1)) = false := beq_eq_false_iff_ne.mpr c7
        have c7b1 : ((rd l0 x5_1) != (rd l1 x5_1)) = true := bne_iff_ne.mpr c7
        obtain rfl := si_ H
        have p243 : 0 ≤ (x5_1 : Int) := ot_
        have q243 : x5_1 < (l0.length : Int) := ot_
        obtain ⟨ad243, e243, hx243_0⟩ := Kd.a4l HR0.out x5_1 p243 q243
        cases e243
        replace p243 := eq_true p243
        replace q243 := eq_true q243
        have p244 : 0 ≤ (x5_1 : Int) := ot_
        have q244 : x5_1 < (l1.length : Int) := ot_
        obtain ⟨ad244, e244, hx244_0⟩ := Kd.a4l HR1.out x5_1 p244 q244
        cases e244
        replace p244 := eq_true p244
        replace q244 := eq_true q244
        go_wp2
        repeat (go_quiet (fail); try go_wp2)
        go_ret
        exact ⟨qs_, qy_⟩
      ·rw [if_neg c6] at H
       exact absurd H (by simp)
     ·rw [if_neg c5] at H
      exact absurd H (by simp)
    ·rw [if_neg c4] at H
     have c4b0 : decide (x5_1 < (l0.length : Int)) = false := decide_eq_false c4
     clear c4
     obtain rfl := si_ H
     go_wp2
     repeat (go_quiet (fail); try go_wp2)
     go_ret
     exact ⟨qs_, qy_⟩
 ·rw [if_neg c3] at H
  have c3b0 : ((l0.length : Int) == (l1.length : Int)) = false := beq_eq_false_iff_ne.mpr c3
  have c3b1 : ((l0.length : Int) != (l1.length : Int)) = true := bne_iff_ne.mpr c3
  have c3b2 : (l0.length == l1.length) = false := by first | simpa using c3 | (simp at c3 ⊢; omega)
  obtain rfl := si_ H
  go_enter Try.func19, Try.ntmps19
  go_wp2
  repeat (go_quiet (fail); try go_wp2)
  go_ret
  exact ⟨qs_, qy_⟩
end Go.Proofs.Ytfbgkcadnmcakaa.Px
