/- Contracts of Go functions, printed. Conditions: as each theorem states. -/
import Derived.Test.YtheibjkjmkanoaaPx0
import Derived.Test.YtheibjkjmkanoaaPx7
namespace Go.Proofs.Ytheibjkjmkanoaa.Px
open Go.Proofs.Ytheibjkjmkanoaa.Given
open Go.RowKit Go.Proofs.YtheibjkjmkanoaaW.PrintWords Go.Proofs.YtheibjkjmkanoaaW.PrintLast Go.Proofs.YtheibjkjmkanoaaW.PrintMore
attribute [local go_sem] a3m a3n a3x a3y a3e a3f a3o a3p
set_option linter.unusedVariables false
set_option linter.unusedSimpArgs false
def a1g.f (k : Nat) (b e d g h i : Int) (a : List (S51)) (c : List (Int × Int)) (l : List (Int × List (S56))) (a3 : Int) : Option (Bool) := if d > 0 then (if e < i then (if h < d then (if b = g then (some false) else (if 0 ≤ a3 then (if a3 < (a.length : Int) then (if 0 ≤ (a1z c b) then (if (a1z c b) < (a.length : Int) then ((a5p.f k ((a0a a a3).f0) ((a0a a a3).f1) ((a0a a a3).f2) ((a0a a a3).f3) ((a0a a a3).f4) ((a0a a (a1z c b)).f0) ((a0a a (a1z c b)).f1) ((a0a a (a1z c b)).f2) ((a0a a (a1z c b)).f3) ((a0a a (a1z c b)).f4)).bind fun j => (some j)) else (none)) else (none)) else (none)) else (none))) else (some false)) else (some false)) else (some false)
theorem a1g.mono : ∀ a0 a1 a2 a3 a4 a5 a6 a7 a8 a9 k,LeO (a1g.f k a0 a1 a2 a3 a4 a5 a6 a7 a8 a9) (a1g.f (k + 1) a0 a1 a2 a3 a4 a5 a6 a7 a8 a9) := by
 intro a0 a1 a2 a3 a4 a5 a6 a7 a8 a9 k
 unfold a1g.f
 with_reducible (repeat' first | apply a5p.mono | apply LeO.refl | apply LeO.none | apply LeO.ite | refine LeO.bind ?_ (fun _ => ?_))
def a1g.T1 : Bool × List (List Nat × List Nat) := (true,[([],[]),([0],[0]),([1],[1]),([2],[2]),([3],[3]),([4,3],[3,4]),([3],[3]),([6,3],[3,6]),([5,7,3],[3,5,7]),([3,8],[3,8]),([9,3],[9]),([10],[10]),([11,10],[10,11]),([10],[10]),([13,10],[10,13]),([12,14,10],[10,12,14]),([10,15],[10,15]),([16,10],[16]),([17],[17]),([18,17],[17,18]),([17],[17]),([20,17],[17,20]),([19,21,17],[17,19,21]),([17,22],[17,22]),([23,17],[23]),([24],[24]),([25,24],[24,25]),([24],[24]),([26,27,24],[24,26,27]),([28,24],[24,28]),([24],[24]),([30,24],[24,30]),([24],[24]),([32,24],[24,32]),([24],[24]),([34,24],[24,34]),([33,35,24],[24,33,35]),([31,36,24],[24,31,36]),([37,24],[24,37]),([29,38,24,24],[24,29,38]),([24,39],[24,39]),([40,39,0,1,2,3,4,5,6,7,8,9,10,11,12,13,14,15,16,17,18,19,20,21,22,23,24,25,26,27,28,29,30,31,32,33,34,35,36,37,38,39,40],[40])])
def a1g.B1 : List Nat := [0,1,3,7,15,31,15,79,255,511,1023,2047,4095,2047,10239,32767,65535,131071,262143,524287,262143,1310719,4194303,8388607,16777215,33554431,67108863,33554431,268435455,536870911,33554431,1107296255,33554431,4328521727,33554431,17213423615,64458063871,136398766079,273837719551,549755813887,1099511627775,2199023255551]
theorem a1g.tab1 : rtab .any (opsOf Try.f62 1) = a1g.T1 := by kernel_rfl
theorem a1g.a8h : a5i a1g.T1.2 a1g.B1 = true := by kernel_rfl
set_option maxHeartbeats 8000000 in
set_option maxRecDepth 100000 in
theorem a1g.calls (k : Nat) (b t s : Int) (u : Nat) (v a6 a7 : Int) (ap : Nat) (b9 : Option Addr) (aW : Nat) (g : List (S51)) (o : List (Int × Int)) (ba : List (Int × List (S56))) (O P : Nat) (gh_a2_2 : List (Int × (List (S56) × Value))) (au : Nat) (a3 : Int) (r : Bool) (w : World) (b2 : Kd.C k51 w b9 g.length g) (b3 : g.length ≤ aW) (bd : w.heap[u]? = some (.cells #[.int .i64 v, .int .i64 a6, .int .i64 a7] 42 (0,0))) (be : w.heap[ap]? = some (.cells #[.slice b9 g.length aW, .map (some O), .map (some P)] 62 (0,0))) (bf : w.heap[au]? = some (.cells #[.int .i64 a3] 3 (0,0))) (aH : u ≠ ap) (aI : u ≠ au) (aJ : ap ≠ au) (aK : w.heap[O]? = some (a1i (Value.int .i64) o)) (aL : w.heap[P]? = some (a1i (fun e_ : List (S56) × Value => e_.2) gh_a2_2)) (aM : a5n gh_a2_2 = ba) (aN : a5a k56 w gh_a2_2) (a8 : O ≠ P) (aj : O ≠ u) (ak : O ≠ ap) (al : O ≠ au) (am : P ≠ u) (an : P ≠ ap) (ao : P ≠ au) (h : a1g.f k b t s v a6 a7 g o ba a3 = some r) :
  Calls Try.prog 62 #[.agg #[.int .i64 b, .int .i64 t, .int .i64 s], .pointer (some ⟨u,0,none⟩), .pointer (some ⟨ap,0,none⟩), .pointer (some ⟨au,0,none⟩)] w fun e w' => e = .returned (.bool r) ∧ Below w.heap.size w w' := by
 have bU := Try.underlying42
 have bV := Try.underlying51
 have b4 := am_ b2
 have bN := am_ b3
 clear b2 b3
 have l := am_ aK
 clear aK
 have m := am_ aL
 clear aL
 have bO := am_ aM
 have bP := am_ aN
 clear aM aN
 have bg := am_ a8
 have bh := am_ a8.symm
 clear a8
 have bi := am_ aj
 have bj := am_ aj.symm
 clear aj
 have bk := am_ ak
 have bl := am_ ak.symm
 clear ak
 have bm := am_ al
 have bn := am_ al.symm
 clear al
 have bo := am_ am
 have bp := am_ am.symm
 clear am
 have bq := am_ an
 have br := am_ an.symm
 clear an
 have bs := am_ ao
 have bt := am_ ao.symm
 clear ao
 have a := am_ bd
 clear bd
 have d := am_ be
 clear be
 have j := am_ bf
 clear bf
 have bu := am_ aH
 have bv := am_ aH.symm
 clear aH
 have bw := am_ aI
 have bx := am_ aI.symm
 clear aI
 have bz := am_ aJ
 have bA := am_ aJ.symm
 clear aJ
 have HB := am_ (Below.refl w.heap.size w)
 have H : (if s > 0 then (if t < a7 then (if a6 < s then (if b = v then (some false) else (if 0 ≤ a3 then (if a3 < (g.length : Int) then (if 0 ≤ (a1z o b) then (if (a1z o b) < (g.length : Int) then ((a5p.f k ((a0a g a3).f0) ((a0a g a3).f1) ((a0a g a3).f2) ((a0a g a3).f3) ((a0a g a3).f4) ((a0a g (a1z o b)).f0) ((a0a g (a1z o b)).f1) ((a0a g (a1z o b)).f2) ((a0a g (a1z o b)).f3) ((a0a g (a1z o b)).f4)).bind fun aX => (some aX)) else (none)) else (none)) else (none)) else (none))) else (some false)) else (some false)) else (some false)) = some r := h
 clear h
 by_cases c5 : s > 0
 rotate_left
 ·rw [if_neg c5] at H
  have bB : decide (0 < s) = false := decide_eq_false c5
  clear c5
  obtain rfl := si_ H
  go_enter Try.func62,Try.ntmps62
  try go_wp2_with (first | ((with_reducible refine a0t (N := 4) rfl ?_);refine qev_ 4 #[.int .i64 b, .int .i64 t, .int .i64 s] 42 ?_;intro q hg bI hbox hb;have c := am_ (hbox);have aq := qga_ hg;have ar := qga_ hg;replace HB := qbs_ hb;obtain ⟨T,W⟩ := qnb_ hg l;replace l := qkb_ l hb;obtain ⟨X,Y⟩ := qnb_ hg m;replace m := qkb_ m hb;obtain ⟨Z,a0⟩ := qnb_ hg a;replace a := qkb_ a hb;obtain ⟨a1,a2⟩ := qnb_ hg d;replace d := qkb_ d hb;obtain ⟨a4,a5⟩ := qnb_ hg j;replace j := qkb_ j hb;clear hb hbox hg))
  replace l := am_ (bd_ l.out)
  replace m := am_ (bd_ m.out)
  replace a := am_ (bd_ a.out)
  replace d := am_ (bd_ d.out)
  replace j := am_ (bd_ j.out)
  replace c := am_ (bd_ c.out)
  replace HB := am_ (ld_ HB.out)
  refine a4l (n := 42) (S := fun w' => w'.cell? ⟨q,0,none⟩ = some (.int .i64 b) ∧ w'.cell? ⟨q,1,none⟩ = some (.int .i64 t) ∧ w'.cell? ⟨q,2,none⟩ = some (.int .i64 s)) (ds := []) #[I,I,I,I,I,I,I,I,I,I,I,I,I,I,I,I,I,I,I,I,I,I,I,I,I,I,I,I,I,I,I,I,I,I,I,I,I,I,I,I,I,I] (by kernel_rfl) rfl rfl ⟨(bc_ c.out 0).trans rfl,(bc_ c.out 1).trans rfl,(bc_ c.out 2).trans rfl⟩ (fun hHeld => ?_);refine a3s a1g.tab1 a1g.a8h (fun HT_ HW_ => ?_)
  generalize bI.drew = bW at l m a d j c HB hHeld ⊢
  refine qpu_ 0 (some 6) #[U,I,I,I,I,I,I,I,I,I,I,I,I,I,I,I,I,I,I,I,I,I,I,I,I,I,I,I,I,I,I,I,I,I,I,I,I,I,I,I,I,I] ?_
  refine a7w 1 (some 7) #[U,U,I,I,I,I,I,I,I,I,I,I,I,I,I,I,I,I,I,I,I,I,I,I,I,I,I,I,I,I,I,I,I,I,I,I,I,I,I,I,I,I] hHeld ?_
  refine qpu_ 2 (some 8) #[U,U,U,I,I,I,I,I,I,I,I,I,I,I,I,I,I,I,I,I,I,I,I,I,I,I,I,I,I,I,I,I,I,I,I,I,I,I,I,I,I,I] ?_
  refine qpu_ 3 (some 9) #[U,U,U,U,I,I,I,I,I,I,I,I,I,I,I,I,I,I,I,I,I,I,I,I,I,I,I,I,I,I,I,I,I,I,I,I,I,I,I,I,I,I] ?_
  refine qpv_ 4 (some 10) #[U,U,U,U,U,I,I,I,I,I,I,I,I,I,I,I,I,I,I,I,I,I,I,I,I,I,I,I,I,I,I,I,I,I,I,I,I,I,I,I,I,I] ?_
  refine qpv_ 5 (some 11) #[U,U,U,U,U,U,I,I,I,I,I,I,I,I,I,I,I,I,I,I,I,I,I,I,I,I,I,I,I,I,I,I,I,I,I,I,I,I,I,I,I,I] ?_
  refine qpv_ 6 (some 12) #[U,U,U,U,U,U,U,I,I,I,I,I,I,I,I,I,I,I,I,I,I,I,I,I,I,I,I,I,I,I,I,I,I,I,I,I,I,I,I,I,I,I] ?_
  refine qpv_ 7 (some 13) #[U,U,U,U,U,U,U,U,I,I,I,I,I,I,I,I,I,I,I,I,I,I,I,I,I,I,I,I,I,I,I,I,I,I,I,I,I,I,I,I,I,I] ?_
  refine qpv_ 8 (some 14) #[U,U,U,U,U,U,U,U,U,I,I,I,I,I,I,I,I,I,I,I,I,I,I,I,I,I,I,I,I,I,I,I,I,I,I,I,I,I,I,I,I,I] ?_
  refine qpu_ 9 (some 15) #[U,U,U,U,U,U,U,U,U,U,I,I,I,I,I,I,I,I,I,I,I,I,I,I,I,I,I,I,I,I,I,I,I,I,I,I,I,I,I,I,I,I] ?_
  refine qpu_ 10 (some 16) #[U,U,U,U,U,U,U,U,U,U,U,I,I,I,I,I,I,I,I,I,I,I,I,I,I,I,I,I,I,I,I,I,I,I,I,I,I,I,I,I,I,I] ?_
  refine qpv_ 11 (some 17) #[U,U,U,U,U,U,U,U,U,U,U,U,I,I,I,I,I,I,I,I,I,I,I,I,I,I,I,I,I,I,I,I,I,I,I,I,I,I,I,I,I,I] ?_
  refine qpv_ 12 (some 18) #[U,U,U,U,U,U,U,U,U,U,U,U,U,I,I,I,I,I,I,I,I,I,I,I,I,I,I,I,I,I,I,I,I,I,I,I,I,I,I,I,I,I] ?_
  refine qpv_ 13 (some 19) #[U,U,U,U,U,U,U,U,U,U,U,U,U,U,I,I,I,I,I,I,I,I,I,I,I,I,I,I,I,I,I,I,I,I,I,I,I,I,I,I,I,I] ?_
  refine qpv_ 14 (some 20) #[U,U,U,U,U,U,U,U,U,U,U,U,U,U,U,I,I,I,I,I,I,I,I,I,I,I,I,I,I,I,I,I,I,I,I,I,I,I,I,I,I,I] ?_
  refine qpv_ 15 (some 21) #[U,U,U,U,U,U,U,U,U,U,U,U,U,U,U,U,I,I,I,I,I,I,I,I,I,I,I,I,I,I,I,I,I,I,I,I,I,I,I,I,I,I] ?_
  refine qpu_ 16 (some 22) #[U,U,U,U,U,U,U,U,U,U,U,U,U,U,U,U,U,I,I,I,I,I,I,I,I,I,I,I,I,I,I,I,I,I,I,I,I,I,I,I,I,I] ?_
  refine qpu_ 17 (some 23) #[U,U,U,U,U,U,U,U,U,U,U,U,U,U,U,U,U,U,I,I,I,I,I,I,I,I,I,I,I,I,I,I,I,I,I,I,I,I,I,I,I,I] ?_
  refine qpv_ 18 (some 24) #[U,U,U,U,U,U,U,U,U,U,U,U,U,U,U,U,U,U,U,I,I,I,I,I,I,I,I,I,I,I,I,I,I,I,I,I,I,I,I,I,I,I] ?_
  refine qpv_ 19 (some 25) #[U,U,U,U,U,U,U,U,U,U,U,U,U,U,U,U,U,U,U,U,I,I,I,I,I,I,I,I,I,I,I,I,I,I,I,I,I,I,I,I,I,I] ?_
  refine qpv_ 20 (some 26) #[U,U,U,U,U,U,U,U,U,U,U,U,U,U,U,U,U,U,U,U,U,I,I,I,I,I,I,I,I,I,I,I,I,I,I,I,I,I,I,I,I,I] ?_
  refine qpv_ 21 (some 27) #[U,U,U,U,U,U,U,U,U,U,U,U,U,U,U,U,U,U,U,U,U,U,I,I,I,I,I,I,I,I,I,I,I,I,I,I,I,I,I,I,I,I] ?_
  refine qpv_ 22 (some 28) #[U,U,U,U,U,U,U,U,U,U,U,U,U,U,U,U,U,U,U,U,U,U,U,I,I,I,I,I,I,I,I,I,I,I,I,I,I,I,I,I,I,I] ?_
  refine qpu_ 23 (some 29) #[U,U,U,U,U,U,U,U,U,U,U,U,U,U,U,U,U,U,U,U,U,U,U,U,I,I,I,I,I,I,I,I,I,I,I,I,I,I,I,I,I,I] ?_
  refine qpu_ 24 (some 30) #[U,U,U,U,U,U,U,U,U,U,U,U,U,U,U,U,U,U,U,U,U,U,U,U,U,I,I,I,I,I,I,I,I,I,I,I,I,I,I,I,I,I] ?_
  refine qpv_ 25 (some 31) #[U,U,U,U,U,U,U,U,U,U,U,U,U,U,U,U,U,U,U,U,U,U,U,U,U,U,I,I,I,I,I,I,I,I,I,I,I,I,I,I,I,I] ?_
  refine qpv_ 26 (some 32) #[U,U,U,U,U,U,U,U,U,U,U,U,U,U,U,U,U,U,U,U,U,U,U,U,U,U,U,I,I,I,I,I,I,I,I,I,I,I,I,I,I,I] ?_
  refine qpv_ 27 (some 33) #[U,U,U,U,U,U,U,U,U,U,U,U,U,U,U,U,U,U,U,U,U,U,U,U,U,U,U,U,I,I,I,I,I,I,I,I,I,I,I,I,I,I] ?_
  refine qpv_ 28 (some 34) #[U,U,U,U,U,U,U,U,U,U,U,U,U,U,U,U,U,U,U,U,U,U,U,U,U,U,U,U,U,I,I,I,I,I,I,I,I,I,I,I,I,I] ?_
  refine qpv_ 29 (some 35) #[U,U,U,U,U,U,U,U,U,U,U,U,U,U,U,U,U,U,U,U,U,U,U,U,U,U,U,U,U,U,I,I,I,I,I,I,I,I,I,I,I,I] ?_
  refine qpv_ 30 (some 36) #[U,U,U,U,U,U,U,U,U,U,U,U,U,U,U,U,U,U,U,U,U,U,U,U,U,U,U,U,U,U,U,I,I,I,I,I,I,I,I,I,I,I] ?_
  refine qpv_ 31 (some 37) #[U,U,U,U,U,U,U,U,U,U,U,U,U,U,U,U,U,U,U,U,U,U,U,U,U,U,U,U,U,U,U,U,I,I,I,I,I,I,I,I,I,I] ?_
  refine qpv_ 32 (some 38) #[U,U,U,U,U,U,U,U,U,U,U,U,U,U,U,U,U,U,U,U,U,U,U,U,U,U,U,U,U,U,U,U,U,I,I,I,I,I,I,I,I,I] ?_
  refine qpv_ 33 (some 39) #[U,U,U,U,U,U,U,U,U,U,U,U,U,U,U,U,U,U,U,U,U,U,U,U,U,U,U,U,U,U,U,U,U,U,I,I,I,I,I,I,I,I] ?_
  refine qpv_ 34 (some 40) #[U,U,U,U,U,U,U,U,U,U,U,U,U,U,U,U,U,U,U,U,U,U,U,U,U,U,U,U,U,U,U,U,U,U,U,I,I,I,I,I,I,I] ?_
  refine qpv_ 35 (some 41) #[U,U,U,U,U,U,U,U,U,U,U,U,U,U,U,U,U,U,U,U,U,U,U,U,U,U,U,U,U,U,U,U,U,U,U,U,I,I,I,I,I,I] ?_
  refine qpv_ 36 (some 42) #[U,U,U,U,U,U,U,U,U,U,U,U,U,U,U,U,U,U,U,U,U,U,U,U,U,U,U,U,U,U,U,U,U,U,U,U,U,I,I,I,I,I] ?_
  refine qpv_ 37 (some 43) #[U,U,U,U,U,U,U,U,U,U,U,U,U,U,U,U,U,U,U,U,U,U,U,U,U,U,U,U,U,U,U,U,U,U,U,U,U,U,I,I,I,I] ?_
  refine qpv_ 38 (some 44) #[U,U,U,U,U,U,U,U,U,U,U,U,U,U,U,U,U,U,U,U,U,U,U,U,U,U,U,U,U,U,U,U,U,U,U,U,U,U,U,I,I,I] ?_
  refine qpv_ 39 (some 45) #[U,U,U,U,U,U,U,U,U,U,U,U,U,U,U,U,U,U,U,U,U,U,U,U,U,U,U,U,U,U,U,U,U,U,U,U,U,U,U,U,I,I] ?_
  refine qpu_ 40 (some 46) #[U,U,U,U,U,U,U,U,U,U,U,U,U,U,U,U,U,U,U,U,U,U,U,U,U,U,U,U,U,U,U,U,U,U,U,U,U,U,U,U,U,I] ?_
  refine qpu_ 41 (some 5) #[U,U,U,U,U,U,U,U,U,U,U,U,U,U,U,U,U,U,U,U,U,U,U,U,U,U,U,U,U,U,U,U,U,U,U,U,U,U,U,U,U,U] ?_
  refine a4u (a4c HT_.out (by kernel_rfl)) ?_
  try go_wp2
  go_ret
  exact ⟨qx_,qb_⟩
 rw [if_pos c5] at H
 have bB : decide (0 < s) = true := decide_eq_true c5
 clear c5
 by_cases c6 : t < a7
 rotate_left
 ·rw [if_neg c6] at H
  have bC : decide (t < a7) = false := decide_eq_false c6
  clear c6
  obtain rfl := si_ H
  go_enter Try.func62,Try.ntmps62
  try go_wp2_with (first | ((with_reducible refine a0t (N := 4) rfl ?_);refine qev_ 4 #[.int .i64 b, .int .i64 t, .int .i64 s] 42 ?_;intro q hg bJ hbox hb;have c := am_ (hbox);have aq := qga_ hg;have ar := qga_ hg;replace HB := qbs_ hb;obtain ⟨T,W⟩ := qnb_ hg l;replace l := qkb_ l hb;obtain ⟨X,Y⟩ := qnb_ hg m;replace m := qkb_ m hb;obtain ⟨Z,a0⟩ := qnb_ hg a;replace a := qkb_ a hb;obtain ⟨a1,a2⟩ := qnb_ hg d;replace d := qkb_ d hb;obtain ⟨a4,a5⟩ := qnb_ hg j;replace j := qkb_ j hb;clear hb hbox hg))
  replace l := am_ (bd_ l.out)
  replace m := am_ (bd_ m.out)
  replace a := am_ (bd_ a.out)
  replace d := am_ (bd_ d.out)
  replace j := am_ (bd_ j.out)
  replace c := am_ (bd_ c.out)
  replace HB := am_ (ld_ HB.out)
  refine a4l (n := 42) (S := fun w' => w'.cell? ⟨q,0,none⟩ = some (.int .i64 b) ∧ w'.cell? ⟨q,1,none⟩ = some (.int .i64 t) ∧ w'.cell? ⟨q,2,none⟩ = some (.int .i64 s) ∧ w'.cell? ⟨u,0,none⟩ = some (.int .i64 v) ∧ w'.cell? ⟨u,1,none⟩ = some (.int .i64 a6) ∧ w'.cell? ⟨u,2,none⟩ = some (.int .i64 a7)) (ds := []) #[I,I,I,I,I,I,I,I,I,I,I,I,I,I,I,I,I,I,I,I,I,I,I,I,I,I,I,I,I,I,I,I,I,I,I,I,I,I,I,I,I,I] (by kernel_rfl) rfl rfl ⟨(bc_ c.out 0).trans rfl,(bc_ c.out 1).trans rfl,(bc_ c.out 2).trans rfl,(bc_ a.out 0).trans rfl,(bc_ a.out 1).trans rfl,(bc_ a.out 2).trans rfl⟩ (fun hHeld => ?_);refine a3s a1g.tab1 a1g.a8h (fun HT_ HW_ => ?_)
  generalize bJ.drew = bX at l m a d j c HB hHeld ⊢
  refine qpu_ 0 (some 6) #[U,I,I,I,I,I,I,I,I,I,I,I,I,I,I,I,I,I,I,I,I,I,I,I,I,I,I,I,I,I,I,I,I,I,I,I,I,I,I,I,I,I] ?_
  refine a6i 1 (some 7) #[U,U,I,I,I,I,I,I,I,I,I,I,I,I,I,I,I,I,I,I,I,I,I,I,I,I,I,I,I,I,I,I,I,I,I,I,I,I,I,I,I,I] hHeld ?_
  refine qpu_ 2 (some 8) #[U,U,U,I,I,I,I,I,I,I,I,I,I,I,I,I,I,I,I,I,I,I,I,I,I,I,I,I,I,I,I,I,I,I,I,I,I,I,I,I,I,I] ?_
  refine qpu_ 3 (some 9) #[U,U,U,U,I,I,I,I,I,I,I,I,I,I,I,I,I,I,I,I,I,I,I,I,I,I,I,I,I,I,I,I,I,I,I,I,I,I,I,I,I,I] ?_
  refine qpu_ 4 (some 10) #[U,U,U,U,U,I,I,I,I,I,I,I,I,I,I,I,I,I,I,I,I,I,I,I,I,I,I,I,I,I,I,I,I,I,I,I,I,I,I,I,I,I] ?_
  refine qpu_ 6 (some 12) #[U,U,U,U,U,I,U,I,I,I,I,I,I,I,I,I,I,I,I,I,I,I,I,I,I,I,I,I,I,I,I,I,I,I,I,I,I,I,I,I,I,I] ?_
  refine a6i 5 (some 11) #[U,U,U,U,U,U,U,I,I,I,I,I,I,I,I,I,I,I,I,I,I,I,I,I,I,I,I,I,I,I,I,I,I,I,I,I,I,I,I,I,I,I] hHeld ?_
  refine a6i 7 (some 13) #[U,U,U,U,U,U,U,U,I,I,I,I,I,I,I,I,I,I,I,I,I,I,I,I,I,I,I,I,I,I,I,I,I,I,I,I,I,I,I,I,I,I] hHeld ?_
  refine qpu_ 8 (some 14) #[U,U,U,U,U,U,U,U,U,I,I,I,I,I,I,I,I,I,I,I,I,I,I,I,I,I,I,I,I,I,I,I,I,I,I,I,I,I,I,I,I,I] ?_
  refine qpu_ 9 (some 15) #[U,U,U,U,U,U,U,U,U,U,I,I,I,I,I,I,I,I,I,I,I,I,I,I,I,I,I,I,I,I,I,I,I,I,I,I,I,I,I,I,I,I] ?_
  refine qpu_ 10 (some 16) #[U,U,U,U,U,U,U,U,U,U,U,I,I,I,I,I,I,I,I,I,I,I,I,I,I,I,I,I,I,I,I,I,I,I,I,I,I,I,I,I,I,I] ?_
  refine qpv_ 11 (some 17) #[U,U,U,U,U,U,U,U,U,U,U,U,I,I,I,I,I,I,I,I,I,I,I,I,I,I,I,I,I,I,I,I,I,I,I,I,I,I,I,I,I,I] ?_
  refine qpv_ 12 (some 18) #[U,U,U,U,U,U,U,U,U,U,U,U,U,I,I,I,I,I,I,I,I,I,I,I,I,I,I,I,I,I,I,I,I,I,I,I,I,I,I,I,I,I] ?_
  refine qpv_ 13 (some 19) #[U,U,U,U,U,U,U,U,U,U,U,U,U,U,I,I,I,I,I,I,I,I,I,I,I,I,I,I,I,I,I,I,I,I,I,I,I,I,I,I,I,I] ?_
  refine qpv_ 14 (some 20) #[U,U,U,U,U,U,U,U,U,U,U,U,U,U,U,I,I,I,I,I,I,I,I,I,I,I,I,I,I,I,I,I,I,I,I,I,I,I,I,I,I,I] ?_
  refine qpv_ 15 (some 21) #[U,U,U,U,U,U,U,U,U,U,U,U,U,U,U,U,I,I,I,I,I,I,I,I,I,I,I,I,I,I,I,I,I,I,I,I,I,I,I,I,I,I] ?_
  refine qpu_ 16 (some 22) #[U,U,U,U,U,U,U,U,U,U,U,U,U,U,U,U,U,I,I,I,I,I,I,I,I,I,I,I,I,I,I,I,I,I,I,I,I,I,I,I,I,I] ?_
  refine qpu_ 17 (some 23) #[U,U,U,U,U,U,U,U,U,U,U,U,U,U,U,U,U,U,I,I,I,I,I,I,I,I,I,I,I,I,I,I,I,I,I,I,I,I,I,I,I,I] ?_
  refine qpv_ 18 (some 24) #[U,U,U,U,U,U,U,U,U,U,U,U,U,U,U,U,U,U,U,I,I,I,I,I,I,I,I,I,I,I,I,I,I,I,I,I,I,I,I,I,I,I] ?_
  refine qpv_ 19 (some 25) #[U,U,U,U,U,U,U,U,U,U,U,U,U,U,U,U,U,U,U,U,I,I,I,I,I,I,I,I,I,I,I,I,I,I,I,I,I,I,I,I,I,I] ?_
  refine qpv_ 20 (some 26) #[U,U,U,U,U,U,U,U,U,U,U,U,U,U,U,U,U,U,U,U,U,I,I,I,I,I,I,I,I,I,I,I,I,I,I,I,I,I,I,I,I,I] ?_
  refine qpv_ 21 (some 27) #[U,U,U,U,U,U,U,U,U,U,U,U,U,U,U,U,U,U,U,U,U,U,I,I,I,I,I,I,I,I,I,I,I,I,I,I,I,I,I,I,I,I] ?_
  refine qpv_ 22 (some 28) #[U,U,U,U,U,U,U,U,U,U,U,U,U,U,U,U,U,U,U,U,U,U,U,I,I,I,I,I,I,I,I,I,I,I,I,I,I,I,I,I,I,I] ?_
  refine qpu_ 23 (some 29) #[U,U,U,U,U,U,U,U,U,U,U,U,U,U,U,U,U,U,U,U,U,U,U,U,I,I,I,I,I,I,I,I,I,I,I,I,I,I,I,I,I,I] ?_
  refine qpu_ 24 (some 30) #[U,U,U,U,U,U,U,U,U,U,U,U,U,U,U,U,U,U,U,U,U,U,U,U,U,I,I,I,I,I,I,I,I,I,I,I,I,I,I,I,I,I] ?_
  refine qpv_ 25 (some 31) #[U,U,U,U,U,U,U,U,U,U,U,U,U,U,U,U,U,U,U,U,U,U,U,U,U,U,I,I,I,I,I,I,I,I,I,I,I,I,I,I,I,I] ?_
  refine qpv_ 26 (some 32) #[U,U,U,U,U,U,U,U,U,U,U,U,U,U,U,U,U,U,U,U,U,U,U,U,U,U,U,I,I,I,I,I,I,I,I,I,I,I,I,I,I,I] ?_
  refine qpv_ 27 (some 33) #[U,U,U,U,U,U,U,U,U,U,U,U,U,U,U,U,U,U,U,U,U,U,U,U,U,U,U,U,I,I,I,I,I,I,I,I,I,I,I,I,I,I] ?_
  refine qpv_ 28 (some 34) #[U,U,U,U,U,U,U,U,U,U,U,U,U,U,U,U,U,U,U,U,U,U,U,U,U,U,U,U,U,I,I,I,I,I,I,I,I,I,I,I,I,I] ?_
  refine qpv_ 29 (some 35) #[U,U,U,U,U,U,U,U,U,U,U,U,U,U,U,U,U,U,U,U,U,U,U,U,U,U,U,U,U,U,I,I,I,I,I,I,I,I,I,I,I,I] ?_
  refine qpv_ 30 (some 36) #[U,U,U,U,U,U,U,U,U,U,U,U,U,U,U,U,U,U,U,U,U,U,U,U,U,U,U,U,U,U,U,I,I,I,I,I,I,I,I,I,I,I] ?_
  refine qpv_ 31 (some 37) #[U,U,U,U,U,U,U,U,U,U,U,U,U,U,U,U,U,U,U,U,U,U,U,U,U,U,U,U,U,U,U,U,I,I,I,I,I,I,I,I,I,I] ?_
  refine qpv_ 32 (some 38) #[U,U,U,U,U,U,U,U,U,U,U,U,U,U,U,U,U,U,U,U,U,U,U,U,U,U,U,U,U,U,U,U,U,I,I,I,I,I,I,I,I,I] ?_
  refine qpv_ 33 (some 39) #[U,U,U,U,U,U,U,U,U,U,U,U,U,U,U,U,U,U,U,U,U,U,U,U,U,U,U,U,U,U,U,U,U,U,I,I,I,I,I,I,I,I] ?_
  refine qpv_ 34 (some 40) #[U,U,U,U,U,U,U,U,U,U,U,U,U,U,U,U,U,U,U,U,U,U,U,U,U,U,U,U,U,U,U,U,U,U,U,I,I,I,I,I,I,I] ?_
  refine qpv_ 35 (some 41) #[U,U,U,U,U,U,U,U,U,U,U,U,U,U,U,U,U,U,U,U,U,U,U,U,U,U,U,U,U,U,U,U,U,U,U,U,I,I,I,I,I,I] ?_
  refine qpv_ 36 (some 42) #[U,U,U,U,U,U,U,U,U,U,U,U,U,U,U,U,U,U,U,U,U,U,U,U,U,U,U,U,U,U,U,U,U,U,U,U,U,I,I,I,I,I] ?_
  refine qpv_ 37 (some 43) #[U,U,U,U,U,U,U,U,U,U,U,U,U,U,U,U,U,U,U,U,U,U,U,U,U,U,U,U,U,U,U,U,U,U,U,U,U,U,I,I,I,I] ?_
  refine qpv_ 38 (some 44) #[U,U,U,U,U,U,U,U,U,U,U,U,U,U,U,U,U,U,U,U,U,U,U,U,U,U,U,U,U,U,U,U,U,U,U,U,U,U,U,I,I,I] ?_
  refine qpv_ 39 (some 45) #[U,U,U,U,U,U,U,U,U,U,U,U,U,U,U,U,U,U,U,U,U,U,U,U,U,U,U,U,U,U,U,U,U,U,U,U,U,U,U,U,I,I] ?_
  refine qpu_ 40 (some 46) #[U,U,U,U,U,U,U,U,U,U,U,U,U,U,U,U,U,U,U,U,U,U,U,U,U,U,U,U,U,U,U,U,U,U,U,U,U,U,U,U,U,I] ?_
  refine qpu_ 41 (some 5) #[U,U,U,U,U,U,U,U,U,U,U,U,U,U,U,U,U,U,U,U,U,U,U,U,U,U,U,U,U,U,U,U,U,U,U,U,U,U,U,U,U,U] ?_
  refine a4u (a4c HT_.out (by kernel_rfl)) ?_
  try go_wp2
  go_ret
  exact ⟨qx_,qb_⟩
 rw [if_pos c6] at H
 have bC : decide (t < a7) = true := decide_eq_true c6
 clear c6
 by_cases c7 : a6 < s
 rotate_left
 ·rw [if_neg c7] at H
  have bD : decide (a6 < s) = false := decide_eq_false c7
  clear c7
  obtain rfl := si_ H
  go_enter Try.func62,Try.ntmps62
  try go_wp2_with (first | ((with_reducible refine a0t (N := 4) rfl ?_);refine qev_ 4 #[.int .i64 b, .int .i64 t, .int .i64 s] 42 ?_;intro q hg bK hbox hb;have c := am_ (hbox);have aq := qga_ hg;have ar := qga_ hg;replace HB := qbs_ hb;obtain ⟨T,W⟩ := qnb_ hg l;replace l := qkb_ l hb;obtain ⟨X,Y⟩ := qnb_ hg m;replace m := qkb_ m hb;obtain ⟨Z,a0⟩ := qnb_ hg a;replace a := qkb_ a hb;obtain ⟨a1,a2⟩ := qnb_ hg d;replace d := qkb_ d hb;obtain ⟨a4,a5⟩ := qnb_ hg j;replace j := qkb_ j hb;clear hb hbox hg))
  replace l := am_ (bd_ l.out)
  replace m := am_ (bd_ m.out)
  replace a := am_ (bd_ a.out)
  replace d := am_ (bd_ d.out)
  replace j := am_ (bd_ j.out)
  replace c := am_ (bd_ c.out)
  replace HB := am_ (ld_ HB.out)
  refine a4l (n := 42) (S := fun w' => w'.cell? ⟨q,0,none⟩ = some (.int .i64 b) ∧ w'.cell? ⟨q,1,none⟩ = some (.int .i64 t) ∧ w'.cell? ⟨q,2,none⟩ = some (.int .i64 s) ∧ w'.cell? ⟨u,0,none⟩ = some (.int .i64 v) ∧ w'.cell? ⟨u,1,none⟩ = some (.int .i64 a6) ∧ w'.cell? ⟨u,2,none⟩ = some (.int .i64 a7)) (ds := []) #[I,I,I,I,I,I,I,I,I,I,I,I,I,I,I,I,I,I,I,I,I,I,I,I,I,I,I,I,I,I,I,I,I,I,I,I,I,I,I,I,I,I] (by kernel_rfl) rfl rfl ⟨(bc_ c.out 0).trans rfl,(bc_ c.out 1).trans rfl,(bc_ c.out 2).trans rfl,(bc_ a.out 0).trans rfl,(bc_ a.out 1).trans rfl,(bc_ a.out 2).trans rfl⟩ (fun hHeld => ?_);refine a3s a1g.tab1 a1g.a8h (fun HT_ HW_ => ?_)
  generalize bK.drew = bY at l m a d j c HB hHeld ⊢
  refine qpu_ 0 (some 6) #[U,I,I,I,I,I,I,I,I,I,I,I,I,I,I,I,I,I,I,I,I,I,I,I,I,I,I,I,I,I,I,I,I,I,I,I,I,I,I,I,I,I] ?_
  refine a6i 1 (some 7) #[U,U,I,I,I,I,I,I,I,I,I,I,I,I,I,I,I,I,I,I,I,I,I,I,I,I,I,I,I,I,I,I,I,I,I,I,I,I,I,I,I,I] hHeld ?_
  refine qpu_ 2 (some 8) #[U,U,U,I,I,I,I,I,I,I,I,I,I,I,I,I,I,I,I,I,I,I,I,I,I,I,I,I,I,I,I,I,I,I,I,I,I,I,I,I,I,I] ?_
  refine qpu_ 3 (some 9) #[U,U,U,U,I,I,I,I,I,I,I,I,I,I,I,I,I,I,I,I,I,I,I,I,I,I,I,I,I,I,I,I,I,I,I,I,I,I,I,I,I,I] ?_
  refine qpu_ 4 (some 10) #[U,U,U,U,U,I,I,I,I,I,I,I,I,I,I,I,I,I,I,I,I,I,I,I,I,I,I,I,I,I,I,I,I,I,I,I,I,I,I,I,I,I] ?_
  refine qpu_ 6 (some 12) #[U,U,U,U,U,I,U,I,I,I,I,I,I,I,I,I,I,I,I,I,I,I,I,I,I,I,I,I,I,I,I,I,I,I,I,I,I,I,I,I,I,I] ?_
  refine a6i 5 (some 11) #[U,U,U,U,U,U,U,I,I,I,I,I,I,I,I,I,I,I,I,I,I,I,I,I,I,I,I,I,I,I,I,I,I,I,I,I,I,I,I,I,I,I] hHeld ?_
  refine a6i 7 (some 13) #[U,U,U,U,U,U,U,U,I,I,I,I,I,I,I,I,I,I,I,I,I,I,I,I,I,I,I,I,I,I,I,I,I,I,I,I,I,I,I,I,I,I] hHeld ?_
  refine qpu_ 8 (some 14) #[U,U,U,U,U,U,U,U,U,I,I,I,I,I,I,I,I,I,I,I,I,I,I,I,I,I,I,I,I,I,I,I,I,I,I,I,I,I,I,I,I,I] ?_
  refine qpu_ 9 (some 15) #[U,U,U,U,U,U,U,U,U,U,I,I,I,I,I,I,I,I,I,I,I,I,I,I,I,I,I,I,I,I,I,I,I,I,I,I,I,I,I,I,I,I] ?_
  refine qpu_ 10 (some 16) #[U,U,U,U,U,U,U,U,U,U,U,I,I,I,I,I,I,I,I,I,I,I,I,I,I,I,I,I,I,I,I,I,I,I,I,I,I,I,I,I,I,I] ?_
  refine qpu_ 11 (some 17) #[U,U,U,U,U,U,U,U,U,U,U,U,I,I,I,I,I,I,I,I,I,I,I,I,I,I,I,I,I,I,I,I,I,I,I,I,I,I,I,I,I,I] ?_
  refine qpu_ 13 (some 19) #[U,U,U,U,U,U,U,U,U,U,U,U,I,U,I,I,I,I,I,I,I,I,I,I,I,I,I,I,I,I,I,I,I,I,I,I,I,I,I,I,I,I] ?_
  refine a6i 12 (some 18) #[U,U,U,U,U,U,U,U,U,U,U,U,U,U,I,I,I,I,I,I,I,I,I,I,I,I,I,I,I,I,I,I,I,I,I,I,I,I,I,I,I,I] hHeld ?_
  refine a6i 14 (some 20) #[U,U,U,U,U,U,U,U,U,U,U,U,U,U,U,I,I,I,I,I,I,I,I,I,I,I,I,I,I,I,I,I,I,I,I,I,I,I,I,I,I,I] hHeld ?_
  refine qpu_ 15 (some 21) #[U,U,U,U,U,U,U,U,U,U,U,U,U,U,U,U,I,I,I,I,I,I,I,I,I,I,I,I,I,I,I,I,I,I,I,I,I,I,I,I,I,I] ?_
  refine qpu_ 16 (some 22) #[U,U,U,U,U,U,U,U,U,U,U,U,U,U,U,U,U,I,I,I,I,I,I,I,I,I,I,I,I,I,I,I,I,I,I,I,I,I,I,I,I,I] ?_
  refine qpu_ 17 (some 23) #[U,U,U,U,U,U,U,U,U,U,U,U,U,U,U,U,U,U,I,I,I,I,I,I,I,I,I,I,I,I,I,I,I,I,I,I,I,I,I,I,I,I] ?_
  refine qpv_ 18 (some 24) #[U,U,U,U,U,U,U,U,U,U,U,U,U,U,U,U,U,U,U,I,I,I,I,I,I,I,I,I,I,I,I,I,I,I,I,I,I,I,I,I,I,I] ?_
  refine qpv_ 19 (some 25) #[U,U,U,U,U,U,U,U,U,U,U,U,U,U,U,U,U,U,U,U,I,I,I,I,I,I,I,I,I,I,I,I,I,I,I,I,I,I,I,I,I,I] ?_
  refine qpv_ 20 (some 26) #[U,U,U,U,U,U,U,U,U,U,U,U,U,U,U,U,U,U,U,U,U,I,I,I,I,I,I,I,I,I,I,I,I,I,I,I,I,I,I,I,I,I] ?_
  refine qpv_ 21 (some 27) #[U,U,U,U,U,U,U,U,U,U,U,U,U,U,U,U,U,U,U,U,U,U,I,I,I,I,I,I,I,I,I,I,I,I,I,I,I,I,I,I,I,I] ?_
  refine qpv_ 22 (some 28) #[U,U,U,U,U,U,U,U,U,U,U,U,U,U,U,U,U,U,U,U,U,U,U,I,I,I,I,I,I,I,I,I,I,I,I,I,I,I,I,I,I,I] ?_
  refine qpu_ 23 (some 29) #[U,U,U,U,U,U,U,U,U,U,U,U,U,U,U,U,U,U,U,U,U,U,U,U,I,I,I,I,I,I,I,I,I,I,I,I,I,I,I,I,I,I] ?_
  refine qpu_ 24 (some 30) #[U,U,U,U,U,U,U,U,U,U,U,U,U,U,U,U,U,U,U,U,U,U,U,U,U,I,I,I,I,I,I,I,I,I,I,I,I,I,I,I,I,I] ?_
  refine qpv_ 25 (some 31) #[U,U,U,U,U,U,U,U,U,U,U,U,U,U,U,U,U,U,U,U,U,U,U,U,U,U,I,I,I,I,I,I,I,I,I,I,I,I,I,I,I,I] ?_
  refine qpv_ 26 (some 32) #[U,U,U,U,U,U,U,U,U,U,U,U,U,U,U,U,U,U,U,U,U,U,U,U,U,U,U,I,I,I,I,I,I,I,I,I,I,I,I,I,I,I] ?_
  refine qpv_ 27 (some 33) #[U,U,U,U,U,U,U,U,U,U,U,U,U,U,U,U,U,U,U,U,U,U,U,U,U,U,U,U,I,I,I,I,I,I,I,I,I,I,I,I,I,I] ?_
  refine qpv_ 28 (some 34) #[U,U,U,U,U,U,U,U,U,U,U,U,U,U,U,U,U,U,U,U,U,U,U,U,U,U,U,U,U,I,I,I,I,I,I,I,I,I,I,I,I,I] ?_
  refine qpv_ 29 (some 35) #[U,U,U,U,U,U,U,U,U,U,U,U,U,U,U,U,U,U,U,U,U,U,U,U,U,U,U,U,U,U,I,I,I,I,I,I,I,I,I,I,I,I] ?_
  refine qpv_ 30 (some 36) #[U,U,U,U,U,U,U,U,U,U,U,U,U,U,U,U,U,U,U,U,U,U,U,U,U,U,U,U,U,U,U,I,I,I,I,I,I,I,I,I,I,I] ?_
  refine qpv_ 31 (some 37) #[U,U,U,U,U,U,U,U,U,U,U,U,U,U,U,U,U,U,U,U,U,U,U,U,U,U,U,U,U,U,U,U,I,I,I,I,I,I,I,I,I,I] ?_
  refine qpv_ 32 (some 38) #[U,U,U,U,U,U,U,U,U,U,U,U,U,U,U,U,U,U,U,U,U,U,U,U,U,U,U,U,U,U,U,U,U,I,I,I,I,I,I,I,I,I] ?_
  refine qpv_ 33 (some 39) #[U,U,U,U,U,U,U,U,U,U,U,U,U,U,U,U,U,U,U,U,U,U,U,U,U,U,U,U,U,U,U,U,U,U,I,I,I,I,I,I,I,I] ?_
  refine qpv_ 34 (some 40) #[U,U,U,U,U,U,U,U,U,U,U,U,U,U,U,U,U,U,U,U,U,U,U,U,U,U,U,U,U,U,U,U,U,U,U,I,I,I,I,I,I,I] ?_
  refine qpv_ 35 (some 41) #[U,U,U,U,U,U,U,U,U,U,U,U,U,U,U,U,U,U,U,U,U,U,U,U,U,U,U,U,U,U,U,U,U,U,U,U,I,I,I,I,I,I] ?_
  refine qpv_ 36 (some 42) #[U,U,U,U,U,U,U,U,U,U,U,U,U,U,U,U,U,U,U,U,U,U,U,U,U,U,U,U,U,U,U,U,U,U,U,U,U,I,I,I,I,I] ?_
  refine qpv_ 37 (some 43) #[U,U,U,U,U,U,U,U,U,U,U,U,U,U,U,U,U,U,U,U,U,U,U,U,U,U,U,U,U,U,U,U,U,U,U,U,U,U,I,I,I,I] ?_
  refine qpv_ 38 (some 44) #[U,U,U,U,U,U,U,U,U,U,U,U,U,U,U,U,U,U,U,U,U,U,U,U,U,U,U,U,U,U,U,U,U,U,U,U,U,U,U,I,I,I] ?_
  refine qpv_ 39 (some 45) #[U,U,U,U,U,U,U,U,U,U,U,U,U,U,U,U,U,U,U,U,U,U,U,U,U,U,U,U,U,U,U,U,U,U,U,U,U,U,U,U,I,I] ?_
  refine qpu_ 40 (some 46) #[U,U,U,U,U,U,U,U,U,U,U,U,U,U,U,U,U,U,U,U,U,U,U,U,U,U,U,U,U,U,U,U,U,U,U,U,U,U,U,U,U,I] ?_
  refine qpu_ 41 (some 5) #[U,U,U,U,U,U,U,U,U,U,U,U,U,U,U,U,U,U,U,U,U,U,U,U,U,U,U,U,U,U,U,U,U,U,U,U,U,U,U,U,U,U] ?_
  refine a4u (a4c HT_.out (by kernel_rfl)) ?_
  try go_wp2
  go_ret
  exact ⟨qx_,qb_⟩
 rw [if_pos c7] at H
 have bD : decide (a6 < s) = true := decide_eq_true c7
 clear c7
 by_cases c8 : b = v
 ·rw [if_pos c8] at H
  have bE : (b == v) = true := beq_iff_eq.mpr c8
  have bF : (b != v) = false := bne_eq_false_iff_eq.mpr c8
  clear c8
  obtain rfl := si_ H
  go_enter Try.func62,Try.ntmps62
  try go_wp2_with (first | ((with_reducible refine a0t (N := 4) rfl ?_);refine qev_ 4 #[.int .i64 b, .int .i64 t, .int .i64 s] 42 ?_;intro q hg w9 hbox hb;have c := am_ (hbox);have aq := qga_ hg;have ar := qga_ hg;replace HB := qbs_ hb;obtain ⟨T,W⟩ := qnb_ hg l;replace l := qkb_ l hb;obtain ⟨X,Y⟩ := qnb_ hg m;replace m := qkb_ m hb;obtain ⟨Z,a0⟩ := qnb_ hg a;replace a := qkb_ a hb;obtain ⟨a1,a2⟩ := qnb_ hg d;replace d := qkb_ d hb;obtain ⟨a4,a5⟩ := qnb_ hg j;replace j := qkb_ j hb;clear hb hbox hg))
  replace l := am_ (bd_ l.out)
  replace m := am_ (bd_ m.out)
  replace a := am_ (bd_ a.out)
  replace d := am_ (bd_ d.out)
  replace j := am_ (bd_ j.out)
  replace c := am_ (bd_ c.out)
  replace HB := am_ (ld_ HB.out)
  refine a4l (n := 42) (S := fun w' => w'.cell? ⟨q,0,none⟩ = some (.int .i64 b) ∧ w'.cell? ⟨q,1,none⟩ = some (.int .i64 t) ∧ w'.cell? ⟨q,2,none⟩ = some (.int .i64 s) ∧ w'.cell? ⟨u,0,none⟩ = some (.int .i64 v) ∧ w'.cell? ⟨u,1,none⟩ = some (.int .i64 a6) ∧ w'.cell? ⟨u,2,none⟩ = some (.int .i64 a7)) (ds := []) #[I,I,I,I,I,I,I,I,I,I,I,I,I,I,I,I,I,I,I,I,I,I,I,I,I,I,I,I,I,I,I,I,I,I,I,I,I,I,I,I,I,I] (by kernel_rfl) rfl rfl ⟨(bc_ c.out 0).trans rfl,(bc_ c.out 1).trans rfl,(bc_ c.out 2).trans rfl,(bc_ a.out 0).trans rfl,(bc_ a.out 1).trans rfl,(bc_ a.out 2).trans rfl⟩ (fun hHeld => ?_);refine a3s a1g.tab1 a1g.a8h (fun HT_ HW_ => ?_)
  generalize w9.drew = bZ at l m a d j c HB hHeld ⊢
  refine qpu_ 0 (some 6) #[U,I,I,I,I,I,I,I,I,I,I,I,I,I,I,I,I,I,I,I,I,I,I,I,I,I,I,I,I,I,I,I,I,I,I,I,I,I,I,I,I,I] ?_
  refine a6i 1 (some 7) #[U,U,I,I,I,I,I,I,I,I,I,I,I,I,I,I,I,I,I,I,I,I,I,I,I,I,I,I,I,I,I,I,I,I,I,I,I,I,I,I,I,I] hHeld ?_
  refine qpu_ 2 (some 8) #[U,U,U,I,I,I,I,I,I,I,I,I,I,I,I,I,I,I,I,I,I,I,I,I,I,I,I,I,I,I,I,I,I,I,I,I,I,I,I,I,I,I] ?_
  refine qpu_ 3 (some 9) #[U,U,U,U,I,I,I,I,I,I,I,I,I,I,I,I,I,I,I,I,I,I,I,I,I,I,I,I,I,I,I,I,I,I,I,I,I,I,I,I,I,I] ?_
  refine qpu_ 4 (some 10) #[U,U,U,U,U,I,I,I,I,I,I,I,I,I,I,I,I,I,I,I,I,I,I,I,I,I,I,I,I,I,I,I,I,I,I,I,I,I,I,I,I,I] ?_
  refine qpu_ 6 (some 12) #[U,U,U,U,U,I,U,I,I,I,I,I,I,I,I,I,I,I,I,I,I,I,I,I,I,I,I,I,I,I,I,I,I,I,I,I,I,I,I,I,I,I] ?_
  refine a6i 5 (some 11) #[U,U,U,U,U,U,U,I,I,I,I,I,I,I,I,I,I,I,I,I,I,I,I,I,I,I,I,I,I,I,I,I,I,I,I,I,I,I,I,I,I,I] hHeld ?_
  refine a6i 7 (some 13) #[U,U,U,U,U,U,U,U,I,I,I,I,I,I,I,I,I,I,I,I,I,I,I,I,I,I,I,I,I,I,I,I,I,I,I,I,I,I,I,I,I,I] hHeld ?_
  refine qpu_ 8 (some 14) #[U,U,U,U,U,U,U,U,U,I,I,I,I,I,I,I,I,I,I,I,I,I,I,I,I,I,I,I,I,I,I,I,I,I,I,I,I,I,I,I,I,I] ?_
  refine qpu_ 9 (some 15) #[U,U,U,U,U,U,U,U,U,U,I,I,I,I,I,I,I,I,I,I,I,I,I,I,I,I,I,I,I,I,I,I,I,I,I,I,I,I,I,I,I,I] ?_
  refine qpu_ 10 (some 16) #[U,U,U,U,U,U,U,U,U,U,U,I,I,I,I,I,I,I,I,I,I,I,I,I,I,I,I,I,I,I,I,I,I,I,I,I,I,I,I,I,I,I] ?_
  refine qpu_ 11 (some 17) #[U,U,U,U,U,U,U,U,U,U,U,U,I,I,I,I,I,I,I,I,I,I,I,I,I,I,I,I,I,I,I,I,I,I,I,I,I,I,I,I,I,I] ?_
  refine qpu_ 13 (some 19) #[U,U,U,U,U,U,U,U,U,U,U,U,I,U,I,I,I,I,I,I,I,I,I,I,I,I,I,I,I,I,I,I,I,I,I,I,I,I,I,I,I,I] ?_
  refine a6i 12 (some 18) #[U,U,U,U,U,U,U,U,U,U,U,U,U,U,I,I,I,I,I,I,I,I,I,I,I,I,I,I,I,I,I,I,I,I,I,I,I,I,I,I,I,I] hHeld ?_
  refine a6i 14 (some 20) #[U,U,U,U,U,U,U,U,U,U,U,U,U,U,U,I,I,I,I,I,I,I,I,I,I,I,I,I,I,I,I,I,I,I,I,I,I,I,I,I,I,I] hHeld ?_
  refine qpu_ 15 (some 21) #[U,U,U,U,U,U,U,U,U,U,U,U,U,U,U,U,I,I,I,I,I,I,I,I,I,I,I,I,I,I,I,I,I,I,I,I,I,I,I,I,I,I] ?_
  refine qpu_ 16 (some 22) #[U,U,U,U,U,U,U,U,U,U,U,U,U,U,U,U,U,I,I,I,I,I,I,I,I,I,I,I,I,I,I,I,I,I,I,I,I,I,I,I,I,I] ?_
  refine qpu_ 17 (some 23) #[U,U,U,U,U,U,U,U,U,U,U,U,U,U,U,U,U,U,I,I,I,I,I,I,I,I,I,I,I,I,I,I,I,I,I,I,I,I,I,I,I,I] ?_
  refine qpu_ 18 (some 24) #[U,U,U,U,U,U,U,U,U,U,U,U,U,U,U,U,U,U,U,I,I,I,I,I,I,I,I,I,I,I,I,I,I,I,I,I,I,I,I,I,I,I] ?_
  refine qpu_ 20 (some 26) #[U,U,U,U,U,U,U,U,U,U,U,U,U,U,U,U,U,U,U,I,U,I,I,I,I,I,I,I,I,I,I,I,I,I,I,I,I,I,I,I,I,I] ?_
  refine a6i 19 (some 25) #[U,U,U,U,U,U,U,U,U,U,U,U,U,U,U,U,U,U,U,U,U,I,I,I,I,I,I,I,I,I,I,I,I,I,I,I,I,I,I,I,I,I] hHeld ?_
  refine a6i 21 (some 27) #[U,U,U,U,U,U,U,U,U,U,U,U,U,U,U,U,U,U,U,U,U,U,I,I,I,I,I,I,I,I,I,I,I,I,I,I,I,I,I,I,I,I] hHeld ?_
  refine qpu_ 22 (some 28) #[U,U,U,U,U,U,U,U,U,U,U,U,U,U,U,U,U,U,U,U,U,U,U,I,I,I,I,I,I,I,I,I,I,I,I,I,I,I,I,I,I,I] ?_
  refine qpu_ 23 (some 29) #[U,U,U,U,U,U,U,U,U,U,U,U,U,U,U,U,U,U,U,U,U,U,U,U,I,I,I,I,I,I,I,I,I,I,I,I,I,I,I,I,I,I] ?_
  refine qpu_ 24 (some 30) #[U,U,U,U,U,U,U,U,U,U,U,U,U,U,U,U,U,U,U,U,U,U,U,U,U,I,I,I,I,I,I,I,I,I,I,I,I,I,I,I,I,I] ?_
  refine qpv_ 25 (some 31) #[U,U,U,U,U,U,U,U,U,U,U,U,U,U,U,U,U,U,U,U,U,U,U,U,U,U,I,I,I,I,I,I,I,I,I,I,I,I,I,I,I,I] ?_
  refine qpv_ 26 (some 32) #[U,U,U,U,U,U,U,U,U,U,U,U,U,U,U,U,U,U,U,U,U,U,U,U,U,U,U,I,I,I,I,I,I,I,I,I,I,I,I,I,I,I] ?_
  refine qpv_ 27 (some 33) #[U,U,U,U,U,U,U,U,U,U,U,U,U,U,U,U,U,U,U,U,U,U,U,U,U,U,U,U,I,I,I,I,I,I,I,I,I,I,I,I,I,I] ?_
  refine qpv_ 28 (some 34) #[U,U,U,U,U,U,U,U,U,U,U,U,U,U,U,U,U,U,U,U,U,U,U,U,U,U,U,U,U,I,I,I,I,I,I,I,I,I,I,I,I,I] ?_
  refine qpv_ 29 (some 35) #[U,U,U,U,U,U,U,U,U,U,U,U,U,U,U,U,U,U,U,U,U,U,U,U,U,U,U,U,U,U,I,I,I,I,I,I,I,I,I,I,I,I] ?_
  refine qpv_ 30 (some 36) #[U,U,U,U,U,U,U,U,U,U,U,U,U,U,U,U,U,U,U,U,U,U,U,U,U,U,U,U,U,U,U,I,I,I,I,I,I,I,I,I,I,I] ?_
  refine qpv_ 31 (some 37) #[U,U,U,U,U,U,U,U,U,U,U,U,U,U,U,U,U,U,U,U,U,U,U,U,U,U,U,U,U,U,U,U,I,I,I,I,I,I,I,I,I,I] ?_
  refine qpv_ 32 (some 38) #[U,U,U,U,U,U,U,U,U,U,U,U,U,U,U,U,U,U,U,U,U,U,U,U,U,U,U,U,U,U,U,U,U,I,I,I,I,I,I,I,I,I] ?_
  refine qpv_ 33 (some 39) #[U,U,U,U,U,U,U,U,U,U,U,U,U,U,U,U,U,U,U,U,U,U,U,U,U,U,U,U,U,U,U,U,U,U,I,I,I,I,I,I,I,I] ?_
  refine qpv_ 34 (some 40) #[U,U,U,U,U,U,U,U,U,U,U,U,U,U,U,U,U,U,U,U,U,U,U,U,U,U,U,U,U,U,U,U,U,U,U,I,I,I,I,I,I,I] ?_
  refine qpv_ 35 (some 41) #[U,U,U,U,U,U,U,U,U,U,U,U,U,U,U,U,U,U,U,U,U,U,U,U,U,U,U,U,U,U,U,U,U,U,U,U,I,I,I,I,I,I] ?_
  refine qpv_ 36 (some 42) #[U,U,U,U,U,U,U,U,U,U,U,U,U,U,U,U,U,U,U,U,U,U,U,U,U,U,U,U,U,U,U,U,U,U,U,U,U,I,I,I,I,I] ?_
  refine qpv_ 37 (some 43) #[U,U,U,U,U,U,U,U,U,U,U,U,U,U,U,U,U,U,U,U,U,U,U,U,U,U,U,U,U,U,U,U,U,U,U,U,U,U,I,I,I,I] ?_
  refine qpv_ 38 (some 44) #[U,U,U,U,U,U,U,U,U,U,U,U,U,U,U,U,U,U,U,U,U,U,U,U,U,U,U,U,U,U,U,U,U,U,U,U,U,U,U,I,I,I] ?_
  refine qpv_ 39 (some 45) #[U,U,U,U,U,U,U,U,U,U,U,U,U,U,U,U,U,U,U,U,U,U,U,U,U,U,U,U,U,U,U,U,U,U,U,U,U,U,U,U,I,I] ?_
  refine qpu_ 40 (some 46) #[U,U,U,U,U,U,U,U,U,U,U,U,U,U,U,U,U,U,U,U,U,U,U,U,U,U,U,U,U,U,U,U,U,U,U,U,U,U,U,U,U,I] ?_
  refine qpu_ 41 (some 5) #[U,U,U,U,U,U,U,U,U,U,U,U,U,U,U,U,U,U,U,U,U,U,U,U,U,U,U,U,U,U,U,U,U,U,U,U,U,U,U,U,U,U] ?_
  refine a4u (a4c HT_.out (by kernel_rfl)) ?_
  try go_wp2
  go_ret
  exact ⟨qx_,qb_⟩
 rw [if_neg c8] at H
 have bE : (b == v) = false := beq_eq_false_iff_ne.mpr c8
 have bF : (b != v) = true := bne_iff_ne.mpr c8
 obtain ⟨bQ,H⟩ := qid_ H
 obtain ⟨bR,H⟩ := qid_ H
 obtain ⟨bS,H⟩ := qid_ H
 obtain ⟨bT,H⟩ := qid_ H
 replace H := bm_ H
 obtain ⟨aX,bb,H⟩ := H
 have bL := am_ bb
 clear bb
 obtain rfl := si_ H
 go_enter Try.func62,Try.ntmps62
 try go_wp2_with (first | ((with_reducible refine a0t (N := 4) rfl ?_);refine qev_ 4 #[.int .i64 b, .int .i64 t, .int .i64 s] 42 ?_;intro q hg bM hbox hb;have c := am_ (hbox);have aq := qga_ hg;have ar := qga_ hg;replace HB := qbs_ hb;obtain ⟨T,W⟩ := qnb_ hg l;replace l := qkb_ l hb;obtain ⟨X,Y⟩ := qnb_ hg m;replace m := qkb_ m hb;obtain ⟨Z,a0⟩ := qnb_ hg a;replace a := qkb_ a hb;obtain ⟨a1,a2⟩ := qnb_ hg d;replace d := qkb_ d hb;obtain ⟨a4,a5⟩ := qnb_ hg j;replace j := qkb_ j hb;clear hb hbox hg))
 replace l := am_ (bd_ l.out)
 replace m := am_ (bd_ m.out)
 replace a := am_ (bd_ a.out)
 replace d := am_ (bd_ d.out)
 replace j := am_ (bd_ j.out)
 replace c := am_ (bd_ c.out)
 replace HB := am_ (ld_ HB.out)
 have aY : 0 ≤ (a3 : Int) := ot_
 have aZ : a3 < (g.length : Int) := ot_
 obtain ⟨p,aO,aP,aQ,aR,bG,a9,aa,ab,ac,ad,av,aw,ax,ay⟩ := a5j b4.out a3 aY aZ
 have x := ad
 have y := ac
 have z := ab
 have A := aa
 have B := a9
 cases bG
 replace a9 := qh_ HB a9
 replace aa := qh_ HB aa
 replace ab := qh_ HB ab
 replace ac := qh_ HB ac
 replace ad := qh_ HB ad
 have az := am_ aw
 have b5 := am_ av
 clear aw av
 have aA := am_ ay
 have b6 := am_ ax
 clear ay ax
 replace aY := eq_true aY
 replace aZ := eq_true aZ
 have b0 : 0 ≤ ((a1z o b) : Int) := ot_
 have b1 : (a1z o b) < (g.length : Int) := ot_
 obtain ⟨bc,aS,aT,aU,aV,bH,ae,af,ag,ah,ai,aB,aC,aD,aE⟩ := a5j b4.out (a1z o b) b0 b1
 have D := ai
 have E := ah
 have G := ag
 have J := af
 have L := ae
 obtain rfl : p = bc := (by injection bH)
 replace ae := qh_ HB ae
 replace af := qh_ HB af
 replace ag := qh_ HB ag
 replace ah := qh_ HB ah
 replace ai := qh_ HB ai
 have aF := am_ aC
 have b7 := am_ aB
 clear aC aB
 have aG := am_ aE
 have b8 := am_ aD
 clear aE aD
 replace b0 := eq_true b0
 replace b1 := eq_true b1
 refine a4l (n := 42) (S := fun w' => w'.cell? ⟨q,0,none⟩ = some (.int .i64 b) ∧ w'.cell? ⟨q,1,none⟩ = some (.int .i64 t) ∧ w'.cell? ⟨q,2,none⟩ = some (.int .i64 s) ∧ w'.cell? ⟨u,0,none⟩ = some (.int .i64 v) ∧ w'.cell? ⟨u,1,none⟩ = some (.int .i64 a6) ∧ w'.cell? ⟨u,2,none⟩ = some (.int .i64 a7) ∧ w'.cell? ⟨ap,0,none⟩ = some (.slice (some p) g.length aW) ∧ w'.cell? ⟨ap,1,none⟩ = some (.map (some O)) ∧ w'.cell? ⟨ap,2,none⟩ = some (.map (some P)) ∧ w'.cell? ⟨au,0,none⟩ = some (.int .i64 a3) ∧ w'.cell? (p.add ((a3).toNat * 5)) = some (.int .i64 ((a0a g a3).f0)) ∧ w'.cell? ⟨(p.add ((a3).toNat * 5)).block,(p.add ((a3).toNat * 5)).off + 1,none⟩ = some (.int .i64 ((a0a g a3).f1)) ∧ w'.cell? ⟨(p.add ((a3).toNat * 5)).block,(p.add ((a3).toNat * 5)).off + 2,none⟩ = some (.int .i64 ((a0a g a3).f2)) ∧ w'.cell? ⟨(p.add ((a3).toNat * 5)).block,(p.add ((a3).toNat * 5)).off + 3,none⟩ = some (.slice aO ((a0a g a3).f3).length aP) ∧ w'.cell? ⟨(p.add ((a3).toNat * 5)).block,(p.add ((a3).toNat * 5)).off + 4,none⟩ = some (.slice aQ ((a0a g a3).f4).length aR) ∧ w'.cell? (p.add (((a1z o b)).toNat * 5)) = some (.int .i64 ((a0a g (a1z o b)).f0)) ∧ w'.cell? ⟨(p.add (((a1z o b)).toNat * 5)).block,(p.add (((a1z o b)).toNat * 5)).off + 1,none⟩ = some (.int .i64 ((a0a g (a1z o b)).f1)) ∧ w'.cell? ⟨(p.add (((a1z o b)).toNat * 5)).block,(p.add (((a1z o b)).toNat * 5)).off + 2,none⟩ = some (.int .i64 ((a0a g (a1z o b)).f2)) ∧ w'.cell? ⟨(p.add (((a1z o b)).toNat * 5)).block,(p.add (((a1z o b)).toNat * 5)).off + 3,none⟩ = some (.slice aS ((a0a g (a1z o b)).f3).length aT) ∧ w'.cell? ⟨(p.add (((a1z o b)).toNat * 5)).block,(p.add (((a1z o b)).toNat * 5)).off + 4,none⟩ = some (.slice aU ((a0a g (a1z o b)).f4).length aV)) (ds := []) #[I,I,I,I,I,I,I,I,I,I,I,I,I,I,I,I,I,I,I,I,I,I,I,I,I,I,I,I,I,I,I,I,I,I,I,I,I,I,I,I,I,I] (by kernel_rfl) rfl rfl ⟨(bc_ c.out 0).trans rfl,(bc_ c.out 1).trans rfl,(bc_ c.out 2).trans rfl,(bc_ a.out 0).trans rfl,(bc_ a.out 1).trans rfl,(bc_ a.out 2).trans rfl,(bc_ d.out 0).trans rfl,(bc_ d.out 1).trans rfl,(bc_ d.out 2).trans rfl,(bc_ j.out 0).trans rfl,((HB.out.cell (World.block_lt_of_cell? w _ B)).trans B),((HB.out.cell (World.block_lt_of_cell? w _ A)).trans A),((HB.out.cell (World.block_lt_of_cell? w _ z)).trans z),((HB.out.cell (World.block_lt_of_cell? w _ y)).trans y),((HB.out.cell (World.block_lt_of_cell? w _ x)).trans x),((HB.out.cell (World.block_lt_of_cell? w _ L)).trans L),((HB.out.cell (World.block_lt_of_cell? w _ J)).trans J),((HB.out.cell (World.block_lt_of_cell? w _ G)).trans G),((HB.out.cell (World.block_lt_of_cell? w _ E)).trans E),((HB.out.cell (World.block_lt_of_cell? w _ D)).trans D)⟩ (fun hHeld => ?_);refine a3s a1g.tab1 a1g.a8h (fun HT_ HW_ => ?_)
 generalize bM.drew = c0 at l m a d j c HB az aA aF aG a9 aa ab ac ad ae af ag ah ai hHeld ⊢
 refine qpu_ 0 (some 6) #[U,I,I,I,I,I,I,I,I,I,I,I,I,I,I,I,I,I,I,I,I,I,I,I,I,I,I,I,I,I,I,I,I,I,I,I,I,I,I,I,I,I] ?_
 refine a6x 1 (some 7) #[U,U,I,I,I,I,I,I,I,I,I,I,I,I,I,I,I,I,I,I,I,I,I,I,I,I,I,I,I,I,I,I,I,I,I,I,I,I,I,I,I,I] hHeld ?_
 refine qpu_ 2 (some 8) #[U,U,U,I,I,I,I,I,I,I,I,I,I,I,I,I,I,I,I,I,I,I,I,I,I,I,I,I,I,I,I,I,I,I,I,I,I,I,I,I,I,I] ?_
 refine qpu_ 3 (some 9) #[U,U,U,U,I,I,I,I,I,I,I,I,I,I,I,I,I,I,I,I,I,I,I,I,I,I,I,I,I,I,I,I,I,I,I,I,I,I,I,I,I,I] ?_
 refine qpu_ 4 (some 10) #[U,U,U,U,U,I,I,I,I,I,I,I,I,I,I,I,I,I,I,I,I,I,I,I,I,I,I,I,I,I,I,I,I,I,I,I,I,I,I,I,I,I] ?_
 refine qpu_ 6 (some 12) #[U,U,U,U,U,I,U,I,I,I,I,I,I,I,I,I,I,I,I,I,I,I,I,I,I,I,I,I,I,I,I,I,I,I,I,I,I,I,I,I,I,I] ?_
 refine a6x 5 (some 11) #[U,U,U,U,U,U,U,I,I,I,I,I,I,I,I,I,I,I,I,I,I,I,I,I,I,I,I,I,I,I,I,I,I,I,I,I,I,I,I,I,I,I] hHeld ?_
 refine a6x 7 (some 13) #[U,U,U,U,U,U,U,U,I,I,I,I,I,I,I,I,I,I,I,I,I,I,I,I,I,I,I,I,I,I,I,I,I,I,I,I,I,I,I,I,I,I] hHeld ?_
 refine qpu_ 8 (some 14) #[U,U,U,U,U,U,U,U,U,I,I,I,I,I,I,I,I,I,I,I,I,I,I,I,I,I,I,I,I,I,I,I,I,I,I,I,I,I,I,I,I,I] ?_
 refine qpu_ 9 (some 15) #[U,U,U,U,U,U,U,U,U,U,I,I,I,I,I,I,I,I,I,I,I,I,I,I,I,I,I,I,I,I,I,I,I,I,I,I,I,I,I,I,I,I] ?_
 refine qpu_ 10 (some 16) #[U,U,U,U,U,U,U,U,U,U,U,I,I,I,I,I,I,I,I,I,I,I,I,I,I,I,I,I,I,I,I,I,I,I,I,I,I,I,I,I,I,I] ?_
 refine qpu_ 11 (some 17) #[U,U,U,U,U,U,U,U,U,U,U,U,I,I,I,I,I,I,I,I,I,I,I,I,I,I,I,I,I,I,I,I,I,I,I,I,I,I,I,I,I,I] ?_
 refine qpu_ 13 (some 19) #[U,U,U,U,U,U,U,U,U,U,U,U,I,U,I,I,I,I,I,I,I,I,I,I,I,I,I,I,I,I,I,I,I,I,I,I,I,I,I,I,I,I] ?_
 refine a6x 12 (some 18) #[U,U,U,U,U,U,U,U,U,U,U,U,U,U,I,I,I,I,I,I,I,I,I,I,I,I,I,I,I,I,I,I,I,I,I,I,I,I,I,I,I,I] hHeld ?_
 refine a6x 14 (some 20) #[U,U,U,U,U,U,U,U,U,U,U,U,U,U,U,I,I,I,I,I,I,I,I,I,I,I,I,I,I,I,I,I,I,I,I,I,I,I,I,I,I,I] hHeld ?_
 refine qpu_ 15 (some 21) #[U,U,U,U,U,U,U,U,U,U,U,U,U,U,U,U,I,I,I,I,I,I,I,I,I,I,I,I,I,I,I,I,I,I,I,I,I,I,I,I,I,I] ?_
 refine qpu_ 16 (some 22) #[U,U,U,U,U,U,U,U,U,U,U,U,U,U,U,U,U,I,I,I,I,I,I,I,I,I,I,I,I,I,I,I,I,I,I,I,I,I,I,I,I,I] ?_
 refine qpu_ 17 (some 23) #[U,U,U,U,U,U,U,U,U,U,U,U,U,U,U,U,U,U,I,I,I,I,I,I,I,I,I,I,I,I,I,I,I,I,I,I,I,I,I,I,I,I] ?_
 refine qpu_ 18 (some 24) #[U,U,U,U,U,U,U,U,U,U,U,U,U,U,U,U,U,U,U,I,I,I,I,I,I,I,I,I,I,I,I,I,I,I,I,I,I,I,I,I,I,I] ?_
 refine qpu_ 20 (some 26) #[U,U,U,U,U,U,U,U,U,U,U,U,U,U,U,U,U,U,U,I,U,I,I,I,I,I,I,I,I,I,I,I,I,I,I,I,I,I,I,I,I,I] ?_
 refine a6x 19 (some 25) #[U,U,U,U,U,U,U,U,U,U,U,U,U,U,U,U,U,U,U,U,U,I,I,I,I,I,I,I,I,I,I,I,I,I,I,I,I,I,I,I,I,I] hHeld ?_
 refine a6x 21 (some 27) #[U,U,U,U,U,U,U,U,U,U,U,U,U,U,U,U,U,U,U,U,U,U,I,I,I,I,I,I,I,I,I,I,I,I,I,I,I,I,I,I,I,I] hHeld ?_
 refine qpu_ 22 (some 28) #[U,U,U,U,U,U,U,U,U,U,U,U,U,U,U,U,U,U,U,U,U,U,U,I,I,I,I,I,I,I,I,I,I,I,I,I,I,I,I,I,I,I] ?_
 refine qpu_ 23 (some 29) #[U,U,U,U,U,U,U,U,U,U,U,U,U,U,U,U,U,U,U,U,U,U,U,U,I,I,I,I,I,I,I,I,I,I,I,I,I,I,I,I,I,I] ?_
 refine qpu_ 24 (some 30) #[U,U,U,U,U,U,U,U,U,U,U,U,U,U,U,U,U,U,U,U,U,U,U,U,U,I,I,I,I,I,I,I,I,I,I,I,I,I,I,I,I,I] ?_
 refine qpu_ 25 (some 31) #[U,U,U,U,U,U,U,U,U,U,U,U,U,U,U,U,U,U,U,U,U,U,U,U,U,U,I,I,I,I,I,I,I,I,I,I,I,I,I,I,I,I] ?_
 refine qpu_ 30 (some 36) #[U,U,U,U,U,U,U,U,U,U,U,U,U,U,U,U,U,U,U,U,U,U,U,U,U,U,I,I,I,I,U,I,I,I,I,I,I,I,I,I,I,I] ?_
 refine qpu_ 32 (some 38) #[U,U,U,U,U,U,U,U,U,U,U,U,U,U,U,U,U,U,U,U,U,U,U,U,U,U,I,I,I,I,U,I,U,I,I,I,I,I,I,I,I,I] ?_
 refine qpu_ 34 (some 40) #[U,U,U,U,U,U,U,U,U,U,U,U,U,U,U,U,U,U,U,U,U,U,U,U,U,U,I,I,I,I,U,I,U,I,U,I,I,I,I,I,I,I] ?_
 refine a6x 26 (some 32) #[U,U,U,U,U,U,U,U,U,U,U,U,U,U,U,U,U,U,U,U,U,U,U,U,U,U,U,I,I,I,U,I,U,I,U,I,I,I,I,I,I,I] hHeld ?_
 refine a6x 27 (some 33) #[U,U,U,U,U,U,U,U,U,U,U,U,U,U,U,U,U,U,U,U,U,U,U,U,U,U,U,U,I,I,U,I,U,I,U,I,I,I,I,I,I,I] hHeld ?_
 refine qpu_ 28 (some 34) #[U,U,U,U,U,U,U,U,U,U,U,U,U,U,U,U,U,U,U,U,U,U,U,U,U,U,U,U,U,I,U,I,U,I,U,I,I,I,I,I,I,I] ?_
 refine a6x 29 (some 35) #[U,U,U,U,U,U,U,U,U,U,U,U,U,U,U,U,U,U,U,U,U,U,U,U,U,U,U,U,U,U,U,I,U,I,U,I,I,I,I,I,I,I] hHeld ?_
 refine a6x 31 (some 37) #[U,U,U,U,U,U,U,U,U,U,U,U,U,U,U,U,U,U,U,U,U,U,U,U,U,U,U,U,U,U,U,U,U,I,U,I,I,I,I,I,I,I] hHeld ?_
 refine a6x 33 (some 39) #[U,U,U,U,U,U,U,U,U,U,U,U,U,U,U,U,U,U,U,U,U,U,U,U,U,U,U,U,U,U,U,U,U,U,U,I,I,I,I,I,I,I] hHeld ?_
 refine a6x 35 (some 41) #[U,U,U,U,U,U,U,U,U,U,U,U,U,U,U,U,U,U,U,U,U,U,U,U,U,U,U,U,U,U,U,U,U,U,U,U,I,I,I,I,I,I] hHeld ?_
 refine one_ (i := 36) (N := some 42) #[U,U,U,U,U,U,U,U,U,U,U,U,U,U,U,U,U,U,U,U,U,U,U,U,U,U,U,U,U,U,U,U,U,U,U,U,U,I,I,I,I,I] rfl rfl (a4m HT_.out (by kernel_rfl)) (by decide) (fun K hK => ?_)
 refine b1a (by rfl) (N := 42) rfl rfl (M := o) (k := b) Try.underlying59 Try.underlying3 (a7i _) (qk_ l) rfl ?hx ?_;(case hx => first | rfl | (go_simp;done) | (go_simp;rfl))
 refine hK.out _ _ ⟨(bc_ c.out 0).trans rfl,(bc_ c.out 1).trans rfl,(bc_ c.out 2).trans rfl,(bc_ a.out 0).trans rfl,(bc_ a.out 1).trans rfl,(bc_ a.out 2).trans rfl,(bc_ d.out 0).trans rfl,(bc_ d.out 1).trans rfl,(bc_ d.out 2).trans rfl,(bc_ j.out 0).trans rfl,((HB.out.cell (World.block_lt_of_cell? w _ B)).trans B),((HB.out.cell (World.block_lt_of_cell? w _ A)).trans A),((HB.out.cell (World.block_lt_of_cell? w _ z)).trans z),((HB.out.cell (World.block_lt_of_cell? w _ y)).trans y),((HB.out.cell (World.block_lt_of_cell? w _ x)).trans x),((HB.out.cell (World.block_lt_of_cell? w _ L)).trans L),((HB.out.cell (World.block_lt_of_cell? w _ J)).trans J),((HB.out.cell (World.block_lt_of_cell? w _ G)).trans G),((HB.out.cell (World.block_lt_of_cell? w _ E)).trans E),((HB.out.cell (World.block_lt_of_cell? w _ D)).trans D)⟩ (fun hHeld => ?_)
 clear hK K
 refine a4q (a' := ?_) ?_ ?_
 rotate_left
 ·show Act.put _ (some 42) _ = _
  exact qp_
 refine qpu_ 37 (some 43) #[U,U,U,U,U,U,U,U,U,U,U,U,U,U,U,U,U,U,U,U,U,U,U,U,U,U,U,U,U,U,U,U,U,U,U,U,U,U,I,I,I,I] ?_
 refine a6x 38 (some 44) #[U,U,U,U,U,U,U,U,U,U,U,U,U,U,U,U,U,U,U,U,U,U,U,U,U,U,U,U,U,U,U,U,U,U,U,U,U,U,U,I,I,I] hHeld ?_
 refine one_ (i := 39) (N := some 45) #[U,U,U,U,U,U,U,U,U,U,U,U,U,U,U,U,U,U,U,U,U,U,U,U,U,U,U,U,U,U,U,U,U,U,U,U,U,U,U,U,I,I] rfl rfl (a4m HT_.out (by kernel_rfl)) (by decide) (fun K hK => ?_)
 refine a5z Try.func63 (by kernel_rfl) rfl #[.agg #[.int .i64 ((a0a g a3).f0), .int .i64 ((a0a g a3).f1), .int .i64 ((a0a g a3).f2), .slice aO ((a0a g a3).f3).length aP, .slice aQ ((a0a g a3).f4).length aR], .agg #[.int .i64 ((a0a g (a1z o b)).f0), .int .i64 ((a0a g (a1z o b)).f1), .int .i64 ((a0a g (a1z o b)).f2), .slice aS ((a0a g (a1z o b)).f3).length aT, .slice aU ((a0a g (a1z o b)).f4).length aV]] (by rfl) rfl rfl ql_ ?_
 with_reducible refine (a5p.calls k ((a0a g a3).f0) ((a0a g a3).f1) ((a0a g a3).f2) _ _ ((a0a g a3).f3) _ _ ((a0a g a3).f4) ((a0a g (a1z o b)).f0) ((a0a g (a1z o b)).f1) ((a0a g (a1z o b)).f2) _ _ ((a0a g (a1z o b)).f3) _ _ ((a0a g (a1z o b)).f4) aX _ ?s1 b5.out ?s3 b6.out ?s5 b7.out ?s7 b8.out bL.out).mono ?_
 (case s1 => exact qc_ az)
 (case s3 => exact qc_ aA)
 (case s5 => exact qc_ aF)
 (case s7 => exact qc_ aG)
 rintro e c1 ⟨rfl,hb⟩
 refine ⟨_,rfl,?_⟩
 replace l := qkb_ l hb
 replace m := qkb_ m hb
 replace a := qkb_ a hb
 replace d := qkb_ d hb
 replace j := qkb_ j hb
 replace c := qkb_ c hb
 replace HB := qbs_ hb
 (try clear hb)
 (try clear ca)
 (try clear hk)
 (try clear hi)
 refine hK.out _ _ ⟨(bc_ c.out 0).trans rfl,(bc_ c.out 1).trans rfl,(bc_ c.out 2).trans rfl,(bc_ a.out 0).trans rfl,(bc_ a.out 1).trans rfl,(bc_ a.out 2).trans rfl,(bc_ d.out 0).trans rfl,(bc_ d.out 1).trans rfl,(bc_ d.out 2).trans rfl,(bc_ j.out 0).trans rfl,((HB.out.cell (World.block_lt_of_cell? w _ B)).trans B),((HB.out.cell (World.block_lt_of_cell? w _ A)).trans A),((HB.out.cell (World.block_lt_of_cell? w _ z)).trans z),((HB.out.cell (World.block_lt_of_cell? w _ y)).trans y),((HB.out.cell (World.block_lt_of_cell? w _ x)).trans x),((HB.out.cell (World.block_lt_of_cell? w _ L)).trans L),((HB.out.cell (World.block_lt_of_cell? w _ J)).trans J),((HB.out.cell (World.block_lt_of_cell? w _ G)).trans G),((HB.out.cell (World.block_lt_of_cell? w _ E)).trans E),((HB.out.cell (World.block_lt_of_cell? w _ D)).trans D)⟩ (fun hHeld => ?_)
 clear hK K
 refine a4q (a' := ?_) ?_ ?_
 rotate_left
 ·show Act.put _ (some 45) _ = _
  exact qp_
 refine qpu_ 40 (some 46) #[U,U,U,U,U,U,U,U,U,U,U,U,U,U,U,U,U,U,U,U,U,U,U,U,U,U,U,U,U,U,U,U,U,U,U,U,U,U,U,U,U,I] ?_
 refine qpu_ 41 (some 5) #[U,U,U,U,U,U,U,U,U,U,U,U,U,U,U,U,U,U,U,U,U,U,U,U,U,U,U,U,U,U,U,U,U,U,U,U,U,U,U,U,U,U] ?_
 refine a4u (a4c HT_.out (by kernel_rfl)) ?_
 try go_wp2
 go_ret
 exact ⟨qx_,qb_⟩
end Go.Proofs.Ytheibjkjmkanoaa.Px
