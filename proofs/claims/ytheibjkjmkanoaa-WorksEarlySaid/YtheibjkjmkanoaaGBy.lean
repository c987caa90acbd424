/- The library's sort (slices.SortFunc) of stretches by their first days, with the closure that span.by hands back: the shelf's contract, laid at this program. Conditions: fewer than 2^62 elements; the closure's captured variable holds the function that hands back the first day. -/
import Derived.Shelf.SlSortCmp.NoneTotal
import Derived.Ground.SlsfProg
import Derived.Test.YtheibjkjmkanoaaProg
import Derived.Test.YtheibjkjmkanoaaGMap
import Derived.Test.YtheibjkjmkanoaaGRowK
import Derived.Test.YtheibjkjmkanoaaPx3
import Derived.Test.YtheibjkjmkanoaaPx0
namespace Go.Proofs.Ytheibjkjmkanoaa.Given
open Go.Shelf
def b6u : Go.Shelf.Ren := ⟨fun | 6 => 68 | 15 => 77 | 14 => 76 | 28 => 89 | 29 => 90 | 20 => 81 | 21 => 82 | 22 => 83 | 23 => 84 | 24 => 85 | 25 => 86 | 26 => 87 | 27 => 88 | 46 => 92 | 47 => 93 | 48 => 94 | 49 => 95 | 50 => 96 | 57 => 97 | n => n, fun | 22 => 34 | 24 => 56 | 25 => 97 | 3 => 3 | 39 => 107 | 0 => 0 | 53 => 117 | 55 => 119 | 4 => 4 | 46 => 111 | 45 => 110 | 50 => 81 | 5 => 5 | 9 => 9 | 66 => 120 | 70 => 124 | 76 => 126 | 77 => 127 | n => n, fun | n => n⟩
theorem b7z : Go.Proofs.SlLaysF0.n6 Try.prog b6u := {
 mixed := by kernel_rfl
 f6 := ⟨Try.f68.name, by decide, Try.func68.trans (congrArg some (by kernel_rfl))⟩
 f14 := ⟨Try.f76.name, by decide, Try.func76.trans (congrArg some (by kernel_rfl))⟩
 f15 := Try.func77.trans (congrArg some (by kernel_rfl))
 f20 := ⟨Try.f81.name, by decide, Try.func81.trans (congrArg some (by kernel_rfl))⟩
 f21 := ⟨Try.f82.name, by decide, Try.func82.trans (congrArg some (by kernel_rfl))⟩
 f22 := ⟨Try.f83.name, by decide, Try.func83.trans (congrArg some (by kernel_rfl))⟩
 f23 := ⟨Try.f84.name, by decide, Try.func84.trans (congrArg some (by kernel_rfl))⟩
 f24 := ⟨Try.f85.name, by decide, Try.func85.trans (congrArg some (by kernel_rfl))⟩
 f25 := ⟨Try.f86.name, by decide, Try.func86.trans (congrArg some (by kernel_rfl))⟩
 f26 := ⟨Try.f87.name, by decide, Try.func87.trans (congrArg some (by kernel_rfl))⟩
 f27 := ⟨Try.f88.name, by decide, Try.func88.trans (congrArg some (by kernel_rfl))⟩
 f28 := Try.func89.trans (congrArg some (by kernel_rfl))
 f29 := Try.func90.trans (congrArg some (by kernel_rfl))
 f46 := ⟨Try.f92.name, by decide, Try.func92.trans (congrArg some (by kernel_rfl))⟩
 f47 := Try.func93.trans (congrArg some (by kernel_rfl))
 f48 := Try.func94.trans (congrArg some (by kernel_rfl))
 f49 := ⟨Try.f95.name, by decide, Try.func95.trans (congrArg some (by kernel_rfl))⟩
 f50 := ⟨Try.f96.name, by decide, Try.func96.trans (congrArg some (by kernel_rfl))⟩
 f57 := ⟨Try.f97.name, by decide, Try.func97.trans (congrArg some (by kernel_rfl))⟩
 t0 := Try.underlying0
 a0 := Try.isAgg0
 z0 := Try.sizeOf0
 v0 := Try.zeroValue0
 t3 := Try.underlying3
 a3 := Try.isAgg3
 z3 := Try.sizeOf3
 v3 := Try.zeroValue3
 t4 := Try.underlying4
 a4 := Try.isAgg4
 z4 := Try.sizeOf4
 v4 := Try.zeroValue4
 t5 := Try.underlying5
 a5 := Try.isAgg5
 z5 := Try.sizeOf5
 v5 := Try.zeroValue5
 t9 := Try.underlying9
 a9 := Try.isAgg9
 z9 := Try.sizeOf9
 v9 := Try.zeroValue9
 t22 := Try.underlying34
 a22 := Try.isAgg34
 z22 := Try.sizeOf34
 v22 := Try.zeroValue34
 t25 := Try.underlying97
 a25 := Try.isAgg97
 z25 := Try.sizeOf97
 v25 := Try.zeroValue97
 t39 := Try.underlying107
 a39 := Try.isAgg107
 z39 := Try.sizeOf107
 v39 := Try.zeroValue107
 t45 := Try.underlying110
 a45 := Try.isAgg110
 z45 := Try.sizeOf110
 v45 := Try.zeroValue110
 t46 := Try.underlying111
 a46 := Try.isAgg111
 z46 := Try.sizeOf111
 v46 := Try.zeroValue111
 t50 := Try.underlying81
 a50 := Try.isAgg81
 z50 := Try.sizeOf81
 v50 := Try.zeroValue81
 t53 := Try.underlying117
 a53 := Try.isAgg117
 z53 := Try.sizeOf117
 v53 := Try.zeroValue117
 t55 := Try.underlying119
 a55 := Try.isAgg119
 z55 := Try.sizeOf119
 v55 := Try.zeroValue119
 t66 := Try.underlying120
 a66 := Try.isAgg120
 z66 := Try.sizeOf120
 v66 := Try.zeroValue120
 t70 := Try.underlying124
 a70 := Try.isAgg124
 z70 := Try.sizeOf124
 v70 := Try.zeroValue124
 t76 := Try.underlying126
 a76 := Try.isAgg126
 z76 := Try.sizeOf126
 v76 := Try.zeroValue126
 t77 := Try.underlying127
 a77 := Try.isAgg127
 z77 := Try.sizeOf127
 v77 := Try.zeroValue127 }
end Go.Proofs.Ytheibjkjmkanoaa.Given
namespace Go.Proofs.Ytheibjkjmkanoaa.Given
open Go.RowKit Go.Sort Go.Proofs.YtheibjkjmkanoaaW.PrintWords Go.Proofs.YtheibjkjmkanoaaW.PrintLast Go.Proofs.YtheibjkjmkanoaaW.PrintMore Go.Proofs.Ytheibjkjmkanoaa.Px
set_option linter.unusedVariables false
set_option linter.unusedSimpArgs false
theorem Grew.trans {w W W2 : World} (h : Grew w W) (k : Grew W W2) : Grew w W2 := by
 obtain ⟨q, os, rfl⟩ := h
 obtain ⟨q2, os2, rfl⟩ := k
 exact ⟨q + q2, os ++ os2, by simp [grow, World.drewN, Nat.add_assoc, Array.append_assoc]⟩
theorem Grew.below {w W : World} (h : Grew w W) : Below w.heap.size w W := by
 obtain ⟨q, os, rfl⟩ := h
 refine ⟨rfl, rfl, rfl, by simp [grow, World.drewN], fun k hk => ?_⟩
 show (w.heap ++ os)[k]? = w.heap[k]?
 rw [Array.getElem?_append_left hk]
set_option maxHeartbeats 8000000 in
set_option maxRecDepth 100000 in
theorem a5d.grows (a0_0 a0_1 r : Int) (w : World) (h : a5d.f a0_0 a0_1 = some r) :
  Calls Try.prog 70 #[.agg #[.int .i64 a0_0, .int .i64 a0_1]] w fun e w' => e = .returned (.int .i64 r) ∧ Grew w w' := by
 have hu56 := Try.underlying56
 have HB := am_ (Below.refl w.heap.size w)
 have HG := am_ (Grew.refl w)
 have H : (some a0_0) = some r := h
 clear h
 obtain rfl := si_ H
 go_enter Try.func70, Try.ntmps70
 go_wp2_with (first | ((with_reducible refine a0t (N := 1) rfl ?_); refine b6t 1 #[.int .i64 a0_0, .int .i64 a0_1] 56 ?_; intro gb101 hg w2 hbox hb heq_; replace HG := am_ (HG.out.alloc heq_); clear heq_; have BK101 := am_ (hbox); have GW101 := qga_ hg; have GE101 := qga_ hg; replace HB := qbs_ hb; clear hb hbox hg; obtain ⟨z'3_0, z'3_1⟩ := qz2_ BK101; obtain ⟨y'3_0, y'3_1⟩ := qf2_ BK101))
 go_ret
 exact ⟨qx_, HG.out⟩
set_option maxHeartbeats 8000000 in
set_option maxRecDepth 100000 in
theorem a3t.grows (a0_0 a0_1 a1_0 a1_1 : Int) (gq2 : Nat)  (r : Int) (w : World) (hq2 : w.heap[gq2]? = some (.cells #[.func (.func 70) #[] #[]] 99 (0, 0))) (h : a3t.f a0_0 a0_1 a1_0 a1_1 = some r) :
  Calls Try.prog 78 #[.agg #[.int .i64 a0_0, .int .i64 a0_1], .agg #[.int .i64 a1_0, .int .i64 a1_1], .pointer (some ⟨gq2, 0, none⟩)] w fun e w' => e = .returned (.int .i64 r) ∧ Grew w w' := by
 have hu56 := Try.underlying56
 have BK104 := am_ hq2
 clear hq2
 have HB := am_ (Below.refl w.heap.size w)
 have HG := am_ (Grew.refl w)
 have H : ((a5d.f a0_0 a0_1).bind fun t107 => ((a5d.f a1_0 a1_1).bind fun t108 => ((cmp_Compare_int.f t107 t108).bind fun t109 => (some t109)))) = some r := h
 clear h
 replace H := bm_ H
 obtain ⟨t107, A40, H⟩ := H
 replace H : ((a5d.f a1_0 a1_1).bind fun t108 => ((cmp_Compare_int.f t107 t108).bind fun t109 => (some t109))) = some r := H
 have A4 := am_ A40
 clear A40
 replace H := bm_ H
 obtain ⟨t108, A50, H⟩ := H
 replace H : ((cmp_Compare_int.f t107 t108).bind fun t109 => (some t109)) = some r := H
 have A5 := am_ A50
 clear A50
 replace H := bm_ H
 obtain ⟨t109, A60, H⟩ := H
 replace H : (some t109) = some r := H
 have A6 := am_ A60
 clear A60
 obtain rfl := si_ H
 go_enter Try.func78, Try.ntmps78
 try go_wp2_with (first | ((with_reducible refine a0t (N := 3) rfl ?_); refine b6t 3 #[.int .i64 a0_0, .int .i64 a0_1] 56 ?_; intro gb105 hg w7 hbox hb heq_; replace HG := am_ (HG.out.alloc heq_); clear heq_; have BK105 := am_ (hbox); have GW105 := qga_ hg; have GE105 := qga_ hg; replace HB := qbs_ hb; have NB104_105 := am_ ((by rw [hg]; exact Nat.ne_of_lt (a3v (qk_ BK104)) : gq2 ≠ gb105)); have NB105_104 := am_ ((by rw [hg]; exact Nat.ne_of_gt (a3v (qk_ BK104)) : gb105 ≠ gq2)); replace BK104 := qkb_ BK104 hb; clear hb hbox hg) | ((with_reducible refine a0t (N := 4) rfl ?_); refine b6t 4 #[.int .i64 a1_0, .int .i64 a1_1] 56 ?_; intro gb106 hg w8 hbox hb heq_; replace HG := am_ (HG.out.alloc heq_); clear heq_; have BK106 := am_ (hbox); have GW106 := qga_ hg; have GE106 := qga_ hg; replace HB := qbs_ hb; have NB104_106 := am_ ((by rw [hg]; exact Nat.ne_of_lt (a3v (qk_ BK104)) : gq2 ≠ gb106)); have NB106_104 := am_ ((by rw [hg]; exact Nat.ne_of_gt (a3v (qk_ BK104)) : gb106 ≠ gq2)); replace BK104 := qkb_ BK104 hb; have NB105_106 := am_ ((by rw [hg]; exact Nat.ne_of_lt (a3v (qk_ BK105)) : gb105 ≠ gb106)); have NB106_105 := am_ ((by rw [hg]; exact Nat.ne_of_gt (a3v (qk_ BK105)) : gb106 ≠ gb105)); replace BK105 := qkb_ BK105 hb; clear hb hbox hg))
 replace BK104 := am_ (bd_ BK104.out)
 replace BK105 := am_ (bd_ BK105.out)
 replace BK106 := am_ (bd_ BK106.out)
 replace HB := am_ (ld_ HB.out)
 replace HG := am_ (HG.out.drew)
 refine a4l (n := 8) (S := fun w' => w'.cell? ⟨gq2, 0, none⟩ = some (.func (.func 70) #[] #[]) ∧ w'.cell? ⟨gb105, 0, none⟩ = some (.int .i64 a0_0) ∧ w'.cell? ⟨gb105, 1, none⟩ = some (.int .i64 a0_1) ∧ w'.cell? ⟨gb106, 0, none⟩ = some (.int .i64 a1_0) ∧ w'.cell? ⟨gb106, 1, none⟩ = some (.int .i64 a1_1)) (ds := []) #[I,I,I,I,I,I,I,I] (by kernel_rfl) rfl rfl ⟨(bc_ BK104.out 0).trans rfl, (bc_ BK105.out 0).trans rfl, (bc_ BK105.out 1).trans rfl, (bc_ BK106.out 0).trans rfl, (bc_ BK106.out 1).trans rfl⟩ (fun hHeld => ?_); refine a3s a3t.tab1 a3t.a8h (fun HT_ HW_ => ?_)
 generalize w8.drew = w9 at BK104 BK105 BK106 HB HG hHeld ⊢
 refine a6q (i := 0) (N := some 6) (v := ?_) (a' := ?_) #[U,I,I,I,I,I,I,I] rfl rfl (a5x HT_.out HW_.out (by kernel_rfl)) (fun _ _ _ h => h) (Or.inl ⟨by rfl, ?_⟩) hHeld ?_ ?_
 rotate_left
 ·rintro w' ⟨s0, s1, s2, s3, s4⟩
  go_simp
  with_reducible rfl
 rotate_left
 ·exact qp_
 refine a6q (i := 1) (N := some 7) (v := ?_) (a' := ?_) #[U,U,I,I,I,I,I,I] rfl rfl (a5x HT_.out HW_.out (by kernel_rfl)) (fun _ _ _ h => h) (Or.inl ⟨by rfl, ?_⟩) hHeld ?_ ?_
 rotate_left
 ·rintro w' ⟨s0, s1, s2, s3, s4⟩
  go_simp
  with_reducible rfl
 rotate_left
 ·exact qp_
 refine a6q (i := 3) (N := some 9) (v := ?_) (a' := ?_) #[U,U,I,U,I,I,I,I] rfl rfl (a5x HT_.out HW_.out (by kernel_rfl)) (fun _ _ _ h => h) (Or.inl ⟨by rfl, ?_⟩) hHeld ?_ ?_
 rotate_left
 ·rintro w' ⟨s0, s1, s2, s3, s4⟩
  go_simp
  with_reducible rfl
 rotate_left
 ·exact qp_
 refine a6q (i := 4) (N := some 10) (v := ?_) (a' := ?_) #[U,U,I,U,U,I,I,I] rfl rfl (a5x HT_.out HW_.out (by kernel_rfl)) (fun _ _ _ h => h) (Or.inl ⟨by rfl, ?_⟩) hHeld ?_ ?_
 rotate_left
 ·rintro w' ⟨s0, s1, s2, s3, s4⟩
  go_simp
  with_reducible rfl
 rotate_left
 ·exact qp_
 refine one_ (i := 2) (N := some 8) #[U,U,U,U,U,I,I,I] rfl rfl (a4m HT_.out (by kernel_rfl)) (by decide) (fun K hK => ?_)
 refine b7m Try.func70 (by kernel_rfl) rfl #[.agg #[.int .i64 a0_0, .int .i64 a0_1]] (by rfl) rfl rfl (by rfl) ql_ ?_
 with_reducible refine (a5d.grows a0_0 a0_1 t107 _ A4.out).mono ?_
 rintro e w10 ⟨rfl, hgr_⟩
 have hb := hgr_.below
 replace HG := am_ (HG.out.trans hgr_)
 clear hgr_
 refine ⟨_, rfl, ?_⟩
 replace BK104 := qkb_ BK104 hb
 replace BK105 := qkb_ BK105 hb
 replace BK106 := qkb_ BK106 hb
 replace HB := qbs_ hb
 (try clear hb)
 (try clear hb2)
 (try clear hk)
 (try clear hi)
 refine hK.out _ _ ⟨(bc_ BK104.out 0).trans rfl, (bc_ BK105.out 0).trans rfl, (bc_ BK105.out 1).trans rfl, (bc_ BK106.out 0).trans rfl, (bc_ BK106.out 1).trans rfl⟩ (fun hHeld => ?_)
 clear hK K
 refine a4q (a' := ?_) ?_ ?_
 rotate_left
 ·show Act.put _ (some 8) _ = _
  exact qp_
 refine one_ (i := 5) (N := some 11) #[U,U,U,U,U,U,I,I] rfl rfl (a4m HT_.out (by kernel_rfl)) (by decide) (fun K hK => ?_)
 refine b7m Try.func70 (by kernel_rfl) rfl #[.agg #[.int .i64 a1_0, .int .i64 a1_1]] (by rfl) rfl rfl (by rfl) ql_ ?_
 with_reducible refine (a5d.grows a1_0 a1_1 t108 _ A5.out).mono ?_
 rintro e w11 ⟨rfl, hgr_⟩
 have hb := hgr_.below
 replace HG := am_ (HG.out.trans hgr_)
 clear hgr_
 refine ⟨_, rfl, ?_⟩
 replace BK104 := qkb_ BK104 hb
 replace BK105 := qkb_ BK105 hb
 replace BK106 := qkb_ BK106 hb
 replace HB := qbs_ hb
 (try clear hb)
 (try clear hb2)
 (try clear hk)
 (try clear hi)
 refine hK.out _ _ ⟨(bc_ BK104.out 0).trans rfl, (bc_ BK105.out 0).trans rfl, (bc_ BK105.out 1).trans rfl, (bc_ BK106.out 0).trans rfl, (bc_ BK106.out 1).trans rfl⟩ (fun hHeld => ?_)
 clear hK K
 refine a4q (a' := ?_) ?_ ?_
 rotate_left
 ·show Act.put _ (some 11) _ = _
  exact qp_
 refine one_ (i := 6) (N := some 12) #[U,U,U,U,U,U,U,I] rfl rfl (a4m HT_.out (by kernel_rfl)) (by decide) (fun K hK => ?_)
 refine a5z Try.func79 (by kernel_rfl) rfl #[.int .i64 t107, .int .i64 t108] (by rfl) rfl rfl ql_ ?_
 with_reducible refine (cmp_Compare_int.calls t107 t108 t109 _ A6.out).mono ?_
 rintro e w' ⟨rfl, ⟨nd, rfl⟩⟩
 replace HG := am_ (HG.out.drewN nd)
 refine ⟨_, rfl, ?_⟩
 refine hK.out _ _ ⟨(bc_ BK104.out 0).trans rfl, (bc_ BK105.out 0).trans rfl, (bc_ BK105.out 1).trans rfl, (bc_ BK106.out 0).trans rfl, (bc_ BK106.out 1).trans rfl⟩ (fun hHeld => ?_)
 clear hK K
 refine a4q (a' := ?_) ?_ ?_
 rotate_left
 ·show Act.put _ (some 12) _ = _
  exact qp_
 refine qpu_ 7 (some 5) #[U,U,U,U,U,U,U,U] ?_
 refine a4u (a4c HT_.out (by kernel_rfl)) ?_
 try go_wp2
 go_ret
 exact ⟨qx_, HG.out⟩
instance : Inhabited S56 := ⟨z56⟩
def a8v (x : S56) : List Value := [.int .i64 x.f0, .int .i64 x.f1]
theorem b2y : Plain k56 a8v := ⟨fun w base ok x => a6p w base ok x, fun h => b0h h, fun _ => rfl, fun x v hv => by
 simp only [a8v, List.mem_cons, List.mem_nil_iff, or_false] at hv
 rcases hv with rfl | rfl <;> rfl⟩
theorem c0o (a b : Int) : cmp_Compare_int.f a b = some (if a < b then -1 else if a > b then 1 else 0) := by
 have e : ∀ x : Int, cmp_isNaN_int.f x = some false := fun x => by unfold cmp_isNaN_int.f; simp
 unfold cmp_Compare_int.f
 rw [e, e]
 simp only [Option.bind_some]
 rw [if_neg (by decide), if_neg (by decide)]
 split
 ·rfl
 ·split <;> rfl
def cfF (x y : S56) : Int := if x.f0 < y.f0 then (-1 : Int) else if x.f0 > y.f0 then 1 else 0
theorem c0p (x y : S56) : a3t.f x.f0 x.f1 y.f0 y.f1 = some (cfF x y) := by
 unfold a3t.f a5d.f
 simp only [Option.bind_some]
 rw [c0o]
 rfl
theorem b8a (x y : S56) : cfF x y ≤ 0 ↔ x.f0 ≤ y.f0 := by
 unfold cfF
 (repeat' split) <;> omega
theorem b8b (x y : S56) : cfF x y < 0 ↔ x.f0 < y.f0 := by
 unfold cfF
 (repeat' split) <;> omega
theorem c1t (x y : S56) : 0 < cfF x y ↔ y.f0 < x.f0 := by
 unfold cfF
 (repeat' split) <;> omega
theorem b9u : a7j cfF := ⟨fun x y => by rw [b8b, c1t], fun x y z h1 h2 => by rw [b8a] at *; omega⟩
def b2a : Obj := .cells #[.func (.func 70) #[] #[]] 99 (0, 0)
theorem b8y (blk size : Nat) (w : World) {gy : Nat} (hy : w.heap[gy]? = some b2a) (hne : gy ≠ blk) : CmpLays Try.prog 78 #[.pointer (some ⟨gy, 0, none⟩)] a8v 2 cfF blk 0 size w := by
 intro m os dk _ x y
 have hb : (sortWorldK a8v 2 w blk 0 m dk os).heap[gy]? = some b2a := by
  have h := (a8f (d := k56) (enc := a8v) (w := w) (g := blk) (m := m) (os := os) dk.toList).block gy (a3v hy) (fun e => hne (si_ e))
  simp only [Array.toArray_toList] at h
  exact h.trans hy
 refine (a3t.grows x.f0 x.f1 y.f0 y.f1 gy (cfF x y) _ hb (c0p x y)).mono ?_
 rintro e w' ⟨he, q, os', hw⟩
 exact ⟨he, q, os', hw⟩
def b2z (l l' : List S56) : Prop := l'.Perm l ∧ l'.Pairwise (fun a b => a.f0 ≤ b.f0)
def a3w.f (k : Nat) (l0 : List S56) : Option (List S56) := if (decide (l0.length < 4611686018427387904) && l0.all (fun s => decide (s.f0 < s.f1))) = true then some (a8c cfF l0) else none
theorem a3w.mono : ∀ a0 k, LeO (a3w.f k a0) (a3w.f (k + 1) a0) := fun a0 k => LeO.refl _
theorem b2b {k : Nat} {l r : List S56} (h : a3w.f k l = some r) : l.length < 4611686018427387904 ∧ (∀ s ∈ l, s.f0 < s.f1) ∧ r = a8c cfF l := by
 unfold a3w.f at h
 split at h
 case isFalse => cases h
 rename_i c
 rw [Bool.and_eq_true, decide_eq_true_eq, List.all_eq_true] at c
 exact ⟨c.1, fun s hs => by simpa using c.2 s hs, (si_ h).symm⟩
set_option maxHeartbeats 4000000 in
theorem b8z.calls (P0_ : Nat → Prop) (u9000_ : Value) (l0 : List S56) (gy : Nat) (w0 w : World) (hB : Below w0.heap.size w0 w) (ho0 : Kd.R k56 56 w w0.heap.size P0_ u9000_ l0) (hy : w.heap[gy]? = some b2a) (hn : some gy ≠ u9000_.ownBlock) (hl : l0.length < 4611686018427387904) :
  Calls Try.prog 68 #[u9000_, .func (.func 78) #[] #[.pointer (some ⟨gy, 0, none⟩)]] w fun e w' => e = .returned (.tuple #[]) ∧ ∃ r, b2z l0 r ∧ Kd.R k56 56 w' w0.heap.size (fun k_ => (P0_ k_ ∨ w.heap.size ≤ k_)) u9000_ r ∧ Below w0.heap.size w0 w' ∧ Kept w w' (fun k_ => P0_ k_) := by
 obtain ⟨A, cap, rfl⟩ := Kd.a3c ho0
 cases A with
 | none =>
  have hn : l0 = [] := by
   rcases ho0.2 with ⟨inner, ho, hr⟩
   rcases ho.2 with ⟨_, h0⟩ | ⟨g', cap', cur, hv, _⟩
   ·exact List.length_eq_zero_iff.1 h0
   ·cases hv
  subst hn
  have hcon := AnyF.slices_SortFunc_none b7z none cap (.func (.func 78) #[] #[.pointer (some ⟨gy, 0, none⟩)]) w
  change Calls Try.prog 68 _ _ _ at hcon
  refine hcon.mono ?_
  rintro e w' ⟨rfl, rfl⟩
  exact ⟨rfl, [], ⟨List.Perm.refl _, List.Pairwise.nil⟩, Kd.a2f ho0 (fun k hk => .inl hk), hB, Kept.refl _ _⟩
 | some ad =>
  have hform : ∃ g, ad = ⟨g, 0, none⟩ := by
   rcases ho0.2 with ⟨inner, ho, hr⟩
   rcases ho.2 with ⟨hv, _⟩ | ⟨g', cap', cur, hv, _⟩
   ·cases hv
   ·injection hv with ha _ _
    injection ha with ha
    exact ⟨g', ha⟩
  obtain ⟨g, rfl⟩ := hform
  obtain ⟨hH, hblk⟩ := b7y b2y ho0
  have hbase : w0.heap.size ≤ g := Kd.a3j ho0 g (by simp [Value.ownBlock])
  have hP : P0_ g := ho0.1 g (by simp [Value.ownBlock])
  have hne : gy ≠ g := fun e => hn (by rw [e]; simp [Value.ownBlock])
  have eg : ∀ args w, (callFunc 78 args).run Try.prog w = .ok (.enter 78 args) w := enters_of Try.func78 (by kernel_rfl) rfl
  have hcon := AnyQ.slices_SortFunc b7z 2 Try.isAgg56 Try.sizeOf56 a8v (fun _ => rfl) b2y.one cfF b9u.swo 78 #[.pointer (some ⟨gy, 0, none⟩)] g 0 cap l0.toArray w eg (b8y g l0.toArray.size w hy hne) hH hblk (by simpa using hl)
  change Calls Try.prog 68 _ _ _ at hcon
  refine hcon.mono ?_
  rintro e w' ⟨rfl, d', m, os, hp, hs, rfl⟩
  have hlen : d'.toList.length = l0.length := by
   have := hp.1
   simpa using this
  have hperm : d'.toList.Perm l0 := by
   obtain ⟨hsz, _, hperm⟩ := hp
   have e1 : d'.extract 0 l0.toArray.size = d' := by rw [← hsz]; exact Array.extract_size
   have e2 : l0.toArray.extract 0 l0.toArray.size = l0.toArray := Array.extract_size
   rw [e1, e2] at hperm
   simpa using hperm
  have hord : d'.toList.Pairwise (fun a b => a.f0 ≤ b.f0) := by
   rw [List.pairwise_iff_getElem]
   intro i j hi hj hij
   have hi' : i < d'.size := by simpa using hi
   have hj' : j < d'.size := by simpa using hj
   have hsz := hp.1
   have := hs i j (Nat.zero_le _) hij (by rw [← hsz]; exact hj')
   rw [getElem!_pos d' i hi', getElem!_pos d' j hj'] at this
   simp only [ltOf, decide_eq_false_iff_not] at this
   rw [b8b] at this
   simp only [Array.getElem_toList]
   omega
  refine ⟨rfl, d'.toList, ⟨hperm, hord⟩, ?_, ?_, ?_⟩
  ·have h := b6s (m := m) (os := os) b2y ho0 hlen
   rw [Array.toArray_toList] at h
   exact Kd.a2f h (fun k hk => .inl hk)
  ·have h := b4n (d := k56) (enc := a8v) (m := m) (os := os) d'.toList hB hbase
   rw [Array.toArray_toList] at h
   exact h
  ·have h := b5e (d := k56) (enc := a8v) (m := m) (os := os) (w := w) (g := g) (S := fun k_ => P0_ k_) d'.toList (.inl hP)
   rw [Array.toArray_toList] at h
   exact h
end Go.Proofs.Ytheibjkjmkanoaa.Given
/- span.by at the key that hands back the first day: the closure, and the box that it captures. Conditions: none. -/
namespace Go.Proofs.Ytheibjkjmkanoaa.Given
open Go.RowKit Go.Proofs.YtheibjkjmkanoaaW.PrintWords Go.Proofs.YtheibjkjmkanoaaW.PrintLast Go.Proofs.YtheibjkjmkanoaaW.PrintMore Go.Proofs.Ytheibjkjmkanoaa.Px
set_option linter.unusedVariables false
set_option linter.unusedSimpArgs false
set_option maxHeartbeats 8000000 in
set_option maxRecDepth 100000 in
theorem c0q.calls (w : World) : Calls Try.prog 69 #[.func (.func 70) #[] #[]] w fun e w' => ∃ g_ : Nat, w.heap.size ≤ g_ ∧ e = .returned (.func (.func 78) #[] #[.pointer (some ⟨g_, 0, none⟩)]) ∧ w'.heap[g_]? = some b2a ∧ Below w.heap.size w w' := by
 have HB := am_ (Below.refl w.heap.size w)
 go_enter Try.func69, Try.ntmps69
 go_wp2_with (first | ((with_reducible refine a0t (N := 1) rfl ?_); refine qev_ 1 #[.func (.func 70) #[] #[]] 99 ?_; intro gb101 hg w2 hbox hb; have BK101 := am_ (hbox); have GE101 := qga_ hg; replace HB := qbs_ hb; clear hb hbox hg))
 go_ret
 exact ⟨gb101, GE101.out, rfl, (qk_ BK101), qb_⟩
end Go.Proofs.Ytheibjkjmkanoaa.Given
