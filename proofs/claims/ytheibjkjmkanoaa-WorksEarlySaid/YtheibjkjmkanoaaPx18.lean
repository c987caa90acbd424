/- Contracts of Go functions, printed. Conditions: as each theorem states. -/
import Derived.Test.YtheibjkjmkanoaaPx0
namespace Go.Proofs.Ytheibjkjmkanoaa.Px
open Go.Proofs.Ytheibjkjmkanoaa.Given
open Go.RowKit Go.Proofs.YtheibjkjmkanoaaW.PrintWords Go.Proofs.YtheibjkjmkanoaaW.PrintLast Go.Proofs.YtheibjkjmkanoaaW.PrintMore
attribute [local go_sem] a3m a3n a3x a3y a3e a3f a3o a3p
set_option linter.unusedVariables false
set_option linter.unusedSimpArgs false
def a2v.f (l0 : List (S56)) (a b : Int) : Option ((List (S56))) := if (l0.length : Int) > 0 then (if 0 ≤ (wrap64 ((l0.length : Int) - 1)) then (if (wrap64 ((l0.length : Int) - 1)) < (l0.length : Int) then (if ((a0h l0 (wrap64 ((l0.length : Int) - 1))).f1) ≥ a then (some (l0.set ((wrap64 ((l0.length : Int) - 1)) : Int).toNat (⟨(a0h l0 (wrap64 ((l0.length : Int) - 1))).f0,mx ((a0h l0 (wrap64 ((l0.length : Int) - 1))).f1) b⟩ : S56))) else (if l0.length < 8796093022208 then (some (l0 ++ [(⟨a,b⟩ : S56)])) else (none))) else (none)) else (none)) else (if l0.length < 8796093022208 then (some (l0 ++ [(⟨a,b⟩ : S56)])) else (none))
def a2v.T2 : Bool × List (List Nat × List Nat) := (true,[([],[]),([0],[0]),([1],[1]),([2],[2]),([2],[2]),([4,2],[2,4]),([3,5,2],[2,3,5]),([6,2],[2,6]),([7,2],[2,7]),([2],[2]),([9,2],[2,9]),([8,10,2],[2,8,10]),([2,11],[2,11])])
def a2v.B2 : List Nat := [0,1,3,7,7,23,63,127,255,7,519,2047,4095]
theorem a2v.tab2 : rtab .any (opsOf Try.f71 2) = a2v.T2 := by kernel_rfl
theorem a2v.b6r : a5i a2v.T2.2 a2v.B2 = true := by kernel_rfl
def a2v.T3 : Bool × List (List Nat × List Nat) := (true,[([],[]),([],[]),([1],[1]),([],[]),([],[]),([4],[4]),([3,5],[3,5]),([6],[6]),([7],[7]),([],[]),([9],[9]),([8,10],[8,10]),([0,2,0,1,2,3,4,5,6,7,8,9,10,11],[0,2]),([12,0,1,2,3,4,5,6,7,8,9,10,11],[12]),([13,11,0,1,2,3,4,5,6,7,8,9,10,11],[11,13])])
def a2v.B3 : List Nat := [0,0,2,0,0,16,56,120,248,0,512,2040,4095,8191,16383]
theorem a2v.tab3 : rtab .any (opsOf Try.f71 3) = a2v.T3 := by kernel_rfl
theorem a2v.c2m : a5i a2v.T3.2 a2v.B3 = true := by kernel_rfl
set_option maxHeartbeats 8000000 in
set_option maxRecDepth 100000 in
theorem a2v.calls (p : Nat → Prop) (L : Value) (l0 : List (S56)) (l m : Int) (r : List (S56)) (w0 w : World) (hB : Below w0.heap.size w0 w) (aI : Kd.R k56 56 w w0.heap.size p L l0) (h : a2v.f l0 l m = some r) :
  Calls Try.prog 71 #[L, .agg #[.int .i64 l, .int .i64 m]] w fun e w' => ∃ al : Value,e = .returned (al) ∧ Kd.R k56 56 w' w0.heap.size (fun k_ => (p k_ ∨ w.heap.size ≤ k_)) al r ∧ Below w0.heap.size w0 w' ∧ Kept w w' (fun k_ => p k_) := by
 have b3 := Try.underlying56
 have d := am_ (show Kd.R k56 56 w w0.heap.size (fun k_ => (p k_ ∨ w.heap.size ≤ k_)) L l0 from Kd.a2f aI (fun k_ hk => (.inl hk)))
 have HK := am_ (Kept.refl w (fun k_ => p k_))
 have bc := am_ hB.size
 have HB := am_ hB
 clear hB
 have H : (if (l0.length : Int) > 0 then (if 0 ≤ (wrap64 ((l0.length : Int) - 1)) then (if (wrap64 ((l0.length : Int) - 1)) < (l0.length : Int) then (if ((a0h l0 (wrap64 ((l0.length : Int) - 1))).f1) ≥ l then (some (l0.set ((wrap64 ((l0.length : Int) - 1)) : Int).toNat (⟨(a0h l0 (wrap64 ((l0.length : Int) - 1))).f0,mx ((a0h l0 (wrap64 ((l0.length : Int) - 1))).f1) m⟩ : S56))) else (if l0.length < 8796093022208 then (some (l0 ++ [(⟨l,m⟩ : S56)])) else (none))) else (none)) else (none)) else (if l0.length < 8796093022208 then (some (l0 ++ [(⟨l,m⟩ : S56)])) else (none))) = some r := h
 clear h
 by_cases c3 : (l0.length : Int) > 0
 rotate_left
 ·rw [if_neg c3] at H
  have aq : decide (0 < (l0.length : Int)) = false := decide_eq_false c3
  have ar : decide (0 < l0.length) = false := decide_eq_false (by omega)
  clear c3
  by_cases a1 : l0.length < 8796093022208
  rotate_left
  ·rw [if_neg a1] at H
   exact absurd H (by simp)
  rw [if_pos a1] at H
  have a7 := am_ a1
  clear a1
  obtain ⟨au,z⟩ : ∃ y_ : List (S56),y_ = (l0 ++ [(⟨l,m⟩ : S56)]) := ⟨_,rfl⟩
  replace H : (some au) = some r := by first | (rw [z];with_reducible exact H) | (have v := (Option.bind_some _ _).symm.trans H;rw [z];with_reducible exact v) | (have v := (Option.bind_some _ _).symm.trans H;with_reducible exact v) | with_reducible exact H | (rw [z];exact H) | exact H
  have a8 := am_ z
  clear z
  obtain rfl := si_ H
  go_enter Try.func71,Try.ntmps71
  try go_wp2_with (first | ((with_reducible refine a0t (N := 3) rfl ?_);refine qev_ 3 #[.int .i64 l, .int .i64 m] 56 ?_;intro k hg aJ hbox hb;replace d := am_ (Kd.a5w (Kd.a6g (qr_ d) k (Nat.le_of_eq hg.symm)) hb);have c := am_ (hbox);have t := am_ ((by rw [hg];exact (by first | exact HK.out.1 | exact (show Kept w _ (fun k_ => p k_) from by repeat (first | (with_reducible first | exact HK.out | apply Kept.alloc | apply Kept.drewN | apply Kept.drew) | exact HK.out)).1) : w.heap.size ≤ k));replace HK := am_ (Kept.below (S := (fun k_ => p k_)) (by repeat (first | (with_reducible first | exact HK.out | apply Kept.alloc | apply Kept.drewN | apply Kept.drew) | exact HK.out)) hb);have A := am_ ((qg_ hg : w0.heap.size ≤ k));replace HB := qbs_ hb;clear hb hbox hg;obtain ⟨av,aw,ax⟩ := Kd.a3c d.out;subst ax))
  replace d := am_ (Kd.a2i d.out)
  replace c := am_ (bd_ c.out)
  replace HK := am_ (Kept.drew HK.out)
  replace HB := am_ (ld_ HB.out)
  refine a4l (n := 13) (S := fun w' => True) (ds := []) #[I,I,I,I,I,I,I,I,I,I,I,I,I] (by kernel_rfl) rfl rfl trivial (fun hHeld => ?_);refine a3s a2v.tab2 a2v.b6r (fun HT_ HW_ => ?_)
  generalize aJ.drew = bd at d c HK HB hHeld ⊢
  refine qpu_ 0 (some 8) #[U,I,I,I,I,I,I,I,I,I,I,I,I] ?_
  refine qpu_ 1 (some 9) #[U,U,I,I,I,I,I,I,I,I,I,I,I] ?_
  refine qpu_ 2 (some 10) #[U,U,U,I,I,I,I,I,I,I,I,I,I] ?_
  refine qpv_ 3 (some 11) #[U,U,U,U,I,I,I,I,I,I,I,I,I] ?_
  refine qpv_ 4 (some 12) #[U,U,U,U,U,I,I,I,I,I,I,I,I] ?_
  refine qpv_ 5 (some 13) #[U,U,U,U,U,U,I,I,I,I,I,I,I] ?_
  refine qpv_ 6 (some 14) #[U,U,U,U,U,U,U,I,I,I,I,I,I] ?_
  refine qpv_ 7 (some 15) #[U,U,U,U,U,U,U,U,I,I,I,I,I] ?_
  refine qpv_ 8 (some 16) #[U,U,U,U,U,U,U,U,U,I,I,I,I] ?_
  refine qpv_ 9 (some 17) #[U,U,U,U,U,U,U,U,U,U,I,I,I] ?_
  refine qpv_ 10 (some 18) #[U,U,U,U,U,U,U,U,U,U,U,I,I] ?_
  refine qpv_ 11 (some 19) #[U,U,U,U,U,U,U,U,U,U,U,U,I] ?_
  refine qpu_ 12 (some 20) #[U,U,U,U,U,U,U,U,U,U,U,U,U] ?_
  refine a4u (a4c HT_.out (by kernel_rfl)) ?_
  obtain ⟨aK,aM⟩ := qz2_ c;obtain ⟨aN,aQ⟩ := qf2_ c
  try go_wp2_with (first | ((with_reducible refine a6o (b := .append) (xs := #[.tmp 36, .tmp 38]) rfl ?_);at_builtin;refine Kd.b1f k56 (w0 := w0) w0.heap.size rfl (.tmp 36) (.tmp 38) 34 56 (.agg #[(.int .i64 0),(.int .i64 0)]) 16 rfl Try.underlying34 b1x rfl (by decide) (by omega) (.slice av l0.length aw) l0 (⟨l,m⟩ : S56) [.int .i64 l, .int .i64 m] (fun k_ => (p k_ ∨ w.heap.size ≤ k_) ∧ k_ ≠ k) (fun _ => False) rfl rfl ?aP (fun _ hk => hk.elim) ?aF ?aO ?aB ?aS ?aL ?_;(case aP => exact a6p _ _ _ (⟨l,m⟩ : S56));(case aB => exact qb_);(case aF => exact (fun k_ hk => ⟨(.inr (Nat.le_trans (by first | exact HK.out.1 | exact (show Kept w _ (fun k_ => p k_) from by repeat (first | (with_reducible first | exact HK.out | apply Kept.alloc | apply Kept.drewN | apply Kept.drew | refine Kept.setCell ?_ (.inr t.out) _) | exact HK.out)).1) hk)),Kd.a8n (g := k) (o := .cells #[.int .i64 l, .int .i64 m] 56 (0,0)) (qk_ c) k_ hk⟩));(case aO => exact (qr_ d));(case aS => exact (a0z qb_));(case aL => have := a7.out;omega);intro b4 be ho hb hg hat;rw [← a8.out] at ho;replace c := am_ (a4k (g := k) (o := .cells #[.int .i64 l, .int .i64 m] 56 (0,0)) (qk_ c) hg (Kd.a8k d.out (fun _ hk => hk.2)));replace HB := am_ (hb);replace HK := am_ (Kept.a8j (S := (fun k_ => p k_)) hg (by repeat (first | (with_reducible first | exact HK.out | apply Kept.alloc | apply Kept.drewN | apply Kept.drew | refine Kept.setCell ?_ (.inr t.out) _) | exact HK.out)) (fun k_ e_ => (d.out.1 k_ e_).1));have a9 := am_ (ho);clear d ho hb hg hat))
  go_ret
  exact ⟨_,qx_,by (with_reducible repeat (first | apply Kd.a2n | apply Kd.a2o | apply Kd.a2i));exact Kd.a2f a9.out (fun _ hk => hk.1),by repeat (first | (with_reducible first | exact HB.out | apply la_ | apply ln_ | apply ld_ | refine ls_ ?_ A.out) | exact HB.out),by repeat (first | (with_reducible first | exact HK.out | apply Kept.alloc | apply Kept.drewN | apply Kept.drew | refine Kept.setCell ?_ (.inr t.out) _) | exact HK.out)⟩
 rw [if_pos c3] at H
 have aq : decide (0 < (l0.length : Int)) = true := decide_eq_true c3
 have ar : decide (0 < l0.length) = true := decide_eq_true (by omega)
 clear c3
 obtain ⟨a,M⟩ : ∃ j_ : Int,(wrap64 ((l0.length : Int) - 1)) = j_ := ⟨_,rfl⟩
 replace H : (if 0 ≤ (a) then (if (a) < (l0.length : Int) then (if ((a0h l0 (a)).f1) ≥ l then (some (l0.set ((a) : Int).toNat (⟨(a0h l0 (a)).f0,mx ((a0h l0 (a)).f1) m⟩ : S56))) else (if l0.length < 8796093022208 then (some (l0 ++ [(⟨l,m⟩ : S56)])) else (none))) else (none)) else (none)) = some r := by first | (rw [M] at H;exact H) | (simp only [M] at H ⊢;exact H)
 have hji4w : (IntKind.i64.wrap ((l0.length : Int) - 1)) = a := (a4j _).trans M
 obtain ⟨b5,H⟩ := qid_ H
 obtain ⟨b6,H⟩ := qid_ H
 by_cases c7 : ((a0h l0 (a)).f1) ≥ l
 rotate_left
 ·rw [if_neg c7] at H
  have ay : decide (l ≤ ((a0h l0 (a)).f1)) = false := decide_eq_false c7
  clear c7
  by_cases a2 : l0.length < 8796093022208
  rotate_left
  ·rw [if_neg a2] at H
   exact absurd H (by simp)
  rw [if_pos a2] at H
  have aa := am_ a2
  clear a2
  obtain ⟨az,B⟩ : ∃ y_ : List (S56),y_ = (l0 ++ [(⟨l,m⟩ : S56)]) := ⟨_,rfl⟩
  replace H : (some az) = some r := by first | (rw [B];with_reducible exact H) | (have v := (Option.bind_some _ _).symm.trans H;rw [B];with_reducible exact v) | (have v := (Option.bind_some _ _).symm.trans H;with_reducible exact v) | with_reducible exact H | (rw [B];exact H) | exact H
  have ab := am_ B
  clear B
  obtain rfl := si_ H
  go_enter Try.func71,Try.ntmps71
  try go_wp2_with (first | ((with_reducible refine a0t (N := 3) rfl ?_);refine qev_ 3 #[.int .i64 l, .int .i64 m] 56 ?_;intro k hg aR hbox hb;replace d := am_ (Kd.a5w (Kd.a6g (qr_ d) k (Nat.le_of_eq hg.symm)) hb);have c := am_ (hbox);have t := am_ ((by rw [hg];exact (by first | exact HK.out.1 | exact (show Kept w _ (fun k_ => p k_) from by repeat (first | (with_reducible first | exact HK.out | apply Kept.alloc | apply Kept.drewN | apply Kept.drew) | exact HK.out)).1) : w.heap.size ≤ k));replace HK := am_ (Kept.below (S := (fun k_ => p k_)) (by repeat (first | (with_reducible first | exact HK.out | apply Kept.alloc | apply Kept.drewN | apply Kept.drew) | exact HK.out)) hb);have A := am_ ((qg_ hg : w0.heap.size ≤ k));replace HB := qbs_ hb;clear hb hbox hg;obtain ⟨b7,aA,aC⟩ := Kd.a3c d.out;subst aC))
  replace d := am_ (Kd.a2i d.out)
  replace c := am_ (bd_ c.out)
  replace HK := am_ (Kept.drew HK.out)
  replace HB := am_ (ld_ HB.out)
  have x : 0 ≤ ((a) : Int) := ot_
  have y : (a) < (l0.length : Int) := ot_
  obtain ⟨u,T,q,s⟩ := a5k (Kd.a0s d.out).2.2 (a) x y
  cases T
  replace x := eq_true x
  replace y := eq_true y
  refine a4l (n := 13) (S := fun w' => w'.cell? ⟨k,0,none⟩ = some (.int .i64 l) ∧ w'.cell? ⟨k,1,none⟩ = some (.int .i64 m) ∧ w'.cell? (u.add (((a)).toNat * 2)) = some (.int .i64 ((a0h l0 (a)).f0)) ∧ w'.cell? ⟨(u.add (((a)).toNat * 2)).block,(u.add (((a)).toNat * 2)).off + 1,none⟩ = some (.int .i64 ((a0h l0 (a)).f1))) (ds := []) #[I,I,I,I,I,I,I,I,I,I,I,I,I] (by kernel_rfl) rfl rfl ⟨(bc_ c.out 0).trans rfl,(bc_ c.out 1).trans rfl,q,s⟩ (fun hHeld => ?_);refine a3s a2v.tab2 a2v.b6r (fun HT_ HW_ => ?_)
  generalize aR.drew = bf at d c HK HB q s hHeld ⊢
  refine qpu_ 0 (some 8) #[U,I,I,I,I,I,I,I,I,I,I,I,I] ?_
  refine qpu_ 1 (some 9) #[U,U,I,I,I,I,I,I,I,I,I,I,I] ?_
  refine qpu_ 2 (some 10) #[U,U,U,I,I,I,I,I,I,I,I,I,I] ?_
  refine qpu_ 3 (some 11) #[U,U,U,U,I,I,I,I,I,I,I,I,I] ?_
  refine qpu_ 4 (some 12) #[U,U,U,U,U,I,I,I,I,I,I,I,I] ?_
  refine qpu_ 5 (some 13) #[U,U,U,U,U,U,I,I,I,I,I,I,I] ?_
  refine qpu_ 6 (some 14) #[U,U,U,U,U,U,U,I,I,I,I,I,I] ?_
  refine qpu_ 7 (some 15) #[U,U,U,U,U,U,U,U,I,I,I,I,I] ?_
  refine qpu_ 9 (some 17) #[U,U,U,U,U,U,U,U,I,U,I,I,I] ?_
  refine b0s 8 (some 16) #[U,U,U,U,U,U,U,U,U,U,I,I,I] hHeld ?_
  refine b0s 10 (some 18) #[U,U,U,U,U,U,U,U,U,U,U,I,I] hHeld ?_
  refine qpu_ 11 (some 19) #[U,U,U,U,U,U,U,U,U,U,U,U,I] ?_
  refine qpu_ 12 (some 20) #[U,U,U,U,U,U,U,U,U,U,U,U,U] ?_
  refine a4u (a4c HT_.out (by kernel_rfl)) ?_
  obtain ⟨aT,aU⟩ := qz2_ c;obtain ⟨aV,aW⟩ := qf2_ c
  try go_wp2_with (first | ((with_reducible refine a6o (b := .append) (xs := #[.tmp 36, .tmp 38]) rfl ?_);at_builtin;refine Kd.b1f k56 (w0 := w0) w0.heap.size rfl (.tmp 36) (.tmp 38) 34 56 (.agg #[(.int .i64 0),(.int .i64 0)]) 16 rfl Try.underlying34 b1x rfl (by decide) (by omega) (.slice (some u) l0.length aA) l0 (⟨l,m⟩ : S56) [.int .i64 l, .int .i64 m] (fun k_ => (p k_ ∨ w.heap.size ≤ k_) ∧ k_ ≠ k) (fun _ => False) rfl rfl ?aP (fun _ hk => hk.elim) ?aF ?aO ?aB ?aS ?aL ?_;(case aP => exact a6p _ _ _ (⟨l,m⟩ : S56));(case aB => exact qb_);(case aF => exact (fun k_ hk => ⟨(.inr (Nat.le_trans (by first | exact HK.out.1 | exact (show Kept w _ (fun k_ => p k_) from by repeat (first | (with_reducible first | exact HK.out | apply Kept.alloc | apply Kept.drewN | apply Kept.drew | refine Kept.setCell ?_ (.inr t.out) _) | exact HK.out)).1) hk)),Kd.a8n (g := k) (o := .cells #[.int .i64 l, .int .i64 m] 56 (0,0)) (qk_ c) k_ hk⟩));(case aO => exact (qr_ d));(case aS => exact (a0z qb_));(case aL => have := aa.out;omega);intro b8 bg ho hb hg hat;rw [← ab.out] at ho;replace c := am_ (a4k (g := k) (o := .cells #[.int .i64 l, .int .i64 m] 56 (0,0)) (qk_ c) hg (Kd.a8k d.out (fun _ hk => hk.2)));replace HB := am_ (hb);replace HK := am_ (Kept.a8j (S := (fun k_ => p k_)) hg (by repeat (first | (with_reducible first | exact HK.out | apply Kept.alloc | apply Kept.drewN | apply Kept.drew | refine Kept.setCell ?_ (.inr t.out) _) | exact HK.out)) (fun k_ e_ => (d.out.1 k_ e_).1));have ac := am_ (ho);clear d ho hb hg hat))
  go_ret
  exact ⟨_,by first | rfl | (simp [a4e,a4f] <;> rfl) | (simp only [← M];first | rfl | (simp [a4e,a4f] <;> rfl)) | (simp [*,a4e,a4f] <;> rfl),by (with_reducible repeat (first | apply Kd.a2n | apply Kd.a2o | apply Kd.a2i));exact Kd.a2f ac.out (fun _ hk => hk.1),by repeat (first | (with_reducible first | exact HB.out | apply la_ | apply ln_ | apply ld_ | refine ls_ ?_ A.out) | exact HB.out),by repeat (first | (with_reducible first | exact HK.out | apply Kept.alloc | apply Kept.drewN | apply Kept.drew | refine Kept.setCell ?_ (.inr t.out) _) | exact HK.out)⟩
 rw [if_pos c7] at H
 have ay : decide (l ≤ ((a0h l0 (a)).f1)) = true := decide_eq_true c7
 clear c7
 obtain ⟨O,P⟩ : ∃ j_ : Int,(mx ((a0h l0 (a)).f1) m) = j_ := ⟨_,rfl⟩
 replace H : (some (l0.set ((a) : Int).toNat (⟨(a0h l0 (a)).f0,O⟩ : S56))) = some r := by first | (rw [P] at H;exact H) | (simp only [P] at H ⊢;exact H)
 have b2 : (if ((a0h l0 (a)).f1) < m then m else ((a0h l0 (a)).f1)) = O := P
 obtain ⟨aD,D⟩ : ∃ y_ : List (S56),y_ = (l0.set ((a) : Int).toNat (⟨(a0h l0 (a)).f0,O⟩ : S56)) := ⟨_,rfl⟩
 replace H : (some aD) = some r := by first | (rw [D];with_reducible exact H) | (have v := (Option.bind_some _ _).symm.trans H;rw [D];with_reducible exact v) | (have v := (Option.bind_some _ _).symm.trans H;with_reducible exact v) | with_reducible exact H | (rw [D];exact H) | exact H
 have ad := am_ D
 clear D
 obtain rfl := si_ H
 go_enter Try.func71,Try.ntmps71
 try go_wp2_with (first | ((with_reducible refine a0t (N := 3) rfl ?_);refine qev_ 3 #[.int .i64 l, .int .i64 m] 56 ?_;intro k hg aX hbox hb;replace d := am_ (Kd.a5w (Kd.a6g (qr_ d) k (Nat.le_of_eq hg.symm)) hb);have c := am_ (hbox);have t := am_ ((by rw [hg];exact (by first | exact HK.out.1 | exact (show Kept w _ (fun k_ => p k_) from by repeat (first | (with_reducible first | exact HK.out | apply Kept.alloc | apply Kept.drewN | apply Kept.drew) | exact HK.out)).1) : w.heap.size ≤ k));replace HK := am_ (Kept.below (S := (fun k_ => p k_)) (by repeat (first | (with_reducible first | exact HK.out | apply Kept.alloc | apply Kept.drewN | apply Kept.drew) | exact HK.out)) hb);have A := am_ ((qg_ hg : w0.heap.size ≤ k));replace HB := qbs_ hb;clear hb hbox hg;obtain ⟨b9,ba,aE⟩ := Kd.a3c d.out;subst aE))
 replace d := am_ (Kd.a2i d.out)
 replace c := am_ (bd_ c.out)
 replace HK := am_ (Kept.drew HK.out)
 replace HB := am_ (ld_ HB.out)
 have x : 0 ≤ ((a) : Int) := ot_
 have y : (a) < (l0.length : Int) := ot_
 obtain ⟨u,T,q,s⟩ := a5k (Kd.a0s d.out).2.2 (a) x y
 cases T
 replace x := eq_true x
 replace y := eq_true y
 refine a4l (n := 13) (S := fun w' => w'.cell? ⟨k,0,none⟩ = some (.int .i64 l) ∧ w'.cell? ⟨k,1,none⟩ = some (.int .i64 m) ∧ w'.cell? (u.add (((a)).toNat * 2)) = some (.int .i64 ((a0h l0 (a)).f0)) ∧ w'.cell? ⟨(u.add (((a)).toNat * 2)).block,(u.add (((a)).toNat * 2)).off + 1,none⟩ = some (.int .i64 ((a0h l0 (a)).f1))) (ds := []) #[I,I,I,I,I,I,I,I,I,I,I,I,I] (by kernel_rfl) rfl rfl ⟨(bc_ c.out 0).trans rfl,(bc_ c.out 1).trans rfl,q,s⟩ (fun hHeld => ?_);refine a3s a2v.tab2 a2v.b6r (fun HT_ HW_ => ?_)
 generalize aX.drew = aY at d c HK HB q s hHeld ⊢
 refine qpu_ 0 (some 8) #[U,I,I,I,I,I,I,I,I,I,I,I,I] ?_
 refine qpu_ 1 (some 9) #[U,U,I,I,I,I,I,I,I,I,I,I,I] ?_
 refine qpu_ 2 (some 10) #[U,U,U,I,I,I,I,I,I,I,I,I,I] ?_
 refine qpu_ 3 (some 11) #[U,U,U,U,I,I,I,I,I,I,I,I,I] ?_
 refine qpu_ 4 (some 12) #[U,U,U,U,U,I,I,I,I,I,I,I,I] ?_
 refine qpu_ 5 (some 13) #[U,U,U,U,U,U,I,I,I,I,I,I,I] ?_
 refine qpu_ 6 (some 14) #[U,U,U,U,U,U,U,I,I,I,I,I,I] ?_
 refine qpu_ 7 (some 15) #[U,U,U,U,U,U,U,U,I,I,I,I,I] ?_
 refine qpu_ 9 (some 17) #[U,U,U,U,U,U,U,U,I,U,I,I,I] ?_
 refine b0s 8 (some 16) #[U,U,U,U,U,U,U,U,U,U,I,I,I] hHeld ?_
 refine b0s 10 (some 18) #[U,U,U,U,U,U,U,U,U,U,U,I,I] hHeld ?_
 refine qpu_ 11 (some 19) #[U,U,U,U,U,U,U,U,U,U,U,U,I] ?_
 refine qpu_ 12 (some 20) #[U,U,U,U,U,U,U,U,U,U,U,U,U] ?_
 refine a4u (a4c HT_.out (by kernel_rfl)) ?_
 try go_wp2
 replace d := am_ (Kd.a2i d.out)
 replace c := am_ (bd_ c.out)
 replace HK := am_ (Kept.drew HK.out)
 replace HB := am_ (ld_ HB.out)
 have W : 0 ≤ ((a) : Int) := ot_
 have X : (a) < (l0.length : Int) := ot_
 obtain ⟨ae,aG,E,G⟩ := a5k (Kd.a0s d.out).2.2 (a) W X
 obtain rfl : u = ae := (by injection aG)
 replace W := eq_true W
 replace X := eq_true X
 have p9 : 0 ≤ ((a) : Int) := ot_
 have q9 : ((a) : Int) < ((l0.length : Int) : Int) := ot_
 obtain ⟨J,bh,am,an,aZ,bi,ao⟩ := Kd.a9a d.out (by omega)
 (first | cases am | (injection am with ea_ en_ ec_;(first | subst ea_ | (injection ea_ with ea_;subst ea_));subst ec_;clear en_))
 have b0 := am_ an
 have b1 := am_ ao
 clear an aZ ao
 have af := am_ (show (p J ∨ w.heap.size ≤ J) from (d.out.1 _ rfl).1)
 (first | simp only [add_plain] at q | skip)
 (first | simp only [add_plain] at s | skip)
 (first | simp only [add_plain] at E | skip)
 (first | simp only [add_plain] at G | skip)
 obtain ⟨bj,aH,ap,Y,Z⟩ := Kd.a5s d.out z56 ((a) : Int) p9 q9
 obtain rfl := b0h ap
 have ag : World.cell? _ ⟨J,((a) : Int).toNat * 2,none⟩ = some (.int .i64 ((a0h l0 (a)).f0)) := Y 0 _ rfl
 have ah : World.cell? _ ⟨J,((a) : Int).toNat * 2 + 1,none⟩ = some (.int .i64 ((a0h l0 (a)).f1)) := Y 1 _ rfl
 have ai : World.frozen? _ ⟨J,((a) : Int).toNat * 2,none⟩ = false := Z 0
 have aj : World.frozen? _ ⟨J,((a) : Int).toNat * 2 + 1,none⟩ = false := Z 1
 clear aH Y Z ap
 replace p9 := eq_true p9
 replace q9 := eq_true q9
 obtain ⟨bb,a3,a5,a4,ak⟩ := Kd.a5s d.out z56 ((a) : Int) (ot_) (by have h_ : ((a) : Int) < ((l0.length : Int) : Int) := ot_;first | exact h_ | (have e_ := (Kd.a0s d.out).1;omega) | simpa using h_)
 obtain rfl := b0h a5
 have a0 := (Kd.a8g d.out ((a) : Int) (ot_) (by have h_ : ((a) : Int) < ((l0.length : Int) : Int) := ot_;first | exact h_ | (have e_ := (Kd.a0s d.out).1;omega) | simpa using h_) (seg := [.int .i64 O]) (j := 1) a3 a4 (show 2 ≤ 2 from by decide) (x' := (⟨(a0h l0 (a)).f0,O⟩ : S56)) (a6p _ _ _ (⟨(a0h l0 (a)).f0,O⟩ : S56) ) (fun _ hk => hk)).1
 rw [← ad.out] at a0
 have a6 := am_ a0
 clear a3 a4 ak a5 a0
 refine a4l (n := 15) (S := fun w' => w'.cell? ⟨k,0,none⟩ = some (.int .i64 l) ∧ w'.cell? ⟨k,1,none⟩ = some (.int .i64 m) ∧ w'.cell? ⟨J,(((a)).toNat * 2),none⟩ = some (.int .i64 ((a0h l0 (a)).f0)) ∧ w'.cell? ⟨J,(((a)).toNat * 2) + 1,none⟩ = some (.int .i64 ((a0h l0 (a)).f1))) (ds := [14]) #[I,I,I,I,I,I,I,I,I,I,I,I,I,I,I] (by kernel_rfl) rfl rfl ⟨(bc_ c.out 0).trans rfl,(bc_ c.out 1).trans rfl,E,G⟩ (fun hHeld => ?_);refine a3s a2v.tab3 a2v.c2m (fun HT_ HW_ => ?_)
 generalize aY.drew = bk at d c HK HB b1 a6 ai aj q s E G ag ah hHeld ⊢
 refine qpu_ 0 (some 21) #[U,I,I,I,I,I,I,I,I,I,I,I,I,I,I] ?_
 refine qpu_ 1 (some 22) #[U,U,I,I,I,I,I,I,I,I,I,I,I,I,I] ?_
 refine qpu_ 2 (some 23) #[U,U,U,I,I,I,I,I,I,I,I,I,I,I,I] ?_
 refine qpu_ 3 (some 24) #[U,U,U,U,I,I,I,I,I,I,I,I,I,I,I] ?_
 refine qpu_ 4 (some 25) #[U,U,U,U,U,I,I,I,I,I,I,I,I,I,I] ?_
 refine qpu_ 5 (some 26) #[U,U,U,U,U,U,I,I,I,I,I,I,I,I,I] ?_
 refine qpu_ 6 (some 27) #[U,U,U,U,U,U,U,I,I,I,I,I,I,I,I] ?_
 refine qpu_ 7 (some 28) #[U,U,U,U,U,U,U,U,I,I,I,I,I,I,I] ?_
 refine qpu_ 9 (some 30) #[U,U,U,U,U,U,U,U,I,U,I,I,I,I,I] ?_
 refine b0s 8 (some 29) #[U,U,U,U,U,U,U,U,U,U,I,I,I,I,I] hHeld ?_
 refine b0s 10 (some 31) #[U,U,U,U,U,U,U,U,U,U,U,I,I,I,I] hHeld ?_
 refine qpu_ 11 (some 32) #[U,U,U,U,U,U,U,U,U,U,U,U,I,I,I] ?_
 refine qpu_ 12 (some 33) #[U,U,U,U,U,U,U,U,U,U,U,U,U,I,I] ?_
 refine qpu_ 13 (some 34) #[U,U,U,U,U,U,U,U,U,U,U,U,U,U,I] ?_
 refine c1z (i := 14) (N := none) #[U,U,U,U,U,U,U,U,U,U,U,U,U,U,U] rfl rfl (a4m HT_.out (by kernel_rfl)) (by decide) (fun K hK => ?_)
 refine b6i (w1 := ?_) (by rfl) rfl ?_ ?_
 rotate_left
 ·go_simp
  rfl
 refine hK.out _ _ ?_
 clear hK K
 refine a4u (a4c HT_.out (by kernel_rfl)) ?_
 try go_wp2
 go_ret
 exact ⟨_,by first | rfl | (simp [a4e,a4f] <;> rfl) | (simp only [← M, ← P];first | rfl | (simp [a4e,a4f] <;> rfl)) | (simp [*,a4e,a4f] <;> rfl),by (with_reducible repeat (first | apply Kd.a2n | apply Kd.a2o | apply Kd.a2i));exact Kd.a2f a6.out (fun _ hk => hk.1),by repeat (first | (with_reducible first | exact HB.out | apply la_ | apply ln_ | apply ld_ | refine ls_ ?_ b0.out | refine ls_ ?_ A.out) | exact HB.out),by repeat (first | (with_reducible first | exact HK.out | apply Kept.alloc | apply Kept.drewN | apply Kept.drew | refine Kept.setCell ?_ af.out _ | refine Kept.setCell ?_ (.inr t.out) _) | exact HK.out)⟩
def a7d.f (l0 : List (S56)) : Option ((List (S56)) × Int) := if (l0.length : Int) > 1000 then (some (([] : List (S56)),2)) else (some (l0,0))
set_option maxHeartbeats 8000000 in
set_option maxRecDepth 100000 in
theorem a7d.calls (b : Nat → Prop) (a : Value) (l0 r1 : List (S56)) (r2 : Int) (w0 w : World) (hB : Below w0.heap.size w0 w) (j : Kd.R k56 56 w w0.heap.size b a l0) (h : a7d.f l0 = some (r1,r2)) :
  Calls Try.prog 72 #[a] w fun e w' => ∃ d : Value,e = .returned (.tuple #[d, .int .i64 r2]) ∧ Kd.R k56 56 w' w0.heap.size (fun k_ => (b k_ ∨ w.heap.size ≤ k_)) d r1 ∧ Below w0.heap.size w0 w' ∧ Kept w w' (fun k_ => b k_) := by
 have c := am_ (show Kd.R k56 56 w w0.heap.size (fun k_ => (b k_ ∨ w.heap.size ≤ k_)) a l0 from Kd.a2f j (fun k_ hk => (.inl hk)))
 have HK := am_ (Kept.refl w (fun k_ => b k_))
 have m := am_ hB.size
 have HB := am_ hB
 clear hB
 have H : (if (l0.length : Int) > 1000 then (some (([] : List (S56)),2)) else (some (l0,0))) = some (r1,r2) := h
 clear h
 by_cases c2 : (l0.length : Int) > 1000
 rotate_left
 ·rw [if_neg c2] at H
  have g : decide (1000 < (l0.length : Int)) = false := decide_eq_false c2
  have i : decide (1000 < l0.length) = false := decide_eq_false (by omega)
  clear c2
  simp only [Option.some.injEq,Prod.mk.injEq] at H
  obtain ⟨rfl,rfl⟩ := H
  obtain ⟨n,o,k⟩ := Kd.a3c c.out
  subst k
  go_enter Try.func72,Try.ntmps72
  go_wp2
  go_ret2
  exact ⟨_,qx_,by (with_reducible repeat (first | apply Kd.a2n | apply Kd.a2o | apply Kd.a2i));exact c.out,by repeat (first | (with_reducible first | exact HB.out | apply la_ | apply ln_ | apply ld_) | exact HB.out),by repeat (first | (with_reducible first | exact HK.out | apply Kept.alloc | apply Kept.drewN | apply Kept.drew) | exact HK.out)⟩
 rw [if_pos c2] at H
 have g : decide (1000 < (l0.length : Int)) = true := decide_eq_true c2
 have i : decide (1000 < l0.length) = true := decide_eq_true (by omega)
 clear c2
 simp only [Option.some.injEq,Prod.mk.injEq] at H
 obtain ⟨rfl,rfl⟩ := H
 obtain ⟨p,q,l⟩ := Kd.a3c c.out
 subst l
 go_enter Try.func72,Try.ntmps72
 go_wp2
 go_ret2
 exact ⟨_,qx_,by first | exact Kd.a7e _ _ _ _ _ | exact Kd.N_nil _ _ _ _ _ | exact Kd.a7f _ _ _ _ _ | exact Kd.Q_nil _ _ _ _ _ | exact Kd.S_nil _ _ _ _ _,by repeat (first | (with_reducible first | exact HB.out | apply la_ | apply ln_ | apply ld_) | exact HB.out),by repeat (first | (with_reducible first | exact HK.out | apply Kept.alloc | apply Kept.drewN | apply Kept.drew) | exact HK.out)⟩
end Go.Proofs.Ytheibjkjmkanoaa.Px
