/- Contracts of Go functions, printed. Conditions: as each theorem states. -/
import Derived.Test.YtheibjkjmkanoaaPx0
import Derived.Test.YtheibjkjmkanoaaPx10
import Derived.Test.YtheibjkjmkanoaaGOpen
namespace Go.Proofs.Ytheibjkjmkanoaa.Px
open Go.Proofs.Ytheibjkjmkanoaa.Given
open Go.RowKit Go.Proofs.YtheibjkjmkanoaaW.PrintWords Go.Proofs.YtheibjkjmkanoaaW.PrintLast Go.Proofs.YtheibjkjmkanoaaW.PrintMore
attribute [local go_sem] a3m a3n a3x a3y a3e a3f a3o a3p
set_option linter.unusedVariables false
set_option linter.unusedSimpArgs false
def a1q.l0 : Nat → Int → List (S42) → Int → Int → List (Int × Int) → List (Int × List (S56)) → List (S51) → Option ((List (S42)) × Int)
 | 0,_,_,_,_,_,_,_ => none
 | k + 1,x1,x2,c,a,u0,u1,u2 => if a < c then (if 0 ≤ a then (if a < (x2.length : Int) then (if ((a0b x2 a).f2) > 0 then (a1q.l0 k x1 x2 c (wrap64 (a + 1)) u0 u1 u2) else ((a0u.f k u2 u0 u1 a x1 x2).bind fun b => (if b.2.2.2 = true then (a1q.l0 k x1 (x2.set (a : Int).toNat (⟨b.1,b.2.1,b.2.2.1⟩ : S42)) c (wrap64 (a + 1)) u0 u1 u2) else (some (([] : List (S42)),20))))) else (none)) else (none)) else (some (x2,0))
def a1q.f (k : Nat) (a : List (S51)) (b : List (Int × Int)) (c : List (Int × List (S56))) (a1 : Int) (l2 : List (S42)) : Option ((List (S42)) × Int) := a1q.l0 k a1 l2 (l2.length : Int) 0 b c a
theorem a1q.a1h : ∀ k,(∀ y0 y1 y2 y3 y4 y5 y6,LeO (a1q.l0 k y0 y1 y2 y3 y4 y5 y6) (a1q.l0 (k + 1) y0 y1 y2 y3 y4 y5 y6))
 | 0 => fun _ _ _ _ _ _ _ r h => by simp [a1q.l0] at h
 | k + 1 => by
  have a := a1q.a1h k
  intro y0 y1 y2 y3 y4 y5 y6
  unfold a1q.l0
  with_reducible (repeat' first | apply a | apply a0u.mono | apply LeO.refl | apply LeO.none | apply LeO.ite | refine LeO.bind ?_ (fun _ => ?_))
theorem a1q.mono : ∀ a0 a1 a2 a3 a4 k,LeO (a1q.f k a0 a1 a2 a3 a4) (a1q.f (k + 1) a0 a1 a2 a3 a4) := by
 intro a0 a1 a2 a3 a4 k
 have a := a1q.a1h k
 unfold a1q.f
 with_reducible (repeat' first | apply a | apply a0u.mono | apply LeO.refl | apply LeO.none | apply LeO.ite | refine LeO.bind ?_ (fun _ => ?_))
set_option maxHeartbeats 8000000 in
set_option maxRecDepth 100000 in
theorem a1q.calls (k : Nat) (W : Option Addr) (X : Nat) (x : List (S51)) (M : List (Int × Int)) (Y : List (Int × List (S56))) (q r : Nat) (gh_a0_2 : List (Int × (List (S56) × Value))) (a1 : Int) (y : Nat → Prop) (aj : Value) (l2 r1 : List (S42)) (r2 : Int) (w0 w : World) (hB : Below w0.heap.size w0 w) (av : ∀ W_,Kept w W_ (fun k_ => y k_) → Kd.C k51 W_ W x.length x) (aw : x.length ≤ X) (ba : Kd.R k42 42 w w0.heap.size y aj l2) (am : w.heap[q]? = some (a1i (Value.int .i64) M)) (an : w.heap[r]? = some (a1i (fun e_ : List (S56) × Value => e_.2) gh_a0_2)) (ao : a5n gh_a0_2 = Y) (ap : ∀ W_,Kept w W_ (fun k_ => y k_) → a5a k56 W_ gh_a0_2) (T : q ≠ r) (h : a1q.f k x M Y a1 l2 = some (r1,r2)) :
  Calls Try.prog 31 #[.agg #[.slice W x.length X, .map (some q), .map (some r)], .int .i64 a1,aj] w fun e w' => ∃ b4 : Value,e = .returned (.tuple #[b4, .int .i64 r2]) ∧ Kd.R k42 42 w' w0.heap.size (fun k_ => (y k_ ∨ w.heap.size ≤ k_)) b4 r1 ∧ Below w0.heap.size w0 w' ∧ Kept w w' (fun k_ => y k_) := by
 have ck := Try.underlying62
 have cl := Try.underlying42
 have ax := am_ av
 have ay := am_ aw
 clear av aw
 have az := am_ (show Kd.R k42 42 w w0.heap.size (fun k_ => (y k_ ∨ w.heap.size ≤ k_)) aj l2 from Kd.a2f ba (fun k_ hk => (.inl hk)))
 have b := am_ am
 clear am
 have c := am_ an
 clear an
 have aA := am_ ao
 have aB := am_ ap
 clear ao ap
 have ab := am_ T
 have b5 := am_ T.symm
 clear T
 have HK := am_ (Kept.refl w (fun k_ => y k_))
 have cu := am_ hB.size
 have HB := am_ hB
 clear hB
 have H : (a1q.l0 k a1 l2 (l2.length : Int) 0 M Y x) = some (r1,r2) := h
 clear h
 have H' := am_ H
 clear H
 go_enter Try.func31,Try.ntmps31
 go_wp2_with (first | ((with_reducible refine a0t (N := 3) rfl ?_);refine qev_ 3 #[.slice W x.length X, .map (some q), .map (some r)] 62 ?_;intro a3 hg w4 hbox hb;replace az := qrb_ az hb;have d := am_ (hbox);have s := am_ ((by rw [hg];exact (by first | exact HK.out.1 | exact (show Kept w _ (fun k_ => y k_) from by repeat (first | (with_reducible first | exact HK.out | apply Kept.alloc | apply Kept.drewN | apply Kept.drew | refine Kept.setCell ?_ (.inr m.out) _ | refine Kept.setCell ?_ (.inr n.out) _) | exact HK.out)).1) : w.heap.size ≤ a3));replace HK := am_ (Kept.below (S := (fun k_ => y k_)) (by repeat (first | (with_reducible first | exact HK.out | apply Kept.alloc | apply Kept.drewN | apply Kept.drew | refine Kept.setCell ?_ (.inr m.out) _ | refine Kept.setCell ?_ (.inr n.out) _) | exact HK.out)) hb);have aC := am_ ((qg_ hg : w0.heap.size ≤ a3));replace HB := qbs_ hb;obtain ⟨ac,ad⟩ := qnb_ hg b;replace b := qkb_ b hb;obtain ⟨ae,af⟩ := qnb_ hg c;replace c := qkb_ c hb;clear hb hbox hg;obtain ⟨bb,al,bc⟩ := Kd.a3c az.out;subst bc))
 go_loopg [13] k (fun kq bd w' => ∃ (i : List (S42)) (a : Int),bd = .int .i64 a ∧ Aside0 (a1q.l0 kq a1 i (l2.length : Int) a M Y x = some (r1,r2)) ∧ Aside0 (kq ≤ k) ∧ Aside0 (Kd.R k42 42 w' w0.heap.size (fun k_ => (y k_ ∨ w.heap.size ≤ k_)) (.slice bb l2.length al) i) ∧ Aside0 (w'.heap[q]? = some (a1i (Value.int .i64) M)) ∧ Aside0 (w'.heap[r]? = some (a1i (fun e_ : List (S56) × Value => e_.2) gh_a0_2)) ∧ Aside0 (w'.heap[a3]? = some (.cells #[(.slice W x.length X), .map (some q), .map (some r)] 62 (0,0))) ∧ Aside0 (Kept w w' (fun k_ => y k_)) ∧ Aside0 (Below w0.heap.size w0 w'))
 case atStart => exact ⟨(l2),(0),qs_,H',⟨Nat.le_refl _⟩,⟨by (with_reducible repeat (first | apply Kd.a2n | apply Kd.a2o | apply Kd.a2i));exact az.out⟩,⟨qk_ b⟩,⟨qk_ c⟩,⟨qk_ d⟩,⟨by repeat (first | (with_reducible first | exact HK.out | apply Kept.alloc | apply Kept.drewN | apply Kept.drew | refine Kept.setCell ?_ (.inr m.out) _ | refine Kept.setCell ?_ (.inr n.out) _ | refine Kept.setCell ?_ (.inr s.out) _) | exact HK.out)⟩,⟨qb_⟩⟩
 case round =>
 clear H'
 obtain ⟨i,a,rfl,HA,aD,HO_2,b,c,d,HK,HB⟩ := hrel
 have u := (Kd.a0s HO_2.out).1
 rw [u] at HO_2
 (try simp only [u])
 (try simp only [u] at b)
 (try simp only [u] at c)
 (try simp only [u] at d)
 cases gk with
 | zero => exact absurd HA.out (by simp [a1q.l0])
 | succ k1 =>
 have H := HA.out
 clear HA
 simp only [a1q.l0] at H
 by_cases c6 : a < (l2.length : Int)
 rotate_left
 ·rw [if_neg c6] at H
  have aH : decide (a < (l2.length : Int)) = false := decide_eq_false c6
  have b7 := aH
  try rw [u] at b7
  clear c6
  simp only [Option.some.injEq,Prod.mk.injEq] at H
  obtain ⟨rfl,rfl⟩ := H
  go_wp2
  go_ret2
  exact ⟨_,qx_,by (with_reducible repeat (first | apply Kd.a2n | apply Kd.a2o | apply Kd.a2i));exact HO_2.out,by repeat (first | (with_reducible first | exact HB.out | apply la_ | apply ln_ | apply ld_ | refine ls_ ?_ b0.out | refine ls_ ?_ b1.out | refine ls_ ?_ aC.out) | exact HB.out),by repeat (first | (with_reducible first | exact HK.out | apply Kept.alloc | apply Kept.drewN | apply Kept.drew | refine Kept.setCell ?_ (.inr m.out) _ | refine Kept.setCell ?_ (.inr n.out) _ | refine Kept.setCell ?_ (.inr s.out) _) | exact HK.out)⟩
 rw [if_pos c6] at H
 have aH : decide (a < (l2.length : Int)) = true := decide_eq_true c6
 clear c6
 obtain ⟨cm,H⟩ := qid_ H
 obtain ⟨cn,H⟩ := qid_ H
 by_cases c9 : ((a0b i a).f2) > 0
 ·rw [if_pos c9] at H
  have b8 : decide (0 < ((a0b i a).f2)) = true := decide_eq_true c9
  clear c9
  have H' := am_ H
  clear H
  have O : 0 ≤ (a : Int) := ot_
  have P : a < (i.length : Int) := ot_
  obtain ⟨a4,ak,a8,a9,aa⟩ := a4h (Kd.a0s HO_2.out).2.2 a O P
  cases ak
  replace O := eq_true O
  replace P := eq_true P
  go_wp2
  (try simp only [← u])
  go_roundg k1
  case measure => have := aD.out;omega
  case rel => exact ⟨(i),(wrap64 (a + 1)),qs_,H',⟨by have := aD.out;omega⟩,⟨by (try simp only [u]);(with_reducible repeat (first | apply Kd.a2n | apply Kd.a2o | apply Kd.a2i));exact HO_2.out⟩,⟨by (try simp only [u]);refine qd_ ?_;exact b.out⟩,⟨by (try simp only [u]);refine qd_ ?_;exact c.out⟩,⟨by (try simp only [u]);refine qd_ ?_;exact d.out⟩,⟨by repeat (first | (with_reducible first | exact HK.out | apply Kept.alloc | apply Kept.drewN | apply Kept.drew | refine Kept.setCell ?_ (.inr m.out) _ | refine Kept.setCell ?_ (.inr n.out) _ | refine Kept.setCell ?_ (.inr s.out) _) | exact HK.out)⟩,⟨qb_⟩⟩
 rw [if_neg c9] at H
 have b8 : decide (0 < ((a0b i a).f2)) = false := decide_eq_false c9
 clear c9
 replace H := bm_ H
 obtain ⟨⟨D,J,K,aI⟩,aJ,H⟩ := H
 replace H : (if aI = true then (a1q.l0 k1 a1 (i.set (a : Int).toNat (⟨D,J,K⟩ : S42)) (l2.length : Int) (wrap64 (a + 1)) M Y x) else (some (([] : List (S42)),20))) = some (r1,r2) := H
 have b6 := am_ aJ
 clear aJ
 by_cases aE : aI = true
 rotate_left
 ·replace aE := be_ aE
  subst aE
  replace H := qin_ H
  simp only [Option.some.injEq,Prod.mk.injEq] at H
  obtain ⟨rfl,rfl⟩ := H
  have O : 0 ≤ (a : Int) := ot_
  have P : a < (i.length : Int) := ot_
  obtain ⟨a4,ak,a8,a9,aa⟩ := a4h (Kd.a0s HO_2.out).2.2 a O P
  cases ak
  replace O := eq_true O
  replace P := eq_true P
  have bS := ad.out
  have bT := ac.out
  have bU := af.out
  have bV := ae.out
  obtain ⟨be,bf,bg⟩ := qz3_ d;obtain ⟨bh,bi,bj⟩ := qf3_ d
  go_wp2_with (first | ((with_reducible refine a0r (f := 55) rfl ?_);refine a2a (some 27) rfl rfl Try.func55 (by kernel_rfl) rfl #[.agg #[.slice W x.length X, .map (some q), .map (some r)], .int .i64 a, .int .i64 a1, .slice (some a4) i.length al] rfl ql_ ?_;(with_reducible refine (a0u.calls k1 _ _ x M Y q r gh_a0_2 a a1 _ _ i D J K false _ ?s1 ay.out ?s3 ?s4 ?s5 ?s6 ?s7 ?s8 ?s9 b6.out).mono ?_);(case s1 => exact Kd.b1t ax.out (by repeat (first | (with_reducible first | exact HK.out | apply Kept.alloc | apply Kept.drewN | apply Kept.drew | refine Kept.setCell ?_ (.inr m.out) _ | refine Kept.setCell ?_ (.inr n.out) _ | refine Kept.setCell ?_ (.inr s.out) _) | exact HK.out)));(case s3 => exact qv_ (Kd.a0s HO_2.out).2.2);(case s4 => exact (Kd.a0s HO_2.out).2.1);(case s5 => exact (qk_ b));(case s6 => exact (qk_ c));(case s7 => exact aA.out);(case s8 => exact aB.out _ (by repeat (first | (with_reducible first | exact HK.out | apply Kept.alloc | apply Kept.drewN | apply Kept.drew | refine Kept.setCell ?_ (.inr m.out) _ | refine Kept.setCell ?_ (.inr n.out) _ | refine Kept.setCell ?_ (.inr s.out) _) | exact HK.out)));(case s9 => exact ab.out);rintro e cv ⟨rfl,hb⟩;refine ⟨_,rfl,?_⟩;replace HO_2 := qrb_ HO_2 hb;replace b := qkb_ b hb;replace c := qkb_ c hb;replace d := qkb_ d hb;replace HK := am_ (Kept.below (S := (fun k_ => y k_)) (by repeat (first | (with_reducible first | exact HK.out | apply Kept.alloc | apply Kept.drewN | apply Kept.drew | refine Kept.setCell ?_ (.inr m.out) _ | refine Kept.setCell ?_ (.inr n.out) _ | refine Kept.setCell ?_ (.inr s.out) _) | exact HK.out)) hb);replace HB := qbs_ hb;(try clear hb);(try clear bk);(try clear hk);(try clear hi)) | ((with_reducible refine a0t (N := 9) rfl ?_);refine qev_ 9 #[.int .i64 0, .int .i64 0, .int .i64 0] 42 ?_;intro l hg cw hbox hb;replace HO_2 := am_ (Kd.a5w (Kd.a6g (qr_ HO_2) l (Nat.le_of_eq hg.symm)) hb);have E := am_ (hbox);have a5 := am_ ((by rw [hg];exact (by first | exact HK.out.1 | exact (show Kept w _ (fun k_ => y k_) from by repeat (first | (with_reducible first | exact HK.out | apply Kept.alloc | apply Kept.drewN | apply Kept.drew | refine Kept.setCell ?_ (.inr m.out) _ | refine Kept.setCell ?_ (.inr n.out) _ | refine Kept.setCell ?_ (.inr s.out) _) | exact HK.out)).1) : w.heap.size ≤ l));replace HK := am_ (Kept.below (S := (fun k_ => y k_)) (by repeat (first | (with_reducible first | exact HK.out | apply Kept.alloc | apply Kept.drewN | apply Kept.drew | refine Kept.setCell ?_ (.inr m.out) _ | refine Kept.setCell ?_ (.inr n.out) _ | refine Kept.setCell ?_ (.inr s.out) _) | exact HK.out)) hb);have aF := am_ ((qg_ hg : w0.heap.size ≤ l));replace HB := qbs_ hb;obtain ⟨z,Z⟩ := qnb_ hg b;replace b := qkb_ b hb;obtain ⟨A,a0⟩ := qnb_ hg c;replace c := qkb_ c hb;obtain ⟨B,a2⟩ := qnb_ hg d;replace d := qkb_ d hb;clear hb hbox hg;have bW := Z.out;have bX := z.out;have bY := a0.out;have bZ := A.out;have c0 := a2.out;have c1 := B.out;obtain ⟨bl,bm,bn⟩ := qz3_ E;obtain ⟨bo,bp,bq⟩ := qf3_ E))
  go_ret2
  exact ⟨_,qx_,by first | exact Kd.a7e _ _ _ _ _ | exact Kd.N_nil _ _ _ _ _ | exact Kd.a7f _ _ _ _ _ | exact Kd.Q_nil _ _ _ _ _ | exact Kd.S_nil _ _ _ _ _,by repeat (first | (with_reducible first | exact HB.out | apply la_ | apply ln_ | apply ld_ | refine ls_ ?_ b0.out | refine ls_ ?_ b1.out | refine ls_ ?_ aC.out | refine ls_ ?_ aF.out) | exact HB.out),by repeat (first | (with_reducible first | exact HK.out | apply Kept.alloc | apply Kept.drewN | apply Kept.drew | refine Kept.setCell ?_ (.inr m.out) _ | refine Kept.setCell ?_ (.inr n.out) _ | refine Kept.setCell ?_ (.inr s.out) _ | refine Kept.setCell ?_ (.inr a5.out) _) | exact HK.out)⟩
 subst aE
 replace H := qip_ H
 obtain ⟨aq,a6⟩ : ∃ y_ : List (S42),y_ = (i.set (a : Int).toNat (⟨D,J,K⟩ : S42)) := ⟨_,rfl⟩
 replace H : (a1q.l0 k1 a1 aq (l2.length : Int) (wrap64 (a + 1)) M Y x) = some (r1,r2) := by first | (rw [a6];with_reducible exact H) | (have aK := (Option.bind_some _ _).symm.trans H;rw [a6];with_reducible exact aK) | (have aK := (Option.bind_some _ _).symm.trans H;with_reducible exact aK) | with_reducible exact H | (rw [a6];exact H) | exact H
 have b2 := am_ a6
 clear a6
 have H' := am_ H
 clear H
 have O : 0 ≤ (a : Int) := ot_
 have P : a < (i.length : Int) := ot_
 obtain ⟨a4,ak,a8,a9,aa⟩ := a4h (Kd.a0s HO_2.out).2.2 a O P
 cases ak
 replace O := eq_true O
 replace P := eq_true P
 have ca := ad.out
 have cb := ac.out
 have cc := af.out
 have cd := ae.out
 obtain ⟨br,bs,bt⟩ := qz3_ d;obtain ⟨bu,bv,bw⟩ := qf3_ d
 go_wp2_with (first | ((with_reducible refine a0r (f := 55) rfl ?_);refine a2a (some 27) rfl rfl Try.func55 (by kernel_rfl) rfl #[.agg #[.slice W x.length X, .map (some q), .map (some r)], .int .i64 a, .int .i64 a1, .slice (some a4) i.length al] rfl ql_ ?_;(with_reducible refine (a0u.calls k1 _ _ x M Y q r gh_a0_2 a a1 _ _ i D J K true _ ?s1 ay.out ?s3 ?s4 ?s5 ?s6 ?s7 ?s8 ?s9 b6.out).mono ?_);(case s1 => exact Kd.b1t ax.out (by repeat (first | (with_reducible first | exact HK.out | apply Kept.alloc | apply Kept.drewN | apply Kept.drew | refine Kept.setCell ?_ (.inr m.out) _ | refine Kept.setCell ?_ (.inr n.out) _ | refine Kept.setCell ?_ (.inr s.out) _) | exact HK.out)));(case s3 => exact qv_ (Kd.a0s HO_2.out).2.2);(case s4 => exact (Kd.a0s HO_2.out).2.1);(case s5 => exact (qk_ b));(case s6 => exact (qk_ c));(case s7 => exact aA.out);(case s8 => exact aB.out _ (by repeat (first | (with_reducible first | exact HK.out | apply Kept.alloc | apply Kept.drewN | apply Kept.drew | refine Kept.setCell ?_ (.inr m.out) _ | refine Kept.setCell ?_ (.inr n.out) _ | refine Kept.setCell ?_ (.inr s.out) _) | exact HK.out)));(case s9 => exact ab.out);rintro e cx ⟨rfl,hb⟩;refine ⟨_,rfl,?_⟩;replace HO_2 := qrb_ HO_2 hb;replace b := qkb_ b hb;replace c := qkb_ c hb;replace d := qkb_ d hb;replace HK := am_ (Kept.below (S := (fun k_ => y k_)) (by repeat (first | (with_reducible first | exact HK.out | apply Kept.alloc | apply Kept.drewN | apply Kept.drew | refine Kept.setCell ?_ (.inr m.out) _ | refine Kept.setCell ?_ (.inr n.out) _ | refine Kept.setCell ?_ (.inr s.out) _) | exact HK.out)) hb);replace HB := qbs_ hb;(try clear hb);(try clear bk);(try clear hk);(try clear hi)) | ((with_reducible refine a0t (N := 9) rfl ?_);refine qev_ 9 #[.int .i64 0, .int .i64 0, .int .i64 0] 42 ?_;intro l hg bx hbox hb;replace HO_2 := am_ (Kd.a5w (Kd.a6g (qr_ HO_2) l (Nat.le_of_eq hg.symm)) hb);have E := am_ (hbox);have a5 := am_ ((by rw [hg];exact (by first | exact HK.out.1 | exact (show Kept w _ (fun k_ => y k_) from by repeat (first | (with_reducible first | exact HK.out | apply Kept.alloc | apply Kept.drewN | apply Kept.drew | refine Kept.setCell ?_ (.inr m.out) _ | refine Kept.setCell ?_ (.inr n.out) _ | refine Kept.setCell ?_ (.inr s.out) _) | exact HK.out)).1) : w.heap.size ≤ l));replace HK := am_ (Kept.below (S := (fun k_ => y k_)) (by repeat (first | (with_reducible first | exact HK.out | apply Kept.alloc | apply Kept.drewN | apply Kept.drew | refine Kept.setCell ?_ (.inr m.out) _ | refine Kept.setCell ?_ (.inr n.out) _ | refine Kept.setCell ?_ (.inr s.out) _) | exact HK.out)) hb);have aF := am_ ((qg_ hg : w0.heap.size ≤ l));replace HB := qbs_ hb;obtain ⟨z,Z⟩ := qnb_ hg b;replace b := qkb_ b hb;obtain ⟨A,a0⟩ := qnb_ hg c;replace c := qkb_ c hb;obtain ⟨B,a2⟩ := qnb_ hg d;replace d := qkb_ d hb;clear hb hbox hg;have ce := Z.out;have cf := z.out;have cg := a0.out;have ch := A.out;have ci := a2.out;have cj := B.out;obtain ⟨bz,bA,bB⟩ := qz3_ E;obtain ⟨bC,bD,bE⟩ := qf3_ E) | ((with_reducible refine a5f (t := 42) (p := 9) rfl ?_);refine a4w (t := 42) (p := 9) (v := ?vo_w22) (w1 := (((bx.setCell ⟨l,0,none⟩ (.int .i64 D)).setCell ⟨l,1,none⟩ (.int .i64 J)).setCell ⟨l,2,none⟩ (.int .i64 K))) ?hg ?ho ?hn ?hr ?_;(case ho => rfl);(case hg => rfl);(case hn => rfl);(case hr => exact qq_);intro L hw;replace HO_2 : Aside0 (Kd.R k42 42 L w0.heap.size (fun k_ => (y k_ ∨ w.heap.size ≤ k_) ∧ k_ ≠ l) (.slice (some a4) i.length al) i) := ⟨(by rw [hw];exact (by (with_reducible repeat (first | apply Kd.a2n | apply Kd.a2o | apply Kd.a2i));exact Kd.a2f (Kd.a4g (p := ⟨l,2,none⟩) (Kd.a4g (p := ⟨l,1,none⟩) (Kd.a4g (p := ⟨l,0,none⟩) (Kd.a2f HO_2.out (fun k_ hk => (⟨hk,hk.2⟩ : _ ∧ k_ ≠ l))) (fun _ hk => hk.2) (.int .i64 D)) (fun _ hk => hk.2) (.int .i64 J)) (fun _ hk => hk.2) (.int .i64 K)) (fun _ hk => ⟨hk.1.1,hk.1.2⟩)))⟩;replace b : Aside0 (L.heap[q]? = some (a1i (Value.int .i64) M)) := ⟨(by rw [hw];exact (by refine qd_ ?_;refine a0e ?_ z.out _;refine qd_ ?_;refine a0e ?_ z.out _;refine qd_ ?_;refine a0e ?_ z.out _;refine qd_ ?_;exact b.out))⟩;replace c : Aside0 (L.heap[r]? = some (a1i (fun e_ : List (S56) × Value => e_.2) gh_a0_2)) := ⟨(by rw [hw];exact (by refine qd_ ?_;refine a0e ?_ A.out _;refine qd_ ?_;refine a0e ?_ A.out _;refine qd_ ?_;refine a0e ?_ A.out _;refine qd_ ?_;exact c.out))⟩;replace d : Aside0 (L.heap[a3]? = some (.cells #[.slice W x.length X, .map (some q), .map (some r)] 62 (0,0))) := ⟨(by rw [hw];exact (by refine qdj_ ?_ B;refine qdj_ ?_ B;refine qdj_ ?_ B;refine qd_ ?_;exact d.out))⟩;replace E : Aside0 (L.heap[l]? = some (.cells #[.int .i64 D, .int .i64 J, .int .i64 K] 42 (0,0))) := ⟨(by rw [hw];exact (by refine qd_ ?_;refine a0g (cs := #[.int .i64 D, .int .i64 J, .int .i64 0]) ?_ 2 _ rfl;refine qd_ ?_;refine a0g (cs := #[.int .i64 D, .int .i64 0, .int .i64 0]) ?_ 1 _ rfl;refine qd_ ?_;refine a0g (cs := #[.int .i64 0, .int .i64 0, .int .i64 0]) ?_ 0 _ rfl;refine qd_ ?_;exact E.out))⟩;replace HK : Aside0 (Kept w L (fun k_ => y k_)) := ⟨(by rw [hw];exact (by repeat (first | (with_reducible first | exact HK.out | apply Kept.alloc | apply Kept.drewN | apply Kept.drew | refine Kept.setCell ?_ (.inr m.out) _ | refine Kept.setCell ?_ (.inr n.out) _ | refine Kept.setCell ?_ (.inr s.out) _ | refine Kept.setCell ?_ (.inr a5.out) _) | exact HK.out)))⟩;replace HB : Aside0 (Below w0.heap.size w0 L) := ⟨(by rw [hw];exact qb_)⟩;clear hw;obtain ⟨bF,bG,bH⟩ := qz3_ E;obtain ⟨bI,bJ,bK⟩ := qf3_ E;have aL : 0 ≤ (a : Int) := ot_;have aM : (a : Int) < ((i.length : Int) : Int) := ot_;obtain ⟨G,co,aN,aO,b9,cp,aP⟩ := Kd.a9a HO_2.out (by omega);(first | cases aN | (injection aN with ea_ en_ ec_;(first | subst ea_ | (injection ea_ with ea_;subst ea_));subst ec_;clear en_));have ar := am_ aO;have cq := am_ aP;clear aO b9 aP;have bL := am_ (show (y G ∨ w.heap.size ≤ G) from (HO_2.out.1 _ rfl).1);(first | simp only [add_plain] at a8 | skip);(first | simp only [add_plain] at a9 | skip);(first | simp only [add_plain] at aa | skip);obtain ⟨cr,b3,aQ,ag,ah⟩ := Kd.a5s HO_2.out z42 (a : Int) aL aM;obtain rfl := a4x aQ;have bM : L.cell? ⟨G,(a : Int).toNat * 3,none⟩ = some (.int .i64 ((a0b i a).f0)) := ag 0 _ rfl;have bN : L.cell? ⟨G,(a : Int).toNat * 3 + 1,none⟩ = some (.int .i64 ((a0b i a).f1)) := ag 1 _ rfl;have bO : L.cell? ⟨G,(a : Int).toNat * 3 + 2,none⟩ = some (.int .i64 ((a0b i a).f2)) := ag 2 _ rfl;have bP : L.frozen? ⟨G,(a : Int).toNat * 3,none⟩ = false := ah 0;have bQ : L.frozen? ⟨G,(a : Int).toNat * 3 + 1,none⟩ = false := ah 1;have bR : L.frozen? ⟨G,(a : Int).toNat * 3 + 2,none⟩ = false := ah 2;clear b3 ag ah aQ;replace aL := eq_true aL;replace aM := eq_true aM;have aR := am_ (show Kd.R k42 42 L w0.heap.size (fun k_ => (y k_ ∨ w.heap.size ≤ k_) ∧ k_ ≠ l) (.slice (some ⟨G,0,none⟩) i.length al) i from (qr_ HO_2));obtain ⟨ct,aG,aS,a7,ai⟩ := Kd.a5s aR.out z42 (a : Int) (ot_) (by have h_ : (a : Int) < ((i.length : Int) : Int) := ot_;first | exact h_ | (have e_ := (Kd.a0s HO_2.out).1;omega) | simpa using h_);obtain rfl := a4x aS;have au := Kd.a8g aR.out (a : Int) (ot_) (by have h_ : (a : Int) < ((i.length : Int) : Int) := ot_;first | exact h_ | (have e_ := (Kd.a0s HO_2.out).1;omega) | simpa using h_) (seg := [.int .i64 D, .int .i64 J, .int .i64 K]) (j := 0) aG a7 (show 3 ≤ 3 from by decide) (x' := (⟨D,J,K⟩ : S42)) (a4p _ _ _ (⟨D,J,K⟩ : S42) ) (fun _ hk => hk);have aT := a7 0 _ rfl;(try simp only [show (k42).sz = 3 from rfl,Nat.mul_one,Nat.add_zero] at aT);have aU := ai 0;(try simp only [show (k42).sz = 3 from rfl,Nat.mul_one,Nat.add_zero] at aU);have aV := a7 1 _ rfl;(try simp only [show (k42).sz = 3 from rfl,Nat.mul_one,Nat.add_zero] at aV);have aW := ai 1;(try simp only [show (k42).sz = 3 from rfl,Nat.mul_one,Nat.add_zero] at aW);have aX := a7 2 _ rfl;(try simp only [show (k42).sz = 3 from rfl,Nat.mul_one,Nat.add_zero] at aX);have aY := ai 2;(try simp only [show (k42).sz = 3 from rfl,Nat.mul_one,Nat.add_zero] at aY);clear aG a7 ai aS) | ((with_reducible refine a5f (t := 42) (p := 35) rfl ?_);refine a4w (t := 42) (p := 35) (v := ?vo_w25) (w1 := (((L.setCell ⟨G,(a : Int).toNat * 3,none⟩ (.int .i64 D)).setCell ⟨G,(a : Int).toNat * 3 + 1,none⟩ (.int .i64 J)).setCell ⟨G,(a : Int).toNat * 3 + 2,none⟩ (.int .i64 K))) ?hg ?ho ?hn ?hr ?_;(case ho => rfl);(case hg => rfl);(case hn => rfl);(case hr => exact qq_);intro aZ hw;have hg : L.grownBy aZ (some G) := (by rw [hw];exact au.2);have hp_ : Kd.R k42 42 aZ w0.heap.size (fun k_ => (y k_ ∨ w.heap.size ≤ k_) ∧ k_ ≠ l) (.slice (some ⟨G,0,none⟩) i.length al) aq := (by rw [hw,b2.out];exact au.1);clear au;replace b := am_ (a4k (g := q) (o := a1i (Value.int .i64) M) (qk_ b) hg (a8u HO_2.out b.out));replace c := am_ (a4k (g := r) (o := a1i (fun e_ : List (S56) × Value => e_.2) gh_a0_2) (qk_ c) hg (a8u HO_2.out c.out));replace d := am_ (a4k (g := a3) (o := .cells #[.slice W x.length X, .map (some q), .map (some r)] 62 (0,0)) (qk_ d) hg (Kd.R_ne HO_2.out d.out (by decide)));replace E := am_ (a4k (g := l) (o := .cells #[.int .i64 D, .int .i64 J, .int .i64 K] 42 (0,0)) (qk_ E) hg (Kd.a8k HO_2.out (fun _ hk => hk.2)));replace HB := am_ ((by rw [hw];exact ls_ (ls_ (ls_ (HB.out) ar.out) ar.out) ar.out : Below w0.heap.size w0 aZ));replace HK := am_ (Kept.a8j (S := (fun k_ => y k_)) hg (by repeat (first | (with_reducible first | exact HK.out | apply Kept.alloc | apply Kept.drewN | apply Kept.drew | refine Kept.setCell ?_ (.inr m.out) _ | refine Kept.setCell ?_ (.inr n.out) _ | refine Kept.setCell ?_ (.inr s.out) _ | refine Kept.setCell ?_ (.inr a5.out) _) | exact HK.out)) (fun k_ e_ => (HO_2.out.1 k_ e_).1));replace HO_2 := am_ (hp_);clear hg hw hp_))
 (try simp only [← u])
 go_roundg k1
 case measure => have := aD.out;omega
 case rel => exact ⟨(aq),(wrap64 (a + 1)),qs_,H',⟨by have := aD.out;omega⟩,⟨by (try simp only [u]);(with_reducible repeat (first | apply Kd.a2n | apply Kd.a2o | apply Kd.a2i));exact Kd.a2f HO_2.out (fun _ hk => hk.1)⟩,⟨by (try simp only [u]);refine qd_ ?_;exact b.out⟩,⟨by (try simp only [u]);refine qd_ ?_;exact c.out⟩,⟨by (try simp only [u]);refine qd_ ?_;exact d.out⟩,⟨by repeat (first | (with_reducible first | exact HK.out | apply Kept.alloc | apply Kept.drewN | apply Kept.drew | refine Kept.setCell ?_ (.inr m.out) _ | refine Kept.setCell ?_ (.inr n.out) _ | refine Kept.setCell ?_ (.inr s.out) _ | refine Kept.setCell ?_ (.inr a5.out) _) | exact HK.out)⟩,⟨qb_⟩⟩
def a2m.f (k : Nat) (l0 : List (S51)) (l1 : List (S58)) (a2 : Int) : Option ((List (S42)) × Int) := (a4n.f k l0 l1).bind fun a => (if a.1 = true then (if a2 < 0 then (some (([] : List (S42)),1)) else (if a2 > 36524 then (some (([] : List (S42)),1)) else (if 0 ≤ (l0.length : Int) then (if ((l0.length : Int) : Int).toNat ≤ 11728124029610 then ((a1q.f k l0 a.2.1 a.2.2 a2 (List.replicate ((l0.length : Int) : Int).toNat z42)).bind fun b => (some (b.1,b.2))) else (none)) else (none)))) else (some (([] : List (S42)),1)))
theorem a2m.mono : ∀ a0 a1 a2 k,LeO (a2m.f k a0 a1 a2) (a2m.f (k + 1) a0 a1 a2) := by
 intro a0 a1 a2 k
 unfold a2m.f
 with_reducible (repeat' first | apply a4n.mono | apply a1q.mono | apply LeO.refl | apply LeO.none | apply LeO.ite | refine LeO.bind ?_ (fun _ => ?_))
def a2m.T4 : Bool × List (List Nat × List Nat) := (true,[([],[]),([],[]),([],[]),([2],[2]),([3,3],[3]),([0,1,4],[0,1,4]),([5],[5]),([5],[5]),([6,5,0,1,2,3,4,5,6,7],[6]),([7,8,0,1,2,3,4,5,6,7,8],[7])])
def a2m.B4 : List Nat := [0,0,0,4,12,31,63,63,255,511]
theorem a2m.tab4 : rtab .any (opsOf Try.f12 4) = a2m.T4 := by kernel_rfl
theorem a2m.b1z : a5i a2m.T4.2 a2m.B4 = true := by kernel_rfl
set_option maxHeartbeats 8000000 in
set_option maxRecDepth 100000 in
theorem a2m.calls (k : Nat) (A0 : Option Addr) (c0 : Nat) (l0 : List (S51)) (A1 : Option Addr) (c1 : Nat) (l1 : List (S58)) (a2 : Int) (r1 : List (S42)) (r2 : Int) (w : World) (an : Kd.C k51 w A0 l0.length l0) (ao : l0.length ≤ c0) (ap : Kd.C k58 w A1 l1.length l1) (aq : l1.length ≤ c1) (h : a2m.f k l0 l1 a2 = some (r1,r2)) :
  Calls Try.prog 12 #[.slice A0 l0.length c0, .slice A1 l1.length c1, .int .i64 a2] w fun e w' => ∃ ar : Value,e = .returned (.tuple #[ar, .int .i64 r2]) ∧ Kd.R k42 42 w' w.heap.size (fun _ => True) ar r1 ∧ Below w.heap.size w w' := by
 have br := Try.underlying62
 have W := am_ an
 have X := am_ ao
 clear an ao
 have a4 := am_ ap
 have a5 := am_ aq
 clear ap aq
 have HB := am_ (Below.refl w.heap.size w)
 have H : ((a4n.f k l0 l1).bind fun J => (if J.1 = true then (if a2 < 0 then (some (([] : List (S42)),1)) else (if a2 > 36524 then (some (([] : List (S42)),1)) else (if 0 ≤ (l0.length : Int) then (if ((l0.length : Int) : Int).toNat ≤ 11728124029610 then ((a1q.f k l0 J.2.1 J.2.2 a2 (List.replicate ((l0.length : Int) : Int).toNat z42)).bind fun q => (some (q.1,q.2))) else (none)) else (none)))) else (some (([] : List (S42)),1)))) = some (r1,r2) := h
 clear h
 replace H := bm_ H
 obtain ⟨⟨ab,s,x⟩,au,H⟩ := H
 replace H : (if ab = true then (if a2 < 0 then (some (([] : List (S42)),1)) else (if a2 > 36524 then (some (([] : List (S42)),1)) else (if 0 ≤ (l0.length : Int) then (if ((l0.length : Int) : Int).toNat ≤ 11728124029610 then ((a1q.f k l0 s x a2 (List.replicate ((l0.length : Int) : Int).toNat z42)).bind fun q => (some (q.1,q.2))) else (none)) else (none)))) else (some (([] : List (S42)),1))) = some (r1,r2) := H
 have A4 := am_ au
 clear au
 by_cases c5 : ab = true
 rotate_left
 ·replace c5 := be_ c5
  subst c5
  replace H := qin_ H
  simp only [Option.some.injEq,Prod.mk.injEq] at H
  obtain ⟨rfl,rfl⟩ := H
  go_enter Try.func12,Try.ntmps12
  go_wp2_with (first | ((with_reducible refine a0r (f := 30) rfl ?_);refine a2a (some 13) rfl rfl Try.func30 (by kernel_rfl) rfl #[.slice A0 l0.length c0, .slice A1 l1.length c1] rfl (by (try simp only [List.map_toArray,List.map_cons,List.map_nil]);first | done | rfl) ?_;(with_reducible refine (a4n.b2w k _ _ l0 _ _ l1 s x _ w W.out X.out a4.out a5.out qb_ A4.out).mono ?_);rintro e bw ⟨b7,b8,b9,aC,aD,rfl,hb⟩;refine ⟨_,rfl,?_⟩;replace HB := qbs_ hb;clear hb) | ((with_reducible refine a0t (N := 8) rfl ?_);refine qev_ 8 #[.slice none 0 0, .map none, .map none] 62 ?_;intro ba hg bx hbox hb;have a6 := am_ (hbox);have bb := qga_ hg;have bc := qga_ hg;replace HB := qbs_ hb;clear hb hbox hg;obtain ⟨aE,aF,aG⟩ := qz3_ a6;obtain ⟨aH,aI,aJ⟩ := qf3_ a6))
  go_ret2
  exact ⟨_,qx_,by first | exact Kd.a7e _ _ _ _ _ | exact Kd.N_nil _ _ _ _ _ | exact Kd.a7f _ _ _ _ _ | exact Kd.Q_nil _ _ _ _ _ | exact Kd.S_nil _ _ _ _ _,qb_⟩
 subst c5
 replace H := qip_ H
 by_cases c6 : a2 < 0
 ·rw [if_pos c6] at H
  have ay : decide (a2 < 0) = true := decide_eq_true c6
  clear c6
  simp only [Option.some.injEq,Prod.mk.injEq] at H
  obtain ⟨rfl,rfl⟩ := H
  go_enter Try.func12,Try.ntmps12
  go_wp2_with (first | ((with_reducible refine a0r (f := 30) rfl ?_);refine a2a (some 13) rfl rfl Try.func30 (by kernel_rfl) rfl #[.slice A0 l0.length c0, .slice A1 l1.length c1] rfl (by (try simp only [List.map_toArray,List.map_cons,List.map_nil]);first | done | rfl) ?_;(with_reducible refine (a4n.a7s k _ _ l0 _ _ l1 s x _ w W.out X.out a4.out a5.out qb_ A4.out).mono ?_);rintro e w7 ⟨g,j,gh_t223,rfl,t,u,hne,z,A,hv,hm,hb⟩;refine ⟨_,rfl,?_⟩;have b := am_ (z);have a7 := am_ ((Nat.le_trans ((a0z qb_)) t : w.heap.size ≤ g));have L := am_ ((Nat.le_trans ((a0z qb_)) t : w.heap.size ≤ g));have c := am_ (A);have a8 := am_ ((Nat.le_trans ((a0z qb_)) u : w.heap.size ≤ j));have M := am_ ((Nat.le_trans ((a0z qb_)) u : w.heap.size ≤ j));replace HB := qbs_ hb;have v := am_ (hne);have B := am_ (Ne.symm hne);have O := am_ (hv);have P := am_ (hm);clear t u hne z A hv hm hb) | ((with_reducible refine a0t (N := 8) rfl ?_);refine qev_ 8 #[.slice none 0 0, .map none, .map none] 62 ?_;intro d hg w8 hbox hb;have a := am_ (hbox);have a9 := qga_ hg;have T := qga_ hg;replace HB := qbs_ hb;obtain ⟨l,o⟩ := qnb_ hg b;replace b := qkb_ b hb;obtain ⟨m,p⟩ := qnb_ hg c;replace c := qkb_ c hb;clear hb hbox hg;have bs := o.out;have bt := l.out;have bd := p.out;have be := m.out;obtain ⟨aK,aL,aM⟩ := qz3_ a;obtain ⟨aN,aO,aP⟩ := qf3_ a))
  go_ret2
  exact ⟨_,qx_,by first | exact Kd.a7e _ _ _ _ _ | exact Kd.N_nil _ _ _ _ _ | exact Kd.a7f _ _ _ _ _ | exact Kd.Q_nil _ _ _ _ _ | exact Kd.S_nil _ _ _ _ _,qb_⟩
 rw [if_neg c6] at H
 have ay : decide (a2 < 0) = false := decide_eq_false c6
 clear c6
 by_cases G : a2 > 36524
 ·rw [if_pos G] at H
  have al : decide (36524 < a2) = true := decide_eq_true G
  clear G
  simp only [Option.some.injEq,Prod.mk.injEq] at H
  obtain ⟨rfl,rfl⟩ := H
  go_enter Try.func12,Try.ntmps12
  go_wp2_with (first | ((with_reducible refine a0r (f := 30) rfl ?_);refine a2a (some 13) rfl rfl Try.func30 (by kernel_rfl) rfl #[.slice A0 l0.length c0, .slice A1 l1.length c1] rfl (by (try simp only [List.map_toArray,List.map_cons,List.map_nil]);first | done | rfl) ?_;(with_reducible refine (a4n.a7s k _ _ l0 _ _ l1 s x _ w W.out X.out a4.out a5.out qb_ A4.out).mono ?_);rintro e bz ⟨g,j,gh_t223,rfl,t,u,hne,z,A,hv,hm,hb⟩;refine ⟨_,rfl,?_⟩;have b := am_ (z);have a7 := am_ ((Nat.le_trans ((a0z qb_)) t : w.heap.size ≤ g));have L := am_ ((Nat.le_trans ((a0z qb_)) t : w.heap.size ≤ g));have c := am_ (A);have a8 := am_ ((Nat.le_trans ((a0z qb_)) u : w.heap.size ≤ j));have M := am_ ((Nat.le_trans ((a0z qb_)) u : w.heap.size ≤ j));replace HB := qbs_ hb;have v := am_ (hne);have B := am_ (Ne.symm hne);have O := am_ (hv);have P := am_ (hm);clear t u hne z A hv hm hb) | ((with_reducible refine a0t (N := 8) rfl ?_);refine qev_ 8 #[.slice none 0 0, .map none, .map none] 62 ?_;intro d hg bA hbox hb;have a := am_ (hbox);have a9 := qga_ hg;have T := qga_ hg;replace HB := qbs_ hb;obtain ⟨l,o⟩ := qnb_ hg b;replace b := qkb_ b hb;obtain ⟨m,p⟩ := qnb_ hg c;replace c := qkb_ c hb;clear hb hbox hg;have bf := o.out;have bg := l.out;have bh := p.out;have bi := m.out;obtain ⟨aQ,aR,aS⟩ := qz3_ a;obtain ⟨aT,aU,aV⟩ := qf3_ a))
  go_ret2
  exact ⟨_,qx_,by first | exact Kd.a7e _ _ _ _ _ | exact Kd.N_nil _ _ _ _ _ | exact Kd.a7f _ _ _ _ _ | exact Kd.Q_nil _ _ _ _ _ | exact Kd.S_nil _ _ _ _ _,qb_⟩
 rw [if_neg G] at H
 have al : decide (36524 < a2) = false := decide_eq_false G
 clear G
 by_cases Y : 0 ≤ (l0.length : Int)
 rotate_left
 ·rw [if_neg Y] at H
  exact absurd H (by simp)
 rw [if_pos Y] at H
 have bj := eq_true Y
 have bk : decide (0 ≤ (l0.length : Int)) = true := decide_eq_true Y
 clear Y
 by_cases Z : ((l0.length : Int) : Int).toNat ≤ 11728124029610
 rotate_left
 ·rw [if_neg Z] at H
  exact absurd H (by simp)
 rw [if_pos Z] at H
 have bl := eq_true Z
 have bm : decide (((l0.length : Int) : Int).toNat ≤ 11728124029610) = true := decide_eq_true Z
 clear Z
 obtain ⟨D,y⟩ : ∃ y_ : List (S42),y_ = (List.replicate ((l0.length : Int) : Int).toNat z42) := ⟨_,rfl⟩
 replace H : ((a1q.f k l0 s x a2 D).bind fun q => (some (q.1,q.2))) = some (r1,r2) := by first | (rw [y];with_reducible exact H) | (have ac := (Option.bind_some _ _).symm.trans H;rw [y];with_reducible exact ac) | (have ac := (Option.bind_some _ _).symm.trans H;with_reducible exact ac) | with_reducible exact H | (rw [y];exact H) | exact H
 have aa := am_ y
 clear y
 replace H := bm_ H
 obtain ⟨⟨ad,ae⟩,af,H⟩ := H
 replace H : (some (ad,ae)) = some (r1,r2) := H
 have aW := am_ af
 clear af
 simp only [Option.some.injEq,Prod.mk.injEq] at H
 obtain ⟨rfl,rfl⟩ := H
 go_enter Try.func12,Try.ntmps12
 try go_wp2_with (first | ((with_reducible refine a0r (f := 30) rfl ?_);refine a2a (some 13) rfl rfl Try.func30 (by kernel_rfl) rfl #[.slice A0 l0.length c0, .slice A1 l1.length c1] rfl (by (try simp only [List.map_toArray,List.map_cons,List.map_nil]);first | done | rfl) ?_;(with_reducible refine (a4n.a7s k _ _ l0 _ _ l1 s x _ w W.out X.out a4.out a5.out qb_ A4.out).mono ?_);rintro e bB ⟨g,j,gh_t223,rfl,t,u,hne,z,A,hv,hm,hb⟩;refine ⟨_,rfl,?_⟩;have b := am_ (z);have a7 := am_ ((Nat.le_trans ((a0z qb_)) t : w.heap.size ≤ g));have L := am_ ((Nat.le_trans ((a0z qb_)) t : w.heap.size ≤ g));have c := am_ (A);have a8 := am_ ((Nat.le_trans ((a0z qb_)) u : w.heap.size ≤ j));have M := am_ ((Nat.le_trans ((a0z qb_)) u : w.heap.size ≤ j));replace HB := qbs_ hb;have v := am_ (hne);have B := am_ (Ne.symm hne);have O := am_ (hv);have P := am_ (hm);clear t u hne z A hv hm hb) | ((with_reducible refine a0t (N := 8) rfl ?_);refine qev_ 8 #[.slice none 0 0, .map none, .map none] 62 ?_;intro d hg a0 hbox hb;have a := am_ (hbox);have a9 := qga_ hg;have T := qga_ hg;replace HB := qbs_ hb;obtain ⟨l,o⟩ := qnb_ hg b;replace b := qkb_ b hb;obtain ⟨m,p⟩ := qnb_ hg c;replace c := qkb_ c hb;clear hb hbox hg;have bn := o.out;have bo := l.out;have bp := p.out;have bq := m.out;obtain ⟨aX,aY,aZ⟩ := qz3_ a;obtain ⟨b0,b1,b2⟩ := qf3_ a))
 have ag : Aside0 ((((a0.setCell ⟨d,0,none⟩ (.slice A0 l0.length c0)).setCell ⟨d,1,none⟩ (.map (some g))).setCell ⟨d,2,none⟩ (.map (some j))).heap[g]? = some (a1i (Value.int .i64) s)) := ⟨by refine qd_ ?_;refine a0e ?_ l.out _;refine qd_ ?_;refine a0e ?_ l.out _;refine qd_ ?_;refine a0e ?_ l.out _;refine qd_ ?_;exact b.out⟩
 have ah : Aside0 ((((a0.setCell ⟨d,0,none⟩ (.slice A0 l0.length c0)).setCell ⟨d,1,none⟩ (.map (some g))).setCell ⟨d,2,none⟩ (.map (some j))).heap[j]? = some (a1i (fun e_ : List (S56) × Value => e_.2) gh_t223)) := ⟨by refine qd_ ?_;refine a0e ?_ m.out _;refine qd_ ?_;refine a0e ?_ m.out _;refine qd_ ?_;refine a0e ?_ m.out _;refine qd_ ?_;exact c.out⟩
 have ai : Aside0 ((((a0.setCell ⟨d,0,none⟩ (.slice A0 l0.length c0)).setCell ⟨d,1,none⟩ (.map (some g))).setCell ⟨d,2,none⟩ (.map (some j))).heap[d]? = some (.cells #[.slice A0 l0.length c0, .map (some g), .map (some j)] 62 (0,0))) := ⟨by refine qd_ ?_;refine a0g (cs := #[.slice A0 l0.length c0, .map (some g), .map none]) ?_ 2 _ rfl;refine qd_ ?_;refine a0g (cs := #[.slice A0 l0.length c0, .map none, .map none]) ?_ 1 _ rfl;refine qd_ ?_;refine a0g (cs := #[.slice none 0 0, .map none, .map none]) ?_ 0 _ rfl;refine qd_ ?_;exact a.out⟩
 have aj : Aside0 (Below w.heap.size w (((a0.setCell ⟨d,0,none⟩ (.slice A0 l0.length c0)).setCell ⟨d,1,none⟩ (.map (some g))).setCell ⟨d,2,none⟩ (.map (some j)))) := ⟨qb_⟩
 (try clear b)
 (try clear c)
 (try clear a)
 (try clear HB)
 generalize (((a0.setCell ⟨d,0,none⟩ (.slice A0 l0.length c0)).setCell ⟨d,1,none⟩ (.map (some g))).setCell ⟨d,2,none⟩ (.map (some j))) = b3 at ag ah ai aj ⊢
 have b := ag
 have c := ah
 have a := ai
 have HB := aj
 clear ag ah ai aj
 replace b := am_ (bd_ b.out)
 replace c := am_ (bd_ c.out)
 replace a := am_ (bd_ a.out)
 replace HB := am_ (ld_ HB.out)
 refine a4l (n := 10) (S := fun w' => w'.cell? ⟨d,0,none⟩ = some (.slice A0 l0.length c0) ∧ w'.cell? ⟨d,1,none⟩ = some (.map (some g)) ∧ w'.cell? ⟨d,2,none⟩ = some (.map (some j))) (ds := []) #[I,I,I,I,I,I,I,I,I,I] (by kernel_rfl) rfl rfl ⟨(bc_ a.out 0).trans rfl,(bc_ a.out 1).trans rfl,(bc_ a.out 2).trans rfl⟩ (fun hHeld => ?_);refine a3s a2m.tab4 a2m.b1z (fun HT_ HW_ => ?_)
 generalize b3.drew = bC at b c a HB hHeld ⊢
 refine qpu_ 1 (some 27) #[I,U,I,I,I,I,I,I,I,I] ?_
 refine qpu_ 2 (some 28) #[I,U,U,I,I,I,I,I,I,I] ?_
 refine qpu_ 3 (some 29) #[I,U,U,U,I,I,I,I,I,I] ?_
 refine a7w 0 (some 26) #[U,U,U,U,I,I,I,I,I,I] hHeld ?_
 refine one_ (i := 4) (N := some 30) #[U,U,U,U,U,I,I,I,I,I] rfl rfl (a4m HT_.out (by kernel_rfl)) (by decide) (fun K hK => ?_)
 refine Kd.b5d k42 _ 42 (by rfl) (N := 30) rfl 24 _ _ rfl (l0.length : Int) rfl rfl Try.underlying24 (.agg #[(.int .i64 0),(.int .i64 0),(.int .i64 0)]) 24 a7c rfl (by decide) (by omega) z42 (ok := fun _ => True) (okp := fun _ => True) (a4p _ _ _ z42 ) (fun _ hk => hk) trivial (ot_) (Nat.le_trans (Nat.mul_le_mul_right _ (ot_ : (l0.length : Int).toNat ≤ 11728124029610)) (by omega)) (Below.refl _ _) (Nat.le_refl _) ?_
 intro bu bD E hb hg_ hnew_
 clear hg_ hnew_
 (first | rw [← aa.out] at E | (simp only [Int.reduceToNat] at E;rw [← aa.out] at E))
 have r := am_ (Kd.a4b E (a0z qb_))
 replace b := qkb_ b hb
 replace c := qkb_ c hb
 replace a := qkb_ a hb
 replace HB := qbs_ hb
 clear hb E
 obtain ⟨a1,a3,ak⟩ := Kd.a3c r.out
 (first | subst ak | (injection ak with av b4 aw;have b5 := av.symm;have b6 := aw.symm;clear av b4 aw;subst b5;subst b6))
 refine hK.out _ _ ⟨(bc_ a.out 0).trans rfl,(bc_ a.out 1).trans rfl,(bc_ a.out 2).trans rfl⟩ (fun hHeld => ?_)
 clear hK K
 refine a4q (a' := ?_) ?_ ?_
 rotate_left
 ·show Act.put _ (some 30) _ = _
  exact qp_
 refine one_ (i := 5) (N := some 31) #[U,U,U,U,U,U,I,I,I,I] rfl rfl (a4m HT_.out (by kernel_rfl)) (by decide) (fun K hK => ?_)
 refine a5z Try.func31 (by kernel_rfl) rfl #[.agg #[.slice A0 l0.length c0, .map (some g), .map (some j)], .int .i64 a2, .slice a1 D.length a3] (by rfl) rfl rfl ql_ ?_
 with_reducible refine (a1q.calls k _ _ l0 s x g j gh_t223 a2 (fun k_ => some k_ = (.slice a1 D.length a3 : Value).ownBlock) (.slice a1 D.length a3) D ad ae w _ ?s1 ?s2 X.out ?s4 ?s5 ?s6 ?s7 ?s8 ?s9 aW.out).mono ?_
 (case s1 => repeat (first | (with_reducible first | exact HB.out | apply la_ | apply ln_ | apply ld_ | refine ls_ ?_ L.out | refine ls_ ?_ M.out | refine ls_ ?_ T.out) | exact HB.out))
 (case s2 => exact Kd.a7y b4j W.out qb_ (fun k_ hs_ => (fun e_ => Kd.a3j r.out k_ e_.symm) hs_))
 (case s4 => exact Kd.a7q rfl r.out)
 (case s5 => exact (qk_ b))
 (case s6 => exact (qk_ c))
 (case s7 => exact O.out)
 (case s8 => exact (fun W_ hK_ e_ he_ => by obtain ⟨A_,c_,az,aA,aB⟩ := P.out e_ he_;have HRm_ := am_ aB;exact ⟨A_,c_,az,aA,(Kd.a7y b1j HRm_.out qb_ (fun k_ hs_ => (fun e_ => Kd.a3j r.out k_ e_.symm) hs_)) W_ hK_⟩))
 (case s9 => exact v.out)
 rintro e bE ⟨bv,rfl,ax,hb,hkp⟩
 refine ⟨_,rfl,?_⟩
 replace b := am_ (a7b (qk_ b) hkp (fun hs_ => (fun e_ => (a8u r.out b.out) e_) hs_))
 replace c := am_ (a7b (qk_ c) hkp (fun hs_ => (fun e_ => (a8u r.out c.out) e_) hs_))
 replace a := am_ (a7b (qk_ a) hkp (fun hs_ => (fun e_ => (Kd.R_ne r.out a.out (by decide)) e_) hs_))
 have am := am_ (Kd.a2f (ok' := fun k_ => True) ax (fun k_ hk_ => trivial))
 replace HB := am_ (hb)
 clear r
 (try clear hb)
 (try clear hkp)
 (try clear ax)
 refine hK.out _ _ ⟨(bc_ a.out 0).trans rfl,(bc_ a.out 1).trans rfl,(bc_ a.out 2).trans rfl⟩ (fun hHeld => ?_)
 clear hK K
 refine a4q (a' := ?_) ?_ ?_
 rotate_left
 ·show Act.put _ (some 31) _ = _
  exact qp_
 refine qpu_ 6 (some 32) #[U,U,U,U,U,U,U,I,I,I] ?_
 refine qpu_ 7 (some 33) #[U,U,U,U,U,U,U,U,I,I] ?_
 refine qpu_ 8 (some 6) #[U,U,U,U,U,U,U,U,U,I] ?_
 refine qpu_ 9 (some 7) #[U,U,U,U,U,U,U,U,U,U] ?_
 refine a4u (a4c HT_.out (by kernel_rfl)) ?_
 try go_wp2
 go_ret2
 exact ⟨_,qx_,by (with_reducible repeat (first | apply Kd.a2n | apply Kd.a2o | apply Kd.a2i));exact am.out,qb_⟩
def a5o.f (a c d : Int) (e g : List Int) (b h i : Int) : Option (Bool) := some (a == b)
set_option maxHeartbeats 8000000 in
set_option maxRecDepth 100000 in
theorem a5o.calls (d k l : Int) (m : Option Addr) (n : Nat) (b : List Int) (o : Option Addr) (p : Nat) (c : List Int) (g q s : Int) (r : Bool) (w : World) (t : Kd.C (Kd.int .i64) w m b.length b) (u : b.length ≤ n) (v : Kd.C (Kd.int .i64) w o c.length c) (x : c.length ≤ p) (h : a5o.f d k l b c g q s = some r) :
  Calls Try.prog 58 #[.agg #[.int .i64 d, .int .i64 k, .int .i64 l, .slice m b.length n, .slice o c.length p], .agg #[.int .i64 g, .int .i64 q, .int .i64 s]] w fun e w' => e = .returned (.bool r) ∧ Below w.heap.size w w' := by
 have a9 := Try.underlying51
 have aa := Try.underlying42
 have z := am_ t
 have A := am_ u
 clear t u
 have B := am_ v
 have D := am_ x
 clear v x
 have HB := am_ (Below.refl w.heap.size w)
 have H : (some (d == g)) = some r := h
 clear h
 obtain rfl := si_ H
 go_enter Try.func58,Try.ntmps58
 go_wp2_with (first | ((with_reducible refine a0t (N := 2) rfl ?_);refine qev_ 2 #[.int .i64 d, .int .i64 k, .int .i64 l, .slice m b.length n, .slice o c.length p] 51 ?_;intro E hg w3 hbox hb;have a := am_ (hbox);have G := qga_ hg;have J := qga_ hg;replace HB := qbs_ hb;clear hb hbox hg) | ((with_reducible refine a0t (N := 3) rfl ?_);refine qev_ 3 #[.int .i64 g, .int .i64 q, .int .i64 s] 42 ?_;intro K hg w4 hbox hb;have y := am_ (hbox);have L := qga_ hg;have M := qga_ hg;replace HB := qbs_ hb;obtain ⟨i,j⟩ := qnb_ hg a;replace a := qkb_ a hb;clear hb hbox hg;have ab := i.out;have ac := j.out;obtain ⟨O,P,T,W,X⟩ := qz5_ a;obtain ⟨Y,Z,a0,a1,a2⟩ := qf5_ a;obtain ⟨a3,a4,a5⟩ := qz3_ y;obtain ⟨a6,a7,a8⟩ := qf3_ y))
 go_ret
 exact ⟨qx_,qb_⟩
def a1d.l0 : Nat → List (S42) → List (S51) → Int → Int → Option (Bool)
 | 0,_,_,_,_ => none
 | k + 1,x1,b,c,a => if a < c then (if 0 ≤ a then (if a < (b.length : Int) then (if a < (x1.length : Int) then ((a5o.f ((a0a b a).f0) ((a0a b a).f1) ((a0a b a).f2) ((a0a b a).f3) ((a0a b a).f4) ((a0b x1 a).f0) ((a0b x1 a).f1) ((a0b x1 a).f2)).bind fun d => (if d = true then (a1d.l0 k x1 b c (wrap64 (a + 1))) else (some false))) else (none)) else (none)) else (none)) else (some true)
def a1d.f (k : Nat) (l0 : List (S51)) (l1 : List (S42))  : Option (Bool) := if (l0.length : Int) = (l1.length : Int) then (a1d.l0 k l1 l0 (l0.length : Int) 0) else (some false)
theorem a1d.a1h : ∀ k,(∀ y0 y1 y2 y3,LeO (a1d.l0 k y0 y1 y2 y3) (a1d.l0 (k + 1) y0 y1 y2 y3))
 | 0 => fun _ _ _ _ r h => by simp [a1d.l0] at h
 | k + 1 => by
  have a := a1d.a1h k
  intro y0 y1 y2 y3
  unfold a1d.l0
  with_reducible (repeat' first | apply a | apply LeO.refl | apply LeO.none | apply LeO.ite | refine LeO.bind ?_ (fun _ => ?_))
theorem a1d.mono : ∀ a0 a1 k,LeO (a1d.f k a0 a1) (a1d.f (k + 1) a0 a1) := by
 intro a0 a1 k
 have a := a1d.a1h k
 unfold a1d.f
 with_reducible (repeat' first | apply a | apply LeO.refl | apply LeO.none | apply LeO.ite | refine LeO.bind ?_ (fun _ => ?_))
set_option maxHeartbeats 8000000 in
set_option maxRecDepth 100000 in
theorem a1d.calls (k : Nat) (A0 : Option Addr) (c0 : Nat) (l0 : List (S51)) (A1 : Option Addr) (c1 : Nat) (l1 : List (S42))  (r : Bool) (w : World) (ae : Kd.C k51 w A0 l0.length l0) (af : l0.length ≤ c0) (ag : Kd.C k42 w A1 l1.length l1) (ah : l1.length ≤ c1) (h : a1d.f k l0 l1 = some r) :
  Calls Try.prog 57 #[.slice A0 l0.length c0, .slice A1 l1.length c1, .func (.func 58) #[] #[]] w fun e w' => e = .returned (.bool r) ∧ Below w.heap.size w w' := by
 have bm := Try.underlying51
 have bn := Try.underlying42
 have ai := am_ ae
 have br := am_ af
 clear ae af
 have aj := am_ ag
 have bs := am_ ah
 clear ag ah
 have HB := am_ (Below.refl w.heap.size w)
 have H : (if (l0.length : Int) = (l1.length : Int) then (a1d.l0 k l1 l0 (l0.length : Int) 0) else (some false)) = some r := h
 clear h
 by_cases c4 : (l0.length : Int) = (l1.length : Int)
 rotate_left
 ·rw [if_neg c4] at H
  have a7 : ((l0.length : Int) == (l1.length : Int)) = false := beq_eq_false_iff_ne.mpr c4
  have a8 : ((l0.length : Int) != (l1.length : Int)) = true := bne_iff_ne.mpr c4
  have a9 : (l0.length == l1.length) = false := by first | simpa using c4 | (simp at c4 ⊢;omega)
  obtain rfl := si_ H
  go_enter Try.func57,Try.ntmps57
  go_wp2
  go_ret
  exact ⟨qx_,qb_⟩
 rw [if_pos c4] at H
 have a7 : ((l0.length : Int) == (l1.length : Int)) = true := beq_iff_eq.mpr c4
 have a8 : ((l0.length : Int) != (l1.length : Int)) = false := bne_eq_false_iff_eq.mpr c4
 have a9 : (l0.length == l1.length) = true := by first | simpa using c4 | (simp at c4 ⊢;omega)
 clear c4
 have H' := am_ H
 clear H
 go_enter Try.func57,Try.ntmps57
 go_wp2
 go_loopg [17] k (fun kq ao w' => ∃ (a : Int),ao = .int .i64 a ∧ Aside0 (a1d.l0 kq l1 l0 (l0.length : Int) a = some r) ∧ Aside0 (kq ≤ k) ∧ Aside0 (Below w.heap.size w w'))
 case atStart => exact ⟨(0),qs_,H',⟨Nat.le_refl _⟩,⟨qb_⟩⟩
 case round =>
 clear H'
 try clear c1
 try clear a7
 try clear a8
 try clear a9
 obtain ⟨a,rfl,HA,ak,HB⟩ := hrel
 cases gk with
 | zero => exact absurd HA.out (by simp [a1d.l0])
 | succ k1 =>
 have H := HA.out
 clear HA
 simp only [a1d.l0] at H
 by_cases c5 : a < (l0.length : Int)
 rotate_left
 ·rw [if_neg c5] at H
  have am : decide (a < (l0.length : Int)) = false := decide_eq_false c5
  clear c5
  obtain rfl := si_ H
  go_wp2
  go_ret
  exact ⟨qx_,qb_⟩
 rw [if_pos c5] at H
 have am : decide (a < (l0.length : Int)) = true := decide_eq_true c5
 clear c5
 obtain ⟨bo,H⟩ := qid_ H
 obtain ⟨bp,H⟩ := qid_ H
 obtain ⟨bq,H⟩ := qid_ H
 replace H := bm_ H
 obtain ⟨an,al,H⟩ := H
 have A9 := am_ al
 clear al
 by_cases c10 : an = true
 rotate_left
 ·replace c10 := be_ c10
  subst c10
  replace H := qin_ H
  obtain rfl := si_ H
  have X : 0 ≤ (a : Int) := ot_
  have Y : a < (l0.length : Int) := ot_
  obtain ⟨aa,j,l,n,q,a5,D,E,G,J,K,L,M,O,P⟩ := a5j ai.out a X Y
  cases a5
  replace D := qh_ HB D
  replace E := qh_ HB E
  replace G := qh_ HB G
  replace J := qh_ HB J
  replace K := qh_ HB K
  have a1 := am_ M
  have a2 := am_ L
  clear M L
  have a3 := am_ P
  have a4 := am_ O
  clear P O
  replace X := eq_true X
  replace Y := eq_true Y
  go_wp2_with (first | ((with_reducible refine a0t (N := 8) rfl ?_);refine qev_ 8 #[.int .i64 0, .int .i64 0, .int .i64 0, .slice none 0 0, .slice none 0 0] 51 ?_;intro b hg bt hbox hb;have m := am_ (hbox);have z := qga_ hg;have ab := qga_ hg;replace HB := qbs_ hb;clear hb hbox hg;obtain ⟨ap,aq,ar,au,av⟩ := qz5_ m;obtain ⟨aw,ax,ay,az,aA⟩ := qf5_ m;have Z : 0 ≤ (a : Int) := ot_;have a0 : a < (l1.length : Int) := ot_;obtain ⟨A,a6,c,d,i⟩ := a4h aj.out a Z a0;cases a6;have t : A.block ≠ b := Nat.ne_of_lt (Nat.lt_of_lt_of_le (by have := World.block_lt_of_cell? _ _ c;first | rwa [add_block] at this | exact this) z.out);have u : A.block ≠ b := Nat.ne_of_lt (Nat.lt_of_lt_of_le (by have := World.block_lt_of_cell? _ _ c;first | rwa [add_block] at this | exact this) z.out);have v : A.block ≠ b := Nat.ne_of_lt (Nat.lt_of_lt_of_le (by have := World.block_lt_of_cell? _ _ c;first | rwa [add_block] at this | exact this) z.out);have x : A.block ≠ b := Nat.ne_of_lt (Nat.lt_of_lt_of_le (by have := World.block_lt_of_cell? _ _ c;first | rwa [add_block] at this | exact this) z.out);have y : A.block ≠ b := Nat.ne_of_lt (Nat.lt_of_lt_of_le (by have := World.block_lt_of_cell? _ _ c;first | rwa [add_block] at this | exact this) z.out);replace c := qh_ HB c;replace d := qh_ HB d;replace i := qh_ HB i;replace c := (cell_far (p := ⟨b,0,none⟩) (qn_ t) (.int .i64 ((a0a l0 a).f0))).trans c;replace d := (cell_far (p := ⟨b,0,none⟩) (qn_ t) (.int .i64 ((a0a l0 a).f0))).trans d;replace i := (cell_far (p := ⟨b,0,none⟩) (qn_ t) (.int .i64 ((a0a l0 a).f0))).trans i;replace c := (cell_far (p := ⟨b,1,none⟩) (qn_ u) (.int .i64 ((a0a l0 a).f1))).trans c;replace d := (cell_far (p := ⟨b,1,none⟩) (qn_ u) (.int .i64 ((a0a l0 a).f1))).trans d;replace i := (cell_far (p := ⟨b,1,none⟩) (qn_ u) (.int .i64 ((a0a l0 a).f1))).trans i;replace c := (cell_far (p := ⟨b,2,none⟩) (qn_ v) (.int .i64 ((a0a l0 a).f2))).trans c;replace d := (cell_far (p := ⟨b,2,none⟩) (qn_ v) (.int .i64 ((a0a l0 a).f2))).trans d;replace i := (cell_far (p := ⟨b,2,none⟩) (qn_ v) (.int .i64 ((a0a l0 a).f2))).trans i;replace c := (cell_far (p := ⟨b,3,none⟩) (qn_ x) (.slice j ((a0a l0 a).f3).length l)).trans c;replace d := (cell_far (p := ⟨b,3,none⟩) (qn_ x) (.slice j ((a0a l0 a).f3).length l)).trans d;replace i := (cell_far (p := ⟨b,3,none⟩) (qn_ x) (.slice j ((a0a l0 a).f3).length l)).trans i;replace c := (cell_far (p := ⟨b,4,none⟩) (qn_ y) (.slice n ((a0a l0 a).f4).length q)).trans c;replace d := (cell_far (p := ⟨b,4,none⟩) (qn_ y) (.slice n ((a0a l0 a).f4).length q)).trans d;replace i := (cell_far (p := ⟨b,4,none⟩) (qn_ y) (.slice n ((a0a l0 a).f4).length q)).trans i;clear t u v x y;replace Z := eq_true Z;replace a0 := eq_true a0) | ((with_reducible refine a0t (N := 9) rfl ?_);refine qev_ 9 #[.int .i64 0, .int .i64 0, .int .i64 0] 42 ?_;intro T hg bu hbox hb;have B := am_ (hbox);have ac := qga_ hg;have ad := qga_ hg;replace HB := qbs_ hb;have s := am_ ((by rw [hg];exact Nat.ne_of_lt (a3v (g := b) (o := .cells #[.int .i64 ((a0a l0 a).f0), .int .i64 ((a0a l0 a).f1), .int .i64 ((a0a l0 a).f2), .slice j ((a0a l0 a).f3).length l, .slice n ((a0a l0 a).f4).length q] 51 (0,0)) (by refine qd_ ?_;refine a0g (cs := #[.int .i64 ((a0a l0 a).f0), .int .i64 ((a0a l0 a).f1), .int .i64 ((a0a l0 a).f2), .slice j ((a0a l0 a).f3).length l, .slice none 0 0]) ?_ 4 _ rfl;refine qd_ ?_;refine a0g (cs := #[.int .i64 ((a0a l0 a).f0), .int .i64 ((a0a l0 a).f1), .int .i64 ((a0a l0 a).f2), .slice none 0 0, .slice none 0 0]) ?_ 3 _ rfl;refine qd_ ?_;refine a0g (cs := #[.int .i64 ((a0a l0 a).f0), .int .i64 ((a0a l0 a).f1), .int .i64 0, .slice none 0 0, .slice none 0 0]) ?_ 2 _ rfl;refine qd_ ?_;refine a0g (cs := #[.int .i64 ((a0a l0 a).f0), .int .i64 0, .int .i64 0, .slice none 0 0, .slice none 0 0]) ?_ 1 _ rfl;refine qd_ ?_;refine a0g (cs := #[.int .i64 0, .int .i64 0, .int .i64 0, .slice none 0 0, .slice none 0 0]) ?_ 0 _ rfl;refine qd_ ?_;exact m.out)) : b ≠ T));have W := am_ ((by rw [hg];exact Nat.ne_of_gt (a3v (g := b) (o := .cells #[.int .i64 ((a0a l0 a).f0), .int .i64 ((a0a l0 a).f1), .int .i64 ((a0a l0 a).f2), .slice j ((a0a l0 a).f3).length l, .slice n ((a0a l0 a).f4).length q] 51 (0,0)) (by refine qd_ ?_;refine a0g (cs := #[.int .i64 ((a0a l0 a).f0), .int .i64 ((a0a l0 a).f1), .int .i64 ((a0a l0 a).f2), .slice j ((a0a l0 a).f3).length l, .slice none 0 0]) ?_ 4 _ rfl;refine qd_ ?_;refine a0g (cs := #[.int .i64 ((a0a l0 a).f0), .int .i64 ((a0a l0 a).f1), .int .i64 ((a0a l0 a).f2), .slice none 0 0, .slice none 0 0]) ?_ 3 _ rfl;refine qd_ ?_;refine a0g (cs := #[.int .i64 ((a0a l0 a).f0), .int .i64 ((a0a l0 a).f1), .int .i64 0, .slice none 0 0, .slice none 0 0]) ?_ 2 _ rfl;refine qd_ ?_;refine a0g (cs := #[.int .i64 ((a0a l0 a).f0), .int .i64 0, .int .i64 0, .slice none 0 0, .slice none 0 0]) ?_ 1 _ rfl;refine qd_ ?_;refine a0g (cs := #[.int .i64 0, .int .i64 0, .int .i64 0, .slice none 0 0, .slice none 0 0]) ?_ 0 _ rfl;refine qd_ ?_;exact m.out)) : T ≠ b));replace m := am_ (a2g (g := b) (o := .cells #[.int .i64 ((a0a l0 a).f0), .int .i64 ((a0a l0 a).f1), .int .i64 ((a0a l0 a).f2), .slice j ((a0a l0 a).f3).length l, .slice n ((a0a l0 a).f4).length q] 51 (0,0)) (by refine qd_ ?_;refine a0g (cs := #[.int .i64 ((a0a l0 a).f0), .int .i64 ((a0a l0 a).f1), .int .i64 ((a0a l0 a).f2), .slice j ((a0a l0 a).f3).length l, .slice none 0 0]) ?_ 4 _ rfl;refine qd_ ?_;refine a0g (cs := #[.int .i64 ((a0a l0 a).f0), .int .i64 ((a0a l0 a).f1), .int .i64 ((a0a l0 a).f2), .slice none 0 0, .slice none 0 0]) ?_ 3 _ rfl;refine qd_ ?_;refine a0g (cs := #[.int .i64 ((a0a l0 a).f0), .int .i64 ((a0a l0 a).f1), .int .i64 0, .slice none 0 0, .slice none 0 0]) ?_ 2 _ rfl;refine qd_ ?_;refine a0g (cs := #[.int .i64 ((a0a l0 a).f0), .int .i64 0, .int .i64 0, .slice none 0 0, .slice none 0 0]) ?_ 1 _ rfl;refine qd_ ?_;refine a0g (cs := #[.int .i64 0, .int .i64 0, .int .i64 0, .slice none 0 0, .slice none 0 0]) ?_ 0 _ rfl;refine qd_ ?_;exact m.out) hb);clear hb hbox hg;have bi := W.out;have bj := s.out;obtain ⟨aB,aC,aD⟩ := qz3_ B;obtain ⟨aE,aF,aG⟩ := qf3_ B;obtain ⟨aH,aI,aJ,aK,aL⟩ := qz5_ m;obtain ⟨aM,aN,aO,aP,aQ⟩ := qf5_ m) | (go_at_call 58;(with_reducible refine (a5o.calls ((a0a l0 a).f0) ((a0a l0 a).f1) ((a0a l0 a).f2) _ _ ((a0a l0 a).f3) _ _ ((a0a l0 a).f4) ((a0b l1 a).f0) ((a0b l1 a).f1) ((a0b l1 a).f2) false _ ?s1 a2.out ?s3 a4.out A9.out).mono ?_);(case s1 => exact Kd.a2s a1.out qb_);(case s3 => exact Kd.a2s a3.out qb_);rintro e bv ⟨rfl,hb⟩;replace m := am_ (a2g (g := b) (o := .cells #[.int .i64 ((a0a l0 a).f0), .int .i64 ((a0a l0 a).f1), .int .i64 ((a0a l0 a).f2), .slice j ((a0a l0 a).f3).length l, .slice n ((a0a l0 a).f4).length q] 51 (0,0)) (by refine qdj_ ?_ s;refine qdj_ ?_ s;refine qdj_ ?_ s;refine qd_ ?_;exact m.out) hb);replace B := am_ (a2g (g := T) (o := .cells #[.int .i64 ((a0b l1 a).f0), .int .i64 ((a0b l1 a).f1), .int .i64 ((a0b l1 a).f2)] 42 (0,0)) (by refine qd_ ?_;refine a0g (cs := #[.int .i64 ((a0b l1 a).f0), .int .i64 ((a0b l1 a).f1), .int .i64 0]) ?_ 2 _ rfl;refine qd_ ?_;refine a0g (cs := #[.int .i64 ((a0b l1 a).f0), .int .i64 0, .int .i64 0]) ?_ 1 _ rfl;refine qd_ ?_;refine a0g (cs := #[.int .i64 0, .int .i64 0, .int .i64 0]) ?_ 0 _ rfl;refine qd_ ?_;exact B.out) hb);replace HB := qbs_ hb;(try clear hb);(try clear aR);(try clear hk);(try clear hi)))
  go_ret
  exact ⟨qx_,qb_⟩
 subst c10
 replace H := qip_ H
 have H' := am_ H
 clear H
 have X : 0 ≤ (a : Int) := ot_
 have Y : a < (l0.length : Int) := ot_
 obtain ⟨aa,j,l,n,q,a5,D,E,G,J,K,L,M,O,P⟩ := a5j ai.out a X Y
 cases a5
 replace D := qh_ HB D
 replace E := qh_ HB E
 replace G := qh_ HB G
 replace J := qh_ HB J
 replace K := qh_ HB K
 have a1 := am_ M
 have a2 := am_ L
 clear M L
 have a3 := am_ P
 have a4 := am_ O
 clear P O
 replace X := eq_true X
 replace Y := eq_true Y
 go_wp2_with (first | ((with_reducible refine a0t (N := 8) rfl ?_);refine qev_ 8 #[.int .i64 0, .int .i64 0, .int .i64 0, .slice none 0 0, .slice none 0 0] 51 ?_;intro b hg bw hbox hb;have m := am_ (hbox);have z := qga_ hg;have ab := qga_ hg;replace HB := qbs_ hb;clear hb hbox hg;obtain ⟨aS,aT,aU,aV,aW⟩ := qz5_ m;obtain ⟨aX,aY,aZ,b0,b1⟩ := qf5_ m;have Z : 0 ≤ (a : Int) := ot_;have a0 : a < (l1.length : Int) := ot_;obtain ⟨A,a6,c,d,i⟩ := a4h aj.out a Z a0;cases a6;have t : A.block ≠ b := Nat.ne_of_lt (Nat.lt_of_lt_of_le (by have := World.block_lt_of_cell? _ _ c;first | rwa [add_block] at this | exact this) z.out);have u : A.block ≠ b := Nat.ne_of_lt (Nat.lt_of_lt_of_le (by have := World.block_lt_of_cell? _ _ c;first | rwa [add_block] at this | exact this) z.out);have v : A.block ≠ b := Nat.ne_of_lt (Nat.lt_of_lt_of_le (by have := World.block_lt_of_cell? _ _ c;first | rwa [add_block] at this | exact this) z.out);have x : A.block ≠ b := Nat.ne_of_lt (Nat.lt_of_lt_of_le (by have := World.block_lt_of_cell? _ _ c;first | rwa [add_block] at this | exact this) z.out);have y : A.block ≠ b := Nat.ne_of_lt (Nat.lt_of_lt_of_le (by have := World.block_lt_of_cell? _ _ c;first | rwa [add_block] at this | exact this) z.out);replace c := qh_ HB c;replace d := qh_ HB d;replace i := qh_ HB i;replace c := (cell_far (p := ⟨b,0,none⟩) (qn_ t) (.int .i64 ((a0a l0 a).f0))).trans c;replace d := (cell_far (p := ⟨b,0,none⟩) (qn_ t) (.int .i64 ((a0a l0 a).f0))).trans d;replace i := (cell_far (p := ⟨b,0,none⟩) (qn_ t) (.int .i64 ((a0a l0 a).f0))).trans i;replace c := (cell_far (p := ⟨b,1,none⟩) (qn_ u) (.int .i64 ((a0a l0 a).f1))).trans c;replace d := (cell_far (p := ⟨b,1,none⟩) (qn_ u) (.int .i64 ((a0a l0 a).f1))).trans d;replace i := (cell_far (p := ⟨b,1,none⟩) (qn_ u) (.int .i64 ((a0a l0 a).f1))).trans i;replace c := (cell_far (p := ⟨b,2,none⟩) (qn_ v) (.int .i64 ((a0a l0 a).f2))).trans c;replace d := (cell_far (p := ⟨b,2,none⟩) (qn_ v) (.int .i64 ((a0a l0 a).f2))).trans d;replace i := (cell_far (p := ⟨b,2,none⟩) (qn_ v) (.int .i64 ((a0a l0 a).f2))).trans i;replace c := (cell_far (p := ⟨b,3,none⟩) (qn_ x) (.slice j ((a0a l0 a).f3).length l)).trans c;replace d := (cell_far (p := ⟨b,3,none⟩) (qn_ x) (.slice j ((a0a l0 a).f3).length l)).trans d;replace i := (cell_far (p := ⟨b,3,none⟩) (qn_ x) (.slice j ((a0a l0 a).f3).length l)).trans i;replace c := (cell_far (p := ⟨b,4,none⟩) (qn_ y) (.slice n ((a0a l0 a).f4).length q)).trans c;replace d := (cell_far (p := ⟨b,4,none⟩) (qn_ y) (.slice n ((a0a l0 a).f4).length q)).trans d;replace i := (cell_far (p := ⟨b,4,none⟩) (qn_ y) (.slice n ((a0a l0 a).f4).length q)).trans i;clear t u v x y;replace Z := eq_true Z;replace a0 := eq_true a0) | ((with_reducible refine a0t (N := 9) rfl ?_);refine qev_ 9 #[.int .i64 0, .int .i64 0, .int .i64 0] 42 ?_;intro T hg bx hbox hb;have B := am_ (hbox);have ac := qga_ hg;have ad := qga_ hg;replace HB := qbs_ hb;have s := am_ ((by rw [hg];exact Nat.ne_of_lt (a3v (g := b) (o := .cells #[.int .i64 ((a0a l0 a).f0), .int .i64 ((a0a l0 a).f1), .int .i64 ((a0a l0 a).f2), .slice j ((a0a l0 a).f3).length l, .slice n ((a0a l0 a).f4).length q] 51 (0,0)) (by refine qd_ ?_;refine a0g (cs := #[.int .i64 ((a0a l0 a).f0), .int .i64 ((a0a l0 a).f1), .int .i64 ((a0a l0 a).f2), .slice j ((a0a l0 a).f3).length l, .slice none 0 0]) ?_ 4 _ rfl;refine qd_ ?_;refine a0g (cs := #[.int .i64 ((a0a l0 a).f0), .int .i64 ((a0a l0 a).f1), .int .i64 ((a0a l0 a).f2), .slice none 0 0, .slice none 0 0]) ?_ 3 _ rfl;refine qd_ ?_;refine a0g (cs := #[.int .i64 ((a0a l0 a).f0), .int .i64 ((a0a l0 a).f1), .int .i64 0, .slice none 0 0, .slice none 0 0]) ?_ 2 _ rfl;refine qd_ ?_;refine a0g (cs := #[.int .i64 ((a0a l0 a).f0), .int .i64 0, .int .i64 0, .slice none 0 0, .slice none 0 0]) ?_ 1 _ rfl;refine qd_ ?_;refine a0g (cs := #[.int .i64 0, .int .i64 0, .int .i64 0, .slice none 0 0, .slice none 0 0]) ?_ 0 _ rfl;refine qd_ ?_;exact m.out)) : b ≠ T));have W := am_ ((by rw [hg];exact Nat.ne_of_gt (a3v (g := b) (o := .cells #[.int .i64 ((a0a l0 a).f0), .int .i64 ((a0a l0 a).f1), .int .i64 ((a0a l0 a).f2), .slice j ((a0a l0 a).f3).length l, .slice n ((a0a l0 a).f4).length q] 51 (0,0)) (by refine qd_ ?_;refine a0g (cs := #[.int .i64 ((a0a l0 a).f0), .int .i64 ((a0a l0 a).f1), .int .i64 ((a0a l0 a).f2), .slice j ((a0a l0 a).f3).length l, .slice none 0 0]) ?_ 4 _ rfl;refine qd_ ?_;refine a0g (cs := #[.int .i64 ((a0a l0 a).f0), .int .i64 ((a0a l0 a).f1), .int .i64 ((a0a l0 a).f2), .slice none 0 0, .slice none 0 0]) ?_ 3 _ rfl;refine qd_ ?_;refine a0g (cs := #[.int .i64 ((a0a l0 a).f0), .int .i64 ((a0a l0 a).f1), .int .i64 0, .slice none 0 0, .slice none 0 0]) ?_ 2 _ rfl;refine qd_ ?_;refine a0g (cs := #[.int .i64 ((a0a l0 a).f0), .int .i64 0, .int .i64 0, .slice none 0 0, .slice none 0 0]) ?_ 1 _ rfl;refine qd_ ?_;refine a0g (cs := #[.int .i64 0, .int .i64 0, .int .i64 0, .slice none 0 0, .slice none 0 0]) ?_ 0 _ rfl;refine qd_ ?_;exact m.out)) : T ≠ b));replace m := am_ (a2g (g := b) (o := .cells #[.int .i64 ((a0a l0 a).f0), .int .i64 ((a0a l0 a).f1), .int .i64 ((a0a l0 a).f2), .slice j ((a0a l0 a).f3).length l, .slice n ((a0a l0 a).f4).length q] 51 (0,0)) (by refine qd_ ?_;refine a0g (cs := #[.int .i64 ((a0a l0 a).f0), .int .i64 ((a0a l0 a).f1), .int .i64 ((a0a l0 a).f2), .slice j ((a0a l0 a).f3).length l, .slice none 0 0]) ?_ 4 _ rfl;refine qd_ ?_;refine a0g (cs := #[.int .i64 ((a0a l0 a).f0), .int .i64 ((a0a l0 a).f1), .int .i64 ((a0a l0 a).f2), .slice none 0 0, .slice none 0 0]) ?_ 3 _ rfl;refine qd_ ?_;refine a0g (cs := #[.int .i64 ((a0a l0 a).f0), .int .i64 ((a0a l0 a).f1), .int .i64 0, .slice none 0 0, .slice none 0 0]) ?_ 2 _ rfl;refine qd_ ?_;refine a0g (cs := #[.int .i64 ((a0a l0 a).f0), .int .i64 0, .int .i64 0, .slice none 0 0, .slice none 0 0]) ?_ 1 _ rfl;refine qd_ ?_;refine a0g (cs := #[.int .i64 0, .int .i64 0, .int .i64 0, .slice none 0 0, .slice none 0 0]) ?_ 0 _ rfl;refine qd_ ?_;exact m.out) hb);clear hb hbox hg;have bk := W.out;have bl := s.out;obtain ⟨b2,b3,b4⟩ := qz3_ B;obtain ⟨b5,b6,b7⟩ := qf3_ B;obtain ⟨b8,b9,ba,bb,bc⟩ := qz5_ m;obtain ⟨bd,be,bf,bg,bh⟩ := qf5_ m) | (go_at_call 58;(with_reducible refine (a5o.calls ((a0a l0 a).f0) ((a0a l0 a).f1) ((a0a l0 a).f2) _ _ ((a0a l0 a).f3) _ _ ((a0a l0 a).f4) ((a0b l1 a).f0) ((a0b l1 a).f1) ((a0b l1 a).f2) true _ ?s1 a2.out ?s3 a4.out A9.out).mono ?_);(case s1 => exact Kd.a2s a1.out qb_);(case s3 => exact Kd.a2s a3.out qb_);rintro e bz ⟨rfl,hb⟩;replace m := am_ (a2g (g := b) (o := .cells #[.int .i64 ((a0a l0 a).f0), .int .i64 ((a0a l0 a).f1), .int .i64 ((a0a l0 a).f2), .slice j ((a0a l0 a).f3).length l, .slice n ((a0a l0 a).f4).length q] 51 (0,0)) (by refine qdj_ ?_ s;refine qdj_ ?_ s;refine qdj_ ?_ s;refine qd_ ?_;exact m.out) hb);replace B := am_ (a2g (g := T) (o := .cells #[.int .i64 ((a0b l1 a).f0), .int .i64 ((a0b l1 a).f1), .int .i64 ((a0b l1 a).f2)] 42 (0,0)) (by refine qd_ ?_;refine a0g (cs := #[.int .i64 ((a0b l1 a).f0), .int .i64 ((a0b l1 a).f1), .int .i64 0]) ?_ 2 _ rfl;refine qd_ ?_;refine a0g (cs := #[.int .i64 ((a0b l1 a).f0), .int .i64 0, .int .i64 0]) ?_ 1 _ rfl;refine qd_ ?_;refine a0g (cs := #[.int .i64 0, .int .i64 0, .int .i64 0]) ?_ 0 _ rfl;refine qd_ ?_;exact B.out) hb);replace HB := qbs_ hb;(try clear hb);(try clear aR);(try clear hk);(try clear hi)))
 go_roundg k1
 case measure => have := ak.out;omega
 case rel => exact ⟨(wrap64 (a + 1)),qs_,H',⟨by have := ak.out;omega⟩,⟨qb_⟩⟩
end Go.Proofs.Ytheibjkjmkanoaa.Px
