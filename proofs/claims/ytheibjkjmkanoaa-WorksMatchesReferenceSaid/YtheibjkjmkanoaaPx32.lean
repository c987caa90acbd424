/- Contracts of Go functions, printed. Conditions: as each theorem states. -/
import Derived.Test.YtheibjkjmkanoaaPx0
import Derived.Test.YtheibjkjmkanoaaPx21
import Derived.Test.YtheibjkjmkanoaaPx31
namespace Go.Proofs.Ytheibjkjmkanoaa.Px
open Go.Proofs.Ytheibjkjmkanoaa.Given
open Go.RowKit Go.Proofs.YtheibjkjmkanoaaW.PrintWords Go.Proofs.YtheibjkjmkanoaaW.PrintLast Go.Proofs.YtheibjkjmkanoaaW.PrintMore
attribute [local go_sem] a3r a3s a4b a4c a3f a3g a3t a3u
set_option linter.unusedVariables false
set_option linter.unusedSimpArgs false
def a1m.l0 : Nat → List Bool → List (S56) → Int → Option ((List (S56)) × Int)
 | 0,_,_,_ => none
 | k + 1,x0,x4,x5 => if x5 < (x0.length : Int) then (if 0 ≤ x5 then (if rdOf false x0 x5 = true then (if (x4.length : Int) > 0 then (if 0 ≤ (wrap64 ((x4.length : Int) - 1)) then (if (wrap64 ((x4.length : Int) - 1)) < (x4.length : Int) then (if ((a0f x4 (wrap64 ((x4.length : Int) - 1))).f1) = x5 then (a1m.l0 k x0 (x4.set ((wrap64 ((x4.length : Int) - 1)) : Int).toNat (⟨(a0f x4 (wrap64 ((x4.length : Int) - 1))).f0,wrap64 (x5 + 1)⟩ : S56)) (wrap64 (x5 + 1))) else (if x4.length < 8796093022208 then (a1m.l0 k x0 (x4 ++ [(⟨x5,wrap64 (x5 + 1)⟩ : S56)]) (wrap64 (x5 + 1))) else (none))) else (none)) else (none)) else (if x4.length < 8796093022208 then (a1m.l0 k x0 (x4 ++ [(⟨x5,wrap64 (x5 + 1)⟩ : S56)]) (wrap64 (x5 + 1))) else (none))) else (a1m.l0 k x0 x4 (wrap64 (x5 + 1)))) else (none)) else (if (x4.length : Int) > 1000 then (some (([] : List (S56)),2)) else (some (x4,0)))
def a1m.f (k : Nat) (l0 : List Bool) : Option ((List (S56)) × Int) := a1m.l0 k l0 ([] : List (S56)) 0
theorem a1m.a1u : ∀ k,(∀ y0 y1 y2,LeO (a1m.l0 k y0 y1 y2) (a1m.l0 (k + 1) y0 y1 y2))
 | 0 => fun _ _ _ r h => by simp [a1m.l0] at h
 | k + 1 => by
  have a := a1m.a1u k
  intro y0 y1 y2
  unfold a1m.l0
  with_reducible (repeat' first | apply a | apply LeO.refl | apply LeO.none | apply LeO.ite | refine LeO.bind ?_ (fun _ => ?_))
theorem a1m.mono : ∀ a0 k,LeO (a1m.f k a0) (a1m.f (k + 1) a0) := by
 intro a0 k
 have a := a1m.a1u k
 unfold a1m.f
 with_reducible (repeat' first | apply a | apply LeO.refl | apply LeO.none | apply LeO.ite | refine LeO.bind ?_ (fun _ => ?_))
set_option maxHeartbeats 8000000 in
set_option maxRecDepth 100000 in
theorem a1m.calls (k : Nat) (A0 : Option Addr) (c0 : Nat) (l0 : List Bool) (r1 : List (S56)) (r2 : Int) (w : World) (au : Kd.C Kd.bool w A0 l0.length l0) (av : l0.length ≤ c0) (h : a1m.f k l0 = some (r1,r2)) :
  Calls Try.prog 73 #[.slice A0 l0.length c0] w fun e w' => ∃ aw : Value,e = .returned (.tuple #[aw, .int .i64 r2]) ∧ Kd.R k56 56 w' w.heap.size (fun _ => True) aw r1 ∧ Below w.heap.size w w' := by
 have aV := Try.underlying56
 have T := am_ au
 have bc := am_ av
 clear au av
 have HB := am_ (Below.refl w.heap.size w)
 have H : (a1m.l0 k l0 ([] : List (S56)) 0) = some (r1,r2) := h
 clear h
 have H' := am_ H
 clear H
 go_enter Try.func73,Try.ntmps73
 go_wp2
 go_loopg [4,5] k (fun kq v4 v5 w' => ∃ (c : List (S56)) (a : Int),v5 = .int .i64 a ∧ Aside0 (a1m.l0 kq l0 c a = some (r1,r2)) ∧ Aside0 (kq ≤ k) ∧ Aside0 (Kd.R k56 56 w' w.heap.size (fun _ => True) v4 c) ∧ Aside0 (Below w.heap.size w w'))
 case atStart => exact ⟨(([] : List (S56))),(0),qs_,H',⟨Nat.le_refl _⟩,⟨by first | exact Kd.a5p _ _ _ _ _ | exact Kd.N_nil _ _ _ _ _ | exact Kd.a5r _ _ _ _ _ | exact Kd.Q_nil _ _ _ _ _ | exact Kd.S_nil _ _ _ _ _⟩,⟨qb_⟩⟩
 case round =>
 clear H'
 obtain ⟨c,a,rfl,HA,y,HO_4,HB⟩ := hrel
 cases gk with
 | zero => exact absurd HA.out (by simp [a1m.l0])
 | succ k1 =>
 have H := HA.out
 clear HA
 simp only [a1m.l0] at H
 by_cases c2 : a < (l0.length : Int)
 rotate_left
 ·rw [if_neg c2] at H
  have ay : decide (a < (l0.length : Int)) = false := decide_eq_false c2
  clear c2
  by_cases z : (c.length : Int) > 1000
  rotate_left
  ·rw [if_neg z] at H
   have ag : decide (1000 < (c.length : Int)) = false := decide_eq_false z
   have ah : decide (1000 < c.length) = false := decide_eq_false (by omega)
   clear z
   simp only [Option.some.injEq,Prod.mk.injEq] at H
   obtain ⟨rfl,rfl⟩ := H
   obtain ⟨aW,aX,az⟩ := Kd.a2v HO_4.out
   subst az
   go_wp2
   go_ret2
   exact ⟨_,qx_,by (with_reducible repeat (first | apply Kd.a2a | apply Kd.a2b | apply Kd.a2f));exact HO_4.out,qb_⟩
  rw [if_pos z] at H
  have ag : decide (1000 < (c.length : Int)) = true := decide_eq_true z
  have ah : decide (1000 < c.length) = true := decide_eq_true (by omega)
  clear z
  simp only [Option.some.injEq,Prod.mk.injEq] at H
  obtain ⟨rfl,rfl⟩ := H
  obtain ⟨aY,aZ,aA⟩ := Kd.a2v HO_4.out
  subst aA
  go_wp2
  go_ret2
  exact ⟨_,qx_,by first | exact Kd.a5p _ _ _ _ _ | exact Kd.N_nil _ _ _ _ _ | exact Kd.a5r _ _ _ _ _ | exact Kd.Q_nil _ _ _ _ _ | exact Kd.S_nil _ _ _ _ _,qb_⟩
 rw [if_pos c2] at H
 have ay : decide (a < (l0.length : Int)) = true := decide_eq_true c2
 clear c2
 obtain ⟨b0,H⟩ := qid_ H
 obtain ⟨ax,K⟩ : ∃ b_ : Bool,b_ = (rdOf false l0 a) := ⟨_,rfl⟩
 replace H : (if ax = true then (if (c.length : Int) > 0 then (if 0 ≤ (wrap64 ((c.length : Int) - 1)) then (if (wrap64 ((c.length : Int) - 1)) < (c.length : Int) then (if ((a0f c (wrap64 ((c.length : Int) - 1))).f1) = a then (a1m.l0 k1 l0 (c.set ((wrap64 ((c.length : Int) - 1)) : Int).toNat (⟨(a0f c (wrap64 ((c.length : Int) - 1))).f0,wrap64 (a + 1)⟩ : S56)) (wrap64 (a + 1))) else (if c.length < 8796093022208 then (a1m.l0 k1 l0 (c ++ [(⟨a,wrap64 (a + 1)⟩ : S56)]) (wrap64 (a + 1))) else (none))) else (none)) else (none)) else (if c.length < 8796093022208 then (a1m.l0 k1 l0 (c ++ [(⟨a,wrap64 (a + 1)⟩ : S56)]) (wrap64 (a + 1))) else (none))) else (a1m.l0 k1 l0 c (wrap64 (a + 1)))) = some (r1,r2) := by rw [← K] at H;exact H
 have D := am_ K
 clear K
 by_cases c5 : ax = true
 rotate_left
 ·replace c5 := be_ c5
  subst c5
  replace H := qin_ H
  have H' := am_ H
  clear H
  have i : 0 ≤ (a : Int) := ot_
  have l : a < (l0.length : Int) := ot_
  obtain ⟨E,o,d⟩ := Kd.b1v T.out a i l
  (try rw [← D.out] at d)
  cases o
  replace d := qh_ HB d
  replace i := eq_true i
  replace l := eq_true l
  go_wp2
  go_roundg k1
  case measure => have := y.out;omega
  case rel => exact ⟨(c),(wrap64 (a + 1)),qs_,H',⟨by have := y.out;omega⟩,⟨by (with_reducible repeat (first | apply Kd.a2a | apply Kd.a2b | apply Kd.a2f));exact HO_4.out⟩,⟨qb_⟩⟩
 subst c5
 replace H := qip_ H
 by_cases c6 : (c.length : Int) > 0
 rotate_left
 ·rw [if_neg c6] at H
  have aC : decide (0 < (c.length : Int)) = false := decide_eq_false c6
  have aD : decide (0 < c.length) = false := decide_eq_false (by omega)
  clear c6
  by_cases U : c.length < 8796093022208
  rotate_left
  ·rw [if_neg U] at H
   exact absurd H (by simp)
  rw [if_pos U] at H
  have ai := am_ U
  clear U
  obtain ⟨a2,s⟩ : ∃ y_ : List (S56),y_ = (c ++ [(⟨a,wrap64 (a + 1)⟩ : S56)]) := ⟨_,rfl⟩
  replace H : (a1m.l0 k1 l0 a2 (wrap64 (a + 1))) = some (r1,r2) := by first | (rw [s];with_reducible exact H) | (have m := (Option.bind_some _ _).symm.trans H;rw [s];with_reducible exact m) | (have m := (Option.bind_some _ _).symm.trans H;with_reducible exact m) | with_reducible exact H | (rw [s];exact H) | exact H
  have aj := am_ s
  clear s
  have H' := am_ H
  clear H
  have i : 0 ≤ (a : Int) := ot_
  have l : a < (l0.length : Int) := ot_
  obtain ⟨E,o,d⟩ := Kd.b1v T.out a i l
  (try rw [← D.out] at d)
  cases o
  replace d := qh_ HB d
  replace i := eq_true i
  replace l := eq_true l
  obtain ⟨aE,aG,aH⟩ := Kd.a2v HO_4.out
  subst aH
  go_wp2_with (first | ((with_reducible refine a6p (b := .append) (xs := #[.tmp 39, .tmp 44]) rfl ?_);(try (refine a4d (by rfl) ?_;dsimp only));at_builtin;refine Kd.a8b k56 (w0 := w) w.heap.size rfl (.tmp 39) (.tmp 44) 34 56 (.agg #[(.int .i64 0),(.int .i64 0)]) 16 rfl Try.underlying34 a9h rfl (by decide) (by omega) (.slice aE c.length aG) c (⟨a,wrap64 (a + 1)⟩ : S56) [.int .i64 a, .int .i64 (wrap64 (a + 1))] (fun _ => True) (fun _ => False) rfl rfl ?aP (fun _ hk => hk.elim) ?aF ?aO ?aB ?aS ?aL ?_;(case aP => exact a5y _ _ _ (⟨a,wrap64 (a + 1)⟩ : S56));(case aB => exact qb_);(case aF => exact (fun _ _ => trivial));(case aO => exact (qr_ HO_4));(case aS => exact (a0w qb_));(case aL => have := ai.out;omega);intro b1 bd ho hb hg hat;rw [← aj.out] at ho;replace HB := am_ (hb);have ak := am_ (ho);clear HO_4 ho hb hg hat))
  go_roundg k1
  case measure => have := y.out;omega
  case rel => exact ⟨(a2),(wrap64 (a + 1)),qs_,H',⟨by have := y.out;omega⟩,⟨by (with_reducible repeat (first | apply Kd.a2a | apply Kd.a2b | apply Kd.a2f));exact ak.out⟩,⟨qb_⟩⟩
 rw [if_pos c6] at H
 have aC : decide (0 < (c.length : Int)) = true := decide_eq_true c6
 have aD : decide (0 < c.length) = true := decide_eq_true (by omega)
 clear c6
 obtain ⟨g,L⟩ : ∃ j_ : Int,(wrap64 ((c.length : Int) - 1)) = j_ := ⟨_,rfl⟩
 replace H : (if 0 ≤ (g) then (if (g) < (c.length : Int) then (if ((a0f c (g)).f1) = a then (a1m.l0 k1 l0 (c.set ((g) : Int).toNat (⟨(a0f c (g)).f0,wrap64 (a + 1)⟩ : S56)) (wrap64 (a + 1))) else (if c.length < 8796093022208 then (a1m.l0 k1 l0 (c ++ [(⟨a,wrap64 (a + 1)⟩ : S56)]) (wrap64 (a + 1))) else (none))) else (none)) else (none)) = some (r1,r2) := by first | (rw [L] at H;exact H) | (simp only [L] at H ⊢;exact H)
 have hji7w : (IntKind.i64.wrap ((c.length : Int) - 1)) = g := (a3x _).trans L
 obtain ⟨b2,H⟩ := qid_ H
 obtain ⟨b3,H⟩ := qid_ H
 by_cases c10 : ((a0f c (g)).f1) = a
 rotate_left
 ·rw [if_neg c10] at H
  have al : (((a0f c (g)).f1) == a) = false := beq_eq_false_iff_ne.mpr c10
  have am : (((a0f c (g)).f1) != a) = true := bne_iff_ne.mpr c10
  by_cases W : c.length < 8796093022208
  rotate_left
  ·rw [if_neg W] at H
   exact absurd H (by simp)
  rw [if_pos W] at H
  have an := am_ W
  clear W
  obtain ⟨a3,u⟩ : ∃ y_ : List (S56),y_ = (c ++ [(⟨a,wrap64 (a + 1)⟩ : S56)]) := ⟨_,rfl⟩
  replace H : (a1m.l0 k1 l0 a3 (wrap64 (a + 1))) = some (r1,r2) := by first | (rw [u];with_reducible exact H) | (have m := (Option.bind_some _ _).symm.trans H;rw [u];with_reducible exact m) | (have m := (Option.bind_some _ _).symm.trans H;with_reducible exact m) | with_reducible exact H | (rw [u];exact H) | exact H
  have ao := am_ u
  clear u
  have H' := am_ H
  clear H
  have i : 0 ≤ (a : Int) := ot_
  have l : a < (l0.length : Int) := ot_
  obtain ⟨E,o,d⟩ := Kd.b1v T.out a i l
  (try rw [← D.out] at d)
  cases o
  replace d := qh_ HB d
  replace i := eq_true i
  replace l := eq_true l
  obtain ⟨b4,aI,aJ⟩ := Kd.a2v HO_4.out
  subst aJ
  have q : 0 ≤ ((g) : Int) := ot_
  have r : (g) < (c.length : Int) := ot_
  obtain ⟨X,M,A,B⟩ := a4k (Kd.a1b HO_4.out).2.2 (g) q r
  cases M
  replace q := eq_true q
  replace r := eq_true r
  go_wp2_with (first | ((with_reducible refine a6p (b := .append) (xs := #[.tmp 39, .tmp 44]) rfl ?_);(try (refine a4d (by rfl) ?_;dsimp only));at_builtin;refine Kd.a8b k56 (w0 := w) w.heap.size rfl (.tmp 39) (.tmp 44) 34 56 (.agg #[(.int .i64 0),(.int .i64 0)]) 16 rfl Try.underlying34 a9h rfl (by decide) (by omega) (.slice (some X) c.length aI) c (⟨a,wrap64 (a + 1)⟩ : S56) [.int .i64 a, .int .i64 (wrap64 (a + 1))] (fun _ => True) (fun _ => False) rfl rfl ?aP (fun _ hk => hk.elim) ?aF ?aO ?aB ?aS ?aL ?_;(case aP => exact a5y _ _ _ (⟨a,wrap64 (a + 1)⟩ : S56));(case aB => exact qb_);(case aF => exact (fun _ _ => trivial));(case aO => exact (qr_ HO_4));(case aS => exact (a0w qb_));(case aL => have := an.out;omega);intro b5 be ho hb hg hat;rw [← ao.out] at ho;replace HB := am_ (hb);have ap := am_ (ho);clear HO_4 ho hb hg hat))
  go_roundg k1
  case measure => have := y.out;omega
  case rel => exact ⟨(a3),(wrap64 (a + 1)),qs_,H',⟨by have := y.out;omega⟩,⟨by (with_reducible repeat (first | apply Kd.a2a | apply Kd.a2b | apply Kd.a2f));exact ap.out⟩,⟨qb_⟩⟩
 rw [if_pos c10] at H
 have al : (((a0f c (g)).f1) == a) = true := beq_iff_eq.mpr c10
 have am : (((a0f c (g)).f1) != a) = false := bne_eq_false_iff_eq.mpr c10
 clear c10
 obtain ⟨O,x⟩ : ∃ y_ : List (S56),y_ = (c.set ((g) : Int).toNat (⟨(a0f c (g)).f0,wrap64 (a + 1)⟩ : S56)) := ⟨_,rfl⟩
 replace H : (a1m.l0 k1 l0 O (wrap64 (a + 1))) = some (r1,r2) := by first | (rw [x];with_reducible exact H) | (have m := (Option.bind_some _ _).symm.trans H;rw [x];with_reducible exact m) | (have m := (Option.bind_some _ _).symm.trans H;with_reducible exact m) | with_reducible exact H | (rw [x];exact H) | exact H
 have aq := am_ x
 clear x
 have H' := am_ H
 clear H
 have i : 0 ≤ (a : Int) := ot_
 have l : a < (l0.length : Int) := ot_
 obtain ⟨E,o,d⟩ := Kd.b1v T.out a i l
 (try rw [← D.out] at d)
 cases o
 replace d := qh_ HB d
 replace i := eq_true i
 replace l := eq_true l
 obtain ⟨b6,a4,aK⟩ := Kd.a2v HO_4.out
 subst aK
 have q : 0 ≤ ((g) : Int) := ot_
 have r : (g) < (c.length : Int) := ot_
 obtain ⟨X,M,A,B⟩ := a4k (Kd.a1b HO_4.out).2.2 (g) q r
 cases M
 replace q := eq_true q
 replace r := eq_true r
 have a5 : 0 ≤ ((g) : Int) := ot_
 have a6 : ((g) : Int) < ((c.length : Int) : Int) := ot_
 obtain ⟨n,b7,a7,a8,aM,b8,a9⟩ := Kd.a8n HO_4.out (by omega)
 (first | cases a7 | (injection a7 with ea_ en_ ec_;(first | subst ea_ | (injection ea_ with ea_;subst ea_));subst ec_;clear en_))
 have aN := am_ a8
 have b9 := am_ a9
 clear a8 aM a9
 (first | simp only [add_plain] at A | skip)
 (first | simp only [add_plain] at B | skip)
 obtain ⟨ba,ar,aa,G,I⟩ := Kd.a6k HO_4.out z56 ((g) : Int) a5 a6
 obtain rfl := a8p aa
 have aQ : wr.cell? ⟨n,((g) : Int).toNat * 2,none⟩ = some (.int .i64 ((a0f c (g)).f0)) := G 0 _ rfl
 have aR : wr.cell? ⟨n,((g) : Int).toNat * 2 + 1,none⟩ = some (.int .i64 ((a0f c (g)).f1)) := G 1 _ rfl
 have aT : wr.frozen? ⟨n,((g) : Int).toNat * 2,none⟩ = false := I 0
 have aU : wr.frozen? ⟨n,((g) : Int).toNat * 2 + 1,none⟩ = false := I 1
 clear ar G I aa
 replace a5 := eq_true a5
 replace a6 := eq_true a6
 have ab := am_ (show Kd.R k56 56 wr w.heap.size (fun _ => True) (.slice (some ⟨n,0,none⟩) c.length a4) c from (qr_ HO_4))
 obtain ⟨bb,a0,ac,J,a1⟩ := Kd.a6k ab.out z56 ((g) : Int) (ot_) (by have h_ : ((g) : Int) < ((c.length : Int) : Int) := ot_;first | exact h_ | (have e_ := (Kd.a1b HO_4.out).1;omega) | simpa using h_)
 obtain rfl := a8p ac
 have P := Kd.b0l ab.out ((g) : Int) (ot_) (by have h_ : ((g) : Int) < ((c.length : Int) : Int) := ot_;first | exact h_ | (have e_ := (Kd.a1b HO_4.out).1;omega) | simpa using h_) (seg := [.int .i64 (wrap64 (a + 1))]) (j := 1) a0 J (show 2 ≤ 2 from by decide) (x' := (⟨(a0f c (g)).f0,wrap64 (a + 1)⟩ : S56)) (a5y _ _ _ (⟨(a0f c (g)).f0,wrap64 (a + 1)⟩ : S56) ) (fun _ hk => hk)
 have ad := J 1 _ rfl
 (try simp only [show (k56).sz = 2 from rfl,Nat.mul_one,Nat.add_zero] at ad)
 have ae := a1 1
 (try simp only [show (k56).sz = 2 from rfl,Nat.mul_one,Nat.add_zero] at ae)
 clear a0 J a1 ac
 go_wp2_with (first | ((with_reducible refine a5g (t := 3) (p := 38) rfl ?_);refine a4w (t := 3) (p := 38) (v := ?vo_w14) (w1 := (wr.setCell ⟨n,((g) : Int).toNat * 2 + 1,none⟩ (.int .i64 (wrap64 (a + 1))))) ?hg ?ho ?hn ?hr ?_;(case ho => rfl);(case hg => rfl);(case hn => rfl);(case hr => exact qq_);intro af hw;have hg : wr.grownBy af (some n) := (by rw [hw];exact P.2);have hp_ : Kd.R k56 56 af w.heap.size (fun _ => True) (.slice (some ⟨n,0,none⟩) c.length a4) O := (by rw [hw,aq.out];exact P.1);clear P;replace HO_4 := am_ (hp_);replace HB := am_ ((by rw [hw];exact ls_ (HB.out) aN.out : Below w.heap.size w af));clear hg hw hp_))
 go_roundg k1
 case measure => have := y.out;omega
 case rel => exact ⟨(O),(wrap64 (a + 1)),qs_,H',⟨by have := y.out;omega⟩,⟨by (with_reducible repeat (first | apply Kd.a2a | apply Kd.a2b | apply Kd.a2f));exact HO_4.out⟩,⟨qb_⟩⟩
def a2d.l0 : Nat → List (S56) → Int → Option ((List (S56)) × Int)
 | 0,_,_ => none
 | k + 1,x0,x4 => if x4 < (x0.length : Int) then (if 0 ≤ x4 then ((a3c.f ((a0f x0 x4).f0) ((a0f x0 x4).f1)).bind fun b => (if b = true then (a2d.l0 k x0 (wrap64 (x4 + 1))) else (some (([] : List (S56)),1)))) else (none)) else ((a1h.f k x0).bind fun c => ((a1m.f k c).bind fun a => (some (a.1,a.2))))
def a2d.f (k : Nat) (l0 : List (S56)) : Option ((List (S56)) × Int) := a2d.l0 k l0 0
theorem a2d.a1u : ∀ k,(∀ y0 y1,LeO (a2d.l0 k y0 y1) (a2d.l0 (k + 1) y0 y1))
 | 0 => fun _ _ r h => by simp [a2d.l0] at h
 | k + 1 => by
  have a := a2d.a1u k
  intro y0 y1
  unfold a2d.l0
  with_reducible (repeat' first | apply a | apply a1h.mono | apply a1m.mono | apply LeO.refl | apply LeO.none | apply LeO.ite | refine LeO.bind ?_ (fun _ => ?_))
theorem a2d.mono : ∀ a0 k,LeO (a2d.f k a0) (a2d.f (k + 1) a0) := by
 intro a0 k
 have a := a2d.a1u k
 unfold a2d.f
 with_reducible (repeat' first | apply a | apply a1h.mono | apply a1m.mono | apply LeO.refl | apply LeO.none | apply LeO.ite | refine LeO.bind ?_ (fun _ => ?_))
set_option maxHeartbeats 8000000 in
set_option maxRecDepth 100000 in
theorem a2d.calls (k : Nat) (A0 : Option Addr) (c0 : Nat) (l0 r1 : List (S56)) (r2 : Int) (w : World) (t : Kd.C k56 w A0 l0.length l0) (u : l0.length ≤ c0) (h : a2d.f k l0 = some (r1,r2)) :
  Calls Try.prog 53 #[.slice A0 l0.length c0] w fun e w' => ∃ v : Value,e = .returned (.tuple #[v, .int .i64 r2]) ∧ Kd.R k56 56 w' w.heap.size (fun _ => True) v r1 ∧ Below w.heap.size w w' := by
 have K := Try.underlying56
 have n := am_ t
 have J := am_ u
 clear t u
 have HB := am_ (Below.refl w.heap.size w)
 have H : (a2d.l0 k l0 0) = some (r1,r2) := h
 clear h
 have H' := am_ H
 clear H
 go_enter Try.func53,Try.ntmps53
 go_wp2
 go_loopg [4] k (fun kq v4 w' => ∃ (a : Int),v4 = .int .i64 a ∧ Aside0 (a2d.l0 kq l0 a = some (r1,r2)) ∧ Aside0 (kq ≤ k) ∧ Aside0 (Below w.heap.size w w'))
 case atStart => exact ⟨(0),qs_,H',⟨Nat.le_refl _⟩,⟨qb_⟩⟩
 case round =>
 clear H'
 obtain ⟨a,rfl,HA,x,HB⟩ := hrel
 cases gk with
 | zero => exact absurd HA.out (by simp [a2d.l0])
 | succ k1 =>
 have H := HA.out
 clear HA
 simp only [a2d.l0] at H
 by_cases c2 : a < (l0.length : Int)
 rotate_left
 ·rw [if_neg c2] at H
  have B : decide (a < (l0.length : Int)) = false := decide_eq_false c2
  clear c2
  replace H := bm_ H
  obtain ⟨l,y,H⟩ := H
  have A8 := am_ y
  clear y
  replace H := bm_ H
  obtain ⟨⟨o,p⟩,z,H⟩ := H
  replace H : (some (o,p)) = some (r1,r2) := H
  have A9 := am_ z
  clear z
  simp only [Option.some.injEq,Prod.mk.injEq] at H
  obtain ⟨rfl,rfl⟩ := H
  go_wp2_with (first | ((with_reducible refine a0k (f := 74) rfl ?_);refine a1n (some 23) rfl rfl Try.func74 (by kernel_rfl) rfl #[.slice A0 l0.length c0] rfl ql_ ?_;(with_reducible refine (a1h.calls k1 _ _ l0 l _ ?s1 J.out A8.out).mono ?_);(case s1 => exact qc_ n);rintro e P ⟨L,rfl,j,hb⟩;refine ⟨_,rfl,?_⟩;have i := am_ (Kd.a3d j (a0w qb_));replace HB := qbs_ hb;(try clear hb);(try clear q);(try clear hk);(try clear hi);(try clear j);obtain ⟨D,E,G⟩ := Kd.a2v i.out;subst G) | ((with_reducible refine a0k (f := 73) rfl ?_);refine a1n (some 24) rfl rfl Try.func73 (by kernel_rfl) rfl #[.slice D l.length E] rfl ql_ ?_;(with_reducible refine (a1m.calls k1 _ _ l o p _ ?s1 ?s2 A9.out).mono ?_);(case s1 => exact qv_ (Kd.a1b i.out).2.2);(case s2 => exact (Kd.a1b i.out).2.1);rintro e T ⟨M,rfl,j,hb⟩;refine ⟨_,rfl,?_⟩;replace i := qrb_ i hb;have r := am_ (Kd.a3d j (a0w qb_));replace HB := qbs_ hb;(try clear hb);(try clear q);(try clear hk);(try clear hi);(try clear j)))
  go_ret2
  exact ⟨_,qx_,by (with_reducible repeat (first | apply Kd.a2a | apply Kd.a2b | apply Kd.a2f));exact r.out,qb_⟩
 rw [if_pos c2] at H
 have B : decide (a < (l0.length : Int)) = true := decide_eq_true c2
 clear c2
 obtain ⟨O,H⟩ := qid_ H
 replace H := bm_ H
 obtain ⟨I,A,H⟩ := H
 have A4 := am_ A
 clear A
 by_cases c5 : I = true
 ·subst c5
  replace H := qip_ H
  have H' := am_ H
  clear H
  have d : 0 ≤ (a : Int) := ot_
  have g : a < (l0.length : Int) := ot_
  obtain ⟨s,m,b,c⟩ := a4k n.out a d g
  cases m
  replace b := qh_ HB b
  replace c := qh_ HB c
  replace d := eq_true d
  replace g := eq_true g
  go_wp2_with (first | ((with_reducible refine a0k (f := 51) rfl ?_);refine a1n (some 18) rfl rfl Try.func51 (by kernel_rfl) rfl #[.agg #[.int .i64 ((a0f l0 a).f0), .int .i64 ((a0f l0 a).f1)]] rfl ql_ ?_;(with_reducible refine (a3c.calls ((a0f l0 a).f0) ((a0f l0 a).f1) true _ A4.out).mono ?_);rintro e w6 ⟨rfl,hb⟩;refine ⟨_,rfl,?_⟩;replace HB := qbs_ hb;(try clear hb);(try clear q);(try clear hk);(try clear hi)))
  go_roundg k1
  case measure => have := x.out;omega
  case rel => exact ⟨(wrap64 (a + 1)),qs_,H',⟨by have := x.out;omega⟩,⟨qb_⟩⟩
 replace c5 := be_ c5
 subst c5
 replace H := qin_ H
 simp only [Option.some.injEq,Prod.mk.injEq] at H
 obtain ⟨rfl,rfl⟩ := H
 have d : 0 ≤ (a : Int) := ot_
 have g : a < (l0.length : Int) := ot_
 obtain ⟨s,m,b,c⟩ := a4k n.out a d g
 cases m
 replace b := qh_ HB b
 replace c := qh_ HB c
 replace d := eq_true d
 replace g := eq_true g
 go_wp2_with (first | ((with_reducible refine a0k (f := 51) rfl ?_);refine a1n (some 18) rfl rfl Try.func51 (by kernel_rfl) rfl #[.agg #[.int .i64 ((a0f l0 a).f0), .int .i64 ((a0f l0 a).f1)]] rfl ql_ ?_;(with_reducible refine (a3c.calls ((a0f l0 a).f0) ((a0f l0 a).f1) false _ A4.out).mono ?_);rintro e w7 ⟨rfl,hb⟩;refine ⟨_,rfl,?_⟩;replace HB := qbs_ hb;(try clear hb);(try clear q);(try clear hk);(try clear hi)))
 go_ret2
 exact ⟨_,qx_,by first | exact Kd.a5p _ _ _ _ _ | exact Kd.N_nil _ _ _ _ _ | exact Kd.a5r _ _ _ _ _ | exact Kd.Q_nil _ _ _ _ _ | exact Kd.S_nil _ _ _ _ _,qb_⟩
end Go.Proofs.Ytheibjkjmkanoaa.Px
