/- Contracts of Go functions, printed. Conditions: as each theorem states. -/
import Derived.Test.YtfbgkcadnmcakaaPx0
import Derived.Test.YtfbgkcadnmcakaaPx12
namespace Go.Proofs.Ytfbgkcadnmcakaa.Px
open Go.Proofs.Ytfbgkcadnmcakaa.Given
open Go.RowKit Go.Proofs.YtfbgkcadnmcakaaW.PrintWords Go.Proofs.YtfbgkcadnmcakaaW.PrintLast Go.Proofs.YtfbgkcadnmcakaaW.PrintMore
attribute [local go_sem] a2s a2q a3b a2z a2m a2n a2t a2u
set_option linter.unusedVariables false
set_option linter.unusedSimpArgs false
def a0g.l0 : Nat → Int → Bool → List Int → Int → Int → Int → Int → Int → Int → Int → Int → Option (Bool × Bool)
 | 0, _, _, _, _, _, _, _, _, _, _, _ => none
 | k + 1, x10, x11, x25, x26, x27, u0, u1, u2, u3, u4, u5 => if x27 < x26 then (if 0 ≤ x27 then (if x27 < (x25.length : Int) then (if x11 = true then (a0g.l0 k x10 true x25 x26 (wrap64 (x27 + 1)) u0 u1 u2 u3 u4 u5) else (a0g.l0 k x10 ((rd x25 x27) == u0) x25 x26 (wrap64 (x27 + 1)) u0 u1 u2 u3 u4 u5)) else (none)) else (none)) else (some (x11, (x10 == 0)))
def a0g.f (k : Nat) (l0 : List (S26)) (a1 : Int) (l2 : List (S30)) (a3_0 a3_1 a3_2 a3_3 a3_4 a3_5 a4 : Int) : Option (Bool × Bool) := (a0i.f k l2 l0 a1 (([a3_1] : List Int)) a4).bind fun bt494 => (a0g.l0 k bt494.2 false bt494.1 (bt494.1.length : Int) 0 a3_0 a3_1 a3_2 a3_3 a3_4 a3_5)
theorem a0g.a1o : ∀ k, (∀ y0 y1 y2 y3 y4 y5 y6 y7 y8 y9 y10, LeO (a0g.l0 k y0 y1 y2 y3 y4 y5 y6 y7 y8 y9 y10) (a0g.l0 (k + 1) y0 y1 y2 y3 y4 y5 y6 y7 y8 y9 y10))
 | 0 => fun _ _ _ _ _ _ _ _ _ _ _ r h => by simp [a0g.l0] at h
 | k + 1 => by
  have ih0 := a0g.a1o k
  ·intro y0 y1 y2 y3 y4 y5 y6 y7 y8 y9 y10
   unfold a0g.l0
   with_reducible (repeat' first | apply ih0 | apply a0i.mono | apply LeO.refl | apply LeO.none | apply LeO.ite | refine LeO.bind ?_ (fun _ => ?_))
theorem a0g.mono : ∀ a0 a1 a2 a3 a4 a5 a6 a7 a8 a9 k, LeO (a0g.f k a0 a1 a2 a3 a4 a5 a6 a7 a8 a9) (a0g.f (k + 1) a0 a1 a2 a3 a4 a5 a6 a7 a8 a9) := by
 intro a0 a1 a2 a3 a4 a5 a6 a7 a8 a9 k
 have ih0 := a0g.a1o k
 unfold a0g.f
 with_reducible (repeat' first | apply ih0 | apply a0i.mono | apply LeO.refl | apply LeO.none | apply LeO.ite | refine LeO.bind ?_ (fun _ => ?_))
set_option maxHeartbeats 8000000 in
set_option maxRecDepth 100000 in
theorem a0g.calls (k : Nat) (A0 : Option Addr) (c0 : Nat) (l0 : List (S26)) (a1 : Int) (gq2 : Nat) (A2 : Option Addr) (c2 : Nat) (l2 : List (S30)) (gq3 : Nat) (a3_0 a3_1 a3_2 a3_3 a3_4 a3_5 : Int) (gq4 : Nat) (a4 : Int) (r1 r2 : Bool) (w : World) (hr0 : Kd.C k26 w A0 l0.length l0) (hc0 : l0.length ≤ c0) (hr2 : Kd.C k30 w A2 l2.length l2) (hc2 : l2.length ≤ c2) (hq2 : w.heap[gq2]? = some (.cells #[.slice A2 l2.length c2] 22 (0, 0))) (hq3 : w.heap[gq3]? = some (.cells #[.int .i64 a3_0, .int .i64 a3_1, .int .i64 a3_2, .int .i64 a3_3, .int .i64 a3_4, .int .i64 a3_5] 30 (0, 0))) (hq4 : w.heap[gq4]? = some (.cells #[.int .i64 a4] 3 (0, 0))) (hn2_3 : gq2 ≠ gq3) (hn2_4 : gq2 ≠ gq4) (hn3_4 : gq3 ≠ gq4) (h : a0g.f k l0 a1 l2 a3_0 a3_1 a3_2 a3_3 a3_4 a3_5 a4 = some (r1, r2)) :
  Calls Try.prog 10 #[.slice A0 l0.length c0, .int .i64 a1, .pointer (some ⟨gq2, 0, none⟩), .pointer (some ⟨gq3, 0, none⟩), .pointer (some ⟨gq4, 0, none⟩)] w fun e w' => e = .returned (.tuple #[.bool r1, .bool r2]) ∧ Below w.heap.size w w' := by
 have HR0 := am_ hr0
 have HC0 := am_ hc0
 clear hr0 hc0
 have HR2 := am_ hr2
 have HC2 := am_ hc2
 clear hr2 hc2
 have BK488 := am_ hq2
 clear hq2
 have BK489 := am_ hq3
 clear hq3
 have BK490 := am_ hq4
 clear hq4
 have NB488_489 := am_ hn2_3
 have NB489_488 := am_ hn2_3.symm
 clear hn2_3
 have NB488_490 := am_ hn2_4
 have NB490_488 := am_ hn2_4.symm
 clear hn2_4
 have NB489_490 := am_ hn3_4
 have NB490_489 := am_ hn3_4.symm
 clear hn3_4
 have HB := am_ (Below.refl w.heap.size w)
 have H : ((a0i.f k l2 l0 a1 (([a3_1] : List Int)) a4).bind fun bt494 => (a0g.l0 k bt494.2 false bt494.1 (bt494.1.length : Int) 0 a3_0 a3_1 a3_2 a3_3 a3_4 a3_5)) = some (r1, r2) := h
 clear h
 obtain ⟨y491, hy491⟩ : ∃ y_ : List Int, y_ = (([a3_1] : List Int)) := ⟨_, rfl⟩
 replace H : ((a0i.f k l2 l0 a1 y491 a4).bind fun bt494 => (a0g.l0 k bt494.2 false bt494.1 (bt494.1.length : Int) 0 a3_0 a3_1 a3_2 a3_3 a3_4 a3_5)) = some (r1, r2) := by first | (rw [hy491]; with_reducible exact H) | (have H2_ := (Option.bind_some _ _).symm.trans H; rw [hy491]; with_reducible exact H2_) | (have H2_ := (Option.bind_some _ _).symm.trans H; with_reducible exact H2_) | with_reducible exact H | (rw [hy491]; exact H) | exact H
 have Ny491 := am_ hy491
 clear hy491
 replace H := bm_ H
 obtain ⟨⟨t494, t495⟩, A60, H⟩ := H
 replace H : (a0g.l0 k t495 false t494 (t494.length : Int) 0 a3_0 a3_1 a3_2 a3_3 a3_4 a3_5) = some (r1, r2) := H
 have A6 := am_ A60
 clear A60
 have H' := am_ H
 clear H
 have hnb7 := NB488_489.out
 have hnc7 := NB489_488.out
 have hnb8 := NB488_490.out
 have hnc8 := NB490_488.out
 have z'9_0 : w.cell? ⟨gq2, 0, none⟩ = some (.slice A2 l2.length c2) := (bc_ BK488.out 0).trans rfl
 have y'9_0 := bf_ BK488.out 0
 have hnb10 := NB489_490.out
 have hnc10 := NB490_489.out
 obtain ⟨z'11_0, z'11_1, z'11_2, z'11_3, z'11_4, z'11_5⟩ := qz6_ BK489; obtain ⟨y'11_0, y'11_1, y'11_2, y'11_3, y'11_4, y'11_5⟩ := qf6_ BK489
 go_enter Try.func10, Try.ntmps10
 go_wp2_with (first | ((with_reducible refine a1d (N := 20) rfl ?_); refine Kd.a3x (Kd.int .i64) _ 3 ?hg (N := 20) ?hd (xs := ([a3_1] : List Int)) (inner := [.int .i64 a3_1]) (ok := fun _ => True) (okp := fun _ => True) ?hr ?hp (fun _ hk => hk) trivial (Below.refl _ _) (Nat.le_refl _) (by simp) ?_; (case hd => rfl); (case hg => rfl); (case hr => exact qq_); (case hp => exact (Reps.one (show Kd.M (Kd.int .i64) _ _ _ a3_1 [.int .i64 a3_1] from rfl) (Reps.none _ _))); intro v492 w12 ho13 hb hg_ hnew_; clear hg_ hnew_; (first | rw [← Ny491.out] at ho13 | (simp only [Int.reduceToNat] at ho13; rw [← Ny491.out] at ho13)); have HO493 := am_ (Kd.a1y (Kd.b2h ho13 (g := gq4) (o := .cells #[.int .i64 a4] 3 (0, 0)) (qk_ BK490)) (a1e qb_)); replace BK488 := qkb_ BK488 hb; replace BK489 := qkb_ BK489 hb; replace BK490 := qkb_ BK490 hb; replace HB := qbs_ hb; clear hb ho13; have z'14_0 : w12.cell? ⟨gq4, 0, none⟩ = some (.int .i64 a4) := (bc_ BK490.out 0).trans rfl; have y'14_0 := bf_ BK490.out 0; obtain ⟨Ao15, co15, eo15⟩ := Kd.a1p HO493.out; subst eo15) | ((with_reducible refine a0z (f := 11) rfl ?_); refine a1s (some 22) rfl rfl Try.func11 (by kernel_rfl) rfl #[.slice A2 l2.length c2, .slice A0 l0.length c0, .int .i64 a1, .slice Ao15 y491.length co15, .int .i64 a4] rfl ql_ ?_; (with_reducible refine (a0i.calls k _ _ l2 _ _ l0 a1 _ _ y491 a4 t494 t495 _ ?s1 ?s2 ?s3 ?s4 ?s5 ?s6 A6.out).mono ?_); (case s1 => exact qc_ HR2); (case s2 => exact HC2.out); (case s3 => exact qc_ HR0); (case s4 => exact HC0.out); (case s5 => exact qv_ (Kd.a0o HO493.out).2.2); (case s6 => exact (Kd.a0o HO493.out).2.1); rintro e w16 ⟨v496, rfl, ho0, hb⟩; refine ⟨_, rfl, ?_⟩; have HO497 := am_ (Kd.a1y (Kd.b2h (Kd.a2p ho0 (Kd.R_lt (qr_ HO493))) (g := gq4) (o := .cells #[.int .i64 a4] 3 (0, 0)) (qk_ BK490)) (a1e qb_)); replace HO493 := qel_ HO493 ho0 hb; replace BK488 := qkb_ BK488 hb; replace BK489 := qkb_ BK489 hb; replace BK490 := qkb_ BK490 hb; replace HB := qbs_ hb; (try clear hb); (try clear hb2); (try clear hk); (try clear hi); (try clear ho0); obtain ⟨Ao17, co17, eo17⟩ := Kd.a1p HO497.out; subst eo17))
 go_loopg [11, 27] k (fun kq v11 v27 w' => ∃ (x11_1 : Bool) (x27_1 : Int), v11 = .bool x11_1 ∧ v27 = .int .i64 x27_1 ∧ Aside0 (a0g.l0 kq t495 x11_1 t494 (t494.length : Int) x27_1 a3_0 a3_1 a3_2 a3_3 a3_4 a3_5 = some (r1, r2)) ∧ Aside0 (kq ≤ k) ∧ Aside0 (Kd.R (Kd.int .i64) 3 w' w.heap.size (fun k_ => k_ ≠ gq4) (.slice Ao17 t494.length co17) t494) ∧ Aside0 (w'.heap[gq2]? = some (.cells #[(.slice A2 l2.length c2)] 22 (0, 0))) ∧ Aside0 (w'.heap[gq3]? = some (.cells #[.int .i64 a3_0, .int .i64 a3_1, .int .i64 a3_2, .int .i64 a3_3, .int .i64 a3_4, .int .i64 a3_5] 30 (0, 0))) ∧ Aside0 (w'.heap[gq4]? = some (.cells #[.int .i64 a4] 3 (0, 0))) ∧ Aside0 (Below w.heap.size w w'))
 case atStart => exact ⟨(false), (0), qs_, qs_, H', ⟨Nat.le_refl _⟩, ⟨by (with_reducible repeat (first | apply Kd.a0q | apply Kd.a0r | apply Kd.a0u)); exact Kd.a1j HO497.out (fun _ hk => hk.2)⟩, ⟨qk_ BK488⟩, ⟨qk_ BK489⟩, ⟨qk_ BK490⟩, ⟨qb_⟩⟩
 case round =>
  clear H'
  try clear c1
  try clear c2
  try clear p2
  try clear q2
  try clear q3
  try clear q4
  try clear c7
  try clear c8
  try clear c9
  try clear c10
  try clear c11
  try clear z'11_0 z'11_1 z'11_2 z'11_3 z'11_4 z'11_5
  try clear z'14_0
  try clear z'9_0
  try clear y'11_0 y'11_1 y'11_2 y'11_3 y'11_4 y'11_5
  try clear y'14_0
  try clear y'9_0
  obtain ⟨x11_1, x27_1, rfl, rfl, HA, HK1, HO_25, BK488, BK489, BK490, HB⟩ := hrel
  cases gk with
  | zero => exact absurd HA.out (by simp [a0g.l0])
  | succ k1 =>
   have H := HA.out
   clear HA
   simp only [a0g.l0] at H
   by_cases c18 : x27_1 < (t494.length : Int)
   ·rw [if_pos c18] at H
    have c18b0 : decide (x27_1 < (t494.length : Int)) = true := decide_eq_true c18
    clear c18
    by_cases c19 : 0 ≤ x27_1
    ·rw [if_pos c19] at H
     have c19b0 : decide (0 ≤ x27_1) = true := decide_eq_true c19
     clear c19
     by_cases c20 : x27_1 < (t494.length : Int)
     ·rw [if_pos c20] at H
      have c20b0 : decide (x27_1 < (t494.length : Int)) = true := decide_eq_true c20
      clear c20
      by_cases c21 : x11_1 = true
      ·subst c21
       have H1 : (a0g.l0 k1 t495 true t494 (t494.length : Int) (wrap64 (x27_1 + 1)) a3_0 a3_1 a3_2 a3_3 a3_4 a3_5) = some (r1, r2) := by rw [if_pos rfl] at H; exact H
       clear H
       have H := H1
       clear H1
       have H' := am_ H
       clear H
       have p498 : 0 ≤ (x27_1 : Int) := ot_
       have q498 : x27_1 < (t494.length : Int) := ot_
       obtain ⟨ad498, e498, hx498_0⟩ := Kd.a4c (Kd.a0o HO_25.out).2.2 x27_1 p498 q498
       cases e498
       replace p498 := eq_true p498
       replace q498 := eq_true q498
       go_wp2
       go_roundg k1
       case measure => have := HK1.out; omega
       case rel => exact ⟨(true), (wrap64 (x27_1 + 1)), qs_, qs_, H', ⟨by have := HK1.out; omega⟩, ⟨by (with_reducible repeat (first | apply Kd.a0q | apply Kd.a0r | apply Kd.a0u)); exact HO_25.out⟩, ⟨qk_ BK488⟩, ⟨qk_ BK489⟩, ⟨qk_ BK490⟩, ⟨qb_⟩⟩
      ·replace c21 := be_ c21
       subst c21
       have H1 : (a0g.l0 k1 t495 ((rd t494 x27_1) == a3_0) t494 (t494.length : Int) (wrap64 (x27_1 + 1)) a3_0 a3_1 a3_2 a3_3 a3_4 a3_5) = some (r1, r2) := by rw [if_neg (show ¬ (false = true) by decide)] at H; exact H
       clear H
       have H := H1
       clear H1
       have H' := am_ H
       clear H
       have p498 : 0 ≤ (x27_1 : Int) := ot_
       have q498 : x27_1 < (t494.length : Int) := ot_
       obtain ⟨ad498, e498, hx498_0⟩ := Kd.a4c (Kd.a0o HO_25.out).2.2 x27_1 p498 q498
       cases e498
       replace p498 := eq_true p498
       replace q498 := eq_true q498
       have hnb22 := NB489_488.out
       have hnc22 := NB488_489.out
       have hnb23 := NB489_490.out
       have hnc23 := NB490_489.out
       obtain ⟨z'24_0, z'24_1, z'24_2, z'24_3, z'24_4, z'24_5⟩ := qz6_ BK489; obtain ⟨y'24_0, y'24_1, y'24_2, y'24_3, y'24_4, y'24_5⟩ := qf6_ BK489
       go_wp2
       go_roundg k1
       case measure => have := HK1.out; omega
       case rel => exact ⟨(((rd t494 x27_1) == a3_0)), (wrap64 (x27_1 + 1)), qs_, qs_, H', ⟨by have := HK1.out; omega⟩, ⟨by (with_reducible repeat (first | apply Kd.a0q | apply Kd.a0r | apply Kd.a0u)); exact HO_25.out⟩, ⟨qk_ BK488⟩, ⟨qk_ BK489⟩, ⟨qk_ BK490⟩, ⟨qb_⟩⟩
     ·rw [if_neg c20] at H
      exact absurd H (by simp)
    ·rw [if_neg c19] at H
     exact absurd H (by simp)
   ·rw [if_neg c18] at H
    have c18b0 : decide (x27_1 < (t494.length : Int)) = false := decide_eq_false c18
    clear c18
    simp only [Option.some.injEq, Prod.mk.injEq] at H
    obtain ⟨rfl, rfl⟩ := H
    go_wp2
    go_ret2
    exact ⟨qx_, qb_⟩
end Go.Proofs.Ytfbgkcadnmcakaa.Px
