/- Contracts of Go functions, printed. Conditions: as each theorem states. -/
import Derived.Test.YtfbgkcadnmcakaaPx0
import Derived.Test.YtfbgkcadnmcakaaPx4
import Derived.Test.YtfbgkcadnmcakaaPx9
import Derived.Test.YtfbgkcadnmcakaaPx10
namespace Go.Proofs.Ytfbgkcadnmcakaa.Px
open Go.Proofs.Ytfbgkcadnmcakaa.Given
open Go.RowKit Go.Proofs.YtfbgkcadnmcakaaW.PrintWords Go.Proofs.YtfbgkcadnmcakaaW.PrintLast Go.Proofs.YtfbgkcadnmcakaaW.PrintMore
attribute [local go_sem] a2w a2u a3d a3c a2q a2r a2x a2y
set_option linter.unusedVariables false
set_option linter.unusedSimpArgs false
def a1h.j0 : Nat → List (S26) → Int → Bool → Int → Int → Int → Int → Int → Int → Option (Int × Int)
 | 0, _, _, _, _, _, _, _, _, _ => none
 | k + 1, x1, x2, x20, u0, u1, u2, u3, u4, u5 => if x20 = true then (some (0, 1)) else ((a2p.f k x1).bind fun t187 => ((a1f.f k u0 u1 u2 u3 u4 u5 t187 x2).bind fun t190 => (some (t190, 0))))
def a1h.f (k : Nat) (a0_0 a0_1 a0_2 a0_3 a0_4 a0_5 : Int) (l1 : List (S26)) (a2 : Int) : Option (Int × Int) := (a2j.f k a0_0 a0_1 a0_2 a0_3 a0_4 a0_5).bind fun t184 => (if t184 = true then ((a1x.f k l1).bind fun t185 => (if t185 = true then ((a2f.f a2).bind fun t186 => (a1h.j0 k l1 a2 (!t186) a0_0 a0_1 a0_2 a0_3 a0_4 a0_5)) else (a1h.j0 k l1 a2 true a0_0 a0_1 a0_2 a0_3 a0_4 a0_5))) else (a1h.j0 k l1 a2 true a0_0 a0_1 a0_2 a0_3 a0_4 a0_5))
theorem a1h.a1k : ∀ k, (∀ y0 y1 y2 y3 y4 y5 y6 y7 y8, LeO (a1h.j0 k y0 y1 y2 y3 y4 y5 y6 y7 y8) (a1h.j0 (k + 1) y0 y1 y2 y3 y4 y5 y6 y7 y8))
 | 0 => fun _ _ _ _ _ _ _ _ _ r h => by simp [a1h.j0] at h
 | k + 1 => by
  have ih0 := a1h.a1k k
  ·intro y0 y1 y2 y3 y4 y5 y6 y7 y8
   unfold a1h.j0
   with_reducible (repeat' first | apply ih0 | apply a1x.mono | apply a2p.mono | apply a1f.mono | apply a2j.mono | apply LeO.refl | apply LeO.none | apply LeO.ite | refine LeO.bind ?_ (fun _ => ?_))
theorem a1h.mono : ∀ a0 a1 a2 a3 a4 a5 a6 a7 k, LeO (a1h.f k a0 a1 a2 a3 a4 a5 a6 a7) (a1h.f (k + 1) a0 a1 a2 a3 a4 a5 a6 a7) := by
 intro a0 a1 a2 a3 a4 a5 a6 a7 k
 have ih0 := a1h.a1k k
 unfold a1h.f
 with_reducible (repeat' first | apply ih0 | apply a1x.mono | apply a2p.mono | apply a1f.mono | apply a2j.mono | apply LeO.refl | apply LeO.none | apply LeO.ite | refine LeO.bind ?_ (fun _ => ?_))
set_option maxHeartbeats 8000000 in
set_option maxRecDepth 100000 in
theorem a1h.calls (k : Nat) (a0_0 a0_1 a0_2 a0_3 a0_4 a0_5 : Int) (A1 : Option Addr) (c1 : Nat) (l1 : List (S26)) (a2 r1 r2 : Int) (w : World) (hr1 : Kd.C k26 w A1 l1.length l1) (hc1 : l1.length ≤ c1) (h : a1h.f k a0_0 a0_1 a0_2 a0_3 a0_4 a0_5 l1 a2 = some (r1, r2)) :
  Calls Try.prog 9 #[.agg #[.int .i64 a0_0, .int .i64 a0_1, .int .i64 a0_2, .int .i64 a0_3, .int .i64 a0_4, .int .i64 a0_5], .slice A1 l1.length c1, .int .i64 a2] w fun e w' => e = .returned (.tuple #[.int .i64 r1, .int .i64 r2]) ∧ Below w.heap.size w w' := by
 have hu30 := Try.underlying30
 have HR1 := am_ hr1
 have HC1 := am_ hc1
 clear hr1 hc1
 have HB := am_ (Below.refl w.heap.size w)
 have H : ((a2j.f k a0_0 a0_1 a0_2 a0_3 a0_4 a0_5).bind fun t184 => (if t184 = true then ((a1x.f k l1).bind fun t185 => (if t185 = true then ((a2f.f a2).bind fun t186 => (a1h.j0 k l1 a2 (!t186) a0_0 a0_1 a0_2 a0_3 a0_4 a0_5)) else (a1h.j0 k l1 a2 true a0_0 a0_1 a0_2 a0_3 a0_4 a0_5))) else (a1h.j0 k l1 a2 true a0_0 a0_1 a0_2 a0_3 a0_4 a0_5))) = some (r1, r2) := h
 clear h
 have HC4 := am_ H
 clear H
 go_enter Try.func9, Try.ntmps9
 go_upto_region 1 with (first | ((with_reducible refine a1g (N := 3) rfl ?_); refine qev_ 3 #[.int .i64 a0_0, .int .i64 a0_1, .int .i64 a0_2, .int .i64 a0_3, .int .i64 a0_4, .int .i64 a0_5] 30 ?_; intro gb183 hg w5 hbox hb; have BK183 := am_ (hbox); have GW183 := qga_ hg; have GE183 := qga_ hg; replace HB := qbs_ hb; clear hb hbox hg))
 (try simp only [Act.put, List.setIfInBounds_toArray, List.set_cons_zero, List.set_cons_succ])
 go_cut [20] (fun v20 wc => ∃ (kq : Nat) (x20_3 : Bool), v20 = .bool x20_3 ∧ Aside0 (a1h.j0 kq l1 a2 x20_3 a0_0 a0_1 a0_2 a0_3 a0_4 a0_5 = some (r1, r2)) ∧ Aside0 (kq ≤ k) ∧ Aside0 (wc.heap[gb183]? = some (.cells #[.int .i64 a0_0, .int .i64 a0_1, .int .i64 a0_2, .int .i64 a0_3, .int .i64 a0_4, .int .i64 a0_5] 30 (0, 0))) ∧ Aside0 (Below w.heap.size w wc))
 case first =>
  have H := HC4.out
  clear HC4
  replace H := bm_ H
  obtain ⟨t184, A60, H⟩ := H
  replace H : (if t184 = true then ((a1x.f k l1).bind fun t185 => (if t185 = true then ((a2f.f a2).bind fun t186 => (a1h.j0 k l1 a2 (!t186) a0_0 a0_1 a0_2 a0_3 a0_4 a0_5)) else (a1h.j0 k l1 a2 true a0_0 a0_1 a0_2 a0_3 a0_4 a0_5))) else (a1h.j0 k l1 a2 true a0_0 a0_1 a0_2 a0_3 a0_4 a0_5)) = some (r1, r2) := H
  have A6 := am_ A60
  clear A60
  by_cases c7 : t184 = true
  ·subst c7
   have H1 : ((a1x.f k l1).bind fun t185 => (if t185 = true then ((a2f.f a2).bind fun t186 => (a1h.j0 k l1 a2 (!t186) a0_0 a0_1 a0_2 a0_3 a0_4 a0_5)) else (a1h.j0 k l1 a2 true a0_0 a0_1 a0_2 a0_3 a0_4 a0_5))) = some (r1, r2) := by rw [if_pos rfl] at H; exact H
   clear H
   have H := H1
   clear H1
   replace H := bm_ H
   obtain ⟨t185, A80, H⟩ := H
   replace H : (if t185 = true then ((a2f.f a2).bind fun t186 => (a1h.j0 k l1 a2 (!t186) a0_0 a0_1 a0_2 a0_3 a0_4 a0_5)) else (a1h.j0 k l1 a2 true a0_0 a0_1 a0_2 a0_3 a0_4 a0_5)) = some (r1, r2) := H
   have A8 := am_ A80
   clear A80
   by_cases c9 : t185 = true
   ·subst c9
    have H1 : ((a2f.f a2).bind fun t186 => (a1h.j0 k l1 a2 (!t186) a0_0 a0_1 a0_2 a0_3 a0_4 a0_5)) = some (r1, r2) := by rw [if_pos rfl] at H; exact H
    clear H
    have H := H1
    clear H1
    replace H := bm_ H
    obtain ⟨t186, A100, H⟩ := H
    replace H : (a1h.j0 k l1 a2 (!t186) a0_0 a0_1 a0_2 a0_3 a0_4 a0_5) = some (r1, r2) := H
    have A10 := am_ A100
    clear A100
    have H' := am_ H
    clear H
    obtain ⟨z'11_0, z'11_1, z'11_2, z'11_3, z'11_4, z'11_5⟩ := qz6_ BK183; obtain ⟨y'11_0, y'11_1, y'11_2, y'11_3, y'11_4, y'11_5⟩ := qf6_ BK183
    go_wp2_with (first | ((with_reducible refine a1c (f := 22) rfl ?_); refine a1y (some 9) rfl rfl Try.func22 (by kernel_rfl) rfl #[.agg #[.int .i64 a0_0, .int .i64 a0_1, .int .i64 a0_2, .int .i64 a0_3, .int .i64 a0_4, .int .i64 a0_5]] rfl ql_ ?_; (with_reducible refine (a2j.calls k a0_0 a0_1 a0_2 a0_3 a0_4 a0_5 true _ A6.out).mono ?_); rintro e w12 ⟨rfl, hb⟩; refine ⟨_, rfl, ?_⟩; replace BK183 := qkb_ BK183 hb; replace HB := qbs_ hb; (try clear hb); (try clear hb2); (try clear hk); (try clear hi)) | (go_at_call 23; (with_reducible refine (a1x.calls k _ _ l1 true _ ?s1 ?s2 A8.out).mono ?_); (case s1 => exact qc_ HR1); (case s2 => exact HC1.out); rintro e w13 ⟨rfl, hb⟩; replace BK183 := qkb_ BK183 hb; replace HB := qbs_ hb; (try clear hb); (try clear hb2); (try clear hk); (try clear hi)) | (go_at_call 24; (with_reducible refine (a2f.calls a2 t186 _ A10.out).mono ?_); rintro e w' ⟨rfl, ⟨nd, rfl⟩⟩))
    go_meet
    case rel => exact ⟨_, (!t186), qs_, H', ⟨qo_⟩, ⟨qk_ BK183⟩, ⟨qb_⟩⟩
   ·replace c9 := be_ c9
    subst c9
    have H1 : (a1h.j0 k l1 a2 true a0_0 a0_1 a0_2 a0_3 a0_4 a0_5) = some (r1, r2) := by rw [if_neg (show ¬ (false = true) by decide)] at H; exact H
    clear H
    have H := H1
    clear H1
    have H' := am_ H
    clear H
    obtain ⟨z'14_0, z'14_1, z'14_2, z'14_3, z'14_4, z'14_5⟩ := qz6_ BK183; obtain ⟨y'14_0, y'14_1, y'14_2, y'14_3, y'14_4, y'14_5⟩ := qf6_ BK183
    go_wp2_with (first | ((with_reducible refine a1c (f := 22) rfl ?_); refine a1y (some 9) rfl rfl Try.func22 (by kernel_rfl) rfl #[.agg #[.int .i64 a0_0, .int .i64 a0_1, .int .i64 a0_2, .int .i64 a0_3, .int .i64 a0_4, .int .i64 a0_5]] rfl ql_ ?_; (with_reducible refine (a2j.calls k a0_0 a0_1 a0_2 a0_3 a0_4 a0_5 true _ A6.out).mono ?_); rintro e w15 ⟨rfl, hb⟩; refine ⟨_, rfl, ?_⟩; replace BK183 := qkb_ BK183 hb; replace HB := qbs_ hb; (try clear hb); (try clear hb2); (try clear hk); (try clear hi)) | (go_at_call 23; (with_reducible refine (a1x.calls k _ _ l1 false _ ?s1 ?s2 A8.out).mono ?_); (case s1 => exact qc_ HR1); (case s2 => exact HC1.out); rintro e w16 ⟨rfl, hb⟩; replace BK183 := qkb_ BK183 hb; replace HB := qbs_ hb; (try clear hb); (try clear hb2); (try clear hk); (try clear hi)))
    go_meet
    case rel => exact ⟨_, (true), qs_, H', ⟨qo_⟩, ⟨qk_ BK183⟩, ⟨qb_⟩⟩
  ·replace c7 := be_ c7
   subst c7
   have H1 : (a1h.j0 k l1 a2 true a0_0 a0_1 a0_2 a0_3 a0_4 a0_5) = some (r1, r2) := by rw [if_neg (show ¬ (false = true) by decide)] at H; exact H
   clear H
   have H := H1
   clear H1
   have H' := am_ H
   clear H
   obtain ⟨z'17_0, z'17_1, z'17_2, z'17_3, z'17_4, z'17_5⟩ := qz6_ BK183; obtain ⟨y'17_0, y'17_1, y'17_2, y'17_3, y'17_4, y'17_5⟩ := qf6_ BK183
   go_wp2_with (first | ((with_reducible refine a1c (f := 22) rfl ?_); refine a1y (some 9) rfl rfl Try.func22 (by kernel_rfl) rfl #[.agg #[.int .i64 a0_0, .int .i64 a0_1, .int .i64 a0_2, .int .i64 a0_3, .int .i64 a0_4, .int .i64 a0_5]] rfl ql_ ?_; (with_reducible refine (a2j.calls k a0_0 a0_1 a0_2 a0_3 a0_4 a0_5 false _ A6.out).mono ?_); rintro e w18 ⟨rfl, hb⟩; refine ⟨_, rfl, ?_⟩; replace BK183 := qkb_ BK183 hb; replace HB := qbs_ hb; (try clear hb); (try clear hb2); (try clear hk); (try clear hi)))
   go_meet
   case rel => exact ⟨_, (true), qs_, H', ⟨qo_⟩, ⟨qk_ BK183⟩, ⟨qb_⟩⟩
 case rest =>
  clear HC4
  try clear c1
  try clear c2
  try clear p2
  try clear c7
  try clear c9
  try clear z'11_0 z'11_1 z'11_2 z'11_3 z'11_4 z'11_5
  try clear z'14_0 z'14_1 z'14_2 z'14_3 z'14_4 z'14_5
  try clear z'17_0 z'17_1 z'17_2 z'17_3 z'17_4 z'17_5
  try clear y'11_0 y'11_1 y'11_2 y'11_3 y'11_4 y'11_5
  try clear y'14_0 y'14_1 y'14_2 y'14_3 y'14_4 y'14_5
  try clear y'17_0 y'17_1 y'17_2 y'17_3 y'17_4 y'17_5
  obtain ⟨kq, x20_3, rfl, HA, HJ3, BK183, HB⟩ := hcut
  cases kq with
  | zero => exact absurd HA.out (by simp [a1h.j0])
  | succ kj3 =>
   have H := HA.out
   clear HA
   simp only [a1h.j0] at H
   by_cases c19 : x20_3 = true
   ·subst c19
    have H1 : (some (0, 1)) = some (r1, r2) := by rw [if_pos rfl] at H; exact H
    clear H
    have H := H1
    clear H1
    simp only [Option.some.injEq, Prod.mk.injEq] at H
    obtain ⟨rfl, rfl⟩ := H
    go_wp2
    go_ret2
    exact ⟨qx_, qb_⟩
   ·replace c19 := be_ c19
    subst c19
    have H1 : ((a2p.f kj3 l1).bind fun t187 => ((a1f.f kj3 a0_0 a0_1 a0_2 a0_3 a0_4 a0_5 t187 a2).bind fun t190 => (some (t190, 0)))) = some (r1, r2) := by rw [if_neg (show ¬ (false = true) by decide)] at H; exact H
    clear H
    have H := H1
    clear H1
    replace H := bm_ H
    obtain ⟨t187, A200, H⟩ := H
    replace H : ((a1f.f kj3 a0_0 a0_1 a0_2 a0_3 a0_4 a0_5 t187 a2).bind fun t190 => (some (t190, 0))) = some (r1, r2) := H
    have A20 := am_ A200
    clear A200
    replace H := bm_ H
    obtain ⟨t190, A210, H⟩ := H
    replace H : (some (t190, 0)) = some (r1, r2) := H
    have A21 := am_ A210
    clear A210
    simp only [Option.some.injEq, Prod.mk.injEq] at H
    obtain ⟨rfl, rfl⟩ := H
    try go_wp2
    replace BK183 := am_ (bd_ BK183.out)
    replace HB := am_ (ld_ HB.out)
    refine a3g (n := 7) (S := fun w' => w'.cell? ⟨gb183, 0, none⟩ = some (.int .i64 a0_0) ∧ w'.cell? ⟨gb183, 1, none⟩ = some (.int .i64 a0_1) ∧ w'.cell? ⟨gb183, 2, none⟩ = some (.int .i64 a0_2) ∧ w'.cell? ⟨gb183, 3, none⟩ = some (.int .i64 a0_3) ∧ w'.cell? ⟨gb183, 4, none⟩ = some (.int .i64 a0_4) ∧ w'.cell? ⟨gb183, 5, none⟩ = some (.int .i64 a0_5)) (ds := []) #[i_,i_,i_,i_,i_,i_,i_] (by kernel_rfl) rfl rfl ⟨(bc_ BK183.out 0).trans rfl, (bc_ BK183.out 1).trans rfl, (bc_ BK183.out 2).trans rfl, (bc_ BK183.out 3).trans rfl, (bc_ BK183.out 4).trans rfl, (bc_ BK183.out 5).trans rfl⟩ (fun hHeld => ?_)
    generalize wc.drew = w22 at BK183 HB hHeld ⊢
    refine a7x (i := 1) (N := some 22) (v := ?_) (a' := ?_) #[i_,o_,i_,i_,i_,i_,i_] rfl rfl (by kernel_rfl) (fun _ _ _ h => h) (Or.inl ⟨by rfl, ?_⟩) ?_ ?_
    rotate_left
    ·intro w'
     go_simp
     with_reducible rfl
    rotate_left
    ·exact qp_
    refine a7x (i := 3) (N := some 24) (v := ?_) (a' := ?_) #[i_,o_,i_,o_,i_,i_,i_] rfl rfl (by kernel_rfl) (fun _ _ _ h => h) (Or.inl ⟨by rfl, ?_⟩) ?_ ?_
    rotate_left
    ·intro w'
     go_simp
     with_reducible rfl
    rotate_left
    ·exact qp_
    refine a2g (i := 0) (N := some 21) (v := ?_) (a' := ?_) #[o_,o_,i_,o_,i_,i_,i_] rfl rfl (by kernel_rfl) (fun _ _ _ h => h) (Or.inl ⟨by rfl, ?_⟩) hHeld ?_ ?_
    rotate_left
    ·rintro w' ⟨s0, s1, s2, s3, s4, s5⟩
     go_simp
     with_reducible rfl
    rotate_left
    ·exact qp_
    refine one_ (i := 2) (N := some 23) #[o_,o_,o_,o_,i_,i_,i_] rfl rfl (by kernel_rfl) (by decide) (fun K hK => ?_)
    refine a5g Try.func26 (by kernel_rfl) rfl #[.slice A1 l1.length c1] (by rfl) rfl rfl ql_ ?_
    with_reducible refine (a2p.calls kj3 _ _ l1 t187 _ ?s1 ?s2 A20.out).mono ?_
    (case s1 => exact qc_ HR1)
    (case s2 => exact HC1.out)
    rintro e w23 ⟨v188, rfl, ho0, hb⟩
    refine ⟨_, rfl, ?_⟩
    have HO189 := am_ (Kd.a2k ho0 (a1s qb_))
    replace BK183 := qkb_ BK183 hb
    replace HB := qbs_ hb
    (try clear hb)
    (try clear hb2)
    (try clear hk)
    (try clear hi)
    (try clear ho0)
    obtain ⟨Ao24, co24, eo24⟩ := Kd.a1v HO189.out
    (first | subst eo24 | (injection eo24 with f1_ f2_ f3_; have f4_ := f1_.symm; have f5_ := f3_.symm; clear f1_ f2_ f3_; subst f4_; subst f5_))
    refine hK.out _ _ ⟨(bc_ BK183.out 0).trans rfl, (bc_ BK183.out 1).trans rfl, (bc_ BK183.out 2).trans rfl, (bc_ BK183.out 3).trans rfl, (bc_ BK183.out 4).trans rfl, (bc_ BK183.out 5).trans rfl⟩ (fun hHeld => ?_)
    clear hK K
    refine a4b (a' := ?_) ?_ ?_
    rotate_left
    ·show Act.put _ (some 23) _ = _
     exact qp_
    refine one_ (i := 4) (N := some 25) #[o_,o_,o_,o_,o_,i_,i_] rfl rfl (by kernel_rfl) (by decide) (fun K hK => ?_)
    refine a5g Try.func25 (by kernel_rfl) rfl #[.agg #[.int .i64 a0_0, .int .i64 a0_1, .int .i64 a0_2, .int .i64 a0_3, .int .i64 a0_4, .int .i64 a0_5], .slice Ao24 t187.length co24, .int .i64 a2] (by rfl) rfl rfl ql_ ?_
    with_reducible refine (a1f.calls kj3 a0_0 a0_1 a0_2 a0_3 a0_4 a0_5 _ _ t187 a2 t190 _ ?s1 ?s2 A21.out).mono ?_
    (case s1 => exact qv_ (Kd.a0p HO189.out).2.2)
    (case s2 => exact (Kd.a0p HO189.out).2.1)
    rintro e w25 ⟨rfl, hb⟩
    refine ⟨_, rfl, ?_⟩
    replace HO189 := qrb_ HO189 hb
    replace BK183 := qkb_ BK183 hb
    replace HB := qbs_ hb
    (try clear hb)
    (try clear hb2)
    (try clear hk)
    (try clear hi)
    refine hK.out _ _ ⟨(bc_ BK183.out 0).trans rfl, (bc_ BK183.out 1).trans rfl, (bc_ BK183.out 2).trans rfl, (bc_ BK183.out 3).trans rfl, (bc_ BK183.out 4).trans rfl, (bc_ BK183.out 5).trans rfl⟩ (fun hHeld => ?_)
    clear hK K
    refine a4b (a' := ?_) ?_ ?_
    rotate_left
    ·show Act.put _ (some 25) _ = _
     exact qp_
    refine a7x (i := 5) (N := some 6) (v := ?_) (a' := ?_) #[o_,o_,o_,o_,o_,o_,i_] rfl rfl (by kernel_rfl) (fun _ _ _ h => h) (Or.inl ⟨by rfl, ?_⟩) ?_ ?_
    rotate_left
    ·intro w'
     go_simp
     with_reducible rfl
    rotate_left
    ·exact qp_
    refine a7x (i := 6) (N := some 7) (v := ?_) (a' := ?_) #[o_,o_,o_,o_,o_,o_,o_] rfl rfl (by kernel_rfl) (fun _ _ _ h => h) (Or.inl ⟨by rfl, ?_⟩) ?_ ?_
    rotate_left
    ·intro w'
     go_simp
     with_reducible rfl
    rotate_left
    ·exact qp_
    refine a3o (by kernel_rfl) ?_
    try go_wp2
    go_ret2
    exact ⟨qx_, qb_⟩
def a0u.l0 : Nat → List (S30) → Int → Int → Option (Bool)
 | 0, _, _, _ => none
 | k + 1, x7, x8, x9 => if x9 < x8 then (if 0 ≤ x9 then (if x9 < (x7.length : Int) then ((a2j.f k ((a0a x7 x9).f0) ((a0a x7 x9).f1) ((a0a x7 x9).f2) ((a0a x7 x9).f3) ((a0a x7 x9).f4.f0) ((a0a x7 x9).f4.f1)).bind fun t193 => (if t193 = true then (a0u.l0 k x7 x8 (wrap64 (x9 + 1))) else (some false))) else (none)) else (none)) else (some true)
def a0u.f (k : Nat) (l0 : List (S30))  : Option (Bool) := a0u.l0 k l0 (l0.length : Int) 0
theorem a0u.a1k : ∀ k, (∀ y0 y1 y2, LeO (a0u.l0 k y0 y1 y2) (a0u.l0 (k + 1) y0 y1 y2))
 | 0 => fun _ _ _ r h => by simp [a0u.l0] at h
 | k + 1 => by
  have ih0 := a0u.a1k k
  ·intro y0 y1 y2
   unfold a0u.l0
   with_reducible (repeat' first | apply ih0 | apply a2j.mono | apply LeO.refl | apply LeO.none | apply LeO.ite | refine LeO.bind ?_ (fun _ => ?_))
theorem a0u.mono : ∀ a0 k, LeO (a0u.f k a0) (a0u.f (k + 1) a0) := by
 intro a0 k
 have ih0 := a0u.a1k k
 unfold a0u.f
 with_reducible (repeat' first | apply ih0 | apply a2j.mono | apply LeO.refl | apply LeO.none | apply LeO.ite | refine LeO.bind ?_ (fun _ => ?_))
set_option maxHeartbeats 8000000 in
set_option maxRecDepth 100000 in
theorem a0u.calls (k : Nat) (A0 : Option Addr) (c0 : Nat) (l0 : List (S30))  (r : Bool) (w : World) (hr0 : Kd.C k30 w A0 l0.length l0) (hc0 : l0.length ≤ c0) (h : a0u.f k l0 = some r) :
  Calls Try.prog 47 #[.slice A0 l0.length c0, .func (.func 22) #[] #[]] w fun e w' => e = .returned (.bool r) ∧ Below w.heap.size w w' := by
 have hu30 := Try.underlying30
 have HR0 := am_ hr0
 have HC0 := am_ hc0
 clear hr0 hc0
 have HB := am_ (Below.refl w.heap.size w)
 have H : (a0u.l0 k l0 (l0.length : Int) 0) = some r := h
 clear h
 have H' := am_ H
 clear H
 go_enter Try.func47, Try.ntmps47
 go_wp2
 go_loopg [9] k (fun kq v9 w' => ∃ (x9_1 : Int), v9 = .int .i64 x9_1 ∧ Aside0 (a0u.l0 kq l0 (l0.length : Int) x9_1 = some r) ∧ Aside0 (kq ≤ k) ∧ Aside0 (Below w.heap.size w w'))
 case atStart => exact ⟨(0), qs_, H', ⟨Nat.le_refl _⟩, ⟨qb_⟩⟩
 case round =>
  clear H'
  try clear p2
  obtain ⟨x9_1, rfl, HA, HK1, HB⟩ := hrel
  cases gk with
  | zero => exact absurd HA.out (by simp [a0u.l0])
  | succ k1 =>
   have H := HA.out
   clear HA
   simp only [a0u.l0] at H
   by_cases c3 : x9_1 < (l0.length : Int)
   ·rw [if_pos c3] at H
    have c3b0 : decide (x9_1 < (l0.length : Int)) = true := decide_eq_true c3
    clear c3
    by_cases c4 : 0 ≤ x9_1
    ·rw [if_pos c4] at H
     have c4b0 : decide (0 ≤ x9_1) = true := decide_eq_true c4
     clear c4
     by_cases c5 : x9_1 < (l0.length : Int)
     ·rw [if_pos c5] at H
      have c5b0 : decide (x9_1 < (l0.length : Int)) = true := decide_eq_true c5
      clear c5
      replace H := bm_ H
      obtain ⟨t193, A60, H⟩ := H
      replace H : (if t193 = true then (a0u.l0 k1 l0 (l0.length : Int) (wrap64 (x9_1 + 1))) else (some false)) = some r := H
      have A6 := am_ A60
      clear A60
      by_cases c7 : t193 = true
      ·subst c7
       have H1 : (a0u.l0 k1 l0 (l0.length : Int) (wrap64 (x9_1 + 1))) = some r := by rw [if_pos rfl] at H; exact H
       clear H
       have H := H1
       clear H1
       have H' := am_ H
       clear H
       have p191 : 0 ≤ (x9_1 : Int) := ot_
       have q191 : x9_1 < (l0.length : Int) := ot_
       obtain ⟨ad191, e191, hx191_0, hx191_1, hx191_2, hx191_3, hx191_4, hx191_5⟩ := a3q HR0.out x9_1 p191 q191
       cases e191
       replace hx191_0 := qh_ HB hx191_0
       replace hx191_1 := qh_ HB hx191_1
       replace hx191_2 := qh_ HB hx191_2
       replace hx191_3 := qh_ HB hx191_3
       replace hx191_4 := qh_ HB hx191_4
       replace hx191_5 := qh_ HB hx191_5
       replace p191 := eq_true p191
       replace q191 := eq_true q191
       go_wp2_with (first | ((with_reducible refine a1g (N := 6) rfl ?_); refine qev_ 6 #[.int .i64 0, .int .i64 0, .int .i64 0, .int .i64 0, .int .i64 0, .int .i64 0] 30 ?_; intro gb192 hg w8 hbox hb; have BK192 := am_ (hbox); have GW192 := qga_ hg; have GE192 := qga_ hg; replace HB := qbs_ hb; clear hb hbox hg; obtain ⟨z'9_0, z'9_1, z'9_2, z'9_3, z'9_4, z'9_5⟩ := qz6_ BK192; obtain ⟨y'9_0, y'9_1, y'9_2, y'9_3, y'9_4, y'9_5⟩ := qf6_ BK192) | (go_at_call 22; (with_reducible refine (a2j.calls k1 ((a0a l0 x9_1).f0) ((a0a l0 x9_1).f1) ((a0a l0 x9_1).f2) ((a0a l0 x9_1).f3) ((a0a l0 x9_1).f4.f0) ((a0a l0 x9_1).f4.f1) true _ A6.out).mono ?_); rintro e w10 ⟨rfl, hb⟩; replace BK192 := am_ (a2v (g := gb192) (o := .cells #[.int .i64 ((a0a l0 x9_1).f0), .int .i64 ((a0a l0 x9_1).f1), .int .i64 ((a0a l0 x9_1).f2), .int .i64 ((a0a l0 x9_1).f3), .int .i64 ((a0a l0 x9_1).f4.f0), .int .i64 ((a0a l0 x9_1).f4.f1)] 30 (0, 0)) (by refine qd_ ?_; refine a0q (cs := #[.int .i64 ((a0a l0 x9_1).f0), .int .i64 ((a0a l0 x9_1).f1), .int .i64 ((a0a l0 x9_1).f2), .int .i64 ((a0a l0 x9_1).f3), .int .i64 ((a0a l0 x9_1).f4.f0), .int .i64 0]) ?_ 5 _ rfl; refine qd_ ?_; refine a0q (cs := #[.int .i64 ((a0a l0 x9_1).f0), .int .i64 ((a0a l0 x9_1).f1), .int .i64 ((a0a l0 x9_1).f2), .int .i64 ((a0a l0 x9_1).f3), .int .i64 0, .int .i64 0]) ?_ 4 _ rfl; refine qd_ ?_; refine a0q (cs := #[.int .i64 ((a0a l0 x9_1).f0), .int .i64 ((a0a l0 x9_1).f1), .int .i64 ((a0a l0 x9_1).f2), .int .i64 0, .int .i64 0, .int .i64 0]) ?_ 3 _ rfl; refine qd_ ?_; refine a0q (cs := #[.int .i64 ((a0a l0 x9_1).f0), .int .i64 ((a0a l0 x9_1).f1), .int .i64 0, .int .i64 0, .int .i64 0, .int .i64 0]) ?_ 2 _ rfl; refine qd_ ?_; refine a0q (cs := #[.int .i64 ((a0a l0 x9_1).f0), .int .i64 0, .int .i64 0, .int .i64 0, .int .i64 0, .int .i64 0]) ?_ 1 _ rfl; refine qd_ ?_; refine a0q (cs := #[.int .i64 0, .int .i64 0, .int .i64 0, .int .i64 0, .int .i64 0, .int .i64 0]) ?_ 0 _ rfl; refine qd_ ?_; exact BK192.out) hb); replace HB := qbs_ hb; (try clear hb); (try clear hb2); (try clear hk); (try clear hi)))
       go_roundg k1
       case measure => have := HK1.out; omega
       case rel => exact ⟨(wrap64 (x9_1 + 1)), qs_, H', ⟨by have := HK1.out; omega⟩, ⟨qb_⟩⟩
      ·replace c7 := be_ c7
       subst c7
       have H1 : (some false) = some r := by rw [if_neg (show ¬ (false = true) by decide)] at H; exact H
       clear H
       have H := H1
       clear H1
       obtain rfl := si_ H
       have p191 : 0 ≤ (x9_1 : Int) := ot_
       have q191 : x9_1 < (l0.length : Int) := ot_
       obtain ⟨ad191, e191, hx191_0, hx191_1, hx191_2, hx191_3, hx191_4, hx191_5⟩ := a3q HR0.out x9_1 p191 q191
       cases e191
       replace hx191_0 := qh_ HB hx191_0
       replace hx191_1 := qh_ HB hx191_1
       replace hx191_2 := qh_ HB hx191_2
       replace hx191_3 := qh_ HB hx191_3
       replace hx191_4 := qh_ HB hx191_4
       replace hx191_5 := qh_ HB hx191_5
       replace p191 := eq_true p191
       replace q191 := eq_true q191
       go_wp2_with (first | ((with_reducible refine a1g (N := 6) rfl ?_); refine qev_ 6 #[.int .i64 0, .int .i64 0, .int .i64 0, .int .i64 0, .int .i64 0, .int .i64 0] 30 ?_; intro gb192 hg w11 hbox hb; have BK192 := am_ (hbox); have GW192 := qga_ hg; have GE192 := qga_ hg; replace HB := qbs_ hb; clear hb hbox hg; obtain ⟨z'12_0, z'12_1, z'12_2, z'12_3, z'12_4, z'12_5⟩ := qz6_ BK192; obtain ⟨y'12_0, y'12_1, y'12_2, y'12_3, y'12_4, y'12_5⟩ := qf6_ BK192) | (go_at_call 22; (with_reducible refine (a2j.calls k1 ((a0a l0 x9_1).f0) ((a0a l0 x9_1).f1) ((a0a l0 x9_1).f2) ((a0a l0 x9_1).f3) ((a0a l0 x9_1).f4.f0) ((a0a l0 x9_1).f4.f1) false _ A6.out).mono ?_); rintro e w13 ⟨rfl, hb⟩; replace BK192 := am_ (a2v (g := gb192) (o := .cells #[.int .i64 ((a0a l0 x9_1).f0), .int .i64 ((a0a l0 x9_1).f1), .int .i64 ((a0a l0 x9_1).f2), .int .i64 ((a0a l0 x9_1).f3), .int .i64 ((a0a l0 x9_1).f4.f0), .int .i64 ((a0a l0 x9_1).f4.f1)] 30 (0, 0)) (by refine qd_ ?_; refine a0q (cs := #[.int .i64 ((a0a l0 x9_1).f0), .int .i64 ((a0a l0 x9_1).f1), .int .i64 ((a0a l0 x9_1).f2), .int .i64 ((a0a l0 x9_1).f3), .int .i64 ((a0a l0 x9_1).f4.f0), .int .i64 0]) ?_ 5 _ rfl; refine qd_ ?_; refine a0q (cs := #[.int .i64 ((a0a l0 x9_1).f0), .int .i64 ((a0a l0 x9_1).f1), .int .i64 ((a0a l0 x9_1).f2), .int .i64 ((a0a l0 x9_1).f3), .int .i64 0, .int .i64 0]) ?_ 4 _ rfl; refine qd_ ?_; refine a0q (cs := #[.int .i64 ((a0a l0 x9_1).f0), .int .i64 ((a0a l0 x9_1).f1), .int .i64 ((a0a l0 x9_1).f2), .int .i64 0, .int .i64 0, .int .i64 0]) ?_ 3 _ rfl; refine qd_ ?_; refine a0q (cs := #[.int .i64 ((a0a l0 x9_1).f0), .int .i64 ((a0a l0 x9_1).f1), .int .i64 0, .int .i64 0, .int .i64 0, .int .i64 0]) ?_ 2 _ rfl; refine qd_ ?_; refine a0q (cs := #[.int .i64 ((a0a l0 x9_1).f0), .int .i64 0, .int .i64 0, .int .i64 0, .int .i64 0, .int .i64 0]) ?_ 1 _ rfl; refine qd_ ?_; refine a0q (cs := #[.int .i64 0, .int .i64 0, .int .i64 0, .int .i64 0, .int .i64 0, .int .i64 0]) ?_ 0 _ rfl; refine qd_ ?_; exact BK192.out) hb); replace HB := qbs_ hb; (try clear hb); (try clear hb2); (try clear hk); (try clear hi)))
       go_ret
       exact ⟨qx_, qb_⟩
     ·rw [if_neg c5] at H
      exact absurd H (by simp)
    ·rw [if_neg c4] at H
     exact absurd H (by simp)
   ·rw [if_neg c3] at H
    have c3b0 : decide (x9_1 < (l0.length : Int)) = false := decide_eq_false c3
    clear c3
    obtain rfl := si_ H
    go_wp2
    go_ret
    exact ⟨qx_, qb_⟩
def a1w.l0 : Nat → List (S30) → List (S30) → Int → Int → List (Int × S30) → Option (List (Int × S30) × Bool)
 | 0, _, _, _, _, _ => none
 | k + 1, x0, x8, x9, x10, u6 => if x10 < x9 then (if 0 ≤ x10 then (if x10 < (x8.length : Int) then (a1w.l0 k x0 x8 x9 (wrap64 (x10 + 1)) (mput u6 ((a0a x8 x10).f0) (⟨(a0a x8 x10).f0, (a0a x8 x10).f1, (a0a x8 x10).f2, (a0a x8 x10).f3, (⟨(a0a x8 x10).f4.f0, (a0a x8 x10).f4.f1⟩ : S28)⟩ : S30))) else (none)) else (none)) else (if (x0.length : Int) ≤ 100 then (if (u6.length : Int) = (x0.length : Int) then ((a0u.f k x0).bind fun t197 => (some (u6, t197))) else (some (u6, false))) else (some (u6, false)))
def a1w.f (k : Nat) (l0 : List (S30)) : Option (List (Int × S30) × Bool) := a1w.l0 k l0 l0 (l0.length : Int) 0 ([] : List (Int × S30))
theorem a1w.a1k : ∀ k, (∀ y0 y1 y2 y3 y4, LeO (a1w.l0 k y0 y1 y2 y3 y4) (a1w.l0 (k + 1) y0 y1 y2 y3 y4))
 | 0 => fun _ _ _ _ _ r h => by simp [a1w.l0] at h
 | k + 1 => by
  have ih0 := a1w.a1k k
  ·intro y0 y1 y2 y3 y4
   unfold a1w.l0
   with_reducible (repeat' first | apply ih0 | apply a0u.mono | apply LeO.refl | apply LeO.none | apply LeO.ite | refine LeO.bind ?_ (fun _ => ?_))
theorem a1w.mono : ∀ a0 k, LeO (a1w.f k a0) (a1w.f (k + 1) a0) := by
 intro a0 k
 have ih0 := a1w.a1k k
 unfold a1w.f
 with_reducible (repeat' first | apply ih0 | apply a0u.mono | apply LeO.refl | apply LeO.none | apply LeO.ite | refine LeO.bind ?_ (fun _ => ?_))
set_option maxHeartbeats 8000000 in
set_option maxRecDepth 100000 in
theorem a1w.calls (k : Nat) (A0 : Option Addr) (c0 : Nat) (l0 : List (S30)) (r1 : List (Int × S30)) (r2 : Bool) (w : World) (hr0 : Kd.C k30 w A0 l0.length l0) (hc0 : l0.length ≤ c0) (h : a1w.f k l0 = some (r1, r2)) :
  Calls Try.prog 28 #[.slice A0 l0.length c0] w fun e w' => ∃ g_ : Nat, w.heap.size ≤ g_ ∧ e = .returned (.tuple #[.map (some g_), .bool r2]) ∧ w'.heap[g_]? = some (a1o (fun x_ : S30 => Value.agg #[.int .i64 x_.f0, .int .i64 x_.f1, .int .i64 x_.f2, .int .i64 x_.f3, .int .i64 x_.f4.f0, .int .i64 x_.f4.f1]) r1) ∧ Below w.heap.size w w' := by
 have hu30 := Try.underlying30
 have HR0 := am_ hr0
 have HC0 := am_ hc0
 clear hr0 hc0
 have HB := am_ (Below.refl w.heap.size w)
 have H : (a1w.l0 k l0 l0 (l0.length : Int) 0 ([] : List (Int × S30))) = some (r1, r2) := h
 clear h
 have H' := am_ H
 clear H
 go_enter Try.func28, Try.ntmps28
 go_wp2_with (first | ((with_reducible refine a1g (N := 7) rfl ?_); (try (refine a2a (by rfl) ?_; dsimp only)); refine a7p (fun x_ : S30 => Value.agg #[.int .i64 x_.f0, .int .i64 x_.f1, .int .i64 x_.f2, .int .i64 x_.f3, .int .i64 x_.f4.f0, .int .i64 x_.f4.f1]) ?hg (N := 7) ?hd (T := 59) ?ho ?_; (case hg => rfl); (case hd => rfl); (case ho => rfl); intro gb194 hg w2 hbox hb; have BK194 := am_ (hbox); have GW194 := qga_ hg; have GE194 := qga_ hg; replace HB := qbs_ hb; clear hb hbox hg))
 go_loopg [10] k (fun kq v10 w' => ∃ (x10_1 : Int) (x195000_1 : List (Int × S30)), v10 = .int .i64 x10_1 ∧ Aside0 (a1w.l0 kq l0 l0 (l0.length : Int) x10_1 x195000_1 = some (r1, r2)) ∧ Aside0 (kq ≤ k) ∧ Aside0 (w'.heap[gb194]? = some (a1o (fun x_ : S30 => Value.agg #[.int .i64 x_.f0, .int .i64 x_.f1, .int .i64 x_.f2, .int .i64 x_.f3, .int .i64 x_.f4.f0, .int .i64 x_.f4.f1]) x195000_1)) ∧ Aside0 (Below w.heap.size w w'))
 case atStart => exact ⟨(0), (([] : List (Int × S30))), qs_, H', ⟨Nat.le_refl _⟩, ⟨qk_ BK194⟩, ⟨qb_⟩⟩
 case round =>
  clear H'
  try clear c2
  try clear p2
  obtain ⟨x10_1, x195000_1, rfl, HA, HK1, BK194, HB⟩ := hrel
  cases gk with
  | zero => exact absurd HA.out (by simp [a1w.l0])
  | succ k1 =>
   have H := HA.out
   clear HA
   simp only [a1w.l0] at H
   by_cases c3 : x10_1 < (l0.length : Int)
   ·rw [if_pos c3] at H
    have c3b0 : decide (x10_1 < (l0.length : Int)) = true := decide_eq_true c3
    clear c3
    by_cases c4 : 0 ≤ x10_1
    ·rw [if_pos c4] at H
     have c4b0 : decide (0 ≤ x10_1) = true := decide_eq_true c4
     clear c4
     by_cases c5 : x10_1 < (l0.length : Int)
     ·rw [if_pos c5] at H
      have c5b0 : decide (x10_1 < (l0.length : Int)) = true := decide_eq_true c5
      clear c5
      have H' := am_ H
      clear H
      have p195 : 0 ≤ (x10_1 : Int) := ot_
      have q195 : x10_1 < (l0.length : Int) := ot_
      obtain ⟨ad195, e195, hx195_0, hx195_1, hx195_2, hx195_3, hx195_4, hx195_5⟩ := a3q HR0.out x10_1 p195 q195
      cases e195
      replace hx195_0 := qh_ HB hx195_0
      replace hx195_1 := qh_ HB hx195_1
      replace hx195_2 := qh_ HB hx195_2
      replace hx195_3 := qh_ HB hx195_3
      replace hx195_4 := qh_ HB hx195_4
      replace hx195_5 := qh_ HB hx195_5
      replace p195 := eq_true p195
      replace q195 := eq_true q195
      go_wp2_with (first | ((with_reducible refine a1g (N := 6) rfl ?_); (try (refine a2a (by rfl) ?_; dsimp only)); refine qev_ 6 #[.int .i64 0, .int .i64 0, .int .i64 0, .int .i64 0, .int .i64 0, .int .i64 0] 30 ?_; intro gb196 hg w6 hbox hb; have BK196 := am_ (hbox); have GW196 := qga_ hg; have GE196 := qga_ hg; replace HB := qbs_ hb; have NB194_196 := am_ ((by rw [hg]; exact Nat.ne_of_lt (a2d (g := gb194) (o := a1o (fun x_ : S30 => Value.agg #[.int .i64 x_.f0, .int .i64 x_.f1, .int .i64 x_.f2, .int .i64 x_.f3, .int .i64 x_.f4.f0, .int .i64 x_.f4.f1]) x195000_1) (qk_ BK194)) : gb194 ≠ gb196)); have NB196_194 := am_ ((by rw [hg]; exact Nat.ne_of_gt (a2d (g := gb194) (o := a1o (fun x_ : S30 => Value.agg #[.int .i64 x_.f0, .int .i64 x_.f1, .int .i64 x_.f2, .int .i64 x_.f3, .int .i64 x_.f4.f0, .int .i64 x_.f4.f1]) x195000_1) (qk_ BK194)) : gb196 ≠ gb194)); replace BK194 := am_ (a2v (g := gb194) (o := a1o (fun x_ : S30 => Value.agg #[.int .i64 x_.f0, .int .i64 x_.f1, .int .i64 x_.f2, .int .i64 x_.f3, .int .i64 x_.f4.f0, .int .i64 x_.f4.f1]) x195000_1) (qk_ BK194) hb); clear hb hbox hg; have hnb7 := NB196_194.out; have hnc7 := NB194_196.out; obtain ⟨z'8_0, z'8_1, z'8_2, z'8_3, z'8_4, z'8_5⟩ := qz6_ BK196; obtain ⟨y'8_0, y'8_1, y'8_2, y'8_3, y'8_4, y'8_5⟩ := qf6_ BK196) | ((with_reducible refine a7o (t := 59) (p := 14) rfl ?_); refine a6y rfl rfl (M := x195000_1) (k := (a0a l0 x10_1).f0) (y := (⟨(a0a l0 x10_1).f0, (a0a l0 x10_1).f1, (a0a l0 x10_1).f2, (a0a l0 x10_1).f3, (⟨(a0a l0 x10_1).f4.f0, (a0a l0 x10_1).f4.f1⟩ : S28)⟩ : S30)) Try.underlying59 Try.underlying3 (by refine qd_ ?_; refine a1e ?_ NB194_196.out _; refine qd_ ?_; refine a1e ?_ NB194_196.out _; refine qd_ ?_; refine a1e ?_ NB194_196.out _; refine qd_ ?_; refine a1e ?_ NB194_196.out _; refine qd_ ?_; refine a1e ?_ NB194_196.out _; refine qd_ ?_; refine a1e ?_ NB194_196.out _; refine qd_ ?_; exact BK194.out) rfl ?hx ?hv ?_; (case hx => first | rfl | (go_simp; done) | (go_simp; rfl)); (case hv => first | rfl | (go_simp; done) | (go_simp; rfl)); intro w9 hM hg; replace BK194 := am_ (hM); replace BK196 := am_ (a4c (g := gb196) (o := .cells #[.int .i64 ((a0a l0 x10_1).f0), .int .i64 ((a0a l0 x10_1).f1), .int .i64 ((a0a l0 x10_1).f2), .int .i64 ((a0a l0 x10_1).f3), .int .i64 ((a0a l0 x10_1).f4.f0), .int .i64 ((a0a l0 x10_1).f4.f1)] 30 (0, 0)) (by refine qd_ ?_; refine a0q (cs := #[.int .i64 ((a0a l0 x10_1).f0), .int .i64 ((a0a l0 x10_1).f1), .int .i64 ((a0a l0 x10_1).f2), .int .i64 ((a0a l0 x10_1).f3), .int .i64 ((a0a l0 x10_1).f4.f0), .int .i64 0]) ?_ 5 _ rfl; refine qd_ ?_; refine a0q (cs := #[.int .i64 ((a0a l0 x10_1).f0), .int .i64 ((a0a l0 x10_1).f1), .int .i64 ((a0a l0 x10_1).f2), .int .i64 ((a0a l0 x10_1).f3), .int .i64 0, .int .i64 0]) ?_ 4 _ rfl; refine qd_ ?_; refine a0q (cs := #[.int .i64 ((a0a l0 x10_1).f0), .int .i64 ((a0a l0 x10_1).f1), .int .i64 ((a0a l0 x10_1).f2), .int .i64 0, .int .i64 0, .int .i64 0]) ?_ 3 _ rfl; refine qd_ ?_; refine a0q (cs := #[.int .i64 ((a0a l0 x10_1).f0), .int .i64 ((a0a l0 x10_1).f1), .int .i64 0, .int .i64 0, .int .i64 0, .int .i64 0]) ?_ 2 _ rfl; refine qd_ ?_; refine a0q (cs := #[.int .i64 ((a0a l0 x10_1).f0), .int .i64 0, .int .i64 0, .int .i64 0, .int .i64 0, .int .i64 0]) ?_ 1 _ rfl; refine qd_ ?_; refine a0q (cs := #[.int .i64 0, .int .i64 0, .int .i64 0, .int .i64 0, .int .i64 0, .int .i64 0]) ?_ 0 _ rfl; refine qd_ ?_; exact BK196.out) hg (fun h_ => NB196_194.out (si_ h_))); replace HB := am_ (a6h qb_ hg GE194.out); clear hg hM))
      go_roundg k1
      case measure => have := HK1.out; omega
      case rel => exact ⟨(wrap64 (x10_1 + 1)), (mput x195000_1 ((a0a l0 x10_1).f0) (⟨(a0a l0 x10_1).f0, (a0a l0 x10_1).f1, (a0a l0 x10_1).f2, (a0a l0 x10_1).f3, (⟨(a0a l0 x10_1).f4.f0, (a0a l0 x10_1).f4.f1⟩ : S28)⟩ : S30)), qs_, H', ⟨by have := HK1.out; omega⟩, ⟨qk_ BK194⟩, ⟨qb_⟩⟩
     ·rw [if_neg c5] at H
      exact absurd H (by simp)
    ·rw [if_neg c4] at H
     exact absurd H (by simp)
   ·rw [if_neg c3] at H
    have c3b0 : decide (x10_1 < (l0.length : Int)) = false := decide_eq_false c3
    clear c3
    by_cases c10 : (l0.length : Int) ≤ 100
    ·rw [if_pos c10] at H
     have c10b0 : decide ((l0.length : Int) ≤ 100) = true := decide_eq_true c10
     have c10b1 : decide (l0.length ≤ 100) = true := decide_eq_true (by omega)
     clear c10
     by_cases c11 : (x195000_1.length : Int) = (l0.length : Int)
     ·rw [if_pos c11] at H
      have c11b0 : ((x195000_1.length : Int) == (l0.length : Int)) = true := beq_iff_eq.mpr c11
      have c11b1 : ((x195000_1.length : Int) != (l0.length : Int)) = false := bne_eq_false_iff_eq.mpr c11
      have c11b2 : (x195000_1.length == l0.length) = true := by first | simpa using c11 | (simp at c11 ⊢; omega)
      clear c11
      replace H := bm_ H
      obtain ⟨t197, A120, H⟩ := H
      replace H : (some (x195000_1, t197)) = some (r1, r2) := H
      have A12 := am_ A120
      clear A120
      simp only [Option.some.injEq, Prod.mk.injEq] at H
      obtain ⟨rfl, rfl⟩ := H
      go_wp2_with (first | ((with_reducible refine a9i (m := .tmp 24) (T := 59) rfl ?_); (try (refine a2a (by rfl) ?_; dsimp only)); refine a8n rfl (.tmp 24) 59 rfl (M := x195000_1) Try.underlying59 (qk_ BK194) rfl ?_) | (go_at_call 47; (with_reducible refine (a0u.calls k1 _ _ l0  t197 _ ?s1 ?s2 A12.out).mono ?_); (case s1 => exact qc_ HR0); (case s2 => exact HC0.out); rintro e w13 ⟨rfl, hb⟩; replace BK194 := am_ (a2v (g := gb194) (o := a1o (fun x_ : S30 => Value.agg #[.int .i64 x_.f0, .int .i64 x_.f1, .int .i64 x_.f2, .int .i64 x_.f3, .int .i64 x_.f4.f0, .int .i64 x_.f4.f1]) x195000_1) (qk_ BK194) hb); replace HB := qbs_ hb; (try clear hb); (try clear hb2); (try clear hk); (try clear hi)))
      go_ret2
      exact ⟨_, GE194.out, qx_, by refine qd_ ?_; exact BK194.out, qb_⟩
     ·rw [if_neg c11] at H
      have c11b0 : ((x195000_1.length : Int) == (l0.length : Int)) = false := beq_eq_false_iff_ne.mpr c11
      have c11b1 : ((x195000_1.length : Int) != (l0.length : Int)) = true := bne_iff_ne.mpr c11
      have c11b2 : (x195000_1.length == l0.length) = false := by first | simpa using c11 | (simp at c11 ⊢; omega)
      simp only [Option.some.injEq, Prod.mk.injEq] at H
      obtain ⟨rfl, rfl⟩ := H
      go_wp2_with (first | ((with_reducible refine a9i (m := .tmp 24) (T := 59) rfl ?_); (try (refine a2a (by rfl) ?_; dsimp only)); refine a8n rfl (.tmp 24) 59 rfl (M := x195000_1) Try.underlying59 (qk_ BK194) rfl ?_))
      go_ret2
      exact ⟨_, GE194.out, qx_, by refine qd_ ?_; exact BK194.out, qb_⟩
    ·rw [if_neg c10] at H
     have c10b0 : decide ((l0.length : Int) ≤ 100) = false := decide_eq_false c10
     have c10b1 : decide (l0.length ≤ 100) = false := decide_eq_false (by omega)
     clear c10
     simp only [Option.some.injEq, Prod.mk.injEq] at H
     obtain ⟨rfl, rfl⟩ := H
     go_wp2
     go_ret2
     exact ⟨_, GE194.out, qx_, by refine qd_ ?_; exact BK194.out, qb_⟩
def a2t.f (k : Nat) (l0 : List (S30)) : Option (Bool) := (a1w.f k l0).bind fun bt198 => (some bt198.2)
theorem a2t.mono : ∀ a0 k, LeO (a2t.f k a0) (a2t.f (k + 1) a0) := by
 intro a0 k
 unfold a2t.f
 with_reducible (repeat' first | apply a1w.mono | apply LeO.refl | apply LeO.none | apply LeO.ite | refine LeO.bind ?_ (fun _ => ?_))
set_option maxHeartbeats 8000000 in
set_option maxRecDepth 100000 in
theorem a2t.calls (k : Nat) (A0 : Option Addr) (c0 : Nat) (l0 : List (S30)) (r : Bool) (w : World) (hr0 : Kd.C k30 w A0 l0.length l0) (hc0 : l0.length ≤ c0) (h : a2t.f k l0 = some r) :
  Calls Try.prog 16 #[.slice A0 l0.length c0] w fun e w' => e = .returned (.bool r) ∧ Below w.heap.size w w' := by
 have HR0 := am_ hr0
 have HC0 := am_ hc0
 clear hr0 hc0
 have HB := am_ (Below.refl w.heap.size w)
 have H : ((a1w.f k l0).bind fun bt198 => (some bt198.2)) = some r := h
 clear h
 replace H := bm_ H
 obtain ⟨⟨t198, t200⟩, A20, H⟩ := H
 replace H : (some t200) = some r := H
 have A2 := am_ A20
 clear A20
 obtain rfl := si_ H
 go_enter Try.func16, Try.ntmps16
 go_wp2_with (first | ((with_reducible refine a1c (f := 28) rfl ?_); refine a1y (some 7) rfl rfl Try.func28 (by kernel_rfl) rfl #[.slice A0 l0.length c0] rfl ql_ ?_; (with_reducible refine (a1w.calls k _ _ l0 t198 t200 _ ?s1 ?s2 A2.out).mono ?_); (case s1 => repeat (first | exact HR0.out | (with_reducible refine Kd.a5b ?_ _) | (with_reducible refine Kd.a5c ?_ _) | (with_reducible refine Kd.a5p ?_))); (case s2 => exact HC0.out); rintro e w3 ⟨gb199, hg, rfl, hbox, hb⟩; refine ⟨_, rfl, ?_⟩; have BK199 := am_ (hbox); have GW199 := am_ ((Nat.le_trans ((a1s qb_)) hg : w.heap.size ≤ gb199)); have GE199 := am_ ((Nat.le_trans ((a1s qb_)) hg : w.heap.size ≤ gb199)); replace HB := qbs_ hb; clear hb hbox hg))
 go_ret
 exact ⟨qx_, qb_⟩
end Go.Proofs.Ytfbgkcadnmcakaa.Px
