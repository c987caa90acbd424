/- Contracts of Go functions, printed. Conditions: as each theorem states. -/
import Derived.Test.YtemnlgefngjliaaPx0
import Derived.Test.YtemnlgefngjliaaPx5
namespace Go.Proofs.Ytemnlgefngjliaa.Px
open Go.Proofs.Ytemnlgefngjliaa.Given
open Go.RowKit Go.Proofs.YtemnlgefngjliaaW.PrintWords Go.Proofs.YtemnlgefngjliaaW.PrintLast Go.Proofs.YtemnlgefngjliaaW.PrintMore
attribute [local go_sem] a2f a2g a2r a2s a1x a1y a2h a2i
set_option linter.unusedVariables false
set_option linter.unusedSimpArgs false
def a3i.l0 : Nat → Int → List (S43) → Int → Int → Int → Int → Int → Int → Bool → Int → Int → Int → List ByteArray → List (S43) → List Int → ByteArray → List Int → Option (Bool)
 | 0, _, _, _, _, _, _, _, _, _, _, _, _, _, _, _, _, _ => none
 | k + 1, x3, x8, x9, x10, u0, u1, u2, u3, u4, u5, u6, u7, u8, u9, u10, u11, u12 => if x10 < x9 then (if 0 ≤ x10 then (if x10 < (x8.length : Int) then (a3i.l0 k (wrap64 (x3 + ((a0a x8 x10).f1))) x8 x9 (wrap64 (x10 + 1)) u0 u1 u2 u3 u4 u5 u6 u7 u8 u9 u10 u11 u12) else (none)) else (none)) else ((a0o.f k u0 u1 u2 u3 u4 u5 u6 u7 u8 u9 u10 u11 u12).bind fun t169 => ((a3v.f k t169).bind fun t172 => (some (decide ((wrap64 (t172 * u2)) < (wrap64 (u1 * x3)))))))
def a3i.f (k : Nat) (a0_0 a0_1 a0_2 a0_3 : Int) (a0_4 : Bool) (a0_5 a0_6 a0_7 : Int) (l0_8 : List ByteArray) (l0_9 : List (S43)) (l0_10 : List Int) (a0_11 : ByteArray) (l0_12 : List Int) : Option (Bool) := a3i.l0 k 0 l0_9 (l0_9.length : Int) 0 a0_0 a0_1 a0_2 a0_3 a0_4 a0_5 a0_6 a0_7 l0_8 l0_9 l0_10 a0_11 l0_12
theorem a3i.a0t : ∀ k, (∀ y0 y1 y2 y3 y4 y5 y6 y7 y8 y9 y10 y11 y12 y13 y14 y15 y16, LeO (a3i.l0 k y0 y1 y2 y3 y4 y5 y6 y7 y8 y9 y10 y11 y12 y13 y14 y15 y16) (a3i.l0 (k + 1) y0 y1 y2 y3 y4 y5 y6 y7 y8 y9 y10 y11 y12 y13 y14 y15 y16))
 | 0 => fun _ _ _ _ _ _ _ _ _ _ _ _ _ _ _ _ _ r h => by simp [a3i.l0] at h
 | k + 1 => by
  have ih0 := a3i.a0t k
  ·intro y0 y1 y2 y3 y4 y5 y6 y7 y8 y9 y10 y11 y12 y13 y14 y15 y16
   unfold a3i.l0
   with_reducible (repeat' first | apply ih0 | apply a0o.mono | apply a3v.mono | apply LeO.refl | apply LeO.none | apply LeO.ite | refine LeO.bind ?_ (fun _ => ?_))
theorem a3i.mono : ∀ a0 a1 a2 a3 a4 a5 a6 a7 a8 a9 a10 a11 a12 k, LeO (a3i.f k a0 a1 a2 a3 a4 a5 a6 a7 a8 a9 a10 a11 a12) (a3i.f (k + 1) a0 a1 a2 a3 a4 a5 a6 a7 a8 a9 a10 a11 a12) := by
 intro a0 a1 a2 a3 a4 a5 a6 a7 a8 a9 a10 a11 a12 k
 have ih0 := a3i.a0t k
 unfold a3i.f
 with_reducible (repeat' first | apply ih0 | apply a0o.mono | apply a3v.mono | apply LeO.refl | apply LeO.none | apply LeO.ite | refine LeO.bind ?_ (fun _ => ?_))
def a3i.T7 : Bool × List (List Nat × List Nat) := (true, [([], []), ([0], [0]), ([1, 1], [1]), ([], []), ([3], [3]), ([4], [4]), ([5], [5]), ([2, 6], [2, 6]), ([], []), ([8], [8]), ([9], [9]), ([10], [10]), ([], []), ([11, 12], [11, 12]), ([7, 13], [7, 13]), ([14, 2, 0, 1, 2, 3, 4, 5, 6, 7, 8, 9, 10, 11, 12, 13, 14], [14])])
def a3i.B7 : List Nat := [0, 1, 3, 0, 8, 24, 56, 127, 0, 256, 768, 1792, 0, 7936, 16383, 32767]
theorem a3i.tab7 : rtab .any (opsOf Try.f46 7) = a3i.T7 := by kernel_rfl
theorem a3i.a9m : a4z a3i.T7.2 a3i.B7 = true := by kernel_rfl
set_option maxHeartbeats 8000000 in
set_option maxRecDepth 100000 in
theorem a3i.calls (k : Nat) (a0_0 a0_1 a0_2 a0_3 : Int) (a0_4 : Bool) (a0_5 a0_6 a0_7 : Int) (A0_8 : Option Addr) (c0_8 : Nat) (l0_8 : List ByteArray) (A0_9 : Option Addr) (c0_9 : Nat) (l0_9 : List (S43)) (A0_10 : Option Addr) (c0_10 : Nat) (l0_10 : List Int) (a0_11 : ByteArray) (A0_12 : Option Addr) (c0_12 : Nat) (l0_12 : List Int) (r : Bool) (w : World) (hr0_8 : Kd.C Kd.string w A0_8 l0_8.length l0_8) (hc0_8 : l0_8.length ≤ c0_8) (hr0_9 : Kd.C k43 w A0_9 l0_9.length l0_9) (hc0_9 : l0_9.length ≤ c0_9) (hr0_10 : Kd.C (Kd.int .i64) w A0_10 l0_10.length l0_10) (hc0_10 : l0_10.length ≤ c0_10) (hr0_12 : Kd.C (Kd.int .i64) w A0_12 l0_12.length l0_12) (hc0_12 : l0_12.length ≤ c0_12) (h : a3i.f k a0_0 a0_1 a0_2 a0_3 a0_4 a0_5 a0_6 a0_7 l0_8 l0_9 l0_10 a0_11 l0_12 = some r) :
  Calls Try.prog 46 #[.agg #[.int .i64 a0_0, .int .i64 a0_1, .int .i64 a0_2, .int .i64 a0_3, .bool a0_4, .int .i64 a0_5, .int .i64 a0_6, .int .i64 a0_7, .slice A0_8 l0_8.length c0_8, .slice A0_9 l0_9.length c0_9, .slice A0_10 l0_10.length c0_10, .string a0_11, .slice A0_12 l0_12.length c0_12]] w fun e w' => e = .returned (.bool r) ∧ Below w.heap.size w w' := by
 have hu62 := Try.underlying62
 have hu43 := Try.underlying43
 have HR0_8 := am_ hr0_8
 have HC0_8 := am_ hc0_8
 clear hr0_8 hc0_8
 have HR0_9 := am_ hr0_9
 have HC0_9 := am_ hc0_9
 clear hr0_9 hc0_9
 have HR0_10 := am_ hr0_10
 have HC0_10 := am_ hc0_10
 clear hr0_10 hc0_10
 have HR0_12 := am_ hr0_12
 have HC0_12 := am_ hc0_12
 clear hr0_12 hc0_12
 have HB := am_ (Below.refl w.heap.size w)
 have H : (a3i.l0 k 0 l0_9 (l0_9.length : Int) 0 a0_0 a0_1 a0_2 a0_3 a0_4 a0_5 a0_6 a0_7 l0_8 l0_9 l0_10 a0_11 l0_12) = some r := h
 clear h
 have H' := am_ H
 clear H
 go_enter Try.func46, Try.ntmps46
 go_wp2_with (first | ((with_reducible refine a0f (N := 1) rfl ?_); refine qev_ 1 #[.int .i64 a0_0, .int .i64 a0_1, .int .i64 a0_2, .int .i64 a0_3, .bool a0_4, .int .i64 a0_5, .int .i64 a0_6, .int .i64 a0_7, .slice A0_8 l0_8.length c0_8, .slice A0_9 l0_9.length c0_9, .slice A0_10 l0_10.length c0_10, .string a0_11, .slice A0_12 l0_12.length c0_12] 62 ?_; intro gb166 hg w2 hbox hb; have BK166 := am_ (hbox); have GW166 := qga_ hg; have GE166 := qga_ hg; replace HB := qbs_ hb; clear hb hbox hg; obtain ⟨z'3_0, z'3_1, z'3_2, z'3_3, z'3_4, z'3_5, z'3_6, z'3_7, z'3_8, z'3_9, z'3_10, z'3_11, z'3_12⟩ := a1u BK166; obtain ⟨y'3_0, y'3_1, y'3_2, y'3_3, y'3_4, y'3_5, y'3_6, y'3_7, y'3_8, y'3_9, y'3_10, y'3_11, y'3_12⟩ := a1v BK166))
 go_loopg [3, 10] k (fun kq v3 v10 w' => ∃ (x3_1 : Int) (x10_1 : Int), v3 = .int .i64 x3_1 ∧ v10 = .int .i64 x10_1 ∧ Aside0 (a3i.l0 kq x3_1 l0_9 (l0_9.length : Int) x10_1 a0_0 a0_1 a0_2 a0_3 a0_4 a0_5 a0_6 a0_7 l0_8 l0_9 l0_10 a0_11 l0_12 = some r) ∧ Aside0 (kq ≤ k) ∧ Aside0 (w'.heap[gb166]? = some (.cells #[.int .i64 a0_0, .int .i64 a0_1, .int .i64 a0_2, .int .i64 a0_3, .bool a0_4, .int .i64 a0_5, .int .i64 a0_6, .int .i64 a0_7, (.slice A0_8 l0_8.length c0_8), (.slice A0_9 l0_9.length c0_9), (.slice A0_10 l0_10.length c0_10), .string a0_11, (.slice A0_12 l0_12.length c0_12)] 62 (0, 0))) ∧ Aside0 (Below w.heap.size w w'))
 case atStart => exact ⟨(0), (0), qs_, qs_, H', ⟨Nat.le_refl _⟩, ⟨qk_ BK166⟩, ⟨qb_⟩⟩
 case round =>
  clear H'
  try clear p2
  try clear z'3_0 z'3_1 z'3_10 z'3_11 z'3_12 z'3_2 z'3_3 z'3_4 z'3_5 z'3_6 z'3_7 z'3_8 z'3_9
  try clear y'3_0 y'3_1 y'3_10 y'3_11 y'3_12 y'3_2 y'3_3 y'3_4 y'3_5 y'3_6 y'3_7 y'3_8 y'3_9
  obtain ⟨x3_1, x10_1, rfl, rfl, HA, HK1, BK166, HB⟩ := hrel
  cases gk with
  | zero => exact absurd HA.out (by simp [a3i.l0])
  | succ k1 =>
   have H := HA.out
   clear HA
   simp only [a3i.l0] at H
   by_cases c4 : x10_1 < (l0_9.length : Int)
   ·rw [if_pos c4] at H
    have c4b0 : decide (x10_1 < (l0_9.length : Int)) = true := decide_eq_true c4
    clear c4
    by_cases c5 : 0 ≤ x10_1
    ·rw [if_pos c5] at H
     have c5b0 : decide (0 ≤ x10_1) = true := decide_eq_true c5
     clear c5
     by_cases c6 : x10_1 < (l0_9.length : Int)
     ·rw [if_pos c6] at H
      have c6b0 : decide (x10_1 < (l0_9.length : Int)) = true := decide_eq_true c6
      clear c6
      have H' := am_ H
      clear H
      have p167 : 0 ≤ (x10_1 : Int) := ot_
      have q167 : x10_1 < (l0_9.length : Int) := ot_
      obtain ⟨ad167, e167, hx167_0, hx167_1, hx167_2⟩ := a2p HR0_9.out x10_1 p167 q167
      cases e167
      replace hx167_0 := qh_ HB hx167_0
      replace hx167_1 := qh_ HB hx167_1
      replace hx167_2 := qh_ HB hx167_2
      replace p167 := eq_true p167
      replace q167 := eq_true q167
      go_wp2_with (first | ((with_reducible refine a0f (N := 5) rfl ?_); refine qev_ 5 #[.int .i64 0, .int .i64 0, .int .i64 0] 43 ?_; intro gb168 hg w7 hbox hb; have BK168 := am_ (hbox); have GW168 := qga_ hg; have GE168 := qga_ hg; replace HB := qbs_ hb; have NB166_168 := am_ ((by rw [hg]; exact Nat.ne_of_lt (a0u (qk_ BK166)) : gb166 ≠ gb168)); have NB168_166 := am_ ((by rw [hg]; exact Nat.ne_of_gt (a0u (qk_ BK166)) : gb168 ≠ gb166)); replace BK166 := qkb_ BK166 hb; clear hb hbox hg; have hnb8 := NB168_166.out; have hnc8 := NB166_168.out; obtain ⟨z'9_0, z'9_1, z'9_2⟩ := qz3_ BK168; obtain ⟨y'9_0, y'9_1, y'9_2⟩ := qf3_ BK168))
      go_roundg k1
      case measure => have := HK1.out; omega
      case rel => exact ⟨(wrap64 (x3_1 + ((a0a l0_9 x10_1).f1))), (wrap64 (x10_1 + 1)), qs_, qs_, H', ⟨by have := HK1.out; omega⟩, ⟨by refine qd_ ?_; refine a0b ?_ NB166_168.out _; refine qd_ ?_; refine a0b ?_ NB166_168.out _; refine qd_ ?_; refine a0b ?_ NB166_168.out _; refine qd_ ?_; exact BK166.out⟩, ⟨qb_⟩⟩
     ·rw [if_neg c6] at H
      exact absurd H (by simp)
    ·rw [if_neg c5] at H
     exact absurd H (by simp)
   ·rw [if_neg c4] at H
    have c4b0 : decide (x10_1 < (l0_9.length : Int)) = false := decide_eq_false c4
    clear c4
    replace H := bm_ H
    obtain ⟨t169, A100, H⟩ := H
    replace H : ((a3v.f k1 t169).bind fun t172 => (some (decide ((wrap64 (t172 * a0_2)) < (wrap64 (a0_1 * x3_1)))))) = some r := H
    have A10 := am_ A100
    clear A100
    replace H := bm_ H
    obtain ⟨t172, A110, H⟩ := H
    replace H : (some (decide ((wrap64 (t172 * a0_2)) < (wrap64 (a0_1 * x3_1))))) = some r := H
    have A11 := am_ A110
    clear A110
    obtain rfl := si_ H
    try go_wp2
    replace BK166 := am_ (bd_ BK166.out)
    replace HB := am_ (ld_ HB.out)
    refine a5m (n := 16) (S := fun w' => w'.cell? ⟨gb166, 0, none⟩ = some (.int .i64 a0_0) ∧ w'.cell? ⟨gb166, 1, none⟩ = some (.int .i64 a0_1) ∧ w'.cell? ⟨gb166, 2, none⟩ = some (.int .i64 a0_2) ∧ w'.cell? ⟨gb166, 3, none⟩ = some (.int .i64 a0_3) ∧ w'.cell? ⟨gb166, 4, none⟩ = some (.bool a0_4) ∧ w'.cell? ⟨gb166, 5, none⟩ = some (.int .i64 a0_5) ∧ w'.cell? ⟨gb166, 6, none⟩ = some (.int .i64 a0_6) ∧ w'.cell? ⟨gb166, 7, none⟩ = some (.int .i64 a0_7) ∧ w'.cell? ⟨gb166, 8, none⟩ = some (.slice A0_8 l0_8.length c0_8) ∧ w'.cell? ⟨gb166, 9, none⟩ = some (.slice A0_9 l0_9.length c0_9) ∧ w'.cell? ⟨gb166, 10, none⟩ = some (.slice A0_10 l0_10.length c0_10) ∧ w'.cell? ⟨gb166, 11, none⟩ = some (.string a0_11) ∧ w'.cell? ⟨gb166, 12, none⟩ = some (.slice A0_12 l0_12.length c0_12)) (ds := []) #[i_,i_,i_,i_,i_,i_,i_,i_,i_,i_,i_,i_,i_,i_,i_,i_] (by kernel_rfl) rfl rfl ⟨(bc_ BK166.out 0).trans rfl, (bc_ BK166.out 1).trans rfl, (bc_ BK166.out 2).trans rfl, (bc_ BK166.out 3).trans rfl, (bc_ BK166.out 4).trans rfl, (bc_ BK166.out 5).trans rfl, (bc_ BK166.out 6).trans rfl, (bc_ BK166.out 7).trans rfl, (bc_ BK166.out 8).trans rfl, (bc_ BK166.out 9).trans rfl, (bc_ BK166.out 10).trans rfl, (bc_ BK166.out 11).trans rfl, (bc_ BK166.out 12).trans rfl⟩ (fun hHeld => ?_); refine a4g a3i.tab7 a3i.a9m (fun HT_ HW_ => ?_)
    generalize wr.drew = w12 at BK166 HB hHeld ⊢
    refine qpu_ 3 (some 22) #[i_,i_,i_,o_,i_,i_,i_,i_,i_,i_,i_,i_,i_,i_,i_,i_] ?_
    refine qpu_ 4 (some 23) #[i_,i_,i_,o_,o_,i_,i_,i_,i_,i_,i_,i_,i_,i_,i_,i_] ?_
    refine qpu_ 5 (some 24) #[i_,i_,i_,o_,o_,o_,i_,i_,i_,i_,i_,i_,i_,i_,i_,i_] ?_
    refine qpu_ 8 (some 27) #[i_,i_,i_,o_,o_,o_,i_,i_,o_,i_,i_,i_,i_,i_,i_,i_] ?_
    refine qpu_ 9 (some 28) #[i_,i_,i_,o_,o_,o_,i_,i_,o_,o_,i_,i_,i_,i_,i_,i_] ?_
    refine qpu_ 10 (some 29) #[i_,i_,i_,o_,o_,o_,i_,i_,o_,o_,o_,i_,i_,i_,i_,i_] ?_
    refine qpu_ 12 (some 31) #[i_,i_,i_,o_,o_,o_,i_,i_,o_,o_,o_,i_,o_,i_,i_,i_] ?_
    refine a3r (i := 0) (N := some 19) (v := ?_) (a' := ?_) #[o_,i_,i_,o_,o_,o_,i_,i_,o_,o_,o_,i_,o_,i_,i_,i_] rfl rfl (a2v HT_.out HW_.out (by kernel_rfl)) (fun _ _ _ h => h) (Or.inl ⟨by rfl, ?_⟩) hHeld ?_ ?_
    rotate_left
    ·rintro w' ⟨s0, s1, s2, s3, s4, s5, s6, s7, s8, s9, s10, s11, s12⟩
     go_simp
     with_reducible rfl
    rotate_left
    ·exact qp_
    refine a3r (i := 6) (N := some 25) (v := ?_) (a' := ?_) #[o_,i_,i_,o_,o_,o_,o_,i_,o_,o_,o_,i_,o_,i_,i_,i_] rfl rfl (a2v HT_.out HW_.out (by kernel_rfl)) (fun _ _ _ h => h) (Or.inl ⟨by rfl, ?_⟩) hHeld ?_ ?_
    rotate_left
    ·rintro w' ⟨s0, s1, s2, s3, s4, s5, s6, s7, s8, s9, s10, s11, s12⟩
     go_simp
     with_reducible rfl
    rotate_left
    ·exact qp_
    refine a3r (i := 11) (N := some 30) (v := ?_) (a' := ?_) #[o_,i_,i_,o_,o_,o_,o_,i_,o_,o_,o_,o_,o_,i_,i_,i_] rfl rfl (a2v HT_.out HW_.out (by kernel_rfl)) (fun _ _ _ h => h) (Or.inl ⟨by rfl, ?_⟩) hHeld ?_ ?_
    rotate_left
    ·rintro w' ⟨s0, s1, s2, s3, s4, s5, s6, s7, s8, s9, s10, s11, s12⟩
     go_simp
     with_reducible rfl
    rotate_left
    ·exact qp_
    refine qpu_ 13 (some 32) #[o_,i_,i_,o_,o_,o_,o_,i_,o_,o_,o_,o_,o_,o_,i_,i_] ?_
    refine one_ (i := 1) (N := some 20) #[o_,o_,i_,o_,o_,o_,o_,i_,o_,o_,o_,o_,o_,o_,i_,i_] rfl rfl (a4c HT_.out (by kernel_rfl)) (by decide) (fun K hK => ?_)
    refine a5e Try.func32 (by kernel_rfl) rfl #[.agg #[.int .i64 a0_0, .int .i64 a0_1, .int .i64 a0_2, .int .i64 a0_3, .bool a0_4, .int .i64 a0_5, .int .i64 a0_6, .int .i64 a0_7, .slice A0_8 l0_8.length c0_8, .slice A0_9 l0_9.length c0_9, .slice A0_10 l0_10.length c0_10, .string a0_11, .slice A0_12 l0_12.length c0_12], .func (.func 34) #[] #[]] (by rfl) rfl rfl ql_ ?_
    with_reducible refine (a0o.calls k1 a0_0 a0_1 a0_2 a0_3 a0_4 a0_5 a0_6 a0_7 _ _ l0_8 _ _ l0_9 _ _ l0_10 a0_11 _ _ l0_12  t169 _ ?s1 ?s2 ?s3 ?s4 ?s5 ?s6 ?s7 ?s8 A10.out).mono ?_
    (case s1 => exact qc_ HR0_8)
    (case s2 => exact HC0_8.out)
    (case s3 => exact qc_ HR0_9)
    (case s4 => exact HC0_9.out)
    (case s5 => exact qc_ HR0_10)
    (case s6 => exact HC0_10.out)
    (case s7 => exact qc_ HR0_12)
    (case s8 => exact HC0_12.out)
    rintro e w13 ⟨v170, rfl, ho0, hb⟩
    refine ⟨_, rfl, ?_⟩
    have HO171 := am_ (Kd.a2d ho0 (a0x qb_))
    replace BK166 := qkb_ BK166 hb
    replace HB := qbs_ hb
    (try clear hb)
    (try clear hb2)
    (try clear hk)
    (try clear hi)
    (try clear ho0)
    obtain ⟨Ao14, co14, eo14⟩ := Kd.a1p HO171.out
    (first | subst eo14 | (injection eo14 with f1_ f2_ f3_; have f4_ := f1_.symm; have f5_ := f3_.symm; clear f1_ f2_ f3_; subst f4_; subst f5_))
    refine hK.out _ _ ⟨(bc_ BK166.out 0).trans rfl, (bc_ BK166.out 1).trans rfl, (bc_ BK166.out 2).trans rfl, (bc_ BK166.out 3).trans rfl, (bc_ BK166.out 4).trans rfl, (bc_ BK166.out 5).trans rfl, (bc_ BK166.out 6).trans rfl, (bc_ BK166.out 7).trans rfl, (bc_ BK166.out 8).trans rfl, (bc_ BK166.out 9).trans rfl, (bc_ BK166.out 10).trans rfl, (bc_ BK166.out 11).trans rfl, (bc_ BK166.out 12).trans rfl⟩ (fun hHeld => ?_)
    clear hK K
    refine a4s (a' := ?_) ?_ ?_
    rotate_left
    ·show Act.put _ (some 20) _ = _
     exact qp_
    refine one_ (i := 2) (N := some 21) #[o_,o_,o_,o_,o_,o_,o_,i_,o_,o_,o_,o_,o_,o_,i_,i_] rfl rfl (a4c HT_.out (by kernel_rfl)) (by decide) (fun K hK => ?_)
    refine a5e Try.func63 (by kernel_rfl) rfl #[.slice Ao14 t169.length co14] (by rfl) rfl rfl ql_ ?_
    with_reducible refine (a3v.calls k1 _ _ t169 t172 _ ?s1 ?s2 A11.out).mono ?_
    (case s1 => exact qv_ (Kd.a0q HO171.out).2.2)
    (case s2 => exact (Kd.a0q HO171.out).2.1)
    rintro e w' ⟨rfl, ⟨nd, rfl⟩⟩
    refine ⟨_, rfl, ?_⟩
    refine hK.out _ _ ⟨(bc_ BK166.out 0).trans rfl, (bc_ BK166.out 1).trans rfl, (bc_ BK166.out 2).trans rfl, (bc_ BK166.out 3).trans rfl, (bc_ BK166.out 4).trans rfl, (bc_ BK166.out 5).trans rfl, (bc_ BK166.out 6).trans rfl, (bc_ BK166.out 7).trans rfl, (bc_ BK166.out 8).trans rfl, (bc_ BK166.out 9).trans rfl, (bc_ BK166.out 10).trans rfl, (bc_ BK166.out 11).trans rfl, (bc_ BK166.out 12).trans rfl⟩ (fun hHeld => ?_)
    clear hK K
    refine a4s (a' := ?_) ?_ ?_
    rotate_left
    ·show Act.put _ (some 21) _ = _
     exact qp_
    refine qpu_ 7 (some 26) #[o_,o_,o_,o_,o_,o_,o_,o_,o_,o_,o_,o_,o_,o_,i_,i_] ?_
    refine qpu_ 14 (some 33) #[o_,o_,o_,o_,o_,o_,o_,o_,o_,o_,o_,o_,o_,o_,o_,i_] ?_
    refine qpu_ 15 (some 2) #[o_,o_,o_,o_,o_,o_,o_,o_,o_,o_,o_,o_,o_,o_,o_,o_] ?_
    refine a5z (a4y HT_.out (by kernel_rfl)) ?_
    try go_wp2
    go_ret
    exact ⟨qx_, qb_⟩
def a7w.f (a0_0 a0_1 a0_2 : Int) : Option (Int) := some 1
set_option maxHeartbeats 8000000 in
set_option maxRecDepth 100000 in
theorem a7w.calls (a0_0 a0_1 a0_2 r : Int) (w : World) (h : a7w.f a0_0 a0_1 a0_2 = some r) :
  Calls Try.prog 33 #[.agg #[.int .i64 a0_0, .int .i64 a0_1, .int .i64 a0_2]] w fun e w' => e = .returned (.int .i64 r) ∧ Below w.heap.size w w' := by
 have hu43 := Try.underlying43
 have HB := am_ (Below.refl w.heap.size w)
 have H : (some 1) = some r := h
 clear h
 obtain rfl := si_ H
 go_enter Try.func33, Try.ntmps33
 go_wp2_with (first | ((with_reducible refine a0f (N := 1) rfl ?_); refine qev_ 1 #[.int .i64 a0_0, .int .i64 a0_1, .int .i64 a0_2] 43 ?_; intro gb173 hg w2 hbox hb; have BK173 := am_ (hbox); have GW173 := qga_ hg; have GE173 := qga_ hg; replace HB := qbs_ hb; clear hb hbox hg))
 go_ret
 exact ⟨qx_, qb_⟩
end Go.Proofs.Ytemnlgefngjliaa.Px
