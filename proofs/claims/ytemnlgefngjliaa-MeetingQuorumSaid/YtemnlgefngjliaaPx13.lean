/- Contracts of Go functions, printed. Conditions: as each theorem states. -/
import Derived.Test.YtemnlgefngjliaaPx0
import Derived.Test.YtemnlgefngjliaaPx2
import Derived.Test.YtemnlgefngjliaaPx5
import Derived.Test.YtemnlgefngjliaaPx7
import Derived.Test.YtemnlgefngjliaaPx9
import Derived.Test.YtemnlgefngjliaaPx12
namespace Go.Proofs.Ytemnlgefngjliaa.Px
open Go.Proofs.Ytemnlgefngjliaa.Given
open Go.RowKit Go.Proofs.YtemnlgefngjliaaW.PrintWords Go.Proofs.YtemnlgefngjliaaW.PrintLast Go.Proofs.YtemnlgefngjliaaW.PrintMore
attribute [local go_sem] a2f a2g a2r a2s a1x a1y a2h a2i
set_option linter.unusedVariables false
set_option linter.unusedSimpArgs false
def a1t.j0 : Nat → Bool → Int → Int → Int → Int → Bool → Int → Int → Int → Int → Bool → Int → Int → Int → List ByteArray → List (S43) → List Int → ByteArray → Option (List Int × Int)
 | 0, _, _, _, _, _, _, _, _, _, _, _, _, _, _, _, _, _, _ => none
 | k + 1, x17, u0, u1, u2, u3, u4, u5, u6, u7, u8, u9, u10, u11, u12, u13, u14, u15, u16 => if x17 = true then (some (([] : List Int), 1)) else (if u4 = true then ((a1b.f k u5 u6 u7 u8 u9 u10 u11 u12 u13 u14 u15 u16 ([] : List Int)).bind fun t236 => (some (t236, 0))) else ((a0o.f k u5 u6 u7 u8 u9 u10 u11 u12 u13 u14 u15 u16 ([] : List Int)).bind fun t239 => (some (t239, 0))))
def a1t.f (k : Nat) (a0_0 a0_1 a0_2 a0_3 : Int) (a0_4 : Bool) (a1_0 a1_1 a1_2 : Int) (l1_3 : List ByteArray) (l1_4 : List (S43)) (l1_5 : List Int) : Option (List Int × Int) := (a3p.f a0_0 a0_1 a0_2 a0_3 a0_4).bind fun t234 => (if t234 = true then ((a0l.f k a0_0 a0_1 a0_2 a0_3 a0_4 a1_0 a1_1 a1_2 l1_3 l1_4 l1_5 (⟨#[]⟩ : ByteArray) ([] : List Int)).bind fun t235 => (a1t.j0 k (!t235) a0_0 a0_1 a0_2 a0_3 a0_4 a0_0 a0_1 a0_2 a0_3 a0_4 a1_0 a1_1 a1_2 l1_3 l1_4 l1_5 (⟨#[]⟩ : ByteArray))) else (a1t.j0 k true a0_0 a0_1 a0_2 a0_3 a0_4 a0_0 a0_1 a0_2 a0_3 a0_4 a1_0 a1_1 a1_2 l1_3 l1_4 l1_5 (⟨#[]⟩ : ByteArray)))
theorem a1t.a0t : ∀ k, (∀ y0 y1 y2 y3 y4 y5 y6 y7 y8 y9 y10 y11 y12 y13 y14 y15 y16 y17, LeO (a1t.j0 k y0 y1 y2 y3 y4 y5 y6 y7 y8 y9 y10 y11 y12 y13 y14 y15 y16 y17) (a1t.j0 (k + 1) y0 y1 y2 y3 y4 y5 y6 y7 y8 y9 y10 y11 y12 y13 y14 y15 y16 y17))
 | 0 => fun _ _ _ _ _ _ _ _ _ _ _ _ _ _ _ _ _ _ r h => by simp [a1t.j0] at h
 | k + 1 => by
  have ih0 := a1t.a0t k
  ·intro y0 y1 y2 y3 y4 y5 y6 y7 y8 y9 y10 y11 y12 y13 y14 y15 y16 y17
   unfold a1t.j0
   with_reducible (repeat' first | apply ih0 | apply a0l.mono | apply a1b.mono | apply a0o.mono | apply LeO.refl | apply LeO.none | apply LeO.ite | refine LeO.bind ?_ (fun _ => ?_))
theorem a1t.mono : ∀ a0 a1 a2 a3 a4 a5 a6 a7 a8 a9 a10 k, LeO (a1t.f k a0 a1 a2 a3 a4 a5 a6 a7 a8 a9 a10) (a1t.f (k + 1) a0 a1 a2 a3 a4 a5 a6 a7 a8 a9 a10) := by
 intro a0 a1 a2 a3 a4 a5 a6 a7 a8 a9 a10 k
 have ih0 := a1t.a0t k
 unfold a1t.f
 with_reducible (repeat' first | apply ih0 | apply a0l.mono | apply a1b.mono | apply a0o.mono | apply LeO.refl | apply LeO.none | apply LeO.ite | refine LeO.bind ?_ (fun _ => ?_))
set_option maxHeartbeats 8000000 in
set_option maxRecDepth 100000 in
theorem a1t.calls (k : Nat) (a0_0 a0_1 a0_2 a0_3 : Int) (a0_4 : Bool) (a1_0 a1_1 a1_2 : Int) (A1_3 : Option Addr) (c1_3 : Nat) (l1_3 : List ByteArray) (A1_4 : Option Addr) (c1_4 : Nat) (l1_4 : List (S43)) (A1_5 : Option Addr) (c1_5 : Nat) (l1_5 r1 : List Int) (r2 : Int) (w : World) (hr1_3 : Kd.C Kd.string w A1_3 l1_3.length l1_3) (hc1_3 : l1_3.length ≤ c1_3) (hr1_4 : Kd.C k43 w A1_4 l1_4.length l1_4) (hc1_4 : l1_4.length ≤ c1_4) (hr1_5 : Kd.C (Kd.int .i64) w A1_5 l1_5.length l1_5) (hc1_5 : l1_5.length ≤ c1_5) (h : a1t.f k a0_0 a0_1 a0_2 a0_3 a0_4 a1_0 a1_1 a1_2 l1_3 l1_4 l1_5 = some (r1, r2)) :
  Calls Try.prog 13 #[.agg #[.int .i64 a0_0, .int .i64 a0_1, .int .i64 a0_2, .int .i64 a0_3, .bool a0_4], .agg #[.int .i64 a1_0, .int .i64 a1_1, .int .i64 a1_2, .slice A1_3 l1_3.length c1_3, .slice A1_4 l1_4.length c1_4, .slice A1_5 l1_5.length c1_5]] w fun e w' => ∃ v0_ : Value, e = .returned (.tuple #[v0_, .int .i64 r2]) ∧ Kd.R (Kd.int .i64) 3 w' w.heap.size (fun _ => True) v0_ r1 ∧ Below w.heap.size w w' := by
 have hu25 := Try.underlying25
 have hu30 := Try.underlying30
 have hu62 := Try.underlying62
 have HR1_3 := am_ hr1_3
 have HC1_3 := am_ hc1_3
 clear hr1_3 hc1_3
 have HR1_4 := am_ hr1_4
 have HC1_4 := am_ hc1_4
 clear hr1_4 hc1_4
 have HR1_5 := am_ hr1_5
 have HC1_5 := am_ hc1_5
 clear hr1_5 hc1_5
 have HB := am_ (Below.refl w.heap.size w)
 have H : ((a3p.f a0_0 a0_1 a0_2 a0_3 a0_4).bind fun t234 => (if t234 = true then ((a0l.f k a0_0 a0_1 a0_2 a0_3 a0_4 a1_0 a1_1 a1_2 l1_3 l1_4 l1_5 (⟨#[]⟩ : ByteArray) ([] : List Int)).bind fun t235 => (a1t.j0 k (!t235) a0_0 a0_1 a0_2 a0_3 a0_4 a0_0 a0_1 a0_2 a0_3 a0_4 a1_0 a1_1 a1_2 l1_3 l1_4 l1_5 (⟨#[]⟩ : ByteArray))) else (a1t.j0 k true a0_0 a0_1 a0_2 a0_3 a0_4 a0_0 a0_1 a0_2 a0_3 a0_4 a1_0 a1_1 a1_2 l1_3 l1_4 l1_5 (⟨#[]⟩ : ByteArray)))) = some (r1, r2) := h
 clear h
 have HC3 := am_ H
 clear H
 go_enter Try.func13, Try.ntmps13
 go_upto_region 2 with (first | ((with_reducible refine a0f (N := 2) rfl ?_); refine qev_ 2 #[.int .i64 a0_0, .int .i64 a0_1, .int .i64 a0_2, .int .i64 a0_3, .bool a0_4] 25 ?_; intro gb231 hg w4 hbox hb; have BK231 := am_ (hbox); have GW231 := qga_ hg; have GE231 := qga_ hg; replace HB := qbs_ hb; clear hb hbox hg) | ((with_reducible refine a0f (N := 3) rfl ?_); refine qev_ 3 #[.int .i64 a1_0, .int .i64 a1_1, .int .i64 a1_2, .slice A1_3 l1_3.length c1_3, .slice A1_4 l1_4.length c1_4, .slice A1_5 l1_5.length c1_5] 30 ?_; intro gb232 hg w5 hbox hb; have BK232 := am_ (hbox); have GW232 := qga_ hg; have GE232 := qga_ hg; replace HB := qbs_ hb; have NB231_232 := am_ ((by rw [hg]; exact Nat.ne_of_lt (a0u (qk_ BK231)) : gb231 ≠ gb232)); have NB232_231 := am_ ((by rw [hg]; exact Nat.ne_of_gt (a0u (qk_ BK231)) : gb232 ≠ gb231)); replace BK231 := qkb_ BK231 hb; clear hb hbox hg; have hnb6 := NB231_232.out; have hnc6 := NB232_231.out; obtain ⟨z'7_0, z'7_1, z'7_2, z'7_3, z'7_4⟩ := qz5_ BK231; obtain ⟨y'7_0, y'7_1, y'7_2, y'7_3, y'7_4⟩ := qf5_ BK231; obtain ⟨z'8_0, z'8_1, z'8_2, z'8_3, z'8_4, z'8_5⟩ := qz6_ BK232; obtain ⟨y'8_0, y'8_1, y'8_2, y'8_3, y'8_4, y'8_5⟩ := qf6_ BK232) | ((with_reducible refine a0f (N := 6) rfl ?_); refine a7c ?hg (N := 6) ?hd (cs := #[.int .i64 0, .int .i64 0, .int .i64 0, .int .i64 0, .bool false, .int .i64 0, .int .i64 0, .int .i64 0, .slice none 0 0, .slice none 0 0, .slice none 0 0, .string (⟨#[]⟩ : ByteArray), .slice none 0 0]) (t := 62) ?hr ?_; (case hd => rfl); (case hg => rfl); (case hr => exact qq_); intro gb233 hg w9 hbox hb; have BK233 := am_ (hbox); have GW233 := qga_ hg; have GE233 := qga_ hg; replace HB := qbs_ hb; have NB231_233 := am_ ((by rw [hg]; exact Nat.ne_of_lt (a0u (qk_ BK231)) : gb231 ≠ gb233)); have NB233_231 := am_ ((by rw [hg]; exact Nat.ne_of_gt (a0u (qk_ BK231)) : gb233 ≠ gb231)); replace BK231 := qkb_ BK231 hb; have NB232_233 := am_ ((by rw [hg]; exact Nat.ne_of_lt (a0u (qk_ BK232)) : gb232 ≠ gb233)); have NB233_232 := am_ ((by rw [hg]; exact Nat.ne_of_gt (a0u (qk_ BK232)) : gb233 ≠ gb232)); replace BK232 := qkb_ BK232 hb; clear hb hbox hg; have hnb10 := NB233_231.out; have hnc10 := NB231_233.out; have hnb11 := NB233_232.out; have hnc11 := NB232_233.out; obtain ⟨z'12_0, z'12_1, z'12_2, z'12_3, z'12_4, z'12_5, z'12_6, z'12_7, z'12_8, z'12_9, z'12_10, z'12_11, z'12_12⟩ := a1u BK233; obtain ⟨y'12_0, y'12_1, y'12_2, y'12_3, y'12_4, y'12_5, y'12_6, y'12_7, y'12_8, y'12_9, y'12_10, y'12_11, y'12_12⟩ := a1v BK233))
 (try simp only [Act.put, List.setIfInBounds_toArray, List.set_cons_zero, List.set_cons_succ])
 go_cut [17] (fun v17 wc => ∃ (kq : Nat) (x17_2 : Bool), v17 = .bool x17_2 ∧ Aside0 (a1t.j0 kq x17_2 a0_0 a0_1 a0_2 a0_3 a0_4 a0_0 a0_1 a0_2 a0_3 a0_4 a1_0 a1_1 a1_2 l1_3 l1_4 l1_5 (⟨#[]⟩ : ByteArray) = some (r1, r2)) ∧ Aside0 (kq ≤ k) ∧ Aside0 (wc.heap[gb231]? = some (.cells #[.int .i64 a0_0, .int .i64 a0_1, .int .i64 a0_2, .int .i64 a0_3, .bool a0_4] 25 (0, 0))) ∧ Aside0 (wc.heap[gb232]? = some (.cells #[.int .i64 a1_0, .int .i64 a1_1, .int .i64 a1_2, (.slice A1_3 l1_3.length c1_3), (.slice A1_4 l1_4.length c1_4), (.slice A1_5 l1_5.length c1_5)] 30 (0, 0))) ∧ Aside0 (wc.heap[gb233]? = some (.cells #[.int .i64 a0_0, .int .i64 a0_1, .int .i64 a0_2, .int .i64 a0_3, .bool a0_4, .int .i64 a1_0, .int .i64 a1_1, .int .i64 a1_2, (.slice A1_3 l1_3.length c1_3), (.slice A1_4 l1_4.length c1_4), (.slice A1_5 l1_5.length c1_5), .string (⟨#[]⟩ : ByteArray), (.slice none 0 0)] 62 (0, 0))) ∧ Aside0 (Below w.heap.size w wc))
 case first =>
  have H := HC3.out
  clear HC3
  replace H := bm_ H
  obtain ⟨t234, A130, H⟩ := H
  replace H : (if t234 = true then ((a0l.f k a0_0 a0_1 a0_2 a0_3 a0_4 a1_0 a1_1 a1_2 l1_3 l1_4 l1_5 (⟨#[]⟩ : ByteArray) ([] : List Int)).bind fun t235 => (a1t.j0 k (!t235) a0_0 a0_1 a0_2 a0_3 a0_4 a0_0 a0_1 a0_2 a0_3 a0_4 a1_0 a1_1 a1_2 l1_3 l1_4 l1_5 (⟨#[]⟩ : ByteArray))) else (a1t.j0 k true a0_0 a0_1 a0_2 a0_3 a0_4 a0_0 a0_1 a0_2 a0_3 a0_4 a1_0 a1_1 a1_2 l1_3 l1_4 l1_5 (⟨#[]⟩ : ByteArray))) = some (r1, r2) := H
  have A13 := am_ A130
  clear A130
  by_cases c14 : t234 = true
  ·subst c14
   have H1 : ((a0l.f k a0_0 a0_1 a0_2 a0_3 a0_4 a1_0 a1_1 a1_2 l1_3 l1_4 l1_5 (⟨#[]⟩ : ByteArray) ([] : List Int)).bind fun t235 => (a1t.j0 k (!t235) a0_0 a0_1 a0_2 a0_3 a0_4 a0_0 a0_1 a0_2 a0_3 a0_4 a1_0 a1_1 a1_2 l1_3 l1_4 l1_5 (⟨#[]⟩ : ByteArray))) = some (r1, r2) := by rw [if_pos rfl] at H; exact H
   clear H
   have H := H1
   clear H1
   replace H := bm_ H
   obtain ⟨t235, A150, H⟩ := H
   replace H : (a1t.j0 k (!t235) a0_0 a0_1 a0_2 a0_3 a0_4 a0_0 a0_1 a0_2 a0_3 a0_4 a1_0 a1_1 a1_2 l1_3 l1_4 l1_5 (⟨#[]⟩ : ByteArray)) = some (r1, r2) := H
   have A15 := am_ A150
   clear A150
   have H' := am_ H
   clear H
   have hnb16 := NB231_232.out
   have hnc16 := NB232_231.out
   have hnb17 := NB231_233.out
   have hnc17 := NB233_231.out
   obtain ⟨z'18_0, z'18_1, z'18_2, z'18_3, z'18_4⟩ := qz5_ BK231; obtain ⟨y'18_0, y'18_1, y'18_2, y'18_3, y'18_4⟩ := qf5_ BK231
   go_wp2_with (first | ((with_reducible refine a0e (f := 30) rfl ?_); refine a0w (some 11) rfl rfl Try.func30 (by kernel_rfl) rfl #[.agg #[.int .i64 a0_0, .int .i64 a0_1, .int .i64 a0_2, .int .i64 a0_3, .bool a0_4]] rfl ql_ ?_; (with_reducible refine (a3p.calls a0_0 a0_1 a0_2 a0_3 a0_4 true _ A13.out).mono ?_); rintro e w19 ⟨rfl, hb⟩; refine ⟨_, rfl, ?_⟩; replace BK231 := am_ (a1o (g := gb231) (o := .cells #[.int .i64 a0_0, .int .i64 a0_1, .int .i64 a0_2, .int .i64 a0_3, .bool a0_4] 25 (0, 0)) (by refine qd_ ?_; refine a0b ?_ NB231_233.out _; refine qd_ ?_; refine a0b ?_ NB231_233.out _; refine qd_ ?_; refine a0b ?_ NB231_233.out _; refine qd_ ?_; refine a0b ?_ NB231_233.out _; refine qd_ ?_; refine a0b ?_ NB231_233.out _; refine qd_ ?_; refine a0b ?_ NB231_233.out _; refine qd_ ?_; refine a0b ?_ NB231_233.out _; refine qd_ ?_; refine a0b ?_ NB231_233.out _; refine qd_ ?_; refine a0b ?_ NB231_233.out _; refine qd_ ?_; refine a0b ?_ NB231_233.out _; refine qd_ ?_; refine a0b ?_ NB231_233.out _; refine qd_ ?_; refine a0b ?_ NB231_233.out _; refine qd_ ?_; refine a0b ?_ NB231_233.out _; refine qd_ ?_; exact BK231.out) hb); replace BK232 := am_ (a1o (g := gb232) (o := .cells #[.int .i64 a1_0, .int .i64 a1_1, .int .i64 a1_2, .slice A1_3 l1_3.length c1_3, .slice A1_4 l1_4.length c1_4, .slice A1_5 l1_5.length c1_5] 30 (0, 0)) (by refine qd_ ?_; refine a0b ?_ NB232_233.out _; refine qd_ ?_; refine a0b ?_ NB232_233.out _; refine qd_ ?_; refine a0b ?_ NB232_233.out _; refine qd_ ?_; refine a0b ?_ NB232_233.out _; refine qd_ ?_; refine a0b ?_ NB232_233.out _; refine qd_ ?_; refine a0b ?_ NB232_233.out _; refine qd_ ?_; refine a0b ?_ NB232_233.out _; refine qd_ ?_; refine a0b ?_ NB232_233.out _; refine qd_ ?_; refine a0b ?_ NB232_233.out _; refine qd_ ?_; refine a0b ?_ NB232_233.out _; refine qd_ ?_; refine a0b ?_ NB232_233.out _; refine qd_ ?_; refine a0b ?_ NB232_233.out _; refine qd_ ?_; refine a0b ?_ NB232_233.out _; refine qd_ ?_; exact BK232.out) hb); replace BK233 := am_ (a1o (g := gb233) (o := .cells #[.int .i64 a0_0, .int .i64 a0_1, .int .i64 a0_2, .int .i64 a0_3, .bool a0_4, .int .i64 a1_0, .int .i64 a1_1, .int .i64 a1_2, .slice A1_3 l1_3.length c1_3, .slice A1_4 l1_4.length c1_4, .slice A1_5 l1_5.length c1_5, .string (⟨#[]⟩ : ByteArray), .slice none 0 0] 62 (0, 0)) (by refine qd_ ?_; refine a0d (cs := #[.int .i64 a0_0, .int .i64 a0_1, .int .i64 a0_2, .int .i64 a0_3, .bool a0_4, .int .i64 a1_0, .int .i64 a1_1, .int .i64 a1_2, .slice A1_3 l1_3.length c1_3, .slice A1_4 l1_4.length c1_4, .slice A1_5 l1_5.length c1_5, .string (⟨#[]⟩ : ByteArray), .slice none 0 0]) ?_ 12 _ rfl; refine qd_ ?_; refine a0d (cs := #[.int .i64 a0_0, .int .i64 a0_1, .int .i64 a0_2, .int .i64 a0_3, .bool a0_4, .int .i64 a1_0, .int .i64 a1_1, .int .i64 a1_2, .slice A1_3 l1_3.length c1_3, .slice A1_4 l1_4.length c1_4, .slice A1_5 l1_5.length c1_5, .string (⟨#[]⟩ : ByteArray), .slice none 0 0]) ?_ 11 _ rfl; refine qd_ ?_; refine a0d (cs := #[.int .i64 a0_0, .int .i64 a0_1, .int .i64 a0_2, .int .i64 a0_3, .bool a0_4, .int .i64 a1_0, .int .i64 a1_1, .int .i64 a1_2, .slice A1_3 l1_3.length c1_3, .slice A1_4 l1_4.length c1_4, .slice none 0 0, .string (⟨#[]⟩ : ByteArray), .slice none 0 0]) ?_ 10 _ rfl; refine qd_ ?_; refine a0d (cs := #[.int .i64 a0_0, .int .i64 a0_1, .int .i64 a0_2, .int .i64 a0_3, .bool a0_4, .int .i64 a1_0, .int .i64 a1_1, .int .i64 a1_2, .slice A1_3 l1_3.length c1_3, .slice none 0 0, .slice none 0 0, .string (⟨#[]⟩ : ByteArray), .slice none 0 0]) ?_ 9 _ rfl; refine qd_ ?_; refine a0d (cs := #[.int .i64 a0_0, .int .i64 a0_1, .int .i64 a0_2, .int .i64 a0_3, .bool a0_4, .int .i64 a1_0, .int .i64 a1_1, .int .i64 a1_2, .slice none 0 0, .slice none 0 0, .slice none 0 0, .string (⟨#[]⟩ : ByteArray), .slice none 0 0]) ?_ 8 _ rfl; refine qd_ ?_; refine a0d (cs := #[.int .i64 a0_0, .int .i64 a0_1, .int .i64 a0_2, .int .i64 a0_3, .bool a0_4, .int .i64 a1_0, .int .i64 a1_1, .int .i64 0, .slice none 0 0, .slice none 0 0, .slice none 0 0, .string (⟨#[]⟩ : ByteArray), .slice none 0 0]) ?_ 7 _ rfl; refine qd_ ?_; refine a0d (cs := #[.int .i64 a0_0, .int .i64 a0_1, .int .i64 a0_2, .int .i64 a0_3, .bool a0_4, .int .i64 a1_0, .int .i64 0, .int .i64 0, .slice none 0 0, .slice none 0 0, .slice none 0 0, .string (⟨#[]⟩ : ByteArray), .slice none 0 0]) ?_ 6 _ rfl; refine qd_ ?_; refine a0d (cs := #[.int .i64 a0_0, .int .i64 a0_1, .int .i64 a0_2, .int .i64 a0_3, .bool a0_4, .int .i64 0, .int .i64 0, .int .i64 0, .slice none 0 0, .slice none 0 0, .slice none 0 0, .string (⟨#[]⟩ : ByteArray), .slice none 0 0]) ?_ 5 _ rfl; refine qd_ ?_; refine a0d (cs := #[.int .i64 a0_0, .int .i64 a0_1, .int .i64 a0_2, .int .i64 a0_3, .bool false, .int .i64 0, .int .i64 0, .int .i64 0, .slice none 0 0, .slice none 0 0, .slice none 0 0, .string (⟨#[]⟩ : ByteArray), .slice none 0 0]) ?_ 4 _ rfl; refine qd_ ?_; refine a0d (cs := #[.int .i64 a0_0, .int .i64 a0_1, .int .i64 a0_2, .int .i64 0, .bool false, .int .i64 0, .int .i64 0, .int .i64 0, .slice none 0 0, .slice none 0 0, .slice none 0 0, .string (⟨#[]⟩ : ByteArray), .slice none 0 0]) ?_ 3 _ rfl; refine qd_ ?_; refine a0d (cs := #[.int .i64 a0_0, .int .i64 a0_1, .int .i64 0, .int .i64 0, .bool false, .int .i64 0, .int .i64 0, .int .i64 0, .slice none 0 0, .slice none 0 0, .slice none 0 0, .string (⟨#[]⟩ : ByteArray), .slice none 0 0]) ?_ 2 _ rfl; refine qd_ ?_; refine a0d (cs := #[.int .i64 a0_0, .int .i64 0, .int .i64 0, .int .i64 0, .bool false, .int .i64 0, .int .i64 0, .int .i64 0, .slice none 0 0, .slice none 0 0, .slice none 0 0, .string (⟨#[]⟩ : ByteArray), .slice none 0 0]) ?_ 1 _ rfl; refine qd_ ?_; refine a0d (cs := #[.int .i64 0, .int .i64 0, .int .i64 0, .int .i64 0, .bool false, .int .i64 0, .int .i64 0, .int .i64 0, .slice none 0 0, .slice none 0 0, .slice none 0 0, .string (⟨#[]⟩ : ByteArray), .slice none 0 0]) ?_ 0 _ rfl; refine qd_ ?_; exact BK233.out) hb); replace HB := qbs_ hb; (try clear hb); (try clear hb2); (try clear hk); (try clear hi); have hnb20 := NB233_232.out; have hnc20 := NB232_233.out; obtain ⟨z'21_0, z'21_1, z'21_2, z'21_3, z'21_4, z'21_5, z'21_6, z'21_7, z'21_8, z'21_9, z'21_10, z'21_11, z'21_12⟩ := a1u BK233; obtain ⟨y'21_0, y'21_1, y'21_2, y'21_3, y'21_4, y'21_5, y'21_6, y'21_7, y'21_8, y'21_9, y'21_10, y'21_11, y'21_12⟩ := a1v BK233) | (go_at_call 31; (refine (a0l.calls k a0_0 a0_1 a0_2 a0_3 a0_4 a1_0 a1_1 a1_2 _ _ l1_3 _ _ l1_4 _ _ l1_5 (⟨#[]⟩ : ByteArray) _ _ ([] : List Int) t235 _ ?s1 ?s2 ?s3 ?s4 ?s5 ?s6 ?s7 ?s8 A15.out).mono ?_); (case s1 => exact qc_ HR1_3); (case s2 => exact HC1_3.out); (case s3 => exact qc_ HR1_4); (case s4 => exact HC1_4.out); (case s5 => exact qc_ HR1_5); (case s6 => exact HC1_5.out); (case s7 => exact Kd.a5s _ _); (case s8 => exact Nat.le_refl _); rintro e w22 ⟨rfl, hb⟩; replace BK231 := qkb_ BK231 hb; replace BK232 := qkb_ BK232 hb; replace BK233 := qkb_ BK233 hb; replace HB := qbs_ hb; (try clear hb); (try clear hb2); (try clear hk); (try clear hi)))
   go_meet
   case rel => exact ⟨_, (!t235), qs_, H', ⟨qo_⟩, ⟨qk_ BK231⟩, ⟨qk_ BK232⟩, ⟨qk_ BK233⟩, ⟨qb_⟩⟩
  ·replace c14 := be_ c14
   subst c14
   have H1 : (a1t.j0 k true a0_0 a0_1 a0_2 a0_3 a0_4 a0_0 a0_1 a0_2 a0_3 a0_4 a1_0 a1_1 a1_2 l1_3 l1_4 l1_5 (⟨#[]⟩ : ByteArray)) = some (r1, r2) := by rw [if_neg (show ¬ (false = true) by decide)] at H; exact H
   clear H
   have H := H1
   clear H1
   have H' := am_ H
   clear H
   have hnb23 := NB231_232.out
   have hnc23 := NB232_231.out
   have hnb24 := NB231_233.out
   have hnc24 := NB233_231.out
   obtain ⟨z'25_0, z'25_1, z'25_2, z'25_3, z'25_4⟩ := qz5_ BK231; obtain ⟨y'25_0, y'25_1, y'25_2, y'25_3, y'25_4⟩ := qf5_ BK231
   go_wp2_with (first | ((with_reducible refine a0e (f := 30) rfl ?_); refine a0w (some 11) rfl rfl Try.func30 (by kernel_rfl) rfl #[.agg #[.int .i64 a0_0, .int .i64 a0_1, .int .i64 a0_2, .int .i64 a0_3, .bool a0_4]] rfl ql_ ?_; (with_reducible refine (a3p.calls a0_0 a0_1 a0_2 a0_3 a0_4 false _ A13.out).mono ?_); rintro e w26 ⟨rfl, hb⟩; refine ⟨_, rfl, ?_⟩; replace BK231 := am_ (a1o (g := gb231) (o := .cells #[.int .i64 a0_0, .int .i64 a0_1, .int .i64 a0_2, .int .i64 a0_3, .bool a0_4] 25 (0, 0)) (by refine qd_ ?_; refine a0b ?_ NB231_233.out _; refine qd_ ?_; refine a0b ?_ NB231_233.out _; refine qd_ ?_; refine a0b ?_ NB231_233.out _; refine qd_ ?_; refine a0b ?_ NB231_233.out _; refine qd_ ?_; refine a0b ?_ NB231_233.out _; refine qd_ ?_; refine a0b ?_ NB231_233.out _; refine qd_ ?_; refine a0b ?_ NB231_233.out _; refine qd_ ?_; refine a0b ?_ NB231_233.out _; refine qd_ ?_; refine a0b ?_ NB231_233.out _; refine qd_ ?_; refine a0b ?_ NB231_233.out _; refine qd_ ?_; refine a0b ?_ NB231_233.out _; refine qd_ ?_; refine a0b ?_ NB231_233.out _; refine qd_ ?_; refine a0b ?_ NB231_233.out _; refine qd_ ?_; exact BK231.out) hb); replace BK232 := am_ (a1o (g := gb232) (o := .cells #[.int .i64 a1_0, .int .i64 a1_1, .int .i64 a1_2, .slice A1_3 l1_3.length c1_3, .slice A1_4 l1_4.length c1_4, .slice A1_5 l1_5.length c1_5] 30 (0, 0)) (by refine qd_ ?_; refine a0b ?_ NB232_233.out _; refine qd_ ?_; refine a0b ?_ NB232_233.out _; refine qd_ ?_; refine a0b ?_ NB232_233.out _; refine qd_ ?_; refine a0b ?_ NB232_233.out _; refine qd_ ?_; refine a0b ?_ NB232_233.out _; refine qd_ ?_; refine a0b ?_ NB232_233.out _; refine qd_ ?_; refine a0b ?_ NB232_233.out _; refine qd_ ?_; refine a0b ?_ NB232_233.out _; refine qd_ ?_; refine a0b ?_ NB232_233.out _; refine qd_ ?_; refine a0b ?_ NB232_233.out _; refine qd_ ?_; refine a0b ?_ NB232_233.out _; refine qd_ ?_; refine a0b ?_ NB232_233.out _; refine qd_ ?_; refine a0b ?_ NB232_233.out _; refine qd_ ?_; exact BK232.out) hb); replace BK233 := am_ (a1o (g := gb233) (o := .cells #[.int .i64 a0_0, .int .i64 a0_1, .int .i64 a0_2, .int .i64 a0_3, .bool a0_4, .int .i64 a1_0, .int .i64 a1_1, .int .i64 a1_2, .slice A1_3 l1_3.length c1_3, .slice A1_4 l1_4.length c1_4, .slice A1_5 l1_5.length c1_5, .string (⟨#[]⟩ : ByteArray), .slice none 0 0] 62 (0, 0)) (by refine qd_ ?_; refine a0d (cs := #[.int .i64 a0_0, .int .i64 a0_1, .int .i64 a0_2, .int .i64 a0_3, .bool a0_4, .int .i64 a1_0, .int .i64 a1_1, .int .i64 a1_2, .slice A1_3 l1_3.length c1_3, .slice A1_4 l1_4.length c1_4, .slice A1_5 l1_5.length c1_5, .string (⟨#[]⟩ : ByteArray), .slice none 0 0]) ?_ 12 _ rfl; refine qd_ ?_; refine a0d (cs := #[.int .i64 a0_0, .int .i64 a0_1, .int .i64 a0_2, .int .i64 a0_3, .bool a0_4, .int .i64 a1_0, .int .i64 a1_1, .int .i64 a1_2, .slice A1_3 l1_3.length c1_3, .slice A1_4 l1_4.length c1_4, .slice A1_5 l1_5.length c1_5, .string (⟨#[]⟩ : ByteArray), .slice none 0 0]) ?_ 11 _ rfl; refine qd_ ?_; refine a0d (cs := #[.int .i64 a0_0, .int .i64 a0_1, .int .i64 a0_2, .int .i64 a0_3, .bool a0_4, .int .i64 a1_0, .int .i64 a1_1, .int .i64 a1_2, .slice A1_3 l1_3.length c1_3, .slice A1_4 l1_4.length c1_4, .slice none 0 0, .string (⟨#[]⟩ : ByteArray), .slice none 0 0]) ?_ 10 _ rfl; refine qd_ ?_; refine a0d (cs := #[.int .i64 a0_0, .int .i64 a0_1, .int .i64 a0_2, .int .i64 a0_3, .bool a0_4, .int .i64 a1_0, .int .i64 a1_1, .int .i64 a1_2, .slice A1_3 l1_3.length c1_3, .slice none 0 0, .slice none 0 0, .string (⟨#[]⟩ : ByteArray), .slice none 0 0]) ?_ 9 _ rfl; refine qd_ ?_; refine a0d (cs := #[.int .i64 a0_0, .int .i64 a0_1, .int .i64 a0_2, .int .i64 a0_3, .bool a0_4, .int .i64 a1_0, .int .i64 a1_1, .int .i64 a1_2, .slice none 0 0, .slice none 0 0, .slice none 0 0, .string (⟨#[]⟩ : ByteArray), .slice none 0 0]) ?_ 8 _ rfl; refine qd_ ?_; refine a0d (cs := #[.int .i64 a0_0, .int .i64 a0_1, .int .i64 a0_2, .int .i64 a0_3, .bool a0_4, .int .i64 a1_0, .int .i64 a1_1, .int .i64 0, .slice none 0 0, .slice none 0 0, .slice none 0 0, .string (⟨#[]⟩ : ByteArray), .slice none 0 0]) ?_ 7 _ rfl; refine qd_ ?_; refine a0d (cs := #[.int .i64 a0_0, .int .i64 a0_1, .int .i64 a0_2, .int .i64 a0_3, .bool a0_4, .int .i64 a1_0, .int .i64 0, .int .i64 0, .slice none 0 0, .slice none 0 0, .slice none 0 0, .string (⟨#[]⟩ : ByteArray), .slice none 0 0]) ?_ 6 _ rfl; refine qd_ ?_; refine a0d (cs := #[.int .i64 a0_0, .int .i64 a0_1, .int .i64 a0_2, .int .i64 a0_3, .bool a0_4, .int .i64 0, .int .i64 0, .int .i64 0, .slice none 0 0, .slice none 0 0, .slice none 0 0, .string (⟨#[]⟩ : ByteArray), .slice none 0 0]) ?_ 5 _ rfl; refine qd_ ?_; refine a0d (cs := #[.int .i64 a0_0, .int .i64 a0_1, .int .i64 a0_2, .int .i64 a0_3, .bool false, .int .i64 0, .int .i64 0, .int .i64 0, .slice none 0 0, .slice none 0 0, .slice none 0 0, .string (⟨#[]⟩ : ByteArray), .slice none 0 0]) ?_ 4 _ rfl; refine qd_ ?_; refine a0d (cs := #[.int .i64 a0_0, .int .i64 a0_1, .int .i64 a0_2, .int .i64 0, .bool false, .int .i64 0, .int .i64 0, .int .i64 0, .slice none 0 0, .slice none 0 0, .slice none 0 0, .string (⟨#[]⟩ : ByteArray), .slice none 0 0]) ?_ 3 _ rfl; refine qd_ ?_; refine a0d (cs := #[.int .i64 a0_0, .int .i64 a0_1, .int .i64 0, .int .i64 0, .bool false, .int .i64 0, .int .i64 0, .int .i64 0, .slice none 0 0, .slice none 0 0, .slice none 0 0, .string (⟨#[]⟩ : ByteArray), .slice none 0 0]) ?_ 2 _ rfl; refine qd_ ?_; refine a0d (cs := #[.int .i64 a0_0, .int .i64 0, .int .i64 0, .int .i64 0, .bool false, .int .i64 0, .int .i64 0, .int .i64 0, .slice none 0 0, .slice none 0 0, .slice none 0 0, .string (⟨#[]⟩ : ByteArray), .slice none 0 0]) ?_ 1 _ rfl; refine qd_ ?_; refine a0d (cs := #[.int .i64 0, .int .i64 0, .int .i64 0, .int .i64 0, .bool false, .int .i64 0, .int .i64 0, .int .i64 0, .slice none 0 0, .slice none 0 0, .slice none 0 0, .string (⟨#[]⟩ : ByteArray), .slice none 0 0]) ?_ 0 _ rfl; refine qd_ ?_; exact BK233.out) hb); replace HB := qbs_ hb; (try clear hb); (try clear hb2); (try clear hk); (try clear hi)))
   go_meet
   case rel => exact ⟨_, (true), qs_, H', ⟨qo_⟩, ⟨qk_ BK231⟩, ⟨qk_ BK232⟩, ⟨qk_ BK233⟩, ⟨qb_⟩⟩
 case rest =>
  clear HC3
  try clear c1
  try clear c2
  try clear p2
  try clear c3
  try clear c6
  try clear c10
  try clear c11
  try clear c13
  try clear c14
  try clear c16
  try clear c17
  try clear c20
  try clear c23
  try clear c24
  try clear z'12_0 z'12_1 z'12_10 z'12_11 z'12_12 z'12_2 z'12_3 z'12_4 z'12_5 z'12_6 z'12_7 z'12_8 z'12_9
  try clear z'18_0 z'18_1 z'18_2 z'18_3 z'18_4
  try clear z'21_0 z'21_1 z'21_10 z'21_11 z'21_12 z'21_2 z'21_3 z'21_4 z'21_5 z'21_6 z'21_7 z'21_8 z'21_9
  try clear z'25_0 z'25_1 z'25_2 z'25_3 z'25_4
  try clear z'7_0 z'7_1 z'7_2 z'7_3 z'7_4
  try clear z'8_0 z'8_1 z'8_2 z'8_3 z'8_4 z'8_5
  try clear y'12_0 y'12_1 y'12_10 y'12_11 y'12_12 y'12_2 y'12_3 y'12_4 y'12_5 y'12_6 y'12_7 y'12_8 y'12_9
  try clear y'18_0 y'18_1 y'18_2 y'18_3 y'18_4
  try clear y'21_0 y'21_1 y'21_10 y'21_11 y'21_12 y'21_2 y'21_3 y'21_4 y'21_5 y'21_6 y'21_7 y'21_8 y'21_9
  try clear y'25_0 y'25_1 y'25_2 y'25_3 y'25_4
  try clear y'7_0 y'7_1 y'7_2 y'7_3 y'7_4
  try clear y'8_0 y'8_1 y'8_2 y'8_3 y'8_4 y'8_5
  obtain ⟨kq, x17_2, rfl, HA, HJ2, BK231, BK232, BK233, HB⟩ := hcut
  cases kq with
  | zero => exact absurd HA.out (by simp [a1t.j0])
  | succ kj2 =>
   have H := HA.out
   clear HA
   simp only [a1t.j0] at H
   by_cases c27 : x17_2 = true
   ·subst c27
    have H1 : (some (([] : List Int), 1)) = some (r1, r2) := by rw [if_pos rfl] at H; exact H
    clear H
    have H := H1
    clear H1
    simp only [Option.some.injEq, Prod.mk.injEq] at H
    obtain ⟨rfl, rfl⟩ := H
    go_wp2
    go_ret2
    exact ⟨_, qx_, by first | exact Kd.a6u _ _ _ _ _ | exact Kd.N_nil _ _ _ _ _ | exact Kd.V_nil _ _ _ _ _ | exact Kd.Q_nil _ _ _ _ _ | exact Kd.S_nil _ _ _ _ _, qb_⟩
   ·replace c27 := be_ c27
    subst c27
    have H1 : (if a0_4 = true then ((a1b.f kj2 a0_0 a0_1 a0_2 a0_3 a0_4 a1_0 a1_1 a1_2 l1_3 l1_4 l1_5 (⟨#[]⟩ : ByteArray) ([] : List Int)).bind fun t236 => (some (t236, 0))) else ((a0o.f kj2 a0_0 a0_1 a0_2 a0_3 a0_4 a1_0 a1_1 a1_2 l1_3 l1_4 l1_5 (⟨#[]⟩ : ByteArray) ([] : List Int)).bind fun t239 => (some (t239, 0)))) = some (r1, r2) := by rw [if_neg (show ¬ (false = true) by decide)] at H; exact H
    clear H
    have H := H1
    clear H1
    by_cases c28 : a0_4 = true
    ·subst c28
     have H1 : ((a1b.f kj2 a0_0 a0_1 a0_2 a0_3 true a1_0 a1_1 a1_2 l1_3 l1_4 l1_5 (⟨#[]⟩ : ByteArray) ([] : List Int)).bind fun t236 => (some (t236, 0))) = some (r1, r2) := by rw [if_pos rfl] at H; exact H
     clear H
     have H := H1
     clear H1
     replace H := bm_ H
     obtain ⟨t236, A290, H⟩ := H
     replace H : (some (t236, 0)) = some (r1, r2) := H
     have A29 := am_ A290
     clear A290
     simp only [Option.some.injEq, Prod.mk.injEq] at H
     obtain ⟨rfl, rfl⟩ := H
     have hnb30 := NB231_232.out
     have hnc30 := NB232_231.out
     have hnb31 := NB231_233.out
     have hnc31 := NB233_231.out
     obtain ⟨z'32_0, z'32_1, z'32_2, z'32_3, z'32_4⟩ := qz5_ BK231; obtain ⟨y'32_0, y'32_1, y'32_2, y'32_3, y'32_4⟩ := qf5_ BK231
     have hnb33 := NB233_232.out
     have hnc33 := NB232_233.out
     obtain ⟨z'34_0, z'34_1, z'34_2, z'34_3, z'34_4, z'34_5, z'34_6, z'34_7, z'34_8, z'34_9, z'34_10, z'34_11, z'34_12⟩ := a1u BK233; obtain ⟨y'34_0, y'34_1, y'34_2, y'34_3, y'34_4, y'34_5, y'34_6, y'34_7, y'34_8, y'34_9, y'34_10, y'34_11, y'34_12⟩ := a1v BK233
     go_wp2_with (first | ((with_reducible refine a0e (f := 32) rfl ?_); refine a0w (some 21) rfl rfl Try.func32 (by kernel_rfl) rfl #[.agg #[.int .i64 a0_0, .int .i64 a0_1, .int .i64 a0_2, .int .i64 a0_3, .bool true, .int .i64 a1_0, .int .i64 a1_1, .int .i64 a1_2, .slice A1_3 l1_3.length c1_3, .slice A1_4 l1_4.length c1_4, .slice A1_5 l1_5.length c1_5, .string (⟨#[]⟩ : ByteArray), .slice none 0 0], .func (.func 33) #[] #[]] rfl ql_ ?_; (refine (a1b.calls kj2 a0_0 a0_1 a0_2 a0_3 true a1_0 a1_1 a1_2 _ _ l1_3 _ _ l1_4 _ _ l1_5 (⟨#[]⟩ : ByteArray) _ _ ([] : List Int)  t236 _ ?s1 ?s2 ?s3 ?s4 ?s5 ?s6 ?s7 ?s8 A29.out).mono ?_); (case s1 => exact qc_ HR1_3); (case s2 => exact HC1_3.out); (case s3 => exact qc_ HR1_4); (case s4 => exact HC1_4.out); (case s5 => exact qc_ HR1_5); (case s6 => exact HC1_5.out); (case s7 => exact Kd.a5s _ _); (case s8 => exact Nat.le_refl _); rintro e w35 ⟨v237, rfl, ho0, hb⟩; refine ⟨_, rfl, ?_⟩; have HO238 := am_ (Kd.a2d ho0 (a0x qb_)); replace BK231 := qkb_ BK231 hb; replace BK232 := qkb_ BK232 hb; replace BK233 := qkb_ BK233 hb; replace HB := qbs_ hb; (try clear hb); (try clear hb2); (try clear hk); (try clear hi); (try clear ho0)))
     go_ret2
     exact ⟨_, qx_, by (with_reducible repeat (first | apply Kd.a1e | apply Kd.a1f | apply Kd.a0y)); exact HO238.out, qb_⟩
    ·replace c28 := be_ c28
     subst c28
     have H1 : ((a0o.f kj2 a0_0 a0_1 a0_2 a0_3 false a1_0 a1_1 a1_2 l1_3 l1_4 l1_5 (⟨#[]⟩ : ByteArray) ([] : List Int)).bind fun t239 => (some (t239, 0))) = some (r1, r2) := by rw [if_neg (show ¬ (false = true) by decide)] at H; exact H
     clear H
     have H := H1
     clear H1
     replace H := bm_ H
     obtain ⟨t239, A360, H⟩ := H
     replace H : (some (t239, 0)) = some (r1, r2) := H
     have A36 := am_ A360
     clear A360
     simp only [Option.some.injEq, Prod.mk.injEq] at H
     obtain ⟨rfl, rfl⟩ := H
     have hnb37 := NB231_232.out
     have hnc37 := NB232_231.out
     have hnb38 := NB231_233.out
     have hnc38 := NB233_231.out
     obtain ⟨z'39_0, z'39_1, z'39_2, z'39_3, z'39_4⟩ := qz5_ BK231; obtain ⟨y'39_0, y'39_1, y'39_2, y'39_3, y'39_4⟩ := qf5_ BK231
     have hnb40 := NB233_232.out
     have hnc40 := NB232_233.out
     obtain ⟨z'41_0, z'41_1, z'41_2, z'41_3, z'41_4, z'41_5, z'41_6, z'41_7, z'41_8, z'41_9, z'41_10, z'41_11, z'41_12⟩ := a1u BK233; obtain ⟨y'41_0, y'41_1, y'41_2, y'41_3, y'41_4, y'41_5, y'41_6, y'41_7, y'41_8, y'41_9, y'41_10, y'41_11, y'41_12⟩ := a1v BK233
     go_wp2_with (first | ((with_reducible refine a0e (f := 32) rfl ?_); refine a0w (some 23) rfl rfl Try.func32 (by kernel_rfl) rfl #[.agg #[.int .i64 a0_0, .int .i64 a0_1, .int .i64 a0_2, .int .i64 a0_3, .bool false, .int .i64 a1_0, .int .i64 a1_1, .int .i64 a1_2, .slice A1_3 l1_3.length c1_3, .slice A1_4 l1_4.length c1_4, .slice A1_5 l1_5.length c1_5, .string (⟨#[]⟩ : ByteArray), .slice none 0 0], .func (.func 34) #[] #[]] rfl ql_ ?_; (refine (a0o.calls kj2 a0_0 a0_1 a0_2 a0_3 false a1_0 a1_1 a1_2 _ _ l1_3 _ _ l1_4 _ _ l1_5 (⟨#[]⟩ : ByteArray) _ _ ([] : List Int)  t239 _ ?s1 ?s2 ?s3 ?s4 ?s5 ?s6 ?s7 ?s8 A36.out).mono ?_); (case s1 => exact qc_ HR1_3); (case s2 => exact HC1_3.out); (case s3 => exact qc_ HR1_4); (case s4 => exact HC1_4.out); (case s5 => exact qc_ HR1_5); (case s6 => exact HC1_5.out); (case s7 => exact Kd.a5s _ _); (case s8 => exact Nat.le_refl _); rintro e w42 ⟨v240, rfl, ho0, hb⟩; refine ⟨_, rfl, ?_⟩; have HO241 := am_ (Kd.a2d ho0 (a0x qb_)); replace BK231 := qkb_ BK231 hb; replace BK232 := qkb_ BK232 hb; replace BK233 := qkb_ BK233 hb; replace HB := qbs_ hb; (try clear hb); (try clear hb2); (try clear hk); (try clear hi); (try clear ho0)))
     go_ret2
     exact ⟨_, qx_, by (with_reducible repeat (first | apply Kd.a1e | apply Kd.a1f | apply Kd.a0y)); exact HO241.out, qb_⟩
def a3t.f (k : Nat) (a0 : Int) (l1 : List Int) : Option (Bool × Int) := (a3q.f a0).bind fun t242 => (if t242 = true then ((a0k.f k l1).bind fun t243 => (if t243 = true then ((a2e.f k l1 a0).bind fun t244 => (some (!t244, 0))) else (some (false, 1)))) else (some (false, 3)))
theorem a3t.mono : ∀ a0 a1 k, LeO (a3t.f k a0 a1) (a3t.f (k + 1) a0 a1) := by
 intro a0 a1 k
 unfold a3t.f
 with_reducible (repeat' first | apply a2e.mono | apply a0k.mono | apply LeO.refl | apply LeO.none | apply LeO.ite | refine LeO.bind ?_ (fun _ => ?_))
set_option maxHeartbeats 8000000 in
set_option maxRecDepth 100000 in
theorem a3t.calls (k : Nat) (a0 : Int) (A1 : Option Addr) (c1 : Nat) (l1 : List Int) (r1 : Bool) (r2 : Int) (w : World) (hr1 : Kd.C (Kd.int .i64) w A1 l1.length l1) (hc1 : l1.length ≤ c1) (h : a3t.f k a0 l1 = some (r1, r2)) :
  Calls Try.prog 42 #[.int .i64 a0, .slice A1 l1.length c1] w fun e w' => e = .returned (.tuple #[.bool r1, .int .i64 r2]) ∧ a1j w w' := by
 have HR1 := am_ hr1
 have HC1 := am_ hc1
 clear hr1 hc1
 have H : ((a3q.f a0).bind fun t242 => (if t242 = true then ((a0k.f k l1).bind fun t243 => (if t243 = true then ((a2e.f k l1 a0).bind fun t244 => (some (!t244, 0))) else (some (false, 1)))) else (some (false, 3)))) = some (r1, r2) := h
 clear h
 replace H := bm_ H
 obtain ⟨t242, A30, H⟩ := H
 replace H : (if t242 = true then ((a0k.f k l1).bind fun t243 => (if t243 = true then ((a2e.f k l1 a0).bind fun t244 => (some (!t244, 0))) else (some (false, 1)))) else (some (false, 3))) = some (r1, r2) := H
 have A3 := am_ A30
 clear A30
 by_cases c4 : t242 = true
 ·subst c4
  have H1 : ((a0k.f k l1).bind fun t243 => (if t243 = true then ((a2e.f k l1 a0).bind fun t244 => (some (!t244, 0))) else (some (false, 1)))) = some (r1, r2) := by rw [if_pos rfl] at H; exact H
  clear H
  have H := H1
  clear H1
  replace H := bm_ H
  obtain ⟨t243, A50, H⟩ := H
  replace H : (if t243 = true then ((a2e.f k l1 a0).bind fun t244 => (some (!t244, 0))) else (some (false, 1))) = some (r1, r2) := H
  have A5 := am_ A50
  clear A50
  by_cases c6 : t243 = true
  ·subst c6
   have H1 : ((a2e.f k l1 a0).bind fun t244 => (some (!t244, 0))) = some (r1, r2) := by rw [if_pos rfl] at H; exact H
   clear H
   have H := H1
   clear H1
   replace H := bm_ H
   obtain ⟨t244, A70, H⟩ := H
   replace H : (some (!t244, 0)) = some (r1, r2) := H
   have A7 := am_ A70
   clear A70
   simp only [Option.some.injEq, Prod.mk.injEq] at H
   obtain ⟨rfl, rfl⟩ := H
   go_enter Try.func42, Try.ntmps42
   go_wp2_with (first | ((with_reducible refine a0e (f := 58) rfl ?_); refine a0w (some 7) rfl rfl Try.func58 (by kernel_rfl) rfl #[.int .i64 a0] rfl ql_ ?_; (with_reducible refine (a3q.calls a0 true _ A3.out).mono ?_); rintro e w' ⟨rfl, ⟨nd, rfl⟩⟩; refine ⟨_, rfl, ?_⟩) | ((with_reducible refine a0e (f := 59) rfl ?_); refine a0w (some 10) rfl rfl Try.func59 (by kernel_rfl) rfl #[.slice A1 l1.length c1] rfl ql_ ?_; (with_reducible refine (a0k.calls k _ _ l1 true _ ?s1 ?s2 A5.out).mono ?_); (case s1 => repeat (first | exact HR1.out | (with_reducible refine Kd.a2b ?_ _) | (with_reducible refine Kd.a2c ?_ _) | (with_reducible refine Kd.a2m ?_))); (case s2 => exact HC1.out); rintro e w' ⟨rfl, ⟨nd, rfl⟩⟩; refine ⟨_, rfl, ?_⟩) | ((with_reducible refine a0e (f := 60) rfl ?_); refine a0w (some 14) rfl rfl Try.func60 (by kernel_rfl) rfl #[.slice A1 l1.length c1, .int .i64 a0] rfl ql_ ?_; (with_reducible refine (a2e.calls k _ _ l1 a0 t244 _ ?s1 ?s2 A7.out).mono ?_); (case s1 => repeat (first | exact HR1.out | (with_reducible refine Kd.a2b ?_ _) | (with_reducible refine Kd.a2c ?_ _) | (with_reducible refine Kd.a2m ?_))); (case s2 => exact HC1.out); rintro e w' ⟨rfl, ⟨nd, rfl⟩⟩; refine ⟨_, rfl, ?_⟩))
   go_ret2
   exact ⟨qs_, qy_⟩
  ·replace c6 := be_ c6
   subst c6
   have H1 : (some (false, 1)) = some (r1, r2) := by rw [if_neg (show ¬ (false = true) by decide)] at H; exact H
   clear H
   have H := H1
   clear H1
   simp only [Option.some.injEq, Prod.mk.injEq] at H
   obtain ⟨rfl, rfl⟩ := H
   go_enter Try.func42, Try.ntmps42
   go_wp2_with (first | ((with_reducible refine a0e (f := 58) rfl ?_); refine a0w (some 7) rfl rfl Try.func58 (by kernel_rfl) rfl #[.int .i64 a0] rfl ql_ ?_; (with_reducible refine (a3q.calls a0 true _ A3.out).mono ?_); rintro e w' ⟨rfl, ⟨nd, rfl⟩⟩; refine ⟨_, rfl, ?_⟩) | ((with_reducible refine a0e (f := 59) rfl ?_); refine a0w (some 10) rfl rfl Try.func59 (by kernel_rfl) rfl #[.slice A1 l1.length c1] rfl ql_ ?_; (with_reducible refine (a0k.calls k _ _ l1 false _ ?s1 ?s2 A5.out).mono ?_); (case s1 => repeat (first | exact HR1.out | (with_reducible refine Kd.a2b ?_ _) | (with_reducible refine Kd.a2c ?_ _) | (with_reducible refine Kd.a2m ?_))); (case s2 => exact HC1.out); rintro e w' ⟨rfl, ⟨nd, rfl⟩⟩; refine ⟨_, rfl, ?_⟩))
   go_ret2
   exact ⟨qs_, qy_⟩
 ·replace c4 := be_ c4
  subst c4
  have H1 : (some (false, 3)) = some (r1, r2) := by rw [if_neg (show ¬ (false = true) by decide)] at H; exact H
  clear H
  have H := H1
  clear H1
  simp only [Option.some.injEq, Prod.mk.injEq] at H
  obtain ⟨rfl, rfl⟩ := H
  go_enter Try.func42, Try.ntmps42
  go_wp2_with (first | ((with_reducible refine a0e (f := 58) rfl ?_); refine a0w (some 7) rfl rfl Try.func58 (by kernel_rfl) rfl #[.int .i64 a0] rfl ql_ ?_; (with_reducible refine (a3q.calls a0 false _ A3.out).mono ?_); rintro e w' ⟨rfl, ⟨nd, rfl⟩⟩; refine ⟨_, rfl, ?_⟩))
  go_ret2
  exact ⟨qs_, qy_⟩
end Go.Proofs.Ytemnlgefngjliaa.Px
