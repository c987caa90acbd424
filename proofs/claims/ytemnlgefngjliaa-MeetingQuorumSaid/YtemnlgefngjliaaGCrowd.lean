/- Whether somebody votes for too many, by package meeting: contracts of the search with a closure that captures the meeting. Conditions: the list of weights has at most a million entries (longer ones: nothing is said). -/
import Derived.Test.YtemnlgefngjliaaProg
import Derived.Below
import Derived.Tactics
import Derived.WalkKit
import Derived.KernelRfl
import Derived.RowKit3
import Derived.Deep.LoopGhost
import Derived.Deep.QuietTactic
import Derived.BigQuiet
import Derived.WideLaws
import Derived.RowKit
import Derived.Outline
import Derived.Test.YtemnlgefngjliaaWWords
import Derived.Test.YtemnlgefngjliaaWLast
import Derived.Test.YtemnlgefngjliaaWMore
import Derived.Test.YtemnlgefngjliaaGLib
import Derived.Test.YtemnlgefngjliaaPx7
namespace Go.Proofs.Ytemnlgefngjliaa.Given
open Go.RowKit Go.Proofs.YtemnlgefngjliaaW.PrintWords Go.Proofs.YtemnlgefngjliaaW.PrintLast Go.Proofs.YtemnlgefngjliaaW.PrintMore Go.Proofs.Ytemnlgefngjliaa.Px
set_option linter.unusedVariables false
set_option linter.unusedSimpArgs false
def a7y (p n : Int) : Bool := decide (n > wrap64 (p + 1))
def a7g (p : Int) (l : List Int) (n : Nat) : Bool := (List.range n).any fun i => a7y p (rd l (i : Int))
def a6d (p : Int) (l : List Int) : Bool := a7g p l l.length
theorem a9n (p : Int) (l : List Int) (n : Nat) : a7g p l (n + 1) = (a7g p l n || a7y p (rd l (n : Int))) := by
 unfold a7g
 rw [List.range_succ, List.any_append]
 simp
theorem b1p (p : Int) (l : List Int) : ∀ (d n : Nat), a7g p l n = true → a7g p l (n + d) = true
 | 0, n, h => h
 | d + 1, n, h => by rw [show n + (d + 1) = (n + d) + 1 by omega, a9n, b1p p l d n h]; rfl
set_option maxHeartbeats 8000000 in
set_option maxRecDepth 100000 in
theorem a9o (n p : Int) (g : Nat) (w : World) (hc : w.cell? ⟨g, 3, none⟩ = some (.int .i64 p)) :
  Calls Try.prog 65 #[.int .i64 n, .pointer (some ⟨g, 0, none⟩)] w fun e w' => e = .returned (.bool (a7y p n)) ∧ a1j w w' := by
 go_enter Try.func65, Try.ntmps65
 go_wp2
 go_ret
 exact ⟨by first | rfl | (simp [a7y]; done), by repeat (first | exact a1j.refl _ | apply a1j.step)⟩
set_option maxHeartbeats 8000000 in
set_option maxRecDepth 100000 in
theorem b2f (l : List Int) (p : Int) (g : Nat) (A : Option Addr) (c : Nat) (w : World) (hr : Kd.C (Kd.int .i64) w A l.length l) (hl : l.length ≤ c) (hn : l.length ≤ 1000000) (hc : w.cell? ⟨g, 3, none⟩ = some (.int .i64 p)) :
  Calls Try.prog 76 #[.slice A l.length c, .func (.func 65) #[] #[.pointer (some ⟨g, 0, none⟩)]] w fun e w' => (∃ i : Int, e = .returned (.int .i64 i) ∧ decide (i ≥ 0) = a6d p l) ∧ a1j w w' := by
 have HR0 := am_ hr
 have HC0 := am_ hl
 have HN := am_ hn
 clear hr hl hn
 go_enter Try.func76, Try.ntmps76
 go_wp2
 go_loopg [8] (l.length + 1) (fun kq v8 w' => ∃ (x : Int), v8 = .int .i64 x ∧ 0 ≤ x ∧ Aside0 (x ≤ l.length) ∧ Aside0 (a7g p l x.toNat = false) ∧ Aside0 (((l.length : Int) - x).toNat < kq) ∧ a1j w w')
 case atStart => exact ⟨0, by first | rfl | (simp; done), by omega, ⟨by omega⟩, ⟨rfl⟩, ⟨by omega⟩, by repeat (first | exact a1j.refl _ | apply a1j.step)⟩
 case round =>
  obtain ⟨x, rfl, h0, H1, HS, HK, ⟨m1, rfl⟩⟩ := hrel
  by_cases hlt : x < (l.length : Int)
  ·have g0 : decide (x < (l.length : Int)) = true := decide_eq_true hlt
   obtain ⟨ad, e0, hx⟩ := Kd.a2o HR0.out x h0 hlt
   cases e0
   have hw1 : wrap64 (x + 1) = x + 1 := by have := HN.out; unfold wrap64; omega
   have hstep : a7g p l (x + 1).toNat = a7y p (rd l x) := by
    obtain ⟨k, rfl⟩ := Int.eq_ofNat_of_zero_le h0
    have hs := HS.out
    rw [Int.toNat_natCast] at hs
    rw [show ((k : Int) + 1).toNat = k + 1 by omega, a9n, hs, Bool.false_or]
   have hall : a7y p (rd l x) = true → a6d p l = true := fun hb => by
    have e2 := b1p p l (l.length - (x + 1).toNat) (x + 1).toNat (hstep.trans hb)
    rw [show (x + 1).toNat + (l.length - (x + 1).toNat) = l.length by omega] at e2
    exact e2
   have HG := am_ hlt
   have p1 := eq_true h0
   have q1 := eq_true hlt
   clear hlt
   cases hb : a7y p (rd l x) with
   | true =>
    have hcr := hall hb
    clear hall hstep
    go_wp2_with (first | (go_at_call 65; (with_reducible refine (a9o (rd l x) p g _ ?s1).mono ?_); (case s1 => first | exact hc | exact (by simpa using hc)); rw [hb]; rintro e w' ⟨rfl, ⟨nd, rfl⟩⟩))
    go_ret
    exact ⟨⟨x, by first | rfl | (simp; done), by rw [hcr]; exact decide_eq_true h0⟩, by repeat (first | exact a1j.refl _ | apply a1j.step)⟩
   | false =>
    have hst := am_ (hstep.trans hb)
    clear hall hstep
    go_wp2_with (first | (go_at_call 65; (with_reducible refine (a9o (rd l x) p g _ ?s1).mono ?_); (case s1 => first | exact hc | exact (by simpa using hc)); rw [hb]; rintro e w' ⟨rfl, ⟨nd, rfl⟩⟩))
    go_roundg ((l.length : Int) - x).toNat
    case measure => have := HK.out; omega
    case rel => exact ⟨x + 1, by first | rfl | (rw [hw1]), by omega, ⟨by have := HG.out; omega⟩, hst, ⟨by have := HK.out; have := HG.out; omega⟩, by repeat (first | exact a1j.refl _ | apply a1j.step)⟩
  ·have g0 : decide (x < (l.length : Int)) = false := decide_eq_false hlt
   have hcr : a6d p l = false := by
    have hs := HS.out
    have h1 := H1.out
    rw [show x.toNat = l.length by omega] at hs
    exact hs
   go_wp2
   go_ret
   exact ⟨⟨-1, by first | rfl | (simp; done), by first | (rw [hcr]; rfl) | decide⟩, by repeat (first | exact a1j.refl _ | apply a1j.step)⟩
set_option maxHeartbeats 8000000 in
set_option maxRecDepth 100000 in
theorem b0g (l : List Int) (p : Int) (g : Nat) (A : Option Addr) (c : Nat) (w : World) (hr : Kd.C (Kd.int .i64) w A l.length l) (hl : l.length ≤ c) (hn : l.length ≤ 1000000) (hc : w.cell? ⟨g, 3, none⟩ = some (.int .i64 p)) :
  Calls Try.prog 64 #[.slice A l.length c, .func (.func 65) #[] #[.pointer (some ⟨g, 0, none⟩)]] w fun e w' => e = .returned (.bool (a6d p l)) ∧ a1j w w' := by
 have HR0 := am_ hr
 have HC0 := am_ hl
 have HN := am_ hn
 have HP := am_ hc
 clear hr hl hn hc
 go_enter Try.func64, Try.ntmps64
 go_wp2_with (first | (go_at_call 76; (with_reducible refine (b2f l p g _ _ _ HR0.out HC0.out HN.out HP.out).mono ?_); rintro e w' ⟨⟨i, rfl, hi⟩, ⟨nd, rfl⟩⟩))
 go_ret
 exact ⟨by rw [← hi]; rfl, by repeat (first | exact a1j.refl _ | apply a1j.step)⟩
def a4e.f (k : Nat) (a0_0 : Int) (a0_1 : Int) (a0_2 : Int) (a0_3 : Int) (a0_4 : Bool) (a0_5 : Int) (a0_6 : Int) (a0_7 : Int) (l0_8 : List ByteArray) (l0_9 : List (S43)) (l0_10 : List Int) (a0_11 : ByteArray) (l0_12 : List Int) : Option Bool :=
 (a1b.f k a0_0 a0_1 a0_2 a0_3 a0_4 a0_5 a0_6 a0_7 l0_8 l0_9 l0_10 a0_11 l0_12).bind fun l => if l.length ≤ 1000000 then some (a6d a0_3 l) else none
theorem a4e.mono : ∀ a0 a1 a2 a3 a4 a5 a6 a7 a8 a9 a10 a11 a12 k, LeO (a4e.f k a0 a1 a2 a3 a4 a5 a6 a7 a8 a9 a10 a11 a12) (a4e.f (k + 1) a0 a1 a2 a3 a4 a5 a6 a7 a8 a9 a10 a11 a12) := by
 intro a0 a1 a2 a3 a4 a5 a6 a7 a8 a9 a10 a11 a12 k
 unfold a4e.f
 exact LeO.bind (a1b.mono _ _ _ _ _ _ _ _ _ _ _ _ _ _) (fun _ => LeO.refl _)
set_option maxHeartbeats 8000000 in
set_option maxRecDepth 100000 in
theorem a4e.calls (k : Nat) (a0_0 : Int) (a0_1 : Int) (a0_2 : Int) (a0_3 : Int) (a0_4 : Bool) (a0_5 : Int) (a0_6 : Int) (a0_7 : Int) (A0_8 : Option Addr) (c0_8 : Nat) (l0_8 : List ByteArray) (A0_9 : Option Addr) (c0_9 : Nat) (l0_9 : List (S43)) (A0_10 : Option Addr) (c0_10 : Nat) (l0_10 : List Int) (a0_11 : ByteArray) (A0_12 : Option Addr) (c0_12 : Nat) (l0_12 : List Int) (r : Bool) (w : World) (hr0_8 : Kd.C Kd.string w A0_8 l0_8.length l0_8) (hc0_8 : l0_8.length ≤ c0_8) (hr0_9 : Kd.C k43 w A0_9 l0_9.length l0_9) (hc0_9 : l0_9.length ≤ c0_9) (hr0_10 : Kd.C (Kd.int .i64) w A0_10 l0_10.length l0_10) (hc0_10 : l0_10.length ≤ c0_10) (hr0_12 : Kd.C (Kd.int .i64) w A0_12 l0_12.length l0_12) (hc0_12 : l0_12.length ≤ c0_12) (h : a4e.f k a0_0 a0_1 a0_2 a0_3 a0_4 a0_5 a0_6 a0_7 l0_8 l0_9 l0_10 a0_11 l0_12 = some r) :
  Calls Try.prog 47 #[.agg #[.int .i64 a0_0, .int .i64 a0_1, .int .i64 a0_2, .int .i64 a0_3, .bool a0_4, .int .i64 a0_5, .int .i64 a0_6, .int .i64 a0_7, .slice A0_8 l0_8.length c0_8, .slice A0_9 l0_9.length c0_9, .slice A0_10 l0_10.length c0_10, .string a0_11, .slice A0_12 l0_12.length c0_12]] w fun e w' => e = .returned (.bool r) ∧ Below w.heap.size w w' := by
 have hu62 := Try.underlying62
 have HR0_8 := am_ hr0_8
 have HC0_8 := am_ hc0_8
 clear hr0_8 hc0_8
 have HR0_9 := am_ hr0_9
 have HC0_9 := am_ hc0_9
 clear hr0_9 hc0_9
 have HR0_10 := am_ hr0_10
 have HC0_10 := am_ hc0_10
 clear hr0_10 hc0_10
 have HR0_12 := am_ hr0_12
 have HC0_12 := am_ hc0_12
 clear hr0_12 hc0_12
 have HB := am_ (Below.refl w.heap.size w)
 unfold a4e.f at h
 obtain ⟨l, hw, h⟩ := bm_ h
 have hn : l.length ≤ 1000000 := by
  split at h
  ·assumption
  ·exact absurd h (by simp)
 rw [if_pos hn] at h
 have HW := am_ hw
 have HN := am_ hn
 have HRR := am_ (si_ h)
 clear h hw hn
 go_enter Try.func47, Try.ntmps47
 go_wp2_with (first | ((with_reducible refine a0f (N := 1) rfl ?_); refine a7c ?hg (N := 1) ?hd (cs := #[.int .i64 a0_0, .int .i64 a0_1, .int .i64 a0_2, .int .i64 a0_3, .bool a0_4, .int .i64 a0_5, .int .i64 a0_6, .int .i64 a0_7, .slice A0_8 l0_8.length c0_8, .slice A0_9 l0_9.length c0_9, .slice A0_10 l0_10.length c0_10, .string a0_11, .slice A0_12 l0_12.length c0_12]) (t := 62) ?hr ?_; (case hd => rfl); (case hg => rfl); (case hr => first | (go_simp; done) | (go_simp; rfl)); intro gb hg w2 hbox hb; have n0_ := am_ (a7u (by repeat (first | (with_reducible first | exact HB.out | apply la_ | apply ln_ | apply ld_) | exact HB.out)) hb); have n1_ := am_ (hbox); clear HB; have HB := n0_; have BK := n1_; clear n0_ n1_; clear hb hbox hg; have z'0 : w2.cell? ⟨gb, 0, none⟩ = some (.int .i64 a0_0) := (bc_ BK.out 0).trans rfl; have z'1 : w2.cell? ⟨gb, 1, none⟩ = some (.int .i64 a0_1) := (bc_ BK.out 1).trans rfl; have z'2 : w2.cell? ⟨gb, 2, none⟩ = some (.int .i64 a0_2) := (bc_ BK.out 2).trans rfl; have z'3 : w2.cell? ⟨gb, 3, none⟩ = some (.int .i64 a0_3) := (bc_ BK.out 3).trans rfl; have z'4 : w2.cell? ⟨gb, 4, none⟩ = some (.bool a0_4) := (bc_ BK.out 4).trans rfl; have z'5 : w2.cell? ⟨gb, 5, none⟩ = some (.int .i64 a0_5) := (bc_ BK.out 5).trans rfl; have z'6 : w2.cell? ⟨gb, 6, none⟩ = some (.int .i64 a0_6) := (bc_ BK.out 6).trans rfl; have z'7 : w2.cell? ⟨gb, 7, none⟩ = some (.int .i64 a0_7) := (bc_ BK.out 7).trans rfl; have z'8 : w2.cell? ⟨gb, 8, none⟩ = some (.slice A0_8 l0_8.length c0_8) := (bc_ BK.out 8).trans rfl; have z'9 : w2.cell? ⟨gb, 9, none⟩ = some (.slice A0_9 l0_9.length c0_9) := (bc_ BK.out 9).trans rfl; have z'10 : w2.cell? ⟨gb, 10, none⟩ = some (.slice A0_10 l0_10.length c0_10) := (bc_ BK.out 10).trans rfl; have z'11 : w2.cell? ⟨gb, 11, none⟩ = some (.string a0_11) := (bc_ BK.out 11).trans rfl; have z'12 : w2.cell? ⟨gb, 12, none⟩ = some (.slice A0_12 l0_12.length c0_12) := (bc_ BK.out 12).trans rfl) | ((with_reducible refine a0e (f := 32) rfl ?_); refine a0w (some 4) rfl rfl Try.func32 (by kernel_rfl) rfl #[.agg #[.int .i64 a0_0, .int .i64 a0_1, .int .i64 a0_2, .int .i64 a0_3, .bool a0_4, .int .i64 a0_5, .int .i64 a0_6, .int .i64 a0_7, .slice A0_8 l0_8.length c0_8, .slice A0_9 l0_9.length c0_9, .slice A0_10 l0_10.length c0_10, .string a0_11, .slice A0_12 l0_12.length c0_12], .func (.func 33) #[] #[]] rfl (by (try simp only [List.map_toArray, List.map_cons, List.map_nil]); first | done | rfl | (simp only [List.length_drop, List.length_take]; rfl)) ?_; (with_reducible refine (a1b.calls k a0_0 a0_1 a0_2 a0_3 a0_4 a0_5 a0_6 a0_7 _ _ l0_8 _ _ l0_9 _ _ l0_10 a0_11 _ _ l0_12 l _ ?s1 ?s2 ?s3 ?s4 ?s5 ?s6 ?s7 ?s8 HW.out).mono ?_); (case s1 => repeat (first | exact (Kd.a1g HR0_8.out HB.out) | (with_reducible refine Kd.a2b ?_ _) | (with_reducible refine Kd.a2c ?_ _) | (with_reducible refine Kd.a2m ?_))); (case s2 => exact HC0_8.out); (case s3 => repeat (first | exact (Kd.a1g HR0_9.out HB.out) | (with_reducible refine Kd.a2b ?_ _) | (with_reducible refine Kd.a2c ?_ _) | (with_reducible refine Kd.a2m ?_))); (case s4 => exact HC0_9.out); (case s5 => repeat (first | exact (Kd.a1g HR0_10.out HB.out) | (with_reducible refine Kd.a2b ?_ _) | (with_reducible refine Kd.a2c ?_ _) | (with_reducible refine Kd.a2m ?_))); (case s6 => exact HC0_10.out); (case s7 => repeat (first | exact (Kd.a1g HR0_12.out HB.out) | (with_reducible refine Kd.a2b ?_ _) | (with_reducible refine Kd.a2c ?_ _) | (with_reducible refine Kd.a2m ?_))); (case s8 => exact HC0_12.out); rintro e w13 ⟨vw, rfl, ho0, hb⟩; refine ⟨_, rfl, ?_⟩; have n1_ := am_ (a1o (g := gb) (o := .cells #[.int .i64 a0_0, .int .i64 a0_1, .int .i64 a0_2, .int .i64 a0_3, .bool a0_4, .int .i64 a0_5, .int .i64 a0_6, .int .i64 a0_7, .slice A0_8 l0_8.length c0_8, .slice A0_9 l0_9.length c0_9, .slice A0_10 l0_10.length c0_10, .string a0_11, .slice A0_12 l0_12.length c0_12] 62 (0, 0)) (by (with_reducible repeat (first | refine bn_ ?_ _ | refine bd_ ?_ | refine ba_ ?_ _)); exact BK.out) hb); have n2_ := am_ (a7u (by repeat (first | (with_reducible first | exact HB.out | apply la_ | apply ln_ | apply ld_) | exact HB.out)) hb); clear BK; clear HB; have BK := n1_; have HB := n2_; clear n1_ n2_; clear hb; obtain ⟨Ao, co, eo, hlo, hro⟩ := Kd.a8p ho0; subst eo; have HO := am_ hro; have HL := am_ hlo; clear ho0 hro hlo) | ((with_reducible refine a0e (f := 64) rfl ?_); refine a0w (some 6) rfl rfl Try.func64 (by kernel_rfl) rfl #[.slice Ao l.length co, .func (.func 65) #[] #[.pointer (some ⟨gb, 0, none⟩)]] rfl (by (try simp only [List.map_toArray, List.map_cons, List.map_nil]); first | done | rfl) ?_; (with_reducible refine (b0g l a0_3 gb _ _ _ ?s1 HL.out HN.out ?s2).mono ?_); (case s1 => repeat (first | exact HO.out | (with_reducible refine Kd.a2b ?_ _) | (with_reducible refine Kd.a2c ?_ _) | (with_reducible refine Kd.a2m ?_))); (case s2 => first | exact (bc_ BK.out 3).trans rfl | (refine (bc_ (bn_ BK.out _) 3).trans rfl) | (refine (bc_ (bd_ BK.out) 3).trans rfl)); rintro e w' ⟨rfl, ⟨nd, rfl⟩⟩; refine ⟨_, rfl, ?_⟩))
 go_ret
 exact ⟨by first | (rw [← HRR.out]; rfl) | (rw [← HRR.out]), by repeat (first | (with_reducible first | exact HB.out | apply la_ | apply ln_ | apply ld_) | exact HB.out)⟩
end Go.Proofs.Ytemnlgefngjliaa.Given
