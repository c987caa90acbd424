/- Contracts of Go functions, printed. Conditions: as each theorem states. -/
import Derived.Test.YtemnlgefngjliaaPx0
import Derived.Test.YtemnlgefngjliaaPx3
import Derived.Test.YtemnlgefngjliaaGName
namespace Go.Proofs.Ytemnlgefngjliaa.Px
open Go.Proofs.Ytemnlgefngjliaa.Given
open Go.RowKit Go.Proofs.YtemnlgefngjliaaW.PrintWords Go.Proofs.YtemnlgefngjliaaW.PrintLast Go.Proofs.YtemnlgefngjliaaW.PrintMore
attribute [local go_sem] a2f a2g a2r a2s a1x a1y a2h a2i
set_option linter.unusedVariables false
set_option linter.unusedSimpArgs false
def a1k.l0 : Nat → List ByteArray → List ByteArray → Int → Int → Option (Bool)
 | 0, _, _, _, _ => none
 | k + 1, x0, x5, x6, x7 => if x7 < x6 then (if 0 ≤ x7 then (if x7 < (x5.length : Int) then ((a4o.f (rdOf ByteArray.empty x5 x7)).bind fun t207 => (if t207 = true then (if x7 ≤ (x0.length : Int) then ((Sc.f k (x0.take (x7 : Int).toNat) (rdOf ByteArray.empty x5 x7)).bind fun t209 => (if t209 = true then (some false) else (a1k.l0 k x0 x5 x6 (wrap64 (x7 + 1))))) else (none)) else (some false))) else (none)) else (none)) else (some (decide ((x0.length : Int) ≤ 20)))
def a1k.f (k : Nat) (l0 : List ByteArray) : Option (Bool) := a1k.l0 k l0 l0 (l0.length : Int) 0
theorem a1k.a0t : ∀ k, (∀ y0 y1 y2 y3, LeO (a1k.l0 k y0 y1 y2 y3) (a1k.l0 (k + 1) y0 y1 y2 y3))
 | 0 => fun _ _ _ _ r h => by simp [a1k.l0] at h
 | k + 1 => by
  have ih0 := a1k.a0t k
  ·intro y0 y1 y2 y3
   unfold a1k.l0
   with_reducible (repeat' first | apply ih0 | apply Sc.mono | apply LeO.refl | apply LeO.none | apply LeO.ite | refine LeO.bind ?_ (fun _ => ?_))
theorem a1k.mono : ∀ a0 k, LeO (a1k.f k a0) (a1k.f (k + 1) a0) := by
 intro a0 k
 have ih0 := a1k.a0t k
 unfold a1k.f
 with_reducible (repeat' first | apply ih0 | apply Sc.mono | apply LeO.refl | apply LeO.none | apply LeO.ite | refine LeO.bind ?_ (fun _ => ?_))
set_option maxHeartbeats 8000000 in
set_option maxRecDepth 100000 in
theorem a1k.calls (k : Nat) (A0 : Option Addr) (c0 : Nat) (l0 : List ByteArray) (r : Bool) (w : World) (hr0 : Kd.C Kd.string w A0 l0.length l0) (hc0 : l0.length ≤ c0) (h : a1k.f k l0 = some r) :
  Calls Try.prog 54 #[.slice A0 l0.length c0] w fun e w' => e = .returned (.bool r) ∧ Below w.heap.size w w' := by
 have HR0 := am_ hr0
 have HC0 := am_ hc0
 clear hr0 hc0
 have HB := am_ (Below.refl w.heap.size w)
 have H : (a1k.l0 k l0 l0 (l0.length : Int) 0) = some r := h
 clear h
 have H' := am_ H
 clear H
 go_enter Try.func54, Try.ntmps54
 go_wp2
 go_loopg [7] k (fun kq v7 w' => ∃ (x7_1 : Int), v7 = .int .i64 x7_1 ∧ Aside0 (a1k.l0 kq l0 l0 (l0.length : Int) x7_1 = some r) ∧ Aside0 (kq ≤ k) ∧ Aside0 (Below w.heap.size w w'))
 case atStart => exact ⟨(0), qs_, H', ⟨Nat.le_refl _⟩, ⟨qb_⟩⟩
 case round =>
  clear H'
  obtain ⟨x7_1, rfl, HA, HK1, HB⟩ := hrel
  cases gk with
  | zero => exact absurd HA.out (by simp [a1k.l0])
  | succ k1 =>
   have H := HA.out
   clear HA
   simp only [a1k.l0] at H
   by_cases c2 : x7_1 < (l0.length : Int)
   ·rw [if_pos c2] at H
    have c2b0 : decide (x7_1 < (l0.length : Int)) = true := decide_eq_true c2
    clear c2
    by_cases c3 : 0 ≤ x7_1
    ·rw [if_pos c3] at H
     have c3b0 : decide (0 ≤ x7_1) = true := decide_eq_true c3
     clear c3
     by_cases c4 : x7_1 < (l0.length : Int)
     ·rw [if_pos c4] at H
      have c4b0 : decide (x7_1 < (l0.length : Int)) = true := decide_eq_true c4
      clear c4
      replace H := bm_ H
      obtain ⟨t207, A50, H⟩ := H
      replace H : (if t207 = true then (if x7_1 ≤ (l0.length : Int) then ((Sc.f k1 (l0.take (x7_1 : Int).toNat) (rdOf ByteArray.empty l0 x7_1)).bind fun t209 => (if t209 = true then (some false) else (a1k.l0 k1 l0 l0 (l0.length : Int) (wrap64 (x7_1 + 1))))) else (none)) else (some false)) = some r := H
      have A5 := am_ A50
      clear A50
      by_cases c6 : t207 = true
      ·subst c6
       have H1 : (if x7_1 ≤ (l0.length : Int) then ((Sc.f k1 (l0.take (x7_1 : Int).toNat) (rdOf ByteArray.empty l0 x7_1)).bind fun t209 => (if t209 = true then (some false) else (a1k.l0 k1 l0 l0 (l0.length : Int) (wrap64 (x7_1 + 1))))) else (none)) = some r := by rw [if_pos rfl] at H; exact H
       clear H
       have H := H1
       clear H1
       have c7b0 := eq_true (ot_ : 0 ≤ x7_1)
       by_cases c8 : x7_1 ≤ (l0.length : Int)
       ·rw [if_pos c8] at H
        have c8b0 := eq_true c8
        have c8b1 : decide (x7_1 ≤ (l0.length : Int)) = true := decide_eq_true c8
        clear c8
        replace H := bm_ H
        obtain ⟨t209, A90, H⟩ := H
        replace H : (if t209 = true then (some false) else (a1k.l0 k1 l0 l0 (l0.length : Int) (wrap64 (x7_1 + 1)))) = some r := H
        have A9 := am_ A90
        clear A90
        by_cases c10 : t209 = true
        ·subst c10
         have H1 : (some false) = some r := by rw [if_pos rfl] at H; exact H
         clear H
         have H := H1
         clear H1
         obtain rfl := si_ H
         have p206 : 0 ≤ (x7_1 : Int) := ot_
         have q206 : x7_1 < (l0.length : Int) := ot_
         obtain ⟨ad206, e206, hx206_0⟩ := Kd.a4d HR0.out x7_1 p206 q206
         cases e206
         replace hx206_0 := qh_ HB hx206_0
         replace p206 := eq_true p206
         replace q206 := eq_true q206
         go_wp2_with (first | ((with_reducible refine a0e (f := 43) rfl ?_); refine a0w (some 13) rfl rfl Try.func43 (by kernel_rfl) rfl #[.string (rdOf ByteArray.empty l0 x7_1)] rfl ql_ ?_; (with_reducible refine (a4o.calls (rdOf ByteArray.empty l0 x7_1) true _ A5.out).mono ?_); rintro e w11 ⟨rfl, hb⟩; refine ⟨_, rfl, ?_⟩; replace HB := qbs_ hb; (try clear hb); (try clear hb2); (try clear hk); (try clear hi); obtain ⟨i012, hi012, _, hsz12, _⟩ := info_parts b0z; obtain ⟨hcut12, hA12, hC12⟩ := a6e (P := Try.prog) Value.string (⟨#[]⟩ : ByteArray) 26 9 .i64 Try.underlying26 hi012 hsz12 (some ad206) c0 l0 x7_1 (ot_) (ot_) HC0.out; have HR208 := am_ (Kd.a6i (h1 := fun _ => rfl) (hA12 _ (Kd.a5y HR0.out))); have HC208 := am_ hC12; clear hA12 hC12 hi012 hsz12) | (go_at_call 62; refine a8e (args' := #[.slice (some ad206) (l0.take (x7_1 : Int).toNat).length c0, .string (rdOf ByteArray.empty l0 x7_1)]) (by first | rfl | (simp only [List.length_take]; done) | (simp [List.length_take]; done) | (simp [*, List.length_take]; done) | (simp [List.length_take]; omega) | (simp [*, List.length_take]; omega)) ?_; (with_reducible refine (Sc.calls k1 _ _ (l0.take (x7_1 : Int).toNat) (rdOf ByteArray.empty l0 x7_1) true _ ?s1 ?s2 A9.out).mono ?_); (case s1 => exact qc_ HR208); (case s2 => exact HC208.out); rintro e w' ⟨rfl, ⟨nd, rfl⟩⟩))
         go_ret
         exact ⟨qx_, qb_⟩
        ·replace c10 := be_ c10
         subst c10
         have H1 : (a1k.l0 k1 l0 l0 (l0.length : Int) (wrap64 (x7_1 + 1))) = some r := by rw [if_neg (show ¬ (false = true) by decide)] at H; exact H
         clear H
         have H := H1
         clear H1
         have H' := am_ H
         clear H
         have p206 : 0 ≤ (x7_1 : Int) := ot_
         have q206 : x7_1 < (l0.length : Int) := ot_
         obtain ⟨ad206, e206, hx206_0⟩ := Kd.a4d HR0.out x7_1 p206 q206
         cases e206
         replace hx206_0 := qh_ HB hx206_0
         replace p206 := eq_true p206
         replace q206 := eq_true q206
         go_wp2_with (first | ((with_reducible refine a0e (f := 43) rfl ?_); refine a0w (some 13) rfl rfl Try.func43 (by kernel_rfl) rfl #[.string (rdOf ByteArray.empty l0 x7_1)] rfl ql_ ?_; (with_reducible refine (a4o.calls (rdOf ByteArray.empty l0 x7_1) true _ A5.out).mono ?_); rintro e w13 ⟨rfl, hb⟩; refine ⟨_, rfl, ?_⟩; replace HB := qbs_ hb; (try clear hb); (try clear hb2); (try clear hk); (try clear hi); obtain ⟨i014, hi014, _, hsz14, _⟩ := info_parts b0z; obtain ⟨hcut14, hA14, hC14⟩ := a6e (P := Try.prog) Value.string (⟨#[]⟩ : ByteArray) 26 9 .i64 Try.underlying26 hi014 hsz14 (some ad206) c0 l0 x7_1 (ot_) (ot_) HC0.out; have HR208 := am_ (Kd.a6i (h1 := fun _ => rfl) (hA14 _ (Kd.a5y HR0.out))); have HC208 := am_ hC14; clear hA14 hC14 hi014 hsz14) | (go_at_call 62; refine a8e (args' := #[.slice (some ad206) (l0.take (x7_1 : Int).toNat).length c0, .string (rdOf ByteArray.empty l0 x7_1)]) (by first | rfl | (simp only [List.length_take]; done) | (simp [List.length_take]; done) | (simp [*, List.length_take]; done) | (simp [List.length_take]; omega) | (simp [*, List.length_take]; omega)) ?_; (with_reducible refine (Sc.calls k1 _ _ (l0.take (x7_1 : Int).toNat) (rdOf ByteArray.empty l0 x7_1) false _ ?s1 ?s2 A9.out).mono ?_); (case s1 => exact qc_ HR208); (case s2 => exact HC208.out); rintro e w' ⟨rfl, ⟨nd, rfl⟩⟩))
         go_roundg k1
         case measure => have := HK1.out; omega
         case rel => exact ⟨(wrap64 (x7_1 + 1)), qs_, H', ⟨by have := HK1.out; omega⟩, ⟨qb_⟩⟩
       ·rw [if_neg c8] at H
        exact absurd H (by simp)
      ·replace c6 := be_ c6
       subst c6
       have H1 : (some false) = some r := by rw [if_neg (show ¬ (false = true) by decide)] at H; exact H
       clear H
       have H := H1
       clear H1
       obtain rfl := si_ H
       have p206 : 0 ≤ (x7_1 : Int) := ot_
       have q206 : x7_1 < (l0.length : Int) := ot_
       obtain ⟨ad206, e206, hx206_0⟩ := Kd.a4d HR0.out x7_1 p206 q206
       cases e206
       replace hx206_0 := qh_ HB hx206_0
       replace p206 := eq_true p206
       replace q206 := eq_true q206
       go_wp2_with (first | ((with_reducible refine a0e (f := 43) rfl ?_); refine a0w (some 13) rfl rfl Try.func43 (by kernel_rfl) rfl #[.string (rdOf ByteArray.empty l0 x7_1)] rfl ql_ ?_; (with_reducible refine (a4o.calls (rdOf ByteArray.empty l0 x7_1) false _ A5.out).mono ?_); rintro e w15 ⟨rfl, hb⟩; refine ⟨_, rfl, ?_⟩; replace HB := qbs_ hb; (try clear hb); (try clear hb2); (try clear hk); (try clear hi)))
       go_ret
       exact ⟨qx_, qb_⟩
     ·rw [if_neg c4] at H
      exact absurd H (by simp)
    ·rw [if_neg c3] at H
     exact absurd H (by simp)
   ·rw [if_neg c2] at H
    have c2b0 : decide (x7_1 < (l0.length : Int)) = false := decide_eq_false c2
    clear c2
    obtain rfl := si_ H
    go_wp2
    go_ret
    exact ⟨qx_, qb_⟩
end Go.Proofs.Ytemnlgefngjliaa.Px
