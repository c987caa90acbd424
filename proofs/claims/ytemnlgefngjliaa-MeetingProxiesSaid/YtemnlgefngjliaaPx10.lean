/- What a name is, by package meeting: a contract of its loop over the bytes. Conditions: the string has at most a million bytes (longer ones: nothing is said). -/
import Derived.Test.YtemnlgefngjliaaProg
import Derived.Below
import Derived.Tactics
import Derived.WalkKit
import Derived.KernelRfl
import Derived.RowKit3
import Derived.Lib.ConvBytes
import Derived.Deep.LoopGhost
import Derived.Deep.QuietTactic
import Derived.BigQuiet
import Derived.WideLaws
import Derived.RowKit
import Derived.Outline
import Derived.Test.YtemnlgefngjliaaWWords
import Derived.Test.YtemnlgefngjliaaWLast
import Derived.Test.YtemnlgefngjliaaWMore
import Derived.Test.YtemnlgefngjliaaGLib
import Derived.Test.YtemnlgefngjliaaPx8
import Derived.Test.YtemnlgefngjliaaPx0
import Derived.Test.YtemnlgefngjliaaPx3
namespace Go.Proofs.Ytemnlgefngjliaa.Given
open Go.RowKit Go.Proofs.YtemnlgefngjliaaW.PrintWords Go.Proofs.YtemnlgefngjliaaW.PrintLast Go.Proofs.YtemnlgefngjliaaW.PrintMore Go.Proofs.Ytemnlgefngjliaa.Px
set_option linter.unusedVariables false
set_option linter.unusedSimpArgs false
def a3n (c i : Int) : Bool := !(decide (97 ≤ c) && decide (c ≤ 122)) && (i == 0 || (c != 95 && (decide (c < 48) || decide (c > 57))))
def a5i (s : ByteArray) (n : Nat) : Bool := (List.range n).all fun i => !a3n (bt s i) i
def a4z (s : ByteArray) : Bool := a5i s s.size && (decide (1 ≤ s.size) && decide (s.size ≤ 16))
def a4u.f (a0 : ByteArray) : Option Bool := if a0.size ≤ 1000000 then some (a4z a0) else none
theorem a7s (s : ByteArray) (n : Nat) : a5i s (n + 1) = (a5i s n && !a3n (bt s n) n) := by
 unfold a5i
 rw [List.range_succ, List.all_append]
 simp
theorem b1o (s : ByteArray) : ∀ (d n : Nat), a5i s n = false → a5i s (n + d) = false
 | 0, n, h => h
 | d + 1, n, h => by rw [show n + (d + 1) = (n + d) + 1 by omega, a7s, b1o s d n h]; rfl
def a7e (s : ByteArray) : List Int := (List.range s.size).map fun (i : Nat) => bt s (i : Int)
theorem b1p (s : ByteArray) (j : Nat) (hj : j < s.size) : (a7e s).getD j 0 = bt s (j : Int) := by
 unfold a7e
 simp [List.getD_eq_getElem?_getD, hj]
theorem b4g (w : World) (s : ByteArray) (e : TypeId) (h : s.size ≤ 1000000) : Kd.C (Kd.int .u8) (Lib.bytesWorld w e s) (some ⟨w.heap.size, 0, none⟩) s.size (a7e s) := by
 refine Kd.a6h (enc := Value.int .u8) (d := 0) (h1 := fun _ => rfl) ⟨by unfold a7e; simp, by omega, fun hn => ⟨_, rfl, fun j hj => ?_⟩⟩
 have hc := Lib.bytesWorld_cell w e s j hj
 have ha : (⟨w.heap.size, 0, none⟩ : Addr).add j = ⟨w.heap.size, j, none⟩ := add_plain _ _
 rw [ha, hc, b1p s j hj]
 congr 2
 unfold bt
 have hj' : ((j : Nat) : Int).toNat < s.size := by simpa using hj
 rw [dif_pos hj']
 simp [List.getD_eq_getElem?_getD, hj]
 rfl
theorem b2d (w : World) (s : ByteArray) (e : TypeId) : Below w.heap.size w (Lib.bytesWorld w e s) := by
 refine ⟨rfl, ?_, rfl, ?_, fun i hi => Lib.bytesWorld_at_old w e s i hi⟩ <;> first | rfl | (rw [Lib.bytesWorld_size]; omega)
theorem b1q (s : ByteArray) (k : Nat) (hk : k < s.size) : rd (a7e s) (k : Int) = bt s k := by
 unfold rd
 rw [Int.toNat_natCast, b1p s k hk]
set_option maxHeartbeats 8000000 in
set_option maxRecDepth 100000 in
theorem a4u.calls (a0 : ByteArray) (r : Bool) (w : World) (h : a4u.f a0 = some r) :
  Calls Try.prog 43 #[.string a0] w fun e w' => e = .returned (.bool r) ∧ Below w.heap.size w w' := by
 have hs : a0.size ≤ 1000000 := by
  unfold a4u.f at h
  split at h
  ·assumption
  ·exact absurd h (by simp)
 have hr : Aside0 (a4z a0 = r) := ⟨by
  unfold a4u.f at h
  rw [if_pos hs] at h
  exact si_ h⟩
 clear h
 have hcv := Lib.run_convert_string_bytes (P := Try.prog) w 9 84 5 a0 Try.underlying9 Try.underlying84 Try.underlying5
 have HC := am_ (b4g w a0 5 hs)
 have HB := am_ (b2d w a0 5)
 go_enter Try.func43, Try.ntmps43
 go_wp2
 generalize Lib.bytesWorld w 5 a0 = W1 at HC HB ⊢
 clear hcv
 go_loopg [9] (a0.size + 1) (fun kq v9 w' => ∃ (x : Int), v9 = .int .i64 x ∧ 0 ≤ x ∧ x ≤ a0.size ∧ Aside0 (a5i a0 x.toNat = true) ∧ Aside0 (((a0.size : Int) - x).toNat < kq) ∧ w' = W1)
 case atStart => exact ⟨0, rfl, by omega, by omega, ⟨rfl⟩, ⟨by omega⟩, rfl⟩
 case round =>
  obtain ⟨x, rfl, h0, h1, HN, HK, rfl⟩ := hrel
  by_cases hlt : x < (a0.size : Int)
  ·obtain ⟨ad, e, hx⟩ := Kd.a1w HC.out x h0 hlt
   cases e
   rw [add_plain] at hx
   have fin_bad : a3n (rd (a7e a0) x) x = true → r = false := fun hb => by
    obtain ⟨k, rfl⟩ := Int.eq_ofNat_of_zero_le h0
    rw [b1q a0 k (by omega)] at hb
    have e1 : a5i a0 (k + 1) = false := by rw [a7s, hb]; simp
    have e2 := b1o a0 (a0.size - (k + 1)) (k + 1) e1
    rw [show k + 1 + (a0.size - (k + 1)) = a0.size by omega] at e2
    rw [← hr.out]
    unfold a4z
    rw [e2]
    rfl
   have fin_ok : a3n (rd (a7e a0) x) x = false → Aside0 (a5i a0 (x + 1).toNat = true) := fun hb => by
    obtain ⟨k, rfl⟩ := Int.eq_ofNat_of_zero_le h0
    rw [b1q a0 k (by omega)] at hb
    have hn := HN.out
    rw [Int.toNat_natCast] at hn
    exact ⟨by rw [show ((k : Int) + 1).toNat = k + 1 by omega, a7s, hn, hb]; rfl⟩
   have hw1 : wrap64 (x + 1) = x + 1 := by unfold wrap64; omega
   have g0 : decide (x < (a0.size : Int)) = true := decide_eq_true hlt
   generalize rd (a7e a0) x = c at hx fin_bad fin_ok
   have p1 := eq_true h0
   have q1 := eq_true hlt
   cases hb1 : decide (97 ≤ c) with
   | false =>
    cases hb3 : (x == 0) with
    | true =>
     have hbad : a3n c x = true := by simp [a3n, hb1, hb3]
     have hrf : r = false := fin_bad hbad
     subst hrf
     clear fin_bad fin_ok hbad
     go_wp2
     go_ret
     exact ⟨rfl, HB.out⟩
    | false =>
     cases hb4 : (c != 95) with
     | false =>
      have hok := fin_ok (show a3n c x = false by simp [a3n, hb1, hb3, hb4])
      clear fin_bad fin_ok
      go_wp2
      go_roundg ((a0.size : Int) - x).toNat
      case measure => have := HK.out; omega
      case rel => exact ⟨x + 1, by first | rfl | (rw [hw1]), by omega, by omega, hok, ⟨by have := HK.out; omega⟩, rfl⟩
     | true =>
      cases hb5 : decide (c < 48) with
      | true =>
       have hbad : a3n c x = true := by simp [a3n, hb1, hb3, hb4, hb5]
       have hrf : r = false := fin_bad hbad
       subst hrf
       clear fin_bad fin_ok hbad
       go_wp2
       go_ret
       exact ⟨rfl, HB.out⟩
      | false =>
       cases hb6 : decide (57 < c) with
       | true =>
        have hbad : a3n c x = true := by simp [a3n, hb1, hb3, hb4, hb5, hb6]
        have hrf : r = false := fin_bad hbad
        subst hrf
        clear fin_bad fin_ok hbad
        go_wp2
        go_ret
        exact ⟨rfl, HB.out⟩
       | false =>
        have hok := fin_ok (show a3n c x = false by simp [a3n, hb1, hb3, hb4, hb5, hb6])
        clear fin_bad fin_ok
        go_wp2
        go_roundg ((a0.size : Int) - x).toNat
        case measure => have := HK.out; omega
        case rel => exact ⟨x + 1, by first | rfl | (rw [hw1]), by omega, by omega, hok, ⟨by have := HK.out; omega⟩, rfl⟩
   | true =>
    cases hb2 : decide (c ≤ 122) with
    | true =>
     have hok := fin_ok (show a3n c x = false by simp [a3n, hb1, hb2])
     clear fin_bad fin_ok
     go_wp2
     go_roundg ((a0.size : Int) - x).toNat
     case measure => have := HK.out; omega
     case rel => exact ⟨x + 1, by first | rfl | (rw [hw1]), by omega, by omega, hok, ⟨by have := HK.out; omega⟩, rfl⟩
    | false =>
     cases hb3 : (x == 0) with
     | true =>
      have hbad : a3n c x = true := by simp [a3n, hb1, hb2, hb3]
      have hrf : r = false := fin_bad hbad
      subst hrf
      clear fin_bad fin_ok hbad
      go_wp2
      go_ret
      exact ⟨rfl, HB.out⟩
     | false =>
      cases hb4 : (c != 95) with
      | false =>
       have hok := fin_ok (show a3n c x = false by simp [a3n, hb1, hb2, hb3, hb4])
       clear fin_bad fin_ok
       go_wp2
       go_roundg ((a0.size : Int) - x).toNat
       case measure => have := HK.out; omega
       case rel => exact ⟨x + 1, by first | rfl | (rw [hw1]), by omega, by omega, hok, ⟨by have := HK.out; omega⟩, rfl⟩
      | true =>
       cases hb5 : decide (c < 48) with
       | true =>
        have hbad : a3n c x = true := by simp [a3n, hb1, hb2, hb3, hb4, hb5]
        have hrf : r = false := fin_bad hbad
        subst hrf
        clear fin_bad fin_ok hbad
        go_wp2
        go_ret
        exact ⟨rfl, HB.out⟩
       | false =>
        cases hb6 : decide (57 < c) with
        | true =>
         have hbad : a3n c x = true := by simp [a3n, hb1, hb2, hb3, hb4, hb5, hb6]
         have hrf : r = false := fin_bad hbad
         subst hrf
         clear fin_bad fin_ok hbad
         go_wp2
         go_ret
         exact ⟨rfl, HB.out⟩
        | false =>
         have hok := fin_ok (show a3n c x = false by simp [a3n, hb1, hb2, hb3, hb4, hb5, hb6])
         clear fin_bad fin_ok
         go_wp2
         go_roundg ((a0.size : Int) - x).toNat
         case measure => have := HK.out; omega
         case rel => exact ⟨x + 1, by first | rfl | (rw [hw1]), by omega, by omega, hok, ⟨by have := HK.out; omega⟩, rfl⟩
  ·obtain rfl : x = a0.size := by omega
   have g0 : decide ((a0.size : Int) < (a0.size : Int)) = false := decide_eq_false hlt
   have hres : a0t.f (a0.size : Int) 1 16 = some r := by
    have hn := HN.out
    rw [Int.toNat_natCast] at hn
    rw [← hr.out]
    unfold a0t.f a4z
    rw [hn]
    by_cases c : 1 ≤ a0.size
    ·rw [if_pos (by omega)]; simp [c]; omega
    ·rw [if_neg (by omega)]; simp [c]
   clear h0 h1 HN HK
   go_wp2_with (go_at_call 51; (refine (a0t.calls _ _ _ r _ hres).mono ?_); rintro e w' ⟨rfl, ⟨nd, rfl⟩⟩)
   go_ret
   exact ⟨rfl, ln_ HB.out _⟩
end Go.Proofs.Ytemnlgefngjliaa.Given
/- Contracts of Go functions, written by a program of this session's own (wip/tools/myprint.py) out of the translation: each Go function does what the Lean function of its name says. Conditions: as each theorem states. -/
namespace Go.Proofs.Ytemnlgefngjliaa.Px
open Go.Proofs.Ytemnlgefngjliaa.Given
open Go.RowKit Go.Proofs.YtemnlgefngjliaaW.PrintWords Go.Proofs.YtemnlgefngjliaaW.PrintLast Go.Proofs.YtemnlgefngjliaaW.PrintMore
attribute [local go_sem] a2h a2i a2t a2u a1x a1y a2j a2k
set_option linter.unusedVariables false
set_option linter.unusedSimpArgs false
def a1k.l0 : Nat → List ByteArray → List ByteArray → Int → Int → Option (Bool)
 | 0, _, _, _, _ => none
 | k + 1, x0, x5, x6, x7 => if x7 < x6 then (if 0 ≤ x7 then (if x7 < (x5.length : Int) then ((a4u.f (rdOf ByteArray.empty x5 x7)).bind fun t207 => (if t207 = true then (if x7 ≤ (x0.length : Int) then ((Sc.f k (x0.take (x7 : Int).toNat) (rdOf ByteArray.empty x5 x7)).bind fun t209 => (if t209 = true then (some false) else (a1k.l0 k x0 x5 x6 (wrap64 (x7 + 1))))) else (none)) else (some false))) else (none)) else (none)) else (some (decide ((x0.length : Int) ≤ 20)))
def a1k.f (k : Nat) (l0 : List ByteArray) : Option (Bool) := a1k.l0 k l0 l0 (l0.length : Int) 0
theorem a1k.a0v : ∀ k, (∀ y0 y1 y2 y3, LeO (a1k.l0 k y0 y1 y2 y3) (a1k.l0 (k + 1) y0 y1 y2 y3))
 | 0 => fun _ _ _ _ r h => by simp [a1k.l0] at h
 | k + 1 => by
  have ih0 := a1k.a0v k
  ·intro y0 y1 y2 y3
   unfold a1k.l0
   with_reducible (repeat' first | apply ih0 | apply Sc.mono | apply LeO.refl | apply LeO.none | apply LeO.ite | refine LeO.bind ?_ (fun _ => ?_))
theorem a1k.mono : ∀ a0 k, LeO (a1k.f k a0) (a1k.f (k + 1) a0) := by
 intro a0 k
 have ih0 := a1k.a0v k
 unfold a1k.f
 with_reducible (repeat' first | apply ih0 | apply Sc.mono | apply LeO.refl | apply LeO.none | apply LeO.ite | refine LeO.bind ?_ (fun _ => ?_))
set_option maxHeartbeats 8000000 in
set_option maxRecDepth 100000 in
theorem a1k.calls (k : Nat) (A0 : Option Addr) (c0 : Nat) (l0 : List ByteArray) (r : Bool) (w : World) (hr0 : Kd.C Kd.string w A0 l0.length l0) (hc0 : l0.length ≤ c0) (h : a1k.f k l0 = some r) :
  Calls Try.prog 54 #[.slice A0 l0.length c0] w fun e w' => e = .returned (.bool r) ∧ Below w.heap.size w w' := by
 have HR0 := am_ hr0
 have HC0 := am_ hc0
 clear hr0 hc0
 have HB := am_ (Below.refl w.heap.size w)
 have H : (a1k.l0 k l0 l0 (l0.length : Int) 0) = some r := h
 clear h
 have H' := am_ H
 clear H
 go_enter Try.func54, Try.ntmps54
 go_wp2
 go_loopg [7] k (fun kq v7 w' => ∃ (x7_1 : Int), v7 = .int .i64 x7_1 ∧ Aside0 (a1k.l0 kq l0 l0 (l0.length : Int) x7_1 = some r) ∧ Aside0 (kq ≤ k) ∧ Aside0 (Below w.heap.size w w'))
 case atStart => exact ⟨(0), qs_, H', ⟨Nat.le_refl _⟩, ⟨qb_⟩⟩
 case round =>
  clear H'
  obtain ⟨x7_1, rfl, HA, HK1, HB⟩ := hrel
  cases gk with
  | zero => exact absurd HA.out (by simp [a1k.l0])
  | succ k1 =>
   have H := HA.out
   clear HA
   simp only [a1k.l0] at H
   by_cases c2 : x7_1 < (l0.length : Int)
   ·rw [if_pos c2] at H
    have c2b0 : decide (x7_1 < (l0.length : Int)) = true := decide_eq_true c2
    clear c2
    by_cases c3 : 0 ≤ x7_1
    ·rw [if_pos c3] at H
     have c3b0 : decide (0 ≤ x7_1) = true := decide_eq_true c3
     clear c3
     by_cases c4 : x7_1 < (l0.length : Int)
     ·rw [if_pos c4] at H
      have c4b0 : decide (x7_1 < (l0.length : Int)) = true := decide_eq_true c4
      clear c4
      replace H := bm_ H
      obtain ⟨t207, A50, H⟩ := H
      replace H : (if t207 = true then (if x7_1 ≤ (l0.length : Int) then ((Sc.f k1 (l0.take (x7_1 : Int).toNat) (rdOf ByteArray.empty l0 x7_1)).bind fun t209 => (if t209 = true then (some false) else (a1k.l0 k1 l0 l0 (l0.length : Int) (wrap64 (x7_1 + 1))))) else (none)) else (some false)) = some r := H
      have A5 := am_ A50
      clear A50
      by_cases c6 : t207 = true
      ·subst c6
       have H1 : (if x7_1 ≤ (l0.length : Int) then ((Sc.f k1 (l0.take (x7_1 : Int).toNat) (rdOf ByteArray.empty l0 x7_1)).bind fun t209 => (if t209 = true then (some false) else (a1k.l0 k1 l0 l0 (l0.length : Int) (wrap64 (x7_1 + 1))))) else (none)) = some r := by rw [if_pos rfl] at H; exact H
       clear H
       have H := H1
       clear H1
       have c7b0 := eq_true (ot_ : 0 ≤ x7_1)
       by_cases c8 : x7_1 ≤ (l0.length : Int)
       ·rw [if_pos c8] at H
        have c8b0 := eq_true c8
        have c8b1 : decide (x7_1 ≤ (l0.length : Int)) = true := decide_eq_true c8
        clear c8
        replace H := bm_ H
        obtain ⟨t209, A90, H⟩ := H
        replace H : (if t209 = true then (some false) else (a1k.l0 k1 l0 l0 (l0.length : Int) (wrap64 (x7_1 + 1)))) = some r := H
        have A9 := am_ A90
        clear A90
        by_cases c10 : t209 = true
        ·subst c10
         have H1 : (some false) = some r := by rw [if_pos rfl] at H; exact H
         clear H
         have H := H1
         clear H1
         obtain rfl := si_ H
         have p206 : 0 ≤ (x7_1 : Int) := ot_
         have q206 : x7_1 < (l0.length : Int) := ot_
         obtain ⟨ad206, e206, hx206_0⟩ := Kd.a4e HR0.out x7_1 p206 q206
         cases e206
         replace hx206_0 := qh_ HB hx206_0
         replace p206 := eq_true p206
         replace q206 := eq_true q206
         go_wp2_with (first | ((with_reducible refine a0b (f := 43) rfl ?_); refine a0p (some 13) rfl rfl Try.func43 (by kernel_rfl) rfl #[.string (rdOf ByteArray.empty l0 x7_1)] rfl ql_ ?_; (with_reducible refine (a4u.calls (rdOf ByteArray.empty l0 x7_1) true _ A5.out).mono ?_); rintro e w11 ⟨rfl, hb⟩; refine ⟨_, rfl, ?_⟩; replace HB := qbs_ hb; (try clear hb); (try clear hb2); (try clear hk); (try clear hi); obtain ⟨i012, hi012, _, hsz12, _⟩ := info_parts b0y; obtain ⟨hcut12, hA12, hC12⟩ := a6d (P := Try.prog) Value.string (⟨#[]⟩ : ByteArray) 26 9 .i64 Try.underlying26 hi012 hsz12 (some ad206) c0 l0 x7_1 (ot_) (ot_) HC0.out; have HR208 := am_ (Kd.a6h (h1 := fun _ => rfl) (hA12 _ (Kd.a5z HR0.out))); have HC208 := am_ hC12; clear hA12 hC12 hi012 hsz12) | (go_at_call 62; refine a7x (args' := #[.slice (some ad206) (l0.take (x7_1 : Int).toNat).length c0, .string (rdOf ByteArray.empty l0 x7_1)]) (by first | rfl | (simp only [List.length_take]; done) | (simp [List.length_take]; done) | (simp [*, List.length_take]; done) | (simp [List.length_take]; omega) | (simp [*, List.length_take]; omega)) ?_; (with_reducible refine (Sc.calls k1 _ _ (l0.take (x7_1 : Int).toNat) (rdOf ByteArray.empty l0 x7_1) true _ ?s1 ?s2 A9.out).mono ?_); (case s1 => exact qc_ HR208); (case s2 => exact HC208.out); rintro e w' ⟨rfl, ⟨nd, rfl⟩⟩))
         go_ret
         exact ⟨qx_, qb_⟩
        ·replace c10 := be_ c10
         subst c10
         have H1 : (a1k.l0 k1 l0 l0 (l0.length : Int) (wrap64 (x7_1 + 1))) = some r := by rw [if_neg (show ¬ (false = true) by decide)] at H; exact H
         clear H
         have H := H1
         clear H1
         have H' := am_ H
         clear H
         have p206 : 0 ≤ (x7_1 : Int) := ot_
         have q206 : x7_1 < (l0.length : Int) := ot_
         obtain ⟨ad206, e206, hx206_0⟩ := Kd.a4e HR0.out x7_1 p206 q206
         cases e206
         replace hx206_0 := qh_ HB hx206_0
         replace p206 := eq_true p206
         replace q206 := eq_true q206
         go_wp2_with (first | ((with_reducible refine a0b (f := 43) rfl ?_); refine a0p (some 13) rfl rfl Try.func43 (by kernel_rfl) rfl #[.string (rdOf ByteArray.empty l0 x7_1)] rfl ql_ ?_; (with_reducible refine (a4u.calls (rdOf ByteArray.empty l0 x7_1) true _ A5.out).mono ?_); rintro e w13 ⟨rfl, hb⟩; refine ⟨_, rfl, ?_⟩; replace HB := qbs_ hb; (try clear hb); (try clear hb2); (try clear hk); (try clear hi); obtain ⟨i014, hi014, _, hsz14, _⟩ := info_parts b0y; obtain ⟨hcut14, hA14, hC14⟩ := a6d (P := Try.prog) Value.string (⟨#[]⟩ : ByteArray) 26 9 .i64 Try.underlying26 hi014 hsz14 (some ad206) c0 l0 x7_1 (ot_) (ot_) HC0.out; have HR208 := am_ (Kd.a6h (h1 := fun _ => rfl) (hA14 _ (Kd.a5z HR0.out))); have HC208 := am_ hC14; clear hA14 hC14 hi014 hsz14) | (go_at_call 62; refine a7x (args' := #[.slice (some ad206) (l0.take (x7_1 : Int).toNat).length c0, .string (rdOf ByteArray.empty l0 x7_1)]) (by first | rfl | (simp only [List.length_take]; done) | (simp [List.length_take]; done) | (simp [*, List.length_take]; done) | (simp [List.length_take]; omega) | (simp [*, List.length_take]; omega)) ?_; (with_reducible refine (Sc.calls k1 _ _ (l0.take (x7_1 : Int).toNat) (rdOf ByteArray.empty l0 x7_1) false _ ?s1 ?s2 A9.out).mono ?_); (case s1 => exact qc_ HR208); (case s2 => exact HC208.out); rintro e w' ⟨rfl, ⟨nd, rfl⟩⟩))
         go_roundg k1
         case measure => have := HK1.out; omega
         case rel => exact ⟨(wrap64 (x7_1 + 1)), qs_, H', ⟨by have := HK1.out; omega⟩, ⟨qb_⟩⟩
       ·rw [if_neg c8] at H
        exact absurd H (by simp)
      ·replace c6 := be_ c6
       subst c6
       have H1 : (some false) = some r := by rw [if_neg (show ¬ (false = true) by decide)] at H; exact H
       clear H
       have H := H1
       clear H1
       obtain rfl := si_ H
       have p206 : 0 ≤ (x7_1 : Int) := ot_
       have q206 : x7_1 < (l0.length : Int) := ot_
       obtain ⟨ad206, e206, hx206_0⟩ := Kd.a4e HR0.out x7_1 p206 q206
       cases e206
       replace hx206_0 := qh_ HB hx206_0
       replace p206 := eq_true p206
       replace q206 := eq_true q206
       go_wp2_with (first | ((with_reducible refine a0b (f := 43) rfl ?_); refine a0p (some 13) rfl rfl Try.func43 (by kernel_rfl) rfl #[.string (rdOf ByteArray.empty l0 x7_1)] rfl ql_ ?_; (with_reducible refine (a4u.calls (rdOf ByteArray.empty l0 x7_1) false _ A5.out).mono ?_); rintro e w15 ⟨rfl, hb⟩; refine ⟨_, rfl, ?_⟩; replace HB := qbs_ hb; (try clear hb); (try clear hb2); (try clear hk); (try clear hi)))
       go_ret
       exact ⟨qx_, qb_⟩
     ·rw [if_neg c4] at H
      exact absurd H (by simp)
    ·rw [if_neg c3] at H
     exact absurd H (by simp)
   ·rw [if_neg c2] at H
    have c2b0 : decide (x7_1 < (l0.length : Int)) = false := decide_eq_false c2
    clear c2
    obtain rfl := si_ H
    go_wp2
    go_ret
    exact ⟨qx_, qb_⟩
end Go.Proofs.Ytemnlgefngjliaa.Px
