/- What a name is, by package meeting: a contract of its loop over the bytes. Conditions: the string has at most a million bytes (longer ones: nothing is said). -/
import Derived.Test.YtemnlgefngjliaaProg
import Derived.Below
import Derived.Tactics
import Derived.WalkKit
import Derived.KernelRfl
import Derived.RowKit3
import Derived.Lib.ConvBytes
import Derived.Deep.LoopGhost
import Derived.Deep.QuietTactic
import Derived.BigQuiet
import Derived.WideLaws
import Derived.RowKit
import Derived.Outline
import Derived.Test.YtemnlgefngjliaaWWords
import Derived.Test.YtemnlgefngjliaaWLast
import Derived.Test.YtemnlgefngjliaaWMore
import Derived.Test.YtemnlgefngjliaaGLib
import Derived.Test.YtemnlgefngjliaaPx8
namespace Go.Proofs.Ytemnlgefngjliaa.Given
open Go.RowKit Go.Proofs.YtemnlgefngjliaaW.PrintWords Go.Proofs.YtemnlgefngjliaaW.PrintLast Go.Proofs.YtemnlgefngjliaaW.PrintMore Go.Proofs.Ytemnlgefngjliaa.Px
set_option linter.unusedVariables false
set_option linter.unusedSimpArgs false
def a3o (c i : Int) : Bool := !(decide (97 ≤ c) && decide (c ≤ 122)) && (i == 0 || (c != 95 && (decide (c < 48) || decide (c > 57))))
def a5h (s : ByteArray) (n : Nat) : Bool := (List.range n).all fun i => !a3o (bt s i) i
def a4w (s : ByteArray) : Bool := a5h s s.size && (decide (1 ≤ s.size) && decide (s.size ≤ 16))
def a4o.f (a0 : ByteArray) : Option Bool := if a0.size ≤ 1000000 then some (a4w a0) else none
theorem a7x (s : ByteArray) (n : Nat) : a5h s (n + 1) = (a5h s n && !a3o (bt s n) n) := by
 unfold a5h
 rw [List.range_succ, List.all_append]
 simp
theorem b1m (s : ByteArray) : ∀ (d n : Nat), a5h s n = false → a5h s (n + d) = false
 | 0, n, h => h
 | d + 1, n, h => by rw [show n + (d + 1) = (n + d) + 1 by omega, a7x, b1m s d n h]; rfl
def a7f (s : ByteArray) : List Int := (List.range s.size).map fun (i : Nat) => bt s (i : Int)
theorem b1n (s : ByteArray) (j : Nat) (hj : j < s.size) : (a7f s).getD j 0 = bt s (j : Int) := by
 unfold a7f
 simp [List.getD_eq_getElem?_getD, hj]
theorem b4h (w : World) (s : ByteArray) (e : TypeId) (h : s.size ≤ 1000000) : Kd.C (Kd.int .u8) (Lib.bytesWorld w e s) (some ⟨w.heap.size, 0, none⟩) s.size (a7f s) := by
 refine Kd.a6i (enc := Value.int .u8) (d := 0) (h1 := fun _ => rfl) ⟨by unfold a7f; simp, by omega, fun hn => ⟨_, rfl, fun j hj => ?_⟩⟩
 have hc := Lib.bytesWorld_cell w e s j hj
 have ha : (⟨w.heap.size, 0, none⟩ : Addr).add j = ⟨w.heap.size, j, none⟩ := add_plain _ _
 rw [ha, hc, b1n s j hj]
 congr 2
 unfold bt
 have hj' : ((j : Nat) : Int).toNat < s.size := by simpa using hj
 rw [dif_pos hj']
 simp [List.getD_eq_getElem?_getD, hj]
 rfl
theorem b2e (w : World) (s : ByteArray) (e : TypeId) : Below w.heap.size w (Lib.bytesWorld w e s) := by
 refine ⟨rfl, ?_, rfl, ?_, fun i hi => Lib.bytesWorld_at_old w e s i hi⟩ <;> first | rfl | (rw [Lib.bytesWorld_size]; omega)
theorem b1o (s : ByteArray) (k : Nat) (hk : k < s.size) : rd (a7f s) (k : Int) = bt s k := by
 unfold rd
 rw [Int.toNat_natCast, b1n s k hk]
set_option maxHeartbeats 8000000 in
set_option maxRecDepth 100000 in
theorem a4o.calls (a0 : ByteArray) (r : Bool) (w : World) (h : a4o.f a0 = some r) :
  Calls Try.prog 43 #[.string a0] w fun e w' => e = .returned (.bool r) ∧ Below w.heap.size w w' := by
 have hs : a0.size ≤ 1000000 := by
  unfold a4o.f at h
  split at h
  ·assumption
  ·exact absurd h (by simp)
 have hr : Aside0 (a4w a0 = r) := ⟨by
  unfold a4o.f at h
  rw [if_pos hs] at h
  exact si_ h⟩
 clear h
 have hcv := Lib.run_convert_string_bytes (P := Try.prog) w 9 84 5 a0 Try.underlying9 Try.underlying84 Try.underlying5
 have HC := am_ (b4h w a0 5 hs)
 have HB := am_ (b2e w a0 5)
 go_enter Try.func43, Try.ntmps43
 go_wp2
 generalize Lib.bytesWorld w 5 a0 = W1 at HC HB ⊢
 clear hcv
 go_loopg [9] (a0.size + 1) (fun kq v9 w' => ∃ (x : Int), v9 = .int .i64 x ∧ 0 ≤ x ∧ x ≤ a0.size ∧ Aside0 (a5h a0 x.toNat = true) ∧ Aside0 (((a0.size : Int) - x).toNat < kq) ∧ w' = W1)
 case atStart => exact ⟨0, rfl, by omega, by omega, ⟨rfl⟩, ⟨by omega⟩, rfl⟩
 case round =>
  obtain ⟨x, rfl, h0, h1, HN, HK, rfl⟩ := hrel
  by_cases hlt : x < (a0.size : Int)
  ·obtain ⟨ad, e, hx⟩ := Kd.a2o HC.out x h0 hlt
   cases e
   rw [add_plain] at hx
   have fin_bad : a3o (rd (a7f a0) x) x = true → r = false := fun hb => by
    obtain ⟨k, rfl⟩ := Int.eq_ofNat_of_zero_le h0
    rw [b1o a0 k (by omega)] at hb
    have e1 : a5h a0 (k + 1) = false := by rw [a7x, hb]; simp
    have e2 := b1m a0 (a0.size - (k + 1)) (k + 1) e1
    rw [show k + 1 + (a0.size - (k + 1)) = a0.size by omega] at e2
    rw [← hr.out]
    unfold a4w
    rw [e2]
    rfl
   have fin_ok : a3o (rd (a7f a0) x) x = false → Aside0 (a5h a0 (x + 1).toNat = true) := fun hb => by
    obtain ⟨k, rfl⟩ := Int.eq_ofNat_of_zero_le h0
    rw [b1o a0 k (by omega)] at hb
    have hn := HN.out
    rw [Int.toNat_natCast] at hn
    exact ⟨by rw [show ((k : Int) + 1).toNat = k + 1 by omega, a7x, hn, hb]; rfl⟩
   have hw1 : wrap64 (x + 1) = x + 1 := by unfold wrap64; omega
   have g0 : decide (x < (a0.size : Int)) = true := decide_eq_true hlt
   generalize rd (a7f a0) x = c at hx fin_bad fin_ok
   have p1 := eq_true h0
   have q1 := eq_true hlt
   cases hb1 : decide (97 ≤ c) with
   | false =>
    cases hb3 : (x == 0) with
    | true =>
     have hbad : a3o c x = true := by simp [a3o, hb1, hb3]
     have hrf : r = false := fin_bad hbad
     subst hrf
     clear fin_bad fin_ok hbad
     go_wp2
     go_ret
     exact ⟨rfl, HB.out⟩
    | false =>
     cases hb4 : (c != 95) with
     | false =>
      have hok := fin_ok (show a3o c x = false by simp [a3o, hb1, hb3, hb4])
      clear fin_bad fin_ok
      go_wp2
      go_roundg ((a0.size : Int) - x).toNat
      case measure => have := HK.out; omega
      case rel => exact ⟨x + 1, by first | rfl | (rw [hw1]), by omega, by omega, hok, ⟨by have := HK.out; omega⟩, rfl⟩
     | true =>
      cases hb5 : decide (c < 48) with
      | true =>
       have hbad : a3o c x = true := by simp [a3o, hb1, hb3, hb4, hb5]
       have hrf : r = false := fin_bad hbad
       subst hrf
       clear fin_bad fin_ok hbad
       go_wp2
       go_ret
       exact ⟨rfl, HB.out⟩
      | false =>
       cases hb6 : decide (57 < c) with
       | true =>
        have hbad : a3o c x = true := by simp [a3o, hb1, hb3, hb4, hb5, hb6]
        have hrf : r = false := fin_bad hbad
        subst hrf
        clear fin_bad fin_ok hbad
        go_wp2
        go_ret
        exact ⟨rfl, HB.out⟩
       | false =>
        have hok := fin_ok (show a3o c x = false by simp [a3o, hb1, hb3, hb4, hb5, hb6])
        clear fin_bad fin_ok
        go_wp2
        go_roundg ((a0.size : Int) - x).toNat
        case measure => have := HK.out; omega
        case rel => exact ⟨x + 1, by first | rfl | (rw [hw1]), by omega, by omega, hok, ⟨by have := HK.out; omega⟩, rfl⟩
   | true =>
    cases hb2 : decide (c ≤ 122) with
    | true =>
     have hok := fin_ok (show a3o c x = false by simp [a3o, hb1, hb2])
     clear fin_bad fin_ok
     go_wp2
     go_roundg ((a0.size : Int) - x).toNat
     case measure => have := HK.out; omega
     case rel => exact ⟨x + 1, by first | rfl | (rw [hw1]), by omega, by omega, hok, ⟨by have := HK.out; omega⟩, rfl⟩
    | false =>
     cases hb3 : (x == 0) with
     | true =>
      have hbad : a3o c x = true := by simp [a3o, hb1, hb2, hb3]
      have hrf : r = false := fin_bad hbad
      subst hrf
      clear fin_bad fin_ok hbad
      go_wp2
      go_ret
      exact ⟨rfl, HB.out⟩
     | false =>
      cases hb4 : (c != 95) with
      | false =>
       have hok := fin_ok (show a3o c x = false by simp [a3o, hb1, hb2, hb3, hb4])
       clear fin_bad fin_ok
       go_wp2
       go_roundg ((a0.size : Int) - x).toNat
       case measure => have := HK.out; omega
       case rel => exact ⟨x + 1, by first | rfl | (rw [hw1]), by omega, by omega, hok, ⟨by have := HK.out; omega⟩, rfl⟩
      | true =>
       cases hb5 : decide (c < 48) with
       | true =>
        have hbad : a3o c x = true := by simp [a3o, hb1, hb2, hb3, hb4, hb5]
        have hrf : r = false := fin_bad hbad
        subst hrf
        clear fin_bad fin_ok hbad
        go_wp2
        go_ret
        exact ⟨rfl, HB.out⟩
       | false =>
        cases hb6 : decide (57 < c) with
        | true =>
         have hbad : a3o c x = true := by simp [a3o, hb1, hb2, hb3, hb4, hb5, hb6]
         have hrf : r = false := fin_bad hbad
         subst hrf
         clear fin_bad fin_ok hbad
         go_wp2
         go_ret
         exact ⟨rfl, HB.out⟩
        | false =>
         have hok := fin_ok (show a3o c x = false by simp [a3o, hb1, hb2, hb3, hb4, hb5, hb6])
         clear fin_bad fin_ok
         go_wp2
         go_roundg ((a0.size : Int) - x).toNat
         case measure => have := HK.out; omega
         case rel => exact ⟨x + 1, by first | rfl | (rw [hw1]), by omega, by omega, hok, ⟨by have := HK.out; omega⟩, rfl⟩
  ·obtain rfl : x = a0.size := by omega
   have g0 : decide ((a0.size : Int) < (a0.size : Int)) = false := decide_eq_false hlt
   have hres : a0s.f (a0.size : Int) 1 16 = some r := by
    have hn := HN.out
    rw [Int.toNat_natCast] at hn
    rw [← hr.out]
    unfold a0s.f a4w
    rw [hn]
    by_cases c : 1 ≤ a0.size
    ·rw [if_pos (by omega)]; simp [c]; omega
    ·rw [if_neg (by omega)]; simp [c]
   clear h0 h1 HN HK
   go_wp2_with (go_at_call 51; (refine (a0s.calls _ _ _ r _ hres).mono ?_); rintro e w' ⟨rfl, ⟨nd, rfl⟩⟩)
   go_ret
   exact ⟨rfl, ln_ HB.out _⟩
end Go.Proofs.Ytemnlgefngjliaa.Given
