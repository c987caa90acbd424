/- Contracts of Go functions, printed. Conditions: as each theorem states. -/
import Derived.Test.YtemnlgefngjliaaPx0
import Derived.Test.YtemnlgefngjliaaPx17
namespace Go.Proofs.Ytemnlgefngjliaa.Px
open Go.Proofs.Ytemnlgefngjliaa.Given
open Go.RowKit Go.Proofs.YtemnlgefngjliaaW.PrintWords Go.Proofs.YtemnlgefngjliaaW.PrintLast Go.Proofs.YtemnlgefngjliaaW.PrintMore
attribute [local go_sem] a2f a2g a2r a2s a1x a1y a2h a2i
set_option linter.unusedVariables false
set_option linter.unusedSimpArgs false
def a0z.l0 : Nat → List ByteArray → Int → Option (Bool)
 | 0, _, _ => none
 | k + 1, x0, x3 => if x3 < (x0.length : Int) then (if 0 ≤ x3 then ((a1d.f k (rdOf ByteArray.empty x0 x3)).bind fun t366 => (if t366 = true then (if x3 ≤ (x0.length : Int) then ((a3f.f k (x0.take (x3 : Int).toNat) (rdOf ByteArray.empty x0 x3)).bind fun t369 => (if t369 = true then (some false) else (a0z.l0 k x0 (wrap64 (x3 + 1))))) else (none)) else (some false))) else (none)) else (some true)
def a0z.f (k : Nat) (l0 : List ByteArray) : Option (Bool) := if (l0.length : Int) > 20 then (some false) else (a0z.l0 k l0 0)
theorem a0z.a0t : ∀ k, (∀ y0 y1, LeO (a0z.l0 k y0 y1) (a0z.l0 (k + 1) y0 y1))
 | 0 => fun _ _ r h => by simp [a0z.l0] at h
 | k + 1 => by
  have ih0 := a0z.a0t k
  ·intro y0 y1
   unfold a0z.l0
   with_reducible (repeat' first | apply ih0 | apply a3f.mono | apply a1d.mono | apply LeO.refl | apply LeO.none | apply LeO.ite | refine LeO.bind ?_ (fun _ => ?_))
theorem a0z.mono : ∀ a0 k, LeO (a0z.f k a0) (a0z.f (k + 1) a0) := by
 intro a0 k
 have ih0 := a0z.a0t k
 unfold a0z.f
 with_reducible (repeat' first | apply ih0 | apply a3f.mono | apply a1d.mono | apply LeO.refl | apply LeO.none | apply LeO.ite | refine LeO.bind ?_ (fun _ => ?_))
def a0z.T6 : Bool × List (List Nat × List Nat) := (true, [([], []), ([], []), ([0, 1], [0, 1]), ([2], [2]), ([3], [3]), ([4], [4]), ([5, 4], [5]), ([6], [6]), ([6], [6]), ([7, 8, 6], [6, 7, 8]), ([6], [6]), ([6], [6]), ([10, 11, 6], [6, 10, 11]), ([12, 6], [6, 12]), ([9, 13, 6, 6], [6, 9, 13]), ([6, 14], [6, 14])])
def a0z.B6 : List Nat := [0, 0, 3, 7, 15, 31, 63, 127, 127, 511, 127, 127, 3199, 7295, 16383, 32767]
theorem a0z.tab6 : rtab .any (opsOf Try.f40 6) = a0z.T6 := by kernel_rfl
theorem a0z.a9p : a4z a0z.T6.2 a0z.B6 = true := by kernel_rfl
set_option maxHeartbeats 8000000 in
set_option maxRecDepth 100000 in
theorem a0z.calls (k : Nat) (A0 : Option Addr) (c0 : Nat) (l0 : List ByteArray) (r : Bool) (w : World) (hr0 : Kd.C Kd.string w A0 l0.length l0) (hc0 : l0.length ≤ c0) (h : a0z.f k l0 = some r) :
  Calls Try.prog 40 #[.slice A0 l0.length c0] w fun e w' => e = .returned (.bool r) ∧ Below w.heap.size w w' := by
 have HR0 := am_ hr0
 have HC0 := am_ hc0
 clear hr0 hc0
 have HB := am_ (Below.refl w.heap.size w)
 have H : (if (l0.length : Int) > 20 then (some false) else (a0z.l0 k l0 0)) = some r := h
 clear h
 by_cases c2 : (l0.length : Int) > 20
 ·rw [if_pos c2] at H
  have c2b0 : decide (20 < (l0.length : Int)) = true := decide_eq_true c2
  have c2b1 : decide (20 < l0.length) = true := decide_eq_true (by omega)
  clear c2
  obtain rfl := si_ H
  go_enter Try.func40, Try.ntmps40
  go_wp2
  go_ret
  exact ⟨qx_, qb_⟩
 ·rw [if_neg c2] at H
  have c2b0 : decide (20 < (l0.length : Int)) = false := decide_eq_false c2
  have c2b1 : decide (20 < l0.length) = false := decide_eq_false (by omega)
  clear c2
  have H' := am_ H
  clear H
  go_enter Try.func40, Try.ntmps40
  go_wp2
  go_loopg [3] k (fun kq v3 w' => ∃ (x3_1 : Int), v3 = .int .i64 x3_1 ∧ Aside0 (a0z.l0 kq l0 x3_1 = some r) ∧ Aside0 (kq ≤ k) ∧ Aside0 (Below w.heap.size w w'))
  case atStart => exact ⟨(0), qs_, H', ⟨Nat.le_refl _⟩, ⟨qb_⟩⟩
  case round =>
   clear H'
   try clear c2
   try clear c2b0
   try clear c2b1
   try clear p2
   obtain ⟨x3_1, rfl, HA, HK1, HB⟩ := hrel
   cases gk with
   | zero => exact absurd HA.out (by simp [a0z.l0])
   | succ k1 =>
    have H := HA.out
    clear HA
    simp only [a0z.l0] at H
    by_cases c3 : x3_1 < (l0.length : Int)
    ·rw [if_pos c3] at H
     have c3b0 : decide (x3_1 < (l0.length : Int)) = true := decide_eq_true c3
     clear c3
     by_cases c4 : 0 ≤ x3_1
     ·rw [if_pos c4] at H
      have c4b0 : decide (0 ≤ x3_1) = true := decide_eq_true c4
      clear c4
      replace H := bm_ H
      obtain ⟨t366, A50, H⟩ := H
      replace H : (if t366 = true then (if x3_1 ≤ (l0.length : Int) then ((a3f.f k1 (l0.take (x3_1 : Int).toNat) (rdOf ByteArray.empty l0 x3_1)).bind fun t369 => (if t369 = true then (some false) else (a0z.l0 k1 l0 (wrap64 (x3_1 + 1))))) else (none)) else (some false)) = some r := H
      have A5 := am_ A50
      clear A50
      by_cases c6 : t366 = true
      ·subst c6
       have H1 : (if x3_1 ≤ (l0.length : Int) then ((a3f.f k1 (l0.take (x3_1 : Int).toNat) (rdOf ByteArray.empty l0 x3_1)).bind fun t369 => (if t369 = true then (some false) else (a0z.l0 k1 l0 (wrap64 (x3_1 + 1))))) else (none)) = some r := by rw [if_pos rfl] at H; exact H
       clear H
       have H := H1
       clear H1
       have c7b0 := eq_true (ot_ : 0 ≤ x3_1)
       by_cases c8 : x3_1 ≤ (l0.length : Int)
       ·rw [if_pos c8] at H
        have c8b0 := eq_true c8
        have c8b1 : decide (x3_1 ≤ (l0.length : Int)) = true := decide_eq_true c8
        clear c8
        replace H := bm_ H
        obtain ⟨t369, A90, H⟩ := H
        replace H : (if t369 = true then (some false) else (a0z.l0 k1 l0 (wrap64 (x3_1 + 1)))) = some r := H
        have A9 := am_ A90
        clear A90
        by_cases c10 : t369 = true
        ·subst c10
         have H1 : (some false) = some r := by rw [if_pos rfl] at H; exact H
         clear H
         have H := H1
         clear H1
         obtain rfl := si_ H
         try go_wp2
         replace HB := am_ (ld_ HB.out)
         have p365 : 0 ≤ (x3_1 : Int) := ot_
         have q365 : x3_1 < (l0.length : Int) := ot_
         obtain ⟨ad365, e365, hx365_0⟩ := Kd.a4d HR0.out x3_1 p365 q365
         have hw365_0 := hx365_0
         cases e365
         replace hx365_0 := qh_ HB hx365_0
         replace p365 := eq_true p365
         replace q365 := eq_true q365
         have p368 : 0 ≤ (x3_1 : Int) := ot_
         have q368 : x3_1 < (l0.length : Int) := ot_
         obtain ⟨ad368, e368, hx368_0⟩ := Kd.a4d HR0.out x3_1 p368 q368
         have hw368_0 := hx368_0
         obtain rfl : ad365 = ad368 := (by injection e368)
         replace hx368_0 := qh_ HB hx368_0
         replace p368 := eq_true p368
         replace q368 := eq_true q368
         refine a5m (n := 16) (S := fun w' => w'.cell? (ad365.add (x3_1).toNat) = some (.string (rdOf ByteArray.empty l0 x3_1)) ∧ w'.cell? (ad365.add (x3_1).toNat) = some (.string (rdOf ByteArray.empty l0 x3_1))) (ds := []) #[i_,i_,i_,i_,i_,i_,i_,i_,i_,i_,i_,i_,i_,i_,i_,i_] (by kernel_rfl) rfl rfl ⟨((HB.out.cell (World.block_lt_of_cell? w _ hw365_0)).trans hw365_0), ((HB.out.cell (World.block_lt_of_cell? w _ hw368_0)).trans hw368_0)⟩ (fun hHeld => ?_); refine a4g a0z.tab6 a0z.a9p (fun HT_ HW_ => ?_)
         generalize wr.drew = w11 at HB hx365_0 hx368_0 hHeld ⊢
         refine qpu_ 0 (some 13) #[o_,i_,i_,i_,i_,i_,i_,i_,i_,i_,i_,i_,i_,i_,i_,i_] ?_
         refine qpu_ 1 (some 14) #[o_,o_,i_,i_,i_,i_,i_,i_,i_,i_,i_,i_,i_,i_,i_,i_] ?_
         refine qpu_ 2 (some 15) #[o_,o_,o_,i_,i_,i_,i_,i_,i_,i_,i_,i_,i_,i_,i_,i_] ?_
         refine a3r (i := 3) (N := some 16) (v := ?_) (a' := ?_) #[o_,o_,o_,o_,i_,i_,i_,i_,i_,i_,i_,i_,i_,i_,i_,i_] rfl rfl (a2v HT_.out HW_.out (by kernel_rfl)) (fun _ _ _ h => h) (Or.inl ⟨by rfl, ?_⟩) hHeld ?_ ?_
         rotate_left
         ·rintro w' ⟨s0, s1⟩
          go_simp
          with_reducible rfl
         rotate_left
         ·exact qp_
         refine one_ (i := 4) (N := some 17) #[o_,o_,o_,o_,o_,i_,i_,i_,i_,i_,i_,i_,i_,i_,i_,i_] rfl rfl (a4c HT_.out (by kernel_rfl)) (by decide) (fun K hK => ?_)
         refine a5e Try.func25 (by kernel_rfl) rfl #[.string (rdOf ByteArray.empty l0 x3_1)] (by rfl) rfl rfl ql_ ?_
         with_reducible refine (a1d.calls k1 (rdOf ByteArray.empty l0 x3_1) true _ A5.out).mono ?_
         rintro e w' ⟨rfl, ⟨nd, rfl⟩⟩
         refine ⟨_, rfl, ?_⟩
         obtain ⟨i012, hi012, _, hsz12, _⟩ := info_parts b0z
         obtain ⟨hcut12, hA12, hC12⟩ := a6e (P := Try.prog) Value.string (⟨#[]⟩ : ByteArray) 26 9 .i64 Try.underlying26 hi012 hsz12 (some ad365) c0 l0 x3_1 (ot_) (ot_) HC0.out
         have HR367 := am_ (Kd.a6i (h1 := fun _ => rfl) (hA12 _ (Kd.a5y HR0.out)))
         have HC367 := am_ hC12
         clear hA12 hC12 hi012 hsz12
         refine hK.out _ _ ⟨((HB.out.cell (World.block_lt_of_cell? w _ hw365_0)).trans hw365_0), ((HB.out.cell (World.block_lt_of_cell? w _ hw368_0)).trans hw368_0)⟩ (fun hHeld => ?_)
         clear hK K
         refine a4s (a' := ?_) ?_ ?_
         rotate_left
         ·show Act.put _ (some 17) _ = _
          exact qp_
         refine qpu_ 5 (some 18) #[o_,o_,o_,o_,o_,o_,i_,i_,i_,i_,i_,i_,i_,i_,i_,i_] ?_
         refine qpu_ 6 (some 19) #[o_,o_,o_,o_,o_,o_,o_,i_,i_,i_,i_,i_,i_,i_,i_,i_] ?_
         refine qpu_ 7 (some 20) #[o_,o_,o_,o_,o_,o_,o_,o_,i_,i_,i_,i_,i_,i_,i_,i_] ?_
         refine qpu_ 8 (some 21) #[o_,o_,o_,o_,o_,o_,o_,o_,o_,i_,i_,i_,i_,i_,i_,i_] ?_
         refine qpu_ 9 (some 22) #[o_,o_,o_,o_,o_,o_,o_,o_,o_,o_,i_,i_,i_,i_,i_,i_] ?_
         refine qpu_ 10 (some 23) #[o_,o_,o_,o_,o_,o_,o_,o_,o_,o_,o_,i_,i_,i_,i_,i_] ?_
         refine qpu_ 11 (some 24) #[o_,o_,o_,o_,o_,o_,o_,o_,o_,o_,o_,o_,i_,i_,i_,i_] ?_
         refine qpu_ 12 (some 25) #[o_,o_,o_,o_,o_,o_,o_,o_,o_,o_,o_,o_,o_,i_,i_,i_] ?_
         refine a3r (i := 13) (N := some 26) (v := ?_) (a' := ?_) #[o_,o_,o_,o_,o_,o_,o_,o_,o_,o_,o_,o_,o_,o_,i_,i_] rfl rfl (a2v HT_.out HW_.out (by kernel_rfl)) (fun _ _ _ h => h) (Or.inl ⟨by rfl, ?_⟩) hHeld ?_ ?_
         rotate_left
         ·rintro w' ⟨s0, s1⟩
          go_simp
          with_reducible rfl
         rotate_left
         ·exact qp_
         refine one_ (i := 14) (N := some 27) #[o_,o_,o_,o_,o_,o_,o_,o_,o_,o_,o_,o_,o_,o_,o_,i_] rfl rfl (a4c HT_.out (by kernel_rfl)) (by decide) (fun K hK => ?_)
         refine a5e Try.func28 (by kernel_rfl) rfl #[.slice (some ad365) (l0.take (x3_1 : Int).toNat).length c0, .string (rdOf ByteArray.empty l0 x3_1)] (by rfl) rfl rfl (by (try simp only [List.map_toArray, List.map_cons, List.map_nil]); first | done | (rw [show (l0.take (x3_1 : Int).toNat).length = x3_1.toNat from (by rw [List.length_take]; have h_ : (x3_1 : Int) ≤ (l0.length : Int) := ot_; omega)] <;> rfl) | rfl | (simp only [List.length_drop, List.length_take]; rfl)) ?_
         with_reducible refine (a3f.calls k1 _ _ (l0.take (x3_1 : Int).toNat) (rdOf ByteArray.empty l0 x3_1) true _ ?s1 ?s2 A9.out).mono ?_
         (case s1 => repeat (first | exact (Kd.a1g HR367.out qb_) | (with_reducible refine Kd.a2b ?_ _) | (with_reducible refine Kd.a2c ?_ _) | (with_reducible refine Kd.a2m ?_)))
         (case s2 => exact HC367.out)
         rintro e w' ⟨rfl, ⟨nd, rfl⟩⟩
         refine ⟨_, rfl, ?_⟩
         refine hK.out _ _ ⟨((HB.out.cell (World.block_lt_of_cell? w _ hw365_0)).trans hw365_0), ((HB.out.cell (World.block_lt_of_cell? w _ hw368_0)).trans hw368_0)⟩ (fun hHeld => ?_)
         clear hK K
         refine a4s (a' := ?_) ?_ ?_
         rotate_left
         ·show Act.put _ (some 27) _ = _
          exact qp_
         refine qpu_ 15 (some 28) #[o_,o_,o_,o_,o_,o_,o_,o_,o_,o_,o_,o_,o_,o_,o_,o_] ?_
         refine a5z (a4y HT_.out (by kernel_rfl)) ?_
         try go_wp2
         go_ret
         exact ⟨qx_, qb_⟩
        ·replace c10 := be_ c10
         subst c10
         have H1 : (a0z.l0 k1 l0 (wrap64 (x3_1 + 1))) = some r := by rw [if_neg (show ¬ (false = true) by decide)] at H; exact H
         clear H
         have H := H1
         clear H1
         have H' := am_ H
         clear H
         try go_wp2
         replace HB := am_ (ld_ HB.out)
         have p365 : 0 ≤ (x3_1 : Int) := ot_
         have q365 : x3_1 < (l0.length : Int) := ot_
         obtain ⟨ad365, e365, hx365_0⟩ := Kd.a4d HR0.out x3_1 p365 q365
         have hw365_0 := hx365_0
         cases e365
         replace hx365_0 := qh_ HB hx365_0
         replace p365 := eq_true p365
         replace q365 := eq_true q365
         have p368 : 0 ≤ (x3_1 : Int) := ot_
         have q368 : x3_1 < (l0.length : Int) := ot_
         obtain ⟨ad368, e368, hx368_0⟩ := Kd.a4d HR0.out x3_1 p368 q368
         have hw368_0 := hx368_0
         obtain rfl : ad365 = ad368 := (by injection e368)
         replace hx368_0 := qh_ HB hx368_0
         replace p368 := eq_true p368
         replace q368 := eq_true q368
         refine a5m (n := 16) (S := fun w' => w'.cell? (ad365.add (x3_1).toNat) = some (.string (rdOf ByteArray.empty l0 x3_1)) ∧ w'.cell? (ad365.add (x3_1).toNat) = some (.string (rdOf ByteArray.empty l0 x3_1))) (ds := []) #[i_,i_,i_,i_,i_,i_,i_,i_,i_,i_,i_,i_,i_,i_,i_,i_] (by kernel_rfl) rfl rfl ⟨((HB.out.cell (World.block_lt_of_cell? w _ hw365_0)).trans hw365_0), ((HB.out.cell (World.block_lt_of_cell? w _ hw368_0)).trans hw368_0)⟩ (fun hHeld => ?_); refine a4g a0z.tab6 a0z.a9p (fun HT_ HW_ => ?_)
         generalize wr.drew = w13 at HB hx365_0 hx368_0 hHeld ⊢
         refine qpu_ 0 (some 13) #[o_,i_,i_,i_,i_,i_,i_,i_,i_,i_,i_,i_,i_,i_,i_,i_] ?_
         refine qpu_ 1 (some 14) #[o_,o_,i_,i_,i_,i_,i_,i_,i_,i_,i_,i_,i_,i_,i_,i_] ?_
         refine qpu_ 2 (some 15) #[o_,o_,o_,i_,i_,i_,i_,i_,i_,i_,i_,i_,i_,i_,i_,i_] ?_
         refine a3r (i := 3) (N := some 16) (v := ?_) (a' := ?_) #[o_,o_,o_,o_,i_,i_,i_,i_,i_,i_,i_,i_,i_,i_,i_,i_] rfl rfl (a2v HT_.out HW_.out (by kernel_rfl)) (fun _ _ _ h => h) (Or.inl ⟨by rfl, ?_⟩) hHeld ?_ ?_
         rotate_left
         ·rintro w' ⟨s0, s1⟩
          go_simp
          with_reducible rfl
         rotate_left
         ·exact qp_
         refine one_ (i := 4) (N := some 17) #[o_,o_,o_,o_,o_,i_,i_,i_,i_,i_,i_,i_,i_,i_,i_,i_] rfl rfl (a4c HT_.out (by kernel_rfl)) (by decide) (fun K hK => ?_)
         refine a5e Try.func25 (by kernel_rfl) rfl #[.string (rdOf ByteArray.empty l0 x3_1)] (by rfl) rfl rfl ql_ ?_
         with_reducible refine (a1d.calls k1 (rdOf ByteArray.empty l0 x3_1) true _ A5.out).mono ?_
         rintro e w' ⟨rfl, ⟨nd, rfl⟩⟩
         refine ⟨_, rfl, ?_⟩
         obtain ⟨i014, hi014, _, hsz14, _⟩ := info_parts b0z
         obtain ⟨hcut14, hA14, hC14⟩ := a6e (P := Try.prog) Value.string (⟨#[]⟩ : ByteArray) 26 9 .i64 Try.underlying26 hi014 hsz14 (some ad365) c0 l0 x3_1 (ot_) (ot_) HC0.out
         have HR367 := am_ (Kd.a6i (h1 := fun _ => rfl) (hA14 _ (Kd.a5y HR0.out)))
         have HC367 := am_ hC14
         clear hA14 hC14 hi014 hsz14
         refine hK.out _ _ ⟨((HB.out.cell (World.block_lt_of_cell? w _ hw365_0)).trans hw365_0), ((HB.out.cell (World.block_lt_of_cell? w _ hw368_0)).trans hw368_0)⟩ (fun hHeld => ?_)
         clear hK K
         refine a4s (a' := ?_) ?_ ?_
         rotate_left
         ·show Act.put _ (some 17) _ = _
          exact qp_
         refine qpu_ 5 (some 18) #[o_,o_,o_,o_,o_,o_,i_,i_,i_,i_,i_,i_,i_,i_,i_,i_] ?_
         refine qpu_ 6 (some 19) #[o_,o_,o_,o_,o_,o_,o_,i_,i_,i_,i_,i_,i_,i_,i_,i_] ?_
         refine qpu_ 7 (some 20) #[o_,o_,o_,o_,o_,o_,o_,o_,i_,i_,i_,i_,i_,i_,i_,i_] ?_
         refine qpu_ 8 (some 21) #[o_,o_,o_,o_,o_,o_,o_,o_,o_,i_,i_,i_,i_,i_,i_,i_] ?_
         refine qpu_ 9 (some 22) #[o_,o_,o_,o_,o_,o_,o_,o_,o_,o_,i_,i_,i_,i_,i_,i_] ?_
         refine qpu_ 10 (some 23) #[o_,o_,o_,o_,o_,o_,o_,o_,o_,o_,o_,i_,i_,i_,i_,i_] ?_
         refine qpu_ 11 (some 24) #[o_,o_,o_,o_,o_,o_,o_,o_,o_,o_,o_,o_,i_,i_,i_,i_] ?_
         refine qpu_ 12 (some 25) #[o_,o_,o_,o_,o_,o_,o_,o_,o_,o_,o_,o_,o_,i_,i_,i_] ?_
         refine a3r (i := 13) (N := some 26) (v := ?_) (a' := ?_) #[o_,o_,o_,o_,o_,o_,o_,o_,o_,o_,o_,o_,o_,o_,i_,i_] rfl rfl (a2v HT_.out HW_.out (by kernel_rfl)) (fun _ _ _ h => h) (Or.inl ⟨by rfl, ?_⟩) hHeld ?_ ?_
         rotate_left
         ·rintro w' ⟨s0, s1⟩
          go_simp
          with_reducible rfl
         rotate_left
         ·exact qp_
         refine one_ (i := 14) (N := some 27) #[o_,o_,o_,o_,o_,o_,o_,o_,o_,o_,o_,o_,o_,o_,o_,i_] rfl rfl (a4c HT_.out (by kernel_rfl)) (by decide) (fun K hK => ?_)
         refine a5e Try.func28 (by kernel_rfl) rfl #[.slice (some ad365) (l0.take (x3_1 : Int).toNat).length c0, .string (rdOf ByteArray.empty l0 x3_1)] (by rfl) rfl rfl (by (try simp only [List.map_toArray, List.map_cons, List.map_nil]); first | done | (rw [show (l0.take (x3_1 : Int).toNat).length = x3_1.toNat from (by rw [List.length_take]; have h_ : (x3_1 : Int) ≤ (l0.length : Int) := ot_; omega)] <;> rfl) | rfl | (simp only [List.length_drop, List.length_take]; rfl)) ?_
         with_reducible refine (a3f.calls k1 _ _ (l0.take (x3_1 : Int).toNat) (rdOf ByteArray.empty l0 x3_1) false _ ?s1 ?s2 A9.out).mono ?_
         (case s1 => repeat (first | exact (Kd.a1g HR367.out qb_) | (with_reducible refine Kd.a2b ?_ _) | (with_reducible refine Kd.a2c ?_ _) | (with_reducible refine Kd.a2m ?_)))
         (case s2 => exact HC367.out)
         rintro e w' ⟨rfl, ⟨nd, rfl⟩⟩
         refine ⟨_, rfl, ?_⟩
         refine hK.out _ _ ⟨((HB.out.cell (World.block_lt_of_cell? w _ hw365_0)).trans hw365_0), ((HB.out.cell (World.block_lt_of_cell? w _ hw368_0)).trans hw368_0)⟩ (fun hHeld => ?_)
         clear hK K
         refine a4s (a' := ?_) ?_ ?_
         rotate_left
         ·show Act.put _ (some 27) _ = _
          exact qp_
         refine qpu_ 15 (some 28) #[o_,o_,o_,o_,o_,o_,o_,o_,o_,o_,o_,o_,o_,o_,o_,o_] ?_
         refine a5z (a4y HT_.out (by kernel_rfl)) ?_
         try go_wp2
         go_roundg k1
         case measure => have := HK1.out; omega
         case rel => exact ⟨(wrap64 (x3_1 + 1)), qs_, H', ⟨by have := HK1.out; omega⟩, ⟨qb_⟩⟩
       ·rw [if_neg c8] at H
        exact absurd H (by simp)
      ·replace c6 := be_ c6
       subst c6
       have H1 : (some false) = some r := by rw [if_neg (show ¬ (false = true) by decide)] at H; exact H
       clear H
       have H := H1
       clear H1
       obtain rfl := si_ H
       try go_wp2
       replace HB := am_ (ld_ HB.out)
       have p365 : 0 ≤ (x3_1 : Int) := ot_
       have q365 : x3_1 < (l0.length : Int) := ot_
       obtain ⟨ad365, e365, hx365_0⟩ := Kd.a4d HR0.out x3_1 p365 q365
       have hw365_0 := hx365_0
       cases e365
       replace hx365_0 := qh_ HB hx365_0
       replace p365 := eq_true p365
       replace q365 := eq_true q365
       refine a5m (n := 16) (S := fun w' => w'.cell? (ad365.add (x3_1).toNat) = some (.string (rdOf ByteArray.empty l0 x3_1))) (ds := []) #[i_,i_,i_,i_,i_,i_,i_,i_,i_,i_,i_,i_,i_,i_,i_,i_] (by kernel_rfl) rfl rfl (((HB.out.cell (World.block_lt_of_cell? w _ hw365_0)).trans hw365_0)) (fun hHeld => ?_); refine a4g a0z.tab6 a0z.a9p (fun HT_ HW_ => ?_)
       generalize wr.drew = w15 at HB hx365_0 hHeld ⊢
       refine qpu_ 0 (some 13) #[o_,i_,i_,i_,i_,i_,i_,i_,i_,i_,i_,i_,i_,i_,i_,i_] ?_
       refine qpu_ 1 (some 14) #[o_,o_,i_,i_,i_,i_,i_,i_,i_,i_,i_,i_,i_,i_,i_,i_] ?_
       refine qpu_ 2 (some 15) #[o_,o_,o_,i_,i_,i_,i_,i_,i_,i_,i_,i_,i_,i_,i_,i_] ?_
       refine a3r (i := 3) (N := some 16) (v := ?_) (a' := ?_) #[o_,o_,o_,o_,i_,i_,i_,i_,i_,i_,i_,i_,i_,i_,i_,i_] rfl rfl (a2v HT_.out HW_.out (by kernel_rfl)) (fun _ _ _ h => h) (Or.inl ⟨by rfl, ?_⟩) hHeld ?_ ?_
       rotate_left
       ·intro w' s0
        go_simp
        with_reducible rfl
       rotate_left
       ·exact qp_
       refine one_ (i := 4) (N := some 17) #[o_,o_,o_,o_,o_,i_,i_,i_,i_,i_,i_,i_,i_,i_,i_,i_] rfl rfl (a4c HT_.out (by kernel_rfl)) (by decide) (fun K hK => ?_)
       refine a5e Try.func25 (by kernel_rfl) rfl #[.string (rdOf ByteArray.empty l0 x3_1)] (by rfl) rfl rfl ql_ ?_
       with_reducible refine (a1d.calls k1 (rdOf ByteArray.empty l0 x3_1) false _ A5.out).mono ?_
       rintro e w' ⟨rfl, ⟨nd, rfl⟩⟩
       refine ⟨_, rfl, ?_⟩
       refine hK.out _ _ (((HB.out.cell (World.block_lt_of_cell? w _ hw365_0)).trans hw365_0)) (fun hHeld => ?_)
       clear hK K
       refine a4s (a' := ?_) ?_ ?_
       rotate_left
       ·show Act.put _ (some 17) _ = _
        exact qp_
       refine qpu_ 5 (some 18) #[o_,o_,o_,o_,o_,o_,i_,i_,i_,i_,i_,i_,i_,i_,i_,i_] ?_
       refine qpu_ 6 (some 19) #[o_,o_,o_,o_,o_,o_,o_,i_,i_,i_,i_,i_,i_,i_,i_,i_] ?_
       refine qpv_ 7 (some 20) #[o_,o_,o_,o_,o_,o_,o_,o_,i_,i_,i_,i_,i_,i_,i_,i_] ?_
       refine qpv_ 8 (some 21) #[o_,o_,o_,o_,o_,o_,o_,o_,o_,i_,i_,i_,i_,i_,i_,i_] ?_
       refine qpv_ 9 (some 22) #[o_,o_,o_,o_,o_,o_,o_,o_,o_,o_,i_,i_,i_,i_,i_,i_] ?_
       refine qpv_ 10 (some 23) #[o_,o_,o_,o_,o_,o_,o_,o_,o_,o_,o_,i_,i_,i_,i_,i_] ?_
       refine qpv_ 11 (some 24) #[o_,o_,o_,o_,o_,o_,o_,o_,o_,o_,o_,o_,i_,i_,i_,i_] ?_
       refine qpv_ 12 (some 25) #[o_,o_,o_,o_,o_,o_,o_,o_,o_,o_,o_,o_,o_,i_,i_,i_] ?_
       refine qpv_ 13 (some 26) #[o_,o_,o_,o_,o_,o_,o_,o_,o_,o_,o_,o_,o_,o_,i_,i_] ?_
       refine qpv_ 14 (some 27) #[o_,o_,o_,o_,o_,o_,o_,o_,o_,o_,o_,o_,o_,o_,o_,i_] ?_
       refine qpu_ 15 (some 28) #[o_,o_,o_,o_,o_,o_,o_,o_,o_,o_,o_,o_,o_,o_,o_,o_] ?_
       refine a5z (a4y HT_.out (by kernel_rfl)) ?_
       try go_wp2
       go_ret
       exact ⟨qx_, qb_⟩
     ·rw [if_neg c4] at H
      exact absurd H (by simp)
    ·rw [if_neg c3] at H
     have c3b0 : decide (x3_1 < (l0.length : Int)) = false := decide_eq_false c3
     clear c3
     obtain rfl := si_ H
     go_wp2
     go_ret
     exact ⟨qx_, qb_⟩
end Go.Proofs.Ytemnlgefngjliaa.Px
