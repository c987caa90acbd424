/- Contracts of Go functions, written by a program of this session's own (wip/tools/myprint.py) out of the translation: each Go function does what the Lean function of its name says. Conditions: as each theorem states. -/
import Derived.Test.YtemnlgefngjliaaPx0
import Derived.Test.YtemnlgefngjliaaPx17
import Derived.Test.YtemnlgefngjliaaPx18
import Derived.Test.YtemnlgefngjliaaPx19
import Derived.Test.YtemnlgefngjliaaPx20
namespace Go.Proofs.Ytemnlgefngjliaa.Px
open Go.Proofs.Ytemnlgefngjliaa.Given
open Go.RowKit Go.Proofs.YtemnlgefngjliaaW.PrintWords Go.Proofs.YtemnlgefngjliaaW.PrintLast Go.Proofs.YtemnlgefngjliaaW.PrintMore
attribute [local go_sem] max2_int min2_int max_two min_two max_three min_three max_four min_four   -- for this text's walks alone
set_option linter.unusedVariables false
set_option linter.unusedSimpArgs false
/-! ### cohousingref39_Valid: function 16 -/
mutual
def cohousingref39_Valid.j0 : Nat → Bool → Int → Int → Int → List ByteArray → List (S43) → List Int → Option (Bool)
 | 0, _, _, _, _, _, _, _ => none
 | k + 1, x42, x380000, x380001, x380002, x380003, x380004, x380005 => if x42 = true then (some false) else (cohousingref39_Valid.l0 k 0 x380000 x380001 x380002 x380003 x380004 x380005)
def cohousingref39_Valid.l0 : Nat → Int → Int → Int → Int → List ByteArray → List (S43) → List Int → Option (Bool)
 | 0, _, _, _, _, _, _, _ => none
 | k + 1, x3, x380000, x380001, x380002, x380003, x380004, x380005 => if x3 < (x380005.length : Int) then (if 0 ≤ x3 then ((cohousingref39_voter.f k x380004 (rd x380005 x3)).bind fun t387 => (if t387 < 0 then (cohousingref39_Valid.j2 k x3 true x380000 x380001 x380002 x380003 x380004 x380005) else (if x3 > 0 then (if 0 ≤ (wrap64 (x3 - 1)) then (if (wrap64 (x3 - 1)) < (x380005.length : Int) then (cohousingref39_Valid.j2 k x3 (decide ((rd x380005 x3) ≤ (rd x380005 (wrap64 (x3 - 1))))) x380000 x380001 x380002 x380003 x380004 x380005) else (none)) else (none)) else (cohousingref39_Valid.j2 k x3 false x380000 x380001 x380002 x380003 x380004 x380005)))) else (none)) else (some true)
def cohousingref39_Valid.j2 : Nat → Int → Bool → Int → Int → Int → List ByteArray → List (S43) → List Int → Option (Bool)
 | 0, _, _, _, _, _, _, _, _ => none
 | k + 1, x3, x76, x380000, x380001, x380002, x380003, x380004, x380005 => if x76 = true then (some false) else (cohousingref39_Valid.l0 k (wrap64 (x3 + 1)) x380000 x380001 x380002 x380003 x380004 x380005)
end
def cohousingref39_Valid.f (k : Nat) (a0_0 : Int) (a0_1 : Int) (a0_2 : Int) (l0_3 : List ByteArray) (l0_4 : List (S43)) (l0_5 : List Int) : Option (Bool) := (cohousingref03_In.f a0_0).bind fun t380 => (if t380 = true then ((cohousingref03_In.f a0_2).bind fun t381 => (if t381 = true then (if a0_0 > a0_2 then (cohousingref39_Valid.j0 k true a0_0 a0_1 a0_2 l0_3 l0_4 l0_5) else (if a0_1 = 1 then ((cohousingref39_agenda.f k l0_3).bind fun t382 => (if t382 = true then ((cohousingref39_voters.f k l0_4).bind fun t383 => (cohousingref39_Valid.j0 k (!t383) a0_0 a0_1 a0_2 l0_3 l0_4 l0_5)) else (cohousingref39_Valid.j0 k true a0_0 a0_1 a0_2 l0_3 l0_4 l0_5))) else (if a0_1 = 2 then ((cohousingref39_agenda.f k l0_3).bind fun t384 => (if t384 = true then ((cohousingref39_voters.f k l0_4).bind fun t385 => (cohousingref39_Valid.j0 k (!t385) a0_0 a0_1 a0_2 l0_3 l0_4 l0_5)) else (cohousingref39_Valid.j0 k true a0_0 a0_1 a0_2 l0_3 l0_4 l0_5))) else (cohousingref39_Valid.j0 k true a0_0 a0_1 a0_2 l0_3 l0_4 l0_5)))) else (cohousingref39_Valid.j0 k true a0_0 a0_1 a0_2 l0_3 l0_4 l0_5))) else (cohousingref39_Valid.j0 k true a0_0 a0_1 a0_2 l0_3 l0_4 l0_5))
theorem cohousingref39_Valid.mono_l : ∀ k, (∀ y0 y1 y2 y3 y4 y5 y6, LeO (cohousingref39_Valid.j0 k y0 y1 y2 y3 y4 y5 y6) (cohousingref39_Valid.j0 (k + 1) y0 y1 y2 y3 y4 y5 y6)) ∧ (∀ y0 y1 y2 y3 y4 y5 y6, LeO (cohousingref39_Valid.l0 k y0 y1 y2 y3 y4 y5 y6) (cohousingref39_Valid.l0 (k + 1) y0 y1 y2 y3 y4 y5 y6)) ∧ (∀ y0 y1 y2 y3 y4 y5 y6 y7, LeO (cohousingref39_Valid.j2 k y0 y1 y2 y3 y4 y5 y6 y7) (cohousingref39_Valid.j2 (k + 1) y0 y1 y2 y3 y4 y5 y6 y7))
 | 0 => ⟨fun _ _ _ _ _ _ _ r h => by simp [cohousingref39_Valid.j0] at h, fun _ _ _ _ _ _ _ r h => by simp [cohousingref39_Valid.l0] at h, fun _ _ _ _ _ _ _ _ r h => by simp [cohousingref39_Valid.j2] at h⟩
 | k + 1 => by
  obtain ⟨ih0, ih1, ih2⟩ := cohousingref39_Valid.mono_l k
  refine ⟨?_, ?_, ?_⟩
  ·intro y0 y1 y2 y3 y4 y5 y6
   unfold cohousingref39_Valid.j0
   repeat' first
   | (with_reducible exact ih0 _ _ _ _ _ _ _)
   | (with_reducible exact ih1 _ _ _ _ _ _ _)
   | (with_reducible exact ih2 _ _ _ _ _ _ _ _)
   | (with_reducible exact cohousingref39_agenda.mono _ _)
   | (with_reducible exact cohousingref39_voter.mono _ _ _)
   | (with_reducible exact cohousingref39_voters.mono _ _)
   | (with_reducible exact LeO.refl _)
   | (with_reducible exact LeO.none _)
   | (with_reducible refine LeO.ite ?_ ?_)
   | (with_reducible refine LeO.bind ?_ (fun _ => ?_))
   | exact ih0 _ _ _ _ _ _ _
   | exact ih1 _ _ _ _ _ _ _
   | exact ih2 _ _ _ _ _ _ _ _
   | exact cohousingref39_agenda.mono _ _
   | exact cohousingref39_voter.mono _ _ _
   | exact cohousingref39_voters.mono _ _
   | exact LeO.none _
   | refine LeO.ite ?_ ?_
   | refine LeO.bind ?_ (fun _ => ?_)
  ·intro y0 y1 y2 y3 y4 y5 y6
   unfold cohousingref39_Valid.l0
   repeat' first
   | (with_reducible exact ih0 _ _ _ _ _ _ _)
   | (with_reducible exact ih1 _ _ _ _ _ _ _)
   | (with_reducible exact ih2 _ _ _ _ _ _ _ _)
   | (with_reducible exact cohousingref39_agenda.mono _ _)
   | (with_reducible exact cohousingref39_voter.mono _ _ _)
   | (with_reducible exact cohousingref39_voters.mono _ _)
   | (with_reducible exact LeO.refl _)
   | (with_reducible exact LeO.none _)
   | (with_reducible refine LeO.ite ?_ ?_)
   | (with_reducible refine LeO.bind ?_ (fun _ => ?_))
   | exact ih0 _ _ _ _ _ _ _
   | exact ih1 _ _ _ _ _ _ _
   | exact ih2 _ _ _ _ _ _ _ _
   | exact cohousingref39_agenda.mono _ _
   | exact cohousingref39_voter.mono _ _ _
   | exact cohousingref39_voters.mono _ _
   | exact LeO.none _
   | refine LeO.ite ?_ ?_
   | refine LeO.bind ?_ (fun _ => ?_)
  ·intro y0 y1 y2 y3 y4 y5 y6 y7
   unfold cohousingref39_Valid.j2
   repeat' first
   | (with_reducible exact ih0 _ _ _ _ _ _ _)
   | (with_reducible exact ih1 _ _ _ _ _ _ _)
   | (with_reducible exact ih2 _ _ _ _ _ _ _ _)
   | (with_reducible exact cohousingref39_agenda.mono _ _)
   | (with_reducible exact cohousingref39_voter.mono _ _ _)
   | (with_reducible exact cohousingref39_voters.mono _ _)
   | (with_reducible exact LeO.refl _)
   | (with_reducible exact LeO.none _)
   | (with_reducible refine LeO.ite ?_ ?_)
   | (with_reducible refine LeO.bind ?_ (fun _ => ?_))
   | exact ih0 _ _ _ _ _ _ _
   | exact ih1 _ _ _ _ _ _ _
   | exact ih2 _ _ _ _ _ _ _ _
   | exact cohousingref39_agenda.mono _ _
   | exact cohousingref39_voter.mono _ _ _
   | exact cohousingref39_voters.mono _ _
   | exact LeO.none _
   | refine LeO.ite ?_ ?_
   | refine LeO.bind ?_ (fun _ => ?_)
theorem cohousingref39_Valid.mono : ∀ a0 a1 a2 a3 a4 a5 k, LeO (cohousingref39_Valid.f k a0 a1 a2 a3 a4 a5) (cohousingref39_Valid.f (k + 1) a0 a1 a2 a3 a4 a5) := by
 intro a0 a1 a2 a3 a4 a5 k
 obtain ⟨ih0, ih1, ih2⟩ := cohousingref39_Valid.mono_l k
 unfold cohousingref39_Valid.f
 repeat' first
   | (with_reducible exact ih0 _ _ _ _ _ _ _)
   | (with_reducible exact ih1 _ _ _ _ _ _ _)
   | (with_reducible exact ih2 _ _ _ _ _ _ _ _)
   | (with_reducible exact cohousingref39_agenda.mono _ _)
   | (with_reducible exact cohousingref39_voter.mono _ _ _)
   | (with_reducible exact cohousingref39_voters.mono _ _)
   | (with_reducible exact LeO.refl _)
   | (with_reducible exact LeO.none _)
   | (with_reducible refine LeO.ite ?_ ?_)
   | (with_reducible refine LeO.bind ?_ (fun _ => ?_))
   | exact ih0 _ _ _ _ _ _ _
   | exact ih1 _ _ _ _ _ _ _
   | exact ih2 _ _ _ _ _ _ _ _
   | exact cohousingref39_agenda.mono _ _
   | exact cohousingref39_voter.mono _ _ _
   | exact cohousingref39_voters.mono _ _
   | exact LeO.none _
   | refine LeO.ite ?_ ?_
   | refine LeO.bind ?_ (fun _ => ?_)
set_option maxHeartbeats 8000000 in
set_option maxRecDepth 100000 in
theorem cohousingref39_Valid.calls (k : Nat) (a0_0 : Int) (a0_1 : Int) (a0_2 : Int) (A0_3 : Option Addr) (c0_3 : Nat) (l0_3 : List ByteArray) (A0_4 : Option Addr) (c0_4 : Nat) (l0_4 : List (S43)) (A0_5 : Option Addr) (c0_5 : Nat) (l0_5 : List Int) (r : Bool) (w : World) (hr0_3 : Kd.C Kd.string w A0_3 l0_3.length l0_3) (hc0_3 : l0_3.length ≤ c0_3) (hr0_4 : Kd.C k43 w A0_4 l0_4.length l0_4) (hc0_4 : l0_4.length ≤ c0_4) (hr0_5 : Kd.C (Kd.int .i64) w A0_5 l0_5.length l0_5) (hc0_5 : l0_5.length ≤ c0_5) (h : cohousingref39_Valid.f k a0_0 a0_1 a0_2 l0_3 l0_4 l0_5 = some r) :
  Calls Try.prog 16 #[.agg #[.int .i64 a0_0, .int .i64 a0_1, .int .i64 a0_2, .slice A0_3 l0_3.length c0_3, .slice A0_4 l0_4.length c0_4, .slice A0_5 l0_5.length c0_5]] w fun e w' => e = .returned (.bool r) ∧ Below w.heap.size w w' := by
 have hu30 := Try.underlying30
 have HR0_3 := Aside0.mk hr0_3
 have HC0_3 := Aside0.mk hc0_3
 clear hr0_3 hc0_3
 have HR0_4 := Aside0.mk hr0_4
 have HC0_4 := Aside0.mk hc0_4
 clear hr0_4 hc0_4
 have HR0_5 := Aside0.mk hr0_5
 have HC0_5 := Aside0.mk hc0_5
 clear hr0_5 hc0_5
 have HB := Aside0.mk (Below.refl w.heap.size w)
 have H : ((cohousingref03_In.f a0_0).bind fun t380 => (if t380 = true then ((cohousingref03_In.f a0_2).bind fun t381 => (if t381 = true then (if a0_0 > a0_2 then (cohousingref39_Valid.j0 k true a0_0 a0_1 a0_2 l0_3 l0_4 l0_5) else (if a0_1 = 1 then ((cohousingref39_agenda.f k l0_3).bind fun t382 => (if t382 = true then ((cohousingref39_voters.f k l0_4).bind fun t383 => (cohousingref39_Valid.j0 k (!t383) a0_0 a0_1 a0_2 l0_3 l0_4 l0_5)) else (cohousingref39_Valid.j0 k true a0_0 a0_1 a0_2 l0_3 l0_4 l0_5))) else (if a0_1 = 2 then ((cohousingref39_agenda.f k l0_3).bind fun t384 => (if t384 = true then ((cohousingref39_voters.f k l0_4).bind fun t385 => (cohousingref39_Valid.j0 k (!t385) a0_0 a0_1 a0_2 l0_3 l0_4 l0_5)) else (cohousingref39_Valid.j0 k true a0_0 a0_1 a0_2 l0_3 l0_4 l0_5))) else (cohousingref39_Valid.j0 k true a0_0 a0_1 a0_2 l0_3 l0_4 l0_5)))) else (cohousingref39_Valid.j0 k true a0_0 a0_1 a0_2 l0_3 l0_4 l0_5))) else (cohousingref39_Valid.j0 k true a0_0 a0_1 a0_2 l0_3 l0_4 l0_5))) = some r := h
 clear h
 have HC2 := Aside0.mk H
 clear H
 go_enter Try.func16, Try.ntmps16
 go_upto_region 1 with (first | ((with_reducible refine gate_dst (N := 1) rfl ?_); refine box_event ?hg (N := 1) ?hd (cs := #[.int .i64 a0_0, .int .i64 a0_1, .int .i64 a0_2, .slice A0_3 l0_3.length c0_3, .slice A0_4 l0_4.length c0_4, .slice A0_5 l0_5.length c0_5]) (t := 30) ?hr ?_; (case hd => rfl); (case hg => rfl); (case hr => first | (go_simp; done) | (go_simp; rfl)); intro gb379 hg w3 hbox hb; have n0_ := qbs_ hb; have n1_ := Aside0.mk (hbox); have n2_ := Aside0.mk ((qg_ hg : w.heap.size ≤ gb379)); have n3_ := Aside0.mk ((qg_ hg : w.heap.size ≤ gb379)); clear HB; have HB := n0_; have BK379 := n1_; have GW379 := n2_; have GE379 := n3_; clear n0_ n1_ n2_ n3_ hb hbox hg))
 repeat (go_quiet (first | ((with_reducible refine gate_dst (N := 1) rfl ?_); refine box_event ?hg (N := 1) ?hd (cs := #[.int .i64 a0_0, .int .i64 a0_1, .int .i64 a0_2, .slice A0_3 l0_3.length c0_3, .slice A0_4 l0_4.length c0_4, .slice A0_5 l0_5.length c0_5]) (t := 30) ?hr ?_; (case hd => rfl); (case hg => rfl); (case hr => first | (go_simp; done) | (go_simp; rfl)); intro gb379 hg w3 hbox hb; have n0_ := qbs_ hb; have n1_ := Aside0.mk (hbox); have n2_ := Aside0.mk ((qg_ hg : w.heap.size ≤ gb379)); have n3_ := Aside0.mk ((qg_ hg : w.heap.size ≤ gb379)); clear HB; have HB := n0_; have BK379 := n1_; have GW379 := n2_; have GE379 := n3_; clear n0_ n1_ n2_ n3_ hb hbox hg)); go_upto_region 1 with (first | ((with_reducible refine gate_dst (N := 1) rfl ?_); refine box_event ?hg (N := 1) ?hd (cs := #[.int .i64 a0_0, .int .i64 a0_1, .int .i64 a0_2, .slice A0_3 l0_3.length c0_3, .slice A0_4 l0_4.length c0_4, .slice A0_5 l0_5.length c0_5]) (t := 30) ?hr ?_; (case hd => rfl); (case hg => rfl); (case hr => first | (go_simp; done) | (go_simp; rfl)); intro gb379 hg w3 hbox hb; have n0_ := qbs_ hb; have n1_ := Aside0.mk (hbox); have n2_ := Aside0.mk ((qg_ hg : w.heap.size ≤ gb379)); have n3_ := Aside0.mk ((qg_ hg : w.heap.size ≤ gb379)); clear HB; have HB := n0_; have BK379 := n1_; have GW379 := n2_; have GE379 := n3_; clear n0_ n1_ n2_ n3_ hb hbox hg)))
 (try simp only [Act.put, List.setIfInBounds_toArray, List.set_cons_zero, List.set_cons_succ])
 go_cut [42] (fun v42 wc => ∃ (kq : Nat) (x42_1 : Bool), v42 = .bool x42_1 ∧ Aside0 (cohousingref39_Valid.j0 kq x42_1 a0_0 a0_1 a0_2 l0_3 l0_4 l0_5 = some r) ∧ Aside0 (kq ≤ k) ∧ Aside0 (wc.heap[gb379]? = some (.cells #[.int .i64 a0_0, .int .i64 a0_1, .int .i64 a0_2, (.slice A0_3 l0_3.length c0_3), (.slice A0_4 l0_4.length c0_4), (.slice A0_5 l0_5.length c0_5)] 30 (0, 0))) ∧ Aside0 (Below w.heap.size w wc))
 case first =>
  have H := HC2.out
  clear HC2
  replace H := Option.bind_eq_some_iff.mp H
  obtain ⟨t380, A40, H⟩ := H
  replace H : (if t380 = true then ((cohousingref03_In.f a0_2).bind fun t381 => (if t381 = true then (if a0_0 > a0_2 then (cohousingref39_Valid.j0 k true a0_0 a0_1 a0_2 l0_3 l0_4 l0_5) else (if a0_1 = 1 then ((cohousingref39_agenda.f k l0_3).bind fun t382 => (if t382 = true then ((cohousingref39_voters.f k l0_4).bind fun t383 => (cohousingref39_Valid.j0 k (!t383) a0_0 a0_1 a0_2 l0_3 l0_4 l0_5)) else (cohousingref39_Valid.j0 k true a0_0 a0_1 a0_2 l0_3 l0_4 l0_5))) else (if a0_1 = 2 then ((cohousingref39_agenda.f k l0_3).bind fun t384 => (if t384 = true then ((cohousingref39_voters.f k l0_4).bind fun t385 => (cohousingref39_Valid.j0 k (!t385) a0_0 a0_1 a0_2 l0_3 l0_4 l0_5)) else (cohousingref39_Valid.j0 k true a0_0 a0_1 a0_2 l0_3 l0_4 l0_5))) else (cohousingref39_Valid.j0 k true a0_0 a0_1 a0_2 l0_3 l0_4 l0_5)))) else (cohousingref39_Valid.j0 k true a0_0 a0_1 a0_2 l0_3 l0_4 l0_5))) else (cohousingref39_Valid.j0 k true a0_0 a0_1 a0_2 l0_3 l0_4 l0_5)) = some r := H
  have A4 := Aside0.mk A40
  clear A40
  by_cases c5 : t380 = true
  ·subst c5
   have H1 : ((cohousingref03_In.f a0_2).bind fun t381 => (if t381 = true then (if a0_0 > a0_2 then (cohousingref39_Valid.j0 k true a0_0 a0_1 a0_2 l0_3 l0_4 l0_5) else (if a0_1 = 1 then ((cohousingref39_agenda.f k l0_3).bind fun t382 => (if t382 = true then ((cohousingref39_voters.f k l0_4).bind fun t383 => (cohousingref39_Valid.j0 k (!t383) a0_0 a0_1 a0_2 l0_3 l0_4 l0_5)) else (cohousingref39_Valid.j0 k true a0_0 a0_1 a0_2 l0_3 l0_4 l0_5))) else (if a0_1 = 2 then ((cohousingref39_agenda.f k l0_3).bind fun t384 => (if t384 = true then ((cohousingref39_voters.f k l0_4).bind fun t385 => (cohousingref39_Valid.j0 k (!t385) a0_0 a0_1 a0_2 l0_3 l0_4 l0_5)) else (cohousingref39_Valid.j0 k true a0_0 a0_1 a0_2 l0_3 l0_4 l0_5))) else (cohousingref39_Valid.j0 k true a0_0 a0_1 a0_2 l0_3 l0_4 l0_5)))) else (cohousingref39_Valid.j0 k true a0_0 a0_1 a0_2 l0_3 l0_4 l0_5))) = some r := by rw [if_pos rfl] at H; exact H
   clear H
   have H := H1
   clear H1
   replace H := Option.bind_eq_some_iff.mp H
   obtain ⟨t381, A60, H⟩ := H
   replace H : (if t381 = true then (if a0_0 > a0_2 then (cohousingref39_Valid.j0 k true a0_0 a0_1 a0_2 l0_3 l0_4 l0_5) else (if a0_1 = 1 then ((cohousingref39_agenda.f k l0_3).bind fun t382 => (if t382 = true then ((cohousingref39_voters.f k l0_4).bind fun t383 => (cohousingref39_Valid.j0 k (!t383) a0_0 a0_1 a0_2 l0_3 l0_4 l0_5)) else (cohousingref39_Valid.j0 k true a0_0 a0_1 a0_2 l0_3 l0_4 l0_5))) else (if a0_1 = 2 then ((cohousingref39_agenda.f k l0_3).bind fun t384 => (if t384 = true then ((cohousingref39_voters.f k l0_4).bind fun t385 => (cohousingref39_Valid.j0 k (!t385) a0_0 a0_1 a0_2 l0_3 l0_4 l0_5)) else (cohousingref39_Valid.j0 k true a0_0 a0_1 a0_2 l0_3 l0_4 l0_5))) else (cohousingref39_Valid.j0 k true a0_0 a0_1 a0_2 l0_3 l0_4 l0_5)))) else (cohousingref39_Valid.j0 k true a0_0 a0_1 a0_2 l0_3 l0_4 l0_5)) = some r := H
   have A6 := Aside0.mk A60
   clear A60
   by_cases c7 : t381 = true
   ·subst c7
    have H1 : (if a0_0 > a0_2 then (cohousingref39_Valid.j0 k true a0_0 a0_1 a0_2 l0_3 l0_4 l0_5) else (if a0_1 = 1 then ((cohousingref39_agenda.f k l0_3).bind fun t382 => (if t382 = true then ((cohousingref39_voters.f k l0_4).bind fun t383 => (cohousingref39_Valid.j0 k (!t383) a0_0 a0_1 a0_2 l0_3 l0_4 l0_5)) else (cohousingref39_Valid.j0 k true a0_0 a0_1 a0_2 l0_3 l0_4 l0_5))) else (if a0_1 = 2 then ((cohousingref39_agenda.f k l0_3).bind fun t384 => (if t384 = true then ((cohousingref39_voters.f k l0_4).bind fun t385 => (cohousingref39_Valid.j0 k (!t385) a0_0 a0_1 a0_2 l0_3 l0_4 l0_5)) else (cohousingref39_Valid.j0 k true a0_0 a0_1 a0_2 l0_3 l0_4 l0_5))) else (cohousingref39_Valid.j0 k true a0_0 a0_1 a0_2 l0_3 l0_4 l0_5)))) = some r := by rw [if_pos rfl] at H; exact H
    clear H
    have H := H1
    clear H1
    by_cases c8 : a0_0 > a0_2
    ·rw [if_pos c8] at H
     have c8b0 : decide (a0_2 < a0_0) = true := decide_eq_true c8
     clear c8
     (first | rw [c8b0] | (simp only [i64_w, i32_w]; rw [c8b0]) | skip)
     have H' := Aside0.mk H
     clear H
     obtain ⟨hcz9_0, hcz9_1, hcz9_2, hcz9_3, hcz9_4, hcz9_5⟩ := qz6_ BK379; obtain ⟨hfz9_0, hfz9_1, hfz9_2, hfz9_3, hfz9_4, hfz9_5⟩ := qf6_ BK379
     go_wp2_with (first | (go_at_call 39; (with_reducible refine (cohousingref03_In.calls a0_0 true _ A4.out).mono ?_); rintro e w' ⟨rfl, ⟨nd, rfl⟩⟩; (try exact qw_)) | (go_at_call 39; (with_reducible refine (cohousingref03_In.calls a0_2 true _ A6.out).mono ?_); rintro e w' ⟨rfl, ⟨nd, rfl⟩⟩; (try exact qw_)))
     repeat (go_quiet (first | (go_at_call 39; (with_reducible refine (cohousingref03_In.calls a0_0 true _ A4.out).mono ?_); rintro e w' ⟨rfl, ⟨nd, rfl⟩⟩; (try exact qw_)) | (go_at_call 39; (with_reducible refine (cohousingref03_In.calls a0_2 true _ A6.out).mono ?_); rintro e w' ⟨rfl, ⟨nd, rfl⟩⟩; (try exact qw_))); try go_wp2_with (first | (go_at_call 39; (with_reducible refine (cohousingref03_In.calls a0_0 true _ A4.out).mono ?_); rintro e w' ⟨rfl, ⟨nd, rfl⟩⟩; (try exact qw_)) | (go_at_call 39; (with_reducible refine (cohousingref03_In.calls a0_2 true _ A6.out).mono ?_); rintro e w' ⟨rfl, ⟨nd, rfl⟩⟩; (try exact qw_))))
     go_meet
     case rel => exact ⟨_, (true), qs_, H', ⟨qo_⟩, ⟨qk_ BK379⟩, ⟨qb_⟩⟩
    ·rw [if_neg c8] at H
     have c8b0 : decide (a0_2 < a0_0) = false := decide_eq_false c8
     clear c8
     (first | rw [c8b0] | (simp only [i64_w, i32_w]; rw [c8b0]) | skip)
     by_cases c10 : a0_1 = 1
     ·rw [if_pos c10] at H
      have c10b0 : (a0_1 == 1) = true := beq_iff_eq.mpr c10
      have c10b1 : (a0_1 != 1) = false := bne_eq_false_iff_eq.mpr c10
      clear c10
      replace H := Option.bind_eq_some_iff.mp H
      obtain ⟨t382, A110, H⟩ := H
      replace H : (if t382 = true then ((cohousingref39_voters.f k l0_4).bind fun t383 => (cohousingref39_Valid.j0 k (!t383) a0_0 a0_1 a0_2 l0_3 l0_4 l0_5)) else (cohousingref39_Valid.j0 k true a0_0 a0_1 a0_2 l0_3 l0_4 l0_5)) = some r := H
      have A11 := Aside0.mk A110
      clear A110
      by_cases c12 : t382 = true
      ·subst c12
       have H1 : ((cohousingref39_voters.f k l0_4).bind fun t383 => (cohousingref39_Valid.j0 k (!t383) a0_0 a0_1 a0_2 l0_3 l0_4 l0_5)) = some r := by rw [if_pos rfl] at H; exact H
       clear H
       have H := H1
       clear H1
       replace H := Option.bind_eq_some_iff.mp H
       obtain ⟨t383, A130, H⟩ := H
       replace H : (cohousingref39_Valid.j0 k (!t383) a0_0 a0_1 a0_2 l0_3 l0_4 l0_5) = some r := H
       have A13 := Aside0.mk A130
       clear A130
       have H' := Aside0.mk H
       clear H
       obtain ⟨hcz14_0, hcz14_1, hcz14_2, hcz14_3, hcz14_4, hcz14_5⟩ := qz6_ BK379; obtain ⟨hfz14_0, hfz14_1, hfz14_2, hfz14_3, hfz14_4, hfz14_5⟩ := qf6_ BK379
       go_wp2_with (first | (go_at_call 39; (with_reducible refine (cohousingref03_In.calls a0_0 true _ A4.out).mono ?_); rintro e w' ⟨rfl, ⟨nd, rfl⟩⟩; (try exact qw_)) | (go_at_call 39; (with_reducible refine (cohousingref03_In.calls a0_2 true _ A6.out).mono ?_); rintro e w' ⟨rfl, ⟨nd, rfl⟩⟩; (try exact qw_)) | (go_at_call 40; (with_reducible refine (cohousingref39_agenda.calls k _ _ l0_3 true _ ?side1 ?side2 A11.out).mono ?_); (case side1 => repeat (first | exact (Kd.C_below HR0_3.out qb_) | (with_reducible refine Kd.C_alloc ?_ _) | (with_reducible refine Kd.C_drewN ?_ _) | (with_reducible refine Kd.C_drew ?_))); (case side2 => exact HC0_3.out); rintro e w15 ⟨rfl, hb⟩; have n0_ := qkb_ BK379 hb; have n1_ := qbs_ hb; clear BK379 HB; have BK379 := n0_; have HB := n1_; clear n0_ n1_; (try clear hb); (try clear hb2); (try clear hk); (try clear hi); obtain ⟨hcz16_0, hcz16_1, hcz16_2, hcz16_3, hcz16_4, hcz16_5⟩ := qz6_ BK379; obtain ⟨hfz16_0, hfz16_1, hfz16_2, hfz16_3, hfz16_4, hfz16_5⟩ := qf6_ BK379) | (go_at_call 41; (with_reducible refine (cohousingref39_voters.calls k _ _ l0_4 t383 _ ?side1 ?side2 A13.out).mono ?_); (case side1 => exact qc_ HR0_4); (case side2 => exact HC0_4.out); rintro e w17 ⟨rfl, hb⟩; have n0_ := qkb_ BK379 hb; have n1_ := qbs_ hb; clear BK379 HB; have BK379 := n0_; have HB := n1_; clear n0_ n1_; (try clear hb); (try clear hb2); (try clear hk); (try clear hi)))
       repeat (go_quiet (first | (go_at_call 39; (with_reducible refine (cohousingref03_In.calls a0_0 true _ A4.out).mono ?_); rintro e w' ⟨rfl, ⟨nd, rfl⟩⟩; (try exact qw_)) | (go_at_call 39; (with_reducible refine (cohousingref03_In.calls a0_2 true _ A6.out).mono ?_); rintro e w' ⟨rfl, ⟨nd, rfl⟩⟩; (try exact qw_)) | (go_at_call 40; (with_reducible refine (cohousingref39_agenda.calls k _ _ l0_3 true _ ?side1 ?side2 A11.out).mono ?_); (case side1 => repeat (first | exact (Kd.C_below HR0_3.out qb_) | (with_reducible refine Kd.C_alloc ?_ _) | (with_reducible refine Kd.C_drewN ?_ _) | (with_reducible refine Kd.C_drew ?_))); (case side2 => exact HC0_3.out); rintro e w15 ⟨rfl, hb⟩; have n0_ := qkb_ BK379 hb; have n1_ := qbs_ hb; clear BK379 HB; have BK379 := n0_; have HB := n1_; clear n0_ n1_; (try clear hb); (try clear hb2); (try clear hk); (try clear hi); obtain ⟨hcz16_0, hcz16_1, hcz16_2, hcz16_3, hcz16_4, hcz16_5⟩ := qz6_ BK379; obtain ⟨hfz16_0, hfz16_1, hfz16_2, hfz16_3, hfz16_4, hfz16_5⟩ := qf6_ BK379) | (go_at_call 41; (with_reducible refine (cohousingref39_voters.calls k _ _ l0_4 t383 _ ?side1 ?side2 A13.out).mono ?_); (case side1 => exact qc_ HR0_4); (case side2 => exact HC0_4.out); rintro e w17 ⟨rfl, hb⟩; have n0_ := qkb_ BK379 hb; have n1_ := qbs_ hb; clear BK379 HB; have BK379 := n0_; have HB := n1_; clear n0_ n1_; (try clear hb); (try clear hb2); (try clear hk); (try clear hi))); try go_wp2_with (first | (go_at_call 39; (with_reducible refine (cohousingref03_In.calls a0_0 true _ A4.out).mono ?_); rintro e w' ⟨rfl, ⟨nd, rfl⟩⟩; (try exact qw_)) | (go_at_call 39; (with_reducible refine (cohousingref03_In.calls a0_2 true _ A6.out).mono ?_); rintro e w' ⟨rfl, ⟨nd, rfl⟩⟩; (try exact qw_)) | (go_at_call 40; (with_reducible refine (cohousingref39_agenda.calls k _ _ l0_3 true _ ?side1 ?side2 A11.out).mono ?_); (case side1 => repeat (first | exact (Kd.C_below HR0_3.out qb_) | (with_reducible refine Kd.C_alloc ?_ _) | (with_reducible refine Kd.C_drewN ?_ _) | (with_reducible refine Kd.C_drew ?_))); (case side2 => exact HC0_3.out); rintro e w15 ⟨rfl, hb⟩; have n0_ := qkb_ BK379 hb; have n1_ := qbs_ hb; clear BK379 HB; have BK379 := n0_; have HB := n1_; clear n0_ n1_; (try clear hb); (try clear hb2); (try clear hk); (try clear hi); obtain ⟨hcz16_0, hcz16_1, hcz16_2, hcz16_3, hcz16_4, hcz16_5⟩ := qz6_ BK379; obtain ⟨hfz16_0, hfz16_1, hfz16_2, hfz16_3, hfz16_4, hfz16_5⟩ := qf6_ BK379) | (go_at_call 41; (with_reducible refine (cohousingref39_voters.calls k _ _ l0_4 t383 _ ?side1 ?side2 A13.out).mono ?_); (case side1 => exact qc_ HR0_4); (case side2 => exact HC0_4.out); rintro e w17 ⟨rfl, hb⟩; have n0_ := qkb_ BK379 hb; have n1_ := qbs_ hb; clear BK379 HB; have BK379 := n0_; have HB := n1_; clear n0_ n1_; (try clear hb); (try clear hb2); (try clear hk); (try clear hi))))
       go_meet
       case rel => exact ⟨_, (!t383), qs_, H', ⟨qo_⟩, ⟨qk_ BK379⟩, ⟨qb_⟩⟩
      ·replace c12 := Bool.eq_false_iff.mpr c12
       subst c12
       have H1 : (cohousingref39_Valid.j0 k true a0_0 a0_1 a0_2 l0_3 l0_4 l0_5) = some r := by rw [if_neg (show ¬ (false = true) by decide)] at H; exact H
       clear H
       have H := H1
       clear H1
       have H' := Aside0.mk H
       clear H
       obtain ⟨hcz18_0, hcz18_1, hcz18_2, hcz18_3, hcz18_4, hcz18_5⟩ := qz6_ BK379; obtain ⟨hfz18_0, hfz18_1, hfz18_2, hfz18_3, hfz18_4, hfz18_5⟩ := qf6_ BK379
       go_wp2_with (first | (go_at_call 39; (with_reducible refine (cohousingref03_In.calls a0_0 true _ A4.out).mono ?_); rintro e w' ⟨rfl, ⟨nd, rfl⟩⟩; (try exact qw_)) | (go_at_call 39; (with_reducible refine (cohousingref03_In.calls a0_2 true _ A6.out).mono ?_); rintro e w' ⟨rfl, ⟨nd, rfl⟩⟩; (try exact qw_)) | (go_at_call 40; (with_reducible refine (cohousingref39_agenda.calls k _ _ l0_3 false _ ?side1 ?side2 A11.out).mono ?_); (case side1 => repeat (first | exact (Kd.C_below HR0_3.out qb_) | (with_reducible refine Kd.C_alloc ?_ _) | (with_reducible refine Kd.C_drewN ?_ _) | (with_reducible refine Kd.C_drew ?_))); (case side2 => exact HC0_3.out); rintro e w19 ⟨rfl, hb⟩; have n0_ := qkb_ BK379 hb; have n1_ := qbs_ hb; clear BK379 HB; have BK379 := n0_; have HB := n1_; clear n0_ n1_; (try clear hb); (try clear hb2); (try clear hk); (try clear hi)))
       repeat (go_quiet (first | (go_at_call 39; (with_reducible refine (cohousingref03_In.calls a0_0 true _ A4.out).mono ?_); rintro e w' ⟨rfl, ⟨nd, rfl⟩⟩; (try exact qw_)) | (go_at_call 39; (with_reducible refine (cohousingref03_In.calls a0_2 true _ A6.out).mono ?_); rintro e w' ⟨rfl, ⟨nd, rfl⟩⟩; (try exact qw_)) | (go_at_call 40; (with_reducible refine (cohousingref39_agenda.calls k _ _ l0_3 false _ ?side1 ?side2 A11.out).mono ?_); (case side1 => repeat (first | exact (Kd.C_below HR0_3.out qb_) | (with_reducible refine Kd.C_alloc ?_ _) | (with_reducible refine Kd.C_drewN ?_ _) | (with_reducible refine Kd.C_drew ?_))); (case side2 => exact HC0_3.out); rintro e w19 ⟨rfl, hb⟩; have n0_ := qkb_ BK379 hb; have n1_ := qbs_ hb; clear BK379 HB; have BK379 := n0_; have HB := n1_; clear n0_ n1_; (try clear hb); (try clear hb2); (try clear hk); (try clear hi))); try go_wp2_with (first | (go_at_call 39; (with_reducible refine (cohousingref03_In.calls a0_0 true _ A4.out).mono ?_); rintro e w' ⟨rfl, ⟨nd, rfl⟩⟩; (try exact qw_)) | (go_at_call 39; (with_reducible refine (cohousingref03_In.calls a0_2 true _ A6.out).mono ?_); rintro e w' ⟨rfl, ⟨nd, rfl⟩⟩; (try exact qw_)) | (go_at_call 40; (with_reducible refine (cohousingref39_agenda.calls k _ _ l0_3 false _ ?side1 ?side2 A11.out).mono ?_); (case side1 => repeat (first | exact (Kd.C_below HR0_3.out qb_) | (with_reducible refine Kd.C_alloc ?_ _) | (with_reducible refine Kd.C_drewN ?_ _) | (with_reducible refine Kd.C_drew ?_))); (case side2 => exact HC0_3.out); rintro e w19 ⟨rfl, hb⟩; have n0_ := qkb_ BK379 hb; have n1_ := qbs_ hb; clear BK379 HB; have BK379 := n0_; have HB := n1_; clear n0_ n1_; (try clear hb); (try clear hb2); (try clear hk); (try clear hi))))
       go_meet
       case rel => exact ⟨_, (true), qs_, H', ⟨qo_⟩, ⟨qk_ BK379⟩, ⟨qb_⟩⟩
     ·rw [if_neg c10] at H
      have c10b0 : (a0_1 == 1) = false := beq_eq_false_iff_ne.mpr c10
      have c10b1 : (a0_1 != 1) = true := bne_iff_ne.mpr c10
      by_cases c20 : a0_1 = 2
      ·rw [if_pos c20] at H
       have c20b0 : (a0_1 == 2) = true := beq_iff_eq.mpr c20
       have c20b1 : (a0_1 != 2) = false := bne_eq_false_iff_eq.mpr c20
       clear c20
       replace H := Option.bind_eq_some_iff.mp H
       obtain ⟨t384, A210, H⟩ := H
       replace H : (if t384 = true then ((cohousingref39_voters.f k l0_4).bind fun t385 => (cohousingref39_Valid.j0 k (!t385) a0_0 a0_1 a0_2 l0_3 l0_4 l0_5)) else (cohousingref39_Valid.j0 k true a0_0 a0_1 a0_2 l0_3 l0_4 l0_5)) = some r := H
       have A21 := Aside0.mk A210
       clear A210
       by_cases c22 : t384 = true
       ·subst c22
        have H1 : ((cohousingref39_voters.f k l0_4).bind fun t385 => (cohousingref39_Valid.j0 k (!t385) a0_0 a0_1 a0_2 l0_3 l0_4 l0_5)) = some r := by rw [if_pos rfl] at H; exact H
        clear H
        have H := H1
        clear H1
        replace H := Option.bind_eq_some_iff.mp H
        obtain ⟨t385, A230, H⟩ := H
        replace H : (cohousingref39_Valid.j0 k (!t385) a0_0 a0_1 a0_2 l0_3 l0_4 l0_5) = some r := H
        have A23 := Aside0.mk A230
        clear A230
        have H' := Aside0.mk H
        clear H
        obtain ⟨hcz24_0, hcz24_1, hcz24_2, hcz24_3, hcz24_4, hcz24_5⟩ := qz6_ BK379; obtain ⟨hfz24_0, hfz24_1, hfz24_2, hfz24_3, hfz24_4, hfz24_5⟩ := qf6_ BK379
        go_wp2_with (first | (go_at_call 39; (with_reducible refine (cohousingref03_In.calls a0_0 true _ A4.out).mono ?_); rintro e w' ⟨rfl, ⟨nd, rfl⟩⟩; (try exact qw_)) | (go_at_call 39; (with_reducible refine (cohousingref03_In.calls a0_2 true _ A6.out).mono ?_); rintro e w' ⟨rfl, ⟨nd, rfl⟩⟩; (try exact qw_)) | (go_at_call 40; (with_reducible refine (cohousingref39_agenda.calls k _ _ l0_3 true _ ?side1 ?side2 A21.out).mono ?_); (case side1 => repeat (first | exact (Kd.C_below HR0_3.out qb_) | (with_reducible refine Kd.C_alloc ?_ _) | (with_reducible refine Kd.C_drewN ?_ _) | (with_reducible refine Kd.C_drew ?_))); (case side2 => exact HC0_3.out); rintro e w25 ⟨rfl, hb⟩; have n0_ := qkb_ BK379 hb; have n1_ := qbs_ hb; clear BK379 HB; have BK379 := n0_; have HB := n1_; clear n0_ n1_; (try clear hb); (try clear hb2); (try clear hk); (try clear hi); obtain ⟨hcz26_0, hcz26_1, hcz26_2, hcz26_3, hcz26_4, hcz26_5⟩ := qz6_ BK379; obtain ⟨hfz26_0, hfz26_1, hfz26_2, hfz26_3, hfz26_4, hfz26_5⟩ := qf6_ BK379) | (go_at_call 41; (with_reducible refine (cohousingref39_voters.calls k _ _ l0_4 t385 _ ?side1 ?side2 A23.out).mono ?_); (case side1 => exact qc_ HR0_4); (case side2 => exact HC0_4.out); rintro e w27 ⟨rfl, hb⟩; have n0_ := qkb_ BK379 hb; have n1_ := qbs_ hb; clear BK379 HB; have BK379 := n0_; have HB := n1_; clear n0_ n1_; (try clear hb); (try clear hb2); (try clear hk); (try clear hi)))
        repeat (go_quiet (first | (go_at_call 39; (with_reducible refine (cohousingref03_In.calls a0_0 true _ A4.out).mono ?_); rintro e w' ⟨rfl, ⟨nd, rfl⟩⟩; (try exact qw_)) | (go_at_call 39; (with_reducible refine (cohousingref03_In.calls a0_2 true _ A6.out).mono ?_); rintro e w' ⟨rfl, ⟨nd, rfl⟩⟩; (try exact qw_)) | (go_at_call 40; (with_reducible refine (cohousingref39_agenda.calls k _ _ l0_3 true _ ?side1 ?side2 A21.out).mono ?_); (case side1 => repeat (first | exact (Kd.C_below HR0_3.out qb_) | (with_reducible refine Kd.C_alloc ?_ _) | (with_reducible refine Kd.C_drewN ?_ _) | (with_reducible refine Kd.C_drew ?_))); (case side2 => exact HC0_3.out); rintro e w25 ⟨rfl, hb⟩; have n0_ := qkb_ BK379 hb; have n1_ := qbs_ hb; clear BK379 HB; have BK379 := n0_; have HB := n1_; clear n0_ n1_; (try clear hb); (try clear hb2); (try clear hk); (try clear hi); obtain ⟨hcz26_0, hcz26_1, hcz26_2, hcz26_3, hcz26_4, hcz26_5⟩ := qz6_ BK379; obtain ⟨hfz26_0, hfz26_1, hfz26_2, hfz26_3, hfz26_4, hfz26_5⟩ := qf6_ BK379) | (go_at_call 41; (with_reducible refine (cohousingref39_voters.calls k _ _ l0_4 t385 _ ?side1 ?side2 A23.out).mono ?_); (case side1 => exact qc_ HR0_4); (case side2 => exact HC0_4.out); rintro e w27 ⟨rfl, hb⟩; have n0_ := qkb_ BK379 hb; have n1_ := qbs_ hb; clear BK379 HB; have BK379 := n0_; have HB := n1_; clear n0_ n1_; (try clear hb); (try clear hb2); (try clear hk); (try clear hi))); try go_wp2_with (first | (go_at_call 39; (with_reducible refine (cohousingref03_In.calls a0_0 true _ A4.out).mono ?_); rintro e w' ⟨rfl, ⟨nd, rfl⟩⟩; (try exact qw_)) | (go_at_call 39; (with_reducible refine (cohousingref03_In.calls a0_2 true _ A6.out).mono ?_); rintro e w' ⟨rfl, ⟨nd, rfl⟩⟩; (try exact qw_)) | (go_at_call 40; (with_reducible refine (cohousingref39_agenda.calls k _ _ l0_3 true _ ?side1 ?side2 A21.out).mono ?_); (case side1 => repeat (first | exact (Kd.C_below HR0_3.out qb_) | (with_reducible refine Kd.C_alloc ?_ _) | (with_reducible refine Kd.C_drewN ?_ _) | (with_reducible refine Kd.C_drew ?_))); (case side2 => exact HC0_3.out); rintro e w25 ⟨rfl, hb⟩; have n0_ := qkb_ BK379 hb; have n1_ := qbs_ hb; clear BK379 HB; have BK379 := n0_; have HB := n1_; clear n0_ n1_; (try clear hb); (try clear hb2); (try clear hk); (try clear hi); obtain ⟨hcz26_0, hcz26_1, hcz26_2, hcz26_3, hcz26_4, hcz26_5⟩ := qz6_ BK379; obtain ⟨hfz26_0, hfz26_1, hfz26_2, hfz26_3, hfz26_4, hfz26_5⟩ := qf6_ BK379) | (go_at_call 41; (with_reducible refine (cohousingref39_voters.calls k _ _ l0_4 t385 _ ?side1 ?side2 A23.out).mono ?_); (case side1 => exact qc_ HR0_4); (case side2 => exact HC0_4.out); rintro e w27 ⟨rfl, hb⟩; have n0_ := qkb_ BK379 hb; have n1_ := qbs_ hb; clear BK379 HB; have BK379 := n0_; have HB := n1_; clear n0_ n1_; (try clear hb); (try clear hb2); (try clear hk); (try clear hi))))
        go_meet
        case rel => exact ⟨_, (!t385), qs_, H', ⟨qo_⟩, ⟨qk_ BK379⟩, ⟨qb_⟩⟩
       ·replace c22 := Bool.eq_false_iff.mpr c22
        subst c22
        have H1 : (cohousingref39_Valid.j0 k true a0_0 a0_1 a0_2 l0_3 l0_4 l0_5) = some r := by rw [if_neg (show ¬ (false = true) by decide)] at H; exact H
        clear H
        have H := H1
        clear H1
        have H' := Aside0.mk H
        clear H
        obtain ⟨hcz28_0, hcz28_1, hcz28_2, hcz28_3, hcz28_4, hcz28_5⟩ := qz6_ BK379; obtain ⟨hfz28_0, hfz28_1, hfz28_2, hfz28_3, hfz28_4, hfz28_5⟩ := qf6_ BK379
        go_wp2_with (first | (go_at_call 39; (with_reducible refine (cohousingref03_In.calls a0_0 true _ A4.out).mono ?_); rintro e w' ⟨rfl, ⟨nd, rfl⟩⟩; (try exact qw_)) | (go_at_call 39; (with_reducible refine (cohousingref03_In.calls a0_2 true _ A6.out).mono ?_); rintro e w' ⟨rfl, ⟨nd, rfl⟩⟩; (try exact qw_)) | (go_at_call 40; (with_reducible refine (cohousingref39_agenda.calls k _ _ l0_3 false _ ?side1 ?side2 A21.out).mono ?_); (case side1 => repeat (first | exact (Kd.C_below HR0_3.out qb_) | (with_reducible refine Kd.C_alloc ?_ _) | (with_reducible refine Kd.C_drewN ?_ _) | (with_reducible refine Kd.C_drew ?_))); (case side2 => exact HC0_3.out); rintro e w29 ⟨rfl, hb⟩; have n0_ := qkb_ BK379 hb; have n1_ := qbs_ hb; clear BK379 HB; have BK379 := n0_; have HB := n1_; clear n0_ n1_; (try clear hb); (try clear hb2); (try clear hk); (try clear hi)))
        repeat (go_quiet (first | (go_at_call 39; (with_reducible refine (cohousingref03_In.calls a0_0 true _ A4.out).mono ?_); rintro e w' ⟨rfl, ⟨nd, rfl⟩⟩; (try exact qw_)) | (go_at_call 39; (with_reducible refine (cohousingref03_In.calls a0_2 true _ A6.out).mono ?_); rintro e w' ⟨rfl, ⟨nd, rfl⟩⟩; (try exact qw_)) | (go_at_call 40; (with_reducible refine (cohousingref39_agenda.calls k _ _ l0_3 false _ ?side1 ?side2 A21.out).mono ?_); (case side1 => repeat (first | exact (Kd.C_below HR0_3.out qb_) | (with_reducible refine Kd.C_alloc ?_ _) | (with_reducible refine Kd.C_drewN ?_ _) | (with_reducible refine Kd.C_drew ?_))); (case side2 => exact HC0_3.out); rintro e w29 ⟨rfl, hb⟩; have n0_ := qkb_ BK379 hb; have n1_ := qbs_ hb; clear BK379 HB; have BK379 := n0_; have HB := n1_; clear n0_ n1_; (try clear hb); (try clear hb2); (try clear hk); (try clear hi))); try go_wp2_with (first | (go_at_call 39; (with_reducible refine (cohousingref03_In.calls a0_0 true _ A4.out).mono ?_); rintro e w' ⟨rfl, ⟨nd, rfl⟩⟩; (try exact qw_)) | (go_at_call 39; (with_reducible refine (cohousingref03_In.calls a0_2 true _ A6.out).mono ?_); rintro e w' ⟨rfl, ⟨nd, rfl⟩⟩; (try exact qw_)) | (go_at_call 40; (with_reducible refine (cohousingref39_agenda.calls k _ _ l0_3 false _ ?side1 ?side2 A21.out).mono ?_); (case side1 => repeat (first | exact (Kd.C_below HR0_3.out qb_) | (with_reducible refine Kd.C_alloc ?_ _) | (with_reducible refine Kd.C_drewN ?_ _) | (with_reducible refine Kd.C_drew ?_))); (case side2 => exact HC0_3.out); rintro e w29 ⟨rfl, hb⟩; have n0_ := qkb_ BK379 hb; have n1_ := qbs_ hb; clear BK379 HB; have BK379 := n0_; have HB := n1_; clear n0_ n1_; (try clear hb); (try clear hb2); (try clear hk); (try clear hi))))
        go_meet
        case rel => exact ⟨_, (true), qs_, H', ⟨qo_⟩, ⟨qk_ BK379⟩, ⟨qb_⟩⟩
      ·rw [if_neg c20] at H
       have c20b0 : (a0_1 == 2) = false := beq_eq_false_iff_ne.mpr c20
       have c20b1 : (a0_1 != 2) = true := bne_iff_ne.mpr c20
       have H' := Aside0.mk H
       clear H
       obtain ⟨hcz30_0, hcz30_1, hcz30_2, hcz30_3, hcz30_4, hcz30_5⟩ := qz6_ BK379; obtain ⟨hfz30_0, hfz30_1, hfz30_2, hfz30_3, hfz30_4, hfz30_5⟩ := qf6_ BK379
       go_wp2_with (first | (go_at_call 39; (with_reducible refine (cohousingref03_In.calls a0_0 true _ A4.out).mono ?_); rintro e w' ⟨rfl, ⟨nd, rfl⟩⟩; (try exact qw_)) | (go_at_call 39; (with_reducible refine (cohousingref03_In.calls a0_2 true _ A6.out).mono ?_); rintro e w' ⟨rfl, ⟨nd, rfl⟩⟩; (try exact qw_)))
       repeat (go_quiet (first | (go_at_call 39; (with_reducible refine (cohousingref03_In.calls a0_0 true _ A4.out).mono ?_); rintro e w' ⟨rfl, ⟨nd, rfl⟩⟩; (try exact qw_)) | (go_at_call 39; (with_reducible refine (cohousingref03_In.calls a0_2 true _ A6.out).mono ?_); rintro e w' ⟨rfl, ⟨nd, rfl⟩⟩; (try exact qw_))); try go_wp2_with (first | (go_at_call 39; (with_reducible refine (cohousingref03_In.calls a0_0 true _ A4.out).mono ?_); rintro e w' ⟨rfl, ⟨nd, rfl⟩⟩; (try exact qw_)) | (go_at_call 39; (with_reducible refine (cohousingref03_In.calls a0_2 true _ A6.out).mono ?_); rintro e w' ⟨rfl, ⟨nd, rfl⟩⟩; (try exact qw_))))
       go_meet
       case rel => exact ⟨_, (true), qs_, H', ⟨qo_⟩, ⟨qk_ BK379⟩, ⟨qb_⟩⟩
   ·replace c7 := Bool.eq_false_iff.mpr c7
    subst c7
    have H1 : (cohousingref39_Valid.j0 k true a0_0 a0_1 a0_2 l0_3 l0_4 l0_5) = some r := by rw [if_neg (show ¬ (false = true) by decide)] at H; exact H
    clear H
    have H := H1
    clear H1
    have H' := Aside0.mk H
    clear H
    obtain ⟨hcz31_0, hcz31_1, hcz31_2, hcz31_3, hcz31_4, hcz31_5⟩ := qz6_ BK379; obtain ⟨hfz31_0, hfz31_1, hfz31_2, hfz31_3, hfz31_4, hfz31_5⟩ := qf6_ BK379
    go_wp2_with (first | (go_at_call 39; (with_reducible refine (cohousingref03_In.calls a0_0 true _ A4.out).mono ?_); rintro e w' ⟨rfl, ⟨nd, rfl⟩⟩; (try exact qw_)) | (go_at_call 39; (with_reducible refine (cohousingref03_In.calls a0_2 false _ A6.out).mono ?_); rintro e w' ⟨rfl, ⟨nd, rfl⟩⟩; (try exact qw_)))
    repeat (go_quiet (first | (go_at_call 39; (with_reducible refine (cohousingref03_In.calls a0_0 true _ A4.out).mono ?_); rintro e w' ⟨rfl, ⟨nd, rfl⟩⟩; (try exact qw_)) | (go_at_call 39; (with_reducible refine (cohousingref03_In.calls a0_2 false _ A6.out).mono ?_); rintro e w' ⟨rfl, ⟨nd, rfl⟩⟩; (try exact qw_))); try go_wp2_with (first | (go_at_call 39; (with_reducible refine (cohousingref03_In.calls a0_0 true _ A4.out).mono ?_); rintro e w' ⟨rfl, ⟨nd, rfl⟩⟩; (try exact qw_)) | (go_at_call 39; (with_reducible refine (cohousingref03_In.calls a0_2 false _ A6.out).mono ?_); rintro e w' ⟨rfl, ⟨nd, rfl⟩⟩; (try exact qw_))))
    go_meet
    case rel => exact ⟨_, (true), qs_, H', ⟨qo_⟩, ⟨qk_ BK379⟩, ⟨qb_⟩⟩
  ·replace c5 := Bool.eq_false_iff.mpr c5
   subst c5
   have H1 : (cohousingref39_Valid.j0 k true a0_0 a0_1 a0_2 l0_3 l0_4 l0_5) = some r := by rw [if_neg (show ¬ (false = true) by decide)] at H; exact H
   clear H
   have H := H1
   clear H1
   have H' := Aside0.mk H
   clear H
   obtain ⟨hcz32_0, hcz32_1, hcz32_2, hcz32_3, hcz32_4, hcz32_5⟩ := qz6_ BK379; obtain ⟨hfz32_0, hfz32_1, hfz32_2, hfz32_3, hfz32_4, hfz32_5⟩ := qf6_ BK379
   go_wp2_with (first | (go_at_call 39; (with_reducible refine (cohousingref03_In.calls a0_0 false _ A4.out).mono ?_); rintro e w' ⟨rfl, ⟨nd, rfl⟩⟩; (try exact qw_)))
   repeat (go_quiet (first | (go_at_call 39; (with_reducible refine (cohousingref03_In.calls a0_0 false _ A4.out).mono ?_); rintro e w' ⟨rfl, ⟨nd, rfl⟩⟩; (try exact qw_))); try go_wp2_with (first | (go_at_call 39; (with_reducible refine (cohousingref03_In.calls a0_0 false _ A4.out).mono ?_); rintro e w' ⟨rfl, ⟨nd, rfl⟩⟩; (try exact qw_))))
   go_meet
   case rel => exact ⟨_, (true), qs_, H', ⟨qo_⟩, ⟨qk_ BK379⟩, ⟨qb_⟩⟩
 case rest =>
  clear HC2
  try clear c1
  try clear c2
  try clear p2
  try clear c5
  try clear c7
  try clear c8
  try clear c8b0
  try clear c10
  try clear c10b0
  try clear c10b1
  try clear c12
  try clear c16
  try clear c20
  try clear c20b0
  try clear c20b1
  try clear c22
  try clear hcz14_0 hcz14_1 hcz14_2 hcz14_3 hcz14_4 hcz14_5
  try clear hcz16_0 hcz16_1 hcz16_2 hcz16_3 hcz16_4 hcz16_5
  try clear hcz18_0 hcz18_1 hcz18_2 hcz18_3 hcz18_4 hcz18_5
  try clear hcz24_0 hcz24_1 hcz24_2 hcz24_3 hcz24_4 hcz24_5
  try clear hcz26_0 hcz26_1 hcz26_2 hcz26_3 hcz26_4 hcz26_5
  try clear hcz28_0 hcz28_1 hcz28_2 hcz28_3 hcz28_4 hcz28_5
  try clear hcz30_0 hcz30_1 hcz30_2 hcz30_3 hcz30_4 hcz30_5
  try clear hcz31_0 hcz31_1 hcz31_2 hcz31_3 hcz31_4 hcz31_5
  try clear hcz32_0 hcz32_1 hcz32_2 hcz32_3 hcz32_4 hcz32_5
  try clear hcz9_0 hcz9_1 hcz9_2 hcz9_3 hcz9_4 hcz9_5
  try clear hfz14_0 hfz14_1 hfz14_2 hfz14_3 hfz14_4 hfz14_5
  try clear hfz16_0 hfz16_1 hfz16_2 hfz16_3 hfz16_4 hfz16_5
  try clear hfz18_0 hfz18_1 hfz18_2 hfz18_3 hfz18_4 hfz18_5
  try clear hfz24_0 hfz24_1 hfz24_2 hfz24_3 hfz24_4 hfz24_5
  try clear hfz26_0 hfz26_1 hfz26_2 hfz26_3 hfz26_4 hfz26_5
  try clear hfz28_0 hfz28_1 hfz28_2 hfz28_3 hfz28_4 hfz28_5
  try clear hfz30_0 hfz30_1 hfz30_2 hfz30_3 hfz30_4 hfz30_5
  try clear hfz31_0 hfz31_1 hfz31_2 hfz31_3 hfz31_4 hfz31_5
  try clear hfz32_0 hfz32_1 hfz32_2 hfz32_3 hfz32_4 hfz32_5
  try clear hfz9_0 hfz9_1 hfz9_2 hfz9_3 hfz9_4 hfz9_5
  obtain ⟨kq, x42_1, rfl, HA, HJ1, BK379, HB⟩ := hcut
  cases kq with
  | zero => exact absurd HA.out (by simp [cohousingref39_Valid.j0])
  | succ kj1 =>
   have H := HA.out
   clear HA
   simp only [cohousingref39_Valid.j0] at H
   by_cases c33 : x42_1 = true
   ·subst c33
    have H1 : (some false) = some r := by rw [if_pos rfl] at H; exact H
    clear H
    have H := H1
    clear H1
    obtain rfl := Option.some.inj H
    go_wp2
    repeat (go_quiet (fail); try go_wp2)
    go_ret
    exact ⟨qx_, qb_⟩
   ·replace c33 := Bool.eq_false_iff.mpr c33
    subst c33
    have H1 : (cohousingref39_Valid.l0 kj1 0 a0_0 a0_1 a0_2 l0_3 l0_4 l0_5) = some r := by rw [if_neg (show ¬ (false = true) by decide)] at H; exact H
    clear H
    have H := H1
    clear H1
    have H' := Aside0.mk H
    clear H
    go_wp2
    repeat (go_quiet (fail); try go_wp2)
    go_loopg [3] kj1 (fun kq v3 w' => ∃ (x3_2 : Int), v3 = .int .i64 x3_2 ∧ Aside0 (cohousingref39_Valid.l0 kq x3_2 a0_0 a0_1 a0_2 l0_3 l0_4 l0_5 = some r) ∧ Aside0 (kq ≤ kj1) ∧ Aside0 (w'.heap[gb379]? = some (.cells #[.int .i64 a0_0, .int .i64 a0_1, .int .i64 a0_2, (.slice A0_3 l0_3.length c0_3), (.slice A0_4 l0_4.length c0_4), (.slice A0_5 l0_5.length c0_5)] 30 (0, 0))) ∧ Aside0 (Below w.heap.size w w'))
    case atStart => exact ⟨(0), qs_, H', ⟨Nat.le_refl _⟩, ⟨qk_ BK379⟩, ⟨qb_⟩⟩
    case round =>
     clear H'
     try clear c1
     try clear c2
     try clear p2
     try clear c3
     try clear c5
     try clear c7
     try clear c8
     try clear c8b0
     try clear c10
     try clear c10b0
     try clear c10b1
     try clear c12
     try clear c16
     try clear c20
     try clear c20b0
     try clear c20b1
     try clear c22
     try clear c33
     try clear hcz14_0 hcz14_1 hcz14_2 hcz14_3 hcz14_4 hcz14_5
     try clear hcz16_0 hcz16_1 hcz16_2 hcz16_3 hcz16_4 hcz16_5
     try clear hcz18_0 hcz18_1 hcz18_2 hcz18_3 hcz18_4 hcz18_5
     try clear hcz24_0 hcz24_1 hcz24_2 hcz24_3 hcz24_4 hcz24_5
     try clear hcz26_0 hcz26_1 hcz26_2 hcz26_3 hcz26_4 hcz26_5
     try clear hcz28_0 hcz28_1 hcz28_2 hcz28_3 hcz28_4 hcz28_5
     try clear hcz30_0 hcz30_1 hcz30_2 hcz30_3 hcz30_4 hcz30_5
     try clear hcz31_0 hcz31_1 hcz31_2 hcz31_3 hcz31_4 hcz31_5
     try clear hcz32_0 hcz32_1 hcz32_2 hcz32_3 hcz32_4 hcz32_5
     try clear hcz9_0 hcz9_1 hcz9_2 hcz9_3 hcz9_4 hcz9_5
     try clear hfz14_0 hfz14_1 hfz14_2 hfz14_3 hfz14_4 hfz14_5
     try clear hfz16_0 hfz16_1 hfz16_2 hfz16_3 hfz16_4 hfz16_5
     try clear hfz18_0 hfz18_1 hfz18_2 hfz18_3 hfz18_4 hfz18_5
     try clear hfz24_0 hfz24_1 hfz24_2 hfz24_3 hfz24_4 hfz24_5
     try clear hfz26_0 hfz26_1 hfz26_2 hfz26_3 hfz26_4 hfz26_5
     try clear hfz28_0 hfz28_1 hfz28_2 hfz28_3 hfz28_4 hfz28_5
     try clear hfz30_0 hfz30_1 hfz30_2 hfz30_3 hfz30_4 hfz30_5
     try clear hfz31_0 hfz31_1 hfz31_2 hfz31_3 hfz31_4 hfz31_5
     try clear hfz32_0 hfz32_1 hfz32_2 hfz32_3 hfz32_4 hfz32_5
     try clear hfz9_0 hfz9_1 hfz9_2 hfz9_3 hfz9_4 hfz9_5
     try clear p2
     obtain ⟨x3_2, rfl, HA, HK2, BK379, HB⟩ := hrel
     cases gk with
     | zero => exact absurd HA.out (by simp [cohousingref39_Valid.l0])
     | succ k2 =>
      have H := HA.out
      clear HA
      simp only [cohousingref39_Valid.l0] at H
      by_cases c34 : x3_2 < (l0_5.length : Int)
      ·rw [if_pos c34] at H
       have c34b0 : decide (x3_2 < (l0_5.length : Int)) = true := decide_eq_true c34
       clear c34
       have HC35 := Aside0.mk H
       clear H
       obtain ⟨hcz36_0, hcz36_1, hcz36_2, hcz36_3, hcz36_4, hcz36_5⟩ := qz6_ BK379; obtain ⟨hfz36_0, hfz36_1, hfz36_2, hfz36_3, hfz36_4, hfz36_5⟩ := qf6_ BK379
       go_upto_region 6 with (fail)
       repeat (go_quiet (fail); go_upto_region 6 with (fail))
       go_cut [76] (fun v76 wc => ∃ (kq : Nat) (x76_34 : Bool), v76 = .bool x76_34 ∧ Aside0 (cohousingref39_Valid.j2 kq x3_2 x76_34 a0_0 a0_1 a0_2 l0_3 l0_4 l0_5 = some r) ∧ Aside0 (kq ≤ k2) ∧ Aside0 (wc.heap[gb379]? = some (.cells #[.int .i64 a0_0, .int .i64 a0_1, .int .i64 a0_2, (.slice A0_3 l0_3.length c0_3), (.slice A0_4 l0_4.length c0_4), (.slice A0_5 l0_5.length c0_5)] 30 (0, 0))) ∧ Aside0 (Below w.heap.size w wc))
       case first =>
        have H := HC35.out
        clear HC35
        by_cases c37 : 0 ≤ x3_2
        ·rw [if_pos c37] at H
         have c37b0 : decide (0 ≤ x3_2) = true := decide_eq_true c37
         clear c37
         (first | rw [c37b0] | (simp only [i64_w, i32_w]; rw [c37b0]) | skip)
         replace H := Option.bind_eq_some_iff.mp H
         obtain ⟨t387, A380, H⟩ := H
         replace H : (if t387 < 0 then (cohousingref39_Valid.j2 k2 x3_2 true a0_0 a0_1 a0_2 l0_3 l0_4 l0_5) else (if x3_2 > 0 then (if 0 ≤ (wrap64 (x3_2 - 1)) then (if (wrap64 (x3_2 - 1)) < (l0_5.length : Int) then (cohousingref39_Valid.j2 k2 x3_2 (decide ((rd l0_5 x3_2) ≤ (rd l0_5 (wrap64 (x3_2 - 1))))) a0_0 a0_1 a0_2 l0_3 l0_4 l0_5) else (none)) else (none)) else (cohousingref39_Valid.j2 k2 x3_2 false a0_0 a0_1 a0_2 l0_3 l0_4 l0_5))) = some r := H
         have A38 := Aside0.mk A380
         clear A380
         by_cases c39 : t387 < 0
         ·rw [if_pos c39] at H
          have c39b0 : decide (t387 < 0) = true := decide_eq_true c39
          clear c39
          have H' := Aside0.mk H
          clear H
          obtain ⟨hcz40_0, hcz40_1, hcz40_2, hcz40_3, hcz40_4, hcz40_5⟩ := qz6_ BK379; obtain ⟨hfz40_0, hfz40_1, hfz40_2, hfz40_3, hfz40_4, hfz40_5⟩ := qf6_ BK379
          have p386 : 0 ≤ (x3_2 : Int) := of_decide_eq_true qa_
          have q386 : x3_2 < (l0_5.length : Int) := of_decide_eq_true qa_
          obtain ⟨ad386, e386, hx386_0⟩ := Kd.at_int HR0_5.out x3_2 p386 q386
          cases e386
          replace hx386_0 := (HB.out.cell (World.block_lt_of_cell? w _ hx386_0)).trans hx386_0
          replace p386 := eq_true p386
          replace q386 := eq_true q386
          go_wp2_with (first | (go_at_call 36; (with_reducible refine (cohousingref39_voter.calls k2 _ _ l0_4 (rd l0_5 x3_2) t387 _ ?side1 ?side2 A38.out).mono ?_); (case side1 => exact qc_ HR0_4); (case side2 => exact HC0_4.out); rintro e w' ⟨rfl, ⟨nd, rfl⟩⟩; (try exact qw_)))
          repeat (go_quiet (first | (go_at_call 36; (with_reducible refine (cohousingref39_voter.calls k2 _ _ l0_4 (rd l0_5 x3_2) t387 _ ?side1 ?side2 A38.out).mono ?_); (case side1 => exact qc_ HR0_4); (case side2 => exact HC0_4.out); rintro e w' ⟨rfl, ⟨nd, rfl⟩⟩; (try exact qw_))); try go_wp2_with (first | (go_at_call 36; (with_reducible refine (cohousingref39_voter.calls k2 _ _ l0_4 (rd l0_5 x3_2) t387 _ ?side1 ?side2 A38.out).mono ?_); (case side1 => exact qc_ HR0_4); (case side2 => exact HC0_4.out); rintro e w' ⟨rfl, ⟨nd, rfl⟩⟩; (try exact qw_))))
          go_meet
          case rel => exact ⟨_, (true), qs_, H', ⟨by have := HJ1.out; have := HK2.out; first | omega | exact Nat.le_refl _⟩, ⟨qk_ BK379⟩, ⟨qb_⟩⟩
         ·rw [if_neg c39] at H
          have c39b0 : decide (t387 < 0) = false := decide_eq_false c39
          clear c39
          by_cases c41 : x3_2 > 0
          ·rw [if_pos c41] at H
           have c41b0 : decide (0 < x3_2) = true := decide_eq_true c41
           clear c41
           obtain ⟨ji42, hji42⟩ : ∃ j_ : Int, (wrap64 (x3_2 - 1)) = j_ := ⟨_, rfl⟩
           replace H : (if 0 ≤ (ji42) then (if (ji42) < (l0_5.length : Int) then (cohousingref39_Valid.j2 k2 x3_2 (decide ((rd l0_5 x3_2) ≤ (rd l0_5 (ji42)))) a0_0 a0_1 a0_2 l0_3 l0_4 l0_5) else (none)) else (none)) = some r := by first | (rw [hji42] at H; exact H) | (simp only [hji42] at H ⊢; exact H)
           (try rw [hji42] at A38)
           have hji42w : (IntKind.i64.wrap (x3_2 - 1)) = ji42 := (i64_w _).trans hji42
           by_cases c43 : 0 ≤ (ji42)
           ·rw [if_pos c43] at H
            have c43b0 : decide (0 ≤ (ji42)) = true := decide_eq_true c43
            clear c43
            by_cases c44 : (ji42) < (l0_5.length : Int)
            ·rw [if_pos c44] at H
             have c44b0 : decide ((ji42) < (l0_5.length : Int)) = true := decide_eq_true c44
             clear c44
             have H' := Aside0.mk H
             clear H
             obtain ⟨hcz45_0, hcz45_1, hcz45_2, hcz45_3, hcz45_4, hcz45_5⟩ := qz6_ BK379; obtain ⟨hfz45_0, hfz45_1, hfz45_2, hfz45_3, hfz45_4, hfz45_5⟩ := qf6_ BK379
             have p386 : 0 ≤ (x3_2 : Int) := of_decide_eq_true qa_
             have q386 : x3_2 < (l0_5.length : Int) := of_decide_eq_true qa_
             obtain ⟨ad386, e386, hx386_0⟩ := Kd.at_int HR0_5.out x3_2 p386 q386
             cases e386
             replace hx386_0 := (HB.out.cell (World.block_lt_of_cell? w _ hx386_0)).trans hx386_0
             replace p386 := eq_true p386
             replace q386 := eq_true q386
             go_wp2_with (first | (go_at_call 36; (with_reducible refine (cohousingref39_voter.calls k2 _ _ l0_4 (rd l0_5 x3_2) t387 _ ?side1 ?side2 A38.out).mono ?_); (case side1 => exact qc_ HR0_4); (case side2 => exact HC0_4.out); rintro e w' ⟨rfl, ⟨nd, rfl⟩⟩; (try exact qw_); have p388 : 0 ≤ (x3_2 : Int) := of_decide_eq_true qa_; have q388 : x3_2 < (l0_5.length : Int) := of_decide_eq_true qa_; obtain ⟨ad388, e388, hx388_0⟩ := Kd.at_int HR0_5.out x3_2 p388 q388; obtain rfl : ad386 = ad388 := (by injection e388); replace hx388_0 := (HB.out.cell (World.block_lt_of_cell? w _ hx388_0)).trans hx388_0; replace p388 := eq_true p388; replace q388 := eq_true q388; have p389 : 0 ≤ ((ji42) : Int) := of_decide_eq_true qa_; have q389 : (ji42) < (l0_5.length : Int) := of_decide_eq_true qa_; obtain ⟨ad389, e389, hx389_0⟩ := Kd.at_int HR0_5.out (ji42) p389 q389; obtain rfl : ad386 = ad389 := (by injection e389); replace hx389_0 := (HB.out.cell (World.block_lt_of_cell? w _ hx389_0)).trans hx389_0; replace p389 := eq_true p389; replace q389 := eq_true q389))
             repeat (go_quiet (first | (go_at_call 36; (with_reducible refine (cohousingref39_voter.calls k2 _ _ l0_4 (rd l0_5 x3_2) t387 _ ?side1 ?side2 A38.out).mono ?_); (case side1 => exact qc_ HR0_4); (case side2 => exact HC0_4.out); rintro e w' ⟨rfl, ⟨nd, rfl⟩⟩; (try exact qw_); have p388 : 0 ≤ (x3_2 : Int) := of_decide_eq_true qa_; have q388 : x3_2 < (l0_5.length : Int) := of_decide_eq_true qa_; obtain ⟨ad388, e388, hx388_0⟩ := Kd.at_int HR0_5.out x3_2 p388 q388; obtain rfl : ad386 = ad388 := (by injection e388); replace hx388_0 := (HB.out.cell (World.block_lt_of_cell? w _ hx388_0)).trans hx388_0; replace p388 := eq_true p388; replace q388 := eq_true q388; have p389 : 0 ≤ ((ji42) : Int) := of_decide_eq_true qa_; have q389 : (ji42) < (l0_5.length : Int) := of_decide_eq_true qa_; obtain ⟨ad389, e389, hx389_0⟩ := Kd.at_int HR0_5.out (ji42) p389 q389; obtain rfl : ad386 = ad389 := (by injection e389); replace hx389_0 := (HB.out.cell (World.block_lt_of_cell? w _ hx389_0)).trans hx389_0; replace p389 := eq_true p389; replace q389 := eq_true q389)); try go_wp2_with (first | (go_at_call 36; (with_reducible refine (cohousingref39_voter.calls k2 _ _ l0_4 (rd l0_5 x3_2) t387 _ ?side1 ?side2 A38.out).mono ?_); (case side1 => exact qc_ HR0_4); (case side2 => exact HC0_4.out); rintro e w' ⟨rfl, ⟨nd, rfl⟩⟩; (try exact qw_); have p388 : 0 ≤ (x3_2 : Int) := of_decide_eq_true qa_; have q388 : x3_2 < (l0_5.length : Int) := of_decide_eq_true qa_; obtain ⟨ad388, e388, hx388_0⟩ := Kd.at_int HR0_5.out x3_2 p388 q388; obtain rfl : ad386 = ad388 := (by injection e388); replace hx388_0 := (HB.out.cell (World.block_lt_of_cell? w _ hx388_0)).trans hx388_0; replace p388 := eq_true p388; replace q388 := eq_true q388; have p389 : 0 ≤ ((ji42) : Int) := of_decide_eq_true qa_; have q389 : (ji42) < (l0_5.length : Int) := of_decide_eq_true qa_; obtain ⟨ad389, e389, hx389_0⟩ := Kd.at_int HR0_5.out (ji42) p389 q389; obtain rfl : ad386 = ad389 := (by injection e389); replace hx389_0 := (HB.out.cell (World.block_lt_of_cell? w _ hx389_0)).trans hx389_0; replace p389 := eq_true p389; replace q389 := eq_true q389)))
             go_meet
             case rel => exact ⟨_, (decide ((rd l0_5 x3_2) ≤ (rd l0_5 (ji42)))), (by first | rfl | (simp; done) | (simp only [← hji42] <;> (first | rfl | simp)) | (simp [*]; done)), H', ⟨by have := HJ1.out; have := HK2.out; first | omega | exact Nat.le_refl _⟩, ⟨qk_ BK379⟩, ⟨qb_⟩⟩
            ·rw [if_neg c44] at H
             exact absurd H (by simp)
           ·rw [if_neg c43] at H
            exact absurd H (by simp)
          ·rw [if_neg c41] at H
           have c41b0 : decide (0 < x3_2) = false := decide_eq_false c41
           clear c41
           have H' := Aside0.mk H
           clear H
           obtain ⟨hcz46_0, hcz46_1, hcz46_2, hcz46_3, hcz46_4, hcz46_5⟩ := qz6_ BK379; obtain ⟨hfz46_0, hfz46_1, hfz46_2, hfz46_3, hfz46_4, hfz46_5⟩ := qf6_ BK379
           have p386 : 0 ≤ (x3_2 : Int) := of_decide_eq_true qa_
           have q386 : x3_2 < (l0_5.length : Int) := of_decide_eq_true qa_
           obtain ⟨ad386, e386, hx386_0⟩ := Kd.at_int HR0_5.out x3_2 p386 q386
           cases e386
           replace hx386_0 := (HB.out.cell (World.block_lt_of_cell? w _ hx386_0)).trans hx386_0
           replace p386 := eq_true p386
           replace q386 := eq_true q386
           go_wp2_with (first | (go_at_call 36; (with_reducible refine (cohousingref39_voter.calls k2 _ _ l0_4 (rd l0_5 x3_2) t387 _ ?side1 ?side2 A38.out).mono ?_); (case side1 => exact qc_ HR0_4); (case side2 => exact HC0_4.out); rintro e w' ⟨rfl, ⟨nd, rfl⟩⟩; (try exact qw_)))
           repeat (go_quiet (first | (go_at_call 36; (with_reducible refine (cohousingref39_voter.calls k2 _ _ l0_4 (rd l0_5 x3_2) t387 _ ?side1 ?side2 A38.out).mono ?_); (case side1 => exact qc_ HR0_4); (case side2 => exact HC0_4.out); rintro e w' ⟨rfl, ⟨nd, rfl⟩⟩; (try exact qw_))); try go_wp2_with (first | (go_at_call 36; (with_reducible refine (cohousingref39_voter.calls k2 _ _ l0_4 (rd l0_5 x3_2) t387 _ ?side1 ?side2 A38.out).mono ?_); (case side1 => exact qc_ HR0_4); (case side2 => exact HC0_4.out); rintro e w' ⟨rfl, ⟨nd, rfl⟩⟩; (try exact qw_))))
           go_meet
           case rel => exact ⟨_, (false), qs_, H', ⟨by have := HJ1.out; have := HK2.out; first | omega | exact Nat.le_refl _⟩, ⟨qk_ BK379⟩, ⟨qb_⟩⟩
        ·rw [if_neg c37] at H
         exact absurd H (by simp)
       case rest =>
        clear HC35
        try clear c1
        try clear c2
        try clear p2
        try clear c3
        try clear p3
        try clear q3
        try clear hx3
        try clear c4
        try clear c5
        try clear p6
        try clear c7
        try clear c8
        try clear c8b0
        try clear c10
        try clear c10b0
        try clear c10b1
        try clear c12
        try clear c16
        try clear c20
        try clear c20b0
        try clear c20b1
        try clear c22
        try clear c33
        try clear c34
        try clear c34b0
        try clear c37
        try clear c37b0
        try clear p38
        try clear q38
        try clear hx38
        try clear c39
        try clear c39b0
        try clear c41
        try clear c41b0
        try clear c43
        try clear c43b0
        try clear c44
        try clear c44b0
        try clear hcz14_0 hcz14_1 hcz14_2 hcz14_3 hcz14_4 hcz14_5
        try clear hcz16_0 hcz16_1 hcz16_2 hcz16_3 hcz16_4 hcz16_5
        try clear hcz18_0 hcz18_1 hcz18_2 hcz18_3 hcz18_4 hcz18_5
        try clear hcz24_0 hcz24_1 hcz24_2 hcz24_3 hcz24_4 hcz24_5
        try clear hcz26_0 hcz26_1 hcz26_2 hcz26_3 hcz26_4 hcz26_5
        try clear hcz28_0 hcz28_1 hcz28_2 hcz28_3 hcz28_4 hcz28_5
        try clear hcz30_0 hcz30_1 hcz30_2 hcz30_3 hcz30_4 hcz30_5
        try clear hcz31_0 hcz31_1 hcz31_2 hcz31_3 hcz31_4 hcz31_5
        try clear hcz32_0 hcz32_1 hcz32_2 hcz32_3 hcz32_4 hcz32_5
        try clear hcz36_0 hcz36_1 hcz36_2 hcz36_3 hcz36_4 hcz36_5
        try clear hcz40_0 hcz40_1 hcz40_2 hcz40_3 hcz40_4 hcz40_5
        try clear hcz45_0 hcz45_1 hcz45_2 hcz45_3 hcz45_4 hcz45_5
        try clear hcz46_0 hcz46_1 hcz46_2 hcz46_3 hcz46_4 hcz46_5
        try clear hcz9_0 hcz9_1 hcz9_2 hcz9_3 hcz9_4 hcz9_5
        try clear hfz14_0 hfz14_1 hfz14_2 hfz14_3 hfz14_4 hfz14_5
        try clear hfz16_0 hfz16_1 hfz16_2 hfz16_3 hfz16_4 hfz16_5
        try clear hfz18_0 hfz18_1 hfz18_2 hfz18_3 hfz18_4 hfz18_5
        try clear hfz24_0 hfz24_1 hfz24_2 hfz24_3 hfz24_4 hfz24_5
        try clear hfz26_0 hfz26_1 hfz26_2 hfz26_3 hfz26_4 hfz26_5
        try clear hfz28_0 hfz28_1 hfz28_2 hfz28_3 hfz28_4 hfz28_5
        try clear hfz30_0 hfz30_1 hfz30_2 hfz30_3 hfz30_4 hfz30_5
        try clear hfz31_0 hfz31_1 hfz31_2 hfz31_3 hfz31_4 hfz31_5
        try clear hfz32_0 hfz32_1 hfz32_2 hfz32_3 hfz32_4 hfz32_5
        try clear hfz36_0 hfz36_1 hfz36_2 hfz36_3 hfz36_4 hfz36_5
        try clear hfz40_0 hfz40_1 hfz40_2 hfz40_3 hfz40_4 hfz40_5
        try clear hfz45_0 hfz45_1 hfz45_2 hfz45_3 hfz45_4 hfz45_5
        try clear hfz46_0 hfz46_1 hfz46_2 hfz46_3 hfz46_4 hfz46_5
        try clear hfz9_0 hfz9_1 hfz9_2 hfz9_3 hfz9_4 hfz9_5
        try clear hx386_0
        try clear hx388_0
        try clear hx389_0
        try clear p2
        try clear p386
        try clear p388
        try clear p389
        try clear q386
        try clear q388
        try clear q389
        obtain ⟨kq, x76_34, rfl, HA, HJ34, BK379, HB⟩ := hcut
        cases kq with
        | zero => exact absurd HA.out (by simp [cohousingref39_Valid.j2])
        | succ kj34 =>
         have H := HA.out
         clear HA
         simp only [cohousingref39_Valid.j2] at H
         by_cases c47 : x76_34 = true
         ·subst c47
          have H1 : (some false) = some r := by rw [if_pos rfl] at H; exact H
          clear H
          have H := H1
          clear H1
          obtain rfl := Option.some.inj H
          go_wp2
          repeat (go_quiet (fail); try go_wp2)
          go_ret
          exact ⟨qx_, qb_⟩
         ·replace c47 := Bool.eq_false_iff.mpr c47
          subst c47
          have H1 : (cohousingref39_Valid.l0 kj34 (wrap64 (x3_2 + 1)) a0_0 a0_1 a0_2 l0_3 l0_4 l0_5) = some r := by rw [if_neg (show ¬ (false = true) by decide)] at H; exact H
          clear H
          have H := H1
          clear H1
          have H' := Aside0.mk H
          clear H
          go_wp2
          repeat (go_quiet (fail); try go_wp2)
          go_roundg kj34
          case measure => have := HJ1.out; have := HK2.out; have := HJ34.out; omega
          case rel => exact ⟨(wrap64 (x3_2 + 1)), qs_, H', ⟨by have := HJ1.out; have := HK2.out; have := HJ34.out; omega⟩, ⟨qk_ BK379⟩, ⟨qb_⟩⟩
      ·rw [if_neg c34] at H
       have c34b0 : decide (x3_2 < (l0_5.length : Int)) = false := decide_eq_false c34
       clear c34
       obtain rfl := Option.some.inj H
       obtain ⟨hcz48_0, hcz48_1, hcz48_2, hcz48_3, hcz48_4, hcz48_5⟩ := qz6_ BK379; obtain ⟨hfz48_0, hfz48_1, hfz48_2, hfz48_3, hfz48_4, hfz48_5⟩ := qf6_ BK379
       go_wp2
       repeat (go_quiet (fail); try go_wp2)
       go_ret
       exact ⟨qx_, qb_⟩
end Go.Proofs.Ytemnlgefngjliaa.Px
