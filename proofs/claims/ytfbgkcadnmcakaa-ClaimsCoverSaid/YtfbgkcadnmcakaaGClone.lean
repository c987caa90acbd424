/- slices.Clone at assignments: a nil slice stays nil, any other is copied. Conditions: fewer than 2^47 bytes. -/
import Derived.Test.YtfbgkcadnmcakaaPx0
import Derived.Lib.SliceRun
namespace Go.Proofs.Ytfbgkcadnmcakaa.Px
open Go.RowKit Go.Proofs.YtfbgkcadnmcakaaW.PrintWords Go.Proofs.Ytfbgkcadnmcakaa.Given
set_option linter.unusedVariables false
set_option linter.unusedSimpArgs false
def a4j.f (l0 : List S26) : Option (List S26) := if l0.length * 32 ≤ 140737488355328 then some l0 else none
set_option maxHeartbeats 8000000 in
set_option maxRecDepth 100000 in
theorem a4j.calls (A0 : Option Addr) (c0 : Nat) (l0 r : List S26) (w : World) (hr0 : Kd.C k26 w A0 l0.length l0) (hc0 : l0.length ≤ c0) (h : a4j.f l0 = some r) :
  Calls Try.prog 42 #[.slice A0 l0.length c0] w fun e w' => ∃ v0_ : Value, e = .returned (v0_) ∧ Kd.R k26 26 w' w.heap.size (fun _ => True) v0_ r ∧ Below w.heap.size w w' := by
 have qT : ∀ (w : World) (n c n' c' : Nat), (binOp .eql 23 (.slice A0 n c) (.slice none n' c')).run Try.prog w = .ok (.bool A0.isNone) w := fun w n c n' c' => Lib.run_eql_slice_nil w _ _ A0 n c n' c' Try.underlying23
 unfold a4j.f at h
 by_cases hl : l0.length * 32 ≤ 140737488355328
 ·rw [if_pos hl] at h
  obtain rfl := si_ h
  have HR0 := am_ hr0
  have HC0 := am_ hc0
  have HL := am_ hl
  clear hr0 hc0 hl h
  have HB := am_ (Below.refl w.heap.size w)
  cases hA : A0.isNone with
  | true =>
   rw [hA] at qT
   have e0 : l0 = [] := by
    cases l0 with
    | nil => rfl
    | cons x t =>
     obtain ⟨a, e, _⟩ := HR0.out.2.2 (by simp)
     rw [e] at hA
     simp at hA
   go_enter Try.func42, Try.ntmps42
   go_wp2
   go_ret
   exact ⟨_, rfl, by rw [e0]; exact Kd.a5x _ _ _ _ _, qb_⟩
  | false =>
   rw [hA] at qT
   go_enter Try.func42, Try.ntmps42
   go_wp2_with (first | ((with_reducible refine a1g (N := 5) rfl ?_); refine Kd.a4m k26 _ 26 ?hg (N := 5) ?hd (xs := ([] : List (S26))) (inner := []) (ok := fun _ => True) (okp := fun _ => True) ?hr ?hp (fun _ hk => hk) trivial (Below.refl _ _) (Nat.le_refl _) (by simp) ?_; (case hd => rfl); (case hg => rfl); (case hr => exact qq_); (case hp => exact (Reps.none _ _)); intro v455 w53 ho54 hb hg_ hnew_; clear hg_ hnew_; have HO456 := am_ (Kd.a2k ho54 (a1s qb_)); replace HB := qbs_ hb; clear hb ho54) | (at_builtin; refine Kd.a9p k26 (w0 := w) w.heap.size rfl (.tmp 5) (.tmp 6) 23 26 (.agg #[(.int .i64 0), (.int .i64 0), (.int .i64 0), (.int .i64 0)]) 32 rfl Try.underlying23 b4t rfl (by decide) (by omega) v455 [] l0 _ _ _ (fun _ => True) (fun _ => False) rfl rfl ?aO ?aR (fun _ _ h => h) (fun _ h => h.elim) ?aF ?aB ?aS ?aL ?_; (case aR => exact qc_ HR0); (case aB => exact qb_); (case aF => exact (fun _ _ => trivial)); (case aO => exact (qr_ HO456)); (case aS => exact (a1s qb_)); (case aL => have := HL.out; simpa using this); intro v458 w55 ho hb hg hat; replace HB := am_ (hb); have HO459 := am_ (ho); clear HO456 ho hb hg hat))
   go_ret
   exact ⟨_, rfl, by simpa using HO459.out, qb_⟩
 ·rw [if_neg hl] at h
  exact absurd h (by simp)
end Go.Proofs.Ytfbgkcadnmcakaa.Px
