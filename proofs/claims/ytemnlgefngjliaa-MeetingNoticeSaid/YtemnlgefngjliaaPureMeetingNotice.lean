/- For all terms, meetings and holidays: if a meeting is not called too late, it is not if it is called earlier, or takes place later; by post it is as if called by hand three days later. Conditions: the numbers are those of their types. -/
import Derived.Test.YtemnlgefngjliaaMtF
import Derived.Test.YtemnlgefngjliaaPx36
namespace Go.Proofs.Ytemnlgefngjliaa.Pure
open Go.RowKit Go.Proofs.YtemnlgefngjliaaW.PrintWords Go.Proofs.Ytemnlgefngjliaa.Given Go.Proofs.Ytemnlgefngjliaa.Px Go.Proofs.Ytemnlgefngjliaa.Meet
open Go.Proofs.Ytemnlgefngjliaa.Cal (nextW nextW_is nextW_mono holB holB_true HolOK deadlineOf postI workingOf rh_ev)
set_option linter.unusedVariables false
set_option linter.unusedSimpArgs false
theorem b0w {l : List Int} (h : holB l = true) : (workingOf 0 l).2 = 0 := by
  unfold workingOf
  rw [if_pos (by decide), h, if_pos rfl]
theorem b6i {day days how : Int} {l : List Int} (h1 : 0 ≤ day) (h2 : day ≤ 36524) (h3 : 0 ≤ days) (h4 : days ≤ 1000) (h5 : how = 1 ∨ how = 2) (hh : holB l = true) :
    deadlineOf day days how l = if nextW l (day + days + postI how) ≤ 36524 then (nextW l (day + days + postI how), 0) else (0, 3) := by
  unfold deadlineOf
  rw [if_pos ⟨h1, h2⟩, if_pos ⟨h3, h4, h5, hh⟩]
theorem b3u {day days how m2 : Int} {l : List Int} (h1 : 0 ≤ day) (h2 : day ≤ 36524) (h3 : 0 ≤ days) (h4 : days ≤ 1000) (h5 : how = 1 ∨ how = 2) (hh : holB l = true) (h6 : m2 ≤ 36524) :
    a6k days day how m2 l = decide (m2 < nextW l (day + days + postI how)) := by
  unfold a6k
  rw [b6i h1 h2 h3 h4 h5 hh]
  by_cases c : nextW l (day + days + postI how) ≤ 36524
  · rw [if_pos c, if_pos rfl]
  · rw [if_neg c, if_neg (by simp), decide_eq_true (by omega)]
theorem a7r {a b c d : Int} (h : a4w a b c d = true) : 0 ≤ a ∧ a ≤ 1000 := by
  unfold a4w at h
  rw [Bool.and_eq_true] at h
  exact of_decide_eq_true h.1
section
variable (t0 t1 t2 t3 : Int) (t4 : Bool) (m0 m1 m2 : Int) (ag : List ByteArray) (vs : List S43) (here : List Int) (act : ByteArray) (hol : List Int)
theorem a5l : a4h m0 m1 m2 ag vs here = true ↔ ((0 ≤ m0 ∧ m0 ≤ 36524) ∧ (m0 ≤ m2 ∧ m2 ≤ 36524) ∧ (1 ≤ m1 ∧ m1 ≤ 2)) ∧ (agB ag && (a4c vs && hB vs here here.length 0)) = true := by
  unfold a4h
  rw [Bool.and_eq_true, Bool.and_eq_true, Bool.and_eq_true, decide_eq_true_eq, decide_eq_true_eq, decide_eq_true_eq]
  constructor
  · rintro ⟨a, b, c, d⟩; exact ⟨⟨a, b, c⟩, d⟩
  · rintro ⟨⟨a, b, c⟩, d⟩; exact ⟨a, b, c, d⟩
theorem a7d (hf : Small ag ∧ ag.length ≤ 30 ∧ vs.length ≤ 70 ∧ here.length ≤ 70) (ht : a4w t0 t1 t2 t3 = true) (hv : a4h m0 m1 m2 ag vs here = true) (hn : a4m act = true) (hh : holB hol = true) :
    Ev (fun k => a1p.f k t0 t1 t2 t3 t4 m0 m1 m2 ag vs here act hol 1) (decide (m2 < nextW hol (m0 + t0 + postI m1)), true) := by
  have hk := holB_true.mp hh
  have h := b4v t0 t1 t2 t3 t4 m0 m1 m2 ag vs here act hol hf.1 (by omega) (by omega) (by omega) (by have := hk.1; omega) (by have := b1l hn; omega) 1
  have e : a5c t0 t1 t2 t3 m0 m1 m2 ag vs here act hol = (a3a (a6k t0 m0 m1 m2 hol) 1 ++ a3a (!hasB ag act) 2 ++ a3a (fewB t1 t2 vs here) 3 ++ a3a (a5k t3 (wgt (fun _ => 1) vs here)) 4, 0) := by
    unfold a5c
    rw [if_pos ⟨b0w hh, ht, hv, hn⟩]
  have hn' := a7r ht
  have hv' := ((a5l _ _ _ _ _ _).mp hv).1
  rw [e] at h
  have q : decide ((1 : Int) ∈ (a3a (a6k t0 m0 m1 m2 hol) 1 ++ a3a (!hasB ag act) 2 ++ a3a (fewB t1 t2 vs here) 3 ++ a3a (a5k t3 (wgt (fun _ => 1) vs here)) 4)) = decide (m2 < nextW hol (m0 + t0 + postI m1)) := by
    rw [← b3u hv'.1.1 hv'.1.2 hn'.1 hn'.2 (by omega) hh hv'.2.1.2, Bool.eq_iff_iff, decide_eq_true_eq, List.mem_append, List.mem_append, List.mem_append, a6m, a6m, a6m, a6m]
    simp
  dsimp only at h
  rw [q] at h
  exact h
theorem b3d (early later : Int) (he : 0 ≤ early ∧ early ≤ 255) (hl : 0 ≤ later ∧ later ≤ 255) (hf : Small ag ∧ ag.length ≤ 30 ∧ vs.length ≤ 70 ∧ here.length ≤ 70) (ht : a4w t0 t1 t2 t3 = true) (hv : a4h m0 m1 m2 ag vs here = true) (hn : a4m act = true) (hh : holB hol = true) :
    Ev (fun k => a0b.j0 k act hol early later true false t0 t1 t2 t3 t4 m0 m1 m2 ag vs here) true := by
  have hk := holB_true.mp hh
  obtain ⟨⟨⟨v0, v1⟩, ⟨v2, v3⟩, v4, v5⟩, v6⟩ := (a5l _ _ _ _ _ _).mp hv
  have hn' := a7r ht
  have c0 : 0 ≤ mx 0 (wrap64 (m0 - wrap64 early)) ∧ mx 0 (wrap64 (m0 - wrap64 early)) ≤ m0 := by
    rw [w64 (x := early) (by omega) (by omega), w64 (by omega) (by omega)]
    unfold mx
    split <;> omega
  have c1 : m2 ≤ mn 36524 (wrap64 (m2 + wrap64 later)) ∧ mn 36524 (wrap64 (m2 + wrap64 later)) ≤ 36524 := by
    rw [w64 (x := later) (by omega) (by omega), w64 (by omega) (by omega)]
    unfold mn
    split <;> omega
  have hv1 : a4h (mx 0 (wrap64 (m0 - wrap64 early))) m1 (mn 36524 (wrap64 (m2 + wrap64 later))) ag vs here = true := (a5l _ _ _ _ _ _).mpr ⟨⟨⟨c0.1, by omega⟩, ⟨by omega, c1.2⟩, v4, v5⟩, v6⟩
  have hv2 : a4h m0 2 m2 ag vs here = true := (a5l _ _ _ _ _ _).mpr ⟨⟨⟨v0, v1⟩, ⟨v2, v3⟩, by omega, by omega⟩, v6⟩
  obtain ⟨K1, hK1⟩ := a7d t0 t1 t2 t3 t4 m0 m1 m2 ag vs here act hol hf ht hv hn hh
  obtain ⟨K2, hK2⟩ := a7d t0 t1 t2 t3 t4 _ m1 _ ag vs here act hol hf ht hv1 hn hh
  obtain ⟨K3, hK3⟩ := a7d t0 t1 t2 t3 t4 m0 2 m2 ag vs here act hol hf ht hv2 hn hh
  dsimp only at hK1 hK2 hK3
  have p2 : postI 2 = 3 := rfl
  have p1 : postI 1 = 0 := rfl
  have hj1 : Ev (fun k => a0b.j1 k act hol true false t0 t1 t2 t3 t4 m0 m1 m2 ag vs here) true := by
    by_cases c : m0 + 3 > m2
    · have hx : m2 < nextW hol (m0 + t0 + postI 2) := by
        have := (nextW_is hk (m0 + t0 + postI 2)).1.le
        rw [p2] at this ⊢
        omega
      refine evUp K3 fun k hkk => ?_
      rw [a0b.j1, if_neg (by simp), hK3 k hkk, Option.bind_some, w64 (by omega) (by omega), if_pos c, if_pos rfl, if_pos rfl, decide_eq_true hx]
    · have hv3 : a4h (m0 + 3) 1 m2 ag vs here = true := (a5l _ _ _ _ _ _).mpr ⟨⟨⟨by omega, by omega⟩, ⟨by omega, v3⟩, by omega, by omega⟩, v6⟩
      obtain ⟨K4, hK4⟩ := a7d t0 t1 t2 t3 t4 (m0 + 3) 1 m2 ag vs here act hol hf ht hv3 hn hh
      dsimp only at hK4
      refine evUp (K3 + K4) fun k hkk => ?_
      rw [a0b.j1, if_neg (by simp), hK3 k (by omega), Option.bind_some, w64 (by omega) (by omega), if_neg c, hK4 k (by omega), Option.bind_some, if_pos rfl, if_pos rfl, if_pos rfl, p1, p2, show m0 + 3 + t0 + 0 = m0 + t0 + 3 by omega]
      simp
  obtain ⟨K, hK⟩ := hj1
  dsimp only at hK
  refine evUp (K1 + K2 + K) fun k hkk => ?_
  rw [a0b.j0, if_neg (by simp), hK1 k (by omega), Option.bind_some, hK2 k (by omega), Option.bind_some, if_pos rfl, if_pos rfl]
  by_cases c : m2 < nextW hol (m0 + t0 + postI m1)
  · rw [decide_eq_true c, if_pos rfl]
    exact hK k (by omega)
  · have hmono := nextW_mono hk (d := mx 0 (wrap64 (m0 - wrap64 early)) + t0 + postI m1) (d' := m0 + t0 + postI m1) (by omega)
    rw [decide_eq_false c, if_neg (by simp), decide_eq_false (by omega)]
    exact hK k (by omega)
theorem MeetingNotice (early later : Int) (hp : -9223372036854775808 ≤ t1) (hp2 : t1 ≤ 9223372036854775807) (hq2 : t2 ≤ 9223372036854775807) (he0 : 0 ≤ early) (he1 : early ≤ 255) (hl0 : 0 ≤ later) (hl1 : later ≤ 255) :
    Ev (fun k => a0b.f k t0 t1 t2 t3 t4 m0 m1 m2 ag vs here act hol early later) true := by
  obtain ⟨K1, hK1⟩ := b4m
  obtain ⟨r, hr, K2, hK2⟩ := b3c t0 t1 t2 t3 t4 m0 m1 m2 ag vs here hp hp2 hq2
  obtain ⟨K3, hK3⟩ := b1b act
  dsimp only at hK1 hK2 hK3
  have jt : ∀ k, a0b.j0 (k + 1) act hol early later true true t0 t1 t2 t3 t4 m0 m1 m2 ag vs here = some true := fun k => by
    rw [a0b.j0, if_pos rfl]
  by_cases c1 : r = true
  · obtain ⟨hf, ht, hv⟩ := hr c1
    by_cases c2 : a4m act = true
    · by_cases c3 : (hol.length : Int) > 150
      · refine evUp (K1 + K2 + K3) fun k hk => ?_
        unfold a0b.f
        rw [hK1 (k + 1) (by omega), Option.bind_some, hK2 (k + 1) (by omega), Option.bind_some, if_pos c1, hK3 (k + 1) (by omega), Option.bind_some, if_pos c2, if_pos c3, jt]
      · obtain ⟨K4, hK4⟩ := rh_ev hol (by omega)
        dsimp only at hK4
        by_cases c4 : holB hol = true
        · obtain ⟨K5, hK5⟩ := b3d t0 t1 t2 t3 t4 m0 m1 m2 ag vs here act hol early later ⟨he0, he1⟩ ⟨hl0, hl1⟩ hf ht hv c2 c4
          dsimp only at hK5
          refine evUp (K1 + K2 + K3 + K4 + K5) fun k hk => ?_
          unfold a0b.f
          rw [hK1 (k + 1) (by omega), Option.bind_some, hK2 (k + 1) (by omega), Option.bind_some, if_pos c1, hK3 (k + 1) (by omega), Option.bind_some, if_pos c2, if_neg c3, hK4 (k + 1) (by omega), Option.bind_some, c4]
          exact hK5 (k + 1) (by omega)
        · refine evUp (K1 + K2 + K3 + K4) fun k hk => ?_
          unfold a0b.f
          rw [hK1 (k + 1) (by omega), Option.bind_some, hK2 (k + 1) (by omega), Option.bind_some, if_pos c1, hK3 (k + 1) (by omega), Option.bind_some, if_pos c2, if_neg c3, hK4 (k + 1) (by omega), Option.bind_some, Bool.eq_false_iff.mpr c4]
          exact jt k
    · refine evUp (K1 + K2 + K3) fun k hk => ?_
      unfold a0b.f
      rw [hK1 (k + 1) (by omega), Option.bind_some, hK2 (k + 1) (by omega), Option.bind_some, if_pos c1, hK3 (k + 1) (by omega), Option.bind_some, if_neg c2, jt]
  · refine evUp (K1 + K2) fun k hk => ?_
    unfold a0b.f
    rw [hK1 (k + 1) (by omega), Option.bind_some, hK2 (k + 1) (by omega), Option.bind_some, if_neg c1, jt]
end
end Go.Proofs.Ytemnlgefngjliaa.Pure
