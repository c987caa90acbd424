/- The plan of the first jobs alone is the beginning of the plan of all. Conditions: the day lies within 0 and 65535, the number within 0 and 255. -/
import Derived.Test.YtheibjkjmkanoaaWkJ
import Derived.Test.YtheibjkjmkanoaaPx36
import Derived.Test.YtheibjkjmkanoaaWkA
import Derived.Test.YtheibjkjmkanoaaWkB
import Derived.Test.YtheibjkjmkanoaaWkC
import Derived.Test.YtheibjkjmkanoaaWkD
namespace Go.Proofs.Ytheibjkjmkanoaa.Pure
open Go.RowKit Go.Proofs.YtheibjkjmkanoaaW.PrintWords Go.Proofs.YtheibjkjmkanoaaW.PrintMore Go.Proofs.Ytheibjkjmkanoaa.Given Go.Proofs.Ytheibjkjmkanoaa.Px Go.Proofs.Ytheibjkjmkanoaa.Wk
set_option linter.unusedVariables false
set_option linter.unusedSimpArgs false
theorem a6d (l : List S51) (n : Nat) {q : Int} (q0 : 0 ≤ q) (q1 : q < n) : a0a (l.take n) q = a0a l q := by
 unfold a0a
 rw [List.getD_eq_getElem?_getD, List.getD_eq_getElem?_getD, List.getElem?_take, if_pos (by omega)]
theorem b5b {j : List S51} {t : List S58} (hv : vaP j t) (n : Nat) : vaP (j.take n) t := by
 refine ⟨hv.1, by rw [List.length_take]; have := hv.2.1; omega, hv.2.2.1, fun i i0 i1 => ?_⟩
 rw [List.length_take] at i1
 have h := hv.2.2.2 i i0 (by omega)
 unfold joOk at h ⊢
 rw [a6d j n i0 (by omega)]
 refine ⟨h.1, h.2.1, fun p => ?_, h.2.2.2.1, h.2.2.2.2.1, h.2.2.2.2.2.1, h.2.2.2.2.2.2.1, h.2.2.2.2.2.2.2.1, h.2.2.2.2.2.2.2.2.1, fun a a0 a1 => ?_⟩
 ·rw [a6d j n (by omega) (by omega)]
  exact h.2.2.1 p
 ·obtain ⟨p, p0, p1, e⟩ := h.2.2.2.2.2.2.2.2.2 a a0 a1
  exact ⟨p, p0, p1, by rw [a6d j n p0 (by omega)]; exact e⟩
theorem b9i {j : List S51} {t : List S58} (hb : bdP j t) (n : Nat) : bdP (j.take n) t := by
 refine ⟨by rw [List.length_take]; have := hb.1; omega, hb.2.1, fun i i0 i1 => ?_, hb.2.2.2⟩
 rw [List.length_take] at i1
 rw [a6d j n i0 (by omega)]
 exact hb.2.2.1 i i0 (by omega)
theorem b9j (j : List S51) (n : Nat) {q : Int} (q0 : 0 ≤ q) (q1 : q < n) : jid (j.take n) q = jid j q := by
 unfold jid
 rw [a6d j n q0 q1]
end Go.Proofs.Ytheibjkjmkanoaa.Pure
/- No job of a plan could begin earlier, and the plan of the first jobs is right. Conditions: the three numbers lie within 0 and 65535. -/
namespace Go.Proofs.Ytheibjkjmkanoaa.Pure
open Go.RowKit Go.Proofs.YtheibjkjmkanoaaW.PrintWords Go.Proofs.YtheibjkjmkanoaaW.PrintMore Go.Proofs.Ytheibjkjmkanoaa.Given Go.Proofs.Ytheibjkjmkanoaa.Px Go.Proofs.Ytheibjkjmkanoaa.Wk
set_option linter.unusedVariables false
set_option linter.unusedSimpArgs false
theorem b6a {j : List S51} {f : List S42} {l : List Int} {day x : Int} (h : day ≤ x) : ∀ n : Nat, (∀ q : Nat, q < n → (a0b f (a1z (atM j) (rd l (q : Int)))).f2 ≤ x) → lowN j f l day n ≤ x
 | 0, _ => h
 | n + 1, hq => by
  have ih := b6a h n fun q hh => hq q (by omega)
  have := hq n (by omega)
  rw [lowN, c1x]
  split
  ·exact this
  ·exact ih
theorem after_take {j : List S51} {t : List S58} (hv : vaP j t) {n : Nat} (hn : n ≤ j.length) {i : Int} (i0 : 0 ≤ i) (i1 : i < n) {a : Int} (a0 : 0 ≤ a) (a1 : a < (a0a j i).f3.length) :
  a1z (atM (j.take n)) (rd (a0a j i).f3 a) = a1z (atM j) (rd (a0a j i).f3 a) := by
 obtain ⟨p, p0, p1, e⟩ := (hv.2.2.2 i i0 (by omega)).2.2.2.2.2.2.2.2.2 a a0 a1
 have e1 : a1z (atM j) (jid j p) = p := b2h hv p0 (by omega)
 have e2 : a1z (atM (j.take n)) (jid (j.take n) p) = p := b2h (b5b hv n) p0 (by rw [List.length_take]; omega)
 rw [b9j j n p0 (by omega)] at e2
 have e' : jid j p = rd (a0a j i).f3 a := e
 rw [e'] at e1 e2
 rw [e1, e2]
theorem b9k {j : List S51} {t : List S58} {l : List S42} (ok : okP j t l) {n : Nat} (hn : n ≤ j.length) : okP (j.take n) t (l.take n) := by
 obtain ⟨hv, hm, hc⟩ := ok
 have ll := hm.1
 refine ⟨b5b hv n, ⟨by rw [List.length_take, List.length_take, ll], fun i i0 i1 => ?_⟩, fun i i0 i1 => ?_⟩
 ·rw [List.length_take] at i1
  rw [a6l l n i0 (by omega), a6d j n i0 (by omega)]
  exact hm.2 i i0 (by omega)
 ·rw [List.length_take] at i1
  have il : i < j.length := by omega
  obtain ⟨r1, r2, r3, r4⟩ := hc i i0 il
  refine ⟨?_, ?_, ?_, ?_⟩
  ·unfold raG at r1 ⊢
   rw [a6l l n i0 (by omega), a6d j n i0 (by omega)]
   exact r1
  ·unfold suG at r2 ⊢
   rw [a6l l n i0 (by omega), a6d j n i0 (by omega)]
   exact r2
  ·intro a a0 a1
   rw [a6d j n i0 (by omega)] at a1 ⊢
   rw [after_take hv hn i0 (by omega) a0 a1, a6l l n i0 (by omega)]
   obtain ⟨g0, g1, _⟩ := after_at hv i0 il a0 a1
   rw [a6l l n g0 (by omega)]
   exact r3 a a0 a1
  ·intro ⟨k, k0, k1, c1, c2, c3, c4, c5⟩
   rw [a6l l n i0 (by omega)] at c2 c3
   rw [List.take_take, List.length_take] at k1
   have hk : k < i := by omega
   have e1 : a0b ((l.take n).take i.toNat) k = a0b l k := by rw [a6l _ _ k0 (by omega), a6l l n k0 (by omega)]
   rw [e1] at c1 c2 c3
   rw [a6d j n i0 (by omega), a6d j n k0 (by omega)] at c5
   refine r4 ⟨k, k0, by rw [List.length_take]; omega, ?_⟩
   unfold clA
   rw [a6l l i.toNat k0 (by omega)]
   exact ⟨c1, c2, c3, c4, c5⟩
theorem b8n {j : List S51} {t : List S58} {day : Int} (h : (a4y j t day).2 = 0) {c : Nat} (hc : c < j.length) {s' : Int} (s0 : day ≤ s') (s1 : s' < (a0b (a4y j t day).1 (c : Int)).f1) {M : List S42} (ml : M.length = c + 1)
  (m1 : ∀ q : Int, 0 ≤ q → q < c → a0b M q = a0b (a4y j t day).1 q) (m2 : (a0b M (c : Int)).f1 = s') : ¬ okP (j.take (c + 1)) t M := by
 obtain ⟨hv, d0, d1, hr⟩ := b5a h
 generalize hP : (a4y j t day).1 = P at *
 intro ⟨_, hm, hck⟩
 unfold b0w at hr
 obtain ⟨⟨hl, _⟩, hat⟩ := b5z hv d0 (by omega) j.length 0 _ P (Int.le_refl _) (by omega) List.length_replicate (b3e j) hr
 obtain ⟨x, s, hmid, hfx, hpl, er⟩ := hat (c : Int) (by omega) (by rw [List.length_replicate]; omega) (by rw [a9t]; decide)
 have xl : x.length = j.length := by rw [hmid.1, List.length_replicate]
 have x1 : ∀ q : Int, 0 ≤ q → q < c → a0b x q = a0b P q := fun q q0 q1 => (hmid.2 q q0 (by rw [List.length_replicate]; omega)).1 (.inl q1)
 have x2 : ∀ q : Int, (c : Int) ≤ q → q < j.length → ¬ 0 < (a0b x q).f2 := fun q q0 q1 => by
  rw [(hmid.2 q (by omega) (by rw [List.length_replicate]; exact q1)).2 (by rw [a9t]; exact fun h => h.elim (fun h => by omega) (fun h => absurd h (by decide))), a9t]
  decide
 have es : (a0b P (c : Int)).f1 = s := by rw [er]
 rw [es] at s1
 have n1 : c + 1 ≤ j.length := by omega
 obtain ⟨r1, r2, r3, r4⟩ := hck (c : Int) (by omega) (by rw [List.length_take]; omega)
 unfold raG at r1
 unfold suG at r2
 rw [a6d j (c + 1) (by omega) (by omega)] at r1 r2
 have e2 := r1.2.2
 rw [m2] at e2 r2 r4
 rw [e2] at r2 r4
 have low : lowF j x (c : Int) day ≤ s' := by
  refine b6a s0 _ fun q hq => ?_
  obtain ⟨g0, g1, _⟩ := after_at hv (i := (c : Int)) (by omega) (by omega) (a := (q : Int)) (by omega) (by omega)
  have := r3 (q : Int) (by omega) (by rw [a6d j (c + 1) (by omega) (by omega)]; omega)
  rw [a6d j (c + 1) (by omega) (by omega), after_take hv n1 (by omega) (by omega) (by omega) (by omega), m2, m1 _ g0 g1] at this
  rw [x1 _ g0 g1]
  exact this
 refine hpl.2.2 s' low s1 ⟨r2, fun ⟨k, k0, k1, c1, c2, c3, c4, c5⟩ => ?_⟩
 have hk : k < c := by
  by_cases z : k < c
  ·exact z
  ·exact absurd c1 (x2 k (by omega) (by omega))
 rw [x1 k k0 hk, ← m1 k k0 hk] at c1 c2 c3
 refine r4 ⟨k, k0, by rw [List.length_take]; omega, ?_⟩
 unfold clA
 rw [a6l M (c : Int).toNat k0 (by omega), a6d j (c + 1) (by omega) (by omega), a6d j (c + 1) k0 (by omega)]
 exact ⟨c1, c2, c3, c4, c5⟩
theorem tm_i {b : Int} {n : Nat} (b0 : 0 ≤ b) (b1 : b ≤ 255) (n0 : 0 < n) : ∃ i : Nat, Aside0 (Int.tmod (wrap64 b) (n : Int) = (i : Int)) ∧ (i : Int) < (n : Int) := by
 have h : wrap64 b = b := w64 (by omega) (by omega)
 have n1 : (0 : Int) < (n : Int) := by omega
 have q := Int.emod_lt_of_pos b n1
 have p : 0 ≤ b % (n : Int) := Int.emod_nonneg _ (Int.ne_of_gt n1)
 refine ⟨(b % (n : Int)).toNat, ⟨?_⟩, ?_⟩
 ·rw [h, Int.tmod_eq_emod_of_nonneg b0, Int.toNat_of_nonneg p]
 ·rw [Int.toNat_of_nonneg p]
  exact q
theorem tm_e {c x y : Int} (c0 : 0 ≤ c) (c1 : c ≤ 65535) (xy : y < x) (y0 : 0 ≤ y) (x1 : x ≤ 1000000000) : ∃ e : Int, Aside0 (wrap64 (1 + Int.tmod (wrap64 c) (wrap64 (x - y))) = e) ∧ 1 ≤ e ∧ e ≤ x - y := by
 have h : wrap64 c = c := w64 (by omega) (by omega)
 have h2 : wrap64 (x - y) = x - y := w64 (by omega) (by omega)
 have n1 : 0 < x - y := by omega
 have q := Int.emod_lt_of_pos c n1
 have p : 0 ≤ c % (x - y) := Int.emod_nonneg _ (Int.ne_of_gt n1)
 rw [h, h2, Int.tmod_eq_emod_of_nonneg c0]
 generalize c % (x - y) = z at p q
 refine ⟨1 + z, ⟨w64 (by omega) (by omega)⟩, by omega, by omega⟩
set_option maxHeartbeats 1000000 in
theorem WorksEarly (j : List S51) (t : List S58) (a b c : Int) (h0 : 0 ≤ a) (h1 : a ≤ 65535) (b0 : 0 ≤ b) (b1 : b ≤ 255) (c0 : 0 ≤ c) (c1 : c ≤ 65535) : Ev (fun k => a0d.f k j t a b c) true := by
 obtain ⟨K0, g0⟩ := c0v
 obtain ⟨u, ⟨K1, g1⟩, hu⟩ := b8m j t
 dsimp only at g0 g1
 have no : ∀ k, a0d.j0 (k + 1) j t a b c true true = some true := fun k => by rw [a0d.j0, if_pos rfl]
 by_cases cu : u = true
 ·obtain ⟨hf, hv⟩ := hu.1 cu
  by_cases cl : j.length = 0
  ·refine ⟨K0 + K1 + 1, fun k hk => ?_⟩
   obtain ⟨k, rfl⟩ : ∃ z, k = z + 1 := ⟨k - 1, by omega⟩
   try dsimp only
   unfold a0d.f
   rw [g0 _ (by omega), Option.bind_some, g1 _ (by omega), Option.bind_some, if_pos cu, cl]
   exact no k
  have hb := b8g hf
  have hj := hv.2.1
  have hday := c2q h0 h1
  have cl' : ((j.length : Int) == 0) = false := by
   rw [beq_eq_false_iff_ne]
   omega
  suffices hE : Ev (fun k => a0d.j0 k j t a b c true false) true by
   obtain ⟨K2, g2⟩ := hE
   dsimp only at g2
   refine ⟨K0 + K1 + K2, fun k hk => ?_⟩
   try dsimp only
   unfold a0d.f
   rw [g0 _ (by omega), Option.bind_some, g1 _ (by omega), Option.bind_some, if_pos cu, cl']
   exact g2 k (by omega)
  obtain ⟨K2, g2⟩ := c1d j t hb (onF a)
  dsimp only at g2
  by_cases c2 : (a4y j t (onF a)).2 = 0
  ·obtain ⟨ok, len, low⟩ := b7a c2
   have ln : ((a4y j t (onF a)).1.length : Int) = (j.length : Int) := by omega
   obtain ⟨i, w1, il⟩ := tm_i b0 b1 (n := j.length) (by omega)
   have lo := low (i : Int) (by omega) il
   obtain ⟨q1, q2, q3, q4⟩ := ok_b ok (i := (i : Int)) (by omega) il
   have rg := (ok.2.2 (i : Int) (by omega) il).1
   have w2 : Aside0 (wrap64 ((i : Int) + 1) = ((i + 1 : Nat) : Int)) := ⟨by rw [w64 (by omega) (by omega)]; omega⟩
   obtain ⟨K3, g3⟩ : Ev (fun k => a0d.j1 k j t a c true (a4y j t (onF a)).1 (i : Int) false) true := by
    by_cases c3 : (a0b (a4y j t (onF a)).1 (i : Int)).f1 = onF a
    ·refine evUp 0 fun k hk => ?_
     try dsimp only
     rw [a0d.j1, if_neg (by decide), if_pos (by omega), if_pos (by omega), on_f, Option.bind_some, if_pos c3]
    ·have w3 : Aside0 (wrap64 ((a0b (a4y j t (onF a)).1 (i : Int)).f1 - onF a) = (a0b (a4y j t (onF a)).1 (i : Int)).f1 - onF a) := ⟨w64 (by have := rg.2.1; omega) (by have := rg.2.1; omega)⟩
     obtain ⟨e, w4, e0, e1⟩ := tm_e (c := c) (x := (a0b (a4y j t (onF a)).1 (i : Int)).f1) (y := onF a) c0 c1 (by omega) (by omega) (by have := rg.2.1; omega)
     have hb' := b9i hb (i + 1)
     have ok' := b9k ok (n := i + 1) (by omega)
     have tl : ((a4y j t (onF a)).1.take (i + 1)).length = i + 1 := by rw [List.length_take]; omega
     have ti : a0b ((a4y j t (onF a)).1.take (i + 1)) (i : Int) = a0b (a4y j t (onF a)).1 (i : Int) := a6l _ _ (by omega) (by omega)
     obtain ⟨Y, hY⟩ : ∃ Y, Y = ((a4y j t (onF a)).1.take (i + 1)).set (i : Int).toNat (⟨(a0b ((a4y j t (onF a)).1.take (i + 1)) (i : Int)).f0, wrap64 ((a0b ((a4y j t (onF a)).1.take (i + 1)) (i : Int)).f1 - e), (a0b ((a4y j t (onF a)).1.take (i + 1)) (i : Int)).f2⟩ : S42) := ⟨_, rfl⟩
     obtain ⟨Z, hZ⟩ : ∃ Z, Z = Y.set (i : Int).toNat (⟨(a0b Y (i : Int)).f0, (a0b Y (i : Int)).f1, wrap64 ((a0b Y (i : Int)).f2 - e)⟩ : S42) := ⟨_, rfl⟩
     have Yl : Y.length = i + 1 := by rw [hY, List.length_set, tl]
     have Zl : Z.length = i + 1 := by rw [hZ, List.length_set, Yl]
     have Yi : (a0b Y (i : Int)).f1 = (a0b (a4y j t (onF a)).1 (i : Int)).f1 - e := by
      rw [hY, a9s _ (by omega) (by omega) _ (by omega), if_pos rfl]
      dsimp only
      rw [ti, w64 (by have := rg.2.1; omega) (by have := rg.2.1; omega)]
     obtain ⟨r, ⟨K4, g4⟩, hr⟩ := b4z (j.take (i + 1)) t hb' Z
     obtain ⟨K5, g5⟩ := b9h hb' ok'
     dsimp only at g4 g5
     have rne : r ≠ 0 := fun z => by
      rw [z] at hr
      refine b8n c2 (c := i) (by omega) (s' := (a0b (a4y j t (onF a)).1 (i : Int)).f1 - e) (by omega) (by omega) Zl (fun q q0 q1 => ?_) ?_ (b9f hr)
      ·rw [hZ, a9s _ (by omega) (by omega) _ q0, if_neg (by omega), hY, a9s _ (by omega) (by omega) _ q0, if_neg (by omega), a6l _ _ q0 (by omega)]
      ·rw [hZ, a9s _ (by omega) (by omega) _ (by omega), if_pos rfl]
       exact Yi
     refine ⟨K4 + K5 + 1, fun k hk => ?_⟩
     obtain ⟨k, rfl⟩ : ∃ z, k = z + 1 := ⟨k - 1, by omega⟩
     try dsimp only
     rw [a0d.j1, if_neg (by decide), if_pos (by omega), if_pos (by omega), on_f, Option.bind_some, if_neg c3, Option.bind_some, if_neg (by rw [w3.out]; omega), Option.bind_some, w2.out, if_pos (by omega), if_pos (by omega), Option.bind_some, Int.toNat_natCast,
      if_pos (by rw [tl, List.length_nil]; omega), Option.bind_some, List.nil_append, if_pos (by rw [tl]; omega), w4.out, Option.bind_some, if_pos rfl, if_pos (by omega), ← hY, ← hZ, g4 _ (by omega), Option.bind_some, if_neg rne, g5 _ (by omega), Option.bind_some]
     rfl
   dsimp only at g3
   refine ⟨K2 + K3 + 1, fun k hk => ?_⟩
   obtain ⟨k, rfl⟩ : ∃ z, k = z + 1 := ⟨k - 1, by omega⟩
   try dsimp only
   rw [a0d.j0, if_neg (by decide), on_f, Option.bind_some, g2 _ (by omega), Option.bind_some, if_pos c2, if_neg (by omega), if_pos ln, w1.out, if_pos (by omega), if_pos (by omega), Option.bind_some, decide_eq_false (by omega)]
   exact g3 k (by omega)
  ·refine evUp K2 fun k hk => ?_
   try dsimp only
   rw [a0d.j0, if_neg (by decide), on_f, Option.bind_some, g2 _ (by omega), Option.bind_some, if_neg c2]
 ·refine ⟨K0 + K1 + 1, fun k hk => ?_⟩
  obtain ⟨k, rfl⟩ : ∃ z, k = z + 1 := ⟨k - 1, by omega⟩
  try dsimp only
  unfold a0d.f
  rw [g0 _ (by omega), Option.bind_some, g1 _ (by omega), Option.bind_some, if_neg cu]
  exact no k
end Go.Proofs.Ytheibjkjmkanoaa.Pure
