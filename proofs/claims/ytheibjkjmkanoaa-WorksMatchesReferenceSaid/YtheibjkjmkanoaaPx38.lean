/- Jobs are planned anew: what works and its reference do. Conditions: as each theorem states. -/
import Derived.Test.YtheibjkjmkanoaaWkE
import Derived.Test.YtheibjkjmkanoaaPx16
import Derived.Test.YtheibjkjmkanoaaPx31
import Derived.Test.YtheibjkjmkanoaaPx30
import Derived.Test.YtheibjkjmkanoaaPx0
import Derived.Test.YtheibjkjmkanoaaPx11
import Derived.Test.YtheibjkjmkanoaaPx20
import Derived.Test.YtheibjkjmkanoaaPx22
import Derived.Test.YtheibjkjmkanoaaPx34
namespace Go.Proofs.Ytheibjkjmkanoaa.Wk
open Go.RowKit Go.Proofs.YtheibjkjmkanoaaW.PrintWords Go.Proofs.YtheibjkjmkanoaaW.PrintMore Go.Proofs.Ytheibjkjmkanoaa.Given Go.Proofs.Ytheibjkjmkanoaa.Px
set_option linter.unusedVariables false
set_option linter.unusedSimpArgs false
def a8l (j : List S51) (old : List S42) (day : Int) (missed : List Int) (f : List S42) (i : Int) : Prop :=
 (a0b old i).f1 < day ∧ ¬ inP missed (jid j i) ∧ ∀ a : Int,0 ≤ a → a < (a0a j i).f3.length → 0 < (a0b f (a2j (atM j) (rd (a0a j i).f3 a))).f2
open Classical in
noncomputable def kpN (j : List S51) (old : List S42) (day : Int) (missed : List Int) : Nat → List S42
 | 0 => List.replicate j.length z42
 | n + 1 => if a8l j old day missed (kpN j old day missed n) (n : Int) then (kpN j old day missed n).set n (a0b old (n : Int)) else kpN j old day missed n
noncomputable def kept (j : List S51) (old : List S42) (day : Int) (missed : List Int) : List S42 := kpN j old day missed j.length
def okP (j : List S51) (t : List S58) (l : List S42) : Prop := vaP j t ∧ maP j l ∧ ∀ i : Int,0 ≤ i → i < j.length → ckG j t l i
theorem a7u (j : List S51) (old : List S42) (day : Int) (missed : List Int) : ∀ n,(kpN j old day missed n).length = j.length
 | 0 => List.length_replicate
 | n + 1 => by
  rw [kpN]
  split
  ·rw [List.length_set,a7u j old day missed n]
  exact a7u j old day missed n
theorem b3m (j : List S51) (old : List S42) (day : Int) (missed : List Int) : ∀ n : Nat,n ≤ j.length → ∀ k : Int,0 ≤ k →
  (k < n ∧ a8l j old day missed (kpN j old day missed k.toNat) k ∧ a0b (kpN j old day missed n) k = a0b old k) ∨ ((n ≤ k ∨ ¬ a8l j old day missed (kpN j old day missed k.toNat) k) ∧ a0b (kpN j old day missed n) k = z42)
 | 0,_,k,k0 => .inr ⟨.inl (by omega),b8q⟩
 | n + 1,h,k,k0 => by
  have ih := b3m j old day missed n (by omega) k k0
  have hl := a7u j old day missed n
  by_cases c : a8l j old day missed (kpN j old day missed n) (n : Int)
  rotate_left
  ·rw [kpN,if_neg c]
   rcases ih with ⟨h1,h2,h3⟩ | ⟨h1,h2⟩
   ·exact .inl ⟨by omega,h2,h3⟩
   refine .inr ⟨?_,h2⟩
   rcases h1 with h1 | h1
   ·by_cases d : k = (n : Int)
    ·refine .inr ?_
     rw [d,Int.toNat_natCast]
     exact c
    exact .inl (by omega)
   exact .inr h1
  rw [kpN,if_pos c]
  have e : a0b ((kpN j old day missed n).set n (a0b old (n : Int))) k = if k = (n : Int) then a0b old (n : Int) else a0b (kpN j old day missed n) k := by
   have := b5f (kpN j old day missed n) (i := (n : Int)) (by omega) (by omega) (a0b old (n : Int)) k0
   rwa [Int.toNat_natCast] at this
  rw [e]
  by_cases d : k = (n : Int)
  ·rw [if_pos d]
   refine .inl ⟨by omega,?_,by rw [d]⟩
   rw [d,Int.toNat_natCast]
   exact c
  rw [if_neg d]
  rcases ih with ⟨h1,h2,h3⟩ | ⟨h1,h2⟩
  ·exact .inl ⟨by omega,h2,h3⟩
  refine .inr ⟨?_,h2⟩
  rcases h1 with h1 | h1
  ·exact .inl (by omega)
  exact .inr h1
theorem ok_b {j : List S51} {t : List S58} {l : List S42} (h : okP j t l) {i : Int} (i0 : 0 ≤ i) (i1 : i < j.length) : 0 ≤ (a0b l i).f1 ∧ 1 ≤ (a0b l i).f2 ∧ (a0b l i).f2 ≤ 36525 ∧ (a0b l i).f0 = jid j i := by
 obtain ⟨hv,hm,hc⟩ := h
 obtain ⟨⟨c1,c2,c3⟩,c4,_⟩ := hc i i0 i1
 obtain ⟨g1,g2,g3,g4,g5,_⟩ := hv.2.2.2 i i0 i1
 have := b5e (a7n hv i0 i1).1 c4
 exact ⟨c1,by omega,this.2,hm.2 i i0 i1⟩
theorem b6h {j : List S51} {t : List S58} {old : List S42} (h : okP j t old) (day : Int) (missed : List Int) {n : Nat} (hn : n ≤ j.length) : fxP j (kpN j old day missed n) ∧ ∀ k : Int,0 ≤ k → 0 ≤ (a0b (kpN j old day missed n) k).f2 := by
 refine ⟨⟨fun k k0 k1 hk => ?_,fun k k0 k1 => ?_⟩,fun k k0 => ?_⟩
 ·rcases b3m j old day missed n hn k k0 with ⟨a,_,e⟩ | ⟨_,e⟩
  ·rw [e];exact (ok_b h k0 (by omega)).2.2.2
  rw [e] at hk;exact absurd hk (by decide)
 ·rcases b3m j old day missed n hn k k0 with ⟨a,_,e⟩ | ⟨_,e⟩
  ·rw [e];exact (ok_b h k0 (by omega)).2.2.1
  rw [e];decide
 rcases b3m j old day missed n hn k k0 with ⟨a,_,e⟩ | ⟨_,e⟩
 ·rw [e];have := (ok_b h k0 (show k < (j.length : Int) by omega)).2.1;omega
 rw [e];decide
def agP (j : List S51) (t : List S58) (old : List S42) (day : Int) (missed : List Int) : Prop :=
 okP j t old ∧ 0 ≤ day ∧ day ≤ 36524 ∧ riP missed 1 1000 ∧ ∀ a : Int,0 ≤ a → a < missed.length → ∃ n : Int,0 ≤ n ∧ n < j.length ∧ jid j n = rd missed a
open Classical in
noncomputable def a8s (j : List S51) (t : List S58) (old : List S42) (day : Int) (missed : List Int) : List S42 × Int :=
 if agP j t old day missed then encF (a7j j t day (kept j old day missed)) else ([],1)
theorem c3f {j : List S51} {t : List S58} (hv : vaP j t) {f : List S42} (hl : f.length = j.length) {i : Int} (i0 : 0 ≤ i) (i1 : i < j.length) (F : List (Int × List S56)) :
  ∃ r,Ev (fun k => a2s.f k (a0a j i).f3 f j (atM j) F) r ∧ (r = true ↔ ∃ q : Int,0 ≤ q ∧ q < (a0a j i).f3.length ∧ (a0b f (a2j (atM j) (rd (a0a j i).f3 q))).f2 = 0) := by
 have hb := a7t hv i0 i1
 obtain ⟨r,⟨K,hK⟩,hr⟩ := a7r (fun q k => a0p.l0 k (a0a j i).f3 ((a0a j i).f3.length : Int) q (atM j) F f j) (a0a j i).f3.length (by omega) (fun q => (a0b f (a2j (atM j) (rd (a0a j i).f3 q))).f2 = 0)
  (evUp 0 fun k _ => by rw [a0p.l0,if_neg (by omega)])
  (fun q q0 q1 h => by
   obtain ⟨a1,a2,_⟩ := after_at hv i0 i1 q0 q1
   exact evUp 0 fun k _ => by rw [a0p.l0,if_pos (by omega),if_pos q0,if_pos (by omega),a5d.f,if_pos a1,if_pos (by omega),Option.bind_some,if_pos (by rw [beq_iff_eq];exact h)])
  (fun q r q0 q1 h ⟨K,hK⟩ => by
   obtain ⟨a1,a2,_⟩ := after_at hv i0 i1 q0 q1
   exact evUp K fun k hk => by
    rw [a0p.l0,if_pos (by omega),if_pos q0,if_pos (by omega),a5d.f,if_pos a1,if_pos (by omega),Option.bind_some,if_neg (by rw [beq_iff_eq];exact h),w64 (by omega) (by omega)]
    exact hK k hk)
 refine ⟨decide (r ≥ 0),⟨K,fun k hk => ?_⟩,a9a hr⟩
 dsimp only at hK ⊢
 unfold a2s.f a0p.f
 rw [hK k hk,Option.bind_some]
theorem c3g {j : List S51} {t : List S58} {old : List S42} (h : okP j t old) {day : Int} (d0 : 0 ≤ day) (d1 : day ≤ 36524) (missed : List Int) (hmi : (missed.length : Int) ≤ 1000000) :
  ∀ (n : Nat) (i : Int),0 ≤ i → i + n = j.length → Ev (fun k => a0v.l1 k j day missed old (j.length : Int) i (atM j) (a4e t (frM t)) j (kpN j old day missed i.toNat)) (encF (a7j j t day (kept j old day missed))) := by
 have hv := h.1
 have hj := hv.2.1
 have hlen := h.2.1.1
 intro n
 induction n with
 | zero =>
  intro i i0 hi
  obtain ⟨K,hK⟩ := b7m hv d0 (show day ≤ 36525 by omega) (kept j old day missed) (a7u j old day missed _) (b6h h day missed (Nat.le_refl _)).1
  refine evUp K fun k hk => ?_
  dsimp only at hK
  unfold kept at hK
  rw [a0v.l1,if_neg (by omega),show i.toNat = j.length by omega,hK k hk,Option.bind_some]
  rfl
 | succ n ih =>
  intro i i0 hi
  obtain ⟨K,hK⟩ := ih (i + 1) (by omega) (by omega)
  have hl := a7u j old day missed i.toNat
  obtain ⟨s,⟨K1,h1⟩,es⟩ := a8k missed (by omega) (a0b old i).f0
  obtain ⟨u,⟨K2,h2⟩,eu⟩ := c3f hv hl i0 (show i < (j.length : Int) by omega) (a4e t (frM t))
  have e0 : (a0b old i).f0 = jid j i := h.2.1.2 i i0 (by omega)
  have hnn := (b6h h day missed (show i.toNat ≤ j.length by omega)).2
  dsimp only at hK h1 h2
  have nxt : kpN j old day missed (i + 1).toNat = @ite _ (a8l j old day missed (kpN j old day missed i.toNat) i) (Classical.propDecidable _) ((kpN j old day missed i.toNat).set i.toNat (a0b old i)) (kpN j old day missed i.toNat) := by
   rw [show (i + 1).toNat = i.toNat + 1 by omega,kpN,Int.toNat_of_nonneg i0]
  have yes : a8l j old day missed (kpN j old day missed i.toNat) i → ∀ k,K ≤ k → a0v.j3 (k + 1) j day missed i old (j.length : Int) i true (atM j) (a4e t (frM t)) j (kpN j old day missed i.toNat) (a0b old i).f0 (a0b old i).f1 (a0b old i).f2 = some (encF (a7j j t day (kept j old day missed))) := fun hk k hkk => by
   rw [a0v.j3,if_pos rfl,if_pos i0,if_pos (by omega),w64 (by omega) (by omega)]
   have := hK k hkk
   rw [nxt, @if_pos _ (Classical.propDecidable _) hk] at this
   exact this
  have no : ¬ a8l j old day missed (kpN j old day missed i.toNat) i → ∀ k,K ≤ k → a0v.j3 (k + 1) j day missed i old (j.length : Int) i false (atM j) (a4e t (frM t)) j (kpN j old day missed i.toNat) (a0b old i).f0 (a0b old i).f1 (a0b old i).f2 = some (encF (a7j j t day (kept j old day missed))) := fun hk k hkk => by
   rw [a0v.j3,if_neg (by decide),w64 (by omega) (by omega)]
   have := hK k hkk
   rw [nxt, @if_neg _ (Classical.propDecidable _) hk] at this
   exact this
  refine evUp (K + K1 + K2 + 1) fun k hk => ?_
  obtain ⟨k,rfl⟩ : ∃ z,k = z + 1 := ⟨k - 1,by omega⟩
  rw [a0v.l1,if_pos (by omega),if_pos i0,if_pos (by omega)]
  by_cases c1 : (a0b old i).f1 < day
  rotate_left
  ·rw [if_neg c1]
   exact no (fun g => c1 g.1) k (by omega)
  rw [if_pos c1,h1 _ (by omega),Option.bind_some]
  by_cases c2 : s = true
  ·rw [if_pos c2]
   exact no (fun g => g.2.1 (by rw [← e0];exact es.1 c2)) k (by omega)
  rw [if_neg c2,if_pos (by omega),h2 _ (by omega),Option.bind_some]
  by_cases c3 : u = true
  ·rw [c3]
   exact no (fun g => by obtain ⟨q,q0,q1,hq⟩ := eu.1 c3;have := g.2.2 q q0 q1;omega) k (by omega)
  have hk : a8l j old day missed (kpN j old day missed i.toNat) i := ⟨c1,fun g => c2 (es.2 (by rw [e0];exact g)),fun a a0 a1 => by
   obtain ⟨p1,_,_⟩ := after_at hv i0 (show i < (j.length : Int) by omega) a0 a1
   have := hnn _ p1
   by_cases z : (a0b (kpN j old day missed i.toNat) (a2j (atM j) (rd (a0a j i).f3 a))).f2 = 0
   ·exact absurd (eu.2 ⟨a,a0,a1,z⟩) c3
   omega⟩
  rw [Bool.not_eq_true] at c3
  rw [c3]
  exact yes hk k (by omega)
theorem c1f (j : List S51) (t : List S58) (hb : bdP j t) (old : List S42) (day : Int) (missed : List Int) (hmi : (missed.length : Int) ≤ 1000000) : Ev (fun k => a0v.f k j t old day missed) (a8s j t old day missed) := by
 unfold a8s
 obtain ⟨r,⟨K0,h0⟩,hr⟩ := b6g j t hb old
 dsimp only at h0
 by_cases c0 : r = 0
 rotate_left
 ·rw [@if_neg _ (Classical.propDecidable _) (fun h => c0 (b4e hr (.inr ⟨⟨h.1.1,h.1.2.1⟩, .inl ⟨h.1.2.2,rfl⟩⟩)))]
  refine ⟨K0 + 1,fun k hk => ?_⟩
  obtain ⟨k,rfl⟩ : ∃ z,k = z + 1 := ⟨k - 1,by omega⟩
  dsimp only
  unfold a0v.f
  rw [h0 _ (by omega),Option.bind_some,if_neg c0,a0v.j0,if_pos rfl]
 rw [c0] at hr h0
 have hok : okP j t old := b6e hr
 have hv := hok.1
 have hj := hv.2.1
 by_cases c1 : day < 0
 ·rw [@if_neg _ (Classical.propDecidable _) (fun h => by have := h.2.1;omega)]
  refine ⟨K0 + 1,fun k hk => ?_⟩
  obtain ⟨k,rfl⟩ : ∃ z,k = z + 1 := ⟨k - 1,by omega⟩
  dsimp only
  unfold a0v.f
  rw [h0 _ (by omega),Option.bind_some,if_pos rfl,if_pos c1,a0v.j0,if_pos rfl]
 by_cases c2 : day > 36524
 ·rw [@if_neg _ (Classical.propDecidable _) (fun h => by have := h.2.2.1;omega)]
  refine ⟨K0 + 1,fun k hk => ?_⟩
  obtain ⟨k,rfl⟩ : ∃ z,k = z + 1 := ⟨k - 1,by omega⟩
  dsimp only
  unfold a0v.f
  rw [h0 _ (by omega),Option.bind_some,if_pos rfl,if_neg c1,if_pos c2,a0v.j0,if_pos rfl]
 obtain ⟨w,⟨K1,h1⟩,ew⟩ := a8q missed (by omega) 1 1000
 dsimp only at h1
 by_cases c3 : w = true
 rotate_left
 ·rw [@if_neg _ (Classical.propDecidable _) (fun h => c3 (ew.2 h.2.2.2.1))]
  refine ⟨K0 + K1 + 1,fun k hk => ?_⟩
  obtain ⟨k,rfl⟩ : ∃ z,k = z + 1 := ⟨k - 1,by omega⟩
  dsimp only
  unfold a0v.f
  rw [Bool.not_eq_true] at c3
  rw [h0 _ (by omega),Option.bind_some,if_pos rfl,if_neg c1,if_neg c2,h1 _ (by omega),Option.bind_some,c3]
  show a0v.j0 (k + 1) j t old day missed true = _
  rw [a0v.j0,if_pos rfl]
 rcases b2c j t hb with ⟨_,K2,h2⟩ | ⟨hn,_⟩
 ·dsimp only at h2
  have top : ∀ r,Ev (fun k => a0v.l0 k j old day missed missed (missed.length : Int) 0 (atM j) (a4e t (frM t)) j) r → Ev (fun k => a0v.f k j t old day missed) r := fun r ⟨K,hK⟩ => ⟨K0 + K1 + K2 + K + 1,fun k hk => by
   obtain ⟨k,rfl⟩ : ∃ z,k = z + 1 := ⟨k - 1,by omega⟩
   dsimp only at hK ⊢
   unfold a0v.f
   rw [h0 _ (by omega),Option.bind_some,if_pos rfl,if_neg c1,if_neg c2,h1 _ (by omega),Option.bind_some,c3]
   show a0v.j0 (k + 1) j t old day missed false = _
   rw [a0v.j0,if_neg (by decide),h2 k (by omega),Option.bind_some,if_pos rfl]
   exact hK k (by omega)⟩
  obtain ⟨K3,h3⟩ := c3g hok (show 0 ≤ day by omega) (by omega) missed hmi j.length 0 (by omega) (by omega)
  dsimp only at h3
  rcases a5h (fun i k => a0v.l0 k j old day missed missed (missed.length : Int) i (atM j) (a4e t (frM t)) j) missed.length (by omega) (fun a => ∃ n : Int,0 ≤ n ∧ n < j.length ∧ jid j n = rd missed a) (fun _ => (([] : List S42),1)) (encF (a7j j t day (kept j old day missed)))
   (evUp K3 fun k hk => by
    rw [a0v.l0,if_neg (by omega),if_pos (by omega),if_pos (by rw [Int.toNat_natCast];omega),Int.toNat_natCast,hok.2.1.1]
    exact h3 k hk)
   (fun a a0 a1 ha => evUp 0 fun k _ => by
    rw [a0v.l0,if_pos (by omega),if_pos a0,if_pos (by omega),if_neg]
    intro h
    exact ha ((b0f (jid j) j.length (rd missed a)).1 h))
   (fun a r a0 a1 ha ⟨K,hK⟩ => evUp K fun k hk => by
    rw [a0v.l0,if_pos (by omega),if_pos a0,if_pos (by omega),if_pos (show mhas (atM j) (rd missed a) = true from (b0f (jid j) j.length (rd missed a)).2 ha),w64 (by omega) (by omega)]
    exact hK k hk) with ⟨g1,g2⟩ | ⟨a,a0,a1,g1,_,g2⟩
  ·rw [@if_pos _ (Classical.propDecidable _) ⟨hok,by omega,by omega,ew.1 c3,g1⟩]
   exact top _ g2
  rw [@if_neg _ (Classical.propDecidable _) (fun h => g1 (h.2.2.2.2 a a0 a1))]
  exact top _ g2
 exact absurd hv hn
theorem b8s {j : List S51} {t : List S58} {old : List S42} (hv : vaP j t) (hlen : old.length = j.length) (day : Int) (missed : List Int) (hmi : (missed.length : Int) ≤ 1000000) : Ev (fun k => a0q.f k j old day missed) (kept j old day missed) := by
 have hj := hv.2.1
 have main : ∀ (n : Nat) (i : Int),0 ≤ i → i + n = j.length → Ev (fun k => a0q.l0 k j old day missed (kpN j old day missed i.toNat) i) (kept j old day missed) := by
  intro n
  induction n with
  | zero =>
   intro i i0 hi
   exact evUp 0 fun k _ => by rw [a0q.l0,if_neg (by omega),show i.toNat = j.length by omega];rfl
  | succ n ih =>
   intro i i0 hi
   have i1 : i < (j.length : Int) := by omega
   obtain ⟨K,hK⟩ := ih (i + 1) (by omega) (by omega)
   have hl := a7u j old day missed i.toNat
   have hab := a7t hv i0 i1
   obtain ⟨s,⟨K1,h1⟩,es⟩ := b5d missed (by omega) (a0a j i).f0
   dsimp only at hK h1
   have nxt : kpN j old day missed (i + 1).toNat = @ite _ (a8l j old day missed (kpN j old day missed i.toNat) i) (Classical.propDecidable _) ((kpN j old day missed i.toNat).set i.toNat (a0b old i)) (kpN j old day missed i.toNat) := by
    rw [show (i + 1).toNat = i.toNat + 1 by omega,kpN,Int.toNat_of_nonneg i0]
   have loop : ∀ (m : Nat) (a : Int) (b : Bool),0 ≤ a → a + m = (a0a j i).f3.length → ((b = true ∧ ∀ q : Int,a ≤ q → q < (a0a j i).f3.length → 0 < (a0b (kpN j old day missed i.toNat) (a2j (atM j) (rd (a0a j i).f3 q))).f2) ↔ a8l j old day missed (kpN j old day missed i.toNat) i) →
     Ev (fun k => a0q.l1 k j old day missed (kpN j old day missed i.toNat) i b a) (kept j old day missed) := by
    intro m
    induction m with
    | zero =>
     intro a b a0 ha hb
     refine evUp K fun k hk => ?_
     rw [a0q.l1,if_pos i0,if_pos i1,if_neg (by omega),w64 (by omega) (by omega)]
     have := hK k hk
     rw [nxt] at this
     by_cases c : b = true
     rotate_left
     ·rw [if_neg c]
      rw [@if_neg _ (Classical.propDecidable _) (fun h => c (hb.2 h).1)] at this
      exact this
     rw [if_pos c,if_pos (by omega),if_pos (by omega)]
     rw [@if_pos _ (Classical.propDecidable _) (hb.1 ⟨c,fun q q0 q1 => by omega⟩)] at this
     exact this
    | succ m ihm =>
     intro a b a0 ha hb
     obtain ⟨p1,p2,p3⟩ := after_at hv i0 i1 a0 (show a < ((a0a j i).f3.length : Int) by omega)
     by_cases c : b = true
     rotate_left
     ·obtain ⟨K8,h8⟩ := ihm (a + 1) false (by omega) (by omega) ⟨fun h => by simp at h,fun h => absurd (hb.2 h).1 c⟩
      refine evUp K8 fun k hk => ?_
      rw [a0q.l1,if_pos i0,if_pos i1,if_pos (by omega),if_neg c,w64 (by omega) (by omega)]
      exact h8 k hk
     obtain ⟨q,⟨K7,h7⟩,hq⟩ := a6w j i i0 (by omega) (by omega) (rd (a0a j i).f3 a)
     have eq : q = a2j (atM j) (rd (a0a j i).f3 a) := by
      rcases hq with ⟨_,hq⟩ | ⟨q0,q1,q2,_⟩
      ·exact absurd p3 (hq _ p1 p2)
      exact a7s hv q0 (by omega) p1 (by omega) (by rw [p3];exact q2)
     rw [eq] at h7
     obtain ⟨K8,h8⟩ := ihm (a + 1) (decide ((a0b (kpN j old day missed i.toNat) (a2j (atM j) (rd (a0a j i).f3 a))).f2 > 0)) (by omega) (by omega) (by
      rw [← hb,decide_eq_true_eq]
      refine ⟨fun ⟨g1,g2⟩ => ⟨c,fun q q0 q1 => ?_⟩,fun ⟨_,g⟩ => ⟨g a (Int.le_refl _) (by omega),fun q q0 q1 => g q (by omega) q1⟩⟩
      by_cases e : q = a
      ·rw [e];exact g1
      exact g2 q (by omega) q1)
     dsimp only at h7 h8
     refine evUp (K7 + K8) fun k hk => ?_
     rw [a0q.l1,if_pos i0,if_pos i1,if_pos (by omega),if_pos c,if_pos a0,h7 k (by omega),Option.bind_some,if_pos p1,if_pos (by omega),w64 (by omega) (by omega)]
     exact h8 k (by omega)
   have top : ∀ b : Bool,(b = true ↔ (a0b old i).f1 < day ∧ ¬ inP missed (jid j i)) → Ev (fun k => a0q.j1 k j old day missed (kpN j old day missed i.toNat) i b) (kept j old day missed) := fun b hb => by
    obtain ⟨K9,h9⟩ := loop (a0a j i).f3.length 0 b (by omega) (by omega) ⟨fun ⟨g1,g2⟩ => ⟨(hb.1 g1).1,(hb.1 g1).2,g2⟩,fun g => ⟨hb.2 ⟨g.1,g.2.1⟩,g.2.2⟩⟩
    exact evUp K9 fun k hk => by rw [a0q.j1];exact h9 k hk
   by_cases c : s = true
   ·obtain ⟨K9,h9⟩ := top false ⟨fun h => by simp at h,fun h => absurd (es.1 c) h.2⟩
    dsimp only at h9
    refine evUp (K1 + K9) fun k hk => ?_
    rw [a0q.l0,if_pos (by omega),if_pos i0,h1 k (by omega),Option.bind_some,if_pos c]
    exact h9 k (by omega)
   obtain ⟨K9,h9⟩ := top (decide ((a0b old i).f1 < day)) (by rw [decide_eq_true_eq];exact ⟨fun h => ⟨h,fun g => c (es.2 g)⟩,fun h => h.1⟩)
   dsimp only at h9
   refine evUp (K1 + K9) fun k hk => ?_
   rw [a0q.l0,if_pos (by omega),if_pos i0,h1 k (by omega),Option.bind_some,if_neg c,if_pos (by omega)]
   exact h9 k (by omega)
 obtain ⟨K,hK⟩ := main j.length 0 (by omega) (by omega)
 refine ⟨K,fun k hk => ?_⟩
 dsimp only at hK ⊢
 unfold a0q.f
 rw [if_pos (by omega),if_pos (by rw [Int.toNat_natCast];omega),Int.toNat_natCast]
 exact hK k hk
theorem b6s (j : List S51) (t : List S58) (hb : bdP j t) (old : List S42) (day : Int) (missed : List Int) (hmi : (missed.length : Int) ≤ 1000000) : Ev (fun k => a0u.f k j t old day missed) (a8s j t old day missed) := by
 unfold a8s
 obtain ⟨r,⟨K0,h0⟩,hr⟩ := b2j j t hb old
 obtain ⟨w,⟨K1,h1⟩,ew⟩ := a8r missed (by omega) 1 1000
 dsimp only at h0 h1
 have bad : ∀ k,a0u.j0 (k + 1) j t old day missed true = some (([] : List S42),1) := fun k => by rw [a0u.j0,if_pos rfl]
 by_cases c0 : r = 0
 rotate_left
 ·rw [@if_neg _ (Classical.propDecidable _) (fun h => c0 (b4e hr (.inr ⟨⟨h.1.1,h.1.2.1⟩, .inl ⟨h.1.2.2,rfl⟩⟩)))]
  refine ⟨K0 + K1 + 1,fun k hk => ?_⟩
  obtain ⟨k,rfl⟩ : ∃ z,k = z + 1 := ⟨k - 1,by omega⟩
  dsimp only
  unfold a0u.f
  rw [h0 _ (by omega),Option.bind_some,h1 _ (by omega),Option.bind_some,if_neg c0,bad]
 rw [c0] at hr h0
 have hok : okP j t old := b6e hr
 have hv := hok.1
 have hj := hv.2.1
 by_cases c1 : day < 0
 ·rw [@if_neg _ (Classical.propDecidable _) (fun h => by have := h.2.1;omega)]
  refine ⟨K0 + K1 + 1,fun k hk => ?_⟩
  obtain ⟨k,rfl⟩ : ∃ z,k = z + 1 := ⟨k - 1,by omega⟩
  dsimp only
  unfold a0u.f
  rw [h0 _ (by omega),Option.bind_some,h1 _ (by omega),Option.bind_some,if_pos rfl,if_pos c1,bad]
 by_cases c2 : day > 36524
 ·rw [@if_neg _ (Classical.propDecidable _) (fun h => by have := h.2.2.1;omega)]
  refine ⟨K0 + K1 + 1,fun k hk => ?_⟩
  obtain ⟨k,rfl⟩ : ∃ z,k = z + 1 := ⟨k - 1,by omega⟩
  dsimp only
  unfold a0u.f
  rw [h0 _ (by omega),Option.bind_some,h1 _ (by omega),Option.bind_some,if_pos rfl,if_neg c1,if_pos c2,bad]
 by_cases c3 : w = true
 rotate_left
 ·rw [@if_neg _ (Classical.propDecidable _) (fun h => c3 (ew.2 h.2.2.2.1))]
  refine ⟨K0 + K1 + 1,fun k hk => ?_⟩
  obtain ⟨k,rfl⟩ : ∃ z,k = z + 1 := ⟨k - 1,by omega⟩
  dsimp only
  unfold a0u.f
  rw [Bool.not_eq_true] at c3
  rw [h0 _ (by omega),Option.bind_some,h1 _ (by omega),Option.bind_some,if_pos rfl,if_neg c1,if_neg c2,c3]
  exact bad k
 have top : ∀ r,Ev (fun k => a0u.l0 k j t old day missed 0) r → Ev (fun k => a0u.f k j t old day missed) r := fun r ⟨K,hK⟩ => ⟨K0 + K1 + K + 1,fun k hk => by
  obtain ⟨k,rfl⟩ : ∃ z,k = z + 1 := ⟨k - 1,by omega⟩
  dsimp only at hK ⊢
  unfold a0u.f
  rw [h0 _ (by omega),Option.bind_some,h1 _ (by omega),Option.bind_some,if_pos rfl,if_neg c1,if_neg c2,c3]
  show a0u.j0 (k + 1) j t old day missed false = _
  rw [a0u.j0,if_neg (by decide)]
  exact hK k (by omega)⟩
 obtain ⟨K3,h3⟩ := b8s hv hok.2.1.1 day missed hmi
 obtain ⟨K4,h4⟩ := b3l hv (show 0 ≤ day by omega) (show day ≤ 36525 by omega) (kept j old day missed) (a7u j old day missed _) (b6h hok day missed (Nat.le_refl _)).1
 dsimp only at h3 h4
 rcases a5h (fun i k => a0u.l0 k j t old day missed i) missed.length (by omega) (fun a => ∃ n : Int,0 ≤ n ∧ n < j.length ∧ jid j n = rd missed a) (fun _ => (([] : List S42),1)) (encF (a7j j t day (kept j old day missed)))
  (evUp (K3 + K4) fun k hk => by rw [a0u.l0,if_neg (by omega),h3 k (by omega),Option.bind_some,h4 k (by omega),Option.bind_some])
  (fun a a0 a1 ha => by
   obtain ⟨q,⟨K7,h7⟩,hq⟩ := a6w j j.length (by omega) (Int.le_refl _) (by omega) (rd missed a)
   dsimp only at h7
   refine evUp K7 fun k hk => ?_
   rcases hq with ⟨rfl,_⟩ | ⟨q0,q1,q2,_⟩
   ·rw [a0u.l0,if_pos (by omega),if_pos a0,h7 k hk,Option.bind_some,if_pos (by decide)]
   exact absurd ⟨q,q0,q1,q2⟩ ha)
  (fun a r a0 a1 ⟨n,n0,n1,hn⟩ ⟨K,hK⟩ => by
   obtain ⟨q,⟨K7,h7⟩,hq⟩ := a6w j j.length (by omega) (Int.le_refl _) (by omega) (rd missed a)
   dsimp only at h7 hK
   refine evUp (K7 + K) fun k hk => ?_
   rcases hq with ⟨rfl,hh⟩ | ⟨q0,q1,q2,_⟩
   ·exact absurd hn (hh n n0 n1)
   rw [a0u.l0,if_pos (by omega),if_pos a0,h7 k (by omega),Option.bind_some,if_neg (by omega),w64 (by omega) (by omega)]
   exact hK k (by omega)) with ⟨g1,g2⟩ | ⟨a,a0,a1,g1,_,g2⟩
 ·rw [@if_pos _ (Classical.propDecidable _) ⟨hok,by omega,by omega,ew.1 c3,g1⟩]
  exact top _ g2
 rw [@if_neg _ (Classical.propDecidable _) (fun h => g1 (h.2.2.2.2 a a0 a1))]
 exact top _ g2
end Go.Proofs.Ytheibjkjmkanoaa.Wk
/- Contracts of Go functions, written by a program of this session's own (wip/tools/myprint.py) out of the translation: each Go function does what the Lean function of its name says. Conditions: as each theorem states. -/
namespace Go.Proofs.Ytheibjkjmkanoaa.Px
open Go.Proofs.Ytheibjkjmkanoaa.Given
open Go.RowKit Go.Proofs.YtheibjkjmkanoaaW.PrintWords Go.Proofs.YtheibjkjmkanoaaW.PrintLast Go.Proofs.YtheibjkjmkanoaaW.PrintMore
attribute [local go_sem] a3r a3s a4b a4c a3f a3g a3t a3u
set_option linter.unusedVariables false
set_option linter.unusedSimpArgs false
def a4u.f (k : Nat) (l0 : List (S51)) (l1 : List (S58)) (a2 a3 : Int) : Option (Bool) := (a0i.f k).bind fun a => ((a4y.f k l0 l1).bind fun h => (if h = true then ((a7h.f a2).bind fun i => ((a2y.f k l0 l1 i).bind fun c => (if c.2 = 0 then ((a7h.f a2).bind fun g => ((a7h.f a2).bind fun b => (if (wrap64 (b + 1)) = 0 then (none) else ((a0v.f k l0 l1 c.1 (wrap64 (g - (Int.tmod (wrap64 (a3)) (wrap64 (b + 1))))) ([] : List Int)).bind fun d => ((a2y.f k l0 l1 (wrap64 (g - (Int.tmod (wrap64 (a3)) (wrap64 (b + 1)))))).bind fun e => (if a = true then (if d.2 = e.2 then ((a1a.f k d.1 e.1).bind fun j => (some j)) else (some false)) else (some false))))))) else (some a)))) else (some a)))
theorem a4u.mono : ∀ a0 a1 a2 a3 k,LeO (a4u.f k a0 a1 a2 a3) (a4u.f (k + 1) a0 a1 a2 a3) := by
 intro a0 a1 a2 a3 k
 unfold a4u.f
 with_reducible (repeat' first | apply a0i.mono | apply a4y.mono | apply a1a.mono | apply a0v.mono | apply a2y.mono | apply LeO.refl | apply LeO.none | apply LeO.ite | refine LeO.bind ?_ (fun _ => ?_))
def a3m.l0 : Nat → List (S56) → Int → Int → Option (Int × Int)
 | 0,_,_,_ => none
 | k + 1,x0,x4,x5 => if x5 < (x0.length : Int) then (if 0 ≤ x5 then (a3m.l0 k x0 (wrap64 ((wrap64 (x4 + ((a0f x0 x5).f1))) - ((a0f x0 x5).f0))) (wrap64 (x5 + 1))) else (none)) else (some (x4,0))
def a3m.f (k : Nat) (l0 : List (S56)) : Option (Int × Int) := (a1c.f k l0).bind fun a => (if a = true then (a3m.l0 k l0 0 0) else (some (0,1)))
theorem a3m.a1u : ∀ k,(∀ y0 y1 y2,LeO (a3m.l0 k y0 y1 y2) (a3m.l0 (k + 1) y0 y1 y2))
 | 0 => fun _ _ _ r h => by simp [a3m.l0] at h
 | k + 1 => by
  have a := a3m.a1u k
  intro y0 y1 y2
  unfold a3m.l0
  with_reducible (repeat' first | apply a | apply a1c.mono | apply LeO.refl | apply LeO.none | apply LeO.ite | refine LeO.bind ?_ (fun _ => ?_))
theorem a3m.mono : ∀ a0 k,LeO (a3m.f k a0) (a3m.f (k + 1) a0) := by
 intro a0 k
 have a := a3m.a1u k
 unfold a3m.f
 with_reducible (repeat' first | apply a | apply a1c.mono | apply LeO.refl | apply LeO.none | apply LeO.ite | refine LeO.bind ?_ (fun _ => ?_))
end Go.Proofs.Ytheibjkjmkanoaa.Px
