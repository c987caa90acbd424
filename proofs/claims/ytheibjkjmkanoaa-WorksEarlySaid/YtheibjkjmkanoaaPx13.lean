/- Contracts of Go functions, printed. Conditions: as each theorem states. -/
import Derived.Test.YtheibjkjmkanoaaPx0
import Derived.Test.YtheibjkjmkanoaaPx12
namespace Go.Proofs.Ytheibjkjmkanoaa.Px
open Go.Proofs.Ytheibjkjmkanoaa.Given
open Go.RowKit Go.Proofs.YtheibjkjmkanoaaW.PrintWords Go.Proofs.YtheibjkjmkanoaaW.PrintLast Go.Proofs.YtheibjkjmkanoaaW.PrintMore
attribute [local go_sem] a3m a3n a3x a3y a3e a3f a3o a3p
set_option linter.unusedVariables false
set_option linter.unusedSimpArgs false
def a1o.f (k : Nat) (l0 : List Int)  (a b c : Int) (l3 : List (S42)) (d : List (S51)) (e : List (Int × Int)) (g : List (Int × List (S56))) : Option (Bool) := (a0m.f k l0 a b c l3 d e g).bind fun h => (some (decide (h ≥ 0)))
theorem a1o.mono : ∀ a0 a1 a2 a3 a4 a5 a6 a7 k,LeO (a1o.f k a0 a1 a2 a3 a4 a5 a6 a7) (a1o.f (k + 1) a0 a1 a2 a3 a4 a5 a6 a7) := by
 intro a0 a1 a2 a3 a4 a5 a6 a7 k
 unfold a1o.f
 with_reducible (repeat' first | apply a0m.mono | apply LeO.refl | apply LeO.none | apply LeO.ite | refine LeO.bind ?_ (fun _ => ?_))
set_option maxHeartbeats 8000000 in
set_option maxRecDepth 100000 in
theorem a1o.calls (k : Nat) (A0 : Option Addr) (c0 : Nat) (l0 : List Int)  (o : Nat) (s t u : Int) (p : Nat) (A3 : Option Addr) (c3 : Nat) (l3 : List (S42)) (q : Nat) (a4 : Option Addr) (a5 : Nat) (d : List (S51)) (v : List (Int × Int)) (x : List (Int × List (S56))) (a b : Nat) (gh_a4_2 : List (Int × (List (S56) × Value))) (r : Bool) (w : World) (ad : Kd.C (Kd.int .i64) w A0 l0.length l0) (ae : l0.length ≤ c0) (af : Kd.C k42 w A3 l3.length l3) (ag : l3.length ≤ c3) (a7 : Kd.C k51 w a4 d.length d) (a8 : d.length ≤ a5) (ah : w.heap[o]? = some (.cells #[.int .i64 s, .int .i64 t, .int .i64 u] 42 (0,0))) (ai : w.heap[p]? = some (.cells #[.slice A3 l3.length c3] 24 (0,0))) (aj : w.heap[q]? = some (.cells #[.slice a4 d.length a5, .map (some a), .map (some b)] 62 (0,0))) (y : o ≠ p) (z : o ≠ q) (A : p ≠ q) (K : w.heap[a]? = some (a1i (Value.int .i64) v)) (L : w.heap[b]? = some (a1i (fun e_ : List (S56) × Value => e_.2) gh_a4_2)) (M : a5n gh_a4_2 = x) (O : a5a k56 w gh_a4_2) (c : a ≠ b) (g : a ≠ o) (i : a ≠ p) (j : a ≠ q) (l : b ≠ o) (m : b ≠ p) (n : b ≠ q) (h : a1o.f k l0 s t u l3 d v x = some r) :
  Calls Try.prog 40 #[.slice A0 l0.length c0, .func (.func 41) #[] #[.pointer (some ⟨o,0,none⟩), .pointer (some ⟨p,0,none⟩), .pointer (some ⟨q,0,none⟩)]] w fun e w' => e = .returned (.bool r) ∧ Below w.heap.size w w' := by
 have aA := am_ ad
 have aB := am_ ae
 clear ad ae
 have aC := am_ af
 have aD := am_ ag
 clear af ag
 have a9 := am_ a7
 have aa := am_ a8
 clear a7 a8
 have B := am_ K
 clear K
 have D := am_ L
 clear L
 have ab := am_ M
 have ac := am_ O
 clear M O
 have P := am_ c
 have ak := am_ c.symm
 clear c
 have T := am_ g
 have al := am_ g.symm
 clear g
 have W := am_ i
 have am := am_ i.symm
 clear i
 have X := am_ j
 have an := am_ j.symm
 clear j
 have Y := am_ l
 have ao := am_ l.symm
 clear l
 have Z := am_ m
 have ap := am_ m.symm
 clear m
 have a0 := am_ n
 have aq := am_ n.symm
 clear n
 have E := am_ ah
 clear ah
 have G := am_ ai
 clear ai
 have J := am_ aj
 clear aj
 have a1 := am_ y
 have ar := am_ y.symm
 clear y
 have a2 := am_ z
 have au := am_ z.symm
 clear z
 have a3 := am_ A
 have av := am_ A.symm
 clear A
 have HB := am_ (Below.refl w.heap.size w)
 have H : ((a0m.f k l0 s t u l3 d v x).bind fun a6 => (some (decide (a6 ≥ 0)))) = some r := h
 clear h
 replace H := bm_ H
 obtain ⟨a6,aw,H⟩ := H
 have A6 := am_ aw
 clear aw
 obtain rfl := si_ H
 go_enter Try.func40,Try.ntmps40
 go_wp2_with (first | ((with_reducible refine a0r (f := 60) rfl ?_);refine a2a (some 7) rfl rfl Try.func60 (by kernel_rfl) rfl #[.slice A0 l0.length c0, .func (.func 41) #[] #[.pointer (some ⟨o,0,none⟩), .pointer (some ⟨p,0,none⟩), .pointer (some ⟨q,0,none⟩)]] rfl ql_ ?_;(with_reducible refine (a0m.calls k _ _ l0  o s t u p A3 c3 l3 q a4 a5 d v x a b gh_a4_2 a6 _ ?s1 aB.out ?s3 aD.out ?s5 aa.out ?s7 ?s8 ?s9 ?s10 ?s11 ?s12 ?s13 ?s14 ?s15 ?s16 ?s17 ?s18 ?s19 ?s20 ?s21 ?s22 ?s23 A6.out).mono ?_);(case s1 => repeat (first | exact aA.out | (with_reducible refine Kd.a1t ?_ _) | (with_reducible refine Kd.a1u ?_ _) | (with_reducible refine Kd.a2h ?_)));(case s3 => repeat (first | exact aC.out | (with_reducible refine Kd.a1t ?_ _) | (with_reducible refine Kd.a1u ?_ _) | (with_reducible refine Kd.a2h ?_)));(case s5 => repeat (first | exact a9.out | (with_reducible refine Kd.a1t ?_ _) | (with_reducible refine Kd.a1u ?_ _) | (with_reducible refine Kd.a2h ?_)));(case s7 => exact (qk_ E));(case s8 => exact (qk_ G));(case s9 => exact (qk_ J));(case s10 => exact a1.out);(case s11 => exact a2.out);(case s12 => exact a3.out);(case s13 => exact (qk_ B));(case s14 => exact (qk_ D));(case s15 => exact ab.out);(case s16 => exact (fun e_ he_ => by obtain ⟨A_,c_,ax,ay,az⟩ := ac.out e_ he_;have HRm_ := am_ az;exact ⟨A_,c_,ax,ay,by repeat (first | exact HRm_.out | (with_reducible refine Kd.a1t ?_ _) | (with_reducible refine Kd.a1u ?_ _) | (with_reducible refine Kd.a2h ?_))⟩));(case s17 => exact P.out);(case s18 => exact T.out);(case s19 => exact W.out);(case s20 => exact X.out);(case s21 => exact Y.out);(case s22 => exact Z.out);(case s23 => exact a0.out);rintro e w7 ⟨rfl,hb⟩;refine ⟨_,rfl,?_⟩;replace B := qkb_ B hb;replace D := qkb_ D hb;replace E := qkb_ E hb;replace G := qkb_ G hb;replace J := qkb_ J hb;replace HB := qbs_ hb;(try clear hb);(try clear aE);(try clear hk);(try clear hi)))
 go_ret
 exact ⟨qx_,qb_⟩
end Go.Proofs.Ytheibjkjmkanoaa.Px
