/- What is wrong with a meeting for a resolution, by package meeting: a contract of the function that goes through its four checks. Conditions: as the contract states. -/
import Derived.Test.YtemnlgefngjliaaProg
import Derived.Below
import Derived.Tactics
import Derived.WalkKit
import Derived.KernelRfl
import Derived.RowKit3
import Derived.Deep.LoopGhost
import Derived.Deep.QuietTactic
import Derived.BigQuiet
import Derived.WideLaws
import Derived.RowKit
import Derived.Outline
import Derived.Test.YtemnlgefngjliaaWWords
import Derived.Test.YtemnlgefngjliaaWLast
import Derived.Test.YtemnlgefngjliaaWMore
import Derived.Test.YtemnlgefngjliaaGLib
import Derived.Test.YtemnlgefngjliaaGName
import Derived.Test.YtemnlgefngjliaaGCrowd
import Derived.Test.YtemnlgefngjliaaPx13
import Derived.Test.YtemnlgefngjliaaPx9
import Derived.Test.YtemnlgefngjliaaPx12
import Derived.Test.YtemnlgefngjliaaPx3
import Derived.Test.YtemnlgefngjliaaPx6
namespace Go.Proofs.Ytemnlgefngjliaa.Given
open Go.RowKit Go.Proofs.YtemnlgefngjliaaW.PrintWords Go.Proofs.YtemnlgefngjliaaW.PrintLast Go.Proofs.YtemnlgefngjliaaW.PrintMore Go.Proofs.Ytemnlgefngjliaa.Px
set_option linter.unusedVariables false
set_option linter.unusedSimpArgs false
theorem b1q (P : Program) (w : World) (a : Addr) (m : Mode) (fn : Fn) (x y : Array Value) : (store a (.func fn x y) m).run P w = stored P w a (.func fn x y) m := run_store P w a _ m rfl
attribute [local go_sem] b1q
def a4f (w : World) (g : Nat) : Nat → List Value → World
 | _, [] => w
 | i, v :: l => a4f (w.setCell ⟨g, i, none⟩ v) g (i + 1) l
theorem a4j {g g' : Nat} {t : TypeId} {cs : Array Value} (hne : g' ≠ g) : ∀ (l : List Value) (i : Nat) (w : World), w.heap[g']? = some (.cells cs t (0, 0)) → (a4f w g i l).heap[g']? = some (.cells cs t (0, 0))
 | [], _, w, h => h
 | v :: l, i, w, h => a4j hne l (i + 1) _ (a0b h hne v)
theorem a5o {w : World} {g : Nat} (hg : w.heap.size ≤ g) : ∀ (l : List Value) (i : Nat) (W : World), Below w.heap.size w W → Below w.heap.size w (a4f W g i l)
 | [], _, W, h => h
 | v :: l, i, W, h => a5o hg l (i + 1) _ (ls_ h hg)
theorem a6a {g : Nat} {t : TypeId} : ∀ (l : List Value) (i : Nat) (w : World) (cs : Array Value), w.heap[g]? = some (.cells cs t (0, 0)) → i + l.length = cs.size → (a4f w g i l).heap[g]? = some (.cells (cs.toList.take i ++ l).toArray t (0, 0))
 | [], i, w, cs, h, hs => by
  have : cs.toList.take i = cs.toList := List.take_of_length_le (by simp at hs; simp; omega)
  rw [this, List.append_nil]
  exact h
 | v :: l, i, w, cs, h, hs => by
  have hi : i < cs.size := by simp at hs; omega
  have h2 := a6a l (i + 1) _ _ (a0d h i v rfl) (by simp at hs ⊢; omega)
  rw [a4f, h2]
  have e : (cs.setIfInBounds i v).toList.take (i + 1) = cs.toList.take i ++ [v] := by
   rw [Array.toList_setIfInBounds, List.take_add_one, List.take_set_of_le (Nat.le_refl i)]
   simp [hi]
  rw [e, List.append_assoc]
  rfl
section
variable {P : Program} {ops : Array Oper} {rest : List Oper} {o : Oper} {a : Act} {Q : Exit → Act → World → Prop}
end
theorem a7a {α : Type} {d : Kd α} {e base : Nat} {ok : Nat → Prop} {v : Value} {xs : List α} {g : Nat} {t : TypeId} (ht : ∀ q, q ∈ e :: d.E → q ≠ t) : ∀ (l : List Value) (i : Nat) (w : World) (cs : Array Value), w.heap[g]? = some (.cells cs t (0, 0)) → d.R e w base ok v xs → d.R e (a4f w g i l) base ok v xs
 | [], _, w, cs, _, hr => hr
 | u :: l, i, w, cs, h, hr => a7a ht l (i + 1) _ _ (a0d h i u rfl) (Kd.b8f hr h ht i u)
section
variable {P : Program} {ops : Array Oper} {rest : List Oper} {o : Oper} {a : Act} {Q : Exit → Act → World → Prop}
theorem b2g {W : World} (hgd : o.guard = none) {N : Tmp} (_hd : o.dst = some N) (n : Nat) {cs : Array Value} {t : TypeId}
  (hrun : (execOp a.eval o).run P W = .ok (.value (.slice (some ⟨W.heap.size, 0, none⟩) n n)) (W.alloc (.cells cs t (0, 0))))
  (h : ∀ g, g = W.heap.size → ∀ w1, w1.heap[g]? = some (.cells cs t (0, 0)) → Below W.heap.size W w1 → wpList P ops Q rest (a.put o.dst (.slice (some ⟨g, 0, none⟩) n n)) w1) : wpList P ops Q (o :: rest) a W :=
 Kd.a8g hgd hrun (h _ rfl _ (b2q W _) (la_ (Below.refl _ _) _))
end
def a3j (b : Bool) (n : Int) : List Int := if b = true then [n] else []
def a2j (x1 x2 x3 x4 : Bool) (x : Int) : List Int := (if 1 ≤ x then a3j x1 1 else []) ++ (if 2 ≤ x then a3j x2 2 else []) ++ (if 3 ≤ x then a3j x3 3 else []) ++ (if 4 ≤ x then a3j x4 4 else [])
theorem a6v (x1 x2 x3 x4 : Bool) (x : Int) : (a2j x1 x2 x3 x4 x).length ≤ 4 := by
 unfold a2j a3j
 cases x1 <;> cases x2 <;> cases x3 <;> cases x4 <;> (repeat' split) <;> simp
def a2q.f (k : Nat) (a0_0 a0_1 a0_2 a0_3 : Int) (a0_4 : Bool) (a1_0 a1_1 a1_2 : Int) (l1_3 : List ByteArray) (l1_4 : List (S43)) (l1_5 : List Int) (a2 : ByteArray) (l3 : List Int) : Option (List Int × Int) :=
 (a3t.f k 0 l3).bind fun b0 => if b0.2 = 0 then (a3p.f a0_0 a0_1 a0_2 a0_3 a0_4).bind fun b1 => if b1 = true then (a0l.f k a0_0 a0_1 a0_2 a0_3 a0_4 a1_0 a1_1 a1_2 l1_3 l1_4 l1_5 a2 l3).bind fun b2 => if b2 = true then (a4o.f a2).bind fun b3 => if b3 = true then
  (a5n.f k a0_0 a0_1 a0_2 a0_3 a0_4 a1_0 a1_1 a1_2 l1_3 l1_4 l1_5 a2 l3).bind fun x1 => (a4h.f k a0_0 a0_1 a0_2 a0_3 a0_4 a1_0 a1_1 a1_2 l1_3 l1_4 l1_5 a2 l3).bind fun x2 => (a3i.f k a0_0 a0_1 a0_2 a0_3 a0_4 a1_0 a1_1 a1_2 l1_3 l1_4 l1_5 a2 l3).bind fun x3 => (a4e.f k a0_0 a0_1 a0_2 a0_3 a0_4 a1_0 a1_1 a1_2 l1_3 l1_4 l1_5 a2 l3).bind fun x4 => some (a3j x1 1 ++ a3j x2 2 ++ a3j x3 3 ++ a3j x4 4, 0)
  else some ([], 1) else some ([], 1) else some ([], 1) else some ([], 1)
theorem a2q.mono : ∀ a0 a1 a2 a3 a4 a5 a6 a7 a8 a9 a10 a11 a12 k, LeO (a2q.f k a0 a1 a2 a3 a4 a5 a6 a7 a8 a9 a10 a11 a12) (a2q.f (k + 1) a0 a1 a2 a3 a4 a5 a6 a7 a8 a9 a10 a11 a12) := by
 intro a0 a1 a2 a3 a4 a5 a6 a7 a8 a9 a10 a11 a12 k
 unfold a2q.f
 with_reducible (repeat' first | apply a3t.mono | apply a0l.mono | apply a5n.mono | apply a4h.mono | apply a3i.mono | apply a4e.mono | apply LeO.refl | apply LeO.ite | refine LeO.bind ?_ (fun _ => ?_))
set_option maxHeartbeats 16000000 in
set_option maxRecDepth 100000 in
theorem a2q.calls (k : Nat) (a0_0 a0_1 a0_2 a0_3 : Int) (a0_4 : Bool) (a1_0 a1_1 a1_2 : Int) (A1_3 : Option Addr) (c1_3 : Nat) (l1_3 : List ByteArray) (A1_4 : Option Addr) (c1_4 : Nat) (l1_4 : List (S43)) (A1_5 : Option Addr) (c1_5 : Nat) (l1_5 : List Int) (a2 : ByteArray) (A3 : Option Addr) (c3 : Nat) (l3 r1 : List Int) (r2 : Int) (w : World) (hr1_3 : Kd.C Kd.string w A1_3 l1_3.length l1_3) (hc1_3 : l1_3.length ≤ c1_3) (hr1_4 : Kd.C k43 w A1_4 l1_4.length l1_4) (hc1_4 : l1_4.length ≤ c1_4) (hr1_5 : Kd.C (Kd.int .i64) w A1_5 l1_5.length l1_5) (hc1_5 : l1_5.length ≤ c1_5) (hr3 : Kd.C (Kd.int .i64) w A3 l3.length l3) (hc3 : l3.length ≤ c3) (h : a2q.f k a0_0 a0_1 a0_2 a0_3 a0_4 a1_0 a1_1 a1_2 l1_3 l1_4 l1_5 a2 l3 = some (r1, r2)) :
  Calls Try.prog 18 #[.agg #[.int .i64 a0_0, .int .i64 a0_1, .int .i64 a0_2, .int .i64 a0_3, .bool a0_4], .agg #[.int .i64 a1_0, .int .i64 a1_1, .int .i64 a1_2, .slice A1_3 l1_3.length c1_3, .slice A1_4 l1_4.length c1_4, .slice A1_5 l1_5.length c1_5], .string a2, .slice A3 l3.length c3] w fun e w' => ∃ v0_ : Value, e = .returned (.tuple #[v0_, .int .i64 r2]) ∧ Kd.R (Kd.int .i64) 3 w' w.heap.size (fun _ => True) v0_ r1 ∧ Below w.heap.size w w' := by
 have hu25 := Try.underlying25
 have hu30 := Try.underlying30
 have hu62 := Try.underlying62
 have hu75 := Try.underlying75
 have HR1_3 := am_ hr1_3
 have HC1_3 := am_ hc1_3
 clear hr1_3 hc1_3
 have HR1_4 := am_ hr1_4
 have HC1_4 := am_ hc1_4
 clear hr1_4 hc1_4
 have HR1_5 := am_ hr1_5
 have HC1_5 := am_ hc1_5
 clear hr1_5 hc1_5
 have HR3 := am_ hr3
 have HC3 := am_ hc3
 clear hr3 hc3
 have HB := am_ (Below.refl w.heap.size w)
 unfold a2q.f at h
 obtain ⟨⟨b00, b01⟩, e0, h⟩ := bm_ h
 have E0 := am_ e0
 clear e0
 dsimp only at h
 go_enter Try.func18, Try.ntmps18
 go_upto_region 2 with (first | ((with_reducible refine a0f (N := 4) rfl ?_); refine qev_ 4 #[.int .i64 a0_0, .int .i64 a0_1, .int .i64 a0_2, .int .i64 a0_3, .bool a0_4] 25 ?_; intro gT hg w6 hbox hb; have nG_ := am_ ((by rw [hg]; exact (a0x qb_)) : w.heap.size ≤ gT); have nB_ := qbs_ hb; have nN_ := am_ hbox; clear HB; have HB := nB_; have BKT := nN_; have GET := nG_; clear nB_ nN_ nG_ ; clear hb hbox hg; obtain ⟨z'T_0, z'T_1, z'T_2, z'T_3, z'T_4⟩ := qz5_ BKT; obtain ⟨y'T_0, y'T_1, y'T_2, y'T_3, y'T_4⟩ := qf5_ BKT) | ((with_reducible refine a0f (N := 5) rfl ?_); refine qev_ 5 #[.int .i64 a1_0, .int .i64 a1_1, .int .i64 a1_2, .slice A1_3 l1_3.length c1_3, .slice A1_4 l1_4.length c1_4, .slice A1_5 l1_5.length c1_5] 30 ?_; intro gM hg w7 hbox hb; have nT_ := qkb_ BKT hb; have mT_ := am_ ((by rw [hg]; exact Nat.ne_of_lt (a0u (qk_ BKT))) : gT ≠ gM); have nG_ := am_ ((by rw [hg]; exact (a0x qb_)) : w.heap.size ≤ gM); have nB_ := qbs_ hb; have nN_ := am_ hbox; clear BKT HB; have HB := nB_; have BKT := nT_; have NET_M := mT_; have BKM := nN_; have GEM := nG_; clear nB_ nN_ nG_ nT_ mT_ hb hbox hg; try clear z'T_0 y'T_0 z'T_1 y'T_1 z'T_2 y'T_2 z'T_3 y'T_3 z'T_4 y'T_4; obtain ⟨z'T_0, z'T_1, z'T_2, z'T_3, z'T_4⟩ := qz5_ BKT; obtain ⟨y'T_0, y'T_1, y'T_2, y'T_3, y'T_4⟩ := qf5_ BKT; obtain ⟨z'M_0, z'M_1, z'M_2, z'M_3, z'M_4, z'M_5⟩ := qz6_ BKM; obtain ⟨y'M_0, y'M_1, y'M_2, y'M_3, y'M_4, y'M_5⟩ := qf6_ BKM) | ((with_reducible refine a0f (N := 10) rfl ?_); refine a7c ?hg (N := 10) ?hd (cs := #[.int .i64 0, .int .i64 0, .int .i64 0, .int .i64 0, .bool false, .int .i64 0, .int .i64 0, .int .i64 0, .slice none 0 0, .slice none 0 0, .slice none 0 0, .string (⟨#[]⟩ : ByteArray), .slice none 0 0]) (t := 62) ?hr ?_; (case hd => rfl); (case hg => rfl); (case hr => exact qq_); intro gH hg w8 hbox hb; have nT_ := qkb_ BKT hb; have nM_ := qkb_ BKM hb; have mT_ := am_ ((by rw [hg]; exact Nat.ne_of_lt (a0u (qk_ BKT))) : gT ≠ gH); have mM_ := am_ ((by rw [hg]; exact Nat.ne_of_lt (a0u (qk_ BKM))) : gM ≠ gH); have nG_ := am_ ((by rw [hg]; exact (a0x qb_)) : w.heap.size ≤ gH); have nB_ := qbs_ hb; have nN_ := am_ hbox; clear BKT BKM HB; have HB := nB_; have BKT := nT_; have NET_Z := mT_; have BKM := nM_; have NEM_Z := mM_; have BKZ := nN_; have GEZ := nG_; clear nB_ nN_ nG_ nT_ mT_ nM_ mM_ hb hbox hg; try clear z'T_0 y'T_0 z'T_1 y'T_1 z'T_2 y'T_2 z'T_3 y'T_3 z'T_4 y'T_4; try clear z'M_0 y'M_0 z'M_1 y'M_1 z'M_2 y'M_2 z'M_3 y'M_3 z'M_4 y'M_4 z'M_5 y'M_5; obtain ⟨z'T_0, z'T_1, z'T_2, z'T_3, z'T_4⟩ := qz5_ BKT; obtain ⟨y'T_0, y'T_1, y'T_2, y'T_3, y'T_4⟩ := qf5_ BKT; obtain ⟨z'M_0, z'M_1, z'M_2, z'M_3, z'M_4, z'M_5⟩ := qz6_ BKM; obtain ⟨y'M_0, y'M_1, y'M_2, y'M_3, y'M_4, y'M_5⟩ := qf6_ BKM; obtain ⟨z'Z_0, z'Z_1, z'Z_2, z'Z_3, z'Z_4, z'Z_5, z'Z_6, z'Z_7, z'Z_8, z'Z_9, z'Z_10, z'Z_11, z'Z_12⟩ := a1u BKZ; obtain ⟨y'Z_0, y'Z_1, y'Z_2, y'Z_3, y'Z_4, y'Z_5, y'Z_6, y'Z_7, y'Z_8, y'Z_9, y'Z_10, y'Z_11, y'Z_12⟩ := a1v BKZ))
 have nT_ := am_ (a4j NET_Z.out [.int .i64 a0_0, .int .i64 a0_1, .int .i64 a0_2, .int .i64 a0_3, .bool a0_4, .int .i64 a1_0, .int .i64 a1_1, .int .i64 a1_2, .slice A1_3 l1_3.length c1_3, .slice A1_4 l1_4.length c1_4, .slice A1_5 l1_5.length c1_5, .string a2, .slice A3 l3.length c3] 0 w8 BKT.out)
 have nM_ := am_ (a4j NEM_Z.out [.int .i64 a0_0, .int .i64 a0_1, .int .i64 a0_2, .int .i64 a0_3, .bool a0_4, .int .i64 a1_0, .int .i64 a1_1, .int .i64 a1_2, .slice A1_3 l1_3.length c1_3, .slice A1_4 l1_4.length c1_4, .slice A1_5 l1_5.length c1_5, .string a2, .slice A3 l3.length c3] 0 w8 BKM.out)
 have nH_ : Aside0 ((a4f w8 gH 0 [.int .i64 a0_0, .int .i64 a0_1, .int .i64 a0_2, .int .i64 a0_3, .bool a0_4, .int .i64 a1_0, .int .i64 a1_1, .int .i64 a1_2, .slice A1_3 l1_3.length c1_3, .slice A1_4 l1_4.length c1_4, .slice A1_5 l1_5.length c1_5, .string a2, .slice A3 l3.length c3]).heap[gH]? = some (.cells #[.int .i64 a0_0, .int .i64 a0_1, .int .i64 a0_2, .int .i64 a0_3, .bool a0_4, .int .i64 a1_0, .int .i64 a1_1, .int .i64 a1_2, .slice A1_3 l1_3.length c1_3, .slice A1_4 l1_4.length c1_4, .slice A1_5 l1_5.length c1_5, .string a2, .slice A3 l3.length c3] 62 (0, 0))) := ⟨a6a [.int .i64 a0_0, .int .i64 a0_1, .int .i64 a0_2, .int .i64 a0_3, .bool a0_4, .int .i64 a1_0, .int .i64 a1_1, .int .i64 a1_2, .slice A1_3 l1_3.length c1_3, .slice A1_4 l1_4.length c1_4, .slice A1_5 l1_5.length c1_5, .string a2, .slice A3 l3.length c3] 0 w8 _ BKZ.out rfl⟩
 have nB_ := am_ (a5o GEZ.out [.int .i64 a0_0, .int .i64 a0_1, .int .i64 a0_2, .int .i64 a0_3, .bool a0_4, .int .i64 a1_0, .int .i64 a1_1, .int .i64 a1_2, .slice A1_3 l1_3.length c1_3, .slice A1_4 l1_4.length c1_4, .slice A1_5 l1_5.length c1_5, .string a2, .slice A3 l3.length c3] 0 w8 HB.out)
 change Code.wp _ _ _ _ (a4f w8 gH 0 [.int .i64 a0_0, .int .i64 a0_1, .int .i64 a0_2, .int .i64 a0_3, .bool a0_4, .int .i64 a1_0, .int .i64 a1_1, .int .i64 a1_2, .slice A1_3 l1_3.length c1_3, .slice A1_4 l1_4.length c1_4, .slice A1_5 l1_5.length c1_5, .string a2, .slice A3 l3.length c3])
 clear BKT BKM BKZ HB z'T_0 y'T_0 z'T_1 y'T_1 z'T_2 y'T_2 z'T_3 y'T_3 z'T_4 y'T_4 z'M_0 y'M_0 z'M_1 y'M_1 z'M_2 y'M_2 z'M_3 y'M_3 z'M_4 y'M_4 z'M_5 y'M_5 z'Z_0 y'Z_0 z'Z_1 y'Z_1 z'Z_2 y'Z_2 z'Z_3 y'Z_3 z'Z_4 y'Z_4 z'Z_5 y'Z_5 z'Z_6 y'Z_6 z'Z_7 y'Z_7 z'Z_8 y'Z_8 z'Z_9 y'Z_9 z'Z_10 y'Z_10 z'Z_11 y'Z_11 z'Z_12 y'Z_12
 generalize a4f w8 gH 0 [.int .i64 a0_0, .int .i64 a0_1, .int .i64 a0_2, .int .i64 a0_3, .bool a0_4, .int .i64 a1_0, .int .i64 a1_1, .int .i64 a1_2, .slice A1_3 l1_3.length c1_3, .slice A1_4 l1_4.length c1_4, .slice A1_5 l1_5.length c1_5, .string a2, .slice A3 l3.length c3] = w9 at nT_ nM_ nH_ nB_ ⊢
 have BKT := nT_
 have BKM := nM_
 have BKH := nH_
 have HB := nB_
 clear nT_ nM_ nH_ nB_
 go_upto_region 3 with (first | ((with_reducible refine a0e (f := 42) rfl ?_); refine a0w (some 23) rfl rfl Try.func42 (by kernel_rfl) rfl #[.int .i64 0, .slice A3 l3.length c3] rfl (by (try simp only [List.map_toArray, List.map_cons, List.map_nil]); first | done | rfl) ?_; (with_reducible refine (a3t.calls k 0 _ _ l3 b00 b01 _ ?s1 ?s2 E0.out).mono ?_); (case s1 => exact qc_ HR3); (case s2 => exact HC3.out); rintro e w' ⟨rfl, ⟨nd, rfl⟩⟩; refine ⟨_, rfl, ?_⟩))
 by_cases c0 : b01 = 0
 ·subst c0
  rw [if_pos rfl] at h
  obtain ⟨b1, e1, h⟩ := bm_ h
  have E1 := am_ e1
  clear e1
  cases b1 with
  | false =>
   rw [if_neg (by decide)] at h
   obtain ⟨rfl, rfl⟩ : [] = r1 ∧ (1 : Int) = r2 := by simpa using h
   obtain ⟨z'T_0, z'T_1, z'T_2, z'T_3, z'T_4⟩ := qz5_ BKT; obtain ⟨y'T_0, y'T_1, y'T_2, y'T_3, y'T_4⟩ := qf5_ BKT
   obtain ⟨z'M_0, z'M_1, z'M_2, z'M_3, z'M_4, z'M_5⟩ := qz6_ BKM; obtain ⟨y'M_0, y'M_1, y'M_2, y'M_3, y'M_4, y'M_5⟩ := qf6_ BKM
   obtain ⟨z'H_0, z'H_1, z'H_2, z'H_3, z'H_4, z'H_5, z'H_6, z'H_7, z'H_8, z'H_9, z'H_10, z'H_11, z'H_12⟩ := a1u BKH; obtain ⟨y'H_0, y'H_1, y'H_2, y'H_3, y'H_4, y'H_5, y'H_6, y'H_7, y'H_8, y'H_9, y'H_10, y'H_11, y'H_12⟩ := a1v BKH
   go_wp2_with (first | (go_at_call 30; (with_reducible refine (a3p.calls a0_0 a0_1 a0_2 a0_3 a0_4 false _ E1.out).mono ?_); rintro e w11 ⟨rfl, hb⟩; have nT_ := qkb_ BKT hb; have nM_ := qkb_ BKM hb; have nH_ := qkb_ BKH hb; have nB_ := qbs_ hb; clear HB BKT BKM BKH; have HB := nB_; have BKT := nT_; have BKM := nM_; have BKH := nH_; clear nB_ nT_ nM_ nH_ hb; try clear z'T_0 y'T_0 z'T_1 y'T_1 z'T_2 y'T_2 z'T_3 y'T_3 z'T_4 y'T_4; try clear z'M_0 y'M_0 z'M_1 y'M_1 z'M_2 y'M_2 z'M_3 y'M_3 z'M_4 y'M_4 z'M_5 y'M_5; try clear z'H_0 y'H_0 z'H_1 y'H_1 z'H_2 y'H_2 z'H_3 y'H_3 z'H_4 y'H_4 z'H_5 y'H_5 z'H_6 y'H_6 z'H_7 y'H_7 z'H_8 y'H_8 z'H_9 y'H_9 z'H_10 y'H_10 z'H_11 y'H_11 z'H_12 y'H_12; obtain ⟨z'T_0, z'T_1, z'T_2, z'T_3, z'T_4⟩ := qz5_ BKT; obtain ⟨y'T_0, y'T_1, y'T_2, y'T_3, y'T_4⟩ := qf5_ BKT; obtain ⟨z'M_0, z'M_1, z'M_2, z'M_3, z'M_4, z'M_5⟩ := qz6_ BKM; obtain ⟨y'M_0, y'M_1, y'M_2, y'M_3, y'M_4, y'M_5⟩ := qf6_ BKM; obtain ⟨z'H_0, z'H_1, z'H_2, z'H_3, z'H_4, z'H_5, z'H_6, z'H_7, z'H_8, z'H_9, z'H_10, z'H_11, z'H_12⟩ := a1u BKH; obtain ⟨y'H_0, y'H_1, y'H_2, y'H_3, y'H_4, y'H_5, y'H_6, y'H_7, y'H_8, y'H_9, y'H_10, y'H_11, y'H_12⟩ := a1v BKH))
   go_ret2
   exact ⟨.slice none 0 0, by first | rfl | (simp; done), Kd.a6u _ _ _ _ (fun _ => True), qb_⟩
  | true =>
   rw [if_pos rfl] at h
   obtain ⟨b2, e2, h⟩ := bm_ h
   have E2 := am_ e2
   clear e2
   cases b2 with
   | false =>
    rw [if_neg (by decide)] at h
    obtain ⟨rfl, rfl⟩ : [] = r1 ∧ (1 : Int) = r2 := by simpa using h
    obtain ⟨z'T_0, z'T_1, z'T_2, z'T_3, z'T_4⟩ := qz5_ BKT; obtain ⟨y'T_0, y'T_1, y'T_2, y'T_3, y'T_4⟩ := qf5_ BKT
    obtain ⟨z'M_0, z'M_1, z'M_2, z'M_3, z'M_4, z'M_5⟩ := qz6_ BKM; obtain ⟨y'M_0, y'M_1, y'M_2, y'M_3, y'M_4, y'M_5⟩ := qf6_ BKM
    obtain ⟨z'H_0, z'H_1, z'H_2, z'H_3, z'H_4, z'H_5, z'H_6, z'H_7, z'H_8, z'H_9, z'H_10, z'H_11, z'H_12⟩ := a1u BKH; obtain ⟨y'H_0, y'H_1, y'H_2, y'H_3, y'H_4, y'H_5, y'H_6, y'H_7, y'H_8, y'H_9, y'H_10, y'H_11, y'H_12⟩ := a1v BKH
    go_wp2_with (first | (go_at_call 30; (with_reducible refine (a3p.calls a0_0 a0_1 a0_2 a0_3 a0_4 true _ E1.out).mono ?_); rintro e w11 ⟨rfl, hb⟩; have nT_ := qkb_ BKT hb; have nM_ := qkb_ BKM hb; have nH_ := qkb_ BKH hb; have nB_ := qbs_ hb; clear HB BKT BKM BKH; have HB := nB_; have BKT := nT_; have BKM := nM_; have BKH := nH_; clear nB_ nT_ nM_ nH_ hb; try clear z'T_0 y'T_0 z'T_1 y'T_1 z'T_2 y'T_2 z'T_3 y'T_3 z'T_4 y'T_4; try clear z'M_0 y'M_0 z'M_1 y'M_1 z'M_2 y'M_2 z'M_3 y'M_3 z'M_4 y'M_4 z'M_5 y'M_5; try clear z'H_0 y'H_0 z'H_1 y'H_1 z'H_2 y'H_2 z'H_3 y'H_3 z'H_4 y'H_4 z'H_5 y'H_5 z'H_6 y'H_6 z'H_7 y'H_7 z'H_8 y'H_8 z'H_9 y'H_9 z'H_10 y'H_10 z'H_11 y'H_11 z'H_12 y'H_12; obtain ⟨z'T_0, z'T_1, z'T_2, z'T_3, z'T_4⟩ := qz5_ BKT; obtain ⟨y'T_0, y'T_1, y'T_2, y'T_3, y'T_4⟩ := qf5_ BKT; obtain ⟨z'M_0, z'M_1, z'M_2, z'M_3, z'M_4, z'M_5⟩ := qz6_ BKM; obtain ⟨y'M_0, y'M_1, y'M_2, y'M_3, y'M_4, y'M_5⟩ := qf6_ BKM; obtain ⟨z'H_0, z'H_1, z'H_2, z'H_3, z'H_4, z'H_5, z'H_6, z'H_7, z'H_8, z'H_9, z'H_10, z'H_11, z'H_12⟩ := a1u BKH; obtain ⟨y'H_0, y'H_1, y'H_2, y'H_3, y'H_4, y'H_5, y'H_6, y'H_7, y'H_8, y'H_9, y'H_10, y'H_11, y'H_12⟩ := a1v BKH) | (go_at_call 31; (with_reducible refine (a0l.calls k a0_0 a0_1 a0_2 a0_3 a0_4 a1_0 a1_1 a1_2 _ _ l1_3 _ _ l1_4 _ _ l1_5 a2 _ _ l3 false _ ?s1 ?s2 ?s3 ?s4 ?s5 ?s6 ?s7 ?s8 E2.out).mono ?_); (case s1 => exact qc_ HR1_3); (case s2 => exact HC1_3.out); (case s3 => exact qc_ HR1_4); (case s4 => exact HC1_4.out); (case s5 => exact qc_ HR1_5); (case s6 => exact HC1_5.out); (case s7 => exact qc_ HR3); (case s8 => exact HC3.out); rintro e w12 ⟨rfl, hb⟩; have nT_ := qkb_ BKT hb; have nM_ := qkb_ BKM hb; have nH_ := qkb_ BKH hb; have nB_ := qbs_ hb; clear HB BKT BKM BKH; have HB := nB_; have BKT := nT_; have BKM := nM_; have BKH := nH_; clear nB_ nT_ nM_ nH_ hb; try clear z'T_0 y'T_0 z'T_1 y'T_1 z'T_2 y'T_2 z'T_3 y'T_3 z'T_4 y'T_4; try clear z'M_0 y'M_0 z'M_1 y'M_1 z'M_2 y'M_2 z'M_3 y'M_3 z'M_4 y'M_4 z'M_5 y'M_5; try clear z'H_0 y'H_0 z'H_1 y'H_1 z'H_2 y'H_2 z'H_3 y'H_3 z'H_4 y'H_4 z'H_5 y'H_5 z'H_6 y'H_6 z'H_7 y'H_7 z'H_8 y'H_8 z'H_9 y'H_9 z'H_10 y'H_10 z'H_11 y'H_11 z'H_12 y'H_12; obtain ⟨z'T_0, z'T_1, z'T_2, z'T_3, z'T_4⟩ := qz5_ BKT; obtain ⟨y'T_0, y'T_1, y'T_2, y'T_3, y'T_4⟩ := qf5_ BKT; obtain ⟨z'M_0, z'M_1, z'M_2, z'M_3, z'M_4, z'M_5⟩ := qz6_ BKM; obtain ⟨y'M_0, y'M_1, y'M_2, y'M_3, y'M_4, y'M_5⟩ := qf6_ BKM; obtain ⟨z'H_0, z'H_1, z'H_2, z'H_3, z'H_4, z'H_5, z'H_6, z'H_7, z'H_8, z'H_9, z'H_10, z'H_11, z'H_12⟩ := a1u BKH; obtain ⟨y'H_0, y'H_1, y'H_2, y'H_3, y'H_4, y'H_5, y'H_6, y'H_7, y'H_8, y'H_9, y'H_10, y'H_11, y'H_12⟩ := a1v BKH))
    go_ret2
    exact ⟨.slice none 0 0, by first | rfl | (simp; done), Kd.a6u _ _ _ _ (fun _ => True), qb_⟩
   | true =>
    rw [if_pos rfl] at h
    obtain ⟨b3, e3, h⟩ := bm_ h
    have E3 := am_ e3
    clear e3
    cases b3 with
    | false =>
     rw [if_neg (by decide)] at h
     obtain ⟨rfl, rfl⟩ : [] = r1 ∧ (1 : Int) = r2 := by simpa using h
     obtain ⟨z'T_0, z'T_1, z'T_2, z'T_3, z'T_4⟩ := qz5_ BKT; obtain ⟨y'T_0, y'T_1, y'T_2, y'T_3, y'T_4⟩ := qf5_ BKT
     obtain ⟨z'M_0, z'M_1, z'M_2, z'M_3, z'M_4, z'M_5⟩ := qz6_ BKM; obtain ⟨y'M_0, y'M_1, y'M_2, y'M_3, y'M_4, y'M_5⟩ := qf6_ BKM
     obtain ⟨z'H_0, z'H_1, z'H_2, z'H_3, z'H_4, z'H_5, z'H_6, z'H_7, z'H_8, z'H_9, z'H_10, z'H_11, z'H_12⟩ := a1u BKH; obtain ⟨y'H_0, y'H_1, y'H_2, y'H_3, y'H_4, y'H_5, y'H_6, y'H_7, y'H_8, y'H_9, y'H_10, y'H_11, y'H_12⟩ := a1v BKH
     go_wp2_with (first | (go_at_call 30; (with_reducible refine (a3p.calls a0_0 a0_1 a0_2 a0_3 a0_4 true _ E1.out).mono ?_); rintro e w11 ⟨rfl, hb⟩; have nT_ := qkb_ BKT hb; have nM_ := qkb_ BKM hb; have nH_ := qkb_ BKH hb; have nB_ := qbs_ hb; clear HB BKT BKM BKH; have HB := nB_; have BKT := nT_; have BKM := nM_; have BKH := nH_; clear nB_ nT_ nM_ nH_ hb; try clear z'T_0 y'T_0 z'T_1 y'T_1 z'T_2 y'T_2 z'T_3 y'T_3 z'T_4 y'T_4; try clear z'M_0 y'M_0 z'M_1 y'M_1 z'M_2 y'M_2 z'M_3 y'M_3 z'M_4 y'M_4 z'M_5 y'M_5; try clear z'H_0 y'H_0 z'H_1 y'H_1 z'H_2 y'H_2 z'H_3 y'H_3 z'H_4 y'H_4 z'H_5 y'H_5 z'H_6 y'H_6 z'H_7 y'H_7 z'H_8 y'H_8 z'H_9 y'H_9 z'H_10 y'H_10 z'H_11 y'H_11 z'H_12 y'H_12; obtain ⟨z'T_0, z'T_1, z'T_2, z'T_3, z'T_4⟩ := qz5_ BKT; obtain ⟨y'T_0, y'T_1, y'T_2, y'T_3, y'T_4⟩ := qf5_ BKT; obtain ⟨z'M_0, z'M_1, z'M_2, z'M_3, z'M_4, z'M_5⟩ := qz6_ BKM; obtain ⟨y'M_0, y'M_1, y'M_2, y'M_3, y'M_4, y'M_5⟩ := qf6_ BKM; obtain ⟨z'H_0, z'H_1, z'H_2, z'H_3, z'H_4, z'H_5, z'H_6, z'H_7, z'H_8, z'H_9, z'H_10, z'H_11, z'H_12⟩ := a1u BKH; obtain ⟨y'H_0, y'H_1, y'H_2, y'H_3, y'H_4, y'H_5, y'H_6, y'H_7, y'H_8, y'H_9, y'H_10, y'H_11, y'H_12⟩ := a1v BKH) | (go_at_call 31; (with_reducible refine (a0l.calls k a0_0 a0_1 a0_2 a0_3 a0_4 a1_0 a1_1 a1_2 _ _ l1_3 _ _ l1_4 _ _ l1_5 a2 _ _ l3 true _ ?s1 ?s2 ?s3 ?s4 ?s5 ?s6 ?s7 ?s8 E2.out).mono ?_); (case s1 => exact qc_ HR1_3); (case s2 => exact HC1_3.out); (case s3 => exact qc_ HR1_4); (case s4 => exact HC1_4.out); (case s5 => exact qc_ HR1_5); (case s6 => exact HC1_5.out); (case s7 => exact qc_ HR3); (case s8 => exact HC3.out); rintro e w12 ⟨rfl, hb⟩; have nT_ := qkb_ BKT hb; have nM_ := qkb_ BKM hb; have nH_ := qkb_ BKH hb; have nB_ := qbs_ hb; clear HB BKT BKM BKH; have HB := nB_; have BKT := nT_; have BKM := nM_; have BKH := nH_; clear nB_ nT_ nM_ nH_ hb; try clear z'T_0 y'T_0 z'T_1 y'T_1 z'T_2 y'T_2 z'T_3 y'T_3 z'T_4 y'T_4; try clear z'M_0 y'M_0 z'M_1 y'M_1 z'M_2 y'M_2 z'M_3 y'M_3 z'M_4 y'M_4 z'M_5 y'M_5; try clear z'H_0 y'H_0 z'H_1 y'H_1 z'H_2 y'H_2 z'H_3 y'H_3 z'H_4 y'H_4 z'H_5 y'H_5 z'H_6 y'H_6 z'H_7 y'H_7 z'H_8 y'H_8 z'H_9 y'H_9 z'H_10 y'H_10 z'H_11 y'H_11 z'H_12 y'H_12; obtain ⟨z'T_0, z'T_1, z'T_2, z'T_3, z'T_4⟩ := qz5_ BKT; obtain ⟨y'T_0, y'T_1, y'T_2, y'T_3, y'T_4⟩ := qf5_ BKT; obtain ⟨z'M_0, z'M_1, z'M_2, z'M_3, z'M_4, z'M_5⟩ := qz6_ BKM; obtain ⟨y'M_0, y'M_1, y'M_2, y'M_3, y'M_4, y'M_5⟩ := qf6_ BKM; obtain ⟨z'H_0, z'H_1, z'H_2, z'H_3, z'H_4, z'H_5, z'H_6, z'H_7, z'H_8, z'H_9, z'H_10, z'H_11, z'H_12⟩ := a1u BKH; obtain ⟨y'H_0, y'H_1, y'H_2, y'H_3, y'H_4, y'H_5, y'H_6, y'H_7, y'H_8, y'H_9, y'H_10, y'H_11, y'H_12⟩ := a1v BKH) | (go_at_call 43; (with_reducible refine (a4o.calls a2 false _ E3.out).mono ?_); rintro e w13 ⟨rfl, hb⟩; have nT_ := qkb_ BKT hb; have nM_ := qkb_ BKM hb; have nH_ := qkb_ BKH hb; have nB_ := qbs_ hb; clear HB BKT BKM BKH; have HB := nB_; have BKT := nT_; have BKM := nM_; have BKH := nH_; clear nB_ nT_ nM_ nH_ hb; try clear z'T_0 y'T_0 z'T_1 y'T_1 z'T_2 y'T_2 z'T_3 y'T_3 z'T_4 y'T_4; try clear z'M_0 y'M_0 z'M_1 y'M_1 z'M_2 y'M_2 z'M_3 y'M_3 z'M_4 y'M_4 z'M_5 y'M_5; try clear z'H_0 y'H_0 z'H_1 y'H_1 z'H_2 y'H_2 z'H_3 y'H_3 z'H_4 y'H_4 z'H_5 y'H_5 z'H_6 y'H_6 z'H_7 y'H_7 z'H_8 y'H_8 z'H_9 y'H_9 z'H_10 y'H_10 z'H_11 y'H_11 z'H_12 y'H_12; obtain ⟨z'T_0, z'T_1, z'T_2, z'T_3, z'T_4⟩ := qz5_ BKT; obtain ⟨y'T_0, y'T_1, y'T_2, y'T_3, y'T_4⟩ := qf5_ BKT; obtain ⟨z'M_0, z'M_1, z'M_2, z'M_3, z'M_4, z'M_5⟩ := qz6_ BKM; obtain ⟨y'M_0, y'M_1, y'M_2, y'M_3, y'M_4, y'M_5⟩ := qf6_ BKM; obtain ⟨z'H_0, z'H_1, z'H_2, z'H_3, z'H_4, z'H_5, z'H_6, z'H_7, z'H_8, z'H_9, z'H_10, z'H_11, z'H_12⟩ := a1u BKH; obtain ⟨y'H_0, y'H_1, y'H_2, y'H_3, y'H_4, y'H_5, y'H_6, y'H_7, y'H_8, y'H_9, y'H_10, y'H_11, y'H_12⟩ := a1v BKH))
     go_ret2
     exact ⟨.slice none 0 0, by first | rfl | (simp; done), Kd.a6u _ _ _ _ (fun _ => True), qb_⟩
    | true =>
     rw [if_pos rfl] at h
     obtain ⟨x1, x1, h⟩ := bm_ h
     have X1 := am_ x1
     clear x1
     obtain ⟨x2, x2, h⟩ := bm_ h
     have X2 := am_ x2
     clear x2
     obtain ⟨x3, x3, h⟩ := bm_ h
     have X3 := am_ x3
     clear x3
     obtain ⟨x4, x4, h⟩ := bm_ h
     have X4 := am_ x4
     clear x4
     obtain ⟨hr1, rfl⟩ : a3j x1 1 ++ a3j x2 2 ++ a3j x3 3 ++ a3j x4 4 = r1 ∧ (0 : Int) = r2 := by simpa using h
     have HR1 := am_ hr1
     clear h hr1
     obtain ⟨z'T_0, z'T_1, z'T_2, z'T_3, z'T_4⟩ := qz5_ BKT; obtain ⟨y'T_0, y'T_1, y'T_2, y'T_3, y'T_4⟩ := qf5_ BKT
     obtain ⟨z'M_0, z'M_1, z'M_2, z'M_3, z'M_4, z'M_5⟩ := qz6_ BKM; obtain ⟨y'M_0, y'M_1, y'M_2, y'M_3, y'M_4, y'M_5⟩ := qf6_ BKM
     obtain ⟨z'H_0, z'H_1, z'H_2, z'H_3, z'H_4, z'H_5, z'H_6, z'H_7, z'H_8, z'H_9, z'H_10, z'H_11, z'H_12⟩ := a1u BKH; obtain ⟨y'H_0, y'H_1, y'H_2, y'H_3, y'H_4, y'H_5, y'H_6, y'H_7, y'H_8, y'H_9, y'H_10, y'H_11, y'H_12⟩ := a1v BKH
     go_upto_region 6 with (first | (go_at_call 30; (with_reducible refine (a3p.calls a0_0 a0_1 a0_2 a0_3 a0_4 true _ E1.out).mono ?_); rintro e w11 ⟨rfl, hb⟩; have nT_ := qkb_ BKT hb; have nM_ := qkb_ BKM hb; have nH_ := qkb_ BKH hb; have nB_ := qbs_ hb; clear HB BKT BKM BKH; have HB := nB_; have BKT := nT_; have BKM := nM_; have BKH := nH_; clear nB_ nT_ nM_ nH_ hb; try clear z'T_0 y'T_0 z'T_1 y'T_1 z'T_2 y'T_2 z'T_3 y'T_3 z'T_4 y'T_4; try clear z'M_0 y'M_0 z'M_1 y'M_1 z'M_2 y'M_2 z'M_3 y'M_3 z'M_4 y'M_4 z'M_5 y'M_5; try clear z'H_0 y'H_0 z'H_1 y'H_1 z'H_2 y'H_2 z'H_3 y'H_3 z'H_4 y'H_4 z'H_5 y'H_5 z'H_6 y'H_6 z'H_7 y'H_7 z'H_8 y'H_8 z'H_9 y'H_9 z'H_10 y'H_10 z'H_11 y'H_11 z'H_12 y'H_12; obtain ⟨z'T_0, z'T_1, z'T_2, z'T_3, z'T_4⟩ := qz5_ BKT; obtain ⟨y'T_0, y'T_1, y'T_2, y'T_3, y'T_4⟩ := qf5_ BKT; obtain ⟨z'M_0, z'M_1, z'M_2, z'M_3, z'M_4, z'M_5⟩ := qz6_ BKM; obtain ⟨y'M_0, y'M_1, y'M_2, y'M_3, y'M_4, y'M_5⟩ := qf6_ BKM; obtain ⟨z'H_0, z'H_1, z'H_2, z'H_3, z'H_4, z'H_5, z'H_6, z'H_7, z'H_8, z'H_9, z'H_10, z'H_11, z'H_12⟩ := a1u BKH; obtain ⟨y'H_0, y'H_1, y'H_2, y'H_3, y'H_4, y'H_5, y'H_6, y'H_7, y'H_8, y'H_9, y'H_10, y'H_11, y'H_12⟩ := a1v BKH) | (go_at_call 31; (with_reducible refine (a0l.calls k a0_0 a0_1 a0_2 a0_3 a0_4 a1_0 a1_1 a1_2 _ _ l1_3 _ _ l1_4 _ _ l1_5 a2 _ _ l3 true _ ?s1 ?s2 ?s3 ?s4 ?s5 ?s6 ?s7 ?s8 E2.out).mono ?_); (case s1 => exact qc_ HR1_3); (case s2 => exact HC1_3.out); (case s3 => exact qc_ HR1_4); (case s4 => exact HC1_4.out); (case s5 => exact qc_ HR1_5); (case s6 => exact HC1_5.out); (case s7 => exact qc_ HR3); (case s8 => exact HC3.out); rintro e w12 ⟨rfl, hb⟩; have nT_ := qkb_ BKT hb; have nM_ := qkb_ BKM hb; have nH_ := qkb_ BKH hb; have nB_ := qbs_ hb; clear HB BKT BKM BKH; have HB := nB_; have BKT := nT_; have BKM := nM_; have BKH := nH_; clear nB_ nT_ nM_ nH_ hb; try clear z'T_0 y'T_0 z'T_1 y'T_1 z'T_2 y'T_2 z'T_3 y'T_3 z'T_4 y'T_4; try clear z'M_0 y'M_0 z'M_1 y'M_1 z'M_2 y'M_2 z'M_3 y'M_3 z'M_4 y'M_4 z'M_5 y'M_5; try clear z'H_0 y'H_0 z'H_1 y'H_1 z'H_2 y'H_2 z'H_3 y'H_3 z'H_4 y'H_4 z'H_5 y'H_5 z'H_6 y'H_6 z'H_7 y'H_7 z'H_8 y'H_8 z'H_9 y'H_9 z'H_10 y'H_10 z'H_11 y'H_11 z'H_12 y'H_12; obtain ⟨z'T_0, z'T_1, z'T_2, z'T_3, z'T_4⟩ := qz5_ BKT; obtain ⟨y'T_0, y'T_1, y'T_2, y'T_3, y'T_4⟩ := qf5_ BKT; obtain ⟨z'M_0, z'M_1, z'M_2, z'M_3, z'M_4, z'M_5⟩ := qz6_ BKM; obtain ⟨y'M_0, y'M_1, y'M_2, y'M_3, y'M_4, y'M_5⟩ := qf6_ BKM; obtain ⟨z'H_0, z'H_1, z'H_2, z'H_3, z'H_4, z'H_5, z'H_6, z'H_7, z'H_8, z'H_9, z'H_10, z'H_11, z'H_12⟩ := a1u BKH; obtain ⟨y'H_0, y'H_1, y'H_2, y'H_3, y'H_4, y'H_5, y'H_6, y'H_7, y'H_8, y'H_9, y'H_10, y'H_11, y'H_12⟩ := a1v BKH) | (go_at_call 43; (with_reducible refine (a4o.calls a2 true _ E3.out).mono ?_); rintro e w13 ⟨rfl, hb⟩; have nT_ := qkb_ BKT hb; have nM_ := qkb_ BKM hb; have nH_ := qkb_ BKH hb; have nB_ := qbs_ hb; clear HB BKT BKM BKH; have HB := nB_; have BKT := nT_; have BKM := nM_; have BKH := nH_; clear nB_ nT_ nM_ nH_ hb; try clear z'T_0 y'T_0 z'T_1 y'T_1 z'T_2 y'T_2 z'T_3 y'T_3 z'T_4 y'T_4; try clear z'M_0 y'M_0 z'M_1 y'M_1 z'M_2 y'M_2 z'M_3 y'M_3 z'M_4 y'M_4 z'M_5 y'M_5; try clear z'H_0 y'H_0 z'H_1 y'H_1 z'H_2 y'H_2 z'H_3 y'H_3 z'H_4 y'H_4 z'H_5 y'H_5 z'H_6 y'H_6 z'H_7 y'H_7 z'H_8 y'H_8 z'H_9 y'H_9 z'H_10 y'H_10 z'H_11 y'H_11 z'H_12 y'H_12; obtain ⟨z'T_0, z'T_1, z'T_2, z'T_3, z'T_4⟩ := qz5_ BKT; obtain ⟨y'T_0, y'T_1, y'T_2, y'T_3, y'T_4⟩ := qf5_ BKT; obtain ⟨z'M_0, z'M_1, z'M_2, z'M_3, z'M_4, z'M_5⟩ := qz6_ BKM; obtain ⟨y'M_0, y'M_1, y'M_2, y'M_3, y'M_4, y'M_5⟩ := qf6_ BKM; obtain ⟨z'H_0, z'H_1, z'H_2, z'H_3, z'H_4, z'H_5, z'H_6, z'H_7, z'H_8, z'H_9, z'H_10, z'H_11, z'H_12⟩ := a1u BKH; obtain ⟨y'H_0, y'H_1, y'H_2, y'H_3, y'H_4, y'H_5, y'H_6, y'H_7, y'H_8, y'H_9, y'H_10, y'H_11, y'H_12⟩ := a1v BKH))
     clear z'T_0 y'T_0 z'T_1 y'T_1 z'T_2 y'T_2 z'T_3 y'T_3 z'T_4 y'T_4 z'M_0 y'M_0 z'M_1 y'M_1 z'M_2 y'M_2 z'M_3 y'M_3 z'M_4 y'M_4 z'M_5 y'M_5 z'H_0 y'H_0 z'H_1 y'H_1 z'H_2 y'H_2 z'H_3 y'H_3 z'H_4 y'H_4 z'H_5 y'H_5 z'H_6 y'H_6 z'H_7 y'H_7 z'H_8 y'H_8 z'H_9 y'H_9 z'H_10 y'H_10 z'H_11 y'H_11 z'H_12 y'H_12
     go_wp2_with (first | ((with_reducible refine a0f (N := 47) rfl ?_); refine b2g ?hg (N := 47) ?hd 4 (cs := #[.int .i64 1, .func (.func 44) #[] #[], .int .i64 2, .func (.func 45) #[] #[], .int .i64 3, .func (.func 46) #[] #[], .int .i64 4, .func (.func 47) #[] #[]]) (t := 75) ?hr ?_; (case hd => rfl); (case hg => rfl); (case hr => exact qq_); intro gC hg w15 hbox hb; have nH_ := qkb_ BKH hb; have nB_ := qbs_ hb; have nC_ := am_ hbox; have mH_ := am_ ((by rw [hg]; exact Nat.ne_of_lt (a0u (qk_ BKH))) : gH ≠ gC); clear BKH HB; have BKH := nH_; have HB := nB_; have BKC := nC_; have NEH_C := mH_; clear nH_ nB_ nC_ mH_ hb hbox hg))
     go_loopg [13, 49] 5 (fun kq v13 v49 w' => ∃ (x : Int), v49 = .int .i64 x ∧ 0 ≤ x ∧ Aside0 (x ≤ 4) ∧ Aside0 ((4 - x).toNat < kq) ∧ Aside0 (Kd.R (Kd.int .i64) 3 w' w.heap.size (fun _ => True) v13 (a2j x1 x2 x3 x4 x)) ∧ Aside0 (w'.heap[gH]? = some (.cells #[.int .i64 a0_0, .int .i64 a0_1, .int .i64 a0_2, .int .i64 a0_3, .bool a0_4, .int .i64 a1_0, .int .i64 a1_1, .int .i64 a1_2, .slice A1_3 l1_3.length c1_3, .slice A1_4 l1_4.length c1_4, .slice A1_5 l1_5.length c1_5, .string a2, .slice A3 l3.length c3] 62 (0, 0))) ∧ Aside0 (w'.heap[gC]? = some (.cells #[.int .i64 1, .func (.func 44) #[] #[], .int .i64 2, .func (.func 45) #[] #[], .int .i64 3, .func (.func 46) #[] #[], .int .i64 4, .func (.func 47) #[] #[]] 75 (0, 0))) ∧ Aside0 (Below w.heap.size w w'))
     case atStart => exact ⟨0, by first | rfl | (simp; done), by omega, ⟨by omega⟩, ⟨by omega⟩, ⟨Kd.a6u _ _ _ _ (fun _ => True)⟩, ⟨qk_ BKH⟩, ⟨qk_ BKC⟩, ⟨qb_⟩⟩
     case round =>
      clear BKT BKM BKH BKC HB
      obtain ⟨x, rfl, h0, H4, HK, HO, BKH, BKC, HB⟩ := hrel
      have hc : x = 4 ∨ x = 0 ∨ x = 1 ∨ x = 2 ∨ x = 3 := by have := H4.out; omega
      rcases hc with rfl | rfl | rfl | rfl | rfl
      ·have hfin : a2j x1 x2 x3 x4 4 = r1 := HR1.out
       rw [hfin] at HO
       go_wp2
       go_ret2
       exact ⟨u13, by first | rfl | (simp; done), by (with_reducible repeat (first | apply Kd.a1e | apply Kd.a1f | apply Kd.a0y)); exact HO.out, qb_⟩
      ·have hcC_0 : wr.cell? ⟨gC, 0, none⟩ = some (.int .i64 1) := (bc_ BKC.out 0).trans rfl
       have hcC_1 : wr.cell? ⟨gC, 1, none⟩ = some (.func (.func 44) #[] #[]) := (bc_ BKC.out 1).trans rfl
       go_upto_region 9 with (first | ((with_reducible refine a0f (N := 15) rfl ?_); refine qev_ 15 #[.int .i64 0, .nilFunc] 75 ?_; intro gK hg w16 hbox hb; have nH_ := qkb_ BKH hb; have nC_ := qkb_ BKC hb; have nO_ := am_ (Kd.a3m (by (with_reducible repeat (first | apply Kd.a1e | apply Kd.a1f | apply Kd.a0y)); exact HO.out : Kd.R (Kd.int .i64) 3 _ w.heap.size (fun _ => True) u13 (a2j x1 x2 x3 x4 0)) hb); have mH_ := am_ ((by rw [hg]; exact Nat.ne_of_lt (a0u (qk_ BKH))) : gH ≠ gK); have mC_ := am_ ((by rw [hg]; exact Nat.ne_of_lt (a0u (qk_ BKC))) : gC ≠ gK); have nG_ := am_ ((by rw [hg]; exact (a0x qb_)) : w.heap.size ≤ gK); have nB_ := qbs_ hb; have nK_ := am_ hbox; clear hcC_0 hcC_1 BKH BKC HB HO; have BKH := nH_; have BKC := nC_; have HO := nO_; have NEH_K := mH_; have NEC_K := mC_; have GEK := nG_; have HB := nB_; have BKK := nK_; clear nH_ nC_ nO_ mH_ mC_ nG_ nB_ nK_ hb hbox hg; have z'K_0 : w16.cell? ⟨gK, 0, none⟩ = some (.int .i64 0) := (bc_ BKK.out 0).trans rfl; have z'K_1 : w16.cell? ⟨gK, 1, none⟩ = some .nilFunc := (bc_ BKK.out 1).trans rfl; have y'K_0 := bf_ BKK.out 0; have y'K_1 := bf_ BKK.out 1))
       have nH_ := am_ (a4j NEH_K.out [.int .i64 1, .func (.func 44) #[] #[]] 0 w16 BKH.out)
       have nC_ := am_ (a4j NEC_K.out [.int .i64 1, .func (.func 44) #[] #[]] 0 w16 BKC.out)
       have nK_ : Aside0 ((a4f w16 gK 0 [.int .i64 1, .func (.func 44) #[] #[]]).heap[gK]? = some (.cells #[.int .i64 1, .func (.func 44) #[] #[]] 75 (0, 0))) := ⟨a6a [.int .i64 1, .func (.func 44) #[] #[]] 0 w16 _ BKK.out rfl⟩
       have nO_ := am_ (a7a (by decide) [.int .i64 1, .func (.func 44) #[] #[]] 0 w16 _ BKK.out HO.out)
       have nB_ := am_ (a5o GEK.out [.int .i64 1, .func (.func 44) #[] #[]] 0 w16 HB.out)
       change Code.wp _ _ _ _ (a4f w16 gK 0 [.int .i64 1, .func (.func 44) #[] #[]])
       clear BKH BKC BKK HB HO z'K_0 z'K_1 y'K_0 y'K_1
       generalize a4f w16 gK 0 [.int .i64 1, .func (.func 44) #[] #[]] = w17 at nH_ nC_ nK_ nO_ nB_ ⊢
       have hdK_0 : w17.cell? ⟨gK, 0, none⟩ = some (.int .i64 1) := (bc_ nK_.out 0).trans rfl
       have hdK_1 : w17.cell? ⟨gK, 1, none⟩ = some (.func (.func 44) #[] #[]) := (bc_ nK_.out 1).trans rfl
       have z'H_0 : w17.cell? ⟨gH, 0, none⟩ = some (.int .i64 a0_0) := (bc_ nH_.out 0).trans rfl
       have y'H_0 := bf_ nH_.out 0
       have z'H_1 : w17.cell? ⟨gH, 1, none⟩ = some (.int .i64 a0_1) := (bc_ nH_.out 1).trans rfl
       have y'H_1 := bf_ nH_.out 1
       have z'H_2 : w17.cell? ⟨gH, 2, none⟩ = some (.int .i64 a0_2) := (bc_ nH_.out 2).trans rfl
       have y'H_2 := bf_ nH_.out 2
       have z'H_3 : w17.cell? ⟨gH, 3, none⟩ = some (.int .i64 a0_3) := (bc_ nH_.out 3).trans rfl
       have y'H_3 := bf_ nH_.out 3
       have z'H_4 : w17.cell? ⟨gH, 4, none⟩ = some (.bool a0_4) := (bc_ nH_.out 4).trans rfl
       have y'H_4 := bf_ nH_.out 4
       have z'H_5 : w17.cell? ⟨gH, 5, none⟩ = some (.int .i64 a1_0) := (bc_ nH_.out 5).trans rfl
       have y'H_5 := bf_ nH_.out 5
       have z'H_6 : w17.cell? ⟨gH, 6, none⟩ = some (.int .i64 a1_1) := (bc_ nH_.out 6).trans rfl
       have y'H_6 := bf_ nH_.out 6
       have z'H_7 : w17.cell? ⟨gH, 7, none⟩ = some (.int .i64 a1_2) := (bc_ nH_.out 7).trans rfl
       have y'H_7 := bf_ nH_.out 7
       have z'H_8 : w17.cell? ⟨gH, 8, none⟩ = some (.slice A1_3 l1_3.length c1_3) := (bc_ nH_.out 8).trans rfl
       have y'H_8 := bf_ nH_.out 8
       have z'H_9 : w17.cell? ⟨gH, 9, none⟩ = some (.slice A1_4 l1_4.length c1_4) := (bc_ nH_.out 9).trans rfl
       have y'H_9 := bf_ nH_.out 9
       have z'H_10 : w17.cell? ⟨gH, 10, none⟩ = some (.slice A1_5 l1_5.length c1_5) := (bc_ nH_.out 10).trans rfl
       have y'H_10 := bf_ nH_.out 10
       have z'H_11 : w17.cell? ⟨gH, 11, none⟩ = some (.string a2) := (bc_ nH_.out 11).trans rfl
       have y'H_11 := bf_ nH_.out 11
       have z'H_12 : w17.cell? ⟨gH, 12, none⟩ = some (.slice A3 l3.length c3) := (bc_ nH_.out 12).trans rfl
       have y'H_12 := bf_ nH_.out 12
       have BKH := nH_
       have BKC := nC_
       have BKK := nK_
       have HO := nO_
       have HB := nB_
       clear nH_ nC_ nK_ nO_ nB_
       cases x1 with
       | false =>
        have hout : a2j false x2 x3 x4 1 = a2j false x2 x3 x4 0 := by simp [a2j, a3j]
        go_wp2_with (first | (go_at_call 44; (with_reducible refine (a5n.calls k a0_0 a0_1 a0_2 a0_3 a0_4 a1_0 a1_1 a1_2 _ _ l1_3 _ _ l1_4 _ _ l1_5 a2 _ _ l3 false _ ?s1 ?s2 ?s3 ?s4 ?s5 ?s6 ?s7 ?s8 X1.out).mono ?_); (case s1 => exact qc_ HR1_3); (case s2 => exact HC1_3.out); (case s3 => exact qc_ HR1_4); (case s4 => exact HC1_4.out); (case s5 => exact qc_ HR1_5); (case s6 => exact HC1_5.out); (case s7 => exact qc_ HR3); (case s8 => exact HC3.out); rintro e w18 ⟨rfl, hb⟩; have nC_ := qkb_ BKC hb; have nK_ := qkb_ BKK hb; have nO_ := am_ (Kd.a3m (by (with_reducible repeat (first | apply Kd.a1e | apply Kd.a1f | apply Kd.a0y)); exact HO.out : Kd.R (Kd.int .i64) 3 _ w.heap.size (fun _ => True) u13 (a2j false x2 x3 x4 0)) hb); clear BKC BKK HO; have BKC := nC_; have BKK := nK_; have HO := nO_; clear nC_ nK_ nO_ hdK_0 hdK_1; have hdK_0 : w18.cell? ⟨gK, 0, none⟩ = some (.int .i64 1) := (bc_ BKK.out 0).trans rfl; have nH_ := qkb_ BKH hb; have nB_ := qbs_ hb; clear HB BKH; have HB := nB_; have BKH := nH_; clear nB_ nH_ hb; try clear z'H_0 y'H_0 z'H_1 y'H_1 z'H_2 y'H_2 z'H_3 y'H_3 z'H_4 y'H_4 z'H_5 y'H_5 z'H_6 y'H_6 z'H_7 y'H_7 z'H_8 y'H_8 z'H_9 y'H_9 z'H_10 y'H_10 z'H_11 y'H_11 z'H_12 y'H_12; obtain ⟨z'H_0, z'H_1, z'H_2, z'H_3, z'H_4, z'H_5, z'H_6, z'H_7, z'H_8, z'H_9, z'H_10, z'H_11, z'H_12⟩ := a1u BKH; obtain ⟨y'H_0, y'H_1, y'H_2, y'H_3, y'H_4, y'H_5, y'H_6, y'H_7, y'H_8, y'H_9, y'H_10, y'H_11, y'H_12⟩ := a1v BKH))
        rw [← hout] at HO
        go_roundg (4 - 0 : Int).toNat
        case measure => have := HK.out; omega
        case rel => exact ⟨1, by first | rfl | (simp; done) | decide, by omega, ⟨by omega⟩, ⟨by have := HK.out; omega⟩, ⟨by (with_reducible repeat (first | apply Kd.a1e | apply Kd.a1f | apply Kd.a0y)); exact HO.out⟩, ⟨qk_ BKH⟩, ⟨qk_ BKC⟩, ⟨qb_⟩⟩
       | true =>
        have hout : a2j true x2 x3 x4 0 ++ [1] = a2j true x2 x3 x4 1 := by simp [a2j, a3j]
        go_wp2_with (first | (go_at_call 44; (with_reducible refine (a5n.calls k a0_0 a0_1 a0_2 a0_3 a0_4 a1_0 a1_1 a1_2 _ _ l1_3 _ _ l1_4 _ _ l1_5 a2 _ _ l3 true _ ?s1 ?s2 ?s3 ?s4 ?s5 ?s6 ?s7 ?s8 X1.out).mono ?_); (case s1 => exact qc_ HR1_3); (case s2 => exact HC1_3.out); (case s3 => exact qc_ HR1_4); (case s4 => exact HC1_4.out); (case s5 => exact qc_ HR1_5); (case s6 => exact HC1_5.out); (case s7 => exact qc_ HR3); (case s8 => exact HC3.out); rintro e w18 ⟨rfl, hb⟩; have nC_ := qkb_ BKC hb; have nK_ := qkb_ BKK hb; have nO_ := am_ (Kd.a3m (by (with_reducible repeat (first | apply Kd.a1e | apply Kd.a1f | apply Kd.a0y)); exact HO.out : Kd.R (Kd.int .i64) 3 _ w.heap.size (fun _ => True) u13 (a2j true x2 x3 x4 0)) hb); clear BKC BKK HO; have BKC := nC_; have BKK := nK_; have HO := nO_; clear nC_ nK_ nO_ hdK_0 hdK_1; have hdK_0 : w18.cell? ⟨gK, 0, none⟩ = some (.int .i64 1) := (bc_ BKK.out 0).trans rfl; have nH_ := qkb_ BKH hb; have nB_ := qbs_ hb; clear HB BKH; have HB := nB_; have BKH := nH_; clear nB_ nH_ hb; try clear z'H_0 y'H_0 z'H_1 y'H_1 z'H_2 y'H_2 z'H_3 y'H_3 z'H_4 y'H_4 z'H_5 y'H_5 z'H_6 y'H_6 z'H_7 y'H_7 z'H_8 y'H_8 z'H_9 y'H_9 z'H_10 y'H_10 z'H_11 y'H_11 z'H_12 y'H_12; obtain ⟨z'H_0, z'H_1, z'H_2, z'H_3, z'H_4, z'H_5, z'H_6, z'H_7, z'H_8, z'H_9, z'H_10, z'H_11, z'H_12⟩ := a1u BKH; obtain ⟨y'H_0, y'H_1, y'H_2, y'H_3, y'H_4, y'H_5, y'H_6, y'H_7, y'H_8, y'H_9, y'H_10, y'H_11, y'H_12⟩ := a1v BKH) | ((with_reducible refine a4q (b := .append) (xs := #[.tmp 57, .tmp 60]) rfl ?_); at_builtin; refine Kd.a5u (Kd.int .i64) (w0 := w) w.heap.size rfl (.tmp 57) (.tmp 60) 28 3 (.int .i64 0) 8 rfl Try.underlying28 info3 rfl (by decide) (by omega) u13 (a2j true x2 x3 x4 0) 1 [.int .i64 1] (fun _ => True) (fun _ => False) rfl rfl ?aP (fun _ hk => hk.elim) ?aF ?aO ?aB ?aS ?aL ?_; (case aP => exact rfl); (case aB => exact qb_); (case aF => exact (fun _ _ => trivial)); (case aO => exact (qr_ HO)); (case aS => exact (a0x qb_)); (case aL => have hL_ := a6v true x2 x3 x4 0; omega); intro v61 w19 ho hb hg hat; have nH_ := am_ (a3a (g := gH) (o := .cells #[.int .i64 a0_0, .int .i64 a0_1, .int .i64 a0_2, .int .i64 a0_3, .bool a0_4, .int .i64 a1_0, .int .i64 a1_1, .int .i64 a1_2, .slice A1_3 l1_3.length c1_3, .slice A1_4 l1_4.length c1_4, .slice A1_5 l1_5.length c1_5, .string a2, .slice A3 l3.length c3] 62 (0, 0)) (qk_ BKH) hg (Kd.R_ne HO.out BKH.out (by decide))); have nC_ := am_ (a3a (g := gC) (o := .cells #[.int .i64 1, .func (.func 44) #[] #[], .int .i64 2, .func (.func 45) #[] #[], .int .i64 3, .func (.func 46) #[] #[], .int .i64 4, .func (.func 47) #[] #[]] 75 (0, 0)) (qk_ BKC) hg (Kd.R_ne HO.out BKC.out (by decide))); have nB_ := am_ hb; have nO_ := am_ ho; clear BKH BKC HB HO; have BKH := nH_; have BKC := nC_; have HB := nB_; have HO := nO_; clear nH_ nC_ nB_ nO_ ho hb hg hat))
        rw [hout] at HO
        go_roundg (4 - 0 : Int).toNat
        case measure => have := HK.out; omega
        case rel => exact ⟨1, by first | rfl | (simp; done) | decide, by omega, ⟨by omega⟩, ⟨by have := HK.out; omega⟩, ⟨by (with_reducible repeat (first | apply Kd.a1e | apply Kd.a1f | apply Kd.a0y)); exact HO.out⟩, ⟨qk_ BKH⟩, ⟨qk_ BKC⟩, ⟨qb_⟩⟩
      ·have hcC_0 : wr.cell? ⟨gC, 2, none⟩ = some (.int .i64 2) := (bc_ BKC.out 2).trans rfl
       have hcC_1 : wr.cell? ⟨gC, 3, none⟩ = some (.func (.func 45) #[] #[]) := (bc_ BKC.out 3).trans rfl
       go_upto_region 9 with (first | ((with_reducible refine a0f (N := 15) rfl ?_); refine qev_ 15 #[.int .i64 0, .nilFunc] 75 ?_; intro gK hg w16 hbox hb; have nH_ := qkb_ BKH hb; have nC_ := qkb_ BKC hb; have nO_ := am_ (Kd.a3m (by (with_reducible repeat (first | apply Kd.a1e | apply Kd.a1f | apply Kd.a0y)); exact HO.out : Kd.R (Kd.int .i64) 3 _ w.heap.size (fun _ => True) u13 (a2j x1 x2 x3 x4 1)) hb); have mH_ := am_ ((by rw [hg]; exact Nat.ne_of_lt (a0u (qk_ BKH))) : gH ≠ gK); have mC_ := am_ ((by rw [hg]; exact Nat.ne_of_lt (a0u (qk_ BKC))) : gC ≠ gK); have nG_ := am_ ((by rw [hg]; exact (a0x qb_)) : w.heap.size ≤ gK); have nB_ := qbs_ hb; have nK_ := am_ hbox; clear hcC_0 hcC_1 BKH BKC HB HO; have BKH := nH_; have BKC := nC_; have HO := nO_; have NEH_K := mH_; have NEC_K := mC_; have GEK := nG_; have HB := nB_; have BKK := nK_; clear nH_ nC_ nO_ mH_ mC_ nG_ nB_ nK_ hb hbox hg; have z'K_0 : w16.cell? ⟨gK, 0, none⟩ = some (.int .i64 0) := (bc_ BKK.out 0).trans rfl; have z'K_1 : w16.cell? ⟨gK, 1, none⟩ = some .nilFunc := (bc_ BKK.out 1).trans rfl; have y'K_0 := bf_ BKK.out 0; have y'K_1 := bf_ BKK.out 1))
       have nH_ := am_ (a4j NEH_K.out [.int .i64 2, .func (.func 45) #[] #[]] 0 w16 BKH.out)
       have nC_ := am_ (a4j NEC_K.out [.int .i64 2, .func (.func 45) #[] #[]] 0 w16 BKC.out)
       have nK_ : Aside0 ((a4f w16 gK 0 [.int .i64 2, .func (.func 45) #[] #[]]).heap[gK]? = some (.cells #[.int .i64 2, .func (.func 45) #[] #[]] 75 (0, 0))) := ⟨a6a [.int .i64 2, .func (.func 45) #[] #[]] 0 w16 _ BKK.out rfl⟩
       have nO_ := am_ (a7a (by decide) [.int .i64 2, .func (.func 45) #[] #[]] 0 w16 _ BKK.out HO.out)
       have nB_ := am_ (a5o GEK.out [.int .i64 2, .func (.func 45) #[] #[]] 0 w16 HB.out)
       change Code.wp _ _ _ _ (a4f w16 gK 0 [.int .i64 2, .func (.func 45) #[] #[]])
       clear BKH BKC BKK HB HO z'K_0 z'K_1 y'K_0 y'K_1
       generalize a4f w16 gK 0 [.int .i64 2, .func (.func 45) #[] #[]] = w17 at nH_ nC_ nK_ nO_ nB_ ⊢
       have hdK_0 : w17.cell? ⟨gK, 0, none⟩ = some (.int .i64 2) := (bc_ nK_.out 0).trans rfl
       have hdK_1 : w17.cell? ⟨gK, 1, none⟩ = some (.func (.func 45) #[] #[]) := (bc_ nK_.out 1).trans rfl
       have z'H_0 : w17.cell? ⟨gH, 0, none⟩ = some (.int .i64 a0_0) := (bc_ nH_.out 0).trans rfl
       have y'H_0 := bf_ nH_.out 0
       have z'H_1 : w17.cell? ⟨gH, 1, none⟩ = some (.int .i64 a0_1) := (bc_ nH_.out 1).trans rfl
       have y'H_1 := bf_ nH_.out 1
       have z'H_2 : w17.cell? ⟨gH, 2, none⟩ = some (.int .i64 a0_2) := (bc_ nH_.out 2).trans rfl
       have y'H_2 := bf_ nH_.out 2
       have z'H_3 : w17.cell? ⟨gH, 3, none⟩ = some (.int .i64 a0_3) := (bc_ nH_.out 3).trans rfl
       have y'H_3 := bf_ nH_.out 3
       have z'H_4 : w17.cell? ⟨gH, 4, none⟩ = some (.bool a0_4) := (bc_ nH_.out 4).trans rfl
       have y'H_4 := bf_ nH_.out 4
       have z'H_5 : w17.cell? ⟨gH, 5, none⟩ = some (.int .i64 a1_0) := (bc_ nH_.out 5).trans rfl
       have y'H_5 := bf_ nH_.out 5
       have z'H_6 : w17.cell? ⟨gH, 6, none⟩ = some (.int .i64 a1_1) := (bc_ nH_.out 6).trans rfl
       have y'H_6 := bf_ nH_.out 6
       have z'H_7 : w17.cell? ⟨gH, 7, none⟩ = some (.int .i64 a1_2) := (bc_ nH_.out 7).trans rfl
       have y'H_7 := bf_ nH_.out 7
       have z'H_8 : w17.cell? ⟨gH, 8, none⟩ = some (.slice A1_3 l1_3.length c1_3) := (bc_ nH_.out 8).trans rfl
       have y'H_8 := bf_ nH_.out 8
       have z'H_9 : w17.cell? ⟨gH, 9, none⟩ = some (.slice A1_4 l1_4.length c1_4) := (bc_ nH_.out 9).trans rfl
       have y'H_9 := bf_ nH_.out 9
       have z'H_10 : w17.cell? ⟨gH, 10, none⟩ = some (.slice A1_5 l1_5.length c1_5) := (bc_ nH_.out 10).trans rfl
       have y'H_10 := bf_ nH_.out 10
       have z'H_11 : w17.cell? ⟨gH, 11, none⟩ = some (.string a2) := (bc_ nH_.out 11).trans rfl
       have y'H_11 := bf_ nH_.out 11
       have z'H_12 : w17.cell? ⟨gH, 12, none⟩ = some (.slice A3 l3.length c3) := (bc_ nH_.out 12).trans rfl
       have y'H_12 := bf_ nH_.out 12
       have BKH := nH_
       have BKC := nC_
       have BKK := nK_
       have HO := nO_
       have HB := nB_
       clear nH_ nC_ nK_ nO_ nB_
       cases x2 with
       | false =>
        have hout : a2j x1 false x3 x4 2 = a2j x1 false x3 x4 1 := by simp [a2j, a3j]
        go_wp2_with (first | (go_at_call 45; (with_reducible refine (a4h.calls k a0_0 a0_1 a0_2 a0_3 a0_4 a1_0 a1_1 a1_2 _ _ l1_3 _ _ l1_4 _ _ l1_5 a2 _ _ l3 false _ ?s1 ?s2 ?s3 ?s4 ?s5 ?s6 ?s7 ?s8 X2.out).mono ?_); (case s1 => exact qc_ HR1_3); (case s2 => exact HC1_3.out); (case s3 => exact qc_ HR1_4); (case s4 => exact HC1_4.out); (case s5 => exact qc_ HR1_5); (case s6 => exact HC1_5.out); (case s7 => exact qc_ HR3); (case s8 => exact HC3.out); rintro e w18 ⟨rfl, hb⟩; have nC_ := qkb_ BKC hb; have nK_ := qkb_ BKK hb; have nO_ := am_ (Kd.a3m (by (with_reducible repeat (first | apply Kd.a1e | apply Kd.a1f | apply Kd.a0y)); exact HO.out : Kd.R (Kd.int .i64) 3 _ w.heap.size (fun _ => True) u13 (a2j x1 false x3 x4 1)) hb); clear BKC BKK HO; have BKC := nC_; have BKK := nK_; have HO := nO_; clear nC_ nK_ nO_ hdK_0 hdK_1; have hdK_0 : w18.cell? ⟨gK, 0, none⟩ = some (.int .i64 2) := (bc_ BKK.out 0).trans rfl; have nH_ := qkb_ BKH hb; have nB_ := qbs_ hb; clear HB BKH; have HB := nB_; have BKH := nH_; clear nB_ nH_ hb; try clear z'H_0 y'H_0 z'H_1 y'H_1 z'H_2 y'H_2 z'H_3 y'H_3 z'H_4 y'H_4 z'H_5 y'H_5 z'H_6 y'H_6 z'H_7 y'H_7 z'H_8 y'H_8 z'H_9 y'H_9 z'H_10 y'H_10 z'H_11 y'H_11 z'H_12 y'H_12; obtain ⟨z'H_0, z'H_1, z'H_2, z'H_3, z'H_4, z'H_5, z'H_6, z'H_7, z'H_8, z'H_9, z'H_10, z'H_11, z'H_12⟩ := a1u BKH; obtain ⟨y'H_0, y'H_1, y'H_2, y'H_3, y'H_4, y'H_5, y'H_6, y'H_7, y'H_8, y'H_9, y'H_10, y'H_11, y'H_12⟩ := a1v BKH))
        rw [← hout] at HO
        go_roundg (4 - 1 : Int).toNat
        case measure => have := HK.out; omega
        case rel => exact ⟨2, by first | rfl | (simp; done) | decide, by omega, ⟨by omega⟩, ⟨by have := HK.out; omega⟩, ⟨by (with_reducible repeat (first | apply Kd.a1e | apply Kd.a1f | apply Kd.a0y)); exact HO.out⟩, ⟨qk_ BKH⟩, ⟨qk_ BKC⟩, ⟨qb_⟩⟩
       | true =>
        have hout : a2j x1 true x3 x4 1 ++ [2] = a2j x1 true x3 x4 2 := by simp [a2j, a3j]
        go_wp2_with (first | (go_at_call 45; (with_reducible refine (a4h.calls k a0_0 a0_1 a0_2 a0_3 a0_4 a1_0 a1_1 a1_2 _ _ l1_3 _ _ l1_4 _ _ l1_5 a2 _ _ l3 true _ ?s1 ?s2 ?s3 ?s4 ?s5 ?s6 ?s7 ?s8 X2.out).mono ?_); (case s1 => exact qc_ HR1_3); (case s2 => exact HC1_3.out); (case s3 => exact qc_ HR1_4); (case s4 => exact HC1_4.out); (case s5 => exact qc_ HR1_5); (case s6 => exact HC1_5.out); (case s7 => exact qc_ HR3); (case s8 => exact HC3.out); rintro e w18 ⟨rfl, hb⟩; have nC_ := qkb_ BKC hb; have nK_ := qkb_ BKK hb; have nO_ := am_ (Kd.a3m (by (with_reducible repeat (first | apply Kd.a1e | apply Kd.a1f | apply Kd.a0y)); exact HO.out : Kd.R (Kd.int .i64) 3 _ w.heap.size (fun _ => True) u13 (a2j x1 true x3 x4 1)) hb); clear BKC BKK HO; have BKC := nC_; have BKK := nK_; have HO := nO_; clear nC_ nK_ nO_ hdK_0 hdK_1; have hdK_0 : w18.cell? ⟨gK, 0, none⟩ = some (.int .i64 2) := (bc_ BKK.out 0).trans rfl; have nH_ := qkb_ BKH hb; have nB_ := qbs_ hb; clear HB BKH; have HB := nB_; have BKH := nH_; clear nB_ nH_ hb; try clear z'H_0 y'H_0 z'H_1 y'H_1 z'H_2 y'H_2 z'H_3 y'H_3 z'H_4 y'H_4 z'H_5 y'H_5 z'H_6 y'H_6 z'H_7 y'H_7 z'H_8 y'H_8 z'H_9 y'H_9 z'H_10 y'H_10 z'H_11 y'H_11 z'H_12 y'H_12; obtain ⟨z'H_0, z'H_1, z'H_2, z'H_3, z'H_4, z'H_5, z'H_6, z'H_7, z'H_8, z'H_9, z'H_10, z'H_11, z'H_12⟩ := a1u BKH; obtain ⟨y'H_0, y'H_1, y'H_2, y'H_3, y'H_4, y'H_5, y'H_6, y'H_7, y'H_8, y'H_9, y'H_10, y'H_11, y'H_12⟩ := a1v BKH) | ((with_reducible refine a4q (b := .append) (xs := #[.tmp 57, .tmp 60]) rfl ?_); at_builtin; refine Kd.a5u (Kd.int .i64) (w0 := w) w.heap.size rfl (.tmp 57) (.tmp 60) 28 3 (.int .i64 0) 8 rfl Try.underlying28 info3 rfl (by decide) (by omega) u13 (a2j x1 true x3 x4 1) 2 [.int .i64 2] (fun _ => True) (fun _ => False) rfl rfl ?aP (fun _ hk => hk.elim) ?aF ?aO ?aB ?aS ?aL ?_; (case aP => exact rfl); (case aB => exact qb_); (case aF => exact (fun _ _ => trivial)); (case aO => exact (qr_ HO)); (case aS => exact (a0x qb_)); (case aL => have hL_ := a6v x1 true x3 x4 1; omega); intro v61 w19 ho hb hg hat; have nH_ := am_ (a3a (g := gH) (o := .cells #[.int .i64 a0_0, .int .i64 a0_1, .int .i64 a0_2, .int .i64 a0_3, .bool a0_4, .int .i64 a1_0, .int .i64 a1_1, .int .i64 a1_2, .slice A1_3 l1_3.length c1_3, .slice A1_4 l1_4.length c1_4, .slice A1_5 l1_5.length c1_5, .string a2, .slice A3 l3.length c3] 62 (0, 0)) (qk_ BKH) hg (Kd.R_ne HO.out BKH.out (by decide))); have nC_ := am_ (a3a (g := gC) (o := .cells #[.int .i64 1, .func (.func 44) #[] #[], .int .i64 2, .func (.func 45) #[] #[], .int .i64 3, .func (.func 46) #[] #[], .int .i64 4, .func (.func 47) #[] #[]] 75 (0, 0)) (qk_ BKC) hg (Kd.R_ne HO.out BKC.out (by decide))); have nB_ := am_ hb; have nO_ := am_ ho; clear BKH BKC HB HO; have BKH := nH_; have BKC := nC_; have HB := nB_; have HO := nO_; clear nH_ nC_ nB_ nO_ ho hb hg hat))
        rw [hout] at HO
        go_roundg (4 - 1 : Int).toNat
        case measure => have := HK.out; omega
        case rel => exact ⟨2, by first | rfl | (simp; done) | decide, by omega, ⟨by omega⟩, ⟨by have := HK.out; omega⟩, ⟨by (with_reducible repeat (first | apply Kd.a1e | apply Kd.a1f | apply Kd.a0y)); exact HO.out⟩, ⟨qk_ BKH⟩, ⟨qk_ BKC⟩, ⟨qb_⟩⟩
      ·have hcC_0 : wr.cell? ⟨gC, 4, none⟩ = some (.int .i64 3) := (bc_ BKC.out 4).trans rfl
       have hcC_1 : wr.cell? ⟨gC, 5, none⟩ = some (.func (.func 46) #[] #[]) := (bc_ BKC.out 5).trans rfl
       go_upto_region 9 with (first | ((with_reducible refine a0f (N := 15) rfl ?_); refine qev_ 15 #[.int .i64 0, .nilFunc] 75 ?_; intro gK hg w16 hbox hb; have nH_ := qkb_ BKH hb; have nC_ := qkb_ BKC hb; have nO_ := am_ (Kd.a3m (by (with_reducible repeat (first | apply Kd.a1e | apply Kd.a1f | apply Kd.a0y)); exact HO.out : Kd.R (Kd.int .i64) 3 _ w.heap.size (fun _ => True) u13 (a2j x1 x2 x3 x4 2)) hb); have mH_ := am_ ((by rw [hg]; exact Nat.ne_of_lt (a0u (qk_ BKH))) : gH ≠ gK); have mC_ := am_ ((by rw [hg]; exact Nat.ne_of_lt (a0u (qk_ BKC))) : gC ≠ gK); have nG_ := am_ ((by rw [hg]; exact (a0x qb_)) : w.heap.size ≤ gK); have nB_ := qbs_ hb; have nK_ := am_ hbox; clear hcC_0 hcC_1 BKH BKC HB HO; have BKH := nH_; have BKC := nC_; have HO := nO_; have NEH_K := mH_; have NEC_K := mC_; have GEK := nG_; have HB := nB_; have BKK := nK_; clear nH_ nC_ nO_ mH_ mC_ nG_ nB_ nK_ hb hbox hg; have z'K_0 : w16.cell? ⟨gK, 0, none⟩ = some (.int .i64 0) := (bc_ BKK.out 0).trans rfl; have z'K_1 : w16.cell? ⟨gK, 1, none⟩ = some .nilFunc := (bc_ BKK.out 1).trans rfl; have y'K_0 := bf_ BKK.out 0; have y'K_1 := bf_ BKK.out 1))
       have nH_ := am_ (a4j NEH_K.out [.int .i64 3, .func (.func 46) #[] #[]] 0 w16 BKH.out)
       have nC_ := am_ (a4j NEC_K.out [.int .i64 3, .func (.func 46) #[] #[]] 0 w16 BKC.out)
       have nK_ : Aside0 ((a4f w16 gK 0 [.int .i64 3, .func (.func 46) #[] #[]]).heap[gK]? = some (.cells #[.int .i64 3, .func (.func 46) #[] #[]] 75 (0, 0))) := ⟨a6a [.int .i64 3, .func (.func 46) #[] #[]] 0 w16 _ BKK.out rfl⟩
       have nO_ := am_ (a7a (by decide) [.int .i64 3, .func (.func 46) #[] #[]] 0 w16 _ BKK.out HO.out)
       have nB_ := am_ (a5o GEK.out [.int .i64 3, .func (.func 46) #[] #[]] 0 w16 HB.out)
       change Code.wp _ _ _ _ (a4f w16 gK 0 [.int .i64 3, .func (.func 46) #[] #[]])
       clear BKH BKC BKK HB HO z'K_0 z'K_1 y'K_0 y'K_1
       generalize a4f w16 gK 0 [.int .i64 3, .func (.func 46) #[] #[]] = w17 at nH_ nC_ nK_ nO_ nB_ ⊢
       have hdK_0 : w17.cell? ⟨gK, 0, none⟩ = some (.int .i64 3) := (bc_ nK_.out 0).trans rfl
       have hdK_1 : w17.cell? ⟨gK, 1, none⟩ = some (.func (.func 46) #[] #[]) := (bc_ nK_.out 1).trans rfl
       have z'H_0 : w17.cell? ⟨gH, 0, none⟩ = some (.int .i64 a0_0) := (bc_ nH_.out 0).trans rfl
       have y'H_0 := bf_ nH_.out 0
       have z'H_1 : w17.cell? ⟨gH, 1, none⟩ = some (.int .i64 a0_1) := (bc_ nH_.out 1).trans rfl
       have y'H_1 := bf_ nH_.out 1
       have z'H_2 : w17.cell? ⟨gH, 2, none⟩ = some (.int .i64 a0_2) := (bc_ nH_.out 2).trans rfl
       have y'H_2 := bf_ nH_.out 2
       have z'H_3 : w17.cell? ⟨gH, 3, none⟩ = some (.int .i64 a0_3) := (bc_ nH_.out 3).trans rfl
       have y'H_3 := bf_ nH_.out 3
       have z'H_4 : w17.cell? ⟨gH, 4, none⟩ = some (.bool a0_4) := (bc_ nH_.out 4).trans rfl
       have y'H_4 := bf_ nH_.out 4
       have z'H_5 : w17.cell? ⟨gH, 5, none⟩ = some (.int .i64 a1_0) := (bc_ nH_.out 5).trans rfl
       have y'H_5 := bf_ nH_.out 5
       have z'H_6 : w17.cell? ⟨gH, 6, none⟩ = some (.int .i64 a1_1) := (bc_ nH_.out 6).trans rfl
       have y'H_6 := bf_ nH_.out 6
       have z'H_7 : w17.cell? ⟨gH, 7, none⟩ = some (.int .i64 a1_2) := (bc_ nH_.out 7).trans rfl
       have y'H_7 := bf_ nH_.out 7
       have z'H_8 : w17.cell? ⟨gH, 8, none⟩ = some (.slice A1_3 l1_3.length c1_3) := (bc_ nH_.out 8).trans rfl
       have y'H_8 := bf_ nH_.out 8
       have z'H_9 : w17.cell? ⟨gH, 9, none⟩ = some (.slice A1_4 l1_4.length c1_4) := (bc_ nH_.out 9).trans rfl
       have y'H_9 := bf_ nH_.out 9
       have z'H_10 : w17.cell? ⟨gH, 10, none⟩ = some (.slice A1_5 l1_5.length c1_5) := (bc_ nH_.out 10).trans rfl
       have y'H_10 := bf_ nH_.out 10
       have z'H_11 : w17.cell? ⟨gH, 11, none⟩ = some (.string a2) := (bc_ nH_.out 11).trans rfl
       have y'H_11 := bf_ nH_.out 11
       have z'H_12 : w17.cell? ⟨gH, 12, none⟩ = some (.slice A3 l3.length c3) := (bc_ nH_.out 12).trans rfl
       have y'H_12 := bf_ nH_.out 12
       have BKH := nH_
       have BKC := nC_
       have BKK := nK_
       have HO := nO_
       have HB := nB_
       clear nH_ nC_ nK_ nO_ nB_
       cases x3 with
       | false =>
        have hout : a2j x1 x2 false x4 3 = a2j x1 x2 false x4 2 := by simp [a2j, a3j]
        go_wp2_with (first | (go_at_call 46; (with_reducible refine (a3i.calls k a0_0 a0_1 a0_2 a0_3 a0_4 a1_0 a1_1 a1_2 _ _ l1_3 _ _ l1_4 _ _ l1_5 a2 _ _ l3 false _ ?s1 ?s2 ?s3 ?s4 ?s5 ?s6 ?s7 ?s8 X3.out).mono ?_); (case s1 => exact qc_ HR1_3); (case s2 => exact HC1_3.out); (case s3 => exact qc_ HR1_4); (case s4 => exact HC1_4.out); (case s5 => exact qc_ HR1_5); (case s6 => exact HC1_5.out); (case s7 => exact qc_ HR3); (case s8 => exact HC3.out); rintro e w18 ⟨rfl, hb⟩; have nC_ := qkb_ BKC hb; have nK_ := qkb_ BKK hb; have nO_ := am_ (Kd.a3m (by (with_reducible repeat (first | apply Kd.a1e | apply Kd.a1f | apply Kd.a0y)); exact HO.out : Kd.R (Kd.int .i64) 3 _ w.heap.size (fun _ => True) u13 (a2j x1 x2 false x4 2)) hb); clear BKC BKK HO; have BKC := nC_; have BKK := nK_; have HO := nO_; clear nC_ nK_ nO_ hdK_0 hdK_1; have hdK_0 : w18.cell? ⟨gK, 0, none⟩ = some (.int .i64 3) := (bc_ BKK.out 0).trans rfl; have nH_ := qkb_ BKH hb; have nB_ := qbs_ hb; clear HB BKH; have HB := nB_; have BKH := nH_; clear nB_ nH_ hb; try clear z'H_0 y'H_0 z'H_1 y'H_1 z'H_2 y'H_2 z'H_3 y'H_3 z'H_4 y'H_4 z'H_5 y'H_5 z'H_6 y'H_6 z'H_7 y'H_7 z'H_8 y'H_8 z'H_9 y'H_9 z'H_10 y'H_10 z'H_11 y'H_11 z'H_12 y'H_12; obtain ⟨z'H_0, z'H_1, z'H_2, z'H_3, z'H_4, z'H_5, z'H_6, z'H_7, z'H_8, z'H_9, z'H_10, z'H_11, z'H_12⟩ := a1u BKH; obtain ⟨y'H_0, y'H_1, y'H_2, y'H_3, y'H_4, y'H_5, y'H_6, y'H_7, y'H_8, y'H_9, y'H_10, y'H_11, y'H_12⟩ := a1v BKH))
        rw [← hout] at HO
        go_roundg (4 - 2 : Int).toNat
        case measure => have := HK.out; omega
        case rel => exact ⟨3, by first | rfl | (simp; done) | decide, by omega, ⟨by omega⟩, ⟨by have := HK.out; omega⟩, ⟨by (with_reducible repeat (first | apply Kd.a1e | apply Kd.a1f | apply Kd.a0y)); exact HO.out⟩, ⟨qk_ BKH⟩, ⟨qk_ BKC⟩, ⟨qb_⟩⟩
       | true =>
        have hout : a2j x1 x2 true x4 2 ++ [3] = a2j x1 x2 true x4 3 := by simp [a2j, a3j]
        go_wp2_with (first | (go_at_call 46; (with_reducible refine (a3i.calls k a0_0 a0_1 a0_2 a0_3 a0_4 a1_0 a1_1 a1_2 _ _ l1_3 _ _ l1_4 _ _ l1_5 a2 _ _ l3 true _ ?s1 ?s2 ?s3 ?s4 ?s5 ?s6 ?s7 ?s8 X3.out).mono ?_); (case s1 => exact qc_ HR1_3); (case s2 => exact HC1_3.out); (case s3 => exact qc_ HR1_4); (case s4 => exact HC1_4.out); (case s5 => exact qc_ HR1_5); (case s6 => exact HC1_5.out); (case s7 => exact qc_ HR3); (case s8 => exact HC3.out); rintro e w18 ⟨rfl, hb⟩; have nC_ := qkb_ BKC hb; have nK_ := qkb_ BKK hb; have nO_ := am_ (Kd.a3m (by (with_reducible repeat (first | apply Kd.a1e | apply Kd.a1f | apply Kd.a0y)); exact HO.out : Kd.R (Kd.int .i64) 3 _ w.heap.size (fun _ => True) u13 (a2j x1 x2 true x4 2)) hb); clear BKC BKK HO; have BKC := nC_; have BKK := nK_; have HO := nO_; clear nC_ nK_ nO_ hdK_0 hdK_1; have hdK_0 : w18.cell? ⟨gK, 0, none⟩ = some (.int .i64 3) := (bc_ BKK.out 0).trans rfl; have nH_ := qkb_ BKH hb; have nB_ := qbs_ hb; clear HB BKH; have HB := nB_; have BKH := nH_; clear nB_ nH_ hb; try clear z'H_0 y'H_0 z'H_1 y'H_1 z'H_2 y'H_2 z'H_3 y'H_3 z'H_4 y'H_4 z'H_5 y'H_5 z'H_6 y'H_6 z'H_7 y'H_7 z'H_8 y'H_8 z'H_9 y'H_9 z'H_10 y'H_10 z'H_11 y'H_11 z'H_12 y'H_12; obtain ⟨z'H_0, z'H_1, z'H_2, z'H_3, z'H_4, z'H_5, z'H_6, z'H_7, z'H_8, z'H_9, z'H_10, z'H_11, z'H_12⟩ := a1u BKH; obtain ⟨y'H_0, y'H_1, y'H_2, y'H_3, y'H_4, y'H_5, y'H_6, y'H_7, y'H_8, y'H_9, y'H_10, y'H_11, y'H_12⟩ := a1v BKH) | ((with_reducible refine a4q (b := .append) (xs := #[.tmp 57, .tmp 60]) rfl ?_); at_builtin; refine Kd.a5u (Kd.int .i64) (w0 := w) w.heap.size rfl (.tmp 57) (.tmp 60) 28 3 (.int .i64 0) 8 rfl Try.underlying28 info3 rfl (by decide) (by omega) u13 (a2j x1 x2 true x4 2) 3 [.int .i64 3] (fun _ => True) (fun _ => False) rfl rfl ?aP (fun _ hk => hk.elim) ?aF ?aO ?aB ?aS ?aL ?_; (case aP => exact rfl); (case aB => exact qb_); (case aF => exact (fun _ _ => trivial)); (case aO => exact (qr_ HO)); (case aS => exact (a0x qb_)); (case aL => have hL_ := a6v x1 x2 true x4 2; omega); intro v61 w19 ho hb hg hat; have nH_ := am_ (a3a (g := gH) (o := .cells #[.int .i64 a0_0, .int .i64 a0_1, .int .i64 a0_2, .int .i64 a0_3, .bool a0_4, .int .i64 a1_0, .int .i64 a1_1, .int .i64 a1_2, .slice A1_3 l1_3.length c1_3, .slice A1_4 l1_4.length c1_4, .slice A1_5 l1_5.length c1_5, .string a2, .slice A3 l3.length c3] 62 (0, 0)) (qk_ BKH) hg (Kd.R_ne HO.out BKH.out (by decide))); have nC_ := am_ (a3a (g := gC) (o := .cells #[.int .i64 1, .func (.func 44) #[] #[], .int .i64 2, .func (.func 45) #[] #[], .int .i64 3, .func (.func 46) #[] #[], .int .i64 4, .func (.func 47) #[] #[]] 75 (0, 0)) (qk_ BKC) hg (Kd.R_ne HO.out BKC.out (by decide))); have nB_ := am_ hb; have nO_ := am_ ho; clear BKH BKC HB HO; have BKH := nH_; have BKC := nC_; have HB := nB_; have HO := nO_; clear nH_ nC_ nB_ nO_ ho hb hg hat))
        rw [hout] at HO
        go_roundg (4 - 2 : Int).toNat
        case measure => have := HK.out; omega
        case rel => exact ⟨3, by first | rfl | (simp; done) | decide, by omega, ⟨by omega⟩, ⟨by have := HK.out; omega⟩, ⟨by (with_reducible repeat (first | apply Kd.a1e | apply Kd.a1f | apply Kd.a0y)); exact HO.out⟩, ⟨qk_ BKH⟩, ⟨qk_ BKC⟩, ⟨qb_⟩⟩
      ·have hcC_0 : wr.cell? ⟨gC, 6, none⟩ = some (.int .i64 4) := (bc_ BKC.out 6).trans rfl
       have hcC_1 : wr.cell? ⟨gC, 7, none⟩ = some (.func (.func 47) #[] #[]) := (bc_ BKC.out 7).trans rfl
       go_upto_region 9 with (first | ((with_reducible refine a0f (N := 15) rfl ?_); refine qev_ 15 #[.int .i64 0, .nilFunc] 75 ?_; intro gK hg w16 hbox hb; have nH_ := qkb_ BKH hb; have nC_ := qkb_ BKC hb; have nO_ := am_ (Kd.a3m (by (with_reducible repeat (first | apply Kd.a1e | apply Kd.a1f | apply Kd.a0y)); exact HO.out : Kd.R (Kd.int .i64) 3 _ w.heap.size (fun _ => True) u13 (a2j x1 x2 x3 x4 3)) hb); have mH_ := am_ ((by rw [hg]; exact Nat.ne_of_lt (a0u (qk_ BKH))) : gH ≠ gK); have mC_ := am_ ((by rw [hg]; exact Nat.ne_of_lt (a0u (qk_ BKC))) : gC ≠ gK); have nG_ := am_ ((by rw [hg]; exact (a0x qb_)) : w.heap.size ≤ gK); have nB_ := qbs_ hb; have nK_ := am_ hbox; clear hcC_0 hcC_1 BKH BKC HB HO; have BKH := nH_; have BKC := nC_; have HO := nO_; have NEH_K := mH_; have NEC_K := mC_; have GEK := nG_; have HB := nB_; have BKK := nK_; clear nH_ nC_ nO_ mH_ mC_ nG_ nB_ nK_ hb hbox hg; have z'K_0 : w16.cell? ⟨gK, 0, none⟩ = some (.int .i64 0) := (bc_ BKK.out 0).trans rfl; have z'K_1 : w16.cell? ⟨gK, 1, none⟩ = some .nilFunc := (bc_ BKK.out 1).trans rfl; have y'K_0 := bf_ BKK.out 0; have y'K_1 := bf_ BKK.out 1))
       have nH_ := am_ (a4j NEH_K.out [.int .i64 4, .func (.func 47) #[] #[]] 0 w16 BKH.out)
       have nC_ := am_ (a4j NEC_K.out [.int .i64 4, .func (.func 47) #[] #[]] 0 w16 BKC.out)
       have nK_ : Aside0 ((a4f w16 gK 0 [.int .i64 4, .func (.func 47) #[] #[]]).heap[gK]? = some (.cells #[.int .i64 4, .func (.func 47) #[] #[]] 75 (0, 0))) := ⟨a6a [.int .i64 4, .func (.func 47) #[] #[]] 0 w16 _ BKK.out rfl⟩
       have nO_ := am_ (a7a (by decide) [.int .i64 4, .func (.func 47) #[] #[]] 0 w16 _ BKK.out HO.out)
       have nB_ := am_ (a5o GEK.out [.int .i64 4, .func (.func 47) #[] #[]] 0 w16 HB.out)
       change Code.wp _ _ _ _ (a4f w16 gK 0 [.int .i64 4, .func (.func 47) #[] #[]])
       clear BKH BKC BKK HB HO z'K_0 z'K_1 y'K_0 y'K_1
       generalize a4f w16 gK 0 [.int .i64 4, .func (.func 47) #[] #[]] = w17 at nH_ nC_ nK_ nO_ nB_ ⊢
       have hdK_0 : w17.cell? ⟨gK, 0, none⟩ = some (.int .i64 4) := (bc_ nK_.out 0).trans rfl
       have hdK_1 : w17.cell? ⟨gK, 1, none⟩ = some (.func (.func 47) #[] #[]) := (bc_ nK_.out 1).trans rfl
       have z'H_0 : w17.cell? ⟨gH, 0, none⟩ = some (.int .i64 a0_0) := (bc_ nH_.out 0).trans rfl
       have y'H_0 := bf_ nH_.out 0
       have z'H_1 : w17.cell? ⟨gH, 1, none⟩ = some (.int .i64 a0_1) := (bc_ nH_.out 1).trans rfl
       have y'H_1 := bf_ nH_.out 1
       have z'H_2 : w17.cell? ⟨gH, 2, none⟩ = some (.int .i64 a0_2) := (bc_ nH_.out 2).trans rfl
       have y'H_2 := bf_ nH_.out 2
       have z'H_3 : w17.cell? ⟨gH, 3, none⟩ = some (.int .i64 a0_3) := (bc_ nH_.out 3).trans rfl
       have y'H_3 := bf_ nH_.out 3
       have z'H_4 : w17.cell? ⟨gH, 4, none⟩ = some (.bool a0_4) := (bc_ nH_.out 4).trans rfl
       have y'H_4 := bf_ nH_.out 4
       have z'H_5 : w17.cell? ⟨gH, 5, none⟩ = some (.int .i64 a1_0) := (bc_ nH_.out 5).trans rfl
       have y'H_5 := bf_ nH_.out 5
       have z'H_6 : w17.cell? ⟨gH, 6, none⟩ = some (.int .i64 a1_1) := (bc_ nH_.out 6).trans rfl
       have y'H_6 := bf_ nH_.out 6
       have z'H_7 : w17.cell? ⟨gH, 7, none⟩ = some (.int .i64 a1_2) := (bc_ nH_.out 7).trans rfl
       have y'H_7 := bf_ nH_.out 7
       have z'H_8 : w17.cell? ⟨gH, 8, none⟩ = some (.slice A1_3 l1_3.length c1_3) := (bc_ nH_.out 8).trans rfl
       have y'H_8 := bf_ nH_.out 8
       have z'H_9 : w17.cell? ⟨gH, 9, none⟩ = some (.slice A1_4 l1_4.length c1_4) := (bc_ nH_.out 9).trans rfl
       have y'H_9 := bf_ nH_.out 9
       have z'H_10 : w17.cell? ⟨gH, 10, none⟩ = some (.slice A1_5 l1_5.length c1_5) := (bc_ nH_.out 10).trans rfl
       have y'H_10 := bf_ nH_.out 10
       have z'H_11 : w17.cell? ⟨gH, 11, none⟩ = some (.string a2) := (bc_ nH_.out 11).trans rfl
       have y'H_11 := bf_ nH_.out 11
       have z'H_12 : w17.cell? ⟨gH, 12, none⟩ = some (.slice A3 l3.length c3) := (bc_ nH_.out 12).trans rfl
       have y'H_12 := bf_ nH_.out 12
       have BKH := nH_
       have BKC := nC_
       have BKK := nK_
       have HO := nO_
       have HB := nB_
       clear nH_ nC_ nK_ nO_ nB_
       cases x4 with
       | false =>
        have hout : a2j x1 x2 x3 false 4 = a2j x1 x2 x3 false 3 := by simp [a2j, a3j]
        go_wp2_with (first | (go_at_call 47; (with_reducible refine (a4e.calls k a0_0 a0_1 a0_2 a0_3 a0_4 a1_0 a1_1 a1_2 _ _ l1_3 _ _ l1_4 _ _ l1_5 a2 _ _ l3 false _ ?s1 ?s2 ?s3 ?s4 ?s5 ?s6 ?s7 ?s8 X4.out).mono ?_); (case s1 => exact qc_ HR1_3); (case s2 => exact HC1_3.out); (case s3 => exact qc_ HR1_4); (case s4 => exact HC1_4.out); (case s5 => exact qc_ HR1_5); (case s6 => exact HC1_5.out); (case s7 => exact qc_ HR3); (case s8 => exact HC3.out); rintro e w18 ⟨rfl, hb⟩; have nC_ := qkb_ BKC hb; have nK_ := qkb_ BKK hb; have nO_ := am_ (Kd.a3m (by (with_reducible repeat (first | apply Kd.a1e | apply Kd.a1f | apply Kd.a0y)); exact HO.out : Kd.R (Kd.int .i64) 3 _ w.heap.size (fun _ => True) u13 (a2j x1 x2 x3 false 3)) hb); clear BKC BKK HO; have BKC := nC_; have BKK := nK_; have HO := nO_; clear nC_ nK_ nO_ hdK_0 hdK_1; have hdK_0 : w18.cell? ⟨gK, 0, none⟩ = some (.int .i64 4) := (bc_ BKK.out 0).trans rfl; have nH_ := qkb_ BKH hb; have nB_ := qbs_ hb; clear HB BKH; have HB := nB_; have BKH := nH_; clear nB_ nH_ hb; try clear z'H_0 y'H_0 z'H_1 y'H_1 z'H_2 y'H_2 z'H_3 y'H_3 z'H_4 y'H_4 z'H_5 y'H_5 z'H_6 y'H_6 z'H_7 y'H_7 z'H_8 y'H_8 z'H_9 y'H_9 z'H_10 y'H_10 z'H_11 y'H_11 z'H_12 y'H_12; obtain ⟨z'H_0, z'H_1, z'H_2, z'H_3, z'H_4, z'H_5, z'H_6, z'H_7, z'H_8, z'H_9, z'H_10, z'H_11, z'H_12⟩ := a1u BKH; obtain ⟨y'H_0, y'H_1, y'H_2, y'H_3, y'H_4, y'H_5, y'H_6, y'H_7, y'H_8, y'H_9, y'H_10, y'H_11, y'H_12⟩ := a1v BKH))
        rw [← hout] at HO
        go_roundg (4 - 3 : Int).toNat
        case measure => have := HK.out; omega
        case rel => exact ⟨4, by first | rfl | (simp; done) | decide, by omega, ⟨by omega⟩, ⟨by have := HK.out; omega⟩, ⟨by (with_reducible repeat (first | apply Kd.a1e | apply Kd.a1f | apply Kd.a0y)); exact HO.out⟩, ⟨qk_ BKH⟩, ⟨qk_ BKC⟩, ⟨qb_⟩⟩
       | true =>
        have hout : a2j x1 x2 x3 true 3 ++ [4] = a2j x1 x2 x3 true 4 := by simp [a2j, a3j]
        go_wp2_with (first | (go_at_call 47; (with_reducible refine (a4e.calls k a0_0 a0_1 a0_2 a0_3 a0_4 a1_0 a1_1 a1_2 _ _ l1_3 _ _ l1_4 _ _ l1_5 a2 _ _ l3 true _ ?s1 ?s2 ?s3 ?s4 ?s5 ?s6 ?s7 ?s8 X4.out).mono ?_); (case s1 => exact qc_ HR1_3); (case s2 => exact HC1_3.out); (case s3 => exact qc_ HR1_4); (case s4 => exact HC1_4.out); (case s5 => exact qc_ HR1_5); (case s6 => exact HC1_5.out); (case s7 => exact qc_ HR3); (case s8 => exact HC3.out); rintro e w18 ⟨rfl, hb⟩; have nC_ := qkb_ BKC hb; have nK_ := qkb_ BKK hb; have nO_ := am_ (Kd.a3m (by (with_reducible repeat (first | apply Kd.a1e | apply Kd.a1f | apply Kd.a0y)); exact HO.out : Kd.R (Kd.int .i64) 3 _ w.heap.size (fun _ => True) u13 (a2j x1 x2 x3 true 3)) hb); clear BKC BKK HO; have BKC := nC_; have BKK := nK_; have HO := nO_; clear nC_ nK_ nO_ hdK_0 hdK_1; have hdK_0 : w18.cell? ⟨gK, 0, none⟩ = some (.int .i64 4) := (bc_ BKK.out 0).trans rfl; have nH_ := qkb_ BKH hb; have nB_ := qbs_ hb; clear HB BKH; have HB := nB_; have BKH := nH_; clear nB_ nH_ hb; try clear z'H_0 y'H_0 z'H_1 y'H_1 z'H_2 y'H_2 z'H_3 y'H_3 z'H_4 y'H_4 z'H_5 y'H_5 z'H_6 y'H_6 z'H_7 y'H_7 z'H_8 y'H_8 z'H_9 y'H_9 z'H_10 y'H_10 z'H_11 y'H_11 z'H_12 y'H_12; obtain ⟨z'H_0, z'H_1, z'H_2, z'H_3, z'H_4, z'H_5, z'H_6, z'H_7, z'H_8, z'H_9, z'H_10, z'H_11, z'H_12⟩ := a1u BKH; obtain ⟨y'H_0, y'H_1, y'H_2, y'H_3, y'H_4, y'H_5, y'H_6, y'H_7, y'H_8, y'H_9, y'H_10, y'H_11, y'H_12⟩ := a1v BKH) | ((with_reducible refine a4q (b := .append) (xs := #[.tmp 57, .tmp 60]) rfl ?_); at_builtin; refine Kd.a5u (Kd.int .i64) (w0 := w) w.heap.size rfl (.tmp 57) (.tmp 60) 28 3 (.int .i64 0) 8 rfl Try.underlying28 info3 rfl (by decide) (by omega) u13 (a2j x1 x2 x3 true 3) 4 [.int .i64 4] (fun _ => True) (fun _ => False) rfl rfl ?aP (fun _ hk => hk.elim) ?aF ?aO ?aB ?aS ?aL ?_; (case aP => exact rfl); (case aB => exact qb_); (case aF => exact (fun _ _ => trivial)); (case aO => exact (qr_ HO)); (case aS => exact (a0x qb_)); (case aL => have hL_ := a6v x1 x2 x3 true 3; omega); intro v61 w19 ho hb hg hat; have nH_ := am_ (a3a (g := gH) (o := .cells #[.int .i64 a0_0, .int .i64 a0_1, .int .i64 a0_2, .int .i64 a0_3, .bool a0_4, .int .i64 a1_0, .int .i64 a1_1, .int .i64 a1_2, .slice A1_3 l1_3.length c1_3, .slice A1_4 l1_4.length c1_4, .slice A1_5 l1_5.length c1_5, .string a2, .slice A3 l3.length c3] 62 (0, 0)) (qk_ BKH) hg (Kd.R_ne HO.out BKH.out (by decide))); have nC_ := am_ (a3a (g := gC) (o := .cells #[.int .i64 1, .func (.func 44) #[] #[], .int .i64 2, .func (.func 45) #[] #[], .int .i64 3, .func (.func 46) #[] #[], .int .i64 4, .func (.func 47) #[] #[]] 75 (0, 0)) (qk_ BKC) hg (Kd.R_ne HO.out BKC.out (by decide))); have nB_ := am_ hb; have nO_ := am_ ho; clear BKH BKC HB HO; have BKH := nH_; have BKC := nC_; have HB := nB_; have HO := nO_; clear nH_ nC_ nB_ nO_ ho hb hg hat))
        rw [hout] at HO
        go_roundg (4 - 3 : Int).toNat
        case measure => have := HK.out; omega
        case rel => exact ⟨4, by first | rfl | (simp; done) | decide, by omega, ⟨by omega⟩, ⟨by have := HK.out; omega⟩, ⟨by (with_reducible repeat (first | apply Kd.a1e | apply Kd.a1f | apply Kd.a0y)); exact HO.out⟩, ⟨qk_ BKH⟩, ⟨qk_ BKC⟩, ⟨qb_⟩⟩
 ·rw [if_neg c0] at h
  have g0 : (b01 != 0) = true := bne_iff_ne.mpr c0
  obtain ⟨rfl, rfl⟩ : [] = r1 ∧ (1 : Int) = r2 := by simpa using h
  go_wp2
  go_ret2
  exact ⟨.slice none 0 0, by first | rfl | (simp; done), Kd.a6u _ _ _ _ (fun _ => True), qb_⟩
end Go.Proofs.Ytemnlgefngjliaa.Given
