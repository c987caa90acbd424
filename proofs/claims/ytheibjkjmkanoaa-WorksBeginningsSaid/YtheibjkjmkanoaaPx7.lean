/- The arguments of the laws, opened to what their cells hold (written by a program of this session's own, wip/tools/argsgen.py). Conditions: as each theorem states. -/
import Derived.WalkKit
import Derived.ProofKit
import Derived.OpenShut
import Derived.Lib.SmallJoins
import Derived.ChangeArms
import Derived.SliceStrings
import Derived.Deep.Slices
import Derived.Deep.Fields
import Derived.Test.YtheibjkjmkanoaaRows
import Derived.Test.YtheibjkjmkanoaaPx0
import Derived.Test.YtheibjkjmkanoaaWWords
namespace Go.Proofs.Ytheibjkjmkanoaa.Args
open Go.ChangeShapes Go.WideShapes Go.ChangeAt Go.RowKit
open Go.ChangeMaps (open_string shut_string)
open Go.Joins Go.Deep
open Go.Proofs.YtheibjkjmkanoaaW.PrintWords Go.Proofs.Ytheibjkjmkanoaa.Px
set_option linter.unusedVariables false
set_option linter.unusedSimpArgs false
theorem wf_u8 {n : Int} (h : (Lit.int .u8 n).wf = true) : 0 ≤ n ∧ n ≤ 255 := by
 simpa [Lit.wf,IntKind.min,IntKind.max,IntKind.bits,IntKind.signed] using h
theorem wf_u16 {n : Int} (h : (Lit.int .u16 n).wf = true) : 0 ≤ n ∧ n ≤ 65535 := by
 simpa [Lit.wf,IntKind.min,IntKind.max,IntKind.bits,IntKind.signed] using h
theorem a8g {α : Type} (d : Kd α) (w : World) : Kd.C d w none ([] : List α).length [] := ⟨rfl,by simp,fun h => by simp at h⟩
theorem b0g {α : Type} {d : Kd α} {w : World} {a : Addr} {len : Nat} (hl : len ≤ 9223372036854775807)
  (h : ∀ i,i < len → ∃ x c,c.length = d.sz ∧ d.K w x c ∧ ∀ j u,c[j]? = some u → w.cell? (a.add (i * d.sz + j)) = some u) : ∃ xs : List α,xs.length = len ∧ Kd.C d w (some a) xs.length xs := by
 have key : ∀ n,n ≤ len → ∃ xs : List α,xs.length = n ∧ ∀ j p,xs[j]? = some p → ∃ c,c.length = d.sz ∧ d.K w p c ∧ ∀ i u,c[i]? = some u → w.cell? (a.add (j * d.sz + i)) = some u := by
  intro n
  induction n with
  | zero => exact fun _ => ⟨[],rfl,fun j p h => by simp at h⟩
  | succ n ih =>
   intro hn
   obtain ⟨xs,hx,hp⟩ := ih (by omega)
   obtain ⟨x,c,h1,h2,h3⟩ := h n (by omega)
   refine ⟨xs ++ [x],by simp [hx],fun j p hj => ?_⟩
   rcases Nat.lt_trichotomy j n with q | q | q
   ·rw [List.getElem?_append_left (by omega)] at hj
    exact hp j p hj
   ·subst q
    rw [List.getElem?_append_right (by omega),hx,Nat.sub_self] at hj
    obtain rfl : x = p := by simpa using hj
    exact ⟨c,h1,h2,h3⟩
   rw [List.getElem?_eq_none (by simp [hx];omega)] at hj
   simp at hj
 obtain ⟨xs,hx,hp⟩ := key len (Nat.le_refl _)
 exact ⟨xs,hx,rfl,by omega,fun _ => ⟨a,rfl,hp⟩⟩
section
variable {H : Type} {enc : TypeId × Value → H} {W : World} {n : Nat} {v : Value} {y : DataW H × List MemPlace}
theorem b1w : maxLen ≤ 9223372036854775807 := by decide
set_option maxRecDepth 100000 in
theorem b8s (h : DataW.trod enc Try.prog W 0 (fun _ => true) true n 25 [v] = some y) : ∃ A c xs,v = .slice A xs.length c ∧ xs.length ≤ c ∧ Kd.C (Kd.int .i64) W A xs.length xs := by
 rcases open_ints Try.underlying25 Try.underlying3 (by kernel_rfl) h with ⟨hcs,_⟩ | ⟨a,len,cap,zs,hcs,_,hl,hm,hz,_,hcell,_⟩
 ·obtain rfl : v = .slice none 0 0 := by simpa using hcs
  exact ⟨none,0,[],rfl,Nat.le_refl _,a8g _ _⟩
 obtain rfl : v = .slice (some a) len cap := by simpa using hcs
 simp only [if_true] at hz
 obtain ⟨xs,rfl,hC⟩ := b0g (d := (Kd.int .i64)) (w := W) (a := a) (len := len) (by have := b1w;omega) (fun i hi => ⟨zs.getD i 0,[.int .i64 (zs.getD i 0)],rfl,rfl,fun j u hu => by
  match j,hu with
  | 0,hu =>
   obtain rfl : Value.int .i64 (zs.getD i 0) = u := by simpa using hu
   have := hcell i (by omega)
   rw [show i * ((Kd.int .i64)).sz + 0 = i from Nat.mul_one i]
   exact this⟩)
 exact ⟨some a,cap,xs,rfl,hl,hC⟩
set_option maxRecDepth 100000 in
theorem c4x {c_0 c_1 c_2 c_3 c_4 : Value} (h : DataW.trod enc Try.prog W 0 (fun _ => true) true n 51 [c_0,c_1,c_2,c_3,c_4] = some y) : ∃ (f0 : Int) (f1 : Int) (f2 : Int) (A3 : Option Addr) (c3 : Nat) (l3 : List Int) (A4 : Option Addr) (c4 : Nat) (l4 : List Int),[c_0,c_1,c_2,c_3,c_4] = [.int .i64 f0, .int .i64 f1, .int .i64 f2, .slice A3 l3.length c3, .slice A4 l4.length c4] ∧ (Lit.int .i64 f0).wf = true ∧ (Lit.int .i64 f1).wf = true ∧ (Lit.int .i64 f2).wf = true ∧ (Kd.C (Kd.int .i64) W A3 l3.length l3 ∧ l3.length ≤ c3) ∧ (Kd.C (Kd.int .i64) W A4 l4.length l4 ∧ l4.length ≤ c4) := by
 obtain ⟨xs,n,_,hx,_,hlen,hg⟩ := DataW.trod_struct Try.underlying51 h
 match xs,hlen with
 | [y0,y1,y2,y3,y4],_ =>
  have e0 : DataW.trod enc Try.prog W 0 (fun _ => true) true n 3 [c_0] = some y0 := hg 0 _ rfl
  obtain ⟨f0,q,_,s0⟩ := DataW.trod_int Try.underlying3 e0
  obtain rfl : c_0 = .int .i64 f0 := by simpa using q
  have e1 : DataW.trod enc Try.prog W 0 (fun _ => true) true n 3 [c_1] = some y1 := hg 1 _ rfl
  obtain ⟨f1,q,_,s1⟩ := DataW.trod_int Try.underlying3 e1
  obtain rfl : c_1 = .int .i64 f1 := by simpa using q
  have e2 : DataW.trod enc Try.prog W 0 (fun _ => true) true n 3 [c_2] = some y2 := hg 2 _ rfl
  obtain ⟨f2,q,_,s2⟩ := DataW.trod_int Try.underlying3 e2
  obtain rfl : c_2 = .int .i64 f2 := by simpa using q
  have e3 : DataW.trod enc Try.prog W 0 (fun _ => true) true n 25 [c_3] = some y3 := hg 3 _ rfl
  obtain ⟨A3,c3,l3,rfl,b,r⟩ := b8s e3
  have s3 := And.intro r b
  have e4 : DataW.trod enc Try.prog W 0 (fun _ => true) true n 25 [c_4] = some y4 := hg 4 _ rfl
  obtain ⟨A4,c4,l4,rfl,b,r⟩ := b8s e4
  have s4 := And.intro r b
  exact ⟨f0,f1,f2,A3,c3,l3,A4,c4,l4,rfl,s0,s1,s2,s3,s4⟩
set_option maxRecDepth 100000 in
theorem c4y (h : DataW.trod enc Try.prog W 0 (fun _ => true) true n 22 [v] = some y) : ∃ A c xs,v = .slice A xs.length c ∧ xs.length ≤ c ∧ Kd.C k51 W A xs.length xs := by
 rcases open_slice Try.underlying22 h with h0 | ⟨a,len,cap,m,n,D,Pl,hcs,hb,hl,hm,hmm,hx,hi⟩
 ·obtain rfl : v = .slice none 0 0 := by simpa using h0.1
  exact ⟨none,0,[],rfl,Nat.le_refl _,a8g _ _⟩
 obtain rfl : v = .slice (some a) len cap := by simpa using hcs
 simp only [if_true] at hmm
 obtain ⟨xs,rfl,hC⟩ := b0g (d := k51) (w := W) (a := a) (len := len) (by have := b1w;omega) (fun i him => by
  obtain ⟨cs',hc,ht'⟩ := hi i (by omega)
  rw [show Try.prog.cellsOf 51 = 5 by kernel_rfl] at hc
  obtain ⟨_,hcl,hat⟩ := World.cells?_some hc
  match cs',hcl,hat,ht' with
  | [c_0,c_1,c_2,c_3,c_4],_,hat,ht' =>
   obtain ⟨f0,f1,f2,A3,c3,l3,A4,c4,l4,q,s0,s1,s2,s3,s4⟩ := c4x ht'
   injection q with q_0 q_r
   subst q_0
   injection q_r with q_1 q_r
   subst q_1
   injection q_r with q_2 q_r
   subst q_2
   injection q_r with q_3 q_r
   subst q_3
   injection q_r with q_4 q_r
   subst q_4
   refine ⟨(⟨f0,f1,f2,l3,l4⟩ : S51),[.int .i64 f0, .int .i64 f1, .int .i64 f2, .slice A3 l3.length c3, .slice A4 l4.length c4],rfl,b9y W (⟨f0,f1,f2,l3,l4⟩ : S51) s3.2 s3.1 s4.2 s4.1,fun j u hu => ?_⟩
   have hj : j < 5 := (List.getElem?_eq_some_iff.1 hu).1
   rw [show (k51).sz = 5 from rfl, ← Go.Deep.add_add]
   exact (hat j hj).trans hu)
 exact ⟨some a,cap,xs,rfl,hl,hC⟩
set_option maxRecDepth 100000 in
theorem c4z {c_0 c_1 : Value} (h : DataW.trod enc Try.prog W 0 (fun _ => true) true n 56 [c_0,c_1] = some y) : ∃ (f0 : Int) (f1 : Int),[c_0,c_1] = [.int .i64 f0, .int .i64 f1] ∧ (Lit.int .i64 f0).wf = true ∧ (Lit.int .i64 f1).wf = true := by
 obtain ⟨xs,n,_,hx,_,hlen,hg⟩ := DataW.trod_struct Try.underlying56 h
 match xs,hlen with
 | [y0,y1],_ =>
  have e0 : DataW.trod enc Try.prog W 0 (fun _ => true) true n 3 [c_0] = some y0 := hg 0 _ rfl
  obtain ⟨f0,q,_,s0⟩ := DataW.trod_int Try.underlying3 e0
  obtain rfl : c_0 = .int .i64 f0 := by simpa using q
  have e1 : DataW.trod enc Try.prog W 0 (fun _ => true) true n 3 [c_1] = some y1 := hg 1 _ rfl
  obtain ⟨f1,q,_,s1⟩ := DataW.trod_int Try.underlying3 e1
  obtain rfl : c_1 = .int .i64 f1 := by simpa using q
  exact ⟨f0,f1,rfl,s0,s1⟩
set_option maxRecDepth 100000 in
theorem c5a (h : DataW.trod enc Try.prog W 0 (fun _ => true) true n 34 [v] = some y) : ∃ A c xs,v = .slice A xs.length c ∧ xs.length ≤ c ∧ Kd.C k56 W A xs.length xs := by
 rcases open_slice Try.underlying34 h with h0 | ⟨a,len,cap,m,n,D,Pl,hcs,hb,hl,hm,hmm,hx,hi⟩
 ·obtain rfl : v = .slice none 0 0 := by simpa using h0.1
  exact ⟨none,0,[],rfl,Nat.le_refl _,a8g _ _⟩
 obtain rfl : v = .slice (some a) len cap := by simpa using hcs
 simp only [if_true] at hmm
 obtain ⟨xs,rfl,hC⟩ := b0g (d := k56) (w := W) (a := a) (len := len) (by have := b1w;omega) (fun i him => by
  obtain ⟨cs',hc,ht'⟩ := hi i (by omega)
  rw [show Try.prog.cellsOf 56 = 2 by kernel_rfl] at hc
  obtain ⟨_,hcl,hat⟩ := World.cells?_some hc
  match cs',hcl,hat,ht' with
  | [c_0,c_1],_,hat,ht' =>
   obtain ⟨f0,f1,q,s0,s1⟩ := c4z ht'
   injection q with q_0 q_r
   subst q_0
   injection q_r with q_1 q_r
   subst q_1
   refine ⟨(⟨f0,f1⟩ : S56),[.int .i64 f0, .int .i64 f1],rfl,c4k W (⟨f0,f1⟩ : S56) ,fun j u hu => ?_⟩
   have hj : j < 2 := (List.getElem?_eq_some_iff.1 hu).1
   rw [show (k56).sz = 2 from rfl, ← Go.Deep.add_add]
   exact (hat j hj).trans hu)
 exact ⟨some a,cap,xs,rfl,hl,hC⟩
set_option maxRecDepth 100000 in
theorem c5b {c_0 c_1 : Value} (h : DataW.trod enc Try.prog W 0 (fun _ => true) true n 58 [c_0,c_1] = some y) : ∃ (f0 : Int) (A1 : Option Addr) (c1 : Nat) (l1 : List S56),[c_0,c_1] = [.int .i64 f0, .slice A1 l1.length c1] ∧ (Lit.int .i64 f0).wf = true ∧ (Kd.C k56 W A1 l1.length l1 ∧ l1.length ≤ c1) := by
 obtain ⟨xs,n,_,hx,_,hlen,hg⟩ := DataW.trod_struct Try.underlying58 h
 match xs,hlen with
 | [y0,y1],_ =>
  have e0 : DataW.trod enc Try.prog W 0 (fun _ => true) true n 3 [c_0] = some y0 := hg 0 _ rfl
  obtain ⟨f0,q,_,s0⟩ := DataW.trod_int Try.underlying3 e0
  obtain rfl : c_0 = .int .i64 f0 := by simpa using q
  have e1 : DataW.trod enc Try.prog W 0 (fun _ => true) true n 34 [c_1] = some y1 := hg 1 _ rfl
  obtain ⟨A1,c1,l1,rfl,b,r⟩ := c5a e1
  have s1 := And.intro r b
  exact ⟨f0,A1,c1,l1,rfl,s0,s1⟩
set_option maxRecDepth 100000 in
theorem c5c (h : DataW.trod enc Try.prog W 0 (fun _ => true) true n 23 [v] = some y) : ∃ A c xs,v = .slice A xs.length c ∧ xs.length ≤ c ∧ Kd.C k58 W A xs.length xs := by
 rcases open_slice Try.underlying23 h with h0 | ⟨a,len,cap,m,n,D,Pl,hcs,hb,hl,hm,hmm,hx,hi⟩
 ·obtain rfl : v = .slice none 0 0 := by simpa using h0.1
  exact ⟨none,0,[],rfl,Nat.le_refl _,a8g _ _⟩
 obtain rfl : v = .slice (some a) len cap := by simpa using hcs
 simp only [if_true] at hmm
 obtain ⟨xs,rfl,hC⟩ := b0g (d := k58) (w := W) (a := a) (len := len) (by have := b1w;omega) (fun i him => by
  obtain ⟨cs',hc,ht'⟩ := hi i (by omega)
  rw [show Try.prog.cellsOf 58 = 2 by kernel_rfl] at hc
  obtain ⟨_,hcl,hat⟩ := World.cells?_some hc
  match cs',hcl,hat,ht' with
  | [c_0,c_1],_,hat,ht' =>
   obtain ⟨f0,A1,c1,l1,q,s0,s1⟩ := c5b ht'
   injection q with q_0 q_r
   subst q_0
   injection q_r with q_1 q_r
   subst q_1
   refine ⟨(⟨f0,l1⟩ : S58),[.int .i64 f0, .slice A1 l1.length c1],rfl,b9z W (⟨f0,l1⟩ : S58) s1.2 s1.1,fun j u hu => ?_⟩
   have hj : j < 2 := (List.getElem?_eq_some_iff.1 hu).1
   rw [show (k58).sz = 2 from rfl, ← Go.Deep.add_add]
   exact (hat j hj).trans hu)
 exact ⟨some a,cap,xs,rfl,hl,hC⟩
set_option maxRecDepth 100000 in
theorem c5d {c_0 c_1 c_2 : Value} (h : DataW.trod enc Try.prog W 0 (fun _ => true) true n 42 [c_0,c_1,c_2] = some y) : ∃ (f0 : Int) (f1 : Int) (f2 : Int),[c_0,c_1,c_2] = [.int .i64 f0, .int .i64 f1, .int .i64 f2] ∧ (Lit.int .i64 f0).wf = true ∧ (Lit.int .i64 f1).wf = true ∧ (Lit.int .i64 f2).wf = true := by
 obtain ⟨xs,n,_,hx,_,hlen,hg⟩ := DataW.trod_struct Try.underlying42 h
 match xs,hlen with
 | [y0,y1,y2],_ =>
  have e0 : DataW.trod enc Try.prog W 0 (fun _ => true) true n 3 [c_0] = some y0 := hg 0 _ rfl
  obtain ⟨f0,q,_,s0⟩ := DataW.trod_int Try.underlying3 e0
  obtain rfl : c_0 = .int .i64 f0 := by simpa using q
  have e1 : DataW.trod enc Try.prog W 0 (fun _ => true) true n 3 [c_1] = some y1 := hg 1 _ rfl
  obtain ⟨f1,q,_,s1⟩ := DataW.trod_int Try.underlying3 e1
  obtain rfl : c_1 = .int .i64 f1 := by simpa using q
  have e2 : DataW.trod enc Try.prog W 0 (fun _ => true) true n 3 [c_2] = some y2 := hg 2 _ rfl
  obtain ⟨f2,q,_,s2⟩ := DataW.trod_int Try.underlying3 e2
  obtain rfl : c_2 = .int .i64 f2 := by simpa using q
  exact ⟨f0,f1,f2,rfl,s0,s1,s2⟩
set_option maxRecDepth 100000 in
theorem c5e (h : DataW.trod enc Try.prog W 0 (fun _ => true) true n 24 [v] = some y) : ∃ A c xs,v = .slice A xs.length c ∧ xs.length ≤ c ∧ Kd.C k42 W A xs.length xs := by
 rcases open_slice Try.underlying24 h with h0 | ⟨a,len,cap,m,n,D,Pl,hcs,hb,hl,hm,hmm,hx,hi⟩
 ·obtain rfl : v = .slice none 0 0 := by simpa using h0.1
  exact ⟨none,0,[],rfl,Nat.le_refl _,a8g _ _⟩
 obtain rfl : v = .slice (some a) len cap := by simpa using hcs
 simp only [if_true] at hmm
 obtain ⟨xs,rfl,hC⟩ := b0g (d := k42) (w := W) (a := a) (len := len) (by have := b1w;omega) (fun i him => by
  obtain ⟨cs',hc,ht'⟩ := hi i (by omega)
  rw [show Try.prog.cellsOf 42 = 3 by kernel_rfl] at hc
  obtain ⟨_,hcl,hat⟩ := World.cells?_some hc
  match cs',hcl,hat,ht' with
  | [c_0,c_1,c_2],_,hat,ht' =>
   obtain ⟨f0,f1,f2,q,s0,s1,s2⟩ := c5d ht'
   injection q with q_0 q_r
   subst q_0
   injection q_r with q_1 q_r
   subst q_1
   injection q_r with q_2 q_r
   subst q_2
   refine ⟨(⟨f0,f1,f2⟩ : S42),[.int .i64 f0, .int .i64 f1, .int .i64 f2],rfl,c4l W (⟨f0,f1,f2⟩ : S42) ,fun j u hu => ?_⟩
   have hj : j < 3 := (List.getElem?_eq_some_iff.1 hu).1
   rw [show (k42).sz = 3 from rfl, ← Go.Deep.add_add]
   exact (hat j hj).trans hu)
 exact ⟨some a,cap,xs,rfl,hl,hC⟩
set_option maxRecDepth 100000 in
theorem c3g {r : Reach} {b0 : Nat} {d : DataW H} {p : List MemPlace} (hv : Value.okWide Try.prog W r b0 25 v) (h : DataW.Trod enc Try.prog W 0 (fun _ => true) true 25 v d p) : ∃ A c xs,v = .slice A xs.length c ∧ xs.length ≤ c ∧ Kd.C (Kd.int .i64) W A xs.length xs := by
 obtain ⟨a,len,cap,rfl⟩ := okWide_slice Try.underlying25 hv
 obtain ⟨fuel,hf⟩ := h
 exact b8s hf
set_option maxRecDepth 100000 in
theorem b0h {r : Reach} {b0 : Nat} {d : DataW H} {p : List MemPlace} (hv : Value.okWide Try.prog W r b0 22 v) (h : DataW.Trod enc Try.prog W 0 (fun _ => true) true 22 v d p) : ∃ A c xs,v = .slice A xs.length c ∧ xs.length ≤ c ∧ Kd.C k51 W A xs.length xs := by
 obtain ⟨a,len,cap,rfl⟩ := okWide_slice Try.underlying22 hv
 obtain ⟨fuel,hf⟩ := h
 exact c4y hf
set_option maxRecDepth 100000 in
theorem b0i {r : Reach} {b0 : Nat} {d : DataW H} {p : List MemPlace} (hv : Value.okWide Try.prog W r b0 23 v) (h : DataW.Trod enc Try.prog W 0 (fun _ => true) true 23 v d p) : ∃ A c xs,v = .slice A xs.length c ∧ xs.length ≤ c ∧ Kd.C k58 W A xs.length xs := by
 obtain ⟨a,len,cap,rfl⟩ := okWide_slice Try.underlying23 hv
 obtain ⟨fuel,hf⟩ := h
 exact c5c hf
set_option maxRecDepth 100000 in
theorem c3h {r : Reach} {b0 : Nat} {d : DataW H} {p : List MemPlace} (hv : Value.okWide Try.prog W r b0 24 v) (h : DataW.Trod enc Try.prog W 0 (fun _ => true) true 24 v d p) : ∃ A c xs,v = .slice A xs.length c ∧ xs.length ≤ c ∧ Kd.C k42 W A xs.length xs := by
 obtain ⟨a,len,cap,rfl⟩ := okWide_slice Try.underlying24 hv
 obtain ⟨fuel,hf⟩ := h
 exact c5e hf
end
end Go.Proofs.Ytheibjkjmkanoaa.Args
/- Contracts of Go functions, written by a program of this session's own (wip/tools/myprint.py) out of the translation: each Go function does what the Lean function of its name says. Conditions: as each theorem states. -/
namespace Go.Proofs.Ytheibjkjmkanoaa.Px
open Go.Proofs.Ytheibjkjmkanoaa.Given
open Go.RowKit Go.Proofs.YtheibjkjmkanoaaW.PrintWords Go.Proofs.YtheibjkjmkanoaaW.PrintLast Go.Proofs.YtheibjkjmkanoaaW.PrintMore
attribute [local go_sem] a3r a3s a4e a4f a3k a3l a3t a3u
set_option linter.unusedVariables false
set_option linter.unusedSimpArgs false
def a2m.l0 : Nat → List Int → Int → Int → Int → Option (Int)
 | 0,_,_,_,_ => none
 | k + 1,x0,x1,x7,x8 => if x8 < x7 then (if 0 ≤ x8 then (if x8 < (x0.length : Int) then (if x1 = (rd x0 x8) then (some x8) else (a2m.l0 k x0 x1 x7 (wrap64 (x8 + 1)))) else (none)) else (none)) else (some (-1))
def a2m.f (k : Nat) (l0 : List Int) (a1 : Int) : Option (Int) := a2m.l0 k l0 a1 (l0.length : Int) 0
theorem a2m.a1t : ∀ k,(∀ y0 y1 y2 y3,LeO (a2m.l0 k y0 y1 y2 y3) (a2m.l0 (k + 1) y0 y1 y2 y3))
 | 0 => fun _ _ _ _ r h => by simp [a2m.l0] at h
 | k + 1 => by
  have a := a2m.a1t k
  intro y0 y1 y2 y3
  unfold a2m.l0
  with_reducible (repeat' first | apply a | apply LeO.refl | apply LeO.none | apply LeO.ite | refine LeO.bind ?_ (fun _ => ?_))
theorem a2m.mono : ∀ a0 a1 k,LeO (a2m.f k a0 a1) (a2m.f (k + 1) a0 a1) := by
 intro a0 a1 k
 have a := a2m.a1t k
 unfold a2m.f
 with_reducible (repeat' first | apply a | apply LeO.refl | apply LeO.none | apply LeO.ite | refine LeO.bind ?_ (fun _ => ?_))
set_option maxHeartbeats 8000000 in
set_option maxRecDepth 100000 in
theorem a2m.calls (k : Nat) (A0 : Option Addr) (c0 : Nat) (l0 : List Int) (a1 r : Int) (w : World) (j : Kd.C (Kd.int .i64) w A0 l0.length l0) (l : l0.length ≤ c0) (h : a2m.f k l0 a1 = some r) :
  Calls Try.prog 65 #[.slice A0 l0.length c0, .int .i64 a1] w fun e w' => e = .returned (.int .i64 r) ∧ a3v w w' := by
 have m := am_ j
 have u := am_ l
 clear j l
 have H : (a2m.l0 k l0 a1 (l0.length : Int) 0) = some r := h
 clear h
 have H' := am_ H
 clear H
 go_enter Try.func65,Try.ntmps65
 go_wp2
 go_loopg [8] k (fun kq v8 w' => ∃ (a : Int),v8 = .int .i64 a ∧ Aside0 (a2m.l0 kq l0 a1 (l0.length : Int) a = some r) ∧ Aside0 (kq ≤ k) ∧ a3v w w')
 case atStart => exact ⟨(0),qs_,H',⟨Nat.le_refl _⟩,qy_⟩
 case round =>
 clear H'
 obtain ⟨a,rfl,HA,n,⟨m1,rfl⟩⟩ := hrel
 cases gk with
 | zero => exact absurd HA.out (by simp [a2m.l0])
 | succ k1 =>
 have H := HA.out
 clear HA
 simp only [a2m.l0] at H
 by_cases c3 : a < (l0.length : Int)
 rotate_left
 ·rw [if_neg c3] at H
  have o : decide (a < (l0.length : Int)) = false := decide_eq_false c3
  clear c3
  obtain rfl := si_ H
  go_wp2
  go_ret
  exact ⟨qs_,qy_⟩
 rw [if_pos c3] at H
 have o : decide (a < (l0.length : Int)) = true := decide_eq_true c3
 clear c3
 obtain ⟨s,H⟩ := qid_ H
 obtain ⟨t,H⟩ := qid_ H
 by_cases c6 : a1 = (rd l0 a)
 ·rw [if_pos c6] at H
  have p : (a1 == (rd l0 a)) = true := beq_iff_eq.mpr c6
  have q : (a1 != (rd l0 a)) = false := bne_eq_false_iff_eq.mpr c6
  clear c6
  obtain rfl := si_ H
  have b : 0 ≤ (a : Int) := ot_
  have c : a < (l0.length : Int) := ot_
  obtain ⟨i,d,g⟩ := Kd.a4q m.out a b c
  cases d
  replace b := eq_true b
  replace c := eq_true c
  go_wp2
  go_ret
  exact ⟨qs_,qy_⟩
 rw [if_neg c6] at H
 have p : (a1 == (rd l0 a)) = false := beq_eq_false_iff_ne.mpr c6
 have q : (a1 != (rd l0 a)) = true := bne_iff_ne.mpr c6
 have H' := am_ H
 clear H
 have b : 0 ≤ (a : Int) := ot_
 have c : a < (l0.length : Int) := ot_
 obtain ⟨i,d,g⟩ := Kd.a4q m.out a b c
 cases d
 replace b := eq_true b
 replace c := eq_true c
 go_wp2
 go_roundg k1
 case measure => have := n.out;omega
 case rel => exact ⟨(wrap64 (a + 1)),qs_,H',⟨by have := n.out;omega⟩,qy_⟩
def a2r.f (k : Nat) (l0 : List Int) (a1 : Int) : Option (Bool) := (a2m.f k l0 a1).bind fun a => (some (decide (a ≥ 0)))
theorem a2r.mono : ∀ a0 a1 k,LeO (a2r.f k a0 a1) (a2r.f (k + 1) a0 a1) := by
 intro a0 a1 k
 unfold a2r.f
 with_reducible (repeat' first | apply a2m.mono | apply LeO.refl | apply LeO.none | apply LeO.ite | refine LeO.bind ?_ (fun _ => ?_))
set_option maxHeartbeats 8000000 in
set_option maxRecDepth 100000 in
theorem a2r.calls (k : Nat) (A0 : Option Addr) (c0 : Nat) (l0 : List Int) (a1 : Int) (r : Bool) (w : World) (b : Kd.C (Kd.int .i64) w A0 l0.length l0) (c : l0.length ≤ c0) (h : a2r.f k l0 a1 = some r) :
  Calls Try.prog 48 #[.slice A0 l0.length c0, .int .i64 a1] w fun e w' => e = .returned (.bool r) ∧ a3v w w' := by
 have g := am_ b
 have i := am_ c
 clear b c
 have H : ((a2m.f k l0 a1).bind fun a => (some (decide (a ≥ 0)))) = some r := h
 clear h
 replace H := bm_ H
 obtain ⟨a,d,H⟩ := H
 have A3 := am_ d
 clear d
 obtain rfl := si_ H
 go_enter Try.func48,Try.ntmps48
 go_wp2_with (first | ((with_reducible refine a0i (f := 65) rfl ?_);refine a1i (some 7) rfl rfl Try.func65 (by kernel_rfl) rfl #[.slice A0 l0.length c0, .int .i64 a1] rfl ql_ ?_;(with_reducible refine (a2m.calls k _ _ l0 a1 a _ ?s1 i.out A3.out).mono ?_);(case s1 => repeat (first | exact g.out | (with_reducible refine Kd.a1b ?_ _) | (with_reducible refine Kd.a1c ?_ _) | (with_reducible refine Kd.a1k ?_)));rintro e w' ⟨rfl,⟨nd,rfl⟩⟩;refine ⟨_,rfl,?_⟩))
 go_ret
 exact ⟨qs_,qy_⟩
def a3p.f (k : Nat) (a0 : Int) (l1 : List Int) : Option (Bool) := (a2r.f k l1 a0).bind fun a => (some a)
theorem a3p.mono : ∀ a0 a1 k,LeO (a3p.f k a0 a1) (a3p.f (k + 1) a0 a1) := by
 intro a0 a1 k
 unfold a3p.f
 with_reducible (repeat' first | apply a2r.mono | apply LeO.refl | apply LeO.none | apply LeO.ite | refine LeO.bind ?_ (fun _ => ?_))
set_option maxHeartbeats 8000000 in
set_option maxRecDepth 100000 in
theorem a3p.calls (k : Nat) (a0 : Int) (c : Nat) (A1 : Option Addr) (c1 : Nat) (l1 : List Int) (r : Bool) (w : World) (d : Kd.C (Kd.int .i64) w A1 l1.length l1) (g : l1.length ≤ c1) (i : w.heap[c]? = some (.cells #[.slice A1 l1.length c1] 25 (0,0))) (h : a3p.f k a0 l1 = some r) :
  Calls Try.prog 80 #[.int .i64 a0, .pointer (some ⟨c,0,none⟩)] w fun e w' => e = .returned (.bool r) ∧ a3v w w' := by
 have l := am_ d
 have m := am_ g
 clear d g
 have b := am_ i
 clear i
 have H : ((a2r.f k l1 a0).bind fun a => (some a)) = some r := h
 clear h
 replace H := bm_ H
 obtain ⟨a,j,H⟩ := H
 have A3 := am_ j
 clear j
 obtain rfl := si_ H
 have n : w.cell? ⟨c,0,none⟩ = some (.slice A1 l1.length c1) := (bc_ b.out 0).trans rfl
 have o := bf_ b.out 0
 go_enter Try.func80,Try.ntmps80
 go_wp2_with (first | ((with_reducible refine a0i (f := 48) rfl ?_);refine a1i (some 6) rfl rfl Try.func48 (by kernel_rfl) rfl #[.slice A1 l1.length c1, .int .i64 a0] rfl ql_ ?_;(with_reducible refine (a2r.calls k _ _ l1 a0 a _ ?s1 m.out A3.out).mono ?_);(case s1 => repeat (first | exact l.out | (with_reducible refine Kd.a1b ?_ _) | (with_reducible refine Kd.a1c ?_ _) | (with_reducible refine Kd.a1k ?_)));rintro e w' ⟨rfl,⟨nd,rfl⟩⟩;refine ⟨_,rfl,?_⟩))
 go_ret
 exact ⟨qs_,qy_⟩
def a0l.l0 : Nat → List Int → Int → Int → List Int → Option (Int)
 | 0,_,_,_,_ => none
 | k + 1,x0,x7,x8,z0 => if x8 < x7 then (if 0 ≤ x8 then (if x8 < (x0.length : Int) then ((a3p.f k (rd x0 x8) z0).bind fun a => (if a = true then (some x8) else (a0l.l0 k x0 x7 (wrap64 (x8 + 1)) z0))) else (none)) else (none)) else (some (-1))
def a0l.f (k : Nat) (l0 : List Int)  (l2 : List Int) : Option (Int) := a0l.l0 k l0 (l0.length : Int) 0 l2
theorem a0l.a1t : ∀ k,(∀ y0 y1 y2 y3,LeO (a0l.l0 k y0 y1 y2 y3) (a0l.l0 (k + 1) y0 y1 y2 y3))
 | 0 => fun _ _ _ _ r h => by simp [a0l.l0] at h
 | k + 1 => by
  have a := a0l.a1t k
  intro y0 y1 y2 y3
  unfold a0l.l0
  with_reducible (repeat' first | apply a | apply a3p.mono | apply LeO.refl | apply LeO.none | apply LeO.ite | refine LeO.bind ?_ (fun _ => ?_))
theorem a0l.mono : ∀ a0 a1 k,LeO (a0l.f k a0 a1) (a0l.f (k + 1) a0 a1) := by
 intro a0 a1 k
 have a := a0l.a1t k
 unfold a0l.f
 with_reducible (repeat' first | apply a | apply a3p.mono | apply LeO.refl | apply LeO.none | apply LeO.ite | refine LeO.bind ?_ (fun _ => ?_))
set_option maxHeartbeats 8000000 in
set_option maxRecDepth 100000 in
theorem a0l.calls (k : Nat) (A0 : Option Addr) (c0 : Nat) (l0 : List Int)  (g : Nat) (A2 : Option Addr) (c2 : Nat) (l2 : List Int) (r : Int) (w : World) (m : Kd.C (Kd.int .i64) w A0 l0.length l0) (n : l0.length ≤ c0) (o : Kd.C (Kd.int .i64) w A2 l2.length l2) (p : l2.length ≤ c2) (q : w.heap[g]? = some (.cells #[.slice A2 l2.length c2] 25 (0,0))) (h : a0l.f k l0 l2 = some r) :
  Calls Try.prog 60 #[.slice A0 l0.length c0, .func (.func 80) #[] #[.pointer (some ⟨g,0,none⟩)]] w fun e w' => e = .returned (.int .i64 r) ∧ a3v w w' := by
 have s := am_ m
 have D := am_ n
 clear m n
 have t := am_ o
 have u := am_ p
 clear o p
 have d := am_ q
 clear q
 have H : (a0l.l0 k l0 (l0.length : Int) 0 l2) = some r := h
 clear h
 have H' := am_ H
 clear H
 go_enter Try.func60,Try.ntmps60
 go_wp2
 go_loopg [8] k (fun kq v8 w' => ∃ (a : Int),v8 = .int .i64 a ∧ Aside0 (a0l.l0 kq l0 (l0.length : Int) a l2 = some r) ∧ Aside0 (kq ≤ k) ∧ Aside0 (w'.heap[g]? = some (.cells #[(.slice A2 l2.length c2)] 25 (0,0))) ∧ a3v w w')
 case atStart => exact ⟨(0),qs_,H',⟨Nat.le_refl _⟩,⟨qk_ d⟩,qy_⟩
 case round =>
 clear H'
 try clear c2
 obtain ⟨a,rfl,HA,v,d,⟨m1,rfl⟩⟩ := hrel
 cases gk with
 | zero => exact absurd HA.out (by simp [a0l.l0])
 | succ k1 =>
 have H := HA.out
 clear HA
 simp only [a0l.l0] at H
 by_cases c4 : a < (l0.length : Int)
 rotate_left
 ·rw [if_neg c4] at H
  have y : decide (a < (l0.length : Int)) = false := decide_eq_false c4
  clear c4
  obtain rfl := si_ H
  go_wp2
  go_ret
  exact ⟨qs_,qy_⟩
 rw [if_pos c4] at H
 have y : decide (a < (l0.length : Int)) = true := decide_eq_true c4
 clear c4
 obtain ⟨A,H⟩ := qid_ H
 obtain ⟨B,H⟩ := qid_ H
 replace H := bm_ H
 obtain ⟨z,x,H⟩ := H
 have A7 := am_ x
 clear x
 by_cases c8 : z = true
 ·subst c8
  replace H := qip_ H
  obtain rfl := si_ H
  have b : 0 ≤ (a : Int) := ot_
  have c : a < (l0.length : Int) := ot_
  obtain ⟨l,i,j⟩ := Kd.a4q s.out a b c
  cases i
  replace b := eq_true b
  replace c := eq_true c
  go_wp2_with (first | (go_at_call 80;(with_reducible refine (a3p.calls k1 (rd l0 a) g A2 c2 l2 true _ ?s1 u.out ?s3 A7.out).mono ?_);(case s1 => repeat (first | exact t.out | (with_reducible refine Kd.a1b ?_ _) | (with_reducible refine Kd.a1c ?_ _) | (with_reducible refine Kd.a1k ?_)));(case s3 => exact (qk_ d));rintro e w' ⟨rfl,⟨nd,rfl⟩⟩))
  go_ret
  exact ⟨qs_,qy_⟩
 replace c8 := be_ c8
 subst c8
 replace H := qin_ H
 have H' := am_ H
 clear H
 have b : 0 ≤ (a : Int) := ot_
 have c : a < (l0.length : Int) := ot_
 obtain ⟨l,i,j⟩ := Kd.a4q s.out a b c
 cases i
 replace b := eq_true b
 replace c := eq_true c
 go_wp2_with (first | (go_at_call 80;(with_reducible refine (a3p.calls k1 (rd l0 a) g A2 c2 l2 false _ ?s1 u.out ?s3 A7.out).mono ?_);(case s1 => repeat (first | exact t.out | (with_reducible refine Kd.a1b ?_ _) | (with_reducible refine Kd.a1c ?_ _) | (with_reducible refine Kd.a1k ?_)));(case s3 => exact (qk_ d));rintro e w' ⟨rfl,⟨nd,rfl⟩⟩))
 go_roundg k1
 case measure => have := v.out;omega
 case rel => exact ⟨(wrap64 (a + 1)),qs_,H',⟨by have := v.out;omega⟩,⟨qk_ d⟩,qy_⟩
def a2q.f (k : Nat) (l0 : List Int)  (l2 : List Int) : Option (Bool) := (a0l.f k l0 l2).bind fun a => (some (decide (a ≥ 0)))
theorem a2q.mono : ∀ a0 a1 k,LeO (a2q.f k a0 a1) (a2q.f (k + 1) a0 a1) := by
 intro a0 a1 k
 unfold a2q.f
 with_reducible (repeat' first | apply a0l.mono | apply LeO.refl | apply LeO.none | apply LeO.ite | refine LeO.bind ?_ (fun _ => ?_))
set_option maxHeartbeats 8000000 in
set_option maxRecDepth 100000 in
theorem a2q.calls (k : Nat) (A0 : Option Addr) (c0 : Nat) (l0 : List Int)  (b : Nat) (A2 : Option Addr) (c2 : Nat) (l2 : List Int) (r : Bool) (w : World) (d : Kd.C (Kd.int .i64) w A0 l0.length l0) (g : l0.length ≤ c0) (i : Kd.C (Kd.int .i64) w A2 l2.length l2) (j : l2.length ≤ c2) (l : w.heap[b]? = some (.cells #[.slice A2 l2.length c2] 25 (0,0))) (h : a2q.f k l0 l2 = some r) :
  Calls Try.prog 40 #[.slice A0 l0.length c0, .func (.func 80) #[] #[.pointer (some ⟨b,0,none⟩)]] w fun e w' => e = .returned (.bool r) ∧ a3v w w' := by
 have n := am_ d
 have o := am_ g
 clear d g
 have p := am_ i
 have q := am_ j
 clear i j
 have c := am_ l
 clear l
 have H : ((a0l.f k l0 l2).bind fun a => (some (decide (a ≥ 0)))) = some r := h
 clear h
 replace H := bm_ H
 obtain ⟨a,m,H⟩ := H
 have A4 := am_ m
 clear m
 obtain rfl := si_ H
 go_enter Try.func40,Try.ntmps40
 go_wp2_with (first | ((with_reducible refine a0i (f := 60) rfl ?_);refine a1i (some 7) rfl rfl Try.func60 (by kernel_rfl) rfl #[.slice A0 l0.length c0, .func (.func 80) #[] #[.pointer (some ⟨b,0,none⟩)]] rfl ql_ ?_;(with_reducible refine (a0l.calls k _ _ l0  b A2 c2 l2 a _ ?s1 o.out ?s3 q.out ?s5 A4.out).mono ?_);(case s1 => repeat (first | exact n.out | (with_reducible refine Kd.a1b ?_ _) | (with_reducible refine Kd.a1c ?_ _) | (with_reducible refine Kd.a1k ?_)));(case s3 => repeat (first | exact p.out | (with_reducible refine Kd.a1b ?_ _) | (with_reducible refine Kd.a1c ?_ _) | (with_reducible refine Kd.a1k ?_)));(case s5 => exact (qk_ c));rintro e w' ⟨rfl,⟨nd,rfl⟩⟩;refine ⟨_,rfl,?_⟩))
 go_ret
 exact ⟨qs_,qy_⟩
def a4u.f (k : Nat) (l0 l1 : List Int) : Option (Bool) := (a2q.f k l0 l1).bind fun a => (some a)
theorem a4u.mono : ∀ a0 a1 k,LeO (a4u.f k a0 a1) (a4u.f (k + 1) a0 a1) := by
 intro a0 a1 k
 unfold a4u.f
 with_reducible (repeat' first | apply a2q.mono | apply LeO.refl | apply LeO.none | apply LeO.ite | refine LeO.bind ?_ (fun _ => ?_))
set_option maxHeartbeats 8000000 in
set_option maxRecDepth 100000 in
theorem a4u.calls (k : Nat) (A0 : Option Addr) (c0 : Nat) (l0 : List Int) (A1 : Option Addr) (c1 : Nat) (l1 : List Int) (r : Bool) (w : World) (d : Kd.C (Kd.int .i64) w A0 l0.length l0) (g : l0.length ≤ c0) (i : Kd.C (Kd.int .i64) w A1 l1.length l1) (j : l1.length ≤ c1) (h : a4u.f k l0 l1 = some r) :
  Calls Try.prog 75 #[.slice A0 l0.length c0, .slice A1 l1.length c1] w fun e w' => e = .returned (.bool r) ∧ Below w.heap.size w w' := by
 have m := am_ d
 have n := am_ g
 clear d g
 have o := am_ i
 have p := am_ j
 clear i j
 have HB := am_ (Below.refl w.heap.size w)
 have H : ((a2q.f k l0 l1).bind fun a => (some a)) = some r := h
 clear h
 replace H := bm_ H
 obtain ⟨a,l,H⟩ := H
 have A3 := am_ l
 clear l
 obtain rfl := si_ H
 go_enter Try.func75,Try.ntmps75
 go_wp2_with (first | ((with_reducible refine a1d (N := 3) rfl ?_);refine qev_ 3 #[.slice A1 l1.length c1] 25 ?_;intro b hg w4 hbox hb;have c := am_ (hbox);have q := qga_ hg;have s := qga_ hg;replace HB := qbs_ hb;clear hb hbox hg) | ((with_reducible refine a0i (f := 40) rfl ?_);refine a1i (some 7) rfl rfl Try.func40 (by kernel_rfl) rfl #[.slice A0 l0.length c0, .func (.func 80) #[] #[.pointer (some ⟨b,0,none⟩)]] rfl ql_ ?_;(with_reducible refine (a2q.calls k _ _ l0  b A1 c1 l1 a _ ?s1 n.out ?s3 p.out ?s5 A3.out).mono ?_);(case s1 => exact qc_ m);(case s3 => exact qc_ o);(case s5 => exact (qk_ c));rintro e w' ⟨rfl,⟨nd,rfl⟩⟩;refine ⟨_,rfl,?_⟩))
 go_ret
 exact ⟨qx_,qb_⟩
def a5v.f (k : Nat) (g a h : Int) (i b : List Int) (j c l : Int) (m d : List Int) : Option (Bool) := if a = c then (some true) else ((a4u.f k b d).bind fun e => (some e))
theorem a5v.mono : ∀ a0 a1 a2 a3 a4 a5 a6 a7 a8 a9 k,LeO (a5v.f k a0 a1 a2 a3 a4 a5 a6 a7 a8 a9) (a5v.f (k + 1) a0 a1 a2 a3 a4 a5 a6 a7 a8 a9) := by
 intro a0 a1 a2 a3 a4 a5 a6 a7 a8 a9 k
 unfold a5v.f
 with_reducible (repeat' first | apply a4u.mono | apply LeO.refl | apply LeO.none | apply LeO.ite | refine LeO.bind ?_ (fun _ => ?_))
set_option maxHeartbeats 8000000 in
set_option maxRecDepth 100000 in
theorem a5v.calls (k : Nat) (o b p : Int) (q : Option Addr) (s : Nat) (m : List Int) (t : Option Addr) (u : Nat) (d : List Int) (v c x : Int) (y : Option Addr) (z : Nat) (n : List Int) (A : Option Addr) (B : Nat) (g : List Int) (r : Bool) (w : World) (E : Kd.C (Kd.int .i64) w q m.length m) (G : m.length ≤ s) (I : Kd.C (Kd.int .i64) w t d.length d) (J : d.length ≤ u) (K : Kd.C (Kd.int .i64) w y n.length n) (L : n.length ≤ z) (M : Kd.C (Kd.int .i64) w A g.length g) (O : g.length ≤ B) (h : a5v.f k o b p m d v c x n g = some r) :
  Calls Try.prog 63 #[.agg #[.int .i64 o, .int .i64 b, .int .i64 p, .slice q m.length s, .slice t d.length u], .agg #[.int .i64 v, .int .i64 c, .int .i64 x, .slice y n.length z, .slice A g.length B]] w fun e w' => e = .returned (.bool r) ∧ Below w.heap.size w w' := by
 have aU := Try.underlying51
 have au := am_ E
 have av := am_ G
 clear E G
 have P := am_ I
 have T := am_ J
 clear I J
 have aw := am_ K
 have ax := am_ L
 clear K L
 have U := am_ M
 have W := am_ O
 clear M O
 have HB := am_ (Below.refl w.heap.size w)
 have H : (if b = c then (some true) else ((a4u.f k d g).bind fun D => (some D))) = some r := h
 clear h
 by_cases c3 : b = c
 ·rw [if_pos c3] at H
  have a6 : (b == c) = true := beq_iff_eq.mpr c3
  have a7 : (b != c) = false := bne_eq_false_iff_eq.mpr c3
  clear c3
  obtain rfl := si_ H
  go_enter Try.func63,Try.ntmps63
  go_wp2_with (first | ((with_reducible refine a1d (N := 2) rfl ?_);refine qev_ 2 #[.int .i64 o, .int .i64 b, .int .i64 p, .slice q m.length s, .slice t d.length u] 51 ?_;intro X hg w4 hbox hb;have a := am_ (hbox);have a0 := qga_ hg;have a1 := qga_ hg;replace HB := qbs_ hb;clear hb hbox hg) | ((with_reducible refine a1d (N := 3) rfl ?_);refine qev_ 3 #[.int .i64 v, .int .i64 c, .int .i64 x, .slice y n.length z, .slice A g.length B] 51 ?_;intro a2 hg w5 hbox hb;have i := am_ (hbox);have a3 := qga_ hg;have a4 := qga_ hg;replace HB := qbs_ hb;obtain ⟨j,l⟩ := qnb_ hg a;replace a := qkb_ a hb;clear hb hbox hg;have aV := j.out;have aW := l.out;obtain ⟨ay,az,aA,aB,aC⟩ := qz5_ a;obtain ⟨aD,aE,aF,aG,aH⟩ := qf5_ a;obtain ⟨aI,aJ,aK,aL,aM⟩ := qz5_ i;obtain ⟨aN,aO,aP,aQ,aR⟩ := qf5_ i))
  go_ret
  exact ⟨qx_,qb_⟩
 rw [if_neg c3] at H
 have a6 : (b == c) = false := beq_eq_false_iff_ne.mpr c3
 have a7 : (b != c) = true := bne_iff_ne.mpr c3
 replace H := bm_ H
 obtain ⟨D,a5,H⟩ := H
 have A9 := am_ a5
 clear a5
 obtain rfl := si_ H
 go_enter Try.func63,Try.ntmps63
 go_wp2_with (first | ((with_reducible refine a1d (N := 2) rfl ?_);refine qev_ 2 #[.int .i64 o, .int .i64 b, .int .i64 p, .slice q m.length s, .slice t d.length u] 51 ?_;intro X hg aX hbox hb;have a := am_ (hbox);have a0 := qga_ hg;have a1 := qga_ hg;replace HB := qbs_ hb;clear hb hbox hg) | ((with_reducible refine a1d (N := 3) rfl ?_);refine qev_ 3 #[.int .i64 v, .int .i64 c, .int .i64 x, .slice y n.length z, .slice A g.length B] 51 ?_;intro a2 hg aY hbox hb;have i := am_ (hbox);have a3 := qga_ hg;have a4 := qga_ hg;replace HB := qbs_ hb;obtain ⟨j,l⟩ := qnb_ hg a;replace a := qkb_ a hb;clear hb hbox hg;have aS := j.out;have aT := l.out;obtain ⟨a8,a9,aa,ab,ac⟩ := qz5_ a;obtain ⟨ad,ae,af,ag,ah⟩ := qf5_ a;obtain ⟨ai,aj,ak,al,am⟩ := qz5_ i;obtain ⟨an,ao,ap,aq,ar⟩ := qf5_ i) | (go_at_call 75;(with_reducible refine (a4u.calls k _ _ d _ _ g D _ ?s1 T.out ?s3 W.out A9.out).mono ?_);(case s1 => exact qc_ P);(case s3 => exact qc_ U);rintro e aZ ⟨rfl,hb⟩;replace a := qkb_ a hb;replace i := qkb_ i hb;replace HB := qbs_ hb;(try clear hb);(try clear b0);(try clear hk);(try clear hi)))
 go_ret
 exact ⟨qx_,qb_⟩
end Go.Proofs.Ytheibjkjmkanoaa.Px
