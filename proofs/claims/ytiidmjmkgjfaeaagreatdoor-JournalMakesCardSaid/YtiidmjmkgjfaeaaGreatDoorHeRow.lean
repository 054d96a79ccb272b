import Derived.Test.YtiidmjmkgjfaeaaGreatDoorRow
import Derived.Test.YtiidmjmkgjfaeaaGreatDoorPAx5
import Derived.Test.YtiidmjmkgjfaeaaGreatDoorJouLawM2
namespace Go.Proofs.YtiidmjmkgjfaeaaGreatDoor
open Go Go.RowKit Go.ChangeShapes Go.WideShapes Go.Proofs.YtiidmjmkgjfaeaaGreatDoorW.PrintWords
variable {H : Type} {enc : TypeId × Value → H} {P : Program} {W : World} {sp : Nat → Bool} {held : Bool}
theorem slice_trod {α : Type} (d : Kd α) (Q : α → Prop) {t e : TypeId} {fuel : Nat} {cs : List Value} {x : DataW H × List MemPlace} (ht : P.underlying t = some (.slice e)) (hc : P.cellsOf e = d.sz)
  (hel : ∀ (n : Nat) (cs : List Value) (y : DataW H × List MemPlace),DataW.trod enc P W 0 sp held n e cs = some y → ∃ p,d.K W p cs ∧ Q p)
  (h : DataW.trod enc P W 0 sp held fuel t cs = some x) : ∃ l : List α,(Kd.slice e d).K W l cs ∧ ∀ p ∈ l,Q p := by
 rcases DataW.trod_slice ht h with ⟨rfl,_⟩ | ⟨a,len,cap,elems,rest,n,_,rfl,_,_,hl,hm,hlen,hels,_,_⟩
 ·exact ⟨[],⟨none,0,rfl,Nat.le_refl _,Kd.C_nil d W⟩,fun p hp => by cases hp⟩
 ·have each : ∀ i,i < len → ∃ p : α,∃ c : List Value,c.length = d.sz ∧ d.K W p c ∧ Q p ∧ ∀ j u,c[j]? = some u → W.cell? (a.add (i * d.sz + j)) = some u := fun i hi => by
   have h1 := hels i hi
   rw [List.getElem?_eq_getElem (by omega),Option.bind_eq_some_iff] at h1
   obtain ⟨c,hcc,hy⟩ := h1
   obtain ⟨_,hcl,hcell⟩ := World.cells?_some hcc
   obtain ⟨p,hK,hQ⟩ := hel n c _ hy
   refine ⟨p,c,hcl.trans hc,hK,hQ,fun j u hj => ?_⟩
   have hjl := (List.getElem?_eq_some_iff.1 hj).1
   have := hcell j (by omega)
   rw [Addr.add_add,hc,hj] at this
   exact this
  have : ∀ m,m ≤ len → ∃ l : List α,l.length = m ∧ (∀ p ∈ l,Q p) ∧ ∀ i p,l[i]? = some p → ∃ c : List Value,c.length = d.sz ∧ d.K W p c ∧ ∀ j u,c[j]? = some u → W.cell? (a.add (i * d.sz + j)) = some u := by
   intro m
   induction m with
   | zero => exact fun _ => ⟨[],rfl,(fun p hp => nomatch hp),(fun i p hp => by simp at hp)⟩
   | succ m ih =>
    intro hm'
    obtain ⟨l,h1,h2,h3⟩ := ih (by omega)
    obtain ⟨p,c,k1,k2,k3,k4⟩ := each m (by omega)
    refine ⟨l ++ [p],by simp [h1],fun q hq => ?_,fun i q hq => ?_⟩
    ·rcases List.mem_append.1 hq with hq | hq
     ·exact h2 q hq
     ·obtain rfl := List.mem_singleton.1 hq
      exact k3
    ·by_cases hi : i < l.length
     ·rw [List.getElem?_append_left hi] at hq
      exact h3 i q hq
     ·rw [List.getElem?_append_right (by omega)] at hq
      have h0 : i - l.length = 0 := by
       have := (List.getElem?_eq_some_iff.1 hq).1
       simp at this
       omega
      rw [h0] at hq
      obtain rfl : p = q := by simpa using hq
      obtain rfl : i = m := by omega
      exact ⟨c,k1,k2,k4⟩
  obtain ⟨l,h1,h2,h3⟩ := this len (Nat.le_refl _)
  refine ⟨l,⟨some a,cap,by rw [h1],by omega,⟨rfl,by unfold maxLen at hm;omega,fun _ => ⟨a,rfl,h3⟩⟩⟩,h2⟩
theorem slice_of {α : Type} (d : Kd α) (Q : α → Prop) {base : Nat} {t e : TypeId} {v : Value} {x : DataW H} {p : List MemPlace} (ht : P.underlying t = some (.slice e)) (hc : P.cellsOf e = d.sz)
  (hel : ∀ (n : Nat) (cs : List Value) (y : DataW H × List MemPlace),DataW.trod enc P W 0 sp held n e cs = some y → ∃ p,d.K W p cs ∧ Q p)
  (hv : Value.okWide P W .any base t v) (h : DataW.Trod enc P W 0 sp held t v x p) : ∃ (A : Option Addr) (c : Nat) (l : List α),v = .slice A l.length c ∧ d.C W A l.length l ∧ l.length ≤ c ∧ ∀ p ∈ l,Q p := by
 obtain ⟨A,len,cap,rfl⟩ := okWide_slice ht hv
 obtain ⟨fuel,hf⟩ := h
 obtain ⟨l,⟨A',c,h1,h2,h3⟩,h4⟩ := slice_trod d Q ht hc hel hf
 refine ⟨A',c,l,?_,h3,h2,h4⟩
 simpa [Value.cells] using h1
def AtomQ (x : PA.S46) : Prop := x.f0.size ≤ maxLen ∧ x.f2.size ≤ maxLen
set_option maxRecDepth 100000 in
theorem atom_trod {n : Nat} {cs : List Value} {y : DataW H × List MemPlace} (h : DataW.trod enc Tryz.prog W 0 sp held n 46 cs = some y) : ∃ x,PA.k46.K W x cs ∧ AtomQ x := by
 obtain ⟨xs,m,_,_,hlen,hx,hf⟩ := DataW.trod_struct Tryz.underlying46 h
 have h0 := hf 0 _ rfl
 have h1 := hf 1 _ rfl
 have h2 := hf 2 _ rfl
 rw [show Tryz.prog.cellsOf 46 = 3 by kernel_rfl] at hlen
 match cs,hlen with
 | [c0,c1,c2],_ =>
  match xs,hx with
  | [x0,x1,x2],_ =>
   obtain ⟨s0,e0,_,w0⟩ := DataW.trod_string (by kernel_rfl) h0
   obtain ⟨s1,e1,_,_⟩ := DataW.trod_int (k := .i64) (by kernel_rfl) h1
   obtain ⟨s2,e2,_,w2⟩ := DataW.trod_string (by kernel_rfl) h2
   have f0 : c0 = .string s0 := by
    rw [show Tryz.prog.cellsOf _ = 1 by kernel_rfl] at e0
    simpa using e0
   have f1 : c1 = .int .i64 s1 := by
    rw [show Tryz.prog.cellsOf _ = 1 by kernel_rfl] at e1
    simpa using e1
   have f2 : c2 = .string s2 := by
    rw [show Tryz.prog.cellsOf _ = 1 by kernel_rfl] at e2
    simpa using e2
   subst f0 f1 f2
   exact ⟨⟨s0,s1,s2⟩,PA.k46_mk W _,w0,w2⟩
end Go.Proofs.YtiidmjmkgjfaeaaGreatDoor

namespace Go.Proofs.YtiidmjmkgjfaeaaGreatDoor.Ent
open Go Go.RowKit Go.ChangeShapes Go.WideShapes Go.Proofs.YtiidmjmkgjfaeaaGreatDoorW.PrintWords Go.Proofs.YtiidmjmkgjfaeaaGreatDoor.PA
variable {H : Type} {enc : TypeId × Value → H} {W : World} {sp : Nat → Bool} {held : Bool}
set_option maxRecDepth 100000 in
theorem agroups_trod {n : Nat} {cs : List Value} {y : DataW H × List MemPlace} (h : DataW.trod enc Tryz.prog W 0 sp held n 34 cs = some y) : ∃ l,(Kd.slice 47 KG).K W l cs ∧ ∀ g ∈ l,∀ p ∈ g,AtomQ p :=
 slice_trod KG (fun g => ∀ p ∈ g,AtomQ p) Tryz.underlying34 (by kernel_rfl) (fun _ _ _ h => slice_trod KA AtomQ Tryz.underlying47 (by kernel_rfl) (fun _ _ _ h => atom_trod h) h) h
set_option maxRecDepth 100000 in
theorem aatoms_trod {n : Nat} {cs : List Value} {y : DataW H × List MemPlace} (h : DataW.trod enc Tryz.prog W 0 sp held n 35 cs = some y) : ∃ l,(Kd.slice 46 KA).K W l cs ∧ ∀ p ∈ l,AtomQ p :=
 slice_trod KA AtomQ Tryz.underlying35 (by kernel_rfl) (fun _ _ _ h => atom_trod h) h
set_option maxRecDepth 100000 in
theorem entry_trod {n : Nat} {cs : List Value} {y : DataW H × List MemPlace} (h : DataW.trod enc Tryz.prog W 0 sp held n 37 cs = some y) : ∃ (e : E6) (a : EA),cs = (ecs e a).toList ∧ EC W e a := by
 obtain ⟨xs,m,_,_,hlen,hx,hf⟩ := DataW.trod_struct Tryz.underlying37 h
 have h0 := hf 0 _ rfl
 have h1 := hf 1 _ rfl
 have h2 := hf 2 _ rfl
 have h3 := hf 3 _ rfl
 have h4 := hf 4 _ rfl
 have h5 := hf 5 _ rfl
 clear hf
 rw [show Tryz.prog.cellsOf 37 = 6 by kernel_rfl] at hlen
 match cs,hlen with
 | [c0,c1,c2,c3,c4,c5],_ =>
  match xs,hx with
  | [x0,x1,x2,x3,x4,x5],_ =>
   obtain ⟨s0,e0,_,w0⟩ := DataW.trod_string (by kernel_rfl) h0
   obtain ⟨s1,e1,_,w1⟩ := DataW.trod_string (by kernel_rfl) h1
   obtain ⟨l2,⟨A2,k2,e2,m2,r2⟩,_⟩ := agroups_trod h2
   obtain ⟨l3,⟨A3,k3,e3,m3,r3⟩,_⟩ := agroups_trod h3
   obtain ⟨l4,⟨A4,k4,e4,m4,r4⟩,_⟩ := aatoms_trod h4
   obtain ⟨l5,⟨A5,k5,e5,m5,r5⟩,_⟩ := aatoms_trod h5
   have f0 : c0 = .string s0 := by
    rw [show Tryz.prog.cellsOf _ = 1 by kernel_rfl] at e0
    simpa [Value.cells] using e0
   have f1 : c1 = .string s1 := by
    rw [show Tryz.prog.cellsOf _ = 1 by kernel_rfl] at e1
    simpa [Value.cells] using e1
   have f2 : c2 = .slice A2 l2.length k2 := by
    rw [show Tryz.prog.cellsOf _ = 1 by kernel_rfl] at e2
    simpa [Value.cells] using e2
   have f3 : c3 = .slice A3 l3.length k3 := by
    rw [show Tryz.prog.cellsOf _ = 1 by kernel_rfl] at e3
    simpa [Value.cells] using e3
   have f4 : c4 = .slice A4 l4.length k4 := by
    rw [show Tryz.prog.cellsOf _ = 1 by kernel_rfl] at e4
    simpa [Value.cells] using e4
   have f5 : c5 = .slice A5 l5.length k5 := by
    rw [show Tryz.prog.cellsOf _ = 1 by kernel_rfl] at e5
    simpa [Value.cells] using e5
   subst f0 f1 f2 f3 f4 f5
   exact ⟨⟨s0,s1,l2,l3,l4,l5⟩,⟨A2,k2,A3,k3,A4,k4,A5,k5⟩,rfl,⟨r2,m2,r3,m3,r4,m4,r5,m5⟩⟩
set_option maxRecDepth 100000 in
theorem here_trod {n : Nat} {cs : List Value} {y : DataW H × List MemPlace} (h : DataW.trod enc Tryz.prog W 0 sp held n 39 cs = some y) : ∃ x,KH.K W x cs ∧ True := by
 obtain ⟨xs,m,_,_,hlen,hx,hf⟩ := DataW.trod_struct Tryz.underlying39 h
 have h0 := hf 0 _ rfl
 have h1 := hf 1 _ rfl
 have h2 := hf 2 _ rfl
 clear hf
 rw [show Tryz.prog.cellsOf 39 = 8 by kernel_rfl] at hlen
 match cs,hlen with
 | [c0,c1,c2,c3,c4,c5,c6,c7],_ =>
  match xs,hx with
  | [x0,x1,x2],_ =>
   obtain ⟨e,a,he,hE⟩ := entry_trod h0
   obtain ⟨s1,e1,_⟩ := DataW.trod_bool (by kernel_rfl) h1
   obtain ⟨s2,e2,_⟩ := DataW.trod_bool (by kernel_rfl) h2
   have f0 : [c0,c1,c2,c3,c4,c5] = (ecs e a).toList := by
    rw [show Tryz.prog.cellsOf _ = 6 by kernel_rfl] at he
    exact he
   have f1 : c6 = .bool s1 := by
    rw [show Tryz.prog.cellsOf _ = 1 by kernel_rfl] at e1
    simpa [Value.cells] using e1
   have f2 : c7 = .bool s2 := by
    rw [show Tryz.prog.cellsOf _ = 1 by kernel_rfl] at e2
    simpa [Value.cells] using e2
   subst f1 f2
   refine ⟨⟨e,s1,s2⟩,?_,trivial⟩
   have hh := here_mk (W := W) (h := ⟨e,s1,s2⟩) (a := a) hE
   have e8 : (hcs ⟨e,s1,s2⟩ a).toList = [c0,c1,c2,c3,c4,c5,.bool s1,.bool s2] := by
    have : (hcs ⟨e,s1,s2⟩ a).toList = (ecs e a).toList ++ [.bool s1,.bool s2] := rfl
    rw [this,← f0]
    rfl
   rw [e8] at hh
   exact hh
set_option maxRecDepth 100000 in
theorem heres_of {base : Nat} {v : Value} {x : DataW H} {p : List MemPlace} (hv : Value.okWide Tryz.prog W .any base 22 v) (h : DataW.Trod enc Tryz.prog W 0 sp held 22 v x p) :
  ∃ (A : Option Addr) (c : Nat) (l : List H8),v = .slice A l.length c ∧ KH.C W A l.length l ∧ l.length ≤ c := by
 obtain ⟨A,c,l,h1,h2,h3,_⟩ := slice_of KH (fun _ => True) Tryz.underlying22 (by kernel_rfl) (fun _ _ _ h => here_trod h) hv h
 exact ⟨A,c,l,h1,h2,h3⟩
end Go.Proofs.YtiidmjmkgjfaeaaGreatDoor.Ent

