
import Derived.Test.YtooomjcdlfdnmaaGreatDoorPAx0
import Derived.Test.YtooomjcdlfdnmaaGreatDoorPAx1
import Derived.Test.YtooomjcdlfdnmaaGreatDoorPAx9
namespace Go.Proofs.YtooomjcdlfdnmaaGreatDoor.PA
open Go.RowKit Go.Proofs.YtooomjcdlfdnmaaGreatDoorW.PrintWords Go.Proofs.YtooomjcdlfdnmaaGreatDoorW.PrintLast Go.Proofs.YtooomjcdlfdnmaaGreatDoorW.PrintMore
attribute [local go_sem] max2_int min2_int max_two min_two max_three min_three max_four min_four
set_option maxHeartbeats 8000000
set_option maxRecDepth 100000
set_option linter.unusedVariables false
set_option linter.unusedSimpArgs false
attribute [local go_sem high] eqA27
section
open Go.Proofs.YtooomjcdlfdnmaaGreatDoor.Pure (mk mk_size mk_app mk_toList mk_dataList)
open Dep
attribute [local go_sem] Oper.semAt_some mk_toList
def groupF (k : Nat) : List Dep.Bs → List S27 → Option (List S27 × Int)
 | [],g => some (g,0)
 | x :: r,g => (relation_Parse.f k (Pure.mk x)).bind fun t => if t.2.2.2 = 0 then groupF k r (g ++ [⟨t.1,t.2.1,t.2.2.1⟩]) else some ([],t.2.2.2)
def groupsF (k : Nat) : List Dep.Bs → List (List S27) → Option (List (List S27) × Int)
 | [],l => some (l,0)
 | p :: r,l => (groupF k (Dep.pcs 124 p) []).bind fun t => if t.2 = 0 then groupsF k r (l ++ [t.1]) else some ([],t.2)
def depends_Parse.f (k : Nat) (a0 : ByteArray) : Option (List (List S27) × Int) :=
 if a0.toList = ([] : List UInt8) then some ([],0) else if a0.toList.length < 4294967281 then (if ((Dep.pcs 44 a0.toList).length : Int) > 12 then some ([],8) else (slices_ContainsFunc_string_string_142.f k ((Dep.pcs 44 a0.toList).map Pure.mk) 0).bind fun t => if t = true then some ([],8) else groupsF k (Dep.pcs 44 a0.toList) []) else none
theorem groupF_mono (k : Nat) : ∀ xs g,LeO (groupF k xs g) (groupF (k + 1) xs g)
 | [],_ => LeO.refl _
 | x :: r,g => LeO.bind (relation_Parse.mono _ _) (fun t => LeO.ite (groupF_mono k r _) (LeO.refl _))
theorem groupsF_mono (k : Nat) : ∀ xs l,LeO (groupsF k xs l) (groupsF (k + 1) xs l)
 | [],_ => LeO.refl _
 | p :: r,l => LeO.bind (groupF_mono k _ _) (fun t => LeO.ite (groupsF_mono k r _) (LeO.refl _))
theorem depends_Parse.mono : ∀ k a0,LeO (depends_Parse.f k a0) (depends_Parse.f (k + 1) a0) := by
 intro k a0
 unfold depends_Parse.f
 repeat' first
   | (with_reducible exact slices_ContainsFunc_string_string_142.mono _ _ _)
   | (with_reducible exact groupsF_mono _ _ _)
   | (with_reducible exact LeO.refl _)
   | (with_reducible refine LeO.ite ?_ ?_)
   | (with_reducible refine LeO.bind ?_ (fun _ => ?_))
theorem own_kd {w : World} {base : Nat} {v : Value} {xs : List Bs} (h : w.ownsRow base 9 1 v xs.length (xs.map strV)) : Kd.R Kd.string 9 w base (fun _ => True) v (xs.map mk) := by
 refine Kd.R_of_own (by rw [List.length_map];show w.ownsRow base 9 1 v xs.length (encs Value.string (xs.map mk));rw [show encs Value.string (xs.map mk) = xs.map strV by simp [encs,strV]];exact h) (fun _ _ => trivial)
theorem new_row' (w : World) (o : Obj) : (w.alloc o).heap[w.heap.size]? = some o := World.alloc_heap_new w o
theorem old_row' {w : World} {o : Obj} {k : Nat} {x : Obj} (h : w.heap[k]? = some x) : (w.alloc o).heap[k]? = some x := (Below.heap_alloc w o k (Array.getElem?_eq_some_iff.1 h).1).trans h
abbrev resL (v : Value) : Obj := .cells #[v] 22 (0,0)
abbrev resE (v : Value) : Obj := .cells #[v] 45 (0,0)
abbrev KG : Kd (List S27) := Kd.slice 27 k27
abbrev boxG (v : Value) : Obj := .cells #[v] 77 (0,0)
structure PInv (k : Nat) (s : Bs) (r1 : List (List S27)) (r2 : Int) (w4 : World) (i : Nat) (v : Value) (Ds : List Nat) (l : List (List S27)) (wr : World) : Prop where
 hi : i ≤ (Dep.pcs 44 s).length
 rel : groupsF k ((Dep.pcs 44 s).drop i) l = some (r1,r2)
 len : l.length ≤ i
 S : Kd.S KG 77 wr w4.heap.size (fun _ => True) v l
 below : Below w4.heap.size w4 wr
 nodup : Ds.Nodup
 marks : ∀ D ∈ Ds,wr.heap[D]? = some (.deferred (some [])) ∧ w4.heap.size ≤ D
abbrev KA : Kd S27 := k27
structure But2 (a : Nat) (w w' : World) : Prop where
 os : w'.os = w.os
 tape : w'.tape = w.tape
 output : w'.output = w.output
 size : w.heap.size ≤ w'.heap.size
 block : ∀ k,k < w.heap.size → k ≠ a → k ≠ a + 1 → w'.heap[k]? = w.heap[k]?
theorem But2.grown {a : Nat} {w w1 w' : World} (h : But2 a w w1) {row : Option Nat} (hg : w1.grownBy w' row) (hr : ∀ r,row = some r → w.heap.size ≤ r) : But2 a w w' :=
 ⟨hg.os.trans h.os,hg.tape.trans h.tape,hg.output.trans h.output,Nat.le_trans h.size hg.size,fun k hk h1 h2 => (hg.block k (Nat.lt_of_lt_of_le hk h.size) (fun e => by have := hr k e.symm;omega)).trans (h.block k hk h1 h2)⟩
def GI (k : Nat) (p : Bs) (wr P1 : World) (pre : List Bs) (W : World) : Prop :=
 ∃ v g,W.heap[wr.heap.size]? = some (boxG v) ∧ Kd.R KA 27 W P1.heap.size (fun q => P1.heap.size ≤ q) v g ∧ g.length ≤ pre.length ∧ (∀ post,Dep.pcs 124 p = pre ++ post → groupF k (Dep.pcs 124 p) [] = groupF k post g) ∧ Below wr.heap.size wr W ∧ P1.heap.size ≤ W.heap.size
def GX (k : Nat) (p : Bs) (a : Nat) (wr : World) (c : Code) (_pre : List Bs) (W : World) : Prop :=
 c = .ret ∧ ∃ err : Int,W.heap[a]? = some (resL (.slice none 0 0)) ∧ W.heap[a + 1]? = some (resE (.int .i64 err)) ∧ err ≠ 0 ∧ groupF k (Dep.pcs 124 p) [] = some ([],err) ∧ But2 a wr W
theorem gi_from {k : Nat} {p : Bs} {wr P1 : World} (hP : wr.heap.size < P1.heap.size) : OwnFrom P1.heap.size (GI k p wr P1) := fun pre W W' row h hg hr => by
 obtain ⟨v,g,hb,hR,hl,hrel,hbel,hsz⟩ := h
 refine ⟨v,g,(hg.block _ (by omega) (fun e => by have := (hr _ e.symm).1;omega)).trans hb,?_,hl,hrel,hbel.grown hg hbel.size (fun r e => by have := (hr r e).1;omega),Nat.le_trans hsz hg.size⟩
 refine Kd.R_mono (Kd.R_grown (Kd.R_bound hR) hg (fun q hq e => ?_)) (fun _ hq => hq.1)
 obtain ⟨_,_,_,_,_,cells,hc⟩ := hq
 obtain ⟨o,ho,hn⟩ := (hr q e.symm).2
 rw [hc] at ho
 cases ho
 cases hn
theorem gi_b {k : Nat} {p : Bs} {wr P1 : World} (hP : wr.heap.size + 1 < P1.heap.size) : Dep.AbW (wr.heap.size + 1) (GI k p wr P1) := fun pre W W' h hg => by
 obtain ⟨v,g,hb,hR,hl,hrel,hbel,hsz⟩ := h
 exact ⟨v,g,(hg.block _ (by omega) (fun e => by have := Option.some.inj e;omega)).trans hb,Kd.R_grown hR hg (fun q hq e => by have := Option.some.inj e;omega),hl,hrel,hbel.grown hg hbel.size (fun r e => by have := Option.some.inj e;omega),Nat.le_trans hsz hg.size⟩
theorem gx_from {k a B : Nat} {p : Bs} {wr : World} (ha : a + 1 < wr.heap.size) (hB : wr.heap.size ≤ B) (c : Code) : OwnFrom B (GX k p a wr c) := fun pre W W' row h hg hr => by
 obtain ⟨hc,err,h1,h2,h3,h4,h5⟩ := h
 have hs := h5.size
 exact ⟨hc,err,(hg.block _ (by omega) (fun e => by have := (hr _ e.symm).1;omega)).trans h1,(hg.block _ (by omega) (fun e => by have := (hr _ e.symm).1;omega)).trans h2,h3,h4,h5.grown hg (fun r e => by have := (hr r e).1;omega)⟩
theorem gx_b {k a : Nat} {p : Bs} {wr : World} (ha : a + 1 < wr.heap.size) (c : Code) : Dep.AbW (wr.heap.size + 1) (GX k p a wr c) := fun pre W W' h hg => by
 obtain ⟨hc,err,h1,h2,h3,h4,h5⟩ := h
 have hs := h5.size
 exact ⟨hc,err,(hg.block _ (by omega) (fun e => by have := Option.some.inj e;omega)).trans h1,(hg.block _ (by omega) (fun e => by have := Option.some.inj e;omega)).trans h2,h3,h4,h5.grown hg (fun r e => by have := Option.some.inj e;omega)⟩
structure Start2 (wr : World) (p : Bs) (P1 : World) : Prop where
 g : P1.heap[wr.heap.size]? = some (boxG (.slice none 0 0))
 b : P1.heap[wr.heap.size + 1]? = some (box1 (.string (mk p)))
 s : P1.heap[wr.heap.size + 1 + 1]? = some (box1 (.string ⟨#[124]⟩))
 below : Below wr.heap.size wr P1
 size : P1.heap.size = wr.heap.size + 3
theorem start2_of (wr : World) (p : Bs) : Start2 wr p (((wr.alloc (boxG (.slice none 0 0))).alloc (box1 (.string (mk p)))).alloc (box1 (.string ⟨#[124]⟩))) := by
 have e1 : (wr.alloc (boxG (.slice none 0 0))).heap.size = wr.heap.size + 1 := by simp
 have e2 : ((wr.alloc (boxG (.slice none 0 0))).alloc (box1 (.string (mk p)))).heap.size = wr.heap.size + 1 + 1 := by simp
 refine ⟨old_row' (old_row' (new_row' wr _)),?_,?_,(((Below.refl _ wr).alloc (Nat.le_refl _) _).alloc (by simp) _).alloc (by simp;omega) _,by simp⟩
 ·have := new_row' (wr.alloc (boxG (.slice none 0 0))) (box1 (.string (mk p)))
  rw [e1] at this
  exact old_row' this
 ·have := new_row' ((wr.alloc (boxG (.slice none 0 0))).alloc (box1 (.string (mk p)))) (box1 (.string ⟨#[124]⟩))
  rw [e2] at this
  exact this
structure Start (w : World) (s : Bs) (w2 : World) : Prop where
 l : w2.heap[w.heap.size]? = some (resL (.slice none 0 0))
 e : w2.heap[w.heap.size + 1]? = some (resE (.int .i64 0))
 b : w2.heap[w.heap.size + 2]? = some (box1 (.string (mk s)))
 g : w2.heap[w.heap.size + 2 + 1]? = some (box1 (.string ⟨#[44]⟩))
 below : Below w.heap.size w w2
theorem start_of (w : World) (s : Bs) : Start w s ((((w.alloc (resL (.slice none 0 0))).alloc (resE (.int .i64 0))).alloc (box1 (.string (mk s)))).alloc (box1 (.string ⟨#[44]⟩))) := by
 have e1 : (w.alloc (resL (.slice none 0 0))).heap.size = w.heap.size + 1 := by simp
 have e2 : ((w.alloc (resL (.slice none 0 0))).alloc (resE (.int .i64 0))).heap.size = w.heap.size + 2 := by simp
 have e3 : (((w.alloc (resL (.slice none 0 0))).alloc (resE (.int .i64 0))).alloc (box1 (.string (mk s)))).heap.size = w.heap.size + 2 + 1 := by simp
 refine ⟨old_row' (old_row' (old_row' (new_row' w _))),?_,?_,?_,((((Below.refl _ w).alloc (Nat.le_refl _) _).alloc (by simp) _).alloc (by simp;omega) _).alloc (by simp;omega) _⟩
 ·have := new_row' (w.alloc (resL (.slice none 0 0))) (resE (.int .i64 0))
  rw [e1] at this
  exact old_row' (old_row' this)
 ·have := new_row' ((w.alloc (resL (.slice none 0 0))).alloc (resE (.int .i64 0))) (box1 (.string (mk s)))
  rw [e2] at this
  exact old_row' this
 ·have := new_row' (((w.alloc (resL (.slice none 0 0))).alloc (resE (.int .i64 0))).alloc (box1 (.string (mk s)))) (box1 (.string ⟨#[44]⟩))
  rw [e3] at this
  exact this
def Dep.StopHere (p : Prop) : Prop := p
theorem Dep.stopHere {p : Prop} (h : Dep.StopHere p) : p := h
def LInv (k : Nat) (s : Bs) (r1 : List (List S27)) (r2 : Int) (w w4 : World) (A1 : Option Addr) (cap : Nat) (a' : Act) (wr : World) : Prop := ∃ (i : Nat) (u7 u8 u27 u28 u29 u30 u31 u45 u46 u47 u48 u49 v : Value) (Ds : List Nat) (l : List (List S27)),Aside0 (PInv k s r1 r2 w4 i v Ds l wr) ∧ a' = { tmps := #[.string (mk s),undef,.pointer (some ⟨w.heap.size,0,none⟩),.pointer (some ⟨w.heap.size + 1,0,none⟩),.slice A1 (Dep.pcs 44 s).length cap,v,undef,u7,u8,undef,undef,undef,.string (mk s),.bool false,.string (mk s),.func (.func 200) #[] #[.pointer (some ⟨w.heap.size + 2,0,none⟩),.pointer (some ⟨w.heap.size + 2 + 1,0,none⟩)],.slice A1 (Dep.pcs 44 s).length cap,.slice A1 (Dep.pcs 44 s).length cap,.int .i64 ((Dep.pcs 44 s).length : Nat),.bool false,.bool false,.slice A1 (Dep.pcs 44 s).length cap,.bool false,.bool false,.slice A1 (Dep.pcs 44 s).length cap,.int .i64 ((Dep.pcs 44 s).length : Nat),.int .i64 (i : Nat),u27,u28,u29,u30,u31,undef,undef,undef,undef,undef,undef,undef,undef,undef,undef,undef,undef,undef,u45,u46,u47,u48,u49,undef],defers := Ds.map markOf }
theorem dparse_main (k : Nat) (s : Bs) (r1 : List (List (S27))) (r2 : Int) (w : World) (hG : GL w) (hs0 : s ≠ []) (hs : s.length < 4294967281) (h12 : ¬ ((Dep.pcs 44 s).length : Int) > 12)
  (hc : slices_ContainsFunc_string_string_142.f k ((Dep.pcs 44 s).map Pure.mk) 0 = some false) (h : groupsF k (Dep.pcs 44 s) [] = some (r1,r2)) :
  Calls Tryz.prog 83 #[.string (mk s)] w fun e w' => ∃ v0_ : Value,e = .returned (.tuple #[v0_,.int .i64 r2]) ∧ Kd.S (Kd.slice 27 k27) 77 w' w.heap.size (fun _ => True) v0_ r1 ∧ Below w.heap.size w w' := by
 refine (callsIn_wide (n := 20)).1 ?_
 have b0 : (s == []) = false := by simpa using hs0
 have b1 : decide (((Dep.pcs 44 s).length : Int) > 12) = false := decide_eq_false h12
 have HS := Aside0.mk hs
 have HC := Aside0.mk hc
 have HH := Aside0.mk h
 have H12 := Aside0.mk h12
 have HNG := Aside0.mk (show 4 ≤ w.heap.size from hG.size)
 clear hs hc h h12 hs0
 refine callsIn_of_wp_marks Tryz.func83 rfl trivial ?_ rfl
 simp only [Tryz.ntmps83,List.size_toArray,List.length_cons,List.length_nil,Nat.reduceAdd,Nat.reduceSub,Array.replicate_succ,Array.replicate_zero,List.push_toArray,List.append_toArray,List.nil_append,List.cons_append]
 gi_wp2_with (first
  | (refine ⟨trivial,?_⟩;gi_at_call 140;refine (callsIn_wide.2 (pieces_calls s 44 _)).mono ?_;rintro e w2 ⟨rfl,hw2⟩;rw [show ((w.alloc (Obj.cells #[Value.slice none 0 0] 22)).alloc (Obj.cells #[Value.int IntKind.i64 0] 45)).heap.size = w.heap.size + 2 by simp];have hst : Start w s w2 := (by rw [hw2];exact start_of w s);have HST := Aside0.mk hst;have HG2 := Aside0.mk (hG.below hst.below);have HB1 := Aside0.mk hst.b;have HB2 := Aside0.mk hst.g;have HNB := Aside0.mk (Nat.le_trans hG.size (Nat.le_add_right w.heap.size 2));clear hst hw2))
 refine ⟨trivial,?_⟩
 refine (callsIn_wide.2 (collect_calls (w.heap.size + 2) (w.heap.size + 2 + 1) (by omega) s 44 HS.out w2 HG2.out HNB.out HB1.out HB2.out)).mono ?_
 rintro e w3 ⟨v,rfl,hr,ho⟩
 obtain ⟨A1,cap,rfl,hcap,hkc⟩ := Kd.R_reads (own_kd hr)
 rw [List.length_map] at hcap hkc ⊢
 have HKC := Aside0.mk hkc
 have HCAP := Aside0.mk hcap
 have HR := Aside0.mk hr
 have HO := Aside0.mk ho
 have HG3 := Aside0.mk (gl_one HG2.out ho HNB.out)
 clear hr ho hkc hcap
 gi_wp2_with fail
 refine ⟨trivial,?_⟩
 have hcf := slices_ContainsFunc_string_string_142.calls k A1 cap ((Dep.pcs 44 s).map mk) 0 false w3 HG3.out (by rw [List.length_map];exact HKC.out) (by rw [List.length_map];exact HCAP.out) HC.out
 rw [List.length_map] at hcf
 refine (callsIn_wide.2 hcf).mono ?_
 clear hcf
 rintro e w4 ⟨rfl,hd⟩
 have HD4 := Aside0.mk hd
 clear hd
 gi_wp2_with fail
 have hb4 : Below w.heap.size w w4 := HST.out.below.trans ((HO.out.under HST.out.below.size (by omega)).trans (HD4.out.below.mono (Nat.le_trans HST.out.below.size HO.out.size)))
 have HB4 := Aside0.mk hb4
 have HL4 := Aside0.mk (show w4.heap[w.heap.size]? = some (resL (.slice none 0 0)) from (HD4.out.below.block _ (by have := HO.out.size;have := (Array.getElem?_eq_some_iff.1 HST.out.l).1;omega)).trans (HO.out.row HST.out.l (by omega)))
 have HE4 := Aside0.mk (show w4.heap[w.heap.size + 1]? = some (resE (.int .i64 0)) from (HD4.out.below.block _ (by have := HO.out.size;have := (Array.getElem?_eq_some_iff.1 HST.out.e).1;omega)).trans (HO.out.row HST.out.e (by omega)))
 have HK4 := Aside0.mk (Kd.C_below HKC.out HD4.out.below)
 have HG4 := Aside0.mk (hG.below hb4)
 have hlen44 := Dep.pcs_len 44 s
 have hl44 := Aside0.mk (show (Dep.pcs 44 s).length ≤ 12 by have := H12.out;omega)
 clear hb4 hlen44
 refine wpIn_loop (LInv k s r1 r2 w w4 A1 cap) (fun a' _ => (Dep.pcs 44 s).length - (intOf (a'.tmps.getD 26 undef)).toNat) ?_ ?_
 ·exact ⟨0,undef,undef,undef,undef,undef,undef,undef,undef,undef,undef,undef,undef,.slice none 0 0,[],[],⟨⟨Nat.zero_le _,HH.out,Nat.le_refl _,Kd.S_nil _ _ _ _ _,Below.refl _ _,List.nodup_nil,fun D hD => by cases hD⟩⟩,rfl⟩
 intro a' wr hinv
 obtain ⟨i,u7,u8,u27,u28,u29,u30,u31,u45,u46,u47,u48,u49,v,Ds,l,HP,rfl⟩ := hinv
 by_cases hi : i < (Dep.pcs 44 s).length
 ·have b2 : decide ((i : Int) < ((Dep.pcs 44 s).length : Int)) = true := decide_eq_true (by omega)
  have HB2 := Aside0.mk b2
  have q0 : (0 : Int) ≤ (i : Int) := by omega
  have q1 : (i : Int) < ((Dep.pcs 44 s).length : Int) := by omega
  have bw : wrap64 ((i : Int) + 1) = ((i + 1 : Nat) : Int) := by have := hl44.out;unfold wrap64;omega
  obtain ⟨p,hp⟩ : ∃ p,(Dep.pcs 44 s)[i]? = some p := ⟨_,List.getElem?_eq_getElem hi⟩
  have hkc := Kd.C_below HK4.out HP.out.below
  obtain ⟨ad,rfl,hcc⟩ := hkc.2.2 (by omega)
  have hc0 : wr.cell? (ad.add i) = some (.string (mk p)) := by
   obtain ⟨c,_,hK,hc⟩ := hcc i (mk p) (by rw [List.getElem?_map,hp];rfl)
   have hK : c = [.string (mk p)] := hK
   subst hK
   have := hc 0 _ rfl
   rwa [show i * Kd.string.sz + 0 = i from Nat.mul_one i] at this
  have hdrop : (Dep.pcs 44 s).drop i = p :: (Dep.pcs 44 s).drop (i + 1) := by
   rw [List.drop_eq_getElem_cons hi]
   rw [List.getElem?_eq_getElem hi] at hp
   rw [Option.some.inj hp]
  have hrel := HP.out.rel
  rw [hdrop] at hrel
  have hrel : ((groupF k (Dep.pcs 124 p) []).bind fun t => if t.2 = 0 then groupsF k ((Dep.pcs 44 s).drop (i + 1)) (l ++ [t.1]) else some ([],t.2)) = some (r1,r2) := hrel
  obtain ⟨t,ht,hrel⟩ := Option.bind_eq_some_iff.1 hrel
  have HT := Aside0.mk ht
  have HRL := Aside0.mk hrel
  have HPL := Aside0.mk (show p.length < 4294967281 from Nat.lt_of_le_of_lt (Dep.pcs_mem_len (List.mem_of_getElem? hp)) HS.out)
  have HI := Aside0.mk hi
  clear hp hkc hcc hdrop ht hrel hi
  gi_wp2_with (refine ⟨trivial,?_⟩;gi_at_call 140;refine (callsIn_wide.2 (pieces_calls p 124 _)).mono ?_;rintro e P1 ⟨rfl,hw2⟩;rw [show (wr.alloc (Obj.cells #[Value.slice none 0 0] 77)).heap.size = wr.heap.size + 1 by simp];have hst : Start2 wr p P1 := (by rw [hw2];exact start2_of wr p);have HS2 := Aside0.mk hst;clear hst hw2)
  have hNb := Aside0.mk (show wr.heap.size + 1 < P1.heap.size ∧ wr.heap.size + 1 + 1 < P1.heap.size by rw [HS2.out.size];omega)
  have hsq := Dep.pieces_seq 19 (by decide) (wr.heap.size + 1) (wr.heap.size + 1 + 1) (by omega) p 124 HPL.out P1 HS2.out.b HS2.out.s
  have HSQ := Aside0.mk hsq
  have HW4 := Aside0.mk (show w.heap.size + 1 < wr.heap.size from Nat.lt_of_lt_of_le (Array.getElem?_eq_some_iff.1 HE4.out).1 HP.out.below.size)
  have HGR := Aside0.mk (show GL wr from HG4.out.below HP.out.below)
  have HI0 := Aside0.mk (show GI k p wr P1 [] P1 from ⟨_,[],HS2.out.g,Kd.R_nil _ _ _ _ _,Nat.le_refl _,fun post e => by rw [e];rfl,HS2.out.below,Nat.le_refl _⟩)
  clear hsq
  refine Dep.rangeW (F := Fence.wide) (b := wr.heap.size + 1) (G := GL) (Kp := Dep.KpB (wr.heap.size + 1) (wr.heap.size + 1 + 1)) rfl (by decide) rfl trivial (enters_of Tryz.func200 (by kernel_rfl) rfl) HSQ.out hNb.out.1 Dep.KpB.trans
   (fun W W' row hg hr hW => Dep.kpB_of hg hr hNb.out.1 hNb.out.2 hW) (fun _ => rfl)
   (GI k p wr P1) (GX k p w.heap.size wr) (gi_from (by have := hNb.out.1;omega)) (fun c => gx_from HW4.out HS2.out.below.size c) (gi_b hNb.out.1) (fun c => gx_b HW4.out c) (fun pre W h => by obtain ⟨_,_,_,_,_,_,hb,_⟩ := h;exact HGR.out.below hb) HI0.out
   (fun x => { tmps := #[.string (mk s),undef,.pointer (some ⟨w.heap.size,0,none⟩),.pointer (some ⟨w.heap.size + 1,0,none⟩),.slice (some ad) (Dep.pcs 44 s).length cap,v,undef,.string (mk p),.pointer (some ⟨wr.heap.size,0,none⟩),.string (mk x),undef,undef,.string (mk s),.bool false,.string (mk s),.func (.func 200) #[] #[.pointer (some ⟨w.heap.size + 2,0,none⟩),.pointer (some ⟨w.heap.size + 2 + 1,0,none⟩)],.slice (some ad) (Dep.pcs 44 s).length cap,.slice (some ad) (Dep.pcs 44 s).length cap,.int .i64 ((Dep.pcs 44 s).length : Nat),.bool false,.bool false,.slice (some ad) (Dep.pcs 44 s).length cap,.bool false,.bool false,.slice (some ad) (Dep.pcs 44 s).length cap,.int .i64 ((Dep.pcs 44 s).length : Nat),.int .i64 (i : Nat),.bool true,.pointer (some (ad.add i)),.string (mk p),.string (mk p),.func (.func 200) #[] #[.pointer (some ⟨wr.heap.size + 1,0,none⟩),.pointer (some ⟨wr.heap.size + 1 + 1,0,none⟩)],.string (mk x),undef,undef,undef,undef,undef,undef,undef,undef,undef,undef,undef,undef,u45,u46,u47,u48,u49,undef],defers := [] }) ?assign ?body ?done ?stop
  case assign =>
   intro l' x W K hK
   gi_wp2
   exact hK
  case body =>
   rintro l' pre x W ⟨gv,g,hbx,hR,hgl,hrelg,hbel,hsz⟩ ⟨post,hpost⟩
   have hre := hrelg (x :: post) (by rw [← hpost];simp)
   rw [HT.out] at hre
   have hre : some t = (relation_Parse.f k (mk x)).bind fun t => if t.2.2.2 = 0 then groupF k post (g ++ [⟨t.1,t.2.1,t.2.2.1⟩]) else some ([],t.2.2.2) := hre
   obtain ⟨⟨u1,u2,u3,u4⟩,hu,hre2⟩ := Option.bind_eq_some_iff.1 hre.symm
   have hlen : pre.length + 1 ≤ 4294967281 := by
    have h1 := congrArg List.length hpost
    simp only [List.length_append,List.length_cons,List.length_nil] at h1
    have h2 := Dep.pcs_len 124 p
    have h3 := HPL.out
    omega
   have HU := Aside0.mk hu
   have HRE := Aside0.mk hre2
   have HPO := Aside0.mk hpost
   have HGW := Aside0.mk (HGR.out.below hbel)
   have HBX := Aside0.mk hbx
   have HRR := Aside0.mk hR
   have HGL := Aside0.mk hgl
   have HLEN := Aside0.mk hlen
   have HRG := Aside0.mk hrelg
   have HBL := Aside0.mk hbel
   have HSZ := Aside0.mk hsz
   have HP1 := Aside0.mk HS2.out.size
   clear hu hre2 hre hpost hbx hR hgl hlen hrelg hbel hsz
   have hL1 := fun W1 (hb1 : Below W.heap.size W W1) => (hb1.block _ (Nat.lt_of_lt_of_le (Nat.lt_of_succ_lt HW4.out) HBL.out.size)).trans ((HBL.out.block _ (Nat.lt_of_succ_lt HW4.out)).trans ((HP.out.below.block _ (Array.getElem?_eq_some_iff.1 HL4.out).1).trans HL4.out))
   have hE1 := fun W1 (hb1 : Below W.heap.size W W1) => (hb1.block _ (Nat.lt_of_lt_of_le HW4.out HBL.out.size)).trans ((HBL.out.block _ HW4.out).trans ((HP.out.below.block _ (Array.getElem?_eq_some_iff.1 HE4.out).1).trans HE4.out))
   have HL1 := Aside0.mk hL1
   have HE1 := Aside0.mk hE1
   clear hL1 hE1
   by_cases he : u4 = 0
   ·subst he
    gi_wp2_with (first
     | (refine ⟨trivial,?_⟩;gi_at_call 144;refine (CallsIn.inRound l' (callsIn_wide.2 (relation_Parse.calls k (mk x) u1 u2 u3 0 W HGW.out HU.out))).mono ?_;rintro e W1 ⟨rfl,hb1⟩;have hbx1 := (hb1.block _ (Array.getElem?_eq_some_iff.1 HBX.out).1).trans HBX.out;have x0 := fun o => (Dep.boxC (old_row' (o := o) hbx1)).1;have HBX1 := Aside0.mk hbx1;have HR1 := Aside0.mk (Kd.R_below HRR.out hb1);have HW1 := Aside0.mk hb1;clear hb1 hbx1)
     | (gi_at_builtin;refine Dep.stopHere ?_))
    unfold Dep.StopHere
    have hwx : (W1.alloc (Obj.cells #[Value.string u1,Value.int IntKind.i64 u2,Value.string u3] 27)).heap.size = W1.heap.size + 1 := by simp
    obtain ⟨Ag0,cg0,hgv0⟩ := Kd.R_slice HR1.out
    have HR1' := Kd.R_below HR1.out ((Below.refl _ W1).alloc (Nat.le_refl _) (Obj.cells #[Value.string u1,Value.int IntKind.i64 u2,Value.string u3] 27))
    have hs1 := HW1.out.size
    have hs2 := HSZ.out
    have hs3 := HP1.out
    have hs4 := HGL.out
    have hs5 := HLEN.out
    subst hgv0
    refine Dep.R_append_in (W := W1.alloc (.cells #[.string u1,.int .i64 u2,.string u3] 27)) KA (w0 := W1.alloc (.cells #[.string u1,.int .i64 u2,.string u3] 27)) P1.heap.size rfl _ _ 77 27 (.agg #[(.string ⟨#[]⟩),(.int .i64 0),(.string ⟨#[]⟩)]) 40 rfl Tryz.underlying77 info27 rfl (by decide) (by decide) (.slice Ag0 g.length cg0) g ⟨u1,u2,u3⟩ [.string u1,.int .i64 u2,.string u3] (fun q => P1.heap.size ≤ q) (fun _ => False) rfl (by rw [hwx];rfl) (k27_mkM _ _ _ ⟨u1,u2,u3⟩) (fun _ hq => hq.elim) (fun q hq => by rw [hwx] at hq;omega) HR1' (Below.refl _ _) (by rw [hwx];omega) (by omega) ?_
    intro v1 w1 hR2 hB2 hg2 hat2
    obtain ⟨A2,c2,hv1⟩ := Kd.R_slice hR2
    subst hv1
    rw [List.length_append,List.length_cons,List.length_nil] at hR2 ⊢
    have hbx2 : w1.heap[wr.heap.size]? = some (boxG (.slice Ag0 g.length cg0)) := (hg2.block _ (by rw [hwx];omega) (fun e => by have := HRR.out.1 _ e.symm;omega)).trans (old_row' HBX1.out)
    obtain ⟨y0,y1⟩ := Dep.boxC hbx2
    have HBX2 := Aside0.mk hbx2
    have HR2 := Aside0.mk hR2
    have HB2x := Aside0.mk hB2
    have HG2x := Aside0.mk hg2
    clear hR2 hB2 hg2 hat2 hbx2
    gi_wp2
    have hsz1 : ∀ v',(w1.setCell ⟨wr.heap.size,0,none⟩ v').heap.size = w1.heap.size := fun _ => by simp [World.setCell]
    have hge := HG2x.out.size
    rw [hwx] at hge
    have hown : ∀ q,(Value.slice Ag0 g.length cg0).ownBlock = some q → P1.heap.size ≤ q := HRR.out.1
    refine ⟨⟨by rw [hsz1];omega,fun q o hB hq hn => ?_⟩,⟨?_,?_⟩,.slice A2 (g.length + 1) c2,_,Dep.boxSet _ HBX2.out,Kd.R_mono (Kd.R_move (Kd.R_bound HR2.out) (fun q hq => ?_)) (fun _ hq => hq.1),?_,?_,?_,?_⟩
    ·have hlt := (Array.getElem?_eq_some_iff.1 hq).1
     rw [Below.heap_setCell _ _ _ _ (show q ≠ wr.heap.size by omega)]
     refine (HG2x.out.block q (by rw [hwx];omega) (fun e => ?_)).trans (old_row' ((HW1.out.block q hlt).trans hq))
     obtain ⟨cells,hcl⟩ := Kd.R_typed HRR.out q e.symm
     rw [hq] at hcl
     cases hcl
     cases hn
    ·rw [Below.heap_setCell _ _ _ _ (show wr.heap.size + 1 ≠ wr.heap.size by omega)]
     exact (HG2x.out.block _ (by rw [hwx];omega) (fun e => by have := hown _ e.symm;omega)).trans ((Below.heap_alloc _ _ _ (by omega)).trans (HW1.out.block _ (by omega)))
    ·rw [Below.heap_setCell _ _ _ _ (show wr.heap.size + 1 + 1 ≠ wr.heap.size by omega)]
     exact (HG2x.out.block _ (by rw [hwx];omega) (fun e => by have := hown _ e.symm;omega)).trans ((Below.heap_alloc _ _ _ (by omega)).trans (HW1.out.block _ (by omega)))
    ·have := hq.2.1
     exact Below.heap_setCell _ _ _ _ (show q ≠ wr.heap.size by omega)
    ·rw [List.length_append,List.length_append]
     simp only [List.length_cons,List.length_nil]
     omega
    ·intro post' hp'
     have hpp : post' = post := List.append_cancel_left (hp'.symm.trans HPO.out.symm)
     subst hpp
     have hr := HRE.out
     rw [if_pos trivial] at hr
     exact HT.out.trans hr.symm
    ·refine (Below.grown ((HBL.out.trans (HW1.out.mono HBL.out.size)).alloc (by omega) _) HG2x.out (by rw [hwx];omega) (fun r e => by have := hown r e;omega)).setCell (Nat.le_refl _) _
    ·rw [hsz1];omega
   ·have b3 : (u4 != 0) = true := by simpa using he
    gi_wp2_with (first
     | (refine ⟨trivial,?_⟩;gi_at_call 144;refine (CallsIn.inRound l' (callsIn_wide.2 (relation_Parse.calls k (mk x) u1 u2 u3 u4 W HGW.out HU.out))).mono ?_;rintro e W1 ⟨rfl,hb1⟩;have x0 := fun o => (Dep.boxC (old_row' (o := o) (HL1.out W1 hb1))).1;have x1 := fun o => (Dep.boxC (old_row' (o := o) (HL1.out W1 hb1))).2;have y0 := fun o => (Dep.boxC (old_row' (o := o) (HE1.out W1 hb1))).1;have y1 := fun o => (Dep.boxC (old_row' (o := o) (HE1.out W1 hb1))).2;have HW1 := Aside0.mk hb1;clear hb1))
    have hwx : (W1.alloc (Obj.cells #[Value.string u1,Value.int IntKind.i64 u2,Value.string u3] 27)).heap.size = W1.heap.size + 1 := by simp
    have hs1 := HW1.out.size
    have hs2 := HSZ.out
    have hs3 := HP1.out
    have hs6 := HW4.out
    have hb := (HBL.out.trans (HW1.out.mono HBL.out.size)).alloc (Nat.le_trans HBL.out.size hs1) (Obj.cells #[Value.string u1,Value.int IntKind.i64 u2,Value.string u3] 27)
    have hszx : ∀ v' v'',(((W1.alloc (Obj.cells #[Value.string u1,Value.int IntKind.i64 u2,Value.string u3] 27)).setCell ⟨w.heap.size,0,none⟩ v').setCell ⟨w.heap.size + 1,0,none⟩ v'').heap.size = W1.heap.size + 1 := fun _ _ => by simp [World.setCell]
    have hr := HRE.out
    rw [if_neg he] at hr
    refine ⟨⟨by rw [hszx];omega,fun q o hB hq hn => ?_⟩,rfl,u4,?_,?_,he,HT.out.trans hr.symm,hb.os,hb.tape,hb.output,by rw [hszx];omega,fun q hq h1 h2 => ?_⟩
    ·have hlt := (Array.getElem?_eq_some_iff.1 hq).1
     rw [Below.heap_setCell _ _ _ _ (show q ≠ w.heap.size + 1 by omega),Below.heap_setCell _ _ _ _ (show q ≠ w.heap.size by omega)]
     exact old_row' ((HW1.out.block q hlt).trans hq)
    ·rw [Below.heap_setCell _ _ _ _ (show w.heap.size ≠ w.heap.size + 1 by omega)]
     exact Dep.boxSet _ (old_row' (HL1.out W1 HW1.out))
    ·exact Dep.boxSet _ ((Below.heap_setCell _ _ _ _ (show w.heap.size + 1 ≠ w.heap.size by omega)).trans (old_row' (HE1.out W1 HW1.out)))
    ·rw [Below.heap_setCell _ _ _ _ h2,Below.heap_setCell _ _ _ _ h1]
     exact hb.block q hq
  case done =>
   rintro D ys W hD rfl ⟨gv,g,hbx,hR,hgl,hrelg,hbel,hsz⟩ hK
   have hfin := hrelg [] (by simp)
   rw [HT.out] at hfin
   have hfin : some t = some (g,(0 : Int)) := hfin
   obtain rfl := Option.some.inj hfin
   have hrel2 := HRL.out
   simp only [if_true] at hrel2
   obtain ⟨Ag,cg,hgv⟩ := Kd.R_slice hR
   subst hgv
   obtain ⟨x0,x1⟩ := Dep.boxC hbx
   have hP1 := HS2.out.size
   have hr4 := HP.out.below.size
   have hbW := HP.out.below.trans (hbel.mono hr4)
   have HBW := Aside0.mk hbW
   have HBL := Aside0.mk hbel
   have HKK := Aside0.mk hK
   have HRR := Aside0.mk hR
   have HDD := Aside0.mk hD
   have hvl : ∀ q,v.ownBlock = some q → q < wr.heap.size := Kd.S_lt HP.out.S
   have HVL := Aside0.mk hvl
   have HSW := Aside0.mk (show Kd.S KG 77 W w4.heap.size (fun q => True ∧ ¬ P1.heap.size ≤ q) v l from Kd.S_mono (Kd.S_below (Kd.S_bound HP.out.S) hbel) (fun q hq => ⟨trivial,by have := hq.2.2.1;omega⟩))
   have hll := HP.out.len
   have hi12 := hl44.out
   have hii := HI.out
   clear hrelg hfin hbW hbel hK hR hD hvl hbx hgl
   gi_wp2_with (gi_at_builtin;refine Dep.S_append_in (W := W) KG (w0 := w4) w4.heap.size rfl _ _ 22 77 (.slice none 0 0) 24 rfl Tryz.underlying22 info77 rfl (by decide) (by decide) v l g [.slice Ag g.length cg] (fun _ => True) (fun q => P1.heap.size ≤ q) rfl rfl ⟨_,rfl,Kd.R_lower HRR.out (by omega)⟩ (fun q hq => ⟨trivial,fun e => by have := HVL.out q e.symm;omega⟩) (fun _ _ => trivial) HSW.out HBW.out (by omega) (by omega) ?_;intro v1 w1 hS1 hB1 hg1 hat1;have HS1 := Aside0.mk hS1;have HB1 := Aside0.mk hB1;have HG1 := Aside0.mk hg1;clear hS1 hB1 hg1 hat1)
   refine ⟨⟨i + 1,_,_,_,_,_,_,_,_,_,_,_,_,v1,D :: Ds,l ++ [g],⟨⟨HI.out,hrel2,?_,HS1.out,HB1.out,?_,?_⟩⟩,rfl⟩,?_⟩
   ·rw [List.length_append];simp;omega
   ·refine List.nodup_cons.2 ⟨fun hm => ?_,HP.out.nodup⟩
    have := (Array.getElem?_eq_some_iff.1 (HP.out.marks D hm).1).1
    have := HDD.out
    omega
   ·intro D' hD'
    rcases List.mem_cons.1 hD' with rfl | hD'
    ·have := HDD.out
     exact ⟨(HG1.out.block _ (Array.getElem?_eq_some_iff.1 HKK.out).1 (fun e => by have := HVL.out _ e.symm;omega)).trans HKK.out,by omega⟩
    ·have h6 := HP.out.marks D' hD'
     have h7 := (Array.getElem?_eq_some_iff.1 h6.1).1
     refine ⟨(HG1.out.block _ (Nat.lt_of_lt_of_le h7 HBL.out.size) (fun e => ?_)).trans ((HBL.out.block _ h7).trans h6.1),h6.2⟩
     obtain ⟨cells,hcl⟩ := Kd.S_typed HP.out.S _ e.symm
     rw [h6.1] at hcl
     cases hcl
   ·simp only [intOf,Array.getD];simp [intOf];omega
  case stop =>
   rintro D c' pre W hD _ ⟨rfl,err,h1,h2,h3,h4,h5⟩ hK
   rw [HT.out] at h4
   obtain rfl := Option.some.inj h4
   have hrel2 := HRL.out
   rw [if_neg h3] at hrel2
   obtain ⟨rfl,rfl⟩ : ([] : List (List S27)) = r1 ∧ err = r2 := by simpa using hrel2
   gi_wp2
   refine Dep.leaves_marks (D :: Ds) _ ?_ ?_ (fun W' ht => ?_)
   ·exact List.nodup_cons.2 ⟨fun hm => by have h6 := (HP.out.marks D hm).1;have := (Array.getElem?_eq_some_iff.1 h6).1;have := HS2.out.size;omega,HP.out.nodup⟩
   ·intro D' hD'
    rcases List.mem_cons.1 hD' with rfl | hD'
    ·exact hK
    ·have h6 := HP.out.marks D' hD'
     have h7 := (Array.getElem?_eq_some_iff.1 h6.1).1
     have := (Array.getElem?_eq_some_iff.1 HE4.out).1
     exact (h5.block _ h7 (by omega) (by omega)).trans h6.1
   ·have h44 := (Array.getElem?_eq_some_iff.1 HE4.out).1
    have hr4 := HP.out.below.size
    have hs2 := HS2.out.size
    have hnd : ∀ q,q < w4.heap.size → q ∉ D :: Ds := fun q hq hm => by
     rcases List.mem_cons.1 hm with rfl | hm
     ·omega
     ·have := (HP.out.marks q hm).2;omega
    have q0 := (Dep.boxC ((ht.block _ (hnd w.heap.size (by omega))).trans h1)).1
    have q1 := (Dep.boxC ((ht.block _ (hnd (w.heap.size + 1) (by omega))).trans h2)).1
    refine ⟨.tuple #[.slice none 0 0,.int .i64 err],by rw [Dep.results_cell_cell (p := 2) (u := 3) (ty := 22) (tu := 45) rfl];go_simp,_,rfl,Kd.S_nil _ _ _ _ _,?_⟩
    have hbw : Below w.heap.size w W := by
     have hb0 := HB4.out.trans (HP.out.below.mono HB4.out.size)
     exact ⟨h5.os.trans hb0.os,h5.tape.trans hb0.tape,h5.output.trans hb0.output,Nat.le_trans hb0.size h5.size,fun q hq => (h5.block q (Nat.lt_of_lt_of_le hq hb0.size) (by omega) (by omega)).trans (hb0.block q hq)⟩
    exact ht.below hbw (fun q hq => hnd q (by omega))
 ·have b2 : decide ((i : Int) < ((Dep.pcs 44 s).length : Int)) = false := decide_eq_false (by omega)
  have hrel := HP.out.rel
  rw [List.drop_of_length_le (by omega)] at hrel
  obtain ⟨rfl,rfl⟩ : l = r1 ∧ (0 : Int) = r2 := by
   have := Option.some.inj hrel
   simpa [groupsF] using this
  have hL := (HP.out.below.block _ (Array.getElem?_eq_some_iff.1 HL4.out).1).trans HL4.out
  have hE := (HP.out.below.block _ (Array.getElem?_eq_some_iff.1 HE4.out).1).trans HE4.out
  obtain ⟨x0,x1⟩ := Dep.boxC hL
  obtain ⟨y0,y1⟩ := Dep.boxC hE
  have HLx := Aside0.mk hL
  have HEx := Aside0.mk hE
  clear hrel hL hE
  obtain ⟨Al,cl,hvl⟩ := Kd.S_slice HP.out.S
  subst hvl
  gi_wp2
  have hlt1 := (Array.getElem?_eq_some_iff.1 HLx.out).1
  have hlt2 := (Array.getElem?_eq_some_iff.1 HEx.out).1
  have h4 := (Array.getElem?_eq_some_iff.1 HE4.out).1
  refine Dep.leaves_marks Ds _ HP.out.nodup (fun D hD => ?_) (fun W' ht => ?_)
  ·have := (HP.out.marks D hD).2
   rw [Below.heap_setCell _ _ _ _ (show D ≠ w.heap.size + 1 by omega),Below.heap_setCell _ _ _ _ (show D ≠ w.heap.size by omega)]
   exact (HP.out.marks D hD).1
  ·have hnd : ∀ q,q < w4.heap.size → q ∉ Ds := fun q hq hD => by have := (HP.out.marks q hD).2;omega
   have z0 : W'.heap[w.heap.size]? = some (resL (.slice Al l.length cl)) := (ht.block _ (hnd _ (by omega))).trans ((Below.heap_setCell _ _ _ _ (show w.heap.size ≠ w.heap.size + 1 by omega)).trans (Dep.boxSet _ HLx.out))
   have z1 : W'.heap[w.heap.size + 1]? = some (resE (.int .i64 0)) := (ht.block _ (hnd _ (by omega))).trans (Dep.boxSet _ ((Below.heap_setCell _ _ _ _ (show w.heap.size + 1 ≠ w.heap.size by omega)).trans HEx.out))
   have q0 := (Dep.boxC z0).1
   have q1 := (Dep.boxC z1).1
   refine ⟨.tuple #[.slice Al l.length cl,.int .i64 0],by rw [Dep.results_cell_cell (p := 2) (u := 3) (ty := 22) (tu := 45) rfl];go_simp,_,rfl,?_,?_⟩
   ·have hS := Kd.S_bound HP.out.S
    refine Kd.S_mono (Kd.S_lower (Kd.S_move hS (fun q hq => ?_)) HB4.out.size) (fun _ _ => trivial)
    obtain ⟨_,hq1,_,_,_,cells,hq2⟩ := hq
    have hqD : q ∉ Ds := fun hD => by rw [(HP.out.marks q hD).1] at hq2;cases hq2
    rw [ht.block q hqD,Below.heap_setCell _ _ _ _ (show q ≠ w.heap.size + 1 by omega),Below.heap_setCell _ _ _ _ (show q ≠ w.heap.size by omega)]
   ·exact ht.below (((HB4.out.trans (HP.out.below.mono HB4.out.size)).setCell (Nat.le_refl _) _).setCell (Nat.le_succ _) _) (fun q hq => hnd q (by omega))
theorem dparse_end {n : Nat} {w W : World} {err : Int} {tmps : Array Value} (h2 : tmps.getD 2 undef = .pointer (some ⟨w.heap.size,0,none⟩)) (h3 : tmps.getD 3 undef = .pointer (some ⟨w.heap.size + 1,0,none⟩))
  (hL : W.heap[w.heap.size]? = some (resL (.slice none 0 0))) (hE : W.heap[w.heap.size + 1]? = some (resE (.int .i64 err))) (hb : Below w.heap.size w W) :
  LeavesInM Fence.wide n Tryz.prog Tryz.f83 tmps (fun e w' => ∃ v0_ : Value,e = .returned (.tuple #[v0_,.int .i64 err]) ∧ Kd.S (Kd.slice 27 k27) 77 w' w.heap.size (fun _ => True) v0_ [] ∧ Below w.heap.size w w') [] .returning W := by
 refine Dep.leaves_marks [] _ List.nodup_nil (fun D hD => by cases hD) (fun W' ht => ?_)
 have q0 := (Dep.boxC ((ht.block _ (by simp)).trans hL)).1
 have q1 := (Dep.boxC ((ht.block _ (by simp)).trans hE)).1
 refine ⟨.tuple #[.slice none 0 0,.int .i64 err],by rw [Dep.results_cell_cell (p := 2) (u := 3) (ty := 22) (tu := 45) rfl,h2,h3];go_simp,_,rfl,Kd.S_nil _ _ _ _ _,ht.below hb (fun q _ hq => by cases hq)⟩
theorem dparse_nil (w : World) :
  Calls Tryz.prog 83 #[.string (mk [])] w fun e w' => ∃ v0_ : Value,e = .returned (.tuple #[v0_,.int .i64 0]) ∧ Kd.S (Kd.slice 27 k27) 77 w' w.heap.size (fun _ => True) v0_ [] ∧ Below w.heap.size w w' := by
 refine (callsIn_wide (n := 20)).1 ?_
 have b0 : (([] : Bs) == []) = true := rfl
 refine callsIn_of_wp_marks Tryz.func83 rfl trivial ?_ rfl
 simp only [Tryz.ntmps83,List.size_toArray,List.length_cons,List.length_nil,Nat.reduceAdd,Nat.reduceSub,Array.replicate_succ,Array.replicate_zero,List.push_toArray,List.append_toArray,List.nil_append,List.cons_append]
 gi_wp2
 have e1 : (w.alloc (resL (.slice none 0 0))).heap.size = w.heap.size + 1 := by simp
 have hE := new_row' (w.alloc (resL (.slice none 0 0))) (resE (.int .i64 0))
 rw [e1] at hE
 exact dparse_end rfl rfl (old_row' (new_row' w _)) hE (((Below.refl _ w).alloc (Nat.le_refl _) _).alloc (by simp) _)
theorem dparse_many (k : Nat) (s : Bs) (w : World) (hG : GL w) (hs0 : s ≠ []) (hs : s.length < 4294967281)
  (hc : ((Dep.pcs 44 s).length : Int) > 12 ∨ (¬ ((Dep.pcs 44 s).length : Int) > 12 ∧ slices_ContainsFunc_string_string_142.f k ((Dep.pcs 44 s).map Pure.mk) 0 = some true)) :
  Calls Tryz.prog 83 #[.string (mk s)] w fun e w' => ∃ v0_ : Value,e = .returned (.tuple #[v0_,.int .i64 8]) ∧ Kd.S (Kd.slice 27 k27) 77 w' w.heap.size (fun _ => True) v0_ [] ∧ Below w.heap.size w w' := by
 refine (callsIn_wide (n := 20)).1 ?_
 have b0 : (s == []) = false := by simpa using hs0
 have HS := Aside0.mk hs
 have HC := Aside0.mk hc
 have HNG := Aside0.mk (show 4 ≤ w.heap.size from hG.size)
 clear hs hc hs0
 refine callsIn_of_wp_marks Tryz.func83 rfl trivial ?_ rfl
 simp only [Tryz.ntmps83,List.size_toArray,List.length_cons,List.length_nil,Nat.reduceAdd,Nat.reduceSub,Array.replicate_succ,Array.replicate_zero,List.push_toArray,List.append_toArray,List.nil_append,List.cons_append]
 gi_wp2_with (first
  | (refine ⟨trivial,?_⟩;gi_at_call 140;refine (callsIn_wide.2 (pieces_calls s 44 _)).mono ?_;rintro e w2 ⟨rfl,hw2⟩;rw [show ((w.alloc (Obj.cells #[Value.slice none 0 0] 22)).alloc (Obj.cells #[Value.int IntKind.i64 0] 45)).heap.size = w.heap.size + 2 by simp];have hst : Start w s w2 := (by rw [hw2];exact start_of w s);have HST := Aside0.mk hst;have HG2 := Aside0.mk (hG.below hst.below);have HB1 := Aside0.mk hst.b;have HB2 := Aside0.mk hst.g;have HNB := Aside0.mk (Nat.le_trans hG.size (Nat.le_add_right w.heap.size 2));clear hst hw2))
 refine ⟨trivial,?_⟩
 refine (callsIn_wide.2 (collect_calls (w.heap.size + 2) (w.heap.size + 2 + 1) (by omega) s 44 HS.out w2 HG2.out HNB.out HB1.out HB2.out)).mono ?_
 rintro e w3 ⟨v,rfl,hr,ho⟩
 obtain ⟨A1,cap,rfl,hcap,hkc⟩ := Kd.R_reads (own_kd hr)
 rw [List.length_map] at hcap hkc ⊢
 have HKC := Aside0.mk hkc
 have HCAP := Aside0.mk hcap
 have HR := Aside0.mk hr
 have HO := Aside0.mk ho
 have HG3 := Aside0.mk (gl_one HG2.out ho HNB.out)
 have HL3 := Aside0.mk (show w3.heap[w.heap.size]? = some (resL (.slice none 0 0)) from HO.out.row HST.out.l (by omega))
 have HE3 := Aside0.mk (show w3.heap[w.heap.size + 1]? = some (resE (.int .i64 0)) from HO.out.row HST.out.e (by omega))
 have HB3 := Aside0.mk (show Below w.heap.size w w3 from HST.out.below.trans (HO.out.under HST.out.below.size (by omega)))
 clear hr ho hkc hcap
 have hc' := HC.out
 clear HC
 rcases hc' with h12 | ⟨h12,hcc⟩
 ·have b1 : decide (((Dep.pcs 44 s).length : Int) > 12) = true := decide_eq_true h12
  obtain ⟨x0,x1⟩ := Dep.boxC HL3.out
  obtain ⟨y0,y1⟩ := Dep.boxC HE3.out
  gi_wp2
  refine ⟨trivial,?_⟩
  gi_wp2
  exact dparse_end rfl rfl ((Below.heap_setCell _ _ _ _ (show w.heap.size ≠ w.heap.size + 1 by omega)).trans (Dep.boxSet _ HL3.out)) (Dep.boxSet _ ((Below.heap_setCell _ _ _ _ (show w.heap.size + 1 ≠ w.heap.size by omega)).trans HE3.out)) ((HB3.out.setCell (Nat.le_refl _) _).setCell (Nat.le_succ _) _)
 ·have b1 : decide (((Dep.pcs 44 s).length : Int) > 12) = false := by simpa using h12
  have HCC := Aside0.mk hcc
  have H12 := Aside0.mk h12
  clear h12 hcc
  gi_wp2_with fail
  refine ⟨trivial,?_⟩
  have hcf := slices_ContainsFunc_string_string_142.calls k A1 cap ((Dep.pcs 44 s).map mk) 0 true w3 HG3.out (by rw [List.length_map];exact HKC.out) (by rw [List.length_map];exact HCAP.out) HCC.out
  rw [List.length_map] at hcf
  refine (callsIn_wide.2 hcf).mono ?_
  clear hcf
  rintro e w4 ⟨rfl,hd⟩
  have HD4 := Aside0.mk hd
  clear hd
  have HL4 := Aside0.mk (show w4.heap[w.heap.size]? = some (resL (.slice none 0 0)) from (HD4.out.below.block _ (Array.getElem?_eq_some_iff.1 HL3.out).1).trans HL3.out)
  have HE4 := Aside0.mk (show w4.heap[w.heap.size + 1]? = some (resE (.int .i64 0)) from (HD4.out.below.block _ (Array.getElem?_eq_some_iff.1 HE3.out).1).trans HE3.out)
  have HB4 := Aside0.mk (HB3.out.trans (HD4.out.below.mono HB3.out.size))
  obtain ⟨x0,x1⟩ := Dep.boxC HL4.out
  obtain ⟨y0,y1⟩ := Dep.boxC HE4.out
  gi_wp2
  exact dparse_end rfl rfl ((Below.heap_setCell _ _ _ _ (show w.heap.size ≠ w.heap.size + 1 by omega)).trans (Dep.boxSet _ HL4.out)) (Dep.boxSet _ ((Below.heap_setCell _ _ _ _ (show w.heap.size + 1 ≠ w.heap.size by omega)).trans HE4.out)) ((HB4.out.setCell (Nat.le_refl _) _).setCell (Nat.le_succ _) _)
theorem depends_Parse.calls (k : Nat) (a0 : ByteArray) (r1 : List (List (S27))) (r2 : Int) (w : World) (hG : GL w) (h : depends_Parse.f k a0 = some (r1,r2)) :
  Calls Tryz.prog 83 #[.string a0] w fun e w' => ∃ v0_ : Value,e = .returned (.tuple #[v0_,.int .i64 r2]) ∧ Kd.S (Kd.slice 27 k27) 77 w' w.heap.size (fun _ => True) v0_ r1 ∧ Below w.heap.size w w' := by
 obtain ⟨s,rfl,-⟩ := Pure.mk_ex a0
 unfold depends_Parse.f at h
 rw [mk_toList] at h
 split at h
 ·next hs =>
  obtain ⟨rfl,rfl⟩ : ([] : List (List S27)) = r1 ∧ (0 : Int) = r2 := by simpa using h
  subst hs
  exact dparse_nil w
 ·next hs =>
  split at h
  ·next hl =>
   split at h
   ·next h12 =>
    obtain ⟨rfl,rfl⟩ : ([] : List (List S27)) = r1 ∧ (8 : Int) = r2 := by simpa using h
    exact dparse_many k s w hG hs hl (.inl h12)
   ·next h12 =>
    obtain ⟨t,ht,h⟩ := Option.bind_eq_some_iff.1 h
    cases t with
    | true =>
     obtain ⟨rfl,rfl⟩ : ([] : List (List S27)) = r1 ∧ (8 : Int) = r2 := by simpa using h
     exact dparse_many k s w hG hs hl (.inr ⟨h12,ht⟩)
    | false =>
     rw [if_neg (by decide)] at h
     exact dparse_main k s r1 r2 w hG hs hl h12 ht h
  ·cases h
end
section
def atomsF : List (List S27) → List S27 → List S27 × Int
 | [],out => (out,0)
 | g :: r,out => if g.length = 1 then atomsF r (out ++ g) else ([],5)
def depends_Atoms.f (k : Nat) (a0 : ByteArray) : Option (List S27 × Int) := (depends_Parse.f k a0).bind fun t => if t.2 = 0 then some (atomsF t.1 []) else some ([],t.2)
theorem depends_Atoms.mono : ∀ k a0,LeO (depends_Atoms.f k a0) (depends_Atoms.f (k + 1) a0) := fun k a0 => LeO.bind (depends_Parse.mono k a0) (fun _ => LeO.refl _)
theorem groupsF_len (k : Nat) : ∀ (ps : List Dep.Bs) (l0 l : List (List S27)) (e : Int),groupsF k ps l0 = some (l,e) → l.length ≤ l0.length + ps.length
 | [],l0,l,e,h => by
  obtain ⟨rfl,rfl⟩ : l0 = l ∧ (0 : Int) = e := by simpa [groupsF] using h
  simp
 | p :: r,l0,l,e,h => by
  obtain ⟨t,ht,h⟩ := Option.bind_eq_some_iff.1 (show (groupF k (Dep.pcs 124 p) []).bind _ = some (l,e) from h)
  split at h
  ·have := groupsF_len k r _ _ _ h
   simp at this ⊢
   omega
  ·obtain ⟨rfl,rfl⟩ : ([] : List (List S27)) = l ∧ t.2 = e := by simpa using h
   simp
theorem dparse_len {k : Nat} {a0 : ByteArray} {l : List (List S27)} {e : Int} (h : depends_Parse.f k a0 = some (l,e)) : l.length ≤ 12 := by
 unfold depends_Parse.f at h
 split at h
 ·obtain ⟨rfl,rfl⟩ : ([] : List (List S27)) = l ∧ (0 : Int) = e := by simpa using h
  simp
 ·split at h
  ·split at h
   ·obtain ⟨rfl,rfl⟩ : ([] : List (List S27)) = l ∧ (8 : Int) = e := by simpa using h
    simp
   ·next h12 =>
    obtain ⟨t,ht,h⟩ := Option.bind_eq_some_iff.1 h
    split at h
    ·obtain ⟨rfl,rfl⟩ : ([] : List (List S27)) = l ∧ (8 : Int) = e := by simpa using h
     simp
    ·have := groupsF_len k _ _ _ _ h
     simp at this
     omega
  ·cases h
theorem depends_Atoms.calls (k : Nat) (a0 : ByteArray) (r1 : List (S27)) (r2 : Int) (w : World) (hG : GL w) (h : depends_Atoms.f k a0 = some (r1,r2)) :
  Calls Tryz.prog 86 #[.string a0] w fun e w' => ∃ v0_ : Value,e = .returned (.tuple #[v0_,.int .i64 r2]) ∧ Kd.R k27 27 w' w.heap.size (fun _ => True) v0_ r1 ∧ Below w.heap.size w w' := by
 obtain ⟨⟨l,e1⟩,hp,h⟩ := Option.bind_eq_some_iff.1 h
 have HP := Aside0.mk hp
 have HH := Aside0.mk h
 clear hp h
 go_enter Tryz.func86,Tryz.ntmps86
 by_cases he : e1 = 0
 ·subst he
  have hat : atomsF l [] = (r1,r2) := by simpa using HH.out
  have HAT := Aside0.mk hat
  clear hat HH
  go_wp2_with (first|(go_at_call 83;refine (depends_Parse.calls k a0 l 0 w hG HP.out).mono ?_;rintro e w1 ⟨v,rfl,hS,hb⟩;obtain ⟨A,c,rfl,hc,hC⟩ := Kd.S_reads hS;have HC := Aside0.mk hC;have HB := Aside0.mk hb;have Hc := Aside0.mk hc;clear hS hb hC hc))
  have hl12 := Aside0.mk (dparse_len HP.out)
  clear HP
  go_loopg [6,19] l.length (fun gg v6 v19 wr => ∃ (i : Nat) (out : List S27),i ≤ l.length ∧ l.length - i ≤ gg ∧ v19 = .int .i64 (i : Int) ∧ Aside0 (out.length ≤ i) ∧ Aside0 (atomsF (l.drop i) out = (r1,r2)) ∧ Aside0 (Kd.R k27 27 wr w1.heap.size (fun _ => True) v6 out) ∧ Aside0 (Below w1.heap.size w1 wr))
  case atStart => exact ⟨0,[],Nat.zero_le _,by omega,rfl,⟨Nat.le_refl _⟩,HAT,⟨Kd.R_nil _ _ _ _ _⟩,⟨Below.refl _ _⟩⟩
  case round =>
   clear HAT
   obtain ⟨i,out,hi,hg,rfl,HO,HA,HR,HBW⟩ := hrel
   by_cases hlt : i < l.length
   ·have b2 : decide ((i : Int) < (l.length : Int)) = true := decide_eq_true (by omega)
    obtain ⟨ad,c1,rfl,_,hK,hc0⟩ := Kd.C_get HC.out ([] : List S27) (i : Int) (by omega) (by omega)
    obtain ⟨A0,c0,rfl,l0,g0⟩ := hK
    have hx := hc0 0 _ rfl
    rw [show (i : Int).toNat * (Kd.slice 27 k27).sz + 0 = i by simp [Kd.slice]] at hx
    have hx1 := (HBW.out.cell (World.block_lt_of_cell? _ _ hx)).trans hx
    obtain ⟨g,hgl,hrest⟩ : ∃ g,l.getD (i : Int).toNat ([] : List S27) = g ∧ l.drop i = g :: l.drop (i + 1) := ⟨_,rfl,by
     rw [List.drop_eq_getElem_cons hlt]
     congr 1
     rw [Int.toNat_natCast,List.getD_eq_getElem?_getD,List.getElem?_eq_getElem hlt]
     rfl⟩
    rw [hgl] at hx1 g0
    have hA := HA.out
    rw [hrest] at hA
    have hA : (if g.length = 1 then atomsF (l.drop (i + 1)) (out ++ g) else ([],5)) = (r1,r2) := hA
    have p0 : (0 : Int) ≤ (i : Int) := by omega
    have p1 : (i : Int) < (l.length : Int) := by omega
    have G0 := Aside0.mk (Kd.C_below g0 HBW.out)
    have HLT := Aside0.mk hlt
    have HI := Aside0.mk hi
    have HGG := Aside0.mk hg
    clear hgl hrest hx hc0 l0 g0 hlt hi hg HC
    by_cases h1 : g.length = 1
    ·rw [if_pos h1] at hA
     have HA2 := Aside0.mk hA
     clear hA HA
     obtain ⟨q,rfl⟩ : ∃ q,g = [q] := List.length_eq_one_iff.1 h1
     have bw : wrap64 ((i : Int) + 1) = ((i + 1 : Nat) : Int) := by have := hl12.out;have := HLT.out;unfold wrap64;omega
     obtain ⟨Ao,co,hv⟩ := Kd.R_slice HR.out
     subst hv
     obtain ⟨ad1,cs,rfl,hcs⟩ : ∃ ad1 cs,A0 = some ad1 ∧ (cs = [.string q.f0,.int .i64 q.f1,.string q.f2] ∧ ∀ j u,cs[j]? = some u → wr.cell? (ad1.add j) = some u) := by
      obtain ⟨ad1,c2,e,_,hK,hc⟩ := Kd.C_get G0.out q 0 (by decide) (by simp)
      refine ⟨ad1,c2,e,k27_open hK,fun j u hj => ?_⟩
      have := hc j u hj
      rwa [show (0 : Int).toNat * k27.sz + j = j by simp] at this
     obtain ⟨rfl,hcs⟩ := hcs
     have HCS := Aside0.mk hcs
     clear hcs h1
     simp only [List.length_cons,List.length_nil,Nat.zero_add] at hx1
     have HAT := HA2
     have hsz := HBW.out.size
     go_wp2_with (first|(at_builtin;refine Dep.R_append_one k27 (w0 := w1) w1.heap.size rfl _ _ 23 77 27 27 (.agg #[(.string ⟨#[]⟩),(.int .i64 0),(.string ⟨#[]⟩)]) 40 rfl Tryz.underlying77 Tryz.underlying23 info27 rfl (by decide) (by decide) (.slice Ao out.length co) out q [.string q.f0,.int .i64 q.f1,.string q.f2] (fun _ => True) (fun _ => False) ad1 c0 rfl rfl HCS.out (k27_mkM _ _ _ q) (fun _ hq => hq.elim) (fun _ _ => trivial) HR.out HBW.out hsz (by have := HO.out;have := hl12.out;have := HLT.out;omega) ?_;intro v1 wz hR1 hB1 hg1 hat1;have HR1 := Aside0.mk hR1;have HB1 := Aside0.mk hB1;clear hR1 hB1 hg1 hat1))
     go_roundg (l.length - (i + 1))
     case measure => have := HGG.out;have := HLT.out;omega
     case rel => exact ⟨i + 1,out ++ [q],HLT.out,Nat.le_refl _,by rw [bw],⟨by have := HO.out;simp;omega⟩,HA2,HR1,HB1⟩
    ·rw [if_neg h1] at hA
     obtain ⟨rfl,rfl⟩ : ([] : List S27) = r1 ∧ (5 : Int) = r2 := by simpa using hA
     have b3 : ((g.length : Int) != 1) = true := bne_iff_ne.2 (by omega)
     obtain ⟨Ao,co,hv⟩ := Kd.R_slice HR.out
     subst hv
     go_wp2
     go_ret2
     exact ⟨_,rfl,Kd.R_nil _ _ _ _ _,HB.out.trans (HBW.out.mono HB.out.size)⟩
   ·have b2 : decide ((i : Int) < (l.length : Int)) = false := decide_eq_false (by omega)
    have hA := HA.out
    rw [List.drop_of_length_le (by omega)] at hA
    obtain ⟨rfl,rfl⟩ : out = r1 ∧ (0 : Int) = r2 := by simpa [atomsF] using hA
    obtain ⟨Ao,co,hv⟩ := Kd.R_slice HR.out
    subst hv
    go_wp2
    go_ret2
    exact ⟨_,rfl,Kd.R_lower HR.out HB.out.size,HB.out.trans (HBW.out.mono HB.out.size)⟩
 ·have b1 : (e1 != 0) = true := by simpa using he
  have hr := HH.out
  rw [if_neg he] at hr
  obtain ⟨rfl,rfl⟩ : ([] : List S27) = r1 ∧ e1 = r2 := by simpa using hr
  go_wp2_with (first|(go_at_call 83;refine (depends_Parse.calls k a0 l e1 w hG HP.out).mono ?_;rintro e w1 ⟨v,rfl,hS,hb⟩;have HB := Aside0.mk hb;clear hS hb))
  go_ret2
  exact ⟨_,rfl,Kd.R_nil _ _ _ _ _,HB.out⟩
end
def keelsonlaw6_sameAtoms.l0 : Nat → List (S27) → List (S27) → Int → Option (Bool)
 | 0,_,_,_ => none
 | k + 1,x0,x1,x5 => if x5 < (x0.length : Int) then (if 0 ≤ x5 then (if x5 < (x1.length : Int) then (if (!((((rd_T27 x0 x5).f0).toList) == (((rd_T27 x1 x5).f0).toList)) || (!(((rd_T27 x0 x5).f1) == ((rd_T27 x1 x5).f1)) || (!((((rd_T27 x0 x5).f2).toList) == (((rd_T27 x1 x5).f2).toList))))) = true then (some false) else (keelsonlaw6_sameAtoms.l0 k x0 x1 (wrap64 (x5 + 1)))) else (none)) else (none)) else (some true)
def keelsonlaw6_sameAtoms.f (k : Nat) (l0 : List (S27)) (l1 : List (S27)) : Option (Bool) := if (l0.length : Int) = (l1.length : Int) then (keelsonlaw6_sameAtoms.l0 k l0 l1 0) else (some false)
theorem keelsonlaw6_sameAtoms.mono_l : ∀ k,(∀ y0 y1 y2,LeO (keelsonlaw6_sameAtoms.l0 k y0 y1 y2) (keelsonlaw6_sameAtoms.l0 (k + 1) y0 y1 y2))
 | 0 => fun _ _ _ r h => by simp [keelsonlaw6_sameAtoms.l0] at h
 | k + 1 => by
  have ih0 := keelsonlaw6_sameAtoms.mono_l k
  ·intro y0 y1 y2
   unfold keelsonlaw6_sameAtoms.l0
   repeat' first
   | (with_reducible exact ih0 _ _ _)
   | (with_reducible exact LeO.refl _)
   | (with_reducible exact LeO.none _)
   | (with_reducible refine LeO.ite ?_ ?_)
   | (with_reducible refine LeO.bind ?_ (fun _ => ?_))
   | exact ih0 _ _ _
   | exact LeO.none _
   | refine LeO.ite ?_ ?_
   | refine LeO.bind ?_ (fun _ => ?_)
theorem keelsonlaw6_sameAtoms.mono : ∀ a0 a1 k,LeO (keelsonlaw6_sameAtoms.f k a0 a1) (keelsonlaw6_sameAtoms.f (k + 1) a0 a1) := by
 intro a0 a1 k
 have ih0 := keelsonlaw6_sameAtoms.mono_l k
 unfold keelsonlaw6_sameAtoms.f
 repeat' first
   | (with_reducible exact ih0 _ _ _)
   | (with_reducible exact LeO.refl _)
   | (with_reducible exact LeO.none _)
   | (with_reducible refine LeO.ite ?_ ?_)
   | (with_reducible refine LeO.bind ?_ (fun _ => ?_))
   | exact ih0 _ _ _
   | exact LeO.none _
   | refine LeO.ite ?_ ?_
   | refine LeO.bind ?_ (fun _ => ?_)
theorem keelsonlaw6_sameAtoms.calls (k : Nat) (A0 : Option Addr) (c0 : Nat) (l0 : List (S27)) (A1 : Option Addr) (c1 : Nat) (l1 : List (S27)) (r : Bool) (w : World) (hG : GL w) (hr0 : Kd.C k27 w A0 l0.length l0) (hc0 : l0.length ≤ c0) (hr1 : Kd.C k27 w A1 l1.length l1) (hc1 : l1.length ≤ c1) (h : keelsonlaw6_sameAtoms.f k l0 l1 = some r) :
  Calls Tryz.prog 17 #[.slice A0 l0.length c0,.slice A1 l1.length c1] w fun e w' => e = .returned (.bool r) ∧ Drawn0 w w' := by
 have hu27 := Tryz.underlying27
 have HR0 := Aside0.mk hr0
 have HC0 := Aside0.mk hc0
 clear hr0 hc0
 have HR1 := Aside0.mk hr1
 have HC1 := Aside0.mk hc1
 clear hr1 hc1
 have H : (if (l0.length : Int) = (l1.length : Int) then (keelsonlaw6_sameAtoms.l0 k l0 l1 0) else (some false)) = some r := h
 clear h
 by_cases c3 : (l0.length : Int) = (l1.length : Int)
 ·rw [if_pos c3] at H
  have c3b0 : ((l0.length : Int) == (l1.length : Int)) = true := beq_iff_eq.mpr c3
  have c3b1 : ((l0.length : Int) != (l1.length : Int)) = false := bne_eq_false_iff_eq.mpr c3
  have c3b2 : (l0.length == l1.length) = true := by first|simpa using c3|(simp at c3 ⊢;omega)
  clear c3
  have H' := Aside0.mk H
  clear H
  go_enter Tryz.func17,Tryz.ntmps17
  go_wp2
  repeat (go_quiet (fail);try go_wp2)
  go_loopg [5] k (fun kq v5 w' => ∃ (x5_1 : Int),v5 = .int .i64 x5_1 ∧ Aside0 (keelsonlaw6_sameAtoms.l0 kq l0 l1 x5_1 = some r) ∧ Aside0 (kq ≤ k) ∧ Drawn0 w w')
  case atStart => exact ⟨(0),(by first|rfl|(simp;done)|(simp [*];done)|(simp [qam];done)),H',⟨Nat.le_refl _⟩,by repeat (first|exact Drawn0.refl _|apply Drawn0.step)⟩
  case round =>
   clear H'
   try clear c1
   try clear p2
   try clear c3
   try clear c3b0
   try clear c3b1
   try clear c3b2
   obtain ⟨x5_1,rfl,HA,HK1,⟨m1,rfl⟩⟩ := hrel
   cases gk with
   | zero => exact absurd HA.out (by simp [keelsonlaw6_sameAtoms.l0])
   | succ k1 =>
    have H := HA.out
    clear HA
    simp only [keelsonlaw6_sameAtoms.l0] at H
    by_cases c4 : x5_1 < (l0.length : Int)
    ·rw [if_pos c4] at H
     have c4b0 : decide (x5_1 < (l0.length : Int)) = true := decide_eq_true c4
     clear c4
     by_cases c5 : 0 ≤ x5_1
     ·rw [if_pos c5] at H
      have c5b0 : decide (0 ≤ x5_1) = true := decide_eq_true c5
      clear c5
      by_cases c6 : x5_1 < (l1.length : Int)
      ·rw [if_pos c6] at H
       have c6b0 : decide (x5_1 < (l1.length : Int)) = true := decide_eq_true c6
       clear c6
       by_cases c7 : (!((((rd_T27 l0 x5_1).f0).toList) == (((rd_T27 l1 x5_1).f0).toList)) || (!(((rd_T27 l0 x5_1).f1) == ((rd_T27 l1 x5_1).f1)) || (!((((rd_T27 l0 x5_1).f2).toList) == (((rd_T27 l1 x5_1).f2).toList))))) = true
       ·rw [if_pos c7] at H
        have c7b0 : (!((((rd_T27 l0 x5_1).f0).toList) == (((rd_T27 l1 x5_1).f0).toList)) || (!(((rd_T27 l0 x5_1).f1) == ((rd_T27 l1 x5_1).f1)) || (!((((rd_T27 l0 x5_1).f2).toList) == (((rd_T27 l1 x5_1).f2).toList))))) = true := c7
        clear c7
        obtain rfl := Option.some.inj H
        have p294 : 0 ≤ (x5_1 : Int) := of_decide_eq_true (by assumption)
        have q294 : x5_1 < (l0.length : Int) := of_decide_eq_true (by assumption)
        obtain ⟨ad294,e294,hx294_0,hx294_1,hx294_2⟩ := at_T27 HR0.out x5_1 p294 q294
        cases e294
        replace p294 := eq_true p294
        replace q294 := eq_true q294
        have p295 : 0 ≤ (x5_1 : Int) := of_decide_eq_true (by assumption)
        have q295 : x5_1 < (l1.length : Int) := of_decide_eq_true (by assumption)
        obtain ⟨ad295,e295,hx295_0,hx295_1,hx295_2⟩ := at_T27 HR1.out x5_1 p295 q295
        cases e295
        replace p295 := eq_true p295
        replace q295 := eq_true q295
        go_wp2
        repeat (go_quiet (fail);try go_wp2)
        go_ret
        exact ⟨by first|rfl|(simp;done)|(simp [*];done)|(simp [qam];done),by repeat (first|exact Drawn0.refl _|apply Drawn0.step)⟩
       ·rw [if_neg c7] at H
        have c7b0 : (!((((rd_T27 l0 x5_1).f0).toList) == (((rd_T27 l1 x5_1).f0).toList)) || (!(((rd_T27 l0 x5_1).f1) == ((rd_T27 l1 x5_1).f1)) || (!((((rd_T27 l0 x5_1).f2).toList) == (((rd_T27 l1 x5_1).f2).toList))))) = false := by simpa using c7
        clear c7
        have H' := Aside0.mk H
        clear H
        have p294 : 0 ≤ (x5_1 : Int) := of_decide_eq_true (by assumption)
        have q294 : x5_1 < (l0.length : Int) := of_decide_eq_true (by assumption)
        obtain ⟨ad294,e294,hx294_0,hx294_1,hx294_2⟩ := at_T27 HR0.out x5_1 p294 q294
        cases e294
        replace p294 := eq_true p294
        replace q294 := eq_true q294
        have p295 : 0 ≤ (x5_1 : Int) := of_decide_eq_true (by assumption)
        have q295 : x5_1 < (l1.length : Int) := of_decide_eq_true (by assumption)
        obtain ⟨ad295,e295,hx295_0,hx295_1,hx295_2⟩ := at_T27 HR1.out x5_1 p295 q295
        cases e295
        replace p295 := eq_true p295
        replace q295 := eq_true q295
        go_wp2
        repeat (go_quiet (fail);try go_wp2)
        go_roundg k1
        case measure => have := HK1.out;omega
        case rel => exact ⟨(wrap64 (x5_1 + 1)),(by first|rfl|(simp;done)|(simp [*];done)|(simp [qam];done)),H',⟨by have := HK1.out;omega⟩,by repeat (first|exact Drawn0.refl _|apply Drawn0.step)⟩
      ·rw [if_neg c6] at H
       exact absurd H (by simp)
     ·rw [if_neg c5] at H
      exact absurd H (by simp)
    ·rw [if_neg c4] at H
     have c4b0 : decide (x5_1 < (l0.length : Int)) = false := decide_eq_false c4
     clear c4
     obtain rfl := Option.some.inj H
     go_wp2
     repeat (go_quiet (fail);try go_wp2)
     go_ret
     exact ⟨by first|rfl|(simp;done)|(simp [*];done)|(simp [qam];done),by repeat (first|exact Drawn0.refl _|apply Drawn0.step)⟩
 ·rw [if_neg c3] at H
  have c3b0 : ((l0.length : Int) == (l1.length : Int)) = false := beq_eq_false_iff_ne.mpr c3
  have c3b1 : ((l0.length : Int) != (l1.length : Int)) = true := bne_iff_ne.mpr c3
  have c3b2 : (l0.length == l1.length) = false := by first|simpa using c3|(simp at c3 ⊢;omega)
  obtain rfl := Option.some.inj H
  go_enter Tryz.func17,Tryz.ntmps17
  go_wp2
  repeat (go_quiet (fail);try go_wp2)
  go_ret
  exact ⟨by first|rfl|(simp;done)|(simp [*];done)|(simp [qam];done),by repeat (first|exact Drawn0.refl _|apply Drawn0.step)⟩
end Go.Proofs.YtooomjcdlfdnmaaGreatDoor.PA
