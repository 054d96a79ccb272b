import Derived.Test.YtiidmjmkgjfaeaaGreatDoorHeIdx
import Derived.Test.YtiidmjmkgjfaeaaGreatDoorEntRight
import Derived.RangeFuncRecord
namespace Go.Proofs.YtiidmjmkgjfaeaaGreatDoor.Ent
open Go Go.RowKit Go.Shelf Go.Proofs.YtiidmjmkgjfaeaaGreatDoorW.PrintWords Go.Proofs.YtiidmjmkgjfaeaaGreatDoor.PA Go.Proofs.YtiidmjmkgjfaeaaGreatDoor.Pure
set_option linter.unusedVariables false
set_option linter.unusedSimpArgs false
abbrev KH : Kd S39 := k39
abbrev H8 := S39
abbrev hcs (h : H8) (a : EA) : Array Value := #[.string h.f0.f0,.string h.f0.f1,.slice a.A2 h.f0.f2.length a.c2,.slice a.A3 h.f0.f3.length a.c3,.slice a.A4 h.f0.f4.length a.c4,.slice a.A5 h.f0.f5.length a.c5,.bool h.f1,.bool h.f2]
theorem here_open {W : World} {h : H8} {cs : List Value} (hK : KH.K W h cs) : ∃ a : EA,cs = (hcs h a).toList ∧ EC W h.f0 a := by
 obtain ⟨A2,c2,A3,c3,A4,c4,A5,c5,rfl,g⟩ := k39_open hK
 obtain ⟨l2,r2,l3,r3,l4,r4,l5,r5⟩ := g
 exact ⟨⟨A2,c2,A3,c3,A4,c4,A5,c5⟩,rfl,⟨r2,l2,r3,l3,r4,l4,r5,l5⟩⟩
theorem here_mk {W : World} {h : H8} {a : EA} (e : EC W h.f0 a) : KH.K W h (hcs h a).toList := k39_mk W h e.k2 e.r2 e.k3 e.r3 e.k4 e.r4 e.k5 e.r5
theorem hcs_cells {W : World} {D : Nat} {T : TypeId} {h : H8} {a : EA} (hb : W.heap[D]? = some (.cells (hcs h a) T (0,0))) :
  W.cell? ⟨D,0,none⟩ = some (.string h.f0.f0) ∧ W.cell? ⟨D,1,none⟩ = some (.string h.f0.f1) ∧ W.cell? ⟨D,2,none⟩ = some (.slice a.A2 h.f0.f2.length a.c2) ∧ W.cell? ⟨D,3,none⟩ = some (.slice a.A3 h.f0.f3.length a.c3) ∧ W.cell? ⟨D,4,none⟩ = some (.slice a.A4 h.f0.f4.length a.c4) ∧ W.cell? ⟨D,5,none⟩ = some (.slice a.A5 h.f0.f5.length a.c5) ∧ W.cell? ⟨D,6,none⟩ = some (.bool h.f1) ∧ W.cell? ⟨D,7,none⟩ = some (.bool h.f2) := by
 refine ⟨?_,?_,?_,?_,?_,?_,?_,?_⟩ <;> simp [World.cell?,hb]
def isName (n : ByteArray) (h : H8) : Bool := h.f0.f0.toList == n.toList
set_option maxHeartbeats 1000000 in
set_option maxRecDepth 100000 in
theorem place1_pred {w : World} (n : ByteArray) (D : Nat) (hD : w.cell? ⟨D,0,none⟩ = some (.string n)) (l : List H8) : PredP KH (isName n) 57 #[.pointer (some ⟨D,0,none⟩)] w l := by
 intro W x cs hb hm hK
 obtain ⟨a,rfl,_⟩ := here_open hK
 have gD := (hb.cell (World.block_lt_of_cell? _ _ hD)).trans hD
 have hDW : D < W.heap.size := World.block_lt_of_cell? _ _ gD
 have hne : D ≠ W.heap.size := by omega
 have HB := Aside0.mk hb
 unfold isName
 obtain ⟨r,hr⟩ : ∃ r,(x.f0.f0.toList == n.toList) = r := ⟨_,rfl⟩
 rw [hr]
 clear hK hD hm hb
 show Calls Tryz.prog 57 #[.agg (hcs x a),.pointer (some ⟨D,0,none⟩)] W _
 go_enter Tryz.func57,Tryz.ntmps57
 go_wp2
 go_ret
 exact ⟨rfl,qab HB.out _⟩
set_option maxHeartbeats 1000000 in
set_option maxRecDepth 100000 in
theorem hplace_calls {w : World} (A : Option Addr) (c : Nat) (l : List H8) (n : ByteArray) (hr : KH.C w A l.length l) (hl : l.length < 1000000000000) :
  Calls Tryz.prog 28 #[.slice A l.length c,.string n] w fun e w' => e = .returned (.int .i64 (idxP (isName n) l 0)) ∧ Below w.heap.size w w' := by
 obtain ⟨W,hW⟩ : ∃ W,w.alloc (.cells #[.string n] 9) = W := ⟨_,rfl⟩
 have hb : Below w.heap.size w W := by rw [← hW];exact qab (Below.refl _ _) _
 have hD : W.cell? ⟨w.heap.size,0,none⟩ = some (.string n) := by rw [← hW,World.cell?_alloc_new];rfl
 have HI := Aside0.mk (indexHere (isName n) 57 #[.pointer (some ⟨w.heap.size,0,none⟩)] (enters_of Tryz.func57 (by kernel_rfl) rfl) W A c l (place1_pred n w.heap.size hD l) (Kd.C_below hr hb) hl)
 have HB := Aside0.mk hb
 clear hr hl hb hD
 go_enter Tryz.func28,Tryz.ntmps28
 go_wp2_with (go_at_call 32;go_loud (refine HI.out.mono ?_);rintro e w' ⟨rfl,hb'⟩)
 go_ret
 exact ⟨rfl,HB.out.trans (hb'.mono HB.out.size)⟩
theorem h_thaw {W : World} {D : Nat} {cs : Array Value} {T : TypeId} (h : W.heap[D]? = some (.cells cs T (0,0))) (i : Nat) : W.frozen? ⟨D,i,none⟩ = false := by
 simp [World.frozen?,h]
theorem h_set {W : World} {D : Nat} {T : TypeId} {cs : Array Value} (h : W.heap[D]? = some (.cells cs T (0,0))) (i : Nat) (v : Value) : (W.setCell ⟨D,i,none⟩ v).heap[D]? = some (.cells (cs.setIfInBounds i v) T (0,0)) := by
 simp [World.setCell,Array.getElem?_modify,h]
abbrev hputs (W : World) (D : Nat) (h : H8) (a : EA) : World := (((((((W.setCell ⟨D,0,none⟩ (.string h.f0.f0)).setCell ⟨D,1,none⟩ (.string h.f0.f1)).setCell ⟨D,2,none⟩ (.slice a.A2 h.f0.f2.length a.c2)).setCell ⟨D,3,none⟩ (.slice a.A3 h.f0.f3.length a.c3)).setCell ⟨D,4,none⟩ (.slice a.A4 h.f0.f4.length a.c4)).setCell ⟨D,5,none⟩ (.slice a.A5 h.f0.f5.length a.c5)).setCell ⟨D,6,none⟩ (.bool h.f1)).setCell ⟨D,7,none⟩ (.bool h.f2)
theorem hputs_at {W : World} {D : Nat} {h0 h : H8} {a0 a : EA} {T : TypeId} (g : W.heap[D]? = some (.cells (hcs h0 a0) T (0,0))) : (hputs W D h a).heap[D]? = some (.cells (hcs h a) T (0,0)) := by
 have := h_set (h_set (h_set (h_set (h_set (h_set (h_set (h_set g 0 (.string h.f0.f0)) 1 (.string h.f0.f1)) 2 (.slice a.A2 h.f0.f2.length a.c2)) 3 (.slice a.A3 h.f0.f3.length a.c3)) 4 (.slice a.A4 h.f0.f4.length a.c4)) 5 (.slice a.A5 h.f0.f5.length a.c5)) 6 (.bool h.f1)) 7 (.bool h.f2)
 simp only [List.setIfInBounds_toArray,List.set_cons_zero,List.set_cons_succ] at this
 exact this
theorem set_below {B : Nat} {w W : World} {D : Nat} (g : Below B w W) (hD : B ≤ D) (i : Nat) (v : Value) : Below B w (W.setCell ⟨D,i,none⟩ v) := g.setCell hD v
theorem hputs_below {B : Nat} {w W : World} {D : Nat} {h : H8} {a : EA} (g : Below B w W) (hD : B ≤ D) : Below B w (hputs W D h a) :=
 set_below (set_below (set_below (set_below (set_below (set_below (set_below (set_below g hD 0 _) hD 1 _) hD 2 _) hD 3 _) hD 4 _) hD 5 _) hD 6 _) hD 7 _
theorem here_at {w W : World} {ad : Addr} {j : Nat} {h : H8} {a : EA} (hc : ∀ i u,(hcs h a).toList[i]? = some u → w.cell? (ad.add (j * KH.sz + i)) = some u) (hb : Below w.heap.size w W) :
  W.cell? (ad.add (j * 8)) = some (.string h.f0.f0) ∧ W.cell? ⟨(ad.add (j * 8)).block,(ad.add (j * 8)).off + 1,none⟩ = some (.string h.f0.f1) ∧ W.cell? ⟨(ad.add (j * 8)).block,(ad.add (j * 8)).off + 2,none⟩ = some (.slice a.A2 h.f0.f2.length a.c2) ∧ W.cell? ⟨(ad.add (j * 8)).block,(ad.add (j * 8)).off + 3,none⟩ = some (.slice a.A3 h.f0.f3.length a.c3) ∧ W.cell? ⟨(ad.add (j * 8)).block,(ad.add (j * 8)).off + 4,none⟩ = some (.slice a.A4 h.f0.f4.length a.c4) ∧ W.cell? ⟨(ad.add (j * 8)).block,(ad.add (j * 8)).off + 5,none⟩ = some (.slice a.A5 h.f0.f5.length a.c5) ∧ W.cell? ⟨(ad.add (j * 8)).block,(ad.add (j * 8)).off + 6,none⟩ = some (.bool h.f1) ∧ W.cell? ⟨(ad.add (j * 8)).block,(ad.add (j * 8)).off + 7,none⟩ = some (.bool h.f2) := by
 have g : ∀ i u,(hcs h a).toList[i]? = some u → W.cell? (ad.add (j * 8 + i)) = some u := fun i u hu => (hb.cell (World.block_lt_of_cell? _ _ (hc i u hu))).trans (hc i u hu)
 refine ⟨g 0 _ rfl,?_,?_,?_,?_,?_,?_,?_⟩
 ·rw [← add_field _ _ 1 (by omega)];exact g 1 _ rfl
 ·rw [← add_field _ _ 2 (by omega)];exact g 2 _ rfl
 ·rw [← add_field _ _ 3 (by omega)];exact g 3 _ rfl
 ·rw [← add_field _ _ 4 (by omega)];exact g 4 _ rfl
 ·rw [← add_field _ _ 5 (by omega)];exact g 5 _ rfl
 ·rw [← add_field _ _ 6 (by omega)];exact g 6 _ rfl
 ·rw [← add_field _ _ 7 (by omega)];exact g 7 _ rfl
def findH (l : List H8) (n : ByteArray) : Option H8 := l.find? (isName n)
theorem idxP_find {α : Type} (p : α → Bool) : ∀ (l : List α) (i : Nat),(l.find? p = none ∧ idxP p l i = -1) ∨ ∃ (j : Nat) (x : α),l[j]? = some x ∧ l.find? p = some x ∧ idxP p l i = ((i + j : Nat) : Int)
 | [],i => .inl ⟨rfl,rfl⟩
 | x :: r,i => by
  rw [List.find?_cons,idxP]
  cases h : p x with
  | true => exact .inr ⟨0,x,rfl,rfl,by rw [if_pos rfl];rfl⟩
  | false =>
   rw [if_neg (by decide)]
   rcases idxP_find p r (i + 1) with h | ⟨j,y,h1,h2,h3⟩
   ·exact .inl h
   ·exact .inr ⟨j + 1,y,h1,h2,by rw [h3];congr 1;omega⟩
def zH : H8 := z39
def aZ : EA := ⟨none,0,none,0,none,0,none,0⟩
abbrev zcs : Array Value := #[.string ⟨#[]⟩,.string ⟨#[]⟩,.slice none 0 0,.slice none 0 0,.slice none 0 0,.slice none 0 0,.bool false,.bool false]
set_option maxHeartbeats 1000000 in
set_option maxRecDepth 100000 in
theorem find_no {w : World} (A : Option Addr) (c : Nat) (l : List H8) (n : ByteArray) (hr : KH.C w A l.length l) (hl : l.length < 1000000000000) (hf : findH l n = none) :
  Calls Tryz.prog 13 #[.slice A l.length c,.string n] w fun e w' => e = .returned (.tuple #[.agg (hcs zH aZ),.bool false]) ∧ Below w.heap.size w w' := by
 obtain ⟨W,hW⟩ : ∃ W,w.alloc (.cells zcs 39) = W := ⟨_,rfl⟩
 have hb : Below w.heap.size w W := by rw [← hW];exact qab (Below.refl _ _) _
 have hz : W.heap[w.heap.size]? = some (.cells (hcs zH aZ) 39 (0,0)) := by rw [← hW];exact World.alloc_heap_new _ _
 have hP := hplace_calls A c l n (Kd.C_below hr hb) hl
 have hi : idxP (isName n) l 0 = -1 := by
  rcases idxP_find (isName n) l 0 with h | ⟨j,x,_,h,_⟩
  ·exact h.2
  ·unfold findH at hf;rw [hf] at h;cases h
 rw [hi] at hP
 have HP := Aside0.mk hP
 have HB := Aside0.mk hb
 have HZ := Aside0.mk hz
 clear hr hl hf hb hz hP hi
 go_enter Tryz.func13,Tryz.ntmps13
 go_wp2_with (go_at_call 28;refine HP.out.mono ?_;rintro e w1 ⟨rfl,hb1⟩;have hz1 := (hb1.block _ (Array.getElem?_eq_some_iff.1 HZ.out).1).trans HZ.out;obtain ⟨x0,x1,x2,x3,x4,x5,x6,x7⟩ := hcs_cells hz1;have f0 := h_thaw hz1 0;have f1 := h_thaw hz1 1;have f2 := h_thaw hz1 2;have f3 := h_thaw hz1 3;have f4 := h_thaw hz1 4;have f5 := h_thaw hz1 5;have f6 := h_thaw hz1 6;have f7 := h_thaw hz1 7;have HB1 := Aside0.mk hb1;have HZ1 := Aside0.mk hz1;clear hb1 hz1)
 have hq := hputs_at (h := zH) (a := aZ) (h0 := zH) (a0 := aZ) HZ1.out
 have hbq := hputs_below (h := zH) (a := aZ) (HB.out.trans (HB1.out.mono HB.out.size)) (Nat.le_refl w.heap.size)
 exact bodyPost_ret (results_ct rfl _ _ w.heap.size 39 (hcs zH aZ) (0,0) _ rfl hq Tryz.underlying39 rfl (by kernel_rfl)) rfl ⟨rfl,hbq⟩
set_option maxHeartbeats 1000000 in
set_option maxRecDepth 100000 in
theorem find_yes {w : World} (A : Option Addr) (c : Nat) (l : List H8) (n : ByteArray) (x : H8) (hr : KH.C w A l.length l) (hl : l.length < 1000000000000) (hf : findH l n = some x) :
  Calls Tryz.prog 13 #[.slice A l.length c,.string n] w fun e w' => ∃ a : EA,e = .returned (.tuple #[.agg (hcs x a),.bool true]) ∧ EC w x.f0 a ∧ Below w.heap.size w w' := by
 obtain ⟨W,hW⟩ : ∃ W,w.alloc (.cells zcs 39) = W := ⟨_,rfl⟩
 have hb : Below w.heap.size w W := by rw [← hW];exact qab (Below.refl _ _) _
 have hz : W.heap[w.heap.size]? = some (.cells (hcs zH aZ) 39 (0,0)) := by rw [← hW];exact World.alloc_heap_new _ _
 have hP := hplace_calls A c l n (Kd.C_below hr hb) hl
 obtain ⟨j,y,hj,hy,hi⟩ : ∃ (j : Nat) (y : H8),l[j]? = some y ∧ y = x ∧ idxP (isName n) l 0 = (j : Int) := by
  rcases idxP_find (isName n) l 0 with h | ⟨j,y,h1,h2,h3⟩
  ·unfold findH at hf;rw [hf] at h;cases h.1
  ·refine ⟨j,y,h1,?_,by rw [h3];congr 1;omega⟩
   unfold findH at hf
   rw [hf] at h2
   exact (Option.some.inj h2).symm
 subst hy
 obtain ⟨hjl,hje⟩ := List.getElem?_eq_some_iff.1 hj
 rw [hi] at hP
 have p0 : (0 : Int) ≤ (j : Int) := by omega
 have p1 : (j : Int) < (l.length : Int) := by omega
 obtain ⟨ad,cs,rfl,hcl,hK,hc⟩ := Kd.C_get hr zH (j : Int) p0 p1
 rw [show l.getD (j : Int).toNat zH = y by rw [Int.toNat_natCast,List.getD_eq_getElem?_getD,hj];rfl] at hK
 obtain ⟨a,rfl,ha⟩ := here_open hK
 have b1 : decide ((j : Int) < 0) = false := decide_eq_false (by omega)
 have b2 : decide ((j : Int) < (l.length : Int)) = true := decide_eq_true p1
 rw [Int.toNat_natCast] at hc
 have HP := Aside0.mk hP
 have HB := Aside0.mk hb
 have HZ := Aside0.mk hz
 have HC := Aside0.mk hc
 have HA := Aside0.mk ha
 clear hr hl hf hb hz hP hi hc ha hK hj hje
 go_enter Tryz.func13,Tryz.ntmps13
 go_wp2_with (go_at_call 28;refine HP.out.mono ?_;rintro e w1 ⟨rfl,hb1⟩;have hz1 := (hb1.block _ (Array.getElem?_eq_some_iff.1 HZ.out).1).trans HZ.out;obtain ⟨x0,x1,x2,x3,x4,x5,x6,x7⟩ := hcs_cells hz1;have f0 := h_thaw hz1 0;have f1 := h_thaw hz1 1;have f2 := h_thaw hz1 2;have f3 := h_thaw hz1 3;have f4 := h_thaw hz1 4;have f5 := h_thaw hz1 5;have f6 := h_thaw hz1 6;have f7 := h_thaw hz1 7;have HB1 := Aside0.mk hb1;have HZ1 := Aside0.mk hz1;have hbw := HB.out.trans (hb1.mono HB.out.size);obtain ⟨y0,y1,y2,y3,y4,y5,y6,y7⟩ := here_at HC.out hbw;clear hb1 hz1 hbw)
 have hq := hputs_at (h := y) (a := a) (h0 := zH) (a0 := aZ) HZ1.out
 have hbq := hputs_below (h := y) (a := a) (HB.out.trans (HB1.out.mono HB.out.size)) (Nat.le_refl w.heap.size)
 exact bodyPost_ret (results_ct rfl _ _ w.heap.size 39 (hcs y a) (0,0) _ rfl hq Tryz.underlying39 rfl (by kernel_rfl)) rfl ⟨a,rfl,HA.out,hbq⟩
end Go.Proofs.YtiidmjmkgjfaeaaGreatDoor.Ent

namespace Go.Proofs.YtiidmjmkgjfaeaaGreatDoor.Ent
open Go Go.RowKit Go.Shelf Go.Proofs.YtiidmjmkgjfaeaaGreatDoorW.PrintWords Go.Proofs.YtiidmjmkgjfaeaaGreatDoorW.PrintLast Go.Proofs.YtiidmjmkgjfaeaaGreatDoor.PA Go.Proofs.YtiidmjmkgjfaeaaGreatDoor.Pure
set_option linter.unusedVariables false
set_option linter.unusedSimpArgs false
def lessN (p h : H8) : Bool := Op.bytesLess p.f0.f0.toList h.f0.f0.toList
def risesFrom : Option H8 → List H8 → Bool
 | _,[] => true
 | none,h :: r => rightE h.f0 && risesFrom (some h) r
 | some p,h :: r => (rightE h.f0 && lessN p h) && risesFrom (some h) r
def rightH (l : List H8) : Bool := risesFrom none l && decide (l.length ≤ 64)
theorem rises_no {p : Option H8} {h : H8} {r : List H8} (hre : rightE h.f0 = false) : risesFrom p (h :: r) = false := by cases p <;> simp [risesFrom,hre]
theorem six_of {W : World} {D : Nat} {T : TypeId} {h : H8} {a : EA} (hb : W.heap[D]? = some (.cells (hcs h a) T (0,0))) : W.cell? ⟨D,0,none⟩ = some (.string h.f0.f0) ∧ W.cell? ⟨D,1,none⟩ = some (.string h.f0.f1) ∧ W.cell? ⟨D,2,none⟩ = some (.slice a.A2 h.f0.f2.length a.c2) ∧ W.cell? ⟨D,3,none⟩ = some (.slice a.A3 h.f0.f3.length a.c3) ∧ W.cell? ⟨D,4,none⟩ = some (.slice a.A4 h.f0.f4.length a.c4) ∧ W.cell? ⟨D,5,none⟩ = some (.slice a.A5 h.f0.f5.length a.c5) := by
 obtain ⟨x0,x1,x2,x3,x4,x5,_,_⟩ := hcs_cells hb
 exact ⟨x0,x1,x2,x3,x4,x5⟩
def hright4.T : Bool × List (List Nat × List Nat) := (true,[([],[]),([0],[0]),([1],[1]),([2],[2]),([3,2],[3]),([4],[4]),([5,4],[4,5]),([6,4,4],[4,6]),([7],[7]),([8,7],[7,8]),([9,7],[7,9]),([7],[7]),([7],[7]),([12,7],[7,12]),([11,13,7],[7,11,13]),([14,7],[7,14]),([15,7],[7,15]),([16,7],[7,16]),([10,17,7],[7,10,17]),([7,18,4],[4,7,18]),([4,19],[4,19])])
def hright4.B : List Nat := [0,1,3,7,15,31,63,127,255,511,1023,255,255,4351,14591,30975,63743,129279,262143,524287,1048575]
theorem hright4.tab : rtab .any (opsOf Tryz.f36 4) = hright4.T := by kernel_rfl
theorem hright4.bits : waitsOk hright4.T.2 hright4.B = true := by kernel_rfl
set_option maxRecDepth 100000 in
set_option maxHeartbeats 8000000 in
theorem hright_calls {w : World} (hG : GL w) (A : Option Addr) (c : Nat) (l : List H8) (hr : KH.C w A l.length l) (hl : l.length ≤ 1000000) (hs : ∀ h ∈ l,SmE h.f0) :
  Calls Tryz.prog 36 #[.slice A l.length c] w fun e w' => e = .returned (.bool (rightH l)) ∧ Below w.heap.size w w' := by
 have HR := Aside0.mk hr
 have HL := Aside0.mk hl
 have HS := Aside0.mk hs
 have HG0 := Aside0.mk hG
 obtain ⟨r,hrr⟩ : ∃ r,rightH l = r := ⟨_,rfl⟩
 rw [hrr]
 have HRR := Aside0.mk hrr
 clear hr hl hs hG hrr
 go_enter Tryz.func36,Tryz.ntmps36
 go_wp2
 go_loopg [7] l.length (fun gg v7 wr => ∃ i : Nat,i ≤ l.length ∧ l.length - i ≤ gg ∧ v7 = .int .i64 (i : Int) ∧ Aside0 (risesFrom none l = risesFrom (if i = 0 then none else l[i - 1]?) (l.drop i)) ∧ Aside0 (Below w.heap.size w wr))
 case atStart => exact ⟨0,Nat.zero_le _,by omega,rfl,⟨rfl⟩,⟨Below.refl _ _⟩⟩
 case round =>
  obtain ⟨i,hi,hg,rfl,HA,HB⟩ := hrel
  have bw : wrap64 ((i : Int) + 1) = ((i + 1 : Nat) : Int) := by have := HL.out;unfold wrap64;omega
  by_cases hlt : i < l.length
  ·have b2 : decide ((i : Int) < (l.length : Int)) = true := decide_eq_true (by omega)
   have p0 : (0 : Int) ≤ (i : Int) := by omega
   have p1 : (i : Int) < (l.length : Int) := by omega
   obtain ⟨ad,cs,rfl,hcl,hK,hcc⟩ := Kd.C_get HR.out zH (i : Int) p0 p1
   obtain ⟨h,hf,hm⟩ : ∃ h,l.getD (i : Int).toNat zH = h ∧ l[i] = h := ⟨_,rfl,by rw [Int.toNat_natCast,List.getD_eq_getElem?_getD,List.getElem?_eq_getElem hlt];rfl⟩
   rw [hf] at hK
   obtain ⟨a,rfl,ha⟩ := here_open hK
   rw [Int.toNat_natCast] at hcc
   obtain ⟨y0,y1,y2,y3,y4,y5,y6,y7⟩ := here_at hcc HB.out
   have hsm := HS.out h (hm ▸ List.getElem_mem hlt)
   obtain ⟨W1,hW1⟩ : ∃ W1,wr.alloc (.cells (hcs h a) 39) = W1 := ⟨_,rfl⟩
   obtain ⟨g,hgd⟩ : ∃ g,wr.heap.size = g := ⟨_,rfl⟩
   have hb1 : Below wr.heap.size wr W1 := by rw [← hW1];exact qab (Below.refl _ _) _
   have HB1 := Aside0.mk (HB.out.trans (hb1.mono HB.out.size))
   have XB := Aside0.mk (show W1.heap[g]? = some (.cells (hcs h a) 39 (0,0)) by rw [← hW1,← hgd];exact World.alloc_heap_new _ _)
   obtain ⟨re,hre⟩ : ∃ v,rightE h.f0 = v := ⟨_,rfl⟩
   have hri : QB W1 61 #[.agg (ecs h.f0 a)] (.bool (rightE h.f0)) := fun W hb => right_calls ((HG0.out.below HB1.out).below hb) ((ha.below HB1.out).below hb) hsm
   rw [hre] at hri
   have HRI := Aside0.mk hri
   have HLT := Aside0.mk hlt
   have HGG := Aside0.mk hg
   have HDR := Aside0.mk (show l.drop i = h :: l.drop (i + 1) by rw [List.drop_eq_getElem_cons hlt,hm])
   have HLI := Aside0.mk (show l[i]? = some h by rw [List.getElem?_eq_getElem hlt,hm])
   have HRE := Aside0.mk hre
   clear hcl hK hf hm ha hsm hb1 hri hre hlt hg hi
   go_wp2
   cases re with
   | false =>
    obtain rfl : r = false := by rw [← HRR.out];unfold rightH;rw [HA.out,HDR.out,rises_no HRE.out];rfl
    refine start_ (n := 21) (S := fun w' => w'.cell? ⟨g,0,none⟩ = some (.string h.f0.f0) ∧ w'.cell? ⟨g,1,none⟩ = some (.string h.f0.f1) ∧ w'.cell? ⟨g,2,none⟩ = some (.slice a.A2 h.f0.f2.length a.c2) ∧ w'.cell? ⟨g,3,none⟩ = some (.slice a.A3 h.f0.f3.length a.c3) ∧ w'.cell? ⟨g,4,none⟩ = some (.slice a.A4 h.f0.f4.length a.c4) ∧ w'.cell? ⟨g,5,none⟩ = some (.slice a.A5 h.f0.f5.length a.c5)) (ds := []) (mb 21 0) (by kernel_rfl) rfl rfl (six_of XB.out) (fun hHeld => ?_);refine with_tabW hright4.tab hright4.bits (fun HT_ HW_ => ?_)
    refine pure_ (i := 0) (N := some 12) (v := ?_) (a' := ?_) (mb 21 1) rfl rfl (any_of HT_.out (by kernel_rfl)) (fun _ _ _ h => h) (Or.inl ⟨by rfl,?_⟩) ?_ ?_
    rotate_left
    ·intro w'
     go_simp
     (try with_reducible rfl)
    rotate_left
    ·simp only [Act.put,List.setIfInBounds_toArray,List.set_cons_zero,List.set_cons_succ,i64_w,i32_w]
     rfl
    refine take_ (i := 1) (N := some 13) (v := ?_) (a' := ?_) (mb 21 3) rfl rfl (take_ofW HT_.out HW_.out (by kernel_rfl)) (fun _ _ _ h => h) (Or.inl ⟨by rfl,?_⟩) hHeld ?_ ?_
    rotate_left
    ·rintro w' ⟨s0,s1,s2,s3,s4,s5⟩
     go_simp
     (try with_reducible rfl)
    rotate_left
    ·simp only [Act.put,List.setIfInBounds_toArray,List.set_cons_zero,List.set_cons_succ,i64_w,i32_w]
     rfl
    refine one_ (i := 2) (N := some 14) (mb 21 7) rfl rfl (one_of HT_.out (by kernel_rfl)) (by decide) (fun K hK => ?_)
    refine goes_ Tryz.func61 (by kernel_rfl) rfl #[.agg (ecs h.f0 a)] (by rfl) rfl rfl (by (try simp only [List.map_toArray,List.map_cons,List.map_nil]);first | done | rfl) ?_
    refine (HRI.out _ (below_drew (Below.refl _ _))).mono ?_
    rintro en w2 ⟨rfl,hb2⟩
    have X2 := Aside0.mk ((hb2.block g (Array.getElem?_eq_some_iff.1 XB.out).1).trans XB.out)
    have D2 := Aside0.mk (show Below W1.heap.size W1 w2 from (below_drew (Below.refl _ _)).trans hb2)
    have B2 := Aside0.mk (HB1.out.trans (D2.out.mono HB1.out.size))
    clear hb2
    refine ⟨_,rfl,?_⟩
    refine hK.out _ _ (six_of X2.out) (fun hHeld => ?_)
    clear hK K
    refine norm_ (a' := ?_) ?_ ?_
    rotate_left
    ·first | (show Act.put _ (some 14) _ = _;simp only [Act.put,List.setIfInBounds_toArray,List.set_cons_zero,List.set_cons_succ,i64_w,i32_w];rfl) | rfl
    refine pure_ (i := 3) (N := some 15) (v := ?_) (a' := ?_) (mb 21 15) rfl rfl (any_of HT_.out (by kernel_rfl)) (fun _ _ _ h => h) (Or.inl ⟨by rfl,?_⟩) ?_ ?_
    rotate_left
    ·intro w'
     go_simp
     (try with_reducible rfl)
    rotate_left
    ·simp only [Act.put,List.setIfInBounds_toArray,List.set_cons_zero,List.set_cons_succ,i64_w,i32_w]
     rfl
    refine pure_ (i := 4) (N := some 16) (v := ?_) (a' := ?_) (mb 21 31) rfl rfl (any_of HT_.out (by kernel_rfl)) (fun _ _ _ h => h) (Or.inl ⟨by rfl,?_⟩) ?_ ?_
    rotate_left
    ·intro w'
     go_simp
     (try with_reducible rfl)
    rotate_left
    ·simp only [Act.put,List.setIfInBounds_toArray,List.set_cons_zero,List.set_cons_succ,i64_w,i32_w]
     rfl
    refine pure_ (i := 5) (N := some 17) (v := undef) (a' := ?_) (mb 21 63) rfl rfl (any_of HT_.out (by kernel_rfl)) (fun _ _ _ h => h) (Or.inr ⟨by rfl,rfl⟩) ?_ ?_
    rotate_left
    ·simp only [Act.put,List.setIfInBounds_toArray,List.set_cons_zero,List.set_cons_succ,i64_w,i32_w]
     rfl
    refine pure_ (i := 6) (N := some 18) (v := undef) (a' := ?_) (mb 21 127) rfl rfl (any_of HT_.out (by kernel_rfl)) (fun _ _ _ h => h) (Or.inr ⟨by rfl,rfl⟩) ?_ ?_
    rotate_left
    ·simp only [Act.put,List.setIfInBounds_toArray,List.set_cons_zero,List.set_cons_succ,i64_w,i32_w]
     rfl
    refine pure_ (i := 7) (N := some 19) (v := undef) (a' := ?_) (mb 21 255) rfl rfl (any_of HT_.out (by kernel_rfl)) (fun _ _ _ h => h) (Or.inr ⟨by rfl,rfl⟩) ?_ ?_
    rotate_left
    ·simp only [Act.put,List.setIfInBounds_toArray,List.set_cons_zero,List.set_cons_succ,i64_w,i32_w]
     rfl
    refine pure_ (i := 8) (N := some 20) (v := undef) (a' := ?_) (mb 21 511) rfl rfl (any_of HT_.out (by kernel_rfl)) (fun _ _ _ h => h) (Or.inr ⟨by rfl,rfl⟩) ?_ ?_
    rotate_left
    ·simp only [Act.put,List.setIfInBounds_toArray,List.set_cons_zero,List.set_cons_succ,i64_w,i32_w]
     rfl
    refine pure_ (i := 9) (N := some 21) (v := undef) (a' := ?_) (mb 21 1023) rfl rfl (any_of HT_.out (by kernel_rfl)) (fun _ _ _ h => h) (Or.inr ⟨by rfl,rfl⟩) ?_ ?_
    rotate_left
    ·simp only [Act.put,List.setIfInBounds_toArray,List.set_cons_zero,List.set_cons_succ,i64_w,i32_w]
     rfl
    refine pure_ (i := 10) (N := some 22) (v := undef) (a' := ?_) (mb 21 2047) rfl rfl (any_of HT_.out (by kernel_rfl)) (fun _ _ _ h => h) (Or.inr ⟨by rfl,rfl⟩) ?_ ?_
    rotate_left
    ·simp only [Act.put,List.setIfInBounds_toArray,List.set_cons_zero,List.set_cons_succ,i64_w,i32_w]
     rfl
    refine pure_ (i := 11) (N := some 23) (v := undef) (a' := ?_) (mb 21 4095) rfl rfl (any_of HT_.out (by kernel_rfl)) (fun _ _ _ h => h) (Or.inr ⟨by rfl,rfl⟩) ?_ ?_
    rotate_left
    ·simp only [Act.put,List.setIfInBounds_toArray,List.set_cons_zero,List.set_cons_succ,i64_w,i32_w]
     rfl
    refine pure_ (i := 12) (N := some 24) (v := undef) (a' := ?_) (mb 21 8191) rfl rfl (any_of HT_.out (by kernel_rfl)) (fun _ _ _ h => h) (Or.inr ⟨by rfl,rfl⟩) ?_ ?_
    rotate_left
    ·simp only [Act.put,List.setIfInBounds_toArray,List.set_cons_zero,List.set_cons_succ,i64_w,i32_w]
     rfl
    refine pure_ (i := 13) (N := some 25) (v := undef) (a' := ?_) (mb 21 16383) rfl rfl (any_of HT_.out (by kernel_rfl)) (fun _ _ _ h => h) (Or.inr ⟨by rfl,rfl⟩) ?_ ?_
    rotate_left
    ·simp only [Act.put,List.setIfInBounds_toArray,List.set_cons_zero,List.set_cons_succ,i64_w,i32_w]
     rfl
    refine pure_ (i := 14) (N := some 26) (v := undef) (a' := ?_) (mb 21 32767) rfl rfl (any_of HT_.out (by kernel_rfl)) (fun _ _ _ h => h) (Or.inr ⟨by rfl,rfl⟩) ?_ ?_
    rotate_left
    ·simp only [Act.put,List.setIfInBounds_toArray,List.set_cons_zero,List.set_cons_succ,i64_w,i32_w]
     rfl
    refine pure_ (i := 15) (N := some 27) (v := undef) (a' := ?_) (mb 21 65535) rfl rfl (any_of HT_.out (by kernel_rfl)) (fun _ _ _ h => h) (Or.inr ⟨by rfl,rfl⟩) ?_ ?_
    rotate_left
    ·simp only [Act.put,List.setIfInBounds_toArray,List.set_cons_zero,List.set_cons_succ,i64_w,i32_w]
     rfl
    refine pure_ (i := 16) (N := some 28) (v := undef) (a' := ?_) (mb 21 131071) rfl rfl (any_of HT_.out (by kernel_rfl)) (fun _ _ _ h => h) (Or.inr ⟨by rfl,rfl⟩) ?_ ?_
    rotate_left
    ·simp only [Act.put,List.setIfInBounds_toArray,List.set_cons_zero,List.set_cons_succ,i64_w,i32_w]
     rfl
    refine pure_ (i := 17) (N := some 29) (v := undef) (a' := ?_) (mb 21 262143) rfl rfl (any_of HT_.out (by kernel_rfl)) (fun _ _ _ h => h) (Or.inr ⟨by rfl,rfl⟩) ?_ ?_
    rotate_left
    ·simp only [Act.put,List.setIfInBounds_toArray,List.set_cons_zero,List.set_cons_succ,i64_w,i32_w]
     rfl
    refine pure_ (i := 18) (N := some 30) (v := undef) (a' := ?_) (mb 21 524287) rfl rfl (any_of HT_.out (by kernel_rfl)) (fun _ _ _ h => h) (Or.inr ⟨by rfl,rfl⟩) ?_ ?_
    rotate_left
    ·simp only [Act.put,List.setIfInBounds_toArray,List.set_cons_zero,List.set_cons_succ,i64_w,i32_w]
     rfl
    refine pure_ (i := 19) (N := some 31) (v := undef) (a' := ?_) (mb 21 1048575) rfl rfl (any_of HT_.out (by kernel_rfl)) (fun _ _ _ h => h) (Or.inr ⟨by rfl,rfl⟩) ?_ ?_
    rotate_left
    ·simp only [Act.put,List.setIfInBounds_toArray,List.set_cons_zero,List.set_cons_succ,i64_w,i32_w]
     rfl
    refine pure_ (i := 20) (N := some 32) (v := ?_) (a' := ?_) (mb 21 2097151) rfl rfl (any_of HT_.out (by kernel_rfl)) (fun _ _ _ h => h) (Or.inl ⟨by rfl,?_⟩) ?_ ?_
    rotate_left
    ·intro w'
     go_simp
     (try with_reducible rfl)
    rotate_left
    ·simp only [Act.put,List.setIfInBounds_toArray,List.set_cons_zero,List.set_cons_succ,i64_w,i32_w]
     rfl
    refine done_ (done_of HT_.out (by kernel_rfl)) ?_
    go_wp2
    go_ret
    exact ⟨rfl,B2.out⟩
   | true =>
   match i,HA,HB,bw,b2,p0,p1,hcc,y0,y1,y2,y3,y4,y5,y6,y7,HLT,HGG,HDR,HLI with
   | 0,HA,HB,bw,b2,p0,p1,hcc,y0,y1,y2,y3,y4,y5,y6,y7,HLT,HGG,HDR,HLI =>
    refine start_ (n := 21) (S := fun w' => w'.cell? ⟨g,0,none⟩ = some (.string h.f0.f0) ∧ w'.cell? ⟨g,1,none⟩ = some (.string h.f0.f1) ∧ w'.cell? ⟨g,2,none⟩ = some (.slice a.A2 h.f0.f2.length a.c2) ∧ w'.cell? ⟨g,3,none⟩ = some (.slice a.A3 h.f0.f3.length a.c3) ∧ w'.cell? ⟨g,4,none⟩ = some (.slice a.A4 h.f0.f4.length a.c4) ∧ w'.cell? ⟨g,5,none⟩ = some (.slice a.A5 h.f0.f5.length a.c5)) (ds := []) (mb 21 0) (by kernel_rfl) rfl rfl (six_of XB.out) (fun hHeld => ?_);refine with_tabW hright4.tab hright4.bits (fun HT_ HW_ => ?_)
    refine pure_ (i := 0) (N := some 12) (v := ?_) (a' := ?_) (mb 21 1) rfl rfl (any_of HT_.out (by kernel_rfl)) (fun _ _ _ h => h) (Or.inl ⟨by rfl,?_⟩) ?_ ?_
    rotate_left
    ·intro w'
     go_simp
     (try with_reducible rfl)
    rotate_left
    ·simp only [Act.put,List.setIfInBounds_toArray,List.set_cons_zero,List.set_cons_succ,i64_w,i32_w]
     rfl
    refine take_ (i := 1) (N := some 13) (v := ?_) (a' := ?_) (mb 21 3) rfl rfl (take_ofW HT_.out HW_.out (by kernel_rfl)) (fun _ _ _ h => h) (Or.inl ⟨by rfl,?_⟩) hHeld ?_ ?_
    rotate_left
    ·rintro w' ⟨s0,s1,s2,s3,s4,s5⟩
     go_simp
     (try with_reducible rfl)
    rotate_left
    ·simp only [Act.put,List.setIfInBounds_toArray,List.set_cons_zero,List.set_cons_succ,i64_w,i32_w]
     rfl
    refine one_ (i := 2) (N := some 14) (mb 21 7) rfl rfl (one_of HT_.out (by kernel_rfl)) (by decide) (fun K hK => ?_)
    refine goes_ Tryz.func61 (by kernel_rfl) rfl #[.agg (ecs h.f0 a)] (by rfl) rfl rfl (by (try simp only [List.map_toArray,List.map_cons,List.map_nil]);first | done | rfl) ?_
    refine (HRI.out _ (below_drew (Below.refl _ _))).mono ?_
    rintro en w2 ⟨rfl,hb2⟩
    have X2 := Aside0.mk ((hb2.block g (Array.getElem?_eq_some_iff.1 XB.out).1).trans XB.out)
    have D2 := Aside0.mk (show Below W1.heap.size W1 w2 from (below_drew (Below.refl _ _)).trans hb2)
    have B2 := Aside0.mk (HB1.out.trans (D2.out.mono HB1.out.size))
    clear hb2
    refine ⟨_,rfl,?_⟩
    refine hK.out _ _ (six_of X2.out) (fun hHeld => ?_)
    clear hK K
    refine norm_ (a' := ?_) ?_ ?_
    rotate_left
    ·first | (show Act.put _ (some 14) _ = _;simp only [Act.put,List.setIfInBounds_toArray,List.set_cons_zero,List.set_cons_succ,i64_w,i32_w];rfl) | rfl
    refine pure_ (i := 3) (N := some 15) (v := ?_) (a' := ?_) (mb 21 15) rfl rfl (any_of HT_.out (by kernel_rfl)) (fun _ _ _ h => h) (Or.inl ⟨by rfl,?_⟩) ?_ ?_
    rotate_left
    ·intro w'
     go_simp
     (try with_reducible rfl)
    rotate_left
    ·simp only [Act.put,List.setIfInBounds_toArray,List.set_cons_zero,List.set_cons_succ,i64_w,i32_w]
     rfl
    refine pure_ (i := 4) (N := some 16) (v := ?_) (a' := ?_) (mb 21 31) rfl rfl (any_of HT_.out (by kernel_rfl)) (fun _ _ _ h => h) (Or.inl ⟨by rfl,?_⟩) ?_ ?_
    rotate_left
    ·intro w'
     go_simp
     (try with_reducible rfl)
    rotate_left
    ·simp only [Act.put,List.setIfInBounds_toArray,List.set_cons_zero,List.set_cons_succ,i64_w,i32_w]
     rfl
    refine pure_ (i := 5) (N := some 17) (v := ?_) (a' := ?_) (mb 21 63) rfl rfl (any_of HT_.out (by kernel_rfl)) (fun _ _ _ h => h) (Or.inl ⟨by rfl,?_⟩) ?_ ?_
    rotate_left
    ·intro w'
     go_simp
     (try with_reducible rfl)
    rotate_left
    ·simp only [Act.put,List.setIfInBounds_toArray,List.set_cons_zero,List.set_cons_succ,i64_w,i32_w]
     rfl
    refine pure_ (i := 6) (N := some 18) (v := ?_) (a' := ?_) (mb 21 127) rfl rfl (any_of HT_.out (by kernel_rfl)) (fun _ _ _ h => h) (Or.inl ⟨by rfl,?_⟩) ?_ ?_
    rotate_left
    ·intro w'
     go_simp
     (try with_reducible rfl)
    rotate_left
    ·simp only [Act.put,List.setIfInBounds_toArray,List.set_cons_zero,List.set_cons_succ,i64_w,i32_w]
     rfl
    refine pure_ (i := 7) (N := some 19) (v := ?_) (a' := ?_) (mb 21 255) rfl rfl (any_of HT_.out (by kernel_rfl)) (fun _ _ _ h => h) (Or.inl ⟨by rfl,?_⟩) ?_ ?_
    rotate_left
    ·intro w'
     go_simp
     (try with_reducible rfl)
    rotate_left
    ·simp only [Act.put,List.setIfInBounds_toArray,List.set_cons_zero,List.set_cons_succ,i64_w,i32_w]
     rfl
    refine pure_ (i := 8) (N := some 20) (v := undef) (a' := ?_) (mb 21 511) rfl rfl (any_of HT_.out (by kernel_rfl)) (fun _ _ _ h => h) (Or.inr ⟨by rfl,rfl⟩) ?_ ?_
    rotate_left
    ·simp only [Act.put,List.setIfInBounds_toArray,List.set_cons_zero,List.set_cons_succ,i64_w,i32_w]
     rfl
    refine pure_ (i := 9) (N := some 21) (v := undef) (a' := ?_) (mb 21 1023) rfl rfl (any_of HT_.out (by kernel_rfl)) (fun _ _ _ h => h) (Or.inr ⟨by rfl,rfl⟩) ?_ ?_
    rotate_left
    ·simp only [Act.put,List.setIfInBounds_toArray,List.set_cons_zero,List.set_cons_succ,i64_w,i32_w]
     rfl
    refine pure_ (i := 10) (N := some 22) (v := undef) (a' := ?_) (mb 21 2047) rfl rfl (any_of HT_.out (by kernel_rfl)) (fun _ _ _ h => h) (Or.inr ⟨by rfl,rfl⟩) ?_ ?_
    rotate_left
    ·simp only [Act.put,List.setIfInBounds_toArray,List.set_cons_zero,List.set_cons_succ,i64_w,i32_w]
     rfl
    refine pure_ (i := 11) (N := some 23) (v := undef) (a' := ?_) (mb 21 4095) rfl rfl (any_of HT_.out (by kernel_rfl)) (fun _ _ _ h => h) (Or.inr ⟨by rfl,rfl⟩) ?_ ?_
    rotate_left
    ·simp only [Act.put,List.setIfInBounds_toArray,List.set_cons_zero,List.set_cons_succ,i64_w,i32_w]
     rfl
    refine pure_ (i := 12) (N := some 24) (v := undef) (a' := ?_) (mb 21 8191) rfl rfl (any_of HT_.out (by kernel_rfl)) (fun _ _ _ h => h) (Or.inr ⟨by rfl,rfl⟩) ?_ ?_
    rotate_left
    ·simp only [Act.put,List.setIfInBounds_toArray,List.set_cons_zero,List.set_cons_succ,i64_w,i32_w]
     rfl
    refine pure_ (i := 13) (N := some 25) (v := undef) (a' := ?_) (mb 21 16383) rfl rfl (any_of HT_.out (by kernel_rfl)) (fun _ _ _ h => h) (Or.inr ⟨by rfl,rfl⟩) ?_ ?_
    rotate_left
    ·simp only [Act.put,List.setIfInBounds_toArray,List.set_cons_zero,List.set_cons_succ,i64_w,i32_w]
     rfl
    refine pure_ (i := 14) (N := some 26) (v := undef) (a' := ?_) (mb 21 32767) rfl rfl (any_of HT_.out (by kernel_rfl)) (fun _ _ _ h => h) (Or.inr ⟨by rfl,rfl⟩) ?_ ?_
    rotate_left
    ·simp only [Act.put,List.setIfInBounds_toArray,List.set_cons_zero,List.set_cons_succ,i64_w,i32_w]
     rfl
    refine pure_ (i := 15) (N := some 27) (v := undef) (a' := ?_) (mb 21 65535) rfl rfl (any_of HT_.out (by kernel_rfl)) (fun _ _ _ h => h) (Or.inr ⟨by rfl,rfl⟩) ?_ ?_
    rotate_left
    ·simp only [Act.put,List.setIfInBounds_toArray,List.set_cons_zero,List.set_cons_succ,i64_w,i32_w]
     rfl
    refine pure_ (i := 16) (N := some 28) (v := undef) (a' := ?_) (mb 21 131071) rfl rfl (any_of HT_.out (by kernel_rfl)) (fun _ _ _ h => h) (Or.inr ⟨by rfl,rfl⟩) ?_ ?_
    rotate_left
    ·simp only [Act.put,List.setIfInBounds_toArray,List.set_cons_zero,List.set_cons_succ,i64_w,i32_w]
     rfl
    refine pure_ (i := 17) (N := some 29) (v := undef) (a' := ?_) (mb 21 262143) rfl rfl (any_of HT_.out (by kernel_rfl)) (fun _ _ _ h => h) (Or.inr ⟨by rfl,rfl⟩) ?_ ?_
    rotate_left
    ·simp only [Act.put,List.setIfInBounds_toArray,List.set_cons_zero,List.set_cons_succ,i64_w,i32_w]
     rfl
    refine pure_ (i := 18) (N := some 30) (v := undef) (a' := ?_) (mb 21 524287) rfl rfl (any_of HT_.out (by kernel_rfl)) (fun _ _ _ h => h) (Or.inr ⟨by rfl,rfl⟩) ?_ ?_
    rotate_left
    ·simp only [Act.put,List.setIfInBounds_toArray,List.set_cons_zero,List.set_cons_succ,i64_w,i32_w]
     rfl
    refine pure_ (i := 19) (N := some 31) (v := ?_) (a' := ?_) (mb 21 1048575) rfl rfl (any_of HT_.out (by kernel_rfl)) (fun _ _ _ h => h) (Or.inl ⟨by rfl,?_⟩) ?_ ?_
    rotate_left
    ·intro w'
     go_simp
     (try with_reducible rfl)
    rotate_left
    ·simp only [Act.put,List.setIfInBounds_toArray,List.set_cons_zero,List.set_cons_succ,i64_w,i32_w]
     rfl
    refine pure_ (i := 20) (N := some 32) (v := ?_) (a' := ?_) (mb 21 2097151) rfl rfl (any_of HT_.out (by kernel_rfl)) (fun _ _ _ h => h) (Or.inl ⟨by rfl,?_⟩) ?_ ?_
    rotate_left
    ·intro w'
     go_simp
     (try with_reducible rfl)
    rotate_left
    ·simp only [Act.put,List.setIfInBounds_toArray,List.set_cons_zero,List.set_cons_succ,i64_w,i32_w]
     rfl
    refine done_ (done_of HT_.out (by kernel_rfl)) ?_
    go_wp2
    go_roundg (l.length - 1)
    case measure => have := HGG.out;have := HLT.out;omega
    case rel => exact ⟨1,HLT.out,Nat.le_refl _,by first | rfl | rw [bw],⟨by
     have h1 := HA.out
     rw [HDR.out] at h1
     simp only [if_true] at h1
     rw [h1,risesFrom,HRE.out,Bool.true_and,if_neg (by decide),show l[1 - 1]? = some h from HLI.out]⟩,B2⟩
   | k + 1,HA,HB,bw,b2,p0,p1,hcc,y0,y1,y2,y3,y4,y5,y6,y7,HLT,HGG,HDR,HLI =>
    have hk : k < l.length := by have := HLT.out;omega
    obtain ⟨ad2,cs2,had,_,hK2,hcc2⟩ := Kd.C_get HR.out zH (k : Int) (by omega) (by omega)
    cases had
    obtain ⟨hp,hf2,hm2⟩ : ∃ hp,l.getD (k : Int).toNat zH = hp ∧ l[k] = hp := ⟨_,rfl,by rw [Int.toNat_natCast,List.getD_eq_getElem?_getD,List.getElem?_eq_getElem hk];rfl⟩
    rw [hf2] at hK2
    obtain ⟨a2,rfl,_⟩ := here_open hK2
    rw [Int.toNat_natCast] at hcc2
    have PV := Aside0.mk (here_at hcc2 HB1.out).1
    have HPL := Aside0.mk (show l[k]? = some hp by rw [List.getElem?_eq_getElem hk,hm2])
    have hkk : k ≤ 1000000 := by have := HL.out;omega
    have w1 : IntKind.i64.wrap (((k + 1 : Nat) : Int) - 1) = (k : Int) := by rw [IntWalk.i64_in _ (by omega)];omega
    have w2 : IntKind.i64.wrap ((k : Int) + 1 - 1) = (k : Int) := by rw [IntWalk.i64_in _ (by omega)];omega
    have w3 : IntKind.i64.wrap (k : Int) = (k : Int) := IntWalk.i64_in _ (by omega)
    have HW := Aside0.mk (show wrap64 ((k : Int) + 1 + 1) = ((k + 1 + 1 : Nat) : Int) by unfold wrap64;omega)
    have g0 : decide ((0 : Int) < ((k + 1 : Nat) : Int)) = true := decide_eq_true (by omega)
    have g1 : decide (0 < k + 1) = true := decide_eq_true (by omega)
    have g2 : decide ((0 : Int) < (k : Int) + 1) = true := decide_eq_true (by omega)
    have q0 : (0 : Int) ≤ (k : Int) := by omega
    have q1 : (k : Int) < (l.length : Int) := by omega
    obtain ⟨v,hv⟩ : ∃ v,Op.bytesLess hp.f0.f0.toList h.f0.f0.toList = v := ⟨_,rfl⟩
    have HVV := Aside0.mk (show lessN hp h = v from hv)
    clear hK2 hf2 hm2 hcc2 hk hkk
    cases v with
    | true =>
     refine start_ (n := 21) (S := fun w' => w'.cell? (ad.add (k * 8)) = some (.string hp.f0.f0) ∧ w'.cell? ⟨g,0,none⟩ = some (.string h.f0.f0) ∧ w'.cell? ⟨g,1,none⟩ = some (.string h.f0.f1) ∧ w'.cell? ⟨g,2,none⟩ = some (.slice a.A2 h.f0.f2.length a.c2) ∧ w'.cell? ⟨g,3,none⟩ = some (.slice a.A3 h.f0.f3.length a.c3) ∧ w'.cell? ⟨g,4,none⟩ = some (.slice a.A4 h.f0.f4.length a.c4) ∧ w'.cell? ⟨g,5,none⟩ = some (.slice a.A5 h.f0.f5.length a.c5)) (ds := []) (mb 21 0) (by kernel_rfl) rfl rfl ⟨PV.out,six_of XB.out⟩ (fun hHeld => ?_);refine with_tabW hright4.tab hright4.bits (fun HT_ HW_ => ?_)
     refine pure_ (i := 0) (N := some 12) (v := ?_) (a' := ?_) (mb 21 1) rfl rfl (any_of HT_.out (by kernel_rfl)) (fun _ _ _ h => h) (Or.inl ⟨by rfl,?_⟩) ?_ ?_
     rotate_left
     ·intro w'
      go_simp
      (try with_reducible rfl)
     rotate_left
     ·simp only [Act.put,List.setIfInBounds_toArray,List.set_cons_zero,List.set_cons_succ,i64_w,i32_w]
      rfl
     refine take_ (i := 1) (N := some 13) (v := ?_) (a' := ?_) (mb 21 3) rfl rfl (take_ofW HT_.out HW_.out (by kernel_rfl)) (fun _ _ _ h => h) (Or.inl ⟨by rfl,?_⟩) hHeld ?_ ?_
     rotate_left
     ·rintro w' ⟨s6,s0,s1,s2,s3,s4,s5⟩
      go_simp
      (try with_reducible rfl)
     rotate_left
     ·simp only [Act.put,List.setIfInBounds_toArray,List.set_cons_zero,List.set_cons_succ,i64_w,i32_w]
      rfl
     refine one_ (i := 2) (N := some 14) (mb 21 7) rfl rfl (one_of HT_.out (by kernel_rfl)) (by decide) (fun K hK => ?_)
     refine goes_ Tryz.func61 (by kernel_rfl) rfl #[.agg (ecs h.f0 a)] (by rfl) rfl rfl (by (try simp only [List.map_toArray,List.map_cons,List.map_nil]);first | done | rfl) ?_
     refine (HRI.out _ (below_drew (Below.refl _ _))).mono ?_
     rintro en w2 ⟨rfl,hb2⟩
     have X2 := Aside0.mk ((hb2.block g (Array.getElem?_eq_some_iff.1 XB.out).1).trans XB.out)
     have D2 := Aside0.mk (show Below W1.heap.size W1 w2 from (below_drew (Below.refl _ _)).trans hb2)
     have B2 := Aside0.mk (HB1.out.trans (D2.out.mono HB1.out.size))
     clear hb2
     refine ⟨_,rfl,?_⟩
     refine hK.out _ _ ⟨(D2.out.cell (World.block_lt_of_cell? _ _ PV.out)).trans PV.out,six_of X2.out⟩ (fun hHeld => ?_)
     clear hK K
     refine norm_ (a' := ?_) ?_ ?_
     rotate_left
     ·first | (show Act.put _ (some 14) _ = _;simp only [Act.put,List.setIfInBounds_toArray,List.set_cons_zero,List.set_cons_succ,i64_w,i32_w];rfl) | rfl
     refine pure_ (i := 3) (N := some 15) (v := ?_) (a' := ?_) (mb 21 15) rfl rfl (any_of HT_.out (by kernel_rfl)) (fun _ _ _ h => h) (Or.inl ⟨by rfl,?_⟩) ?_ ?_
     rotate_left
     ·intro w'
      go_simp
      (try with_reducible rfl)
     rotate_left
     ·simp only [Act.put,List.setIfInBounds_toArray,List.set_cons_zero,List.set_cons_succ,i64_w,i32_w]
      rfl
     refine pure_ (i := 4) (N := some 16) (v := ?_) (a' := ?_) (mb 21 31) rfl rfl (any_of HT_.out (by kernel_rfl)) (fun _ _ _ h => h) (Or.inl ⟨by rfl,?_⟩) ?_ ?_
     rotate_left
     ·intro w'
      go_simp
      (try with_reducible rfl)
     rotate_left
     ·simp only [Act.put,List.setIfInBounds_toArray,List.set_cons_zero,List.set_cons_succ,i64_w,i32_w]
      rfl
     refine pure_ (i := 5) (N := some 17) (v := ?_) (a' := ?_) (mb 21 63) rfl rfl (any_of HT_.out (by kernel_rfl)) (fun _ _ _ h => h) (Or.inl ⟨by rfl,?_⟩) ?_ ?_
     rotate_left
     ·intro w'
      go_simp
      (try with_reducible rfl)
     rotate_left
     ·simp only [Act.put,List.setIfInBounds_toArray,List.set_cons_zero,List.set_cons_succ,i64_w,i32_w]
      rfl
     refine pure_ (i := 6) (N := some 18) (v := ?_) (a' := ?_) (mb 21 127) rfl rfl (any_of HT_.out (by kernel_rfl)) (fun _ _ _ h => h) (Or.inl ⟨by rfl,?_⟩) ?_ ?_
     rotate_left
     ·intro w'
      go_simp
      (try with_reducible rfl)
     rotate_left
     ·simp only [Act.put,List.setIfInBounds_toArray,List.set_cons_zero,List.set_cons_succ,i64_w,i32_w]
      rfl
     refine pure_ (i := 7) (N := some 19) (v := ?_) (a' := ?_) (mb 21 255) rfl rfl (any_of HT_.out (by kernel_rfl)) (fun _ _ _ h => h) (Or.inl ⟨by rfl,?_⟩) ?_ ?_
     rotate_left
     ·intro w'
      go_simp
      (try with_reducible rfl)
     rotate_left
     ·simp only [Act.put,List.setIfInBounds_toArray,List.set_cons_zero,List.set_cons_succ,i64_w,i32_w]
      rfl
     refine pure_ (i := 8) (N := some 20) (v := ?_) (a' := ?_) (mb 21 511) rfl rfl (any_of HT_.out (by kernel_rfl)) (fun _ _ _ h => h) (Or.inl ⟨by rfl,?_⟩) ?_ ?_
     rotate_left
     ·intro w'
      go_simp
      (try with_reducible rfl)
     rotate_left
     ·simp only [Act.put,List.setIfInBounds_toArray,List.set_cons_zero,List.set_cons_succ,i64_w,i32_w]
      rfl
     refine pure_ (i := 9) (N := some 21) (v := ?_) (a' := ?_) (mb 21 1023) rfl rfl (any_of HT_.out (by kernel_rfl)) (fun _ _ _ h => h) (Or.inl ⟨by rfl,?_⟩) ?_ ?_
     rotate_left
     ·intro w'
      go_simp
      (try with_reducible rfl)
     rotate_left
     ·simp only [Act.put,List.setIfInBounds_toArray,List.set_cons_zero,List.set_cons_succ,i64_w,i32_w]
      rfl
     refine pure_ (i := 11) (N := some 23) (v := ?_) (a' := ?_) (mb 21 3071) rfl rfl (any_of HT_.out (by kernel_rfl)) (fun _ _ _ h => h) (Or.inl ⟨by rfl,?_⟩) ?_ ?_
     rotate_left
     ·intro w'
      go_simp
      (try with_reducible rfl)
     rotate_left
     ·simp only [Act.put,List.setIfInBounds_toArray,List.set_cons_zero,List.set_cons_succ,i64_w,i32_w]
      rfl
     refine pure_ (i := 12) (N := some 24) (v := ?_) (a' := ?_) (mb 21 7167) rfl rfl (any_of HT_.out (by kernel_rfl)) (fun _ _ _ h => h) (Or.inl ⟨by rfl,?_⟩) ?_ ?_
     rotate_left
     ·intro w'
      go_simp
      (try with_reducible rfl)
     rotate_left
     ·simp only [Act.put,List.setIfInBounds_toArray,List.set_cons_zero,List.set_cons_succ,i64_w,i32_w]
      rfl
     refine pure_ (i := 13) (N := some 25) (v := ?_) (a' := ?_) (mb 21 15359) rfl rfl (any_of HT_.out (by kernel_rfl)) (fun _ _ _ h => h) (Or.inl ⟨by rfl,?_⟩) ?_ ?_
     rotate_left
     ·intro w'
      go_simp
      (try with_reducible rfl)
     rotate_left
     ·simp only [Act.put,List.setIfInBounds_toArray,List.set_cons_zero,List.set_cons_succ,i64_w,i32_w]
      rfl
     refine take_ (i := 10) (N := some 22) (v := ?_) (a' := ?_) (mb 21 16383) rfl rfl (take_ofW HT_.out HW_.out (by kernel_rfl)) (fun _ _ _ h => h) (Or.inl ⟨by rfl,?_⟩) hHeld ?_ ?_
     rotate_left
     ·rintro w' ⟨s6,s0,s1,s2,s3,s4,s5⟩
      go_simp
      (try with_reducible rfl)
     rotate_left
     ·simp only [Act.put,List.setIfInBounds_toArray,List.set_cons_zero,List.set_cons_succ,i64_w,i32_w]
      rfl
     refine take_ (i := 14) (N := some 26) (v := ?_) (a' := ?_) (mb 21 32767) rfl rfl (take_ofW HT_.out HW_.out (by kernel_rfl)) (fun _ _ _ h => h) (Or.inl ⟨by rfl,?_⟩) hHeld ?_ ?_
     rotate_left
     ·rintro w' ⟨s6,s0,s1,s2,s3,s4,s5⟩
      go_simp
      (try with_reducible rfl)
     rotate_left
     ·simp only [Act.put,List.setIfInBounds_toArray,List.set_cons_zero,List.set_cons_succ,i64_w,i32_w]
      rfl
     refine pure_ (i := 15) (N := some 27) (v := ?_) (a' := ?_) (mb 21 65535) rfl rfl (any_of HT_.out (by kernel_rfl)) (fun _ _ _ h => h) (Or.inl ⟨by rfl,?_⟩) ?_ ?_
     rotate_left
     ·intro w'
      go_simp
      (try with_reducible rfl)
     rotate_left
     ·simp only [Act.put,List.setIfInBounds_toArray,List.set_cons_zero,List.set_cons_succ,i64_w,i32_w]
      rfl
     refine pure_ (i := 16) (N := some 28) (v := ?_) (a' := ?_) (mb 21 131071) rfl rfl (any_of HT_.out (by kernel_rfl)) (fun _ _ _ h => h) (Or.inl ⟨by rfl,?_⟩) ?_ ?_
     rotate_left
     ·intro w'
      go_simp
      (try with_reducible rfl)
     rotate_left
     ·simp only [Act.put,List.setIfInBounds_toArray,List.set_cons_zero,List.set_cons_succ,i64_w,i32_w]
      rfl
     refine take_ (i := 17) (N := some 29) (v := ?_) (a' := ?_) (mb 21 262143) rfl rfl (take_ofW HT_.out HW_.out (by kernel_rfl)) (fun _ _ _ h => h) (Or.inl ⟨by rfl,?_⟩) hHeld ?_ ?_
     rotate_left
     ·rintro w' ⟨s6,s0,s1,s2,s3,s4,s5⟩
      go_simp
      (try with_reducible rfl)
     rotate_left
     ·simp only [Act.put,List.setIfInBounds_toArray,List.set_cons_zero,List.set_cons_succ,i64_w,i32_w]
      rfl
     refine pure_ (i := 18) (N := some 30) (v := ?_) (a' := ?_) (mb 21 524287) rfl rfl (any_of HT_.out (by kernel_rfl)) (fun _ _ _ h => h) (Or.inl ⟨by rfl,?_⟩) ?_ ?_
     rotate_left
     ·intro w'
      go_simp
      (try with_reducible rfl)
     rotate_left
     ·simp only [Act.put,List.setIfInBounds_toArray,List.set_cons_zero,List.set_cons_succ,i64_w,i32_w]
      rfl
     refine pure_ (i := 19) (N := some 31) (v := ?_) (a' := ?_) (mb 21 1048575) rfl rfl (any_of HT_.out (by kernel_rfl)) (fun _ _ _ h => h) (Or.inl ⟨by rfl,?_⟩) ?_ ?_
     rotate_left
     ·intro w'
      go_simp
      (try with_reducible rfl)
     rotate_left
     ·simp only [Act.put,List.setIfInBounds_toArray,List.set_cons_zero,List.set_cons_succ,i64_w,i32_w]
      rfl
     refine pure_ (i := 20) (N := some 32) (v := ?_) (a' := ?_) (mb 21 2097151) rfl rfl (any_of HT_.out (by kernel_rfl)) (fun _ _ _ h => h) (Or.inl ⟨by rfl,?_⟩) ?_ ?_
     rotate_left
     ·intro w'
      go_simp
      (try with_reducible rfl)
     rotate_left
     ·simp only [Act.put,List.setIfInBounds_toArray,List.set_cons_zero,List.set_cons_succ,i64_w,i32_w]
      rfl
     refine done_ (done_of HT_.out (by kernel_rfl)) ?_
     go_wp2
     go_roundg (l.length - (k + 1 + 1))
     case measure => have h1 := HGG.out;have h2 := HLT.out;omega
     case rel => exact ⟨k + 1 + 1,HLT.out,Nat.le_refl _,by rw [HW.out],⟨by
      have h1 := HA.out
      rw [HDR.out,if_neg (by omega),show l[k + 1 - 1]? = some hp from HPL.out] at h1
      rw [h1,risesFrom,HRE.out,HVV.out,if_neg (by omega),show l[k + 1 + 1 - 1]? = some h from HLI.out]
      rfl⟩,B2⟩
    | false =>
     obtain rfl : r = false := by
      rw [← HRR.out];unfold rightH
      have h1 := HA.out
      rw [HDR.out,if_neg (by omega),show l[k + 1 - 1]? = some hp from HPL.out] at h1
      rw [h1,risesFrom,HVV.out,Bool.and_false]
      rfl
     refine start_ (n := 21) (S := fun w' => w'.cell? (ad.add (k * 8)) = some (.string hp.f0.f0) ∧ w'.cell? ⟨g,0,none⟩ = some (.string h.f0.f0) ∧ w'.cell? ⟨g,1,none⟩ = some (.string h.f0.f1) ∧ w'.cell? ⟨g,2,none⟩ = some (.slice a.A2 h.f0.f2.length a.c2) ∧ w'.cell? ⟨g,3,none⟩ = some (.slice a.A3 h.f0.f3.length a.c3) ∧ w'.cell? ⟨g,4,none⟩ = some (.slice a.A4 h.f0.f4.length a.c4) ∧ w'.cell? ⟨g,5,none⟩ = some (.slice a.A5 h.f0.f5.length a.c5)) (ds := []) (mb 21 0) (by kernel_rfl) rfl rfl ⟨PV.out,six_of XB.out⟩ (fun hHeld => ?_);refine with_tabW hright4.tab hright4.bits (fun HT_ HW_ => ?_)
     refine pure_ (i := 0) (N := some 12) (v := ?_) (a' := ?_) (mb 21 1) rfl rfl (any_of HT_.out (by kernel_rfl)) (fun _ _ _ h => h) (Or.inl ⟨by rfl,?_⟩) ?_ ?_
     rotate_left
     ·intro w'
      go_simp
      (try with_reducible rfl)
     rotate_left
     ·simp only [Act.put,List.setIfInBounds_toArray,List.set_cons_zero,List.set_cons_succ,i64_w,i32_w]
      rfl
     refine take_ (i := 1) (N := some 13) (v := ?_) (a' := ?_) (mb 21 3) rfl rfl (take_ofW HT_.out HW_.out (by kernel_rfl)) (fun _ _ _ h => h) (Or.inl ⟨by rfl,?_⟩) hHeld ?_ ?_
     rotate_left
     ·rintro w' ⟨s6,s0,s1,s2,s3,s4,s5⟩
      go_simp
      (try with_reducible rfl)
     rotate_left
     ·simp only [Act.put,List.setIfInBounds_toArray,List.set_cons_zero,List.set_cons_succ,i64_w,i32_w]
      rfl
     refine one_ (i := 2) (N := some 14) (mb 21 7) rfl rfl (one_of HT_.out (by kernel_rfl)) (by decide) (fun K hK => ?_)
     refine goes_ Tryz.func61 (by kernel_rfl) rfl #[.agg (ecs h.f0 a)] (by rfl) rfl rfl (by (try simp only [List.map_toArray,List.map_cons,List.map_nil]);first | done | rfl) ?_
     refine (HRI.out _ (below_drew (Below.refl _ _))).mono ?_
     rintro en w2 ⟨rfl,hb2⟩
     have X2 := Aside0.mk ((hb2.block g (Array.getElem?_eq_some_iff.1 XB.out).1).trans XB.out)
     have D2 := Aside0.mk (show Below W1.heap.size W1 w2 from (below_drew (Below.refl _ _)).trans hb2)
     have B2 := Aside0.mk (HB1.out.trans (D2.out.mono HB1.out.size))
     clear hb2
     refine ⟨_,rfl,?_⟩
     refine hK.out _ _ ⟨(D2.out.cell (World.block_lt_of_cell? _ _ PV.out)).trans PV.out,six_of X2.out⟩ (fun hHeld => ?_)
     clear hK K
     refine norm_ (a' := ?_) ?_ ?_
     rotate_left
     ·first | (show Act.put _ (some 14) _ = _;simp only [Act.put,List.setIfInBounds_toArray,List.set_cons_zero,List.set_cons_succ,i64_w,i32_w];rfl) | rfl
     refine pure_ (i := 3) (N := some 15) (v := ?_) (a' := ?_) (mb 21 15) rfl rfl (any_of HT_.out (by kernel_rfl)) (fun _ _ _ h => h) (Or.inl ⟨by rfl,?_⟩) ?_ ?_
     rotate_left
     ·intro w'
      go_simp
      (try with_reducible rfl)
     rotate_left
     ·simp only [Act.put,List.setIfInBounds_toArray,List.set_cons_zero,List.set_cons_succ,i64_w,i32_w]
      rfl
     refine pure_ (i := 4) (N := some 16) (v := ?_) (a' := ?_) (mb 21 31) rfl rfl (any_of HT_.out (by kernel_rfl)) (fun _ _ _ h => h) (Or.inl ⟨by rfl,?_⟩) ?_ ?_
     rotate_left
     ·intro w'
      go_simp
      (try with_reducible rfl)
     rotate_left
     ·simp only [Act.put,List.setIfInBounds_toArray,List.set_cons_zero,List.set_cons_succ,i64_w,i32_w]
      rfl
     refine pure_ (i := 5) (N := some 17) (v := ?_) (a' := ?_) (mb 21 63) rfl rfl (any_of HT_.out (by kernel_rfl)) (fun _ _ _ h => h) (Or.inl ⟨by rfl,?_⟩) ?_ ?_
     rotate_left
     ·intro w'
      go_simp
      (try with_reducible rfl)
     rotate_left
     ·simp only [Act.put,List.setIfInBounds_toArray,List.set_cons_zero,List.set_cons_succ,i64_w,i32_w]
      rfl
     refine pure_ (i := 6) (N := some 18) (v := ?_) (a' := ?_) (mb 21 127) rfl rfl (any_of HT_.out (by kernel_rfl)) (fun _ _ _ h => h) (Or.inl ⟨by rfl,?_⟩) ?_ ?_
     rotate_left
     ·intro w'
      go_simp
      (try with_reducible rfl)
     rotate_left
     ·simp only [Act.put,List.setIfInBounds_toArray,List.set_cons_zero,List.set_cons_succ,i64_w,i32_w]
      rfl
     refine pure_ (i := 7) (N := some 19) (v := ?_) (a' := ?_) (mb 21 255) rfl rfl (any_of HT_.out (by kernel_rfl)) (fun _ _ _ h => h) (Or.inl ⟨by rfl,?_⟩) ?_ ?_
     rotate_left
     ·intro w'
      go_simp
      (try with_reducible rfl)
     rotate_left
     ·simp only [Act.put,List.setIfInBounds_toArray,List.set_cons_zero,List.set_cons_succ,i64_w,i32_w]
      rfl
     refine pure_ (i := 8) (N := some 20) (v := ?_) (a' := ?_) (mb 21 511) rfl rfl (any_of HT_.out (by kernel_rfl)) (fun _ _ _ h => h) (Or.inl ⟨by rfl,?_⟩) ?_ ?_
     rotate_left
     ·intro w'
      go_simp
      (try with_reducible rfl)
     rotate_left
     ·simp only [Act.put,List.setIfInBounds_toArray,List.set_cons_zero,List.set_cons_succ,i64_w,i32_w]
      rfl
     refine pure_ (i := 9) (N := some 21) (v := ?_) (a' := ?_) (mb 21 1023) rfl rfl (any_of HT_.out (by kernel_rfl)) (fun _ _ _ h => h) (Or.inl ⟨by rfl,?_⟩) ?_ ?_
     rotate_left
     ·intro w'
      go_simp
      (try with_reducible rfl)
     rotate_left
     ·simp only [Act.put,List.setIfInBounds_toArray,List.set_cons_zero,List.set_cons_succ,i64_w,i32_w]
      rfl
     refine pure_ (i := 11) (N := some 23) (v := ?_) (a' := ?_) (mb 21 3071) rfl rfl (any_of HT_.out (by kernel_rfl)) (fun _ _ _ h => h) (Or.inl ⟨by rfl,?_⟩) ?_ ?_
     rotate_left
     ·intro w'
      go_simp
      (try with_reducible rfl)
     rotate_left
     ·simp only [Act.put,List.setIfInBounds_toArray,List.set_cons_zero,List.set_cons_succ,i64_w,i32_w]
      rfl
     refine pure_ (i := 12) (N := some 24) (v := ?_) (a' := ?_) (mb 21 7167) rfl rfl (any_of HT_.out (by kernel_rfl)) (fun _ _ _ h => h) (Or.inl ⟨by rfl,?_⟩) ?_ ?_
     rotate_left
     ·intro w'
      go_simp
      (try with_reducible rfl)
     rotate_left
     ·simp only [Act.put,List.setIfInBounds_toArray,List.set_cons_zero,List.set_cons_succ,i64_w,i32_w]
      rfl
     refine pure_ (i := 13) (N := some 25) (v := ?_) (a' := ?_) (mb 21 15359) rfl rfl (any_of HT_.out (by kernel_rfl)) (fun _ _ _ h => h) (Or.inl ⟨by rfl,?_⟩) ?_ ?_
     rotate_left
     ·intro w'
      go_simp
      (try with_reducible rfl)
     rotate_left
     ·simp only [Act.put,List.setIfInBounds_toArray,List.set_cons_zero,List.set_cons_succ,i64_w,i32_w]
      rfl
     refine take_ (i := 10) (N := some 22) (v := ?_) (a' := ?_) (mb 21 16383) rfl rfl (take_ofW HT_.out HW_.out (by kernel_rfl)) (fun _ _ _ h => h) (Or.inl ⟨by rfl,?_⟩) hHeld ?_ ?_
     rotate_left
     ·rintro w' ⟨s6,s0,s1,s2,s3,s4,s5⟩
      go_simp
      (try with_reducible rfl)
     rotate_left
     ·simp only [Act.put,List.setIfInBounds_toArray,List.set_cons_zero,List.set_cons_succ,i64_w,i32_w]
      rfl
     refine take_ (i := 14) (N := some 26) (v := ?_) (a' := ?_) (mb 21 32767) rfl rfl (take_ofW HT_.out HW_.out (by kernel_rfl)) (fun _ _ _ h => h) (Or.inl ⟨by rfl,?_⟩) hHeld ?_ ?_
     rotate_left
     ·rintro w' ⟨s6,s0,s1,s2,s3,s4,s5⟩
      go_simp
      (try with_reducible rfl)
     rotate_left
     ·simp only [Act.put,List.setIfInBounds_toArray,List.set_cons_zero,List.set_cons_succ,i64_w,i32_w]
      rfl
     refine pure_ (i := 15) (N := some 27) (v := ?_) (a' := ?_) (mb 21 65535) rfl rfl (any_of HT_.out (by kernel_rfl)) (fun _ _ _ h => h) (Or.inl ⟨by rfl,?_⟩) ?_ ?_
     rotate_left
     ·intro w'
      go_simp
      (try with_reducible rfl)
     rotate_left
     ·simp only [Act.put,List.setIfInBounds_toArray,List.set_cons_zero,List.set_cons_succ,i64_w,i32_w]
      rfl
     refine pure_ (i := 16) (N := some 28) (v := ?_) (a' := ?_) (mb 21 131071) rfl rfl (any_of HT_.out (by kernel_rfl)) (fun _ _ _ h => h) (Or.inl ⟨by rfl,?_⟩) ?_ ?_
     rotate_left
     ·intro w'
      go_simp
      (try with_reducible rfl)
     rotate_left
     ·simp only [Act.put,List.setIfInBounds_toArray,List.set_cons_zero,List.set_cons_succ,i64_w,i32_w]
      rfl
     refine take_ (i := 17) (N := some 29) (v := ?_) (a' := ?_) (mb 21 262143) rfl rfl (take_ofW HT_.out HW_.out (by kernel_rfl)) (fun _ _ _ h => h) (Or.inl ⟨by rfl,?_⟩) hHeld ?_ ?_
     rotate_left
     ·rintro w' ⟨s6,s0,s1,s2,s3,s4,s5⟩
      go_simp
      (try with_reducible rfl)
     rotate_left
     ·simp only [Act.put,List.setIfInBounds_toArray,List.set_cons_zero,List.set_cons_succ,i64_w,i32_w]
      rfl
     refine pure_ (i := 18) (N := some 30) (v := ?_) (a' := ?_) (mb 21 524287) rfl rfl (any_of HT_.out (by kernel_rfl)) (fun _ _ _ h => h) (Or.inl ⟨by rfl,?_⟩) ?_ ?_
     rotate_left
     ·intro w'
      go_simp
      (try with_reducible rfl)
     rotate_left
     ·simp only [Act.put,List.setIfInBounds_toArray,List.set_cons_zero,List.set_cons_succ,i64_w,i32_w]
      rfl
     refine pure_ (i := 19) (N := some 31) (v := ?_) (a' := ?_) (mb 21 1048575) rfl rfl (any_of HT_.out (by kernel_rfl)) (fun _ _ _ h => h) (Or.inl ⟨by rfl,?_⟩) ?_ ?_
     rotate_left
     ·intro w'
      go_simp
      (try with_reducible rfl)
     rotate_left
     ·simp only [Act.put,List.setIfInBounds_toArray,List.set_cons_zero,List.set_cons_succ,i64_w,i32_w]
      rfl
     refine pure_ (i := 20) (N := some 32) (v := ?_) (a' := ?_) (mb 21 2097151) rfl rfl (any_of HT_.out (by kernel_rfl)) (fun _ _ _ h => h) (Or.inl ⟨by rfl,?_⟩) ?_ ?_
     rotate_left
     ·intro w'
      go_simp
      (try with_reducible rfl)
     rotate_left
     ·simp only [Act.put,List.setIfInBounds_toArray,List.set_cons_zero,List.set_cons_succ,i64_w,i32_w]
      rfl
     refine done_ (done_of HT_.out (by kernel_rfl)) ?_
     go_wp2
     go_ret
     exact ⟨rfl,B2.out⟩
  ·have b2 : decide ((i : Int) < (l.length : Int)) = false := decide_eq_false (by omega)
   obtain rfl : i = l.length := by omega
   have hA := HA.out
   rw [List.drop_length] at hA
   have hA : risesFrom none l = true := by rw [hA];split <;> (cases l[l.length - 1]? <;> rfl)
   have hR := HRR.out
   unfold rightH at hR
   rw [hA,Bool.true_and] at hR
   by_cases h4 : l.length ≤ 64
   ·rw [decide_eq_true h4] at hR
    subst hR
    have d2 : decide ((l.length : Int) ≤ 64) = true := decide_eq_true (by omega)
    have d3 : decide (l.length ≤ 64) = true := decide_eq_true h4
    clear hA h4
    go_wp2
    go_ret
    exact ⟨rfl,HB.out⟩
   ·rw [decide_eq_false h4] at hR
    subst hR
    have d2 : decide ((l.length : Int) ≤ 64) = false := decide_eq_false (by omega)
    have d3 : decide (l.length ≤ 64) = false := decide_eq_false h4
    clear hA h4
    go_wp2
    go_ret
    exact ⟨rfl,HB.out⟩
end Go.Proofs.YtiidmjmkgjfaeaaGreatDoor.Ent

