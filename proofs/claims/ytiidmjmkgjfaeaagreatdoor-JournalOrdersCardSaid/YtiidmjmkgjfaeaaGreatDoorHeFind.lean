import Derived.Test.YtiidmjmkgjfaeaaGreatDoorHeIdx
import Derived.Test.YtiidmjmkgjfaeaaGreatDoorEntRight
namespace Go.Proofs.YtiidmjmkgjfaeaaGreatDoor.Ent
open Go Go.RowKit Go.Shelf Go.Proofs.YtiidmjmkgjfaeaaGreatDoorW.PrintWords Go.Proofs.YtiidmjmkgjfaeaaGreatDoor.PA Go.Proofs.YtiidmjmkgjfaeaaGreatDoor.Pure
set_option linter.unusedVariables false
set_option linter.unusedSimpArgs false
abbrev KH : Kd S39 := k39
abbrev H8 := S39
abbrev hcs (h : H8) (a : EA) : Array Value := #[.string h.f0.f0,.string h.f0.f1,.slice a.A2 h.f0.f2.length a.c2,.slice a.A3 h.f0.f3.length a.c3,.slice a.A4 h.f0.f4.length a.c4,.slice a.A5 h.f0.f5.length a.c5,.bool h.f1,.bool h.f2]
theorem here_open {W : World} {h : H8} {cs : List Value} (hK : KH.K W h cs) : ∃ a : EA,cs = (hcs h a).toList ∧ EC W h.f0 a := by
  obtain ⟨A2,c2,A3,c3,A4,c4,A5,c5,rfl,g⟩ := k39_open hK
  obtain ⟨l2,r2,l3,r3,l4,r4,l5,r5⟩ := g
  exact ⟨⟨A2,c2,A3,c3,A4,c4,A5,c5⟩,rfl,⟨r2,l2,r3,l3,r4,l4,r5,l5⟩⟩
theorem here_mk {W : World} {h : H8} {a : EA} (e : EC W h.f0 a) : KH.K W h (hcs h a).toList := k39_mk W h e.k2 e.r2 e.k3 e.r3 e.k4 e.r4 e.k5 e.r5
theorem hcs_cells {W : World} {D : Nat} {T : TypeId} {h : H8} {a : EA} (hb : W.heap[D]? = some (.cells (hcs h a) T (0,0))) :
    W.cell? ⟨D,0,none⟩ = some (.string h.f0.f0) ∧ W.cell? ⟨D,1,none⟩ = some (.string h.f0.f1) ∧ W.cell? ⟨D,2,none⟩ = some (.slice a.A2 h.f0.f2.length a.c2) ∧ W.cell? ⟨D,3,none⟩ = some (.slice a.A3 h.f0.f3.length a.c3) ∧ W.cell? ⟨D,4,none⟩ = some (.slice a.A4 h.f0.f4.length a.c4) ∧ W.cell? ⟨D,5,none⟩ = some (.slice a.A5 h.f0.f5.length a.c5) ∧ W.cell? ⟨D,6,none⟩ = some (.bool h.f1) ∧ W.cell? ⟨D,7,none⟩ = some (.bool h.f2) := by
  refine ⟨?_,?_,?_,?_,?_,?_,?_,?_⟩ <;> simp [World.cell?,hb]
def isName (n : ByteArray) (h : H8) : Bool := h.f0.f0.toList == n.toList
set_option maxHeartbeats 1000000 in
set_option maxRecDepth 100000 in
theorem place1_pred {w : World} (n : ByteArray) (D : Nat) (hD : w.cell? ⟨D,0,none⟩ = some (.string n)) (l : List H8) : PredP KH (isName n) 57 #[.pointer (some ⟨D,0,none⟩)] w l := by
  intro W x cs hb hm hK
  obtain ⟨a,rfl,_⟩ := here_open hK
  have gD := (hb.cell (World.block_lt_of_cell? _ _ hD)).trans hD
  have hDW : D < W.heap.size := World.block_lt_of_cell? _ _ gD
  have hne : D ≠ W.heap.size := by omega
  have HB := Aside0.mk hb
  unfold isName
  obtain ⟨r,hr⟩ : ∃ r,(x.f0.f0.toList == n.toList) = r := ⟨_,rfl⟩
  rw [hr]
  clear hK hD hm hb
  show Calls Tryz.prog 57 #[.agg (hcs x a),.pointer (some ⟨D,0,none⟩)] W _
  go_enter Tryz.func57,Tryz.ntmps57
  go_wp2
  go_ret
  exact ⟨rfl,qab HB.out _⟩
set_option maxHeartbeats 1000000 in
set_option maxRecDepth 100000 in
theorem hplace_calls {w : World} (A : Option Addr) (c : Nat) (l : List H8) (n : ByteArray) (hr : KH.C w A l.length l) (hl : l.length < 1000000000000) :
    Calls Tryz.prog 28 #[.slice A l.length c,.string n] w fun e w' => e = .returned (.int .i64 (idxP (isName n) l 0)) ∧ Below w.heap.size w w' := by
  obtain ⟨W,hW⟩ : ∃ W,w.alloc (.cells #[.string n] 9) = W := ⟨_,rfl⟩
  have hb : Below w.heap.size w W := by rw [← hW];exact qab (Below.refl _ _) _
  have hD : W.cell? ⟨w.heap.size,0,none⟩ = some (.string n) := by rw [← hW,World.cell?_alloc_new];rfl
  have HI := Aside0.mk (indexHere (isName n) 57 #[.pointer (some ⟨w.heap.size,0,none⟩)] (enters_of Tryz.func57 (by kernel_rfl) rfl) W A c l (place1_pred n w.heap.size hD l) (Kd.C_below hr hb) hl)
  have HB := Aside0.mk hb
  clear hr hl hb hD
  go_enter Tryz.func28,Tryz.ntmps28
  go_wp2_with (go_at_call 32;go_loud (refine HI.out.mono ?_);rintro e w' ⟨rfl,hb'⟩)
  go_ret
  exact ⟨rfl,HB.out.trans (hb'.mono HB.out.size)⟩
theorem h_thaw {W : World} {D : Nat} {cs : Array Value} {T : TypeId} (h : W.heap[D]? = some (.cells cs T (0,0))) (i : Nat) : W.frozen? ⟨D,i,none⟩ = false := by
  simp [World.frozen?,h]
theorem h_set {W : World} {D : Nat} {T : TypeId} {cs : Array Value} (h : W.heap[D]? = some (.cells cs T (0,0))) (i : Nat) (v : Value) : (W.setCell ⟨D,i,none⟩ v).heap[D]? = some (.cells (cs.setIfInBounds i v) T (0,0)) := by
  simp [World.setCell,Array.getElem?_modify,h]
abbrev hputs (W : World) (D : Nat) (h : H8) (a : EA) : World := (((((((W.setCell ⟨D,0,none⟩ (.string h.f0.f0)).setCell ⟨D,1,none⟩ (.string h.f0.f1)).setCell ⟨D,2,none⟩ (.slice a.A2 h.f0.f2.length a.c2)).setCell ⟨D,3,none⟩ (.slice a.A3 h.f0.f3.length a.c3)).setCell ⟨D,4,none⟩ (.slice a.A4 h.f0.f4.length a.c4)).setCell ⟨D,5,none⟩ (.slice a.A5 h.f0.f5.length a.c5)).setCell ⟨D,6,none⟩ (.bool h.f1)).setCell ⟨D,7,none⟩ (.bool h.f2)
theorem hputs_at {W : World} {D : Nat} {h0 h : H8} {a0 a : EA} {T : TypeId} (g : W.heap[D]? = some (.cells (hcs h0 a0) T (0,0))) : (hputs W D h a).heap[D]? = some (.cells (hcs h a) T (0,0)) := by
  have := h_set (h_set (h_set (h_set (h_set (h_set (h_set (h_set g 0 (.string h.f0.f0)) 1 (.string h.f0.f1)) 2 (.slice a.A2 h.f0.f2.length a.c2)) 3 (.slice a.A3 h.f0.f3.length a.c3)) 4 (.slice a.A4 h.f0.f4.length a.c4)) 5 (.slice a.A5 h.f0.f5.length a.c5)) 6 (.bool h.f1)) 7 (.bool h.f2)
  simp only [List.setIfInBounds_toArray,List.set_cons_zero,List.set_cons_succ] at this
  exact this
theorem set_below {B : Nat} {w W : World} {D : Nat} (g : Below B w W) (hD : B ≤ D) (i : Nat) (v : Value) : Below B w (W.setCell ⟨D,i,none⟩ v) := g.setCell hD v
theorem hputs_below {B : Nat} {w W : World} {D : Nat} {h : H8} {a : EA} (g : Below B w W) (hD : B ≤ D) : Below B w (hputs W D h a) :=
  set_below (set_below (set_below (set_below (set_below (set_below (set_below (set_below g hD 0 _) hD 1 _) hD 2 _) hD 3 _) hD 4 _) hD 5 _) hD 6 _) hD 7 _
theorem here_at {w W : World} {ad : Addr} {j : Nat} {h : H8} {a : EA} (hc : ∀ i u,(hcs h a).toList[i]? = some u → w.cell? (ad.add (j * KH.sz + i)) = some u) (hb : Below w.heap.size w W) :
    W.cell? (ad.add (j * 8)) = some (.string h.f0.f0) ∧ W.cell? ⟨(ad.add (j * 8)).block,(ad.add (j * 8)).off + 1,none⟩ = some (.string h.f0.f1) ∧ W.cell? ⟨(ad.add (j * 8)).block,(ad.add (j * 8)).off + 2,none⟩ = some (.slice a.A2 h.f0.f2.length a.c2) ∧ W.cell? ⟨(ad.add (j * 8)).block,(ad.add (j * 8)).off + 3,none⟩ = some (.slice a.A3 h.f0.f3.length a.c3) ∧ W.cell? ⟨(ad.add (j * 8)).block,(ad.add (j * 8)).off + 4,none⟩ = some (.slice a.A4 h.f0.f4.length a.c4) ∧ W.cell? ⟨(ad.add (j * 8)).block,(ad.add (j * 8)).off + 5,none⟩ = some (.slice a.A5 h.f0.f5.length a.c5) ∧ W.cell? ⟨(ad.add (j * 8)).block,(ad.add (j * 8)).off + 6,none⟩ = some (.bool h.f1) ∧ W.cell? ⟨(ad.add (j * 8)).block,(ad.add (j * 8)).off + 7,none⟩ = some (.bool h.f2) := by
  have g : ∀ i u,(hcs h a).toList[i]? = some u → W.cell? (ad.add (j * 8 + i)) = some u := fun i u hu => (hb.cell (World.block_lt_of_cell? _ _ (hc i u hu))).trans (hc i u hu)
  refine ⟨g 0 _ rfl,?_,?_,?_,?_,?_,?_,?_⟩
  · rw [← add_field _ _ 1 (by omega)];exact g 1 _ rfl
  · rw [← add_field _ _ 2 (by omega)];exact g 2 _ rfl
  · rw [← add_field _ _ 3 (by omega)];exact g 3 _ rfl
  · rw [← add_field _ _ 4 (by omega)];exact g 4 _ rfl
  · rw [← add_field _ _ 5 (by omega)];exact g 5 _ rfl
  · rw [← add_field _ _ 6 (by omega)];exact g 6 _ rfl
  · rw [← add_field _ _ 7 (by omega)];exact g 7 _ rfl
def findH (l : List H8) (n : ByteArray) : Option H8 := l.find? (isName n)
theorem idxP_find {α : Type} (p : α → Bool) : ∀ (l : List α) (i : Nat),(l.find? p = none ∧ idxP p l i = -1) ∨ ∃ (j : Nat) (x : α),l[j]? = some x ∧ l.find? p = some x ∧ idxP p l i = ((i + j : Nat) : Int)
  | [],i => .inl ⟨rfl,rfl⟩
  | x :: r,i => by
    rw [List.find?_cons,idxP]
    cases h : p x with
    | true => exact .inr ⟨0,x,rfl,rfl,by rw [if_pos rfl];rfl⟩
    | false =>
      rw [if_neg (by decide)]
      rcases idxP_find p r (i + 1) with h | ⟨j,y,h1,h2,h3⟩
      · exact .inl h
      · exact .inr ⟨j + 1,y,h1,h2,by rw [h3];congr 1;omega⟩
def zH : H8 := z39
def aZ : EA := ⟨none,0,none,0,none,0,none,0⟩
abbrev zcs : Array Value := #[.string ⟨#[]⟩,.string ⟨#[]⟩,.slice none 0 0,.slice none 0 0,.slice none 0 0,.slice none 0 0,.bool false,.bool false]
set_option maxHeartbeats 1000000 in
set_option maxRecDepth 100000 in
theorem find_no {w : World} (A : Option Addr) (c : Nat) (l : List H8) (n : ByteArray) (hr : KH.C w A l.length l) (hl : l.length < 1000000000000) (hf : findH l n = none) :
    Calls Tryz.prog 13 #[.slice A l.length c,.string n] w fun e w' => e = .returned (.tuple #[.agg (hcs zH aZ),.bool false]) ∧ Below w.heap.size w w' := by
  obtain ⟨W,hW⟩ : ∃ W,w.alloc (.cells zcs 39) = W := ⟨_,rfl⟩
  have hb : Below w.heap.size w W := by rw [← hW];exact qab (Below.refl _ _) _
  have hz : W.heap[w.heap.size]? = some (.cells (hcs zH aZ) 39 (0,0)) := by rw [← hW];exact World.alloc_heap_new _ _
  have hP := hplace_calls A c l n (Kd.C_below hr hb) hl
  have hi : idxP (isName n) l 0 = -1 := by
    rcases idxP_find (isName n) l 0 with h | ⟨j,x,_,h,_⟩
    · exact h.2
    · unfold findH at hf;rw [hf] at h;cases h
  rw [hi] at hP
  have HP := Aside0.mk hP
  have HB := Aside0.mk hb
  have HZ := Aside0.mk hz
  clear hr hl hf hb hz hP hi
  go_enter Tryz.func13,Tryz.ntmps13
  go_wp2_with (go_at_call 28;refine HP.out.mono ?_;rintro e w1 ⟨rfl,hb1⟩;have hz1 := (hb1.block _ (Array.getElem?_eq_some_iff.1 HZ.out).1).trans HZ.out;obtain ⟨x0,x1,x2,x3,x4,x5,x6,x7⟩ := hcs_cells hz1;have f0 := h_thaw hz1 0;have f1 := h_thaw hz1 1;have f2 := h_thaw hz1 2;have f3 := h_thaw hz1 3;have f4 := h_thaw hz1 4;have f5 := h_thaw hz1 5;have f6 := h_thaw hz1 6;have f7 := h_thaw hz1 7;have HB1 := Aside0.mk hb1;have HZ1 := Aside0.mk hz1;clear hb1 hz1)
  have hq := hputs_at (h := zH) (a := aZ) (h0 := zH) (a0 := aZ) HZ1.out
  have hbq := hputs_below (h := zH) (a := aZ) (HB.out.trans (HB1.out.mono HB.out.size)) (Nat.le_refl w.heap.size)
  exact bodyPost_ret (results_ct rfl _ _ w.heap.size 39 (hcs zH aZ) (0,0) _ rfl hq Tryz.underlying39 rfl (by kernel_rfl)) rfl ⟨rfl,hbq⟩
set_option maxHeartbeats 1000000 in
set_option maxRecDepth 100000 in
theorem find_yes {w : World} (A : Option Addr) (c : Nat) (l : List H8) (n : ByteArray) (x : H8) (hr : KH.C w A l.length l) (hl : l.length < 1000000000000) (hf : findH l n = some x) :
    Calls Tryz.prog 13 #[.slice A l.length c,.string n] w fun e w' => ∃ a : EA,e = .returned (.tuple #[.agg (hcs x a),.bool true]) ∧ EC w x.f0 a ∧ Below w.heap.size w w' := by
  obtain ⟨W,hW⟩ : ∃ W,w.alloc (.cells zcs 39) = W := ⟨_,rfl⟩
  have hb : Below w.heap.size w W := by rw [← hW];exact qab (Below.refl _ _) _
  have hz : W.heap[w.heap.size]? = some (.cells (hcs zH aZ) 39 (0,0)) := by rw [← hW];exact World.alloc_heap_new _ _
  have hP := hplace_calls A c l n (Kd.C_below hr hb) hl
  obtain ⟨j,y,hj,hy,hi⟩ : ∃ (j : Nat) (y : H8),l[j]? = some y ∧ y = x ∧ idxP (isName n) l 0 = (j : Int) := by
    rcases idxP_find (isName n) l 0 with h | ⟨j,y,h1,h2,h3⟩
    · unfold findH at hf;rw [hf] at h;cases h.1
    · refine ⟨j,y,h1,?_,by rw [h3];congr 1;omega⟩
      unfold findH at hf
      rw [hf] at h2
      exact (Option.some.inj h2).symm
  subst hy
  obtain ⟨hjl,hje⟩ := List.getElem?_eq_some_iff.1 hj
  rw [hi] at hP
  have p0 : (0 : Int) ≤ (j : Int) := by omega
  have p1 : (j : Int) < (l.length : Int) := by omega
  obtain ⟨ad,cs,rfl,hcl,hK,hc⟩ := Kd.C_get hr zH (j : Int) p0 p1
  rw [show l.getD (j : Int).toNat zH = y by rw [Int.toNat_natCast,List.getD_eq_getElem?_getD,hj];rfl] at hK
  obtain ⟨a,rfl,ha⟩ := here_open hK
  have b1 : decide ((j : Int) < 0) = false := decide_eq_false (by omega)
  have b2 : decide ((j : Int) < (l.length : Int)) = true := decide_eq_true p1
  rw [Int.toNat_natCast] at hc
  have HP := Aside0.mk hP
  have HB := Aside0.mk hb
  have HZ := Aside0.mk hz
  have HC := Aside0.mk hc
  have HA := Aside0.mk ha
  clear hr hl hf hb hz hP hi hc ha hK hj hje
  go_enter Tryz.func13,Tryz.ntmps13
  go_wp2_with (go_at_call 28;refine HP.out.mono ?_;rintro e w1 ⟨rfl,hb1⟩;have hz1 := (hb1.block _ (Array.getElem?_eq_some_iff.1 HZ.out).1).trans HZ.out;obtain ⟨x0,x1,x2,x3,x4,x5,x6,x7⟩ := hcs_cells hz1;have f0 := h_thaw hz1 0;have f1 := h_thaw hz1 1;have f2 := h_thaw hz1 2;have f3 := h_thaw hz1 3;have f4 := h_thaw hz1 4;have f5 := h_thaw hz1 5;have f6 := h_thaw hz1 6;have f7 := h_thaw hz1 7;have HB1 := Aside0.mk hb1;have HZ1 := Aside0.mk hz1;have hbw := HB.out.trans (hb1.mono HB.out.size);obtain ⟨y0,y1,y2,y3,y4,y5,y6,y7⟩ := here_at HC.out hbw;clear hb1 hz1 hbw)
  have hq := hputs_at (h := y) (a := a) (h0 := zH) (a0 := aZ) HZ1.out
  have hbq := hputs_below (h := y) (a := a) (HB.out.trans (HB1.out.mono HB.out.size)) (Nat.le_refl w.heap.size)
  exact bodyPost_ret (results_ct rfl _ _ w.heap.size 39 (hcs y a) (0,0) _ rfl hq Tryz.underlying39 rfl (by kernel_rfl)) rfl ⟨a,rfl,HA.out,hbq⟩
end Go.Proofs.YtiidmjmkgjfaeaaGreatDoor.Ent
