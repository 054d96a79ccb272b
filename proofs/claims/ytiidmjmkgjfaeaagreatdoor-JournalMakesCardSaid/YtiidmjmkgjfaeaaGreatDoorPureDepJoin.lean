import Derived.Test.YtiidmjmkgjfaeaaGreatDoorPureRelParse
import Derived.Lib.IndexMore
import Derived.Lib.TrimByte
import Derived.Test.YtiidmjmkgjfaeaaGreatDoorPAx6
namespace Go.Proofs.YtiidmjmkgjfaeaaGreatDoor.Dep
open Go
abbrev Bs := List UInt8
def splitB (c : UInt8) : Bs → List Bs
 | [] => [[]]
 | x :: r => if x = c then [] :: splitB c r else match splitB c r with
  | [] => [[x]]
  | p :: ps => (x :: p) :: ps
def trimS (x : Bs) : Bs := Lib.trimB x 32
def pcs (c : UInt8) (s : Bs) : List Bs := (splitB c s).map trimS
end Go.Proofs.YtiidmjmkgjfaeaaGreatDoor.Dep

namespace Go.Proofs.YtiidmjmkgjfaeaaGreatDoor.Pure
open Go.RowKit Go.Proofs.YtiidmjmkgjfaeaaGreatDoor.PA Go.Proofs.YtiidmjmkgjfaeaaGreatDoorW.PrintWords Go.Proofs.YtiidmjmkgjfaeaaGreatDoorW.PrintLast Go.Proofs.YtiidmjmkgjfaeaaGreatDoorW.PrintMore
open Dep (pcs splitB trimS)
abbrev S3 := PA.S46
end Go.Proofs.YtiidmjmkgjfaeaaGreatDoor.Pure

namespace Go.Proofs.YtiidmjmkgjfaeaaGreatDoor.Pure
open Go.RowKit Go.Proofs.YtiidmjmkgjfaeaaGreatDoor.PA Go.Proofs.YtiidmjmkgjfaeaaGreatDoorW.PrintWords Go.Proofs.YtiidmjmkgjfaeaaGreatDoorW.PrintLast Go.Proofs.YtiidmjmkgjfaeaaGreatDoorW.PrintMore
def bs (b : ByteArray) : Bs := b.data.toList
theorem mk_bs (b : ByteArray) : mk (bs b) = b := mk_data b
theorem bs_len (b : ByteArray) : (bs b).length = b.size := by unfold bs;simp
def smS (x : S3) : Prop := x.f0.size ≤ 2000 ∧ x.f2.size ≤ 2000
def rightS (x : S3) : Bool := rightA (bs x.f0) x.f1 (bs x.f2)
def printS (x : S3) : Bs := printA (bs x.f0) x.f1 (bs x.f2)
def rightG (g : List S3) : Bool := decide (1 ≤ g.length) && decide (g.length ≤ 6) && g.all rightS
def rightL (l : List (List S3)) : Bool := l.all rightG && decide (l.length ≤ 12)
theorem RightS_f (x : S3) (h : smS x) : Ev (fun k => relation_Right.f k x.f0 x.f1 x.f2) (rightS x) := by
 have := Right_A (bs x.f0) x.f1 (bs x.f2) (by rw [bs_len];have := h.1;omega)
 rwa [mk_bs,mk_bs] at this
theorem PrintS_f (x : S3) (h : smS x) : Ev (fun k => relation_Print.f k x.f0 x.f1 x.f2) (mk (printS x)) := by
 have := Print_A (bs x.f0) x.f1 (bs x.f2) (by rw [bs_len];have := h.1;omega) (by rw [bs_len];have := h.2;omega)
 rwa [mk_bs,mk_bs] at this
theorem rdT (l : List S3) (i : Nat) (hi : i < l.length) : rd_T46 l (i : Int) = l[i] := by
 unfold rd_T46
 rw [Int.toNat_natCast,List.getD_eq_getElem?_getD,List.getElem?_eq_getElem hi]
 rfl
theorem rdL (l : List (List S3)) (i : Nat) (hi : i < l.length) : rd_L4 l (i : Int) = l[i] := by
 unfold rd_L4
 rw [Int.toNat_natCast,List.getD_eq_getElem?_getD,List.getElem?_eq_getElem hi]
 rfl
theorem idx64_f (g : List S3) (hl : g.length < 1000000) (hs : ∀ x ∈ g,smS x) : ∀ (n i : Nat),n + i = g.length → ∃ r,Ev (fun k => api_Atom_67_109.l0 k g (g.length : Int) (i : Int)) r ∧ decide (r ≥ 0) = (g.drop i).any (fun x => !rightS x)
 | 0,i,h => by
  refine ⟨-1,Ev.shift ?_,?_⟩
  ·simp only [api_Atom_67_109.l0]
   exact Ev.neg (by omega) (Ev.some_ _)
  ·rw [List.drop_of_length_le (by omega)];rfl
 | n + 1,i,h => by
  have hi : i < g.length := by omega
  rw [List.drop_eq_getElem_cons hi,List.any_cons]
  have e : Ev (fun k => depends_Right_1.f k g[i].f0 g[i].f1 g[i].f2) (!rightS g[i]) := by
   simp only [depends_Right_1.f]
   exact Ev.bind (RightS_f _ (hs _ (List.getElem_mem hi))) (Ev.some_ _)
  cases hb : rightS g[i] with
  | false =>
   rw [hb] at e
   refine ⟨i,Ev.shift ?_,by simp⟩
   simp only [api_Atom_67_109.l0,rdT g i hi]
   exact Ev.pos (by omega) (Ev.pos (by omega) (Ev.pos (by omega) (Ev.bind e (Ev.pos rfl (Ev.some_ _)))))
  | true =>
   rw [hb] at e
   obtain ⟨r,h1,h2⟩ := idx64_f g hl hs n (i + 1) (by omega)
   refine ⟨r,Ev.shift ?_,by rw [h2];rfl⟩
   simp only [api_Atom_67_109.l0,rdT g i hi]
   refine Ev.pos (by omega) (Ev.pos (by omega) (Ev.pos (by omega) (Ev.bind e (Ev.neg (by simp) ?_))))
   rw [wrap_succ i (by omega)]
   exact h1
theorem any37_f (g : List S3) (hl : g.length < 1000000) (hs : ∀ x ∈ g,smS x) : Ev (fun k => api_Atom_47_109.f k g 0) (!g.all rightS) := by
 obtain ⟨r,h1,h2⟩ := idx64_f g hl hs g.length 0 (by omega)
 simp only [api_Atom_47_109.f,api_Atom_67_109.f]
 refine Ev.bind h1 (Ev.eq_ ?_)
 rw [h2,List.drop_zero,List.not_all_eq_any_not]
theorem DRight_l0 (l : List (List S3)) (hl : l.length < 1000000) (hg : ∀ g ∈ l,g.length < 1000000) (hs : ∀ g ∈ l,∀ x ∈ g,smS x) : ∀ (n i : Nat),n + i = l.length → Ev (fun k => depends_Right.l0 k l l (l.length : Int) (i : Int)) ((l.drop i).all rightG && decide (l.length ≤ 12))
 | 0,i,h => by
  refine Ev.shift ?_
  simp only [depends_Right.l0]
  rw [List.drop_of_length_le (by omega)]
  refine Ev.neg (by omega) (Ev.eq_ ?_)
  simp only [List.all_nil,Bool.true_and,decide_eq_decide]
  omega
 | n + 1,i,h => by
  have hi : i < l.length := by omega
  rw [List.drop_eq_getElem_cons hi,List.all_cons]
  have hm := List.getElem_mem hi
  refine Ev.shift ?_
  simp only [depends_Right.l0,rdL l i hi]
  refine Ev.pos (by omega) (Ev.pos (by omega) (Ev.pos (by omega) ?_))
  by_cases h0 : (l[i].length : Int) = 0
  ·have hr : rightG l[i] = false := by unfold rightG;rw [decide_eq_false (by omega)];rfl
   rw [hr]
   exact Ev.pos h0 (Ev.some_ _)
  ·refine Ev.neg h0 ?_
   by_cases h6 : (l[i].length : Int) > 6
   ·have hr : rightG l[i] = false := by unfold rightG;rw [decide_eq_false (show ¬ l[i].length ≤ 6 by omega),Bool.and_false];rfl
    rw [hr]
    exact Ev.pos h6 (Ev.some_ _)
   ·refine Ev.neg h6 (Ev.bind (any37_f _ (hg _ hm) (hs _ hm)) ?_)
    have hr : rightG l[i] = l[i].all rightS := by unfold rightG;rw [decide_eq_true (by omega),decide_eq_true (by omega)];rfl
    rw [hr]
    cases l[i].all rightS with
    | false => exact Ev.pos rfl (Ev.some_ _)
    | true =>
     refine Ev.neg (by simp) ?_
     rw [wrap_succ i (by omega),Bool.true_and]
     exact DRight_l0 l hl hg hs n (i + 1) (by omega)
theorem DRight_f (l : List (List S3)) (hl : l.length < 1000000) (hg : ∀ g ∈ l,g.length < 1000000) (hs : ∀ g ∈ l,∀ x ∈ g,smS x) : Ev (fun k => depends_Right.f k l) (rightL l) := by
 have := DRight_l0 l hl hg hs l.length 0 (by omega)
 simpa [depends_Right.f,rightL] using this
end Go.Proofs.YtiidmjmkgjfaeaaGreatDoor.Pure

namespace Go.Proofs.YtiidmjmkgjfaeaaGreatDoor.Pure
open Go.RowKit Go.Proofs.YtiidmjmkgjfaeaaGreatDoor.PA Go.Proofs.YtiidmjmkgjfaeaaGreatDoorW.PrintWords Go.Proofs.YtiidmjmkgjfaeaaGreatDoorW.PrintLast Go.Proofs.YtiidmjmkgjfaeaaGreatDoorW.PrintMore
open Go.Lib (join joinTail)
def textG (g : List S3) : Bs := join (g.map printS) [32,124,32]
def textL (l : List (List S3)) : Bs := join (l.map textG) [44,32]
theorem join_f (ps : List Bs) (sep : Bs) (h : (join ps sep).length ≤ 1000000) (h2 : ps.length ≤ 1000000) : strings_Join.f (ps.map mk) (mk sep) = some (mk (join ps sep)) := by
 unfold strings_Join.f
 rw [List.map_map,mk_dataList,show ((fun x : ByteArray => x.data.toList) ∘ mk) = id from by funext p;exact mk_dataList p,List.map_id,if_pos (by omega),if_pos (by rw [List.length_map];omega)]
 rfl
theorem DPrint_l1 (x3 : List ByteArray) (l : List (List S3)) (m i : Int) (g : List S3) (hg : g.length < 1000000) (hs : ∀ x ∈ g,smS x) (h3 : x3.length < 1000000) (R : ByteArray) : ∀ (n j : Nat) (acc : List Bs),n + j = g.length → acc.length = j → (join (acc ++ (g.drop j).map printS) [32,124,32]).length ≤ 1000000 →
  Ev (fun k => depends_Print.l0 k (x3 ++ [mk (join (acc ++ (g.drop j).map printS) [32,124,32])]) l m (wrap64 (i + 1))) R → Ev (fun k => depends_Print.l1 k x3 (acc.map mk) l m i g (g.length : Int) (j : Int)) R
 | 0,j,acc,h,ha,hb,hR => by
  rw [List.drop_of_length_le (by omega),List.map_nil,List.append_nil] at hR hb
  refine Ev.shift ?_
  simp only [depends_Print.l1]
  refine Ev.neg (by omega) (Ev.bindc (join_f acc [32,124,32] hb (by omega)) (Ev.pos (by omega) hR))
 | n + 1,j,acc,h,ha,hb,hR => by
  have hj : j < g.length := by omega
  rw [List.drop_eq_getElem_cons hj,List.map_cons] at hR hb
  refine Ev.shift ?_
  simp only [depends_Print.l1,rdT g j hj]
  refine Ev.pos (by omega) (Ev.pos (by omega) (Ev.pos (by omega) (Ev.bind (PrintS_f _ (hs _ (List.getElem_mem hj))) (Ev.pos (by rw [List.length_map];omega) ?_))))
  rw [wrap_succ j (by omega),show acc.map mk ++ [mk (printS g[j])] = (acc ++ [printS g[j]]).map mk by simp]
  refine DPrint_l1 x3 l m i g hg hs h3 R n (j + 1) (acc ++ [printS g[j]]) (by omega) (by simp [ha]) ?_ ?_
  ·rw [List.append_assoc];exact hb
  ·rw [List.append_assoc];exact hR
theorem DPrint_l0 (l : List (List S3)) (hl : l.length < 1000000) (hg : ∀ g ∈ l,g.length < 1000000) (hs : ∀ g ∈ l,∀ x ∈ g,smS x) (ht : ∀ g ∈ l,(textG g).length ≤ 1000000) : ∀ (n i : Nat) (acc : List Bs),n + i = l.length → acc.length = i → (join (acc ++ (l.drop i).map textG) [44,32]).length ≤ 1000000 →
  Ev (fun k => depends_Print.l0 k (acc.map mk) l (l.length : Int) (i : Int)) (mk (join (acc ++ (l.drop i).map textG) [44,32]))
 | 0,i,acc,h,ha,hb => by
  rw [List.drop_of_length_le (by omega),List.map_nil,List.append_nil] at hb ⊢
  refine Ev.shift ?_
  simp only [depends_Print.l0]
  exact Ev.neg (by omega) (Ev.bindc (join_f acc [44,32] hb (by omega)) (Ev.some_ _))
 | n + 1,i,acc,h,ha,hb => by
  have hi : i < l.length := by omega
  have hm := List.getElem_mem hi
  rw [List.drop_eq_getElem_cons hi,List.map_cons] at hb ⊢
  refine Ev.shift ?_
  simp only [depends_Print.l0,rdL l i hi]
  refine Ev.pos (by omega) (Ev.pos (by omega) (Ev.pos (by omega) ?_))
  refine DPrint_l1 (acc.map mk) l (l.length : Int) (i : Int) l[i] (hg _ hm) (hs _ hm) (by rw [List.length_map];omega) _ l[i].length 0 [] (by omega) rfl ?_ ?_
  ·rw [List.drop_zero,List.nil_append];exact ht _ hm
  ·rw [List.drop_zero,List.nil_append,wrap_succ i (by omega),show acc.map mk ++ [mk (join (l[i].map printS) [32,124,32])] = (acc ++ [textG l[i]]).map mk by simp [textG]]
   have := DPrint_l0 l hl hg hs ht n (i + 1) (acc ++ [textG l[i]]) (by omega) (by simp [ha]) (by rw [List.append_assoc];exact hb)
   rw [List.append_assoc] at this
   exact this
def printL (l : List (List S3)) : Bs := if rightL l = true then textL l else []
theorem DPrint_f (l : List (List S3)) (hl : l.length < 1000000) (hg : ∀ g ∈ l,g.length < 1000000) (hs : ∀ g ∈ l,∀ x ∈ g,smS x) (ht : rightL l = true → (∀ g ∈ l,(textG g).length ≤ 1000000) ∧ (textL l).length ≤ 1000000) : Ev (fun k => depends_Print.f k l) (mk (printL l)) := by
 simp only [depends_Print.f]
 refine Ev.bind (DRight_f l hl hg hs) ?_
 unfold printL
 cases h : rightL l with
 | false => exact Ev.neg (by simp) (Ev.some_ _)
 | true =>
  obtain ⟨h1,h2⟩ := ht h
  rw [if_pos rfl]
  refine Ev.pos rfl ?_
  have := DPrint_l0 l hl hg hs h1 l.length 0 [] (by omega) rfl (by rw [List.drop_zero,List.nil_append];exact h2)
  rw [List.drop_zero,List.nil_append] at this
  exact this
end Go.Proofs.YtiidmjmkgjfaeaaGreatDoor.Pure

namespace Go.Proofs.YtiidmjmkgjfaeaaGreatDoor.Pure
open Go.RowKit Go.Proofs.YtiidmjmkgjfaeaaGreatDoor.PA Go.Proofs.YtiidmjmkgjfaeaaGreatDoorW.PrintWords Go.Proofs.YtiidmjmkgjfaeaaGreatDoorW.PrintLast Go.Proofs.YtiidmjmkgjfaeaaGreatDoorW.PrintMore
open Go.Lib (join joinTail)
theorem joinTail_cons (sep x : Bs) (r : List Bs) : joinTail sep (x :: r) = sep ++ x ++ joinTail sep r := by unfold joinTail;simp
end Go.Proofs.YtiidmjmkgjfaeaaGreatDoor.Pure

namespace Go.Proofs.YtiidmjmkgjfaeaaGreatDoor.Pure
open Go.RowKit Go.Proofs.YtiidmjmkgjfaeaaGreatDoor.PA Go.Proofs.YtiidmjmkgjfaeaaGreatDoorW.PrintWords Go.Proofs.YtiidmjmkgjfaeaaGreatDoorW.PrintLast Go.Proofs.YtiidmjmkgjfaeaaGreatDoorW.PrintMore
open Go.Lib (join joinTail)
theorem printS_len (x : S3) (h : smS x) : (printS x).length ≤ 4100 := by
 unfold printS printA
 split
 ·unfold textA
  have h1 := bs_len x.f0
  have h2 := bs_len x.f2
  have h3 := sgn_len x.f1
  obtain ⟨a,b⟩ := h
  split
  ·omega
  ·simp only [List.length_append,List.length_cons,List.length_nil];omega
 ·simp
theorem joinTail_len (sep : Bs) (M : Nat) : ∀ r : List Bs,(∀ x ∈ r,x.length ≤ M) → (joinTail sep r).length ≤ r.length * (sep.length + M)
 | [],_ => by simp [joinTail]
 | x :: r,h => by
  have ih := joinTail_len sep M r (fun y hy => h y (by simp [hy]))
  have hx := h x (by simp)
  rw [joinTail_cons,List.length_append,List.length_append,List.length_cons,Nat.succ_mul]
  omega
theorem join_len (sep : Bs) (M : Nat) (r : List Bs) (h : ∀ x ∈ r,x.length ≤ M) : (join r sep).length ≤ r.length * (sep.length + M) := by
 cases r with
 | nil => simp [Lib.join_nil]
 | cons x r =>
  have h1 := joinTail_len sep M r (fun y hy => h y (by simp [hy]))
  have hx := h x (by simp)
  rw [Lib.join_cons,List.length_append,List.length_cons,Nat.succ_mul]
  omega
theorem textG_len (g : List S3) (hg : g.length ≤ 6) (hs : ∀ x ∈ g,smS x) : (textG g).length ≤ 30000 := by
 have := join_len [32,124,32] 4100 (g.map printS) (fun x hx => by obtain ⟨y,hy,rfl⟩ := List.mem_map.1 hx;exact printS_len y (hs y hy))
 rw [List.length_map] at this
 unfold textG
 simp only [List.length_cons,List.length_nil] at this
 omega
theorem rightL_len {l : List (List S3)} (h : rightL l = true) : l.length ≤ 12 ∧ ∀ g ∈ l,1 ≤ g.length ∧ g.length ≤ 6 ∧ ∀ x ∈ g,rightS x = true := by
 unfold rightL at h
 rw [Bool.and_eq_true] at h
 refine ⟨of_decide_eq_true h.2,fun g hg => ?_⟩
 have := List.all_eq_true.1 h.1 g hg
 unfold rightG at this
 simp only [Bool.and_eq_true,decide_eq_true_eq] at this
 exact ⟨this.1.1,this.1.2,fun x hx => List.all_eq_true.1 this.2 x hx⟩
theorem textL_len (l : List (List S3)) (hl : l.length ≤ 12) (hg : ∀ g ∈ l,g.length ≤ 6) (hs : ∀ g ∈ l,∀ x ∈ g,smS x) : (textL l).length ≤ 500000 := by
 have := join_len [44,32] 30000 (l.map textG) (fun x hx => by obtain ⟨y,hy,rfl⟩ := List.mem_map.1 hx;exact textG_len y (hg y hy) (hs y hy))
 rw [List.length_map] at this
 unfold textL
 simp only [List.length_cons,List.length_nil] at this
 omega
structure SmL (l : List (List S3)) : Prop where
 len : l.length ≤ 40
 each : ∀ g ∈ l,g.length ≤ 40
 sm : ∀ g ∈ l,∀ x ∈ g,smS x
theorem SmL.print {l : List (List S3)} (h : SmL l) : Ev (fun k => depends_Print.f k l) (Pure.mk (printL l)) :=
 DPrint_f l (by have := h.len;omega) (fun g hg => by have := h.each g hg;omega) h.sm (fun hr => ⟨fun g hg => by have := textG_len g ((rightL_len hr).2 g hg).2.1 (h.sm g hg);omega,by have := textL_len l (rightL_len hr).1 (fun g hg => ((rightL_len hr).2 g hg).2.1) h.sm;omega⟩)
theorem SmL.right {l : List (List S3)} (h : SmL l) : Ev (fun k => depends_Right.f k l) (rightL l) :=
 DRight_f l (by have := h.len;omega) (fun g hg => by have := h.each g hg;omega) h.sm
def ones (a : List S3) : List (List S3) := a.map (fun x => [x])
theorem ones_take {a : List S3} {i : Nat} (hi : i < a.length) : ones (a.take (i + 1)) = ones (a.take i) ++ [[a[i]]] := by
 unfold ones
 rw [List.take_add_one,List.getElem?_eq_getElem hi,List.map_append]
 rfl
theorem ones_sm {a : List S3} (hl : a.length ≤ 40) (hs : ∀ x ∈ a,smS x) : SmL (ones a) := by
 refine ⟨by simp [ones,hl],fun g hg => ?_,fun g hg x hx => ?_⟩
 ·obtain ⟨y,_,rfl⟩ := List.mem_map.1 hg;simp
 ·obtain ⟨y,hy,rfl⟩ := List.mem_map.1 hg
  obtain rfl := List.mem_singleton.1 hx
  exact hs _ hy
theorem DJoin_l0 (a : List S3) (hl : a.length ≤ 40) (hs : ∀ x ∈ a,smS x) : ∀ (n i : Nat) (acc : List (List S3)),n + i = a.length → acc = ones (a.take i) → Ev (fun k => depends_Join.l0 k acc a (a.length : Int) (i : Int)) (mk (printL (ones a)))
 | 0,i,acc,h,hacc => by
  rw [List.take_of_length_le (by omega)] at hacc
  subst hacc
  refine Ev.shift ?_
  simp only [depends_Join.l0]
  exact Ev.neg (by omega) (Ev.bind (ones_sm hl hs).print (Ev.some_ _))
 | n + 1,i,acc,h,hacc => by
  have hi : i < a.length := by omega
  refine Ev.shift ?_
  simp only [depends_Join.l0,rdT a i hi]
  have hal : acc.length < 5864062014805 := by rw [hacc];simp [ones];omega
  refine Ev.pos (by omega) (Ev.pos (by omega) (Ev.pos (by omega) (Ev.pos hal ?_)))
  rw [wrap_succ i (by omega)]
  refine DJoin_l0 a hl hs n (i + 1) _ (by omega) ?_
  rw [hacc,ones_take hi]
theorem DJoin_f (a : List S3) (hl : a.length ≤ 40) (hs : ∀ x ∈ a,smS x) : Ev (fun k => depends_Join.f k a) (mk (printL (ones a))) := by
 simp only [depends_Join.f]
 exact DJoin_l0 a hl hs a.length 0 [] (by omega) rfl
end Go.Proofs.YtiidmjmkgjfaeaaGreatDoor.Pure

