import Derived.Test.YtiidmjmkgjfaeaaGreatDoorEntRight
import Derived.Test.YtiidmjmkgjfaeaaGreatDoorStValue
import Derived.Lib.Replace
import Derived.RangeFuncRecord
import Derived.Test.YtiidmjmkgjfaeaaGreatDoorShelf3
namespace Go.Proofs.YtiidmjmkgjfaeaaGreatDoor.Ent
open Go Go.RowKit Go.Proofs.YtiidmjmkgjfaeaaGreatDoorW.PrintWords Go.Proofs.YtiidmjmkgjfaeaaGreatDoor.PA
abbrev KF : Kd S92 := k92
end Go.Proofs.YtiidmjmkgjfaeaaGreatDoor.Ent

namespace Go.Proofs.YtiidmjmkgjfaeaaGreatDoor.Ent
open Go Go.RowKit Go.Shelf Go.Proofs.YtiidmjmkgjfaeaaGreatDoorW.PrintWords Go.Proofs.YtiidmjmkgjfaeaaGreatDoor.PA Go.Proofs.YtiidmjmkgjfaeaaGreatDoor.Pure
set_option linter.unusedVariables false
set_option linter.unusedSimpArgs false
abbrev SF := S92
def sepT (v : ByteArray) : List UInt8 := if !v.toList.isEmpty && !(bt v 0 == 10) then [32] else []
def fieldT (f : SF) : List UInt8 := f.f0.data.toList ++ [58] ++ sepT f.f1 ++ Lib.replaceAll f.f1.data.toList [10] [10,32] ++ [10]
def stT (st : List SF) : List UInt8 := (st.map fieldT).flatten
def gapT (i : Nat) : List UInt8 := if 0 < i then [10] else []
def textFrom : Nat → List (List SF) → List UInt8
 | _,[] => []
 | i,s :: r => gapT i ++ stT s ++ textFrom (i + 1) r
def textT (l : List (List SF)) : List UInt8 := textFrom 0 l
theorem textFrom_snoc : ∀ (l : List (List SF)) (i : Nat) (s : List SF),textFrom i (l ++ [s]) = textFrom i l ++ (gapT (i + l.length) ++ stT s)
 | [],i,s => by simp [textFrom]
 | x :: l,i,s => by
  rw [List.cons_append,textFrom,textFrom,textFrom_snoc l (i + 1) s,List.length_cons,show i + 1 + l.length = i + (l.length + 1) by omega]
  simp [List.append_assoc]
theorem text_snoc (l : List (List SF)) (i : Nat) (hi : i < l.length) : textT (l.take (i + 1)) = textT (l.take i) ++ (gapT i ++ stT l[i]) := by
 unfold textT
 rw [List.take_succ_eq_append_getElem hi,textFrom_snoc,List.length_take,Nat.min_eq_left (by omega),Nat.zero_add]
theorem st_snoc (st : List SF) (i : Nat) (hi : i < st.length) : stT (st.take (i + 1)) = stT (st.take i) ++ fieldT st[i] := by
 unfold stT
 rw [List.take_succ_eq_append_getElem hi,List.map_append,List.flatten_append]
 simp
theorem textFrom_le : ∀ (l m : List (List SF)) (i : Nat),(textFrom i l).length ≤ (textFrom i (l ++ m)).length
 | [],m,i => by simp [textFrom]
 | x :: l,m,i => by
  rw [List.cons_append,textFrom,textFrom]
  have := textFrom_le l m (i + 1)
  simp only [List.length_append] at this ⊢
  omega
theorem text_le (l : List (List SF)) (i : Nat) : (textT (l.take i)).length ≤ (textT l).length := by
 have := textFrom_le (l.take i) (l.drop i) 0
 rwa [List.take_append_drop] at this
theorem st_le (st : List SF) (i : Nat) : (stT (st.take i)).length ≤ (stT st).length := by
 have h : stT st = stT (st.take i) ++ stT (st.drop i) := by
  unfold stT
  rw [← List.flatten_append,← List.map_append,List.take_append_drop]
 rw [h,List.length_append]
 omega
end Go.Proofs.YtiidmjmkgjfaeaaGreatDoor.Ent

namespace Go.Proofs.YtiidmjmkgjfaeaaGreatDoor.Ent
open Go Go.RowKit Go.Shelf Go.Proofs.YtiidmjmkgjfaeaaGreatDoorW.PrintWords Go.Proofs.YtiidmjmkgjfaeaaGreatDoor.PA Go.Proofs.YtiidmjmkgjfaeaaGreatDoor.Pure
set_option linter.unusedVariables false
set_option linter.unusedSimpArgs false
abbrev KS : Kd (List SF) := Kd.slice 92 KF
abbrev TB : TypeId := 127
abbrev TU : TypeId := 5
structure Bld (w : World) (b : Nat) (t : List UInt8) (W : World) : Prop where
 at_ : Lib.IsBuilderF TB TU b b (Lib.byteCells t) W
 below : Below w.heap.size w W
 lt : w.heap.size ≤ b
 blt : b < W.heap.size
theorem Bld.later {w W W' : World} {b : Nat} {t : List UInt8} (h : Bld w b t W) (hb : Below W.heap.size W W') : Bld w b t W' := by
 have row : ∀ {v : Value},W.ownsRowF b TU 1 v (Lib.byteCells t).length (Lib.byteCells t) → W'.ownsRowF b TU 1 v (Lib.byteCells t).length (Lib.byteCells t) := fun {v} ho => by
  refine ⟨ho.1,?_⟩
  rcases ho.2 with hn | ⟨g,cap,cur,fz,e,hg,hgg,rest⟩
  ·exact .inl hn
  ·exact .inr ⟨g,cap,cur,fz,e,hg,(hb.block g (Array.getElem?_eq_some_iff.1 hgg).1).trans hgg,rest⟩
 refine ⟨?_,h.below.trans (hb.mono h.below.size),h.lt,Nat.lt_of_lt_of_le h.blt hb.size⟩
 rcases h.at_ with ⟨h1,v,h2,h3,h4⟩ | ⟨h1,v,h2,h3,h4⟩
 ·exact .inl ⟨h1,v,(hb.block b h.blt).trans h2,row h3,h4⟩
 ·exact .inr ⟨h1,v,(hb.block b h.blt).trans h2,row h3,h4⟩
theorem Bld.alloc {w W : World} {b : Nat} {t : List UInt8} (h : Bld w b t W) (o : Obj) : Bld w b t (W.alloc o) := h.later (qab (Below.refl _ _) _)
theorem box_kept {W W' : World} {b g : Nat} {x y : ByteArray} (h : W.heap[g]? = some (.cells #[.string x,.string y] 92 (0,0))) (hk : Lib.OthersKept TU (some b) W W') (hg : g ≠ b) : W'.heap[g]? = some (.cells #[.string x,.string y] 92 (0,0)) :=
 hk g _ h (by simpa using hg) (fun c fz e => by injection e with _ e;exact absurd e (by decide))
theorem box_cells {W : World} {g : Nat} {x y : ByteArray} (h : W.heap[g]? = some (.cells #[.string x,.string y] 92 (0,0))) : W.cell? ⟨g,0,none⟩ = some (.string x) ∧ W.cell? ⟨g,1,none⟩ = some (.string y) := by
 constructor <;> simp [World.cell?,h]
theorem byte_app (a b : List UInt8) : Lib.byteCells a ++ Lib.byteCells b = Lib.byteCells (a ++ b) := by simp [Lib.byteCells]
theorem str_byte (s : ByteArray) : Lib.strCells s = Lib.byteCells s.data.toList := rfl
theorem Bld.str {w W : World} {b : Nat} {t : List UInt8} (h : Bld w b t W) (s : ByteArray) (hl : t.length + s.size ≤ 100000000000) :
  Calls Tryz.prog 120 #[.pointer (some ⟨b,0,none⟩),.string s] W fun e w' => e = .returned (.tuple #[.int .i64 s.size,.nilIface]) ∧ Bld w b (t ++ s.data.toList) w' ∧ Lib.OthersKept TU (some b) W w' := by
 refine (Tryz.Builder_WriteString_k b b (Lib.byteCells t) s W h.at_ (by rw [Lib.byteCells_length];omega) (Nat.le_of_lt h.blt)).mono ?_
 rintro e w' ⟨h1,h2,h3,h4⟩
 refine ⟨h1,⟨?_,h.below.trans (h3.mono h.lt),h.lt,Nat.lt_of_lt_of_le h.blt h3.size⟩,h4⟩
 rw [str_byte,byte_app] at h2
 exact .inr h2
theorem Bld.byte {w W : World} {b : Nat} {t : List UInt8} (h : Bld w b t W) (c : UInt8) (hl : t.length ≤ 100000000000) :
  Calls Tryz.prog 119 #[.pointer (some ⟨b,0,none⟩),.int .u8 c.toNat] W fun e w' => e = .returned .nilIface ∧ Bld w b (t ++ [c]) w' ∧ Lib.OthersKept TU (some b) W w' := by
 refine (Tryz.Builder_WriteByte_k b b (Lib.byteCells t) c.toNat W h.at_ (by rw [Lib.byteCells_length];omega) (Nat.le_of_lt h.blt)).mono ?_
 rintro e w' ⟨h1,h2,h3,h4⟩
 refine ⟨h1,⟨?_,h.below.trans (h3.mono h.lt),h.lt,Nat.lt_of_lt_of_le h.blt h3.size⟩,h4⟩
 rw [show [Value.int .u8 c.toNat] = Lib.byteCells [c] from rfl,byte_app] at h2
 exact .inr h2
theorem Bld.nl {w W : World} {b : Nat} {t : List UInt8} (h : Bld w b t W) (hl : t.length ≤ 100000000000) :
  Calls Tryz.prog 119 #[.pointer (some ⟨b,0,none⟩),.int .u8 10] W fun e w' => e = .returned .nilIface ∧ Bld w b (t ++ [10]) w' ∧ Lib.OthersKept TU (some b) W w' := h.byte 10 hl
theorem Bld.bl {w W : World} {b : Nat} {t : List UInt8} (h : Bld w b t W) (hl : t.length ≤ 100000000000) :
  Calls Tryz.prog 119 #[.pointer (some ⟨b,0,none⟩),.int .u8 32] W fun e w' => e = .returned .nilIface ∧ Bld w b (t ++ [32]) w' ∧ Lib.OthersKept TU (some b) W w' := h.byte 32 hl
theorem repl_at {w : World} (hG : GL w) (s : ByteArray) (hs : s.size ≤ 1000000) : Calls Tryz.prog 121 #[.string s,.string ⟨#[10]⟩,.string ⟨#[10,32]⟩] w fun e w' => e = .returned (.string ⟨(Lib.replaceAll s.data.toList [10] [10,32]).toArray⟩) ∧ Below w.heap.size w w' := by
 obtain ⟨m,hm⟩ := hG.maxLen
 have hle := Lib.countB_le (⟨#[10]⟩ : ByteArray) (by decide) s.size s (Nat.le_refl _)
 exact Tryz.strings_ReplaceAll s ⟨#[10]⟩ ⟨#[10,32]⟩ m w (by omega) hm (by decide) (by show s.size + Lib.countB s ⟨#[10]⟩ * 2 ≤ _;omega)
end Go.Proofs.YtiidmjmkgjfaeaaGreatDoor.Ent

namespace Go.Proofs.YtiidmjmkgjfaeaaGreatDoor.Ent
open Go Go.RowKit Go.Shelf Go.Proofs.YtiidmjmkgjfaeaaGreatDoorW.PrintWords Go.Proofs.YtiidmjmkgjfaeaaGreatDoor.PA Go.Proofs.YtiidmjmkgjfaeaaGreatDoor.Pure
set_option linter.unusedVariables false
set_option linter.unusedSimpArgs false
set_option maxRecDepth 100000 in
set_option maxHeartbeats 16000000 in
theorem text_calls {w : World} (hG : GL w) (A : Option Addr) (c : Nat) (l : List (List SF)) (hr : KS.C w A l.length l) (hl : l.length ≤ 1000000) (hT : (textT l).length ≤ 1000000000) (hv : ∀ st ∈ l,st.length ≤ 1000000 ∧ ∀ f ∈ st,f.f0.size ≤ 1000000 ∧ f.f1.size ≤ 1000000) :
  Calls Tryz.prog 87 #[.slice A l.length c] w fun e w' => e = .returned (.string ⟨(textT l).toArray⟩) ∧ Below w.heap.size w w' := by
 obtain ⟨b,hb⟩ : ∃ b,w.heap.size = b := ⟨_,rfl⟩
 have B0 : Bld w b (textT (l.take 0)) (w.alloc (.cells #[.pointer none,.slice none 0 0] TB)) := by
  refine ⟨?_,qab (Below.refl _ _) _,by omega,by rw [← hb];simp⟩
  rw [← hb]
  exact Lib.IsBuilderF.of (Lib.fresh_isBuilder TB TU w)
 have H0 := Aside0.mk B0
 have HR := Aside0.mk hr
 have HL := Aside0.mk hl
 have HT := Aside0.mk hT
 have HV' := Aside0.mk hv
 have HG0 := Aside0.mk hG
 clear hr hl hT hv B0 hG
 go_enter Tryz.func87,Tryz.ntmps87
 go_wp2
 (try simp only [hb])
 go_loopg [10] l.length (fun gg v10 wr => ∃ i : Nat,i ≤ l.length ∧ l.length - i ≤ gg ∧ v10 = .int .i64 (i : Int) ∧ Aside0 (Bld w b (textT (l.take i)) wr))
 case atStart => exact ⟨0,Nat.zero_le _,by omega,rfl,H0⟩
 case round =>
  clear H0
  obtain ⟨i,hi,hg,rfl,HJ⟩ := hrel
  by_cases hlt : i < l.length
  ·have b2 : decide ((i : Int) < (l.length : Int)) = true := decide_eq_true (by omega)
   have p0 : (0 : Int) ≤ (i : Int) := by omega
   have p1 : (i : Int) < (l.length : Int) := by omega
   obtain ⟨ad,cs,rfl,hcl,⟨A1,c1,rfl,hc1,hC1⟩,hc⟩ := Kd.C_get HR.out ([] : List SF) (i : Int) p0 p1
   obtain ⟨st,hst,hm⟩ : ∃ st,l.getD (i : Int).toNat [] = st ∧ l[i] = st := ⟨_,rfl,by rw [Int.toNat_natCast,List.getD_eq_getElem?_getD,List.getElem?_eq_getElem hlt];rfl⟩
   rw [hst] at hC1 hc1 hc
   have hx0 : w.cell? (ad.add i) = some (.slice A1 st.length c1) := by have := hc 0 _ rfl;rwa [Int.toNat_natCast,show i * KS.sz + 0 = i by show i * 1 + 0 = i;omega] at this
   have hx0 : wr.cell? (ad.add i) = some (.slice A1 st.length c1) := (HJ.out.below.cell (World.block_lt_of_cell? _ _ hx0)).trans hx0
   have hsn := text_snoc l i hlt
   rw [hm] at hsn
   have htl := text_le l (i + 1)
   rw [hsn,List.length_append,List.length_append] at htl
   have hin : st ∈ l := hm ▸ List.getElem_mem hlt
   have HST := Aside0.mk hC1
   have HSNOC := Aside0.mk hsn
   have HTL := Aside0.mk (Nat.le_trans htl HT.out)
   have HSL := Aside0.mk (HV'.out st hin).1
   have HV := Aside0.mk (HV'.out st hin).2
   have HGI := Aside0.mk hg
   have HLT := Aside0.mk hlt
   have bwi : wrap64 ((i : Int) + 1) = ((i + 1 : Nat) : Int) := by have := HL.out;unfold wrap64;omega
   have LBI := Aside0.mk (show (textT (l.take i)).length ≤ 1000000000 by have := HTL.out;omega)
   clear hsn htl hin hm hst hC1 hc1 hc hcl hi hg hlt
   by_cases h0 : 0 < i
   ·have g0 : decide ((0 : Int) < (i : Int)) = true := decide_eq_true (by omega)
    have g1 : decide (0 < i) = true := decide_eq_true h0
    have HGAP := Aside0.mk (show gapT i = [10] by unfold gapT;rw [if_pos h0])
    clear h0
    go_wp2_with (go_at_call 119;with_reducible refine (HJ.out.nl (by have := LBI.out;omega)).mono ?_;rintro e w1 ⟨rfl,h1,k1⟩;have HK := Aside0.mk (show Bld w b (textT (l.take i) ++ gapT i) w1 by rw [HGAP.out];exact h1);clear h1 k1 hx0)
    go_loopg [20] st.length (fun gg v20 wq => ∃ j : Nat,j ≤ st.length ∧ st.length - j ≤ gg ∧ v20 = .int .i64 (j : Int) ∧ Aside0 (Bld w b (textT (l.take i) ++ (gapT i ++ stT (st.take j))) wq))
    case atStart => exact ⟨0,Nat.zero_le _,by omega,rfl,⟨by have h := HK.out;rw [List.take_zero,show stT ([] : List SF) = [] from rfl,List.append_nil];exact h⟩⟩
    case round =>
     clear HK
     obtain ⟨j,hj,hgj,rfl,HQ⟩ := hrel
     have bw : wrap64 ((j : Int) + 1) = ((j + 1 : Nat) : Int) := by have := HSL.out;unfold wrap64;omega
     by_cases hjl : j < st.length
     ·have d2 : decide ((j : Int) < (st.length : Int)) = true := decide_eq_true (by omega)
      have p0 : (0 : Int) ≤ (j : Int) := by omega
      have p1 : (j : Int) < (st.length : Int) := by omega
      obtain ⟨ad,cs,rfl,hcl,hK,hc⟩ := Kd.C_get (Kd.C_below HST.out HQ.out.below) z92 (j : Int) p0 p1
      obtain ⟨f,hf,hm⟩ : ∃ f,st.getD (j : Int).toNat z92 = f ∧ st[j] = f := ⟨_,rfl,by rw [Int.toNat_natCast,List.getD_eq_getElem?_getD,List.getElem?_eq_getElem hjl];rfl⟩
      rw [hf] at hK
      obtain rfl := k92_open hK
      have hx0 : wr.cell? (ad.add (j * 2)) = some (.string f.f0) := by have := hc 0 _ rfl;rwa [Int.toNat_natCast] at this
      have hx1 : wr.cell? ⟨(ad.add (j * 2)).block,(ad.add (j * 2)).off + 1,none⟩ = some (.string f.f1) := by rw [← add_field _ _ 1 (by omega)];have := hc 1 _ rfl;rwa [Int.toNat_natCast] at this
      have hsn := st_snoc st j hjl
      rw [hm] at hsn
      have hfv := HV.out f (hm ▸ List.getElem_mem hjl)
      have hle := st_le st (j + 1)
      rw [hsn,List.length_append] at hle
      have LB := Aside0.mk (show (textT (l.take i)).length + ((gapT i).length + (stT (st.take j)).length) ≤ 1000000000 ∧ (Lib.replaceAll f.f1.data.toList [10] [10,32]).length ≤ 1000000000 from ⟨by have := HTL.out;omega,by
       have := HTL.out
       have hf2 : (Lib.replaceAll f.f1.data.toList [10] [10,32]).length ≤ (fieldT f).length := by unfold fieldT;simp only [List.length_append];omega
       omega⟩)
      have hs1 : (f.f0 ++ (⟨#[58]⟩ : ByteArray)).data.toList.length = f.f0.size + 1 := by simp
      have hs2 : (f.f0 ++ (⟨#[58]⟩ : ByteArray)).size = f.f0.size + 1 := by simp [ByteArray.size_append];rfl
      have hs3 : ((⟨(Lib.replaceAll f.f1.data.toList [10] [10,32]).toArray⟩ : ByteArray) ++ ⟨#[10]⟩).size = (Lib.replaceAll f.f1.data.toList [10] [10,32]).length + 1 := by rw [ByteArray.size_append];rfl
      have N1 := Aside0.mk (show (textT (l.take i) ++ (gapT i ++ stT (st.take j))).length + (f.f0 ++ (⟨#[58]⟩ : ByteArray)).size ≤ 100000000000 by rw [hs2];have := LB.out;have := hfv.1;simp only [List.length_append];omega)
      have N2 := Aside0.mk (show ((textT (l.take i) ++ (gapT i ++ stT (st.take j))) ++ (f.f0 ++ (⟨#[58]⟩ : ByteArray)).data.toList).length ≤ 100000000000 by have := LB.out;have := hfv.1;simp only [List.length_append] at hs1 ⊢;omega)
      have N3 := Aside0.mk (show ((textT (l.take i) ++ (gapT i ++ stT (st.take j))) ++ (f.f0 ++ (⟨#[58]⟩ : ByteArray)).data.toList).length + ((⟨(Lib.replaceAll f.f1.data.toList [10] [10,32]).toArray⟩ : ByteArray) ++ ⟨#[10]⟩).size ≤ 100000000000 by rw [hs3];have := LB.out;have := hfv.1;simp only [List.length_append] at hs1 ⊢;omega)
      have N4 := Aside0.mk (show ((textT (l.take i) ++ (gapT i ++ stT (st.take j))) ++ (f.f0 ++ (⟨#[58]⟩ : ByteArray)).data.toList ++ [32]).length + ((⟨(Lib.replaceAll f.f1.data.toList [10] [10,32]).toArray⟩ : ByteArray) ++ ⟨#[10]⟩).size ≤ 100000000000 by rw [hs3];have := LB.out;have := hfv.1;simp only [List.length_append,List.length_cons,List.length_nil] at hs1 ⊢;omega)
      have q1 : (9223372036854775807 < f.f0.size + 1) = False := eq_false (by have := hfv.1;omega)
      have q2 : (9223372036854775807 < (f.f0 ++ (⟨#[58]⟩ : ByteArray)).size) = False := eq_false (by rw [hs2];have := hfv.1;omega)
      have q3 : (9223372036854775807 < (Lib.replaceAll f.f1.data.toList [10] [10,32]).length + 1) = False := eq_false (by have := LB.out;omega)
      have q4 : (9223372036854775807 < ((⟨(Lib.replaceAll f.f1.data.toList [10] [10,32]).toArray⟩ : ByteArray) ++ ⟨#[10]⟩).size) = False := eq_false (by rw [hs3];have := LB.out;omega)
      have HNE := Aside0.mk (show wr.heap.size ≠ b by have := HQ.out.blt;omega)
      have HF0 := Aside0.mk hfv.1
      have HF1 := Aside0.mk hfv.2
      have HSN := Aside0.mk hsn
      have HGJ := Aside0.mk hgj
      have HJL := Aside0.mk hjl
      clear hs1 hs2 hs3 hsn hfv hle hm hf hK hc hcl hj hgj hjl
      by_cases he : f.f1.toList = []
      ·have he2 : f.f1.toList.isEmpty = true := by rw [he];rfl
       have HSEP := Aside0.mk (show sepT f.f1 = [] by unfold sepT;rw [he2];rfl)
       go_wp2_with (first
        | (go_at_call 120;with_reducible refine (B4.out.str (⟨(Lib.replaceAll f.f1.data.toList [10] [10,32]).toArray⟩ ++ ⟨#[10]⟩) N3.out).mono ?_;rintro e w5 ⟨rfl,h5,k5⟩;have B5 := Aside0.mk h5;clear h5 k5)
        | (go_at_call 121;with_reducible refine (repl_at (HG0.out.below B2.out.below) f.f1 HF1.out).mono ?_;rintro e w4 ⟨rfl,hb4⟩;have B4 := Aside0.mk (B2.out.later hb4);clear hb4)
        | (go_at_call 120;with_reducible refine ((HQ.out.alloc (.cells #[.string f.f0,.string f.f1] 92)).str (f.f0 ++ ⟨#[58]⟩) N1.out).mono ?_;rintro e w2 ⟨rfl,h2,k2⟩;have B2 := Aside0.mk h2;have X2 := Aside0.mk (box_kept (World.alloc_heap_new wr _) k2 HNE.out);obtain ⟨x0,x1⟩ := box_cells X2.out;clear h2 k2 hx0 hx1))
       go_roundg (st.length - (j + 1))
       case measure => have := HGJ.out;have := HJL.out;omega
       case rel => exact ⟨j + 1,HJL.out,Nat.le_refl _,by rw [bw],⟨by
        have h := B5.out
        have e : (textT (l.take i) ++ (gapT i ++ stT (st.take j))) ++ fieldT f = (textT (l.take i) ++ (gapT i ++ stT (st.take j))) ++ (f.f0 ++ (⟨#[58]⟩ : ByteArray)).data.toList ++ ((⟨(Lib.replaceAll f.f1.data.toList [10] [10,32]).toArray⟩ : ByteArray) ++ ⟨#[10]⟩).data.toList := by unfold fieldT;rw [HSEP.out];simp [List.append_assoc]
        rw [HSN.out]
        rw [← List.append_assoc (gapT i),← List.append_assoc (textT (l.take i)),e]
        exact h⟩⟩
      ·have he2 : f.f1.toList.isEmpty = false := by cases h : f.f1.toList <;> simp_all
       have b1 : 0 < f.f1.size := by
        have : f.f1.toList.length ≠ 0 := fun h => he (List.length_eq_zero_iff.1 h)
        rw [Lib.toList_data,Array.length_toList] at this
        exact Nat.pos_of_ne_zero this
       have b1' : decide ((0 : Int) < (f.f1.size : Int)) = true := decide_eq_true (by omega)
       have hb0 : ((f.f1[0]'b1).toNat : Int) = bt f.f1 0 := bt_at f.f1 0 b1
       cases h10 : (bt f.f1 0 == 10) with
       | true =>
        have HSEP := Aside0.mk (show sepT f.f1 = [] by unfold sepT;rw [he2,h10];rfl)
        have h10' : (((f.f1[0]'b1).toNat : Int) == 10) = true := by rw [hb0];exact h10
        clear hb0 h10
        go_wp2_with (first
         | (go_at_call 120;with_reducible refine (B4.out.str (⟨(Lib.replaceAll f.f1.data.toList [10] [10,32]).toArray⟩ ++ ⟨#[10]⟩) N3.out).mono ?_;rintro e w5 ⟨rfl,h5,k5⟩;have B5 := Aside0.mk h5;clear h5 k5)
         | (go_at_call 121;with_reducible refine (repl_at (HG0.out.below B2.out.below) f.f1 HF1.out).mono ?_;rintro e w4 ⟨rfl,hb4⟩;have B4 := Aside0.mk (B2.out.later hb4);clear hb4)
         | (go_at_call 120;with_reducible refine ((HQ.out.alloc (.cells #[.string f.f0,.string f.f1] 92)).str (f.f0 ++ ⟨#[58]⟩) N1.out).mono ?_;rintro e w2 ⟨rfl,h2,k2⟩;have B2 := Aside0.mk h2;have X2 := Aside0.mk (box_kept (World.alloc_heap_new wr _) k2 HNE.out);obtain ⟨x0,x1⟩ := box_cells X2.out;clear h2 k2 hx0 hx1))
        go_roundg (st.length - (j + 1))
        case measure => have := HGJ.out;have := HJL.out;omega
        case rel => exact ⟨j + 1,HJL.out,Nat.le_refl _,by rw [bw],⟨by
         have h := B5.out
         have e : (textT (l.take i) ++ (gapT i ++ stT (st.take j))) ++ fieldT f = (textT (l.take i) ++ (gapT i ++ stT (st.take j))) ++ (f.f0 ++ (⟨#[58]⟩ : ByteArray)).data.toList ++ ((⟨(Lib.replaceAll f.f1.data.toList [10] [10,32]).toArray⟩ : ByteArray) ++ ⟨#[10]⟩).data.toList := by unfold fieldT;rw [HSEP.out];simp [List.append_assoc]
         rw [HSN.out]
         rw [← List.append_assoc (gapT i),← List.append_assoc (textT (l.take i)),e]
         exact h⟩⟩
       | false =>
        have HSEP := Aside0.mk (show sepT f.f1 = [32] by unfold sepT;rw [he2,h10];rfl)
        have h10' : (((f.f1[0]'b1).toNat : Int) == 10) = false := by rw [hb0];exact h10
        clear hb0 h10
        go_wp2_with (first
         | (go_at_call 120;with_reducible refine (B4.out.str (⟨(Lib.replaceAll f.f1.data.toList [10] [10,32]).toArray⟩ ++ ⟨#[10]⟩) N4.out).mono ?_;rintro e w5 ⟨rfl,h5,k5⟩;have B5 := Aside0.mk h5;clear h5 k5)
         | (go_at_call 121;with_reducible refine (repl_at (HG0.out.below B3.out.below) f.f1 HF1.out).mono ?_;rintro e w4 ⟨rfl,hb4⟩;have B4 := Aside0.mk (B3.out.later hb4);clear hb4)
         | (go_at_call 119;with_reducible refine (B2.out.bl N2.out).mono ?_;rintro e w3 ⟨rfl,h3,k3⟩;have B3 := Aside0.mk h3;have X3 := Aside0.mk (box_kept X2.out k3 HNE.out);obtain ⟨y0,y1⟩ := box_cells X3.out;clear h3 k3 x0 x1)
         | (go_at_call 120;with_reducible refine ((HQ.out.alloc (.cells #[.string f.f0,.string f.f1] 92)).str (f.f0 ++ ⟨#[58]⟩) N1.out).mono ?_;rintro e w2 ⟨rfl,h2,k2⟩;have B2 := Aside0.mk h2;have X2 := Aside0.mk (box_kept (World.alloc_heap_new wr _) k2 HNE.out);obtain ⟨x0,x1⟩ := box_cells X2.out;clear h2 k2 hx0 hx1))
        go_roundg (st.length - (j + 1))
        case measure => have := HGJ.out;have := HJL.out;omega
        case rel => exact ⟨j + 1,HJL.out,Nat.le_refl _,by rw [bw],⟨by
         have h := B5.out
         have e : (textT (l.take i) ++ (gapT i ++ stT (st.take j))) ++ fieldT f = (textT (l.take i) ++ (gapT i ++ stT (st.take j))) ++ (f.f0 ++ (⟨#[58]⟩ : ByteArray)).data.toList ++ [32] ++ ((⟨(Lib.replaceAll f.f1.data.toList [10] [10,32]).toArray⟩ : ByteArray) ++ ⟨#[10]⟩).data.toList := by unfold fieldT;rw [HSEP.out];simp [List.append_assoc]
         rw [HSN.out]
         rw [← List.append_assoc (gapT i),← List.append_assoc (textT (l.take i)),e]
         exact h⟩⟩
     ·have d2 : decide ((j : Int) < (st.length : Int)) = false := decide_eq_false (by omega)
      obtain rfl : j = st.length := by omega
      go_wp2
      go_roundg (l.length - (i + 1))
      case measure => have := HGI.out;have := HLT.out;omega
      case rel => exact ⟨i + 1,HLT.out,Nat.le_refl _,by rw [bwi],⟨by have h := HQ.out;rw [List.take_length] at h;rw [HSNOC.out];exact h⟩⟩
   ·have g0 : decide ((0 : Int) < (i : Int)) = false := decide_eq_false (by omega)
    have g1 : decide (0 < i) = false := decide_eq_false h0
    have HK := Aside0.mk (show Bld w b (textT (l.take i) ++ gapT i) wr by rw [show gapT i = [] by unfold gapT;rw [if_neg h0],List.append_nil];exact HJ.out)
    clear h0
    go_wp2
    go_loopg [20] st.length (fun gg v20 wq => ∃ j : Nat,j ≤ st.length ∧ st.length - j ≤ gg ∧ v20 = .int .i64 (j : Int) ∧ Aside0 (Bld w b (textT (l.take i) ++ (gapT i ++ stT (st.take j))) wq))
    case atStart => exact ⟨0,Nat.zero_le _,by omega,rfl,⟨by have h := HK.out;rw [List.take_zero,show stT ([] : List SF) = [] from rfl,List.append_nil];exact h⟩⟩
    case round =>
     clear HK
     obtain ⟨j,hj,hgj,rfl,HQ⟩ := hrel
     have bw : wrap64 ((j : Int) + 1) = ((j + 1 : Nat) : Int) := by have := HSL.out;unfold wrap64;omega
     by_cases hjl : j < st.length
     ·have d2 : decide ((j : Int) < (st.length : Int)) = true := decide_eq_true (by omega)
      have p0 : (0 : Int) ≤ (j : Int) := by omega
      have p1 : (j : Int) < (st.length : Int) := by omega
      obtain ⟨ad,cs,rfl,hcl,hK,hc⟩ := Kd.C_get (Kd.C_below HST.out HQ.out.below) z92 (j : Int) p0 p1
      obtain ⟨f,hf,hm⟩ : ∃ f,st.getD (j : Int).toNat z92 = f ∧ st[j] = f := ⟨_,rfl,by rw [Int.toNat_natCast,List.getD_eq_getElem?_getD,List.getElem?_eq_getElem hjl];rfl⟩
      rw [hf] at hK
      obtain rfl := k92_open hK
      have hx0 : wr.cell? (ad.add (j * 2)) = some (.string f.f0) := by have := hc 0 _ rfl;rwa [Int.toNat_natCast] at this
      have hx1 : wr.cell? ⟨(ad.add (j * 2)).block,(ad.add (j * 2)).off + 1,none⟩ = some (.string f.f1) := by rw [← add_field _ _ 1 (by omega)];have := hc 1 _ rfl;rwa [Int.toNat_natCast] at this
      have hsn := st_snoc st j hjl
      rw [hm] at hsn
      have hfv := HV.out f (hm ▸ List.getElem_mem hjl)
      have hle := st_le st (j + 1)
      rw [hsn,List.length_append] at hle
      have LB := Aside0.mk (show (textT (l.take i)).length + ((gapT i).length + (stT (st.take j)).length) ≤ 1000000000 ∧ (Lib.replaceAll f.f1.data.toList [10] [10,32]).length ≤ 1000000000 from ⟨by have := HTL.out;omega,by
       have := HTL.out
       have hf2 : (Lib.replaceAll f.f1.data.toList [10] [10,32]).length ≤ (fieldT f).length := by unfold fieldT;simp only [List.length_append];omega
       omega⟩)
      have hs1 : (f.f0 ++ (⟨#[58]⟩ : ByteArray)).data.toList.length = f.f0.size + 1 := by simp
      have hs2 : (f.f0 ++ (⟨#[58]⟩ : ByteArray)).size = f.f0.size + 1 := by simp [ByteArray.size_append];rfl
      have hs3 : ((⟨(Lib.replaceAll f.f1.data.toList [10] [10,32]).toArray⟩ : ByteArray) ++ ⟨#[10]⟩).size = (Lib.replaceAll f.f1.data.toList [10] [10,32]).length + 1 := by rw [ByteArray.size_append];rfl
      have N1 := Aside0.mk (show (textT (l.take i) ++ (gapT i ++ stT (st.take j))).length + (f.f0 ++ (⟨#[58]⟩ : ByteArray)).size ≤ 100000000000 by rw [hs2];have := LB.out;have := hfv.1;simp only [List.length_append];omega)
      have N2 := Aside0.mk (show ((textT (l.take i) ++ (gapT i ++ stT (st.take j))) ++ (f.f0 ++ (⟨#[58]⟩ : ByteArray)).data.toList).length ≤ 100000000000 by have := LB.out;have := hfv.1;simp only [List.length_append] at hs1 ⊢;omega)
      have N3 := Aside0.mk (show ((textT (l.take i) ++ (gapT i ++ stT (st.take j))) ++ (f.f0 ++ (⟨#[58]⟩ : ByteArray)).data.toList).length + ((⟨(Lib.replaceAll f.f1.data.toList [10] [10,32]).toArray⟩ : ByteArray) ++ ⟨#[10]⟩).size ≤ 100000000000 by rw [hs3];have := LB.out;have := hfv.1;simp only [List.length_append] at hs1 ⊢;omega)
      have N4 := Aside0.mk (show ((textT (l.take i) ++ (gapT i ++ stT (st.take j))) ++ (f.f0 ++ (⟨#[58]⟩ : ByteArray)).data.toList ++ [32]).length + ((⟨(Lib.replaceAll f.f1.data.toList [10] [10,32]).toArray⟩ : ByteArray) ++ ⟨#[10]⟩).size ≤ 100000000000 by rw [hs3];have := LB.out;have := hfv.1;simp only [List.length_append,List.length_cons,List.length_nil] at hs1 ⊢;omega)
      have q1 : (9223372036854775807 < f.f0.size + 1) = False := eq_false (by have := hfv.1;omega)
      have q2 : (9223372036854775807 < (f.f0 ++ (⟨#[58]⟩ : ByteArray)).size) = False := eq_false (by rw [hs2];have := hfv.1;omega)
      have q3 : (9223372036854775807 < (Lib.replaceAll f.f1.data.toList [10] [10,32]).length + 1) = False := eq_false (by have := LB.out;omega)
      have q4 : (9223372036854775807 < ((⟨(Lib.replaceAll f.f1.data.toList [10] [10,32]).toArray⟩ : ByteArray) ++ ⟨#[10]⟩).size) = False := eq_false (by rw [hs3];have := LB.out;omega)
      have HNE := Aside0.mk (show wr.heap.size ≠ b by have := HQ.out.blt;omega)
      have HF0 := Aside0.mk hfv.1
      have HF1 := Aside0.mk hfv.2
      have HSN := Aside0.mk hsn
      have HGJ := Aside0.mk hgj
      have HJL := Aside0.mk hjl
      clear hs1 hs2 hs3 hsn hfv hle hm hf hK hc hcl hj hgj hjl
      by_cases he : f.f1.toList = []
      ·have he2 : f.f1.toList.isEmpty = true := by rw [he];rfl
       have HSEP := Aside0.mk (show sepT f.f1 = [] by unfold sepT;rw [he2];rfl)
       go_wp2_with (first
        | (go_at_call 120;with_reducible refine (B4.out.str (⟨(Lib.replaceAll f.f1.data.toList [10] [10,32]).toArray⟩ ++ ⟨#[10]⟩) N3.out).mono ?_;rintro e w5 ⟨rfl,h5,k5⟩;have B5 := Aside0.mk h5;clear h5 k5)
        | (go_at_call 121;with_reducible refine (repl_at (HG0.out.below B2.out.below) f.f1 HF1.out).mono ?_;rintro e w4 ⟨rfl,hb4⟩;have B4 := Aside0.mk (B2.out.later hb4);clear hb4)
        | (go_at_call 120;with_reducible refine ((HQ.out.alloc (.cells #[.string f.f0,.string f.f1] 92)).str (f.f0 ++ ⟨#[58]⟩) N1.out).mono ?_;rintro e w2 ⟨rfl,h2,k2⟩;have B2 := Aside0.mk h2;have X2 := Aside0.mk (box_kept (World.alloc_heap_new wr _) k2 HNE.out);obtain ⟨x0,x1⟩ := box_cells X2.out;clear h2 k2 hx0 hx1))
       go_roundg (st.length - (j + 1))
       case measure => have := HGJ.out;have := HJL.out;omega
       case rel => exact ⟨j + 1,HJL.out,Nat.le_refl _,by rw [bw],⟨by
        have h := B5.out
        have e : (textT (l.take i) ++ (gapT i ++ stT (st.take j))) ++ fieldT f = (textT (l.take i) ++ (gapT i ++ stT (st.take j))) ++ (f.f0 ++ (⟨#[58]⟩ : ByteArray)).data.toList ++ ((⟨(Lib.replaceAll f.f1.data.toList [10] [10,32]).toArray⟩ : ByteArray) ++ ⟨#[10]⟩).data.toList := by unfold fieldT;rw [HSEP.out];simp [List.append_assoc]
        rw [HSN.out]
        rw [← List.append_assoc (gapT i),← List.append_assoc (textT (l.take i)),e]
        exact h⟩⟩
      ·have he2 : f.f1.toList.isEmpty = false := by cases h : f.f1.toList <;> simp_all
       have b1 : 0 < f.f1.size := by
        have : f.f1.toList.length ≠ 0 := fun h => he (List.length_eq_zero_iff.1 h)
        rw [Lib.toList_data,Array.length_toList] at this
        exact Nat.pos_of_ne_zero this
       have b1' : decide ((0 : Int) < (f.f1.size : Int)) = true := decide_eq_true (by omega)
       have hb0 : ((f.f1[0]'b1).toNat : Int) = bt f.f1 0 := bt_at f.f1 0 b1
       cases h10 : (bt f.f1 0 == 10) with
       | true =>
        have HSEP := Aside0.mk (show sepT f.f1 = [] by unfold sepT;rw [he2,h10];rfl)
        have h10' : (((f.f1[0]'b1).toNat : Int) == 10) = true := by rw [hb0];exact h10
        clear hb0 h10
        go_wp2_with (first
         | (go_at_call 120;with_reducible refine (B4.out.str (⟨(Lib.replaceAll f.f1.data.toList [10] [10,32]).toArray⟩ ++ ⟨#[10]⟩) N3.out).mono ?_;rintro e w5 ⟨rfl,h5,k5⟩;have B5 := Aside0.mk h5;clear h5 k5)
         | (go_at_call 121;with_reducible refine (repl_at (HG0.out.below B2.out.below) f.f1 HF1.out).mono ?_;rintro e w4 ⟨rfl,hb4⟩;have B4 := Aside0.mk (B2.out.later hb4);clear hb4)
         | (go_at_call 120;with_reducible refine ((HQ.out.alloc (.cells #[.string f.f0,.string f.f1] 92)).str (f.f0 ++ ⟨#[58]⟩) N1.out).mono ?_;rintro e w2 ⟨rfl,h2,k2⟩;have B2 := Aside0.mk h2;have X2 := Aside0.mk (box_kept (World.alloc_heap_new wr _) k2 HNE.out);obtain ⟨x0,x1⟩ := box_cells X2.out;clear h2 k2 hx0 hx1))
        go_roundg (st.length - (j + 1))
        case measure => have := HGJ.out;have := HJL.out;omega
        case rel => exact ⟨j + 1,HJL.out,Nat.le_refl _,by rw [bw],⟨by
         have h := B5.out
         have e : (textT (l.take i) ++ (gapT i ++ stT (st.take j))) ++ fieldT f = (textT (l.take i) ++ (gapT i ++ stT (st.take j))) ++ (f.f0 ++ (⟨#[58]⟩ : ByteArray)).data.toList ++ ((⟨(Lib.replaceAll f.f1.data.toList [10] [10,32]).toArray⟩ : ByteArray) ++ ⟨#[10]⟩).data.toList := by unfold fieldT;rw [HSEP.out];simp [List.append_assoc]
         rw [HSN.out]
         rw [← List.append_assoc (gapT i),← List.append_assoc (textT (l.take i)),e]
         exact h⟩⟩
       | false =>
        have HSEP := Aside0.mk (show sepT f.f1 = [32] by unfold sepT;rw [he2,h10];rfl)
        have h10' : (((f.f1[0]'b1).toNat : Int) == 10) = false := by rw [hb0];exact h10
        clear hb0 h10
        go_wp2_with (first
         | (go_at_call 120;with_reducible refine (B4.out.str (⟨(Lib.replaceAll f.f1.data.toList [10] [10,32]).toArray⟩ ++ ⟨#[10]⟩) N4.out).mono ?_;rintro e w5 ⟨rfl,h5,k5⟩;have B5 := Aside0.mk h5;clear h5 k5)
         | (go_at_call 121;with_reducible refine (repl_at (HG0.out.below B3.out.below) f.f1 HF1.out).mono ?_;rintro e w4 ⟨rfl,hb4⟩;have B4 := Aside0.mk (B3.out.later hb4);clear hb4)
         | (go_at_call 119;with_reducible refine (B2.out.bl N2.out).mono ?_;rintro e w3 ⟨rfl,h3,k3⟩;have B3 := Aside0.mk h3;have X3 := Aside0.mk (box_kept X2.out k3 HNE.out);obtain ⟨y0,y1⟩ := box_cells X3.out;clear h3 k3 x0 x1)
         | (go_at_call 120;with_reducible refine ((HQ.out.alloc (.cells #[.string f.f0,.string f.f1] 92)).str (f.f0 ++ ⟨#[58]⟩) N1.out).mono ?_;rintro e w2 ⟨rfl,h2,k2⟩;have B2 := Aside0.mk h2;have X2 := Aside0.mk (box_kept (World.alloc_heap_new wr _) k2 HNE.out);obtain ⟨x0,x1⟩ := box_cells X2.out;clear h2 k2 hx0 hx1))
        go_roundg (st.length - (j + 1))
        case measure => have := HGJ.out;have := HJL.out;omega
        case rel => exact ⟨j + 1,HJL.out,Nat.le_refl _,by rw [bw],⟨by
         have h := B5.out
         have e : (textT (l.take i) ++ (gapT i ++ stT (st.take j))) ++ fieldT f = (textT (l.take i) ++ (gapT i ++ stT (st.take j))) ++ (f.f0 ++ (⟨#[58]⟩ : ByteArray)).data.toList ++ [32] ++ ((⟨(Lib.replaceAll f.f1.data.toList [10] [10,32]).toArray⟩ : ByteArray) ++ ⟨#[10]⟩).data.toList := by unfold fieldT;rw [HSEP.out];simp [List.append_assoc]
         rw [HSN.out]
         rw [← List.append_assoc (gapT i),← List.append_assoc (textT (l.take i)),e]
         exact h⟩⟩
     ·have d2 : decide ((j : Int) < (st.length : Int)) = false := decide_eq_false (by omega)
      obtain rfl : j = st.length := by omega
      go_wp2
      go_roundg (l.length - (i + 1))
      case measure => have := HGI.out;have := HLT.out;omega
      case rel => exact ⟨i + 1,HLT.out,Nat.le_refl _,by rw [bwi],⟨by have h := HQ.out;rw [List.take_length] at h;rw [HSNOC.out];exact h⟩⟩
  ·have b2 : decide ((i : Int) < (l.length : Int)) = false := decide_eq_false (by omega)
   obtain rfl : i = l.length := by omega
   have HJ' := Aside0.mk (show Bld w b (textT l) wr by have h := HJ.out;rw [List.take_length] at h;exact h)
   clear HJ
   go_wp2_with (go_at_call 122;refine (Tryz.Builder_String_any_k b b (textT l) wr HJ'.out.at_ (Nat.le_of_lt HJ'.out.blt)).mono ?_;rintro e w1 ⟨rfl,_,h1,_⟩)
   go_ret
   exact ⟨rfl,HJ'.out.below.trans (h1.mono HJ'.out.lt)⟩
end Go.Proofs.YtiidmjmkgjfaeaaGreatDoor.Ent

namespace Go.Proofs.YtiidmjmkgjfaeaaGreatDoor.Ent
open Go Go.RowKit Go.Shelf Go.Proofs.YtiidmjmkgjfaeaaGreatDoorW.PrintWords Go.Proofs.YtiidmjmkgjfaeaaGreatDoorW.PrintLast Go.Proofs.YtiidmjmkgjfaeaaGreatDoor.PA Go.Proofs.YtiidmjmkgjfaeaaGreatDoor.Pure
set_option linter.unusedVariables false
set_option linter.unusedSimpArgs false
def fieldS (st : List SF) (i : Nat) (f : SF) : Bool := !(getV f.f0 (st.take i)).2 && (nameS f.f0 && valueS f.f1)
def rightFrom (st : List SF) : Nat → List SF → Bool
 | _,[] => true
 | i,f :: r => fieldS st i f && rightFrom st (i + 1) r
def rightSt (st : List SF) : Bool := rightFrom st 0 st && (decide (0 < st.length) && decide (st.length ≤ 40))
def smF (f : SF) : Prop := f.f0.size ≤ 1000000 ∧ f.f1.size ≤ 1000000
theorem C_take {W : World} {A : Option Addr} {l : List SF} (h : KF.C W A l.length l) (i : Nat) (hi : i ≤ l.length) : KF.C W A (l.take i).length (l.take i) := by
 obtain ⟨_,h2,h3⟩ := h
 have hl : (l.take i).length = i := by rw [List.length_take];omega
 refine ⟨rfl,by rw [hl];omega,fun hp => ?_⟩
 obtain ⟨a,ha,hf⟩ := h3 (by omega)
 refine ⟨a,ha,fun j p hj => hf j p ?_⟩
 rw [List.getElem?_take] at hj
 split at hj
 ·exact hj
 ·cases hj
def sright4.T : Bool × List (List Nat × List Nat) := (true,[([],[]),([],[]),([0,1],[0,1]),([],[]),([3],[3]),([2,4],[2,4]),([5],[5]),([6],[6]),([6],[6]),([7,5,0,1,2,3,4,5,6,7],[7]),([8,9,0,1,2,3,4,5,6,7,8,9],[8])])
def sright4.B : List Nat := [0,0,3,0,8,31,63,127,127,255,1023]
theorem sright4.tab : rtab .any (opsOf Tryz.f118 4) = sright4.T := by kernel_rfl
theorem sright4.bits : waitsOk sright4.T.2 sright4.B = true := by kernel_rfl
set_option maxRecDepth 100000 in
set_option maxHeartbeats 8000000 in
theorem sright_calls {w : World} (hG : GL w) (A : Option Addr) (c : Nat) (l : List SF) (hr : KF.C w A l.length l) (hc : l.length ≤ c) (hl : l.length ≤ 1000000) (hs : ∀ f ∈ l,smF f) :
  Calls Tryz.prog 118 #[.slice A l.length c] w fun e w' => e = .returned (.bool (rightSt l)) ∧ Below w.heap.size w w' := by
 have HR := Aside0.mk hr
 have HL := Aside0.mk hl
 have HS := Aside0.mk hs
 have HG0 := Aside0.mk hG
 have HCC := Aside0.mk hc
 obtain ⟨r,hrr⟩ : ∃ r,rightSt l = r := ⟨_,rfl⟩
 rw [hrr]
 have HRR := Aside0.mk hrr
 clear hr hl hs hG hrr
 go_enter Tryz.func118,Tryz.ntmps118
 go_wp2
 go_loopg [9] l.length (fun gg v9 wr => ∃ i : Nat,i ≤ l.length ∧ l.length - i ≤ gg ∧ v9 = .int .i64 (i : Int) ∧ Aside0 (rightFrom l 0 l = rightFrom l i (l.drop i)) ∧ Aside0 (Below w.heap.size w wr))
 case atStart => exact ⟨0,Nat.zero_le _,by omega,rfl,⟨rfl⟩,⟨Below.refl _ _⟩⟩
 case round =>
  obtain ⟨i,hi,hg,rfl,HA,HB⟩ := hrel
  have bw : wrap64 ((i : Int) + 1) = ((i + 1 : Nat) : Int) := by have := HL.out;unfold wrap64;omega
  by_cases hlt : i < l.length
  ·have b2 : decide ((i : Int) < (l.length : Int)) = true := decide_eq_true (by omega)
   have p0 : (0 : Int) ≤ (i : Int) := by omega
   have p1 : (i : Int) < (l.length : Int) := by omega
   obtain ⟨ad,cs,rfl,hcl,hK,hcc⟩ := Kd.C_get (Kd.C_below HR.out HB.out) z92 (i : Int) p0 p1
   obtain ⟨f,hf,hm⟩ : ∃ f,l.getD (i : Int).toNat z92 = f ∧ l[i] = f := ⟨_,rfl,by rw [Int.toNat_natCast,List.getD_eq_getElem?_getD,List.getElem?_eq_getElem hlt];rfl⟩
   rw [hf] at hK
   obtain rfl := k92_open hK
   have hx0 : wr.cell? (ad.add (i * 2)) = some (.string f.f0) := by have := hcc 0 _ rfl;rwa [Int.toNat_natCast] at this
   have hx1 : wr.cell? ⟨(ad.add (i * 2)).block,(ad.add (i * 2)).off + 1,none⟩ = some (.string f.f1) := by rw [← add_field _ _ 1 (by omega)];have := hcc 1 _ rfl;rwa [Int.toNat_natCast] at this
   have hfs : smF f := HS.out f (hm ▸ List.getElem_mem hlt)
   have hdrop : rightFrom l i (l.drop i) = (fieldS l i f && rightFrom l (i + 1) (l.drop (i + 1))) := by rw [List.drop_eq_getElem_cons hlt,rightFrom,hm]
   have htk : (l.take i).length = i := by rw [List.length_take];omega
   obtain ⟨W1,hW1⟩ : ∃ W1,wr.alloc (.cells #[.string f.f0,.string f.f1] 92) = W1 := ⟨_,rfl⟩
   obtain ⟨g,hgd⟩ : ∃ g,wr.heap.size = g := ⟨_,rfl⟩
   have hb1 : Below wr.heap.size wr W1 := by rw [← hW1];exact qab (Below.refl _ _) _
   have HB1 := Aside0.mk (HB.out.trans (hb1.mono HB.out.size))
   have XB := Aside0.mk (show W1.heap[g]? = some (.cells #[.string f.f0,.string f.f1] 92 (0,0)) by rw [← hW1,← hgd];exact World.alloc_heap_new _ _)
   have hget := qb_get (some ad) c (l.take i) f.f0 (C_take (Kd.C_below HR.out HB1.out) i hi) (by rw [htk];have := HL.out;omega)
   rw [htk] at hget
   obtain ⟨gs,gt,hgv⟩ : ∃ gs gt,getV f.f0 (l.take i) = (gs,gt) := ⟨_,_,rfl⟩
   rw [hgv] at hget
   have HGET := Aside0.mk hget
   have HN := Aside0.mk (qb_sname (HG0.out.below HB1.out) f.f0 hfs.1)
   have HV := Aside0.mk (qb_value (HG0.out.below HB1.out) f.f1 hfs.2)
   have HF := Aside0.mk (show fieldS l i f = (!gt && (nameS f.f0 && valueS f.f1)) by unfold fieldS;rw [hgv])
   have HD := Aside0.mk hdrop
   have HLT := Aside0.mk hlt
   have HGG := Aside0.mk hg
   have hic : i ≤ c := by omega
   have hicd : decide ((i : Int) ≤ (c : Int)) = true := decide_eq_true (by omega)
   clear hget hgv hdrop hfs hcc hK hcl hm hf hb1 htk hg hlt hi
   go_wp2
   refine start_ (n := 11) (S := fun w' => w'.cell? ⟨g,0,none⟩ = some (.string f.f0) ∧ w'.cell? ⟨g,1,none⟩ = some (.string f.f1)) (ds := []) (mb 11 0) (by kernel_rfl) rfl rfl (box_cells XB.out) (fun hHeld => ?_);refine with_tabW sright4.tab sright4.bits (fun HT_ HW_ => ?_)
   refine pure_ (i := 0) (N := some 15) (v := ?_) (a' := ?_) (mb 11 1) rfl rfl (any_of HT_.out (by kernel_rfl)) (fun _ _ _ h => h) (Or.inl ⟨by rfl,?_⟩) ?_ ?_
   rotate_left
   ·intro w'
    go_simp
    (try with_reducible rfl)
   rotate_left
   ·simp only [Act.put,List.setIfInBounds_toArray,List.set_cons_zero,List.set_cons_succ,i64_w,i32_w]
    rfl
   refine pure_ (i := 1) (N := some 16) (v := ?_) (a' := ?_) (mb 11 3) rfl rfl (any_of HT_.out (by kernel_rfl)) (fun _ _ _ h => h) (Or.inl ⟨by rfl,?_⟩) ?_ ?_
   rotate_left
   ·intro w'
    go_simp
    (try with_reducible rfl)
   rotate_left
   ·simp only [Act.put,List.setIfInBounds_toArray,List.set_cons_zero,List.set_cons_succ,i64_w,i32_w]
    rfl
   refine pure_ (i := 2) (N := some 17) (v := ?_) (a' := ?_) (mb 11 7) rfl rfl (any_of HT_.out (by kernel_rfl)) (fun _ _ _ h => h) (Or.inl ⟨by rfl,?_⟩) ?_ ?_
   rotate_left
   ·intro w'
    go_simp
    (try with_reducible rfl)
   rotate_left
   ·simp only [Act.put,List.setIfInBounds_toArray,List.set_cons_zero,List.set_cons_succ,i64_w,i32_w]
    rfl
   refine pure_ (i := 3) (N := some 18) (v := ?_) (a' := ?_) (mb 11 15) rfl rfl (any_of HT_.out (by kernel_rfl)) (fun _ _ _ h => h) (Or.inl ⟨by rfl,?_⟩) ?_ ?_
   rotate_left
   ·intro w'
    go_simp
    (try with_reducible rfl)
   rotate_left
   ·simp only [Act.put,List.setIfInBounds_toArray,List.set_cons_zero,List.set_cons_succ,i64_w,i32_w]
    rfl
   refine take_ (i := 4) (N := some 19) (v := ?_) (a' := ?_) (mb 11 31) rfl rfl (take_ofW HT_.out HW_.out (by kernel_rfl)) (fun _ _ _ h => h) (Or.inl ⟨by rfl,?_⟩) hHeld ?_ ?_
   rotate_left
   ·rintro w' ⟨s0,s1⟩
    go_simp
    (try with_reducible rfl)
   rotate_left
   ·simp only [Act.put,List.setIfInBounds_toArray,List.set_cons_zero,List.set_cons_succ,i64_w,i32_w]
    rfl
   refine one_ (i := 5) (N := some 20) (mb 11 63) rfl rfl (one_of HT_.out (by kernel_rfl)) (by decide) (fun K hK => ?_)
   refine goes_ Tryz.func146 (by kernel_rfl) rfl #[.slice (some ad) i c,.string f.f0] (by rfl) rfl rfl (by (try simp only [List.map_toArray,List.map_cons,List.map_nil]);first | done | rfl) ?_
   refine (HGET.out _ (below_drew (Below.refl _ _))).mono ?_
   rintro en w2 ⟨rfl,hb2⟩
   have X2 := Aside0.mk ((hb2.block g (Array.getElem?_eq_some_iff.1 XB.out).1).trans XB.out)
   have B2 := Aside0.mk (HB1.out.trans ((below_drew (Below.refl _ _)).trans hb2 |>.mono HB1.out.size))
   have D2 := Aside0.mk (show Below W1.heap.size W1 w2 from (below_drew (Below.refl _ _)).trans hb2)
   clear hb2
   refine ⟨_,rfl,?_⟩
   refine hK.out _ _ (box_cells X2.out) (fun hHeld => ?_)
   clear hK K
   refine norm_ (a' := ?_) ?_ ?_
   rotate_left
   ·first | (show Act.put _ (some 20) _ = _;simp only [Act.put,List.setIfInBounds_toArray,List.set_cons_zero,List.set_cons_succ,i64_w,i32_w];rfl) | rfl
   refine pure_ (i := 6) (N := some 14) (v := ?_) (a' := ?_) (mb 11 127) rfl rfl (any_of HT_.out (by kernel_rfl)) (fun _ _ _ h => h) (Or.inl ⟨by rfl,?_⟩) ?_ ?_
   rotate_left
   ·intro w'
    go_simp
    (try with_reducible rfl)
   rotate_left
   ·simp only [Act.put,List.setIfInBounds_toArray,List.set_cons_zero,List.set_cons_succ,i64_w,i32_w]
    rfl
   refine pure_ (i := 7) (N := some 21) (v := ?_) (a' := ?_) (mb 11 255) rfl rfl (any_of HT_.out (by kernel_rfl)) (fun _ _ _ h => h) (Or.inl ⟨by rfl,?_⟩) ?_ ?_
   rotate_left
   ·intro w'
    go_simp
    (try with_reducible rfl)
   rotate_left
   ·simp only [Act.put,List.setIfInBounds_toArray,List.set_cons_zero,List.set_cons_succ,i64_w,i32_w]
    rfl
   refine pure_ (i := 8) (N := some 22) (v := ?_) (a' := ?_) (mb 11 511) rfl rfl (any_of HT_.out (by kernel_rfl)) (fun _ _ _ h => h) (Or.inl ⟨by rfl,?_⟩) ?_ ?_
   rotate_left
   ·intro w'
    go_simp
    (try with_reducible rfl)
   rotate_left
   ·simp only [Act.put,List.setIfInBounds_toArray,List.set_cons_zero,List.set_cons_succ,i64_w,i32_w]
    rfl
   refine pure_ (i := 9) (N := some 5) (v := ?_) (a' := ?_) (mb 11 1023) rfl rfl (any_of HT_.out (by kernel_rfl)) (fun _ _ _ h => h) (Or.inl ⟨by rfl,?_⟩) ?_ ?_
   rotate_left
   ·intro w'
    go_simp
    (try with_reducible rfl)
   rotate_left
   ·simp only [Act.put,List.setIfInBounds_toArray,List.set_cons_zero,List.set_cons_succ,i64_w,i32_w]
    rfl
   refine pure_ (i := 10) (N := some 6) (v := ?_) (a' := ?_) (mb 11 2047) rfl rfl (any_of HT_.out (by kernel_rfl)) (fun _ _ _ h => h) (Or.inl ⟨by rfl,?_⟩) ?_ ?_
   rotate_left
   ·intro w'
    go_simp
    (try with_reducible rfl)
   rotate_left
   ·simp only [Act.put,List.setIfInBounds_toArray,List.set_cons_zero,List.set_cons_succ,i64_w,i32_w]
    rfl
   refine done_ (done_of HT_.out (by kernel_rfl)) ?_
   obtain ⟨s0,s1⟩ := box_cells X2.out
   clear hHeld hx0 hx1 HGET
   have hfalse : fieldS l i f = false → r = false := fun h => by
    rw [← HRR.out];unfold rightSt;rw [HA.out,HD.out,h];rfl
   cases gt with
   | true =>
    obtain rfl := hfalse (by rw [HF.out];rfl)
    clear hfalse
    go_wp2
    go_ret
    exact ⟨rfl,B2.out⟩
   | false =>
   obtain ⟨nv,hnv⟩ : ∃ v,nameS f.f0 = v := ⟨_,rfl⟩
   obtain ⟨vv,hvv⟩ : ∃ v,valueS f.f1 = v := ⟨_,rfl⟩
   rw [hnv,hvv] at HF
   rw [hnv] at HN
   rw [hvv] at HV
   clear hnv hvv
   cases nv with
   | false =>
    obtain rfl := hfalse (by rw [HF.out];rfl)
    clear hfalse
    go_wp2_with (go_at_call 147;refine (HN.out _ D2.out).mono ?_;rintro en w3 ⟨rfl,hb3⟩)
    go_ret
    exact ⟨rfl,B2.out.trans (hb3.mono B2.out.size)⟩
   | true =>
   cases vv with
   | false =>
    obtain rfl := hfalse (by rw [HF.out];rfl)
    clear hfalse
    go_wp2_with (first
     | (go_at_call 148;refine (HV.out _ D3.out).mono ?_;rintro en w4 ⟨rfl,hb4⟩)
     | (go_at_call 147;refine (HN.out _ D2.out).mono ?_;rintro en w3 ⟨rfl,hb3⟩;have B3 := Aside0.mk (B2.out.trans (hb3.mono B2.out.size));have D3 := Aside0.mk (D2.out.trans (hb3.mono D2.out.size));obtain ⟨y0,y1⟩ := box_cells ((hb3.block g (Array.getElem?_eq_some_iff.1 X2.out).1).trans X2.out);clear hb3 s0 s1))
    go_ret
    exact ⟨rfl,B3.out.trans (hb4.mono B3.out.size)⟩
   | true =>
    clear hfalse
    go_wp2_with (first
     | (go_at_call 148;refine (HV.out _ D3.out).mono ?_;rintro en w4 ⟨rfl,hb4⟩)
     | (go_at_call 147;refine (HN.out _ D2.out).mono ?_;rintro en w3 ⟨rfl,hb3⟩;have B3 := Aside0.mk (B2.out.trans (hb3.mono B2.out.size));have D3 := Aside0.mk (D2.out.trans (hb3.mono D2.out.size));obtain ⟨y0,y1⟩ := box_cells ((hb3.block g (Array.getElem?_eq_some_iff.1 X2.out).1).trans X2.out);clear hb3 s0 s1))
    go_roundg (l.length - (i + 1))
    case measure => have := HGG.out;have := HLT.out;omega
    case rel => exact ⟨i + 1,HLT.out,Nat.le_refl _,by rw [bw],⟨by rw [HA.out,HD.out,HF.out];rfl⟩,⟨B3.out.trans (hb4.mono B3.out.size)⟩⟩
  ·have b2 : decide ((i : Int) < (l.length : Int)) = false := decide_eq_false (by omega)
   obtain rfl : i = l.length := by omega
   have hA := HA.out
   rw [List.drop_length,rightFrom] at hA
   have hR := HRR.out
   unfold rightSt at hR
   rw [hA,Bool.true_and] at hR
   have HLL := HL.out
   obtain ⟨n,hn⟩ : ∃ n,l.length = n := ⟨_,rfl⟩
   by_cases h0 : 0 < l.length
   ·rw [decide_eq_true h0,Bool.true_and] at hR
    have d0 : decide ((0 : Int) < (l.length : Int)) = true := decide_eq_true (by omega)
    have d1 : decide (0 < l.length) = true := decide_eq_true h0
    by_cases h4 : l.length ≤ 40
    ·rw [decide_eq_true h4] at hR
     subst hR
     have d2 : decide ((l.length : Int) ≤ 40) = true := decide_eq_true (by omega)
     have d3 : decide (l.length ≤ 40) = true := decide_eq_true h4
     clear hA hn h0 h4 HLL
     go_wp2
     go_ret
     exact ⟨rfl,HB.out⟩
    ·rw [decide_eq_false h4] at hR
     subst hR
     have d2 : decide ((l.length : Int) ≤ 40) = false := decide_eq_false (by omega)
     have d3 : decide (l.length ≤ 40) = false := decide_eq_false h4
     clear hA hn h0 h4 HLL
     go_wp2
     go_ret
     exact ⟨rfl,HB.out⟩
   ·rw [decide_eq_false h0,Bool.false_and] at hR
    subst hR
    have d0 : decide ((0 : Int) < (l.length : Int)) = false := decide_eq_false (by omega)
    have d1 : decide (0 < l.length) = false := decide_eq_false h0
    clear hA hn h0 HLL
    go_wp2
    go_ret
    exact ⟨rfl,HB.out⟩
end Go.Proofs.YtiidmjmkgjfaeaaGreatDoor.Ent

namespace Go.Proofs.YtiidmjmkgjfaeaaGreatDoor.Ent
open Go Go.RowKit Go.Shelf Go.Proofs.YtiidmjmkgjfaeaaGreatDoorW.PrintWords Go.Proofs.YtiidmjmkgjfaeaaGreatDoor.PA Go.Proofs.YtiidmjmkgjfaeaaGreatDoor.Pure
set_option linter.unusedVariables false
set_option linter.unusedSimpArgs false
structure SmS (l : List (List SF)) : Prop where
 len : l.length ≤ 1000000
 text : (textT l).length ≤ 1000000000
 each : ∀ st ∈ l,st.length ≤ 1000000 ∧ ∀ f ∈ st,smF f
def rightT (l : List (List SF)) : Bool := decide (l.length ≤ 200) && (!(l.any fun st => !rightSt st) && decide ((textT l).length ≤ 60000))
def printT (l : List (List SF)) : ByteArray := if rightT l = true then ⟨(textT l).toArray⟩ else ⟨#[]⟩
theorem qb_sright {w : World} (hG : GL w) (A : Option Addr) (c : Nat) (l : List SF) (hr : KF.C w A l.length l) (hc : l.length ≤ c) (hl : l.length ≤ 1000000) (hs : ∀ f ∈ l,smF f) : QB w 118 #[.slice A l.length c] (.bool (rightSt l)) := fun W hb =>
 sright_calls (hG.below hb) A c l (Kd.C_below hr hb) hc hl hs
theorem qb_text {w : World} (hG : GL w) (A : Option Addr) (c : Nat) (l : List (List SF)) (hr : KS.C w A l.length l) (s : SmS l) : QB w 87 #[.slice A l.length c] (.string ⟨(textT l).toArray⟩) := fun W hb =>
 text_calls (hG.below hb) A c l (Kd.C_below hr hb) s.len s.text s.each
theorem right1_pred {w : World} (hG : GL w) (l : List (List SF)) (s : SmS l) : PredC KS (fun st => !rightSt st) 117 #[] w l := by
 intro W x cs hb hm hK
 obtain ⟨A,c,rfl,hc,hC⟩ := hK
 have HP := Aside0.mk (qb_sright (hG.below hb) A c x hC hc (s.each x hm).1 (s.each x hm).2)
 have HB := Aside0.mk hb
 clear hm hb hC hc s hG
 show Calls Tryz.prog 117 #[.slice A x.length c] W _
 go_enter Tryz.func117,Tryz.ntmps117
 go_wp2_with (go_at_call 118;refine (HP.out.at_ (Below.refl _ _)).mono ?_;rintro e w' ⟨rfl,hb'⟩)
 go_ret
 exact ⟨rfl,HB.out.trans (hb'.mono HB.out.size)⟩
set_option maxHeartbeats 1000000 in
set_option maxRecDepth 100000 in
theorem Right_calls {w : World} (hG : GL w) (A : Option Addr) (c : Nat) (l : List (List SF)) (hr : KS.C w A l.length l) (s : SmS l) :
  Calls Tryz.prog 86 #[.slice A l.length c] w fun e w' => e = .returned (.bool (rightT l)) ∧ Below w.heap.size w w' := by
 unfold rightT
 by_cases h2 : l.length ≤ 200
 case neg =>
  rw [decide_eq_false h2,Bool.false_and]
  have d0 : decide ((l.length : Int) ≤ 200) = false := decide_eq_false (by omega)
  have d1 : decide (l.length ≤ 200) = false := decide_eq_false h2
  clear hG hr s h2
  go_enter Tryz.func86,Tryz.ntmps86
  go_wp2
  go_ret
  exact ⟨rfl,Below.refl _ _⟩
 rw [decide_eq_true h2,Bool.true_and]
 have d0 : decide ((l.length : Int) ≤ 200) = true := decide_eq_true (by omega)
 have d1 : decide (l.length ≤ 200) = true := decide_eq_true h2
 have hC := containsSt (fun st => !rightSt st) 117 #[] (enters_of Tryz.func117 (by kernel_rfl) rfl) w A c l (right1_pred hG l s) hr (by omega)
 have hT := qb_text hG A c l hr s
 obtain ⟨v,hv⟩ : ∃ v,(l.any fun st => !rightSt st) = v := ⟨_,rfl⟩
 rw [hv] at hC ⊢
 have HC := Aside0.mk hC
 have HT := Aside0.mk hT
 clear hG hr s h2 hv hC hT
 cases v with
 | true =>
  rw [Bool.not_true,Bool.false_and]
  go_enter Tryz.func86,Tryz.ntmps86
  go_wp2_with (go_at_call 116;refine HC.out.mono ?_;rintro e w1 ⟨rfl,hb1⟩)
  go_ret
  exact ⟨rfl,hb1⟩
 | false =>
  rw [Bool.not_false,Bool.true_and]
  go_enter Tryz.func86,Tryz.ntmps86
  go_wp2_with (first
   | (go_at_call 87;refine (HT.out _ HB1.out).mono ?_;rintro e w2 ⟨rfl,hb2⟩)
   | (go_at_call 116;refine HC.out.mono ?_;rintro e w1 ⟨rfl,hb1⟩;have HB1 := Aside0.mk hb1;clear hb1))
  go_ret
  exact ⟨by first | rfl | (simp;done) | (congr 2;simp;omega),HB1.out.trans (hb2.mono HB1.out.size)⟩
set_option maxHeartbeats 1000000 in
set_option maxRecDepth 100000 in
theorem Print_calls {w : World} (hG : GL w) (A : Option Addr) (c : Nat) (l : List (List SF)) (hr : KS.C w A l.length l) (s : SmS l) :
  Calls Tryz.prog 64 #[.slice A l.length c] w fun e w' => e = .returned (.string (printT l)) ∧ Below w.heap.size w w' := by
 have hR := Right_calls hG A c l hr s
 have hT := qb_text hG A c l hr s
 unfold printT
 obtain ⟨v,hv⟩ : ∃ v,rightT l = v := ⟨_,rfl⟩
 rw [hv] at hR ⊢
 have HR := Aside0.mk hR
 have HT := Aside0.mk hT
 clear hG hr s hv hR hT
 cases v with
 | false =>
  rw [if_neg (by decide)]
  go_enter Tryz.func64,Tryz.ntmps64
  go_wp2_with (go_at_call 86;refine HR.out.mono ?_;rintro e w1 ⟨rfl,hb1⟩)
  go_ret
  exact ⟨rfl,hb1⟩
 | true =>
  rw [if_pos rfl]
  go_enter Tryz.func64,Tryz.ntmps64
  go_wp2_with (first
   | (go_at_call 87;refine (HT.out _ HB1.out).mono ?_;rintro e w2 ⟨rfl,hb2⟩)
   | (go_at_call 86;refine HR.out.mono ?_;rintro e w1 ⟨rfl,hb1⟩;have HB1 := Aside0.mk hb1;clear hb1))
  go_ret
  exact ⟨rfl,HB1.out.trans (hb2.mono HB1.out.size)⟩
end Go.Proofs.YtiidmjmkgjfaeaaGreatDoor.Ent

