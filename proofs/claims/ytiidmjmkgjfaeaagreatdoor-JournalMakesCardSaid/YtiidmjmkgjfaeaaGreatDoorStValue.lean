import Derived.Test.YtiidmjmkgjfaeaaGreatDoorHeIdx
import Derived.Test.YtiidmjmkgjfaeaaGreatDoorEntRight
import Derived.Test.YtiidmjmkgjfaeaaGreatDoorShelf3
import Derived.Test.YtiidmjmkgjfaeaaGreatDoorPAx6
namespace Go.Proofs.YtiidmjmkgjfaeaaGreatDoor.Ent
open Go Go.RowKit Go.Shelf Go.Proofs.YtiidmjmkgjfaeaaGreatDoorW.PrintWords Go.Proofs.YtiidmjmkgjfaeaaGreatDoor.PA Go.Proofs.YtiidmjmkgjfaeaaGreatDoor.Pure
set_option linter.unusedVariables false
set_option linter.unusedSimpArgs false
def belowV (least : Int) (s : ByteArray) : Bool := (bytesOf s).any (fun c => decide (c < least))
theorem below1_pred {w : World} (least : Int) (D : Nat) (hD : w.cell? ⟨D,0,none⟩ = some (.int .u8 least)) (l : List Int) :
  PredC (Kd.int .u8) (fun c => decide (c < least)) 206 #[.pointer (some ⟨D,0,none⟩)] w l := by
 intro W c cs hb hm hK
 obtain rfl : cs = [.int .u8 c] := hK
 have gD := (hb.cell (World.block_lt_of_cell? _ _ hD)).trans hD
 have HB := Aside0.mk hb
 clear hD hm hb
 show Calls Tryz.prog 206 #[.int .u8 c,.pointer (some ⟨D,0,none⟩)] W _
 go_enter Tryz.func206,Tryz.ntmps206
 go_wp2
 go_ret
 exact ⟨rfl,HB.out⟩
set_option maxHeartbeats 4000000 in
set_option maxRecDepth 100000 in
theorem below_calls {w : World} (s : ByteArray) (least : Int) (hs : s.size ≤ 1000000) :
  Calls Tryz.prog 181 #[.string s,.int .u8 least] w fun e w' => e = .returned (.bool (belowV least s)) ∧ Below w.heap.size w w' := by
 have kb : ∀ W : World,(convert 9 116 (.string s)).run Tryz.prog W = .ok (.slice (some ⟨W.heap.size,0,none⟩) s.size (grownCap W s.size 0 5)) (Lib.bytesWorld W 5 s) := fun W => print_bytes 9 116 5 Tryz.underlying9 Tryz.underlying116 Tryz.underlying5 s W
 obtain ⟨W1,hW1⟩ : ∃ W1,w.alloc (.cells #[.int .u8 least] 5) = W1 := ⟨_,rfl⟩
 have hb1 : Below w.heap.size w W1 := by rw [← hW1];exact qab (Below.refl _ _) _
 have hD1 : W1.cell? ⟨w.heap.size,0,none⟩ = some (.int .u8 least) := by rw [← hW1,World.cell?_alloc_new];rfl
 have hb2 : Below W1.heap.size W1 (Lib.bytesWorld W1 5 s) := bytes_below (Below.refl _ _) (Nat.le_refl _) 5 s
 have hD2 : (Lib.bytesWorld W1 5 s).cell? ⟨w.heap.size,0,none⟩ = some (.int .u8 least) := (hb2.cell (World.block_lt_of_cell? _ _ hD1)).trans hD1
 have hK2 : Kd.C (Kd.int .u8) (Lib.bytesWorld W1 5 s) (some ⟨W1.heap.size,0,none⟩) s.size (bytesOf s) := Kd.C_of_reads (enc := Value.int .u8) (d := (0 : Int)) (h1 := fun _ => rfl) (bytes_reads W1 5 s (by omega))
 have hC := containsByte (fun c => decide (c < least)) 206 #[.pointer (some ⟨w.heap.size,0,none⟩)] (enters_of Tryz.func206 (by kernel_rfl) rfl) (Lib.bytesWorld W1 5 s) (some ⟨W1.heap.size,0,none⟩) (grownCap W1 s.size 0 5) (bytesOf s) (below1_pred least w.heap.size hD2 (bytesOf s)) (by rw [bytesOf_length];exact hK2) (by rw [bytesOf_length];omega)
 rw [bytesOf_length] at hC
 have HC := Aside0.mk hC
 have HB := Aside0.mk (hb1.trans (hb2.mono hb1.size))
 clear hs hb1 hD1 hb2 hD2 hK2 hC
 go_enter Tryz.func181,Tryz.ntmps181
 go_wp2_with (go_at_call 106;go_loud (refine HC.out.mono ?_);rintro e w' ⟨rfl,hb'⟩)
 go_ret
 exact ⟨rfl,HB.out.trans (hb'.mono HB.out.size)⟩
theorem qb_below {w : World} (s : ByteArray) (least : Int) (hs : s.size ≤ 1000000) : QB w 181 #[.string s,.int .u8 least] (.bool (belowV least s)) := fun W hb => below_calls s least hs
abbrev letB : ByteArray := ⟨#[97,98,99,100,101,102,103,104,105,106,107,108,109,110,111,112,113,114,115,116,117,118,119,120,121,122,65,66,67,68,69,70,71,72,73,74,75,76,77,78,79,80,81,82,83,84,85,86,87,88,89,90]⟩
abbrev sgnB : ByteArray := ⟨#[97,98,99,100,101,102,103,104,105,106,107,108,109,110,111,112,113,114,115,116,117,118,119,120,121,122,65,66,67,68,69,70,71,72,73,74,75,76,77,78,79,80,81,82,83,84,85,86,87,88,89,90,48,49,50,51,52,53,54,55,56,57,45]⟩
def sgnV (c : Int) : Bool := decide (0 ≤ Lib.indexByte sgnB.data.toList c.toNat.toUInt8)
def nameS (s : ByteArray) : Bool := !s.toList.isEmpty && (decide (s.size ≤ 40) && (decide (0 ≤ Lib.indexByte letB.data.toList (bt s 0).toNat.toUInt8) && !(bytesOf s).any (fun c => !sgnV c)))
theorem name1_pred {w : World} (hG : GL w) (l : List Int) : PredC (Kd.int .u8) (fun c => !sgnV c) 175 #[] w l := by
 intro W c cs hb hm hK
 obtain rfl : cs = [.int .u8 c] := hK
 have HI := Aside0.mk (strings_IndexByte.calls sgnB c _ W (hG.below hb) rfl)
 have HB := Aside0.mk hb
 obtain ⟨t,ht⟩ : ∃ t,Lib.indexByte sgnB.data.toList c.toNat.toUInt8 = t := ⟨_,rfl⟩
 show Calls Tryz.prog 175 #[.int .u8 c] W fun e w' => e = .returned (.bool (!decide (0 ≤ Lib.indexByte sgnB.data.toList c.toNat.toUInt8))) ∧ Below w.heap.size w w'
 rw [ht] at HI
 rw [ht]
 have e : (!decide (0 ≤ t)) = decide (t < 0) := by by_cases h : 0 ≤ t <;> simp [h];omega
 rw [e]
 clear hm hb hG ht e
 go_enter Tryz.func175,Tryz.ntmps175
 go_wp2_with (go_at_call 105;(with_reducible refine HI.out.mono ?_);rintro e w' ⟨rfl,hd⟩)
 go_ret
 exact ⟨rfl,HB.out.trans (hd.below.mono HB.out.size)⟩
set_option maxHeartbeats 1000000 in
set_option maxRecDepth 100000 in
theorem sname_calls {w : World} (hG : GL w) (s : ByteArray) (hs : s.size ≤ 1000000) :
  Calls Tryz.prog 147 #[.string s] w fun e w' => e = .returned (.bool (nameS s)) ∧ Below w.heap.size w w' := by
 unfold nameS
 by_cases h0 : s.toList = []
 ·have h1 : s.toList.isEmpty = true := by rw [h0];rfl
  rw [h1,Bool.not_true,Bool.false_and]
  clear hG hs
  go_enter Tryz.func147,Tryz.ntmps147
  go_wp2
  go_ret
  exact ⟨rfl,Below.refl _ _⟩
 ·have h1 : s.toList.isEmpty = false := by cases h : s.toList <;> simp_all
  rw [h1,Bool.not_false,Bool.true_and]
  by_cases c2 : s.size ≤ 40
  case neg =>
   rw [decide_eq_false c2,Bool.false_and]
   have b2 : decide ((s.size : Int) ≤ 40) = false := decide_eq_false (by omega)
   clear hG hs c2
   go_enter Tryz.func147,Tryz.ntmps147
   go_wp2
   go_ret
   exact ⟨rfl,Below.refl _ _⟩
  have b2 : decide ((s.size : Int) ≤ 40) = true := decide_eq_true (by omega)
  rw [decide_eq_true c2,Bool.true_and]
  have b1'' : 0 < s.size := by
   have : s.toList.length ≠ 0 := fun h => h0 (List.length_eq_zero_iff.1 h)
   rw [Lib.toList_data,Array.length_toList] at this
   exact Nat.pos_of_ne_zero this
  have b1' : decide ((0 : Int) < (s.size : Int)) = true := decide_eq_true (by omega)
  have hx0 : ((s[0]'b1'').toNat : Int) = bt s 0 := bt_at s 0 b1''
  have hI := strings_IndexByte.calls letB (bt s 0) _ w hG rfl
  obtain ⟨t,ht⟩ : ∃ t,Lib.indexByte letB.data.toList (bt s 0).toNat.toUInt8 = t := ⟨_,rfl⟩
  rw [ht] at hI
  rw [ht]
  have HI := Aside0.mk hI
  clear hI ht
  by_cases c3 : 0 ≤ t
  case neg =>
   rw [decide_eq_false c3,Bool.false_and]
   have b3 : decide (0 ≤ t) = false := decide_eq_false c3
   clear hG hs c2 c3
   go_enter Tryz.func147,Tryz.ntmps147
   go_wp2_with (go_at_call 105;refine calls_of_args (args' := #[.string letB,.int .u8 (bt s 0)]) (by first | rfl | rw [hx0]) ?_;(with_reducible refine HI.out.mono ?_);rintro e w' ⟨rfl,⟨nd,rfl⟩⟩)
   go_ret
   exact ⟨rfl,Drawn0.below ⟨⟨_,rfl⟩⟩⟩
  have b3 : decide (0 ≤ t) = true := decide_eq_true c3
  rw [decide_eq_true c3,Bool.true_and]
  have kb : ∀ W : World,(convert 9 116 (.string s)).run Tryz.prog W = .ok (.slice (some ⟨W.heap.size,0,none⟩) s.size (grownCap W s.size 0 5)) (Lib.bytesWorld W 5 s) := fun W => print_bytes 9 116 5 Tryz.underlying9 Tryz.underlying116 Tryz.underlying5 s W
  have hBW : ∀ n : Nat,Below w.heap.size w (Lib.bytesWorld (w.drewN n) 5 s) := fun n => by
   have h1 : Below w.heap.size w (w.drewN n) := Drawn0.below ⟨⟨n,rfl⟩⟩
   exact bytes_below h1 h1.size 5 s
  have hKW : ∀ n : Nat,Kd.C (Kd.int .u8) (Lib.bytesWorld (w.drewN n) 5 s) (some ⟨(w.drewN n).heap.size,0,none⟩) s.size (bytesOf s) := fun n =>
   Kd.C_of_reads (enc := Value.int .u8) (d := (0 : Int)) (h1 := fun _ => rfl) (bytes_reads (w.drewN n) 5 s (by omega))
  have HBW := Aside0.mk hBW
  have HCC := Aside0.mk (show ∀ n c0,Calls Tryz.prog 106 #[.slice (some ⟨(w.drewN n).heap.size,0,none⟩) s.size c0,.func (.func 175) #[] #[]] (Lib.bytesWorld (w.drewN n) 5 s) fun e w' => e = .returned (.bool ((bytesOf s).any fun c => !sgnV c)) ∧ Below (Lib.bytesWorld (w.drewN n) 5 s).heap.size (Lib.bytesWorld (w.drewN n) 5 s) w' from fun n c0 => by
   have := containsByte (fun c => !sgnV c) 175 #[] (enters_of Tryz.func175 (by kernel_rfl) rfl) (Lib.bytesWorld (w.drewN n) 5 s) (some ⟨(w.drewN n).heap.size,0,none⟩) c0 (bytesOf s) (name1_pred (hG.below (hBW n)) (bytesOf s)) (by rw [bytesOf_length];exact hKW n) (by rw [bytesOf_length];omega)
   rw [bytesOf_length] at this
   exact this)
  obtain ⟨r,hr⟩ : ∃ r,((bytesOf s).any fun c => !sgnV c) = r := ⟨_,rfl⟩
  rw [hr] at HCC
  rw [hr]
  clear hG hs c2 c3 hBW hKW hr
  go_enter Tryz.func147,Tryz.ntmps147
  go_wp2_with (first
   | (go_at_call 106;go_loud (refine (HCC.out nd _).mono ?_;rintro e w2 ⟨rfl,hb2⟩))
   | (go_at_call 105;refine calls_of_args (args' := #[.string letB,.int .u8 (bt s 0)]) (by first | rfl | rw [hx0]) ?_;(with_reducible refine HI.out.mono ?_);rintro e w' ⟨rfl,⟨nd,rfl⟩⟩))
  go_ret
  exact ⟨rfl,(HBW.out nd).trans (hb2.mono (HBW.out nd).size)⟩
theorem qb_sname {w : World} (hG : GL w) (s : ByteArray) (hs : s.size ≤ 1000000) : QB w 147 #[.string s] (.bool (nameS s)) := fun W hb => sname_calls (hG.below hb) s hs
end Go.Proofs.YtiidmjmkgjfaeaaGreatDoor.Ent

namespace Go.Proofs.YtiidmjmkgjfaeaaGreatDoor.Ent
open Go Go.RowKit Go.Shelf Go.Proofs.YtiidmjmkgjfaeaaGreatDoorW.PrintWords Go.Proofs.YtiidmjmkgjfaeaaGreatDoor.PA Go.Proofs.YtiidmjmkgjfaeaaGreatDoor.Pure
set_option linter.unusedVariables false
set_option linter.unusedSimpArgs false
abbrev nlB : ByteArray := ⟨#[10]⟩
abbrev blB : ByteArray := ⟨#[32]⟩
def linesB (s : ByteArray) : List ByteArray := Lib.splitB nlB 0 (Lib.countB s nlB) s
def emptyB (x : ByteArray) : Bool := x.toList.isEmpty
def valueS (s : ByteArray) : Bool := !Lib.hasPrefix s.data.toList blB.data.toList && (!(linesB s).tail.any emptyB && !(linesB s).any (belowV 32))
theorem nil_toList : (⟨#[]⟩ : ByteArray).toList = [] := by rw [Lib.toList_data]
theorem index_empty_l0 (l : List ByteArray) (hl : l.length ≤ 1000000) : ∀ (n i : Nat),n + i = l.length → ∃ t : Int,Ev (fun k => slices_Index_string_string.l0 k l (⟨#[]⟩ : ByteArray) (l.length : Int) (i : Int)) t ∧ decide (t ≥ 0) = (l.drop i).any emptyB
 | 0,i,h => by
  refine ⟨-1,Ev.shift ?_,by rw [List.drop_of_length_le (by omega)];rfl⟩
  simp only [slices_Index_string_string.l0]
  exact Ev.neg (by omega) (Ev.some_ _)
 | n + 1,i,h => by
  have hi : i < l.length := by omega
  have hrd : rdOf ByteArray.empty l (i : Int) = l[i] := by
   unfold rdOf
   rw [Int.toNat_natCast,List.getD_eq_getElem?_getD,List.getElem?_eq_getElem hi]
   rfl
  rw [List.drop_eq_getElem_cons hi,List.any_cons]
  by_cases he : emptyB l[i] = true
  ·refine ⟨(i : Int),Ev.shift ?_,by rw [he,Bool.true_or];exact decide_eq_true (by omega)⟩
   simp only [slices_Index_string_string.l0,hrd]
   have : (⟨#[]⟩ : ByteArray).toList = l[i].toList := by
    unfold emptyB at he
    rw [List.isEmpty_iff.1 he]
    exact nil_toList
   exact Ev.pos (by omega) (Ev.pos (by omega) (Ev.pos (by omega) (Ev.pos this (Ev.some_ _))))
  ·obtain ⟨t,ht,hd⟩ := index_empty_l0 l hl n (i + 1) (by omega)
   refine ⟨t,Ev.shift ?_,by rw [Bool.eq_false_iff.2 he,Bool.false_or];exact hd⟩
   simp only [slices_Index_string_string.l0,hrd]
   have : ¬ (⟨#[]⟩ : ByteArray).toList = l[i].toList := fun e => he (by
    unfold emptyB
    rw [← e,nil_toList]
    rfl)
   refine Ev.pos (by omega) (Ev.pos (by omega) (Ev.pos (by omega) (Ev.neg this ?_)))
   rw [show wrap64 ((i : Int) + 1) = ((i + 1 : Nat) : Int) by unfold wrap64;omega]
   exact ht
theorem qb_hasEmpty {w : World} (hG : GL w) (A : Option Addr) (c : Nat) (l : List ByteArray) (hr : Kd.C Kd.string w A l.length l) (hc : l.length ≤ c) (hl : l.length ≤ 1000000) : QB w 178 #[.slice A l.length c,.string ⟨#[]⟩] (.bool (l.any emptyB)) := fun W hb => by
 obtain ⟨t,⟨k,hk⟩,hd⟩ := index_empty_l0 l hl l.length 0 (by omega)
 rw [List.drop_zero] at hd
 have hf : slices_Contains_string_string.f k l ⟨#[]⟩ = some (l.any emptyB) := by
  unfold slices_Contains_string_string.f slices_Index_string_string.f
  have this : slices_Index_string_string.l0 k l ⟨#[]⟩ (l.length : Int) 0 = some t := hk k (Nat.le_refl _)
  rw [this,← hd]
  rfl
 exact (slices_Contains_string_string.calls k A c l ⟨#[]⟩ _ W (hG.below hb) (Kd.C_below hr hb) hc hf).mono fun e w' ⟨h1,h2⟩ => ⟨h1,h2.below⟩
theorem splitB_small (sep : ByteArray) : ∀ (k : Nat) (s : ByteArray),∀ x ∈ Lib.splitB sep 0 k s,x.size ≤ s.size
 | 0,s,x,h => by
  rw [Lib.splitB_zero] at h
  rw [List.mem_singleton.1 h]
  exact Nat.le_refl _
 | k + 1,s,x,h => by
  unfold Lib.splitB at h
  split at h
  ·rw [List.mem_singleton.1 h]
   exact Nat.le_refl _
  ·rcases List.mem_cons.1 h with rfl | h
   ·rw [ByteArray.size_extract];omega
   ·have := splitB_small sep k _ x h
    rw [ByteArray.size_extract] at this
    omega
theorem lines_small (s : ByteArray) (hs : s.size ≤ 1000000) : ∀ x ∈ linesB s,x.size ≤ 1000000 := fun x hx => Nat.le_trans (splitB_small _ _ _ x hx) hs
theorem value1_pred {w : World} (l : List ByteArray) (hl : ∀ x ∈ l,x.size ≤ 1000000) : PredC Kd.string (belowV 32) 180 #[] w l := by
 intro W x cs hb hm hK
 obtain rfl : cs = [.string x] := hK
 have HP := Aside0.mk (qb_below (w := W) x 32 (hl x hm))
 have HB := Aside0.mk hb
 clear hm hb hl
 show Calls Tryz.prog 180 #[.string x] W _
 go_enter Tryz.func180,Tryz.ntmps180
 go_wp2_with (go_at_call 181;refine (HP.out.at_ (Below.refl _ _)).mono ?_;rintro e w' ⟨rfl,hb'⟩)
 go_ret
 exact ⟨rfl,HB.out.trans (hb'.mono HB.out.size)⟩
theorem lines_len (s : ByteArray) : (linesB s).length = Lib.countB s nlB + 1 := Lib.splitB_all nlB (by decide) 0 _ s rfl
theorem tail_C {W : World} {b : Nat} {l : List ByteArray} (h : Kd.C Kd.string W (some ⟨b,0,none⟩) l.length l) (h2 : 2 ≤ l.length) : Kd.C Kd.string W (some ⟨b,1,none⟩) l.tail.length l.tail := by
 obtain ⟨h1,h3,h4⟩ := h
 obtain ⟨a,ha,hf⟩ := h4 (by omega)
 cases ha
 refine ⟨rfl,by simp at h3 ⊢;omega,fun _ => ⟨⟨b,1,none⟩,rfl,fun j p hj => ?_⟩⟩
 obtain ⟨cs,g1,g2,g3⟩ := hf (j + 1) p (by rw [← List.getElem?_tail];exact hj)
 refine ⟨cs,g1,g2,fun i u hi => ?_⟩
 have := g3 i u hi
 have e : (Addr.add ⟨b,0,none⟩ ((j + 1) * Kd.string.sz + i)) = (Addr.add ⟨b,1,none⟩ (j * Kd.string.sz + i)) := by
  show Addr.add ⟨b,0,none⟩ ((j + 1) * 1 + i) = Addr.add ⟨b,1,none⟩ (j * 1 + i)
  unfold Addr.add
  split <;> split <;> simp_all <;> omega
 rw [e] at this
 exact this
theorem split_at {w : World} (hG : GL w) (s : ByteArray) (hs : s.size ≤ 1000000) : Calls Tryz.prog 176 #[.string s,.string nlB] w fun e w' => e = .returned (.slice (some ⟨w.heap.size,0,none⟩) (linesB s).length (linesB s).length) ∧ Kd.C Kd.string w' (some ⟨w.heap.size,0,none⟩) (linesB s).length (linesB s) ∧ Below w.heap.size w w' := by
 obtain ⟨m,hm⟩ := hG.maxLen
 refine (Tryz.strings_Split s nlB m w (by omega) hm (by decide)).mono ?_
 rintro e w' ⟨h1,h2⟩
 rw [lines_len]
 refine ⟨h1,?_,by rw [h2];exact qab (Below.refl _ _) _⟩
 have hlen := lines_len s
 have hle := Lib.countB_le nlB (by decide) s.size s (Nat.le_refl _)
 refine ⟨hlen,by omega,fun _ => ⟨⟨w.heap.size,0,none⟩,rfl,fun j p hj => ⟨[.string p],rfl,rfl,fun i u hi => ?_⟩⟩⟩
 have hi0 : i = 0 ∧ u = .string p := by
  match i,hi with
  | 0,hi => exact ⟨rfl,by simpa using hi.symm⟩
 obtain ⟨rfl,rfl⟩ := hi0
 rw [h2,show (Addr.add ⟨w.heap.size,0,none⟩ (j * Kd.string.sz + 0)) = ⟨w.heap.size,j,none⟩ by
  show Addr.add ⟨w.heap.size,0,none⟩ (j * 1 + 0) = _
  unfold Addr.add
  split <;> simp_all]
 rw [World.cell?_alloc_new]
 have : (linesB s)[j]? = some p := hj
 unfold linesB at this
 simp [this]
set_option maxHeartbeats 1000000 in
set_option maxRecDepth 100000 in
theorem value_two {w : World} (hG : GL w) (s : ByteArray) (hs : s.size ≤ 1000000) (h2 : 2 ≤ (linesB s).length) (hP : Lib.hasPrefix s.data.toList blB.data.toList = false) (hE : (linesB s).tail.any emptyB = false) :
  Calls Tryz.prog 148 #[.string s] w fun e w' => e = .returned (.bool (!(linesB s).any (belowV 32))) ∧ Below w.heap.size w w' := by
 have HS := Aside0.mk (split_at hG s hs)
 have hF := fun W => Tryz.strings_HasPrefix s blB W
 rw [hP] at hF
 have HF := Aside0.mk hF
 obtain ⟨n,hn⟩ : ∃ n,(linesB s).length = n := ⟨_,rfl⟩
 have ht : (linesB s).tail.length = n - 1 := by rw [List.length_tail,hn]
 have hle := Lib.countB_le nlB (by decide) s.size s (Nat.le_refl _)
 have hln := lines_len s
 have HC := Aside0.mk (show ∀ W1,Below w.heap.size w W1 → Kd.C Kd.string W1 (some ⟨w.heap.size,0,none⟩) (linesB s).length (linesB s) → Calls Tryz.prog 178 #[.slice (some ⟨w.heap.size,1,none⟩) (n - 1) (n - 1),.string ⟨#[]⟩] W1 fun e w' => e = .returned (.bool false) ∧ Below W1.heap.size W1 w' from fun W1 hb hC => by
  have := (qb_hasEmpty (hG.below hb) (some ⟨w.heap.size,1,none⟩) (n - 1) (linesB s).tail (tail_C hC (by omega)) (by omega) (by omega)).at_ (Below.refl _ _)
  rw [hE,ht] at this
  exact this)
 have HA := Aside0.mk (show ∀ W1,Kd.C Kd.string W1 (some ⟨w.heap.size,0,none⟩) (linesB s).length (linesB s) → Calls Tryz.prog 179 #[.slice (some ⟨w.heap.size,0,none⟩) n n,.func (.func 180) #[] #[]] W1 fun e w' => e = .returned (.bool ((linesB s).any (belowV 32))) ∧ Below W1.heap.size W1 w' from fun W1 hC => by
  have := containsStr (belowV 32) 180 #[] (enters_of Tryz.func180 (by kernel_rfl) rfl) W1 (some ⟨w.heap.size,0,none⟩) n (linesB s) (value1_pred (linesB s) (lines_small s hs)) hC (by omega)
  rw [hn] at this
  exact this)
 rw [hn] at HS
 have hn2 : 2 ≤ n := by omega
 have hnb : n ≤ 1000001 := by omega
 clear hG hs h2 hP hE hF ht hle hln
 go_enter Tryz.func148,Tryz.ntmps148
 go_wp2_with (first
  | (go_at_call 179;go_loud (refine (HA.out _ (Kd.C_below K3.out (Below.refl _ _))).mono ?_);rintro e w4 ⟨rfl,hb4⟩)
  | (go_at_call 178;go_loud (refine (HC.out _ B1.out K1.out).mono ?_);rintro e w3 ⟨rfl,hb3⟩;have B3 := Aside0.mk (B1.out.trans (hb3.mono B1.out.size));have K3 := Aside0.mk (Kd.C_below K1.out hb3);clear hb3)
  | (go_at_call 177;refine (HF.out _).mono ?_;rintro e w2 ⟨rfl,rfl⟩)
  | (go_at_call 176;refine HS.out.mono ?_;rintro e w1 ⟨rfl,hC,hb⟩;rw [← hn] at hC;have K1 := Aside0.mk hC;have B1 := Aside0.mk hb;clear hC hb))
 go_ret
 exact ⟨rfl,B3.out.trans (hb4.mono B3.out.size)⟩
set_option maxHeartbeats 1000000 in
set_option maxRecDepth 100000 in
theorem value_two_e {w : World} (hG : GL w) (s : ByteArray) (hs : s.size ≤ 1000000) (h2 : 2 ≤ (linesB s).length) (hP : Lib.hasPrefix s.data.toList blB.data.toList = false) (hE : (linesB s).tail.any emptyB = true) :
  Calls Tryz.prog 148 #[.string s] w fun e w' => e = .returned (.bool false) ∧ Below w.heap.size w w' := by
 have HS := Aside0.mk (split_at hG s hs)
 have hF := fun W => Tryz.strings_HasPrefix s blB W
 rw [hP] at hF
 have HF := Aside0.mk hF
 obtain ⟨n,hn⟩ : ∃ n,(linesB s).length = n := ⟨_,rfl⟩
 have ht : (linesB s).tail.length = n - 1 := by rw [List.length_tail,hn]
 have hle := Lib.countB_le nlB (by decide) s.size s (Nat.le_refl _)
 have hln := lines_len s
 have HC := Aside0.mk (show ∀ W1,Below w.heap.size w W1 → Kd.C Kd.string W1 (some ⟨w.heap.size,0,none⟩) (linesB s).length (linesB s) → Calls Tryz.prog 178 #[.slice (some ⟨w.heap.size,1,none⟩) (n - 1) (n - 1),.string ⟨#[]⟩] W1 fun e w' => e = .returned (.bool true) ∧ Below W1.heap.size W1 w' from fun W1 hb hC => by
  have := (qb_hasEmpty (hG.below hb) (some ⟨w.heap.size,1,none⟩) (n - 1) (linesB s).tail (tail_C hC (by omega)) (by omega) (by omega)).at_ (Below.refl _ _)
  rw [hE,ht] at this
  exact this)
 rw [hn] at HS
 have hn2 : 2 ≤ n := by omega
 have hnb : n ≤ 1000001 := by omega
 clear hG hs h2 hP hE hF ht hle hln
 go_enter Tryz.func148,Tryz.ntmps148
 go_wp2_with (first
  | (go_at_call 178;go_loud (refine (HC.out _ B1.out K1.out).mono ?_);rintro e w3 ⟨rfl,hb3⟩;have B3 := Aside0.mk (B1.out.trans (hb3.mono B1.out.size));have K3 := Aside0.mk (Kd.C_below K1.out hb3);clear hb3)
  | (go_at_call 177;refine (HF.out _).mono ?_;rintro e w2 ⟨rfl,rfl⟩)
  | (go_at_call 176;refine HS.out.mono ?_;rintro e w1 ⟨rfl,hC,hb⟩;rw [← hn] at hC;have K1 := Aside0.mk hC;have B1 := Aside0.mk hb;clear hC hb))
 go_ret
 exact ⟨rfl,B3.out⟩
set_option maxHeartbeats 1000000 in
set_option maxRecDepth 100000 in
theorem value_pre {w : World} (hG : GL w) (s : ByteArray) (hs : s.size ≤ 1000000) (hP : Lib.hasPrefix s.data.toList blB.data.toList = true) :
  Calls Tryz.prog 148 #[.string s] w fun e w' => e = .returned (.bool false) ∧ Below w.heap.size w w' := by
 have HS := Aside0.mk (split_at hG s hs)
 have hF := fun W => Tryz.strings_HasPrefix s blB W
 rw [hP] at hF
 have HF := Aside0.mk hF
 obtain ⟨n,hn⟩ : ∃ n,(linesB s).length = n := ⟨_,rfl⟩
 have ht : (linesB s).tail.length = n - 1 := by rw [List.length_tail,hn]
 have hle := Lib.countB_le nlB (by decide) s.size s (Nat.le_refl _)
 have hln := lines_len s
 rw [hn] at HS
 have hnb : n ≤ 1000001 := by omega
 clear hG hs hP hF ht hle hln
 go_enter Tryz.func148,Tryz.ntmps148
 go_wp2_with (first
  | (go_at_call 177;refine (HF.out _).mono ?_;rintro e w2 ⟨rfl,rfl⟩)
  | (go_at_call 176;refine HS.out.mono ?_;rintro e w1 ⟨rfl,hC,hb⟩;rw [← hn] at hC;have K1 := Aside0.mk hC;have B1 := Aside0.mk hb;clear hC hb))
 go_ret
 exact ⟨rfl,B1.out⟩
set_option maxHeartbeats 1000000 in
set_option maxRecDepth 100000 in
theorem value_one {w : World} (hG : GL w) (s : ByteArray) (hs : s.size ≤ 1000000) (h2 : (linesB s).length = 1) (hP : Lib.hasPrefix s.data.toList blB.data.toList = false) :
  Calls Tryz.prog 148 #[.string s] w fun e w' => e = .returned (.bool (!(linesB s).any (belowV 32))) ∧ Below w.heap.size w w' := by
 have HS := Aside0.mk (split_at hG s hs)
 have hF := fun W => Tryz.strings_HasPrefix s blB W
 rw [hP] at hF
 have HF := Aside0.mk hF
 have hn := h2
 have hle := Lib.countB_le nlB (by decide) s.size s (Nat.le_refl _)
 have hln := lines_len s
 have HC := Aside0.mk (show ∀ W1 A1 c1,Below w.heap.size w W1 → Calls Tryz.prog 178 #[.slice A1 0 c1,.string ⟨#[]⟩] W1 fun e w' => e = .returned (.bool false) ∧ Below W1.heap.size W1 w' from fun W1 A1 c1 hb =>
  (qb_hasEmpty (hG.below hb) A1 c1 [] ⟨rfl,by simp,fun h => absurd h (by simp)⟩ (by simp) (by simp)).at_ (Below.refl _ _))
 have HA := Aside0.mk (show ∀ W1,Kd.C Kd.string W1 (some ⟨w.heap.size,0,none⟩) (linesB s).length (linesB s) → Calls Tryz.prog 179 #[.slice (some ⟨w.heap.size,0,none⟩) 1 1,.func (.func 180) #[] #[]] W1 fun e w' => e = .returned (.bool ((linesB s).any (belowV 32))) ∧ Below W1.heap.size W1 w' from fun W1 hC => by
  have := containsStr (belowV 32) 180 #[] (enters_of Tryz.func180 (by kernel_rfl) rfl) W1 (some ⟨w.heap.size,0,none⟩) 1 (linesB s) (value1_pred (linesB s) (lines_small s hs)) hC (by omega)
  rw [hn] at this
  exact this)
 rw [hn] at HS
 have hN := Aside0.mk hn
 clear hG hs hP hF hle hln h2 hn
 go_enter Tryz.func148,Tryz.ntmps148
 go_wp2_with (first
  | (go_at_call 179;go_loud (refine (HA.out _ (Kd.C_below K3.out (Below.refl _ _))).mono ?_);rintro e w4 ⟨rfl,hb4⟩)
  | (go_at_call 178;go_loud (refine (HC.out _ _ _ B1.out).mono ?_);rintro e w3 ⟨rfl,hb3⟩;have B3 := Aside0.mk (B1.out.trans (hb3.mono B1.out.size));have K3 := Aside0.mk (Kd.C_below K1.out hb3);clear hb3)
  | (go_at_call 177;refine (HF.out _).mono ?_;rintro e w2 ⟨rfl,rfl⟩)
  | (go_at_call 176;refine HS.out.mono ?_;rintro e w1 ⟨rfl,hC,hb⟩;have K1 := Aside0.mk (show Kd.C Kd.string w1 (some ⟨w.heap.size,0,none⟩) (linesB s).length (linesB s) by rw [hN.out];exact hC);have B1 := Aside0.mk hb;clear hC hb))
 go_ret
 exact ⟨rfl,B3.out.trans (hb4.mono B3.out.size)⟩
theorem value_calls {w : World} (hG : GL w) (s : ByteArray) (hs : s.size ≤ 1000000) : Calls Tryz.prog 148 #[.string s] w fun e w' => e = .returned (.bool (valueS s)) ∧ Below w.heap.size w w' := by
 unfold valueS
 cases hP : Lib.hasPrefix s.data.toList blB.data.toList with
 | true => exact value_pre hG s hs hP
 | false =>
  rw [Bool.not_false,Bool.true_and]
  by_cases h2 : 2 ≤ (linesB s).length
  ·cases hE : (linesB s).tail.any emptyB with
   | true => exact value_two_e hG s hs h2 hP hE
   | false => exact value_two hG s hs h2 hP hE
  ·have h1 : (linesB s).length = 1 := by have := lines_len s;omega
   have ht : (linesB s).tail = [] := List.length_eq_zero_iff.1 (by rw [List.length_tail,h1])
   rw [ht]
   exact value_one hG s hs h1 hP
theorem qb_value {w : World} (hG : GL w) (s : ByteArray) (hs : s.size ≤ 1000000) : QB w 148 #[.string s] (.bool (valueS s)) := fun W hb => value_calls (hG.below hb) s hs
end Go.Proofs.YtiidmjmkgjfaeaaGreatDoor.Ent

