import Derived.Test.YtiidmjmkgjfaeaaGreatDoorHeRight
import Derived.Test.YtiidmjmkgjfaeaaGreatDoorJouOrd2
import Derived.RangeFuncRecord
import Derived.Test.YtiidmjmkgjfaeaaGreatDoorWZeros
import Derived.Lib.AppendZerosOnto
import Derived.Lib.Overlaps
import Derived.Shelf.Spec.SlicesInsertGrow
namespace Go.Proofs.YtiidmjmkgjfaeaaGreatDoor.Ent
open Go Go.RowKit Go.Shelf Go.Proofs.YtiidmjmkgjfaeaaGreatDoorW.PrintWords Go.Proofs.YtiidmjmkgjfaeaaGreatDoor.PA Go.Proofs.YtiidmjmkgjfaeaaGreatDoor.Pure
set_option linter.unusedVariables false
set_option linter.unusedSimpArgs false
theorem infoH : (Tryz.prog.info? 39).map (fun i => (i.zero,i.size,i.bytes)) = some (some (.agg #[.string ⟨#[]⟩,.string ⟨#[]⟩,.slice none 0 0,.slice none 0 0,.slice none 0 0,.slice none 0 0,.bool false,.bool false]),8,136) := by kernel_rfl
def zeH : Value := .agg #[.string ⟨#[]⟩,.string ⟨#[]⟩,.slice none 0 0,.slice none 0 0,.slice none 0 0,.slice none 0 0,.bool false,.bool false]
set_option maxHeartbeats 2000000 in
set_option maxRecDepth 100000 in
theorem cloneH {w w0 : World} (A : Option Addr) (c : Nat) (l : List H8) (hr : (ice KH w0).C w A l.length l) (hl : l.length ≤ 1000000) :
  Calls Tryz.prog 30 #[.slice A l.length c] w fun e w' => ∃ v,e = .returned v ∧ (ice KH w0).R 39 w' w.heap.size (fun _ => True) v l ∧ Below w.heap.size w w' := by
 have HR := Aside0.mk hr
 have HL := Aside0.mk hl
 have q22 : ∀ (w : World) (a : Option Addr) (n c n' c' : Nat),(binOp .eql 22 (.slice a n c) (.slice none n' c')).run Tryz.prog w = .ok (.bool a.isNone) w := fun w a n c n' c' => Lib.run_eql_slice_nil w _ _ a n c n' c' Tryz.underlying22
 cases A with
 | none =>
  obtain rfl : l = [] := by
   cases l with
   | nil => rfl
   | cons x r => obtain ⟨_,_,h⟩ := hr;obtain ⟨a,h,_⟩ := h (by simp);cases h
  clear hr hl
  go_enter Tryz.func30,Tryz.ntmps30
  go_wp2
  go_ret
  exact ⟨_,rfl,Kd.R_nil _ _ _ _ _,Below.refl _ _⟩
 | some a =>
  clear hr hl
  go_enter Tryz.func30,Tryz.ntmps30
  go_wp2_with (at_builtin;refine Kd.R_append_rows (ice KH w0) (w0 := w) w.heap.size rfl _ _ 22 39 _ 136 rfl Tryz.underlying22 infoH rfl (Nat.zero_lt_succ 7) (by omega) (.slice (some ⟨w.heap.size,0,none⟩) 0 0) [] l (some a) l.length c (fun _ => True) (fun _ => False) rfl rfl (lit0 (ice KH w0) 39 w (fun _ => True) trivial) (Kd.C_alloc HR.out _) (fun x cs h => h) (fun _ h => h.elim) (fun _ _ => trivial) (qab (Below.refl _ _) _) (by simp) (by have := HL.out;simp;omega) ?_;intro v1 w1 hR hB _ _;rw [List.nil_append] at hR;have HR1 := Aside0.mk hR;have HB1 := Aside0.mk hB;clear hR hB)
  go_ret
  exact ⟨_,rfl,HR1.out,HB1.out⟩
def PredQ (w : World) (p : H8 → Bool) (g : Nat) (lb : Array Value) (l : List H8) : Prop :=
 ∀ (W : World) (x : H8) (a : EA),Below w.heap.size w W → x ∈ l → Calls Tryz.prog g (#[.agg (hcs x a)] ++ lb) W fun e w' => e = .returned (.bool (p x)) ∧ Below W.heap.size W w'
theorem seg_whole {w0 W : World} {base : Nat} {ok : Nat → Prop} {x : H8} {a : EA} {ci : List Value} (h : ci.length = 8) (hK : KH.K w0 x (hcs x a).toList) : (ice KH w0).M W base ok x (ci.take 0 ++ (hcs x a).toList ++ ci.drop (0 + (hcs x a).toList.length)) := by
 have e : ci.take 0 ++ (hcs x a).toList ++ ci.drop (0 + (hcs x a).toList.length) = (hcs x a).toList := by
  rw [List.drop_of_length_le (by rw [h];exact Nat.le_refl 8),List.append_nil,List.take_zero,List.nil_append]
 rw [e]
 exact hK
structure DInv (w0 w W : World) (b n c : Nat) (ok : Nat → Prop) (p : H8 → Bool) (xs : List H8) (i j : Nat) (L : List H8) (wr : World) : Prop where
 row : (ice KH w0).R 39 wr w.heap.size ok (.slice (some ⟨b,0,none⟩) n c) L
 kept : L.take i = (xs.take j).filter (fun x => !p x)
 rest : L.drop j = xs.drop j
 ij : i < j
 jn : j ≤ n
 bl : Below w.heap.size w wr
 size : W.heap.size ≤ wr.heap.size
 oth : ∀ k,k < W.heap.size → k ≠ b → wr.heap[k]? = W.heap[k]?
theorem DInv.below {w0 w W wr W' : World} {b n c : Nat} {ok : Nat → Prop} {p : H8 → Bool} {xs : List H8} {i j : Nat} {L : List H8} (h : DInv w0 w W b n c ok p xs i j L wr) (hb : Below wr.heap.size wr W') : DInv w0 w W b n c ok p xs i j L W' :=
 ⟨Kd.R_below h.row hb,h.kept,h.rest,h.ij,h.jn,h.bl.trans (hb.mono h.bl.size),Nat.le_trans h.size hb.size,fun k h1 h2 => (hb.block k (Nat.lt_of_lt_of_le h1 h.size)).trans (h.oth k h1 h2)⟩
theorem DInv.elem {w0 w W wr : World} {b n c : Nat} {ok : Nat → Prop} {p : H8 → Bool} {xs : List H8} {i j : Nat} {L : List H8} (h : DInv w0 w W b n c ok p xs i j L wr) : ∃ ci : List Value,ci.length = 8 ∧ ∀ k u,ci[k]? = some u → wr.cell? ⟨b,(i : Int).toNat * (ice KH w0).sz + k,none⟩ = some u := by
 obtain ⟨A',c',hv,_,hC⟩ := Kd.R_reads h.row
 injection hv with h1 h2 h3
 subst h1
 have := h.ij
 have := h.jn
 obtain ⟨ad,cs,had,hcl,hK,hcc⟩ := Kd.C_get hC zH (i : Int) (by omega) (by omega)
 obtain rfl := Option.some.inj had
 refine ⟨cs,hcl,fun k u hu => ?_⟩
 have := hcc k u hu
 rwa [Addr.add_lit,Nat.zero_add] at this
theorem set_take {α : Type} (L : List α) (i : Nat) (x : α) (hi : i < L.length) : (L.set i x).take (i + 1) = L.take i ++ [x] := by
 rw [List.take_succ_eq_append_getElem (by rw [List.length_set];exact hi),List.getElem_set_self,List.take_set_of_le (Nat.le_refl i)]
theorem filter_idx (p : H8 → Bool) : ∀ (xs : List H8) (s : Nat),(idxP p xs s = -1 ∧ xs.filter (fun x => !p x) = xs) ∨ ∃ j,j < xs.length ∧ idxP p xs s = ((s + j : Nat) : Int) ∧ (xs.take (j + 1)).filter (fun x => !p x) = xs.take j
 | [],s => .inl ⟨rfl,rfl⟩
 | x :: r,s => by
  rw [idxP]
  cases h : p x with
  | true => exact .inr ⟨0,by simp,by rw [if_pos rfl];rfl,by simp [h]⟩
  | false =>
   rw [if_neg (by decide)]
   rcases filter_idx p r (s + 1) with ⟨h1,h2⟩ | ⟨j,h1,h2,h3⟩
   ·exact .inl ⟨h1,by rw [List.filter_cons];simp [h,h2]⟩
   ·refine .inr ⟨j + 1,by simp;omega,by rw [h2];congr 1;omega,?_⟩
    rw [List.take_succ_cons,List.filter_cons]
    simp [h,h3]
theorem infoHt : (Tryz.prog.info? 39).map (·.size) = some 8 := by kernel_rfl
set_option maxHeartbeats 16000000 in
set_option maxRecDepth 100000 in
theorem delfunc_calls {w0 w W : World} (hw0 : Below w0.heap.size w0 w) (ok : Nat → Prop) (p : H8 → Bool) (g : Nat) (lb : Array Value) (eg : ∀ args w,(callFunc g args).run Tryz.prog w = .ok (.enter g args) w) (b n c : Nat) (xs : List H8) (HO : (ice KH w0).R 39 W w.heap.size ok (.slice (some ⟨b,0,none⟩) n c) xs) (hn : n ≤ 1000000) (hp : PredQ w p g lb xs) (HB : Below w.heap.size w W) :
  Calls Tryz.prog 29 #[.slice (some ⟨b,0,none⟩) n c,.func (.func g) #[] lb] W fun e w' => e = .returned (.slice (some ⟨b,0,none⟩) (xs.filter (fun x => !p x)).length c) ∧ (ice KH w0).R 39 w' w.heap.size ok (.slice (some ⟨b,0,none⟩) (xs.filter (fun x => !p x)).length c) (xs.filter (fun x => !p x)) ∧ Below w.heap.size w w' ∧ W.heap.size ≤ w'.heap.size ∧ ∀ k,k < W.heap.size → k ≠ b → w'.heap[k]? = W.heap[k]? := by
 obtain ⟨hnl,hnc,_⟩ := Kd.R_reads' HO
 subst hnl
 obtain ⟨A',c',hv,hc',hC⟩ := Kd.R_reads HO
 injection hv with h1 h2 h3
 subst h1;subst h3
 have hCW := thaw hC (hw0.trans (HB.mono hw0.size))
 have hI := indexHere p g lb eg W (some ⟨b,0,none⟩) c xs (fun W2 x cs hb hm hK => by
  obtain ⟨a,rfl,_⟩ := here_open hK
  exact (hp W2 x a (HB.trans (hb.mono HB.size)) hm).mono fun e w' ⟨h1,h2⟩ => ⟨h1,hb.trans (h2.mono hb.size)⟩) hCW (by omega)
 obtain ⟨F,hF⟩ : ∃ F,xs.filter (fun x => !p x) = F := ⟨_,rfl⟩
 rw [hF]
 have HB0 := Aside0.mk HB
 have HO0 := Aside0.mk HO
 have HP := Aside0.mk hp
 have HN := Aside0.mk hn
 have HNC := Aside0.mk hnc
 have HW0 := Aside0.mk hw0
 rcases filter_idx p xs 0 with ⟨f1,f2⟩ | ⟨q,f1,f2,f3⟩
 ·rw [f1] at hI
  rw [f2] at hF
  subst hF
  have HI := Aside0.mk hI
  clear HB HO hp hn hnc hw0 hI hC hCW hc' f1 f2
  go_enter Tryz.func29,Tryz.ntmps29
  go_wp2_with (go_at_call 32;refine HI.out.mono ?_;rintro e w1 ⟨rfl,hb1⟩;have HB1 := Aside0.mk hb1;clear hb1)
  go_ret
  exact ⟨rfl,Kd.R_below HO0.out HB1.out,HB0.out.trans (HB1.out.mono HB0.out.size),HB1.out.size,fun k h1 h2 => HB1.out.block k h1⟩
 ·rw [f2,Nat.zero_add] at hI
  have HI := Aside0.mk hI
  have HF := Aside0.mk hF
  have F3 := Aside0.mk f3
  have HQ := Aside0.mk f1
  have d0 : decide ((q : Int) = -1) = false := decide_eq_false (by omega)
  have d1 : ((q : Int) == -1) = false := beq_eq_false_iff_ne.2 (by omega)
  have HBQ := Aside0.mk (show wrap64 ((q : Int) + 1) = ((q + 1 : Nat) : Int) by unfold wrap64;omega)
  clear HB HO hp hn hnc hw0 hI hC hCW hc' f1 f2 f3 hF
  go_enter Tryz.func29,Tryz.ntmps29
  go_wp2_with (go_at_call 32;refine HI.out.mono ?_;rintro e w1 ⟨rfl,hb1⟩;have HB1 := Aside0.mk hb1;clear hb1)
  have HD0 := Aside0.mk (show DInv w0 w W b xs.length c ok p xs q (q + 1) xs w1 from ⟨Kd.R_below HO0.out HB1.out,F3.out.symm,rfl,Nat.lt_succ_self q,HQ.out,HB0.out.trans (HB1.out.mono HB0.out.size),HB1.out.size,fun k h1 h2 => HB1.out.block k h1⟩)
  go_wp2
  go_loopg [5,6] xs.length (fun gg v5 v6 wr => ∃ (i j : Nat) (L : List H8),xs.length - j ≤ gg ∧ v5 = .int .i64 (i : Int) ∧ v6 = .int .i64 (j : Int) ∧ Aside0 (DInv w0 w W b xs.length c ok p xs i j L wr))
  case atStart => exact ⟨q,q + 1,xs,by omega,rfl,by first | rw [HBQ.out] | rfl | go_num,HD0⟩
  case round =>
   clear HD0 HI
   obtain ⟨i,j,L,hg,rfl,rfl,HI⟩ := hrel
   have hLl : L.length = xs.length := (Kd.R_reads' HI.out.row).1.symm
   have hij := HI.out.ij
   have hjn := HI.out.jn
   have hxn := HN.out
   have bi : wrap64 ((i : Int) + 1) = ((i + 1 : Nat) : Int) := by unfold wrap64;omega
   have bj : wrap64 ((j : Int) + 1) = ((j + 1 : Nat) : Int) := by clear bi;unfold wrap64;omega
   by_cases hlt : j < xs.length
   ·have b2 : decide ((j : Int) < (xs.length : Int)) = true := decide_eq_true (by clear bi bj;omega)
    have p0 : (0 : Int) ≤ (j : Int) := by clear bi bj;omega
    have p1 : (j : Int) < (xs.length : Int) := by clear bi bj;omega
    have p2 : (0 : Int) ≤ (i : Int) := by clear bi bj;omega
    have p3 : (i : Int) < (xs.length : Int) := by clear bi bj;omega
    obtain ⟨A',c',hv,_,hC⟩ := Kd.R_reads HI.out.row
    injection hv with h1 h2 h3
    subst h1;subst h3
    clear h2
    obtain ⟨ad,cs,had,hcl,hK,hcc⟩ := Kd.C_get hC zH (j : Int) p0 (by rw [hLl];exact p1)
    obtain rfl := Option.some.inj had
    obtain ⟨x,hx⟩ : ∃ x,xs[j] = x := ⟨_,rfl⟩
    have hLj : L[j]? = some x := by
     have e1 : (L.drop j)[0]? = L[j]? := by rw [List.getElem?_drop,Nat.add_zero]
     have e2 : (xs.drop j)[0]? = xs[j]? := by rw [List.getElem?_drop,Nat.add_zero]
     rw [← e1,HI.out.rest,e2,List.getElem?_eq_getElem hlt,hx]
    rw [show L.getD (j : Int).toNat zH = x by rw [Int.toNat_natCast,List.getD_eq_getElem?_getD,hLj];rfl] at hK
    obtain ⟨a,rfl,hE⟩ := here_open hK
    rw [Int.toNat_natCast] at hcc
    have gc : ∀ k u,(hcs x a).toList[k]? = some u → wr.cell? ⟨b,j * 8 + k,none⟩ = some u := fun k u hu => by
     have := hcc k u hu
     rwa [Addr.add_lit,Nat.zero_add] at this
    have y0 : wr.cell? ⟨b,j * 8,none⟩ = some (.string x.f0.f0) := gc 0 _ rfl
    have y1 : wr.cell? ⟨b,j * 8 + 1,none⟩ = some (.string x.f0.f1) := gc 1 _ rfl
    have y2 : wr.cell? ⟨b,j * 8 + 2,none⟩ = some (.slice a.A2 x.f0.f2.length a.c2) := gc 2 _ rfl
    have y3 : wr.cell? ⟨b,j * 8 + 3,none⟩ = some (.slice a.A3 x.f0.f3.length a.c3) := gc 3 _ rfl
    have y4 : wr.cell? ⟨b,j * 8 + 4,none⟩ = some (.slice a.A4 x.f0.f4.length a.c4) := gc 4 _ rfl
    have y5 : wr.cell? ⟨b,j * 8 + 5,none⟩ = some (.slice a.A5 x.f0.f5.length a.c5) := gc 5 _ rfl
    have y6 : wr.cell? ⟨b,j * 8 + 6,none⟩ = some (.bool x.f1) := gc 6 _ rfl
    have y7 : wr.cell? ⟨b,j * 8 + 7,none⟩ = some (.bool x.f2) := gc 7 _ rfl
    have hpc := HP.out (wr.alloc (.cells (hcs x a) 39)) x a (qab HI.out.bl _) (hx ▸ List.getElem_mem hlt)
    obtain ⟨t,ht⟩ : ∃ t,p x = t := ⟨_,rfl⟩
    rw [ht] at hpc
    have HPC := Aside0.mk hpc
    have HT := Aside0.mk ht
    have HX := Aside0.mk (show xs[j]? = some x by rw [List.getElem?_eq_getElem hlt,hx])
    have HTK := Aside0.mk (show xs.take (j + 1) = xs.take j ++ [x] by rw [List.take_succ_eq_append_getElem hlt,hx])
    have HDR := Aside0.mk (show ∀ M : List H8,M.drop j = xs.drop j → M.drop (j + 1) = xs.drop (j + 1) from fun M h => by rw [← List.drop_drop,h,List.drop_drop])
    have HKK := Aside0.mk (show (ice KH w0).K wr x (hcs x a).toList from here_mk hE)
    have HLT := Aside0.mk hlt
    have HGG := Aside0.mk hg
    have HIJ := Aside0.mk hij
    have HLL := Aside0.mk hLl
    clear hcc hcl hK hx hLj hE gc hpc ht hlt hg hC hij hjn hxn hLl
    cases t with
    | true =>
     go_wp2_with (go_at_fn g;refine HPC.out.mono ?_;rintro e w2 ⟨rfl,hb2⟩;have HQ2 := Aside0.mk ((qab (Below.refl wr.heap.size wr) _).trans (hb2.mono (by simp)));clear hb2)
     go_roundg (xs.length - (j + 1))
     case measure => have := HGG.out;have := HLT.out;omega
     case rel => exact ⟨i,j + 1,L,Nat.le_refl _,rfl,by first | rw [bj] | go_num,⟨by
      have h := HI.out.below HQ2.out
      exact ⟨h.row,by rw [HTK.out,List.filter_append,h.kept];simp [HT.out],HDR.out L h.rest,Nat.lt_succ_of_lt HIJ.out,HLT.out,h.bl,h.size,h.oth⟩⟩⟩
    | false =>
     go_wp2_with (first
      | (refine gate_ (.store 39 (.tmp 33) (.tmp 32)) rfl ?_;go_loud (refine Kd.R_store (ice KH w0) (w0 := w) w.heap.size rfl rfl 39 _ _ rfl 39 (g := b) (n := xs.length) (cap := c) (o' := i * 8) (i : Int) 0 L x (.agg (hcs x a)) (hcs x a).toList ci ok (fun _ => False) rfl rfl rfl rfl infoHt (KH.K_one HKK.out) (by exact HI2.out.row) p2 p3 hci hcci (show 0 + 8 ≤ 8 by decide) (hMM hci) (fun _ h => h.elim) HI2.out.bl ?_;intro w3 hR hB3 hg3;have HR3 := Aside0.mk hR;have HB3 := Aside0.mk hB3;have HG3 := Aside0.mk hg3;clear hR hB3 hg3))
      | (go_at_fn g;refine HPC.out.mono ?_;rintro e w2 ⟨rfl,hb2⟩;have hz := (hb2.block wr.heap.size (by simp)).trans (World.alloc_heap_new wr (.cells (hcs x a) 39));obtain ⟨x0,x1,x2,x3,x4,x5,x6,x7⟩ := hcs_cells hz;have HI2 := Aside0.mk (HI.out.below ((qab (Below.refl wr.heap.size wr) _).trans (hb2.mono (by simp))));obtain ⟨ci,hci,hcci⟩ := HI2.out.elem;have hMM : ∀ {ci : List Value},ci.length = 8 → (ice KH w0).M w2 w.heap.size (fun _ => False) x (ci.take 0 ++ (hcs x a).toList ++ ci.drop (0 + (hcs x a).toList.length)) := (fun {ci} h => seg_whole h HKK.out);clear hb2 hz))
     go_roundg (xs.length - (j + 1))
     case measure => have := HGG.out;have := HLT.out;omega
     case rel => exact ⟨i + 1,j + 1,L.set i x,Nat.le_refl _,by first | rw [bi] | go_num,by first | rw [bj] | go_num,⟨by
      have h := HI2.out
      have hl2 : i < L.length := by have := HLL.out;have := HIJ.out;have := HLT.out;omega
      exact ⟨HR3.out,by rw [set_take L i x hl2,HTK.out,List.filter_append,h.kept];simp [HT.out],by rw [List.drop_set_of_lt (Nat.lt_succ_of_lt HIJ.out)];exact HDR.out L h.rest,Nat.succ_lt_succ HIJ.out,HLT.out,HB3.out,Nat.le_trans h.size HG3.out.size,fun k h1 h2 => (HG3.out.block k (Nat.lt_of_lt_of_le h1 h.size) (by intro e;injection e with e;exact h2 e)).trans (h.oth k h1 h2)⟩⟩⟩
   ·have hje : j = xs.length := by clear bi bj;omega
    have b2 : decide ((j : Int) < (xs.length : Int)) = false := decide_eq_false (by clear bi bj;omega)
    have hkept := HI.out.kept
    rw [hje,List.take_length,HF.out] at hkept
    have hFl : F.length = i := by rw [← hkept,List.length_take,hLl];clear bi bj;omega
    have p0 : (0 : Int) ≤ (i : Int) := by clear bi bj;omega
    have p1 : (i : Int) ≤ (xs.length : Int) := by clear bi bj;omega
    have hcx := HNC.out
    have p2 : (i : Int) ≤ (c : Int) := by clear bi bj;omega
    have p3 : (xs.length : Int) ≤ (c : Int) := by clear bi bj;omega
    have hne : ¬ c = i := by clear bi bj;omega
    have hRt := Kd.R_take HI.out.row (m := i) (by clear bi bj;omega)
    rw [hkept] at hRt
    obtain ⟨w2,hrun,hR2,hg2⟩ := R_clear_run (P := Tryz.prog) (ice KH w0) w.heap.size 22 0 39 zeH Tryz.underlying22 Tryz.zeroValue39 rfl (Nat.zero_lt_succ 7) (by decide) hRt (xs.length - i) (by clear bi bj;omega) (by clear bi bj;omega) (c - i)
    have hrun : (Builtin.clear_ #[22] 0 #[.slice (some ⟨b,i * 8,none⟩) (xs.length - i) (c - i)]).run Tryz.prog wr = .ok (.tuple #[]) w2 := by rw [← Nat.zero_add (i * 8)];exact hrun
    have HR2 := Aside0.mk hR2
    have HG2 := Aside0.mk hg2
    have HB2 := Aside0.mk (HI.out.bl.grown hg2 HI.out.bl.size (fun k hk => by injection hk with hk;subst hk;exact Kd.R_base HI.out.row _ (by simp [Value.ownBlock])))
    have HFL := Aside0.mk hFl
    clear hR2 hg2 hRt hkept hFl hg hje hcx hLl hij hjn hxn
    go_wp2
    go_ret
    refine ⟨by rw [HFL.out];rfl,by rw [HFL.out];exact HR2.out,HB2.out,Nat.le_trans HI.out.size HG2.out.size,fun k h1 h2 => ?_⟩
    exact (HG2.out.block k (Nat.lt_of_lt_of_le h1 HI.out.size) (by intro e;injection e with e;exact h2 e)).trans (HI.out.oth k h1 h2)
set_option maxRecDepth 100000 in
theorem delfunc_nil {W : World} (p : H8 → Bool) (g : Nat) (lb : Array Value) (eg : ∀ args w,(callFunc g args).run Tryz.prog w = .ok (.enter g args) w) :
  Calls Tryz.prog 29 #[.slice none 0 0,.func (.func g) #[] lb] W fun e w' => e = .returned (.slice none 0 0) ∧ Below W.heap.size W w' := by
 have HI := Aside0.mk (indexHere p g lb eg W none 0 [] (fun W2 x cs hb hm hK => by cases hm) (Kd.C_nil _ _) (by decide))
 go_enter Tryz.func29,Tryz.ntmps29
 go_wp2_with (go_at_call 32;refine HI.out.mono ?_;rintro e w1 ⟨rfl,hb1⟩)
 go_ret
 exact ⟨rfl,hb1⟩
theorem delfunc_any {w0 w W : World} (hw0 : Below w0.heap.size w0 w) (ok : Nat → Prop) (p : H8 → Bool) (g : Nat) (lb : Array Value) (eg : ∀ args w,(callFunc g args).run Tryz.prog w = .ok (.enter g args) w) (v : Value) (xs : List H8) (HO : (ice KH w0).R 39 W w.heap.size ok v xs) (hn : xs.length ≤ 1000000) (hp : PredQ w p g lb xs) (HB : Below w.heap.size w W) :
  Calls Tryz.prog 29 #[v,.func (.func g) #[] lb] W fun e w' => ∃ v',e = .returned v' ∧ (ice KH w0).R 39 w' w.heap.size ok v' (xs.filter (fun x => !p x)) ∧ v'.ownBlock = v.ownBlock ∧ Below w.heap.size w w' ∧ W.heap.size ≤ w'.heap.size ∧ ∀ k,k < W.heap.size → some k ≠ v.ownBlock → w'.heap[k]? = W.heap[k]? := by
 have HO' := HO
 obtain ⟨hok,inner,hown,hr⟩ := HO'
 rcases hown.2 with ⟨rfl,h0⟩ | ⟨g',cap,cur,rfl,_⟩
 ·obtain rfl : xs = [] := List.eq_nil_of_length_eq_zero h0
  refine (delfunc_nil p g lb eg).mono ?_
  rintro e w' ⟨rfl,hb⟩
  exact ⟨_,rfl,Kd.R_nil _ _ _ _ _,rfl,HB.trans (hb.mono HB.size),hb.size,fun k h1 _ => hb.block k h1⟩
 ·refine (delfunc_calls hw0 ok p g lb eg g' xs.length cap xs HO hn hp HB).mono ?_
  rintro e w' ⟨rfl,hR,hb,hs,hk⟩
  exact ⟨_,rfl,hR,rfl,hb,hs,fun k h1 h2 => hk k h1 (by rintro rfl;exact h2 rfl)⟩
theorem without1_pred {w : World} (n : ByteArray) (D : Nat) (hD : w.cell? ⟨D,0,none⟩ = some (.string n)) (l : List H8) : PredQ w (isName n) 31 #[.pointer (some ⟨D,0,none⟩)] l := by
 intro W x a hb hm
 have gD := (hb.cell (World.block_lt_of_cell? _ _ hD)).trans hD
 have hDW : D < W.heap.size := World.block_lt_of_cell? _ _ gD
 have hne : D ≠ W.heap.size := by omega
 unfold isName
 obtain ⟨r,hr⟩ : ∃ r,(x.f0.f0.toList == n.toList) = r := ⟨_,rfl⟩
 rw [hr]
 clear hD hm hb
 show Calls Tryz.prog 31 #[.agg (hcs x a),.pointer (some ⟨D,0,none⟩)] W _
 go_enter Tryz.func31,Tryz.ntmps31
 go_wp2
 go_ret
 exact ⟨rfl,qab (Below.refl _ _) _⟩
def withoutH (l : List H8) (n : ByteArray) : List H8 := l.filter (fun x => !isName n x)
set_option maxHeartbeats 4000000 in
set_option maxRecDepth 100000 in
theorem without_calls {w0 w : World} (hw0 : Below w0.heap.size w0 w) (A : Option Addr) (c : Nat) (l : List H8) (n : ByteArray) (hr : (ice KH w0).C w A l.length l) (hl : l.length ≤ 1000000) :
  Calls Tryz.prog 14 #[.slice A l.length c,.string n] w fun e w' => ∃ v,e = .returned v ∧ (ice KH w0).R 39 w' w.heap.size (fun _ => True) v (withoutH l n) ∧ Below w.heap.size w w' := by
 have hb1 := qab (Below.refl w.heap.size w) (.cells #[.string n] 9)
 have hD : (w.alloc (.cells #[.string n] 9)).cell? ⟨w.heap.size,0,none⟩ = some (.string n) := by rw [World.cell?_alloc_new];rfl
 have HC := Aside0.mk (cloneH (w := w.alloc (.cells #[.string n] 9)) A c l (Kd.C_below hr hb1) hl)
 have HB1 := Aside0.mk hb1
 have HD := Aside0.mk (show ∀ (W : World) (v : Value),Below (w.alloc (.cells #[.string n] 9)).heap.size (w.alloc (.cells #[.string n] 9)) W → (ice KH w0).R 39 W (w.alloc (.cells #[.string n] 9)).heap.size (fun _ => True) v l → _ from fun W v hB hR =>
  delfunc_any (hw0.trans (hb1.mono hw0.size)) (fun _ => True) (isName n) 31 #[.pointer (some ⟨w.heap.size,0,none⟩)] (enters_of Tryz.func31 (by kernel_rfl) rfl) v l hR hl (without1_pred n w.heap.size hD l) hB)
 clear hr hl hb1 hD hw0
 go_enter Tryz.func14,Tryz.ntmps14
 go_wp2_with (first
  | (go_at_call 29;go_loud (refine (HD.out _ _ HB2.out HR2.out).mono ?_);rintro e w3 ⟨v3,rfl,hR,_,hb3,_,_⟩;have HR3 := Aside0.mk hR;have HB3 := Aside0.mk hb3;clear hR hb3)
  | (go_at_call 30;refine HC.out.mono ?_;rintro e w2 ⟨v2,rfl,hR,hb2⟩;have HR2 := Aside0.mk hR;have HB2 := Aside0.mk hb2;clear hR hb2))
 go_ret
 exact ⟨_,rfl,Kd.R_lower HR3.out HB1.out.size,HB1.out.trans (HB3.out.mono HB1.out.size)⟩
end Go.Proofs.YtiidmjmkgjfaeaaGreatDoor.Ent

namespace Go.Proofs.YtiidmjmkgjfaeaaGreatDoor.Ent
open Go Go.RowKit Go.Shelf Go.Proofs.YtiidmjmkgjfaeaaGreatDoorW.PrintWords Go.Proofs.YtiidmjmkgjfaeaaGreatDoor.PA Go.Proofs.YtiidmjmkgjfaeaaGreatDoor.Pure
set_option linter.unusedVariables false
set_option linter.unusedSimpArgs false
section
variable {P : Program}
theorem run_copy_size (w : World) (dT sT ty elem : TypeId) (sz : Nat) (b o dLen dCap : Nat) (a : Addr) (sLen sCap : Nat) (cs : List Value)
  (hu : P.underlying dT = some (.slice elem)) (hs : (P.info? elem).map (·.size) = some sz) (hn : cs.length = Nat.min sLen dLen * sz)
  (hsrc : ∀ j v,cs[j]? = some v → w.cell? (a.add j) = some v) (hc : ∀ j,j < cs.length → (w.cell? ⟨b,o + j,none⟩).isSome = true) (hf : ∀ j,j < cs.length → w.frozen? ⟨b,o + j,none⟩ = false) (h1 : ∀ v ∈ cs,v.oneCell' = true) :
  (Builtin.copy_ #[dT,sT] ty #[.slice (some ⟨b,o,none⟩) dLen dCap,.slice (some a) sLen sCap]).run P w = .ok (goInt (Nat.min sLen dLen)) (w.setCells b o cs) := by
 have hl := run_loadCells_list (P := P) w a cs hsrc
 have hst := run_storeCells_cells (P := P) b o cs 0 w (by simpa using hc) (by simpa using hf) h1
 simp only [Nat.add_zero] at hst
 rw [hn] at hl
 cases hq : P.info? elem with
 | none => simp [hq] at hs
 | some i =>
  simp [hq] at hs
  simp [Builtin.copy_,run_underlying hu,Builtin.lenOf,Builtin.firstCells,sizeOf,typeInfo,hq,hs,hl,hst]
end
theorem R_block {w0 W : World} {base : Nat} {ok : Nat → Prop} {g n c : Nat} {xs : List H8} (h : (ice KH w0).R 39 W base ok (.slice (some ⟨g,0,none⟩) n c) xs) :
  ∃ cur inner : _,W.heap[g]? = some (.cells cur 39 (0,0)) ∧ n = xs.length ∧ n ≤ c ∧ c ≤ maxLen ∧ cur.size = c * 8 ∧ cur.toList.take (n * 8) = inner ∧ Reps (KH.K w0) 8 xs inner ∧ base ≤ g ∧ inner.length = n * 8 := by
 obtain ⟨hok,inner,hown,hr⟩ := h
 rcases hown.2 with ⟨hv,_⟩ | ⟨g',cap,cur,hv,hb,hh,hnc,hcm,hcs,htake⟩
 ·cases hv
 injection hv with ha hn hc
 injection ha with ha
 injection ha with hg
 subst hg;subst hc;subst hn
 exact ⟨cur,inner,hh,rfl,hnc,hcm,hcs,htake,hr,hb,hown.1⟩
theorem C_one1 {α : Type} (d : Kd α) {W : World} {b : Nat} {cs : List Value} {ty : TypeId} {x : α} (hb : W.heap[b]? = some (.cells cs.toArray ty (0,0))) (hx : d.K W x cs) : d.C W (some ⟨b,0,none⟩) 1 [x] := by
 refine ⟨rfl,by omega,fun _ => ⟨⟨b,0,none⟩,rfl,fun j p hj => ?_⟩⟩
 match j,hj with
 | 0,hj =>
  obtain rfl : x = p := by simpa using hj
  refine ⟨cs,d.K_len hx,hx,fun i u hi => ?_⟩
  rw [Addr.add_lit,Nat.zero_mul,Nat.zero_add,Nat.zero_add]
  simp [World.cell?,hb,hi]
theorem R_of_block {w0 W : World} {base : Nat} {g n c : Nat} {xs : List H8} {cur : Array Value} {inner : List Value} (hh : W.heap[g]? = some (.cells cur 39 (0,0))) (hn : n = xs.length) (hnc : n ≤ c) (hcm : c ≤ maxLen) (hcs : cur.size = c * 8) (ht : cur.toList.take (n * 8) = inner) (hr : Reps (KH.K w0) 8 xs inner) (hb : base ≤ g) (hl : inner.length = n * 8) :
  (ice KH w0).R 39 W base (fun _ => True) (.slice (some ⟨g,0,none⟩) n c) xs := by
 subst hn
 exact ⟨fun _ _ => trivial,inner,⟨hl,.inr ⟨g,c,cur,rfl,hb,hh,hnc,hcm,hcs,ht⟩⟩,hr⟩
theorem reps_cat {w0 : World} {xs ys : List H8} {a b : List Value} (h1 : Reps (KH.K w0) 8 xs a) (h2 : Reps (KH.K w0) 8 ys b) : Reps (KH.K w0) 8 (xs ++ ys) (a ++ b) := Kd.reps_append h1 h2
theorem R_tail {w0 W : World} {base : Nat} {g n c q : Nat} {xs ys : List H8} {seg : List Value} (h : (ice KH w0).R 39 W base (fun _ => True) (.slice (some ⟨g,0,none⟩) n c) xs) (hs : Reps (KH.K w0) 8 ys seg) (hq : q ≤ n) (hn : n ≤ q + ys.length) (hc : q + ys.length ≤ c) :
  (ice KH w0).R 39 (W.setCells g (q * 8) seg) base (fun _ => True) (.slice (some ⟨g,0,none⟩) (q + ys.length) c) (xs.take q ++ ys) ∧ W.grownBy (W.setCells g (q * 8) seg) (some g) := by
 obtain ⟨cur,inner,hh,hnl,hnc,hcm,hcs,ht,hr,hb,hil⟩ := R_block h
 have hsl : seg.length = ys.length * 8 := hs.1
 have hfit : q * 8 + seg.length ≤ cur.size := by rw [hsl,hcs,← Nat.add_mul];exact Nat.mul_le_mul_right 8 hc
 obtain ⟨cur',h3,h4,h5⟩ := setCells_row seg (q * 8) W cur hh hfit
 obtain ⟨s1,s2,s3,s4⟩ := setCells_same g seg (q * 8) W
 have hq8 : q * 8 ≤ n * 8 := Nat.mul_le_mul_right 8 hq
 have htl : cur.toList.length = cur.size := Array.length_toList
 refine ⟨R_of_block h3 (by rw [List.length_append,List.length_take];omega) hc hcm (by rw [h4,hcs]) (inner := inner.take (q * 8) ++ seg) ?_ (reps_cat (Kd.reps_take hr (by omega)) hs) hb (by rw [List.length_append,List.length_take,hsl];omega),⟨s1,s2,s3,by rw [s4];exact Nat.le_refl _,fun k _ hk => setCells_far seg _ k (fun he => hk (by rw [he]))⟩⟩
 have e1 : inner.take (q * 8) = cur.toList.take (q * 8) := by rw [← ht,List.take_take,Nat.min_eq_left hq8]
 rw [h5,e1]
 refine List.take_left' ?_
 rw [List.length_append,List.length_take,hsl]
 omega
theorem R_segs {w0 W : World} {base : Nat} {g n c q : Nat} {xs ys : List H8} {seg : List Value} (h : (ice KH w0).R 39 W base (fun _ => True) (.slice (some ⟨g,0,none⟩) n c) xs) (hs : Reps (KH.K w0) 8 ys seg) (hq : q + ys.length ≤ n) :
  (ice KH w0).R 39 (W.setCells g (q * 8) seg) base (fun _ => True) (.slice (some ⟨g,0,none⟩) n c) (xs.take q ++ (ys ++ xs.drop (q + ys.length))) ∧ W.grownBy (W.setCells g (q * 8) seg) (some g) := by
 obtain ⟨cur,inner,hh,hnl,hnc,hcm,hcs,ht,hr,hb,hil⟩ := R_block h
 have hsl : seg.length = ys.length * 8 := hs.1
 have hq8 : (q + ys.length) * 8 ≤ n * 8 := Nat.mul_le_mul_right 8 hq
 have hn8 : n * 8 ≤ c * 8 := Nat.mul_le_mul_right 8 hnc
 have hqa : (q + ys.length) * 8 = q * 8 + ys.length * 8 := Nat.add_mul _ _ _
 have htl : cur.toList.length = cur.size := Array.length_toList
 have hfit : q * 8 + seg.length ≤ cur.size := by omega
 obtain ⟨cur',h3,h4,h5⟩ := setCells_row seg (q * 8) W cur hh hfit
 obtain ⟨s1,s2,s3,s4⟩ := setCells_same g seg (q * 8) W
 refine ⟨R_of_block h3 (by rw [List.length_append,List.length_append,List.length_take,List.length_drop];omega) hnc hcm (by rw [h4,hcs]) (inner := inner.take (q * 8) ++ (seg ++ inner.drop ((q + ys.length) * 8))) ?_ (reps_cat (Kd.reps_take hr (by omega)) (reps_cat hs (Kd.reps_drop hr))) hb (by rw [List.length_append,List.length_append,List.length_take,List.length_drop,hsl];omega),⟨s1,s2,s3,by rw [s4];exact Nat.le_refl _,fun k _ hk => setCells_far seg _ k (fun he => hk (by rw [he]))⟩⟩
 have e1 : inner.take (q * 8) = cur.toList.take (q * 8) := by rw [← ht,List.take_take,Nat.min_eq_left (by omega)]
 have e2 : inner.drop ((q + ys.length) * 8) = (cur.toList.drop (q * 8 + seg.length)).take (n * 8 - (q * 8 + seg.length)) := by rw [← ht,List.drop_take,hsl,hqa]
 rw [h5,e1,e2,← List.append_assoc,List.take_append,List.take_of_length_le (by rw [List.length_append,List.length_take,hsl];omega)]
 congr 2
 rw [List.length_append,List.length_take,hsl]
 omega
def InsPost (w0 w : World) (l : List H8) (e : Ending) (w' : World) : Prop := ∃ v,e = .returned v ∧ (ice KH w0).R 39 w' w.heap.size (fun _ => True) v l ∧ Below w.heap.size w w'
set_option maxHeartbeats 4000000 in
set_option maxRecDepth 100000 in
theorem insert_end {w0 w W : World} {v : Value} {xs : List H8} (HO0 : (ice KH w0).R 39 W w.heap.size (fun _ => True) v xs) (hn : xs.length ≤ 1000000) (HB0 : Below w.heap.size w W) {vb : Nat} {h : H8} {a : EA} (hV0 : W.heap[vb]? = some (.cells (hcs h a) 39 (0,0))) (hE0 : KH.K w0 h (hcs h a).toList) :
  Calls Tryz.prog 34 #[v,.int .i64 (xs.length : Int),.slice (some ⟨vb,0,none⟩) 1 1] W fun e w' => InsPost w0 w (xs ++ [h]) e w' := by
 have HO := Aside0.mk HO0
 have HB := Aside0.mk HB0
 have HV := Aside0.mk (show (ice KH w0).C W (some ⟨vb,0,none⟩) 1 [h] from C_one1 (ice KH w0) (cs := (hcs h a).toList) hV0 hE0)
 have HN := Aside0.mk hn
 obtain ⟨hok,inner,hown,hr⟩ := HO0
 rcases hown.2 with ⟨rfl,h0⟩ | ⟨g,c,cur,rfl,_,_,hc,_⟩
 ·obtain rfl : xs = [] := List.eq_nil_of_length_eq_zero h0
  clear hok hown hr HB0 hV0 hE0 hn h0
  show Calls Tryz.prog 34 #[.slice none 0 0,.int .i64 0,.slice (some ⟨vb,0,none⟩) 1 1] W _
  go_enter Tryz.func34,Tryz.ntmps34
  go_wp2_with (at_builtin;go_loud (refine Kd.R_append_rows (ice KH w0) (w0 := w) w.heap.size rfl _ _ 22 39 _ 136 rfl Tryz.underlying22 infoH rfl (Nat.zero_lt_succ 7) (by omega) (.slice none 0 0) [] [h] (some ⟨vb,0,none⟩) 1 1 (fun _ => True) (fun _ => False) rfl rfl (by exact HO.out) HV.out (fun x cs h => h) (fun _ h => h.elim) (fun _ _ => trivial) HB.out HB.out.size (by decide) ?_;intro v1 w1 hR hB _ _;have HR1 := Aside0.mk hR;have HB1 := Aside0.mk hB;clear hR hB))
  go_ret
  exact ⟨_,rfl,HR1.out,HB1.out⟩
 ·have p0 : (0 : Int) ≤ (xs.length : Int) := by omega
  have p1 : (xs.length : Int) ≤ (c : Int) := by omega
  clear hok hown hr HB0 hV0 hE0 hn
  go_enter Tryz.func34,Tryz.ntmps34
  go_wp2_with (at_builtin;go_loud (refine Kd.R_append_rows (ice KH w0) (w0 := w) w.heap.size rfl _ _ 22 39 _ 136 rfl Tryz.underlying22 infoH rfl (Nat.zero_lt_succ 7) (by omega) (.slice (some ⟨g,0,none⟩) xs.length c) xs [h] (some ⟨vb,0,none⟩) 1 1 (fun _ => True) (fun _ => False) rfl rfl (by exact HO.out) HV.out (fun x cs h => h) (fun _ h => h.elim) (fun _ _ => trivial) HB.out HB.out.size (by have := HN.out;omega) ?_;intro v1 w1 hR hB _ _;have HR1 := Aside0.mk hR;have HB1 := Aside0.mk hB;clear hR hB))
  all_goals
   go_ret
   exact ⟨_,rfl,HR1.out,HB1.out⟩
theorem infoH8 : (Tryz.prog.info? 39).map (·.size) = some 8 := by kernel_rfl
theorem shape_of {W : World} {g : Nat} {cs : Array Value} {T : TypeId} (h : W.heap[g]? = some (.cells cs T (0,0))) : W.shape? g = some (T,cs.size) := by simp [World.shape?,h]
theorem cell_some {W : World} {g k : Nat} {cs : Array Value} {T : TypeId} (h : W.heap[g]? = some (.cells cs T (0,0))) (hk : k < cs.size) : (W.cell? ⟨g,k,none⟩).isSome = true := by
 rw [cell_of_row W g _ cs T (0,0) h]
 simp
 omega
theorem ones_of {w0 : World} {xs : List H8} {cs : List Value} (h : Reps (KH.K w0) 8 xs cs) : ∀ u ∈ cs,u.oneCell' = true := Kd.reps_one h (by decide) (fun _ _ hp => KH.K_one hp)
theorem reps_single {w0 : World} {h : H8} {a : EA} (hE : KH.K w0 h (hcs h a).toList) : Reps (KH.K w0) 8 [h] (hcs h a).toList := by
 refine ⟨rfl,fun i p hp => ?_⟩
 match i,hp with
 | 0,hp =>
  obtain rfl : h = p := by simpa using hp
  exact hE
theorem insert_list (xs : List H8) (h : H8) (i : Nat) (hi : i ≤ xs.length) : (xs.take (i + 1) ++ xs.drop i).take i ++ ([h] ++ (xs.take (i + 1) ++ xs.drop i).drop (i + 1)) = xs.take i ++ h :: xs.drop i := by
 rcases Nat.lt_or_ge i xs.length with h1 | h1
 ·rw [List.take_append_of_le_length (by rw [List.length_take];omega),List.take_take,Nat.min_eq_left (by omega),List.drop_append,List.drop_of_length_le (by rw [List.length_take];omega),List.length_take,Nat.min_eq_left (by omega),Nat.sub_self,List.drop_zero]
  rfl
 ·have e : i = xs.length := by omega
  subst e
  rw [List.take_of_length_le (show xs.length ≤ xs.length + 1 by omega),List.drop_length,List.append_nil,List.take_length,List.drop_of_length_le (show xs.length ≤ xs.length + 1 by omega)]
  rfl
end Go.Proofs.YtiidmjmkgjfaeaaGreatDoor.Ent

namespace Go.Proofs.YtiidmjmkgjfaeaaGreatDoor.Ent
open Go Go.RowKit Go.Shelf Go.Proofs.YtiidmjmkgjfaeaaGreatDoorW.PrintWords Go.Proofs.YtiidmjmkgjfaeaaGreatDoor.PA Go.Proofs.YtiidmjmkgjfaeaaGreatDoor.Pure
set_option linter.unusedVariables false
set_option linter.unusedSimpArgs false
set_option maxHeartbeats 1000000 in
set_option maxRecDepth 100000 in
theorem insert_walk {W W1 W2 : World} {g c i n vb : Nat} (hi : i < n) (hroom : n + 1 ≤ c) (hn : n ≤ 1000000)
  (hov : (callFunc 58 #[.slice (some ⟨vb,0,none⟩) 1 1,.slice (some ⟨g,(i + 1) * 8,none⟩) (n - i) (c - (i + 1))]).run Tryz.prog W = .ok (.value (.bool false)) W)
  (hcp1 : ∀ ty dc sc,(Builtin.copy_ #[22,22] ty #[.slice (some ⟨g,(i + 1) * 8,none⟩) (n - i) dc,.slice (some ⟨g,i * 8,none⟩) (n + 1 - i) sc]).run Tryz.prog W.drew = .ok (goInt (Nat.min (n + 1 - i) (n - i))) W1)
  (hcp2 : ∀ ty dc,(Builtin.copy_ #[22,22] ty #[.slice (some ⟨g,i * 8,none⟩) (n + 1 - i) dc,.slice (some ⟨vb,0,none⟩) 1 1]).run Tryz.prog W1 = .ok (goInt (Nat.min 1 (n + 1 - i))) W2) :
  Calls Tryz.prog 34 #[.slice (some ⟨g,0,none⟩) n c,.int .i64 (i : Int),.slice (some ⟨vb,0,none⟩) 1 1] W fun e w' => e = .returned (.slice (some ⟨g,0,none⟩) (n + 1) c) ∧ w' = W2 := by
 have mixed : Tryz.prog.follows .mixedOrders = true := by kernel_rfl
 have HC1 := Aside0.mk hcp1
 have HC2 := Aside0.mk hcp2
 clear hcp1 hcp2
 have hz2 : ¬ ((i : Int) = (n : Int)) := by omega
 have hw1 : IntKind.i64.wrap ((i : Int) + 1) = (i : Int) + 1 := by rw [IntKind.wrap_i64];omega
 have hw2 : IntKind.i64.wrap ((n : Int) + 1) = (n : Int) + 1 := by rw [IntKind.wrap_i64];omega
 have hb1 : (0 : Int) ≤ (i : Int) + 1 := by omega
 have hin : i ≤ n := by omega
 have htn : ((i : Int) + 1).toNat = i + 1 := by omega
 have htn2 : ((n : Int) + 1).toNat = n + 1 := by omega
 have hb2 : ¬ (c = i + 1) := by omega
 have hb3 : (i : Int) ≤ (n : Int) + 1 := by omega
 have hb4 : ¬ (c = i) := by omega
 go_enter Tryz.func34,Tryz.ntmps34
 go_wp2_with (simp only [hov])
 go_region_law_o (refine step_copy_runI rfl _ _ 22 22 rfl _ _ (by simp [Act.eval,Act.put]) (by simp [Act.eval,Act.put]) (HC1.out _ (c - (i + 1)) (c - i)) ?_)
 have hc2 := HC2.out 3 (c - i)
 go_wp2_with (simp only [hc2,Result.andThen_ok])
 go_ret
 exact ⟨rfl,rfl⟩
set_option maxHeartbeats 8000000 in
set_option maxRecDepth 100000 in
theorem insert_shift {w0 w W : World} {g c i : Nat} {xs : List H8} (HO : (ice KH w0).R 39 W w.heap.size (fun _ => True) (.slice (some ⟨g,0,none⟩) xs.length c) xs) (hi : i < xs.length) (hroom : xs.length + 1 ≤ c) (hn : xs.length ≤ 1000000) (HB : Below w.heap.size w W) {vb : Nat} {h : H8} {a : EA} (hV : W.heap[vb]? = some (.cells (hcs h a) 39 (0,0))) (hE : KH.K w0 h (hcs h a).toList) (hvb : vb ≠ g) :
  Calls Tryz.prog 34 #[.slice (some ⟨g,0,none⟩) xs.length c,.int .i64 (i : Int),.slice (some ⟨vb,0,none⟩) 1 1] W fun e w' => InsPost w0 w (xs.take i ++ h :: xs.drop i) e w' := by
 obtain ⟨cur,inner,hh,_,hnc,hcm,hcs8,ht,hr,hb,hil⟩ := R_block HO
 obtain ⟨n,hnd⟩ : ∃ n,xs.length = n := ⟨_,rfl⟩
 have hd : (xs.drop i).length = n - i := by rw [List.length_drop,hnd]
 have HOd := Kd.R_below HO (show Below W.heap.size W W.drew from below_drew (Below.refl _ _))
 have HBd : Below w.heap.size w W.drew := below_drew HB
 rw [hnd] at HO hi hroom hn HOd hnc ht hil
 rw [hnd]
 have hr1 : Reps (KH.K w0) 8 (xs.drop i) (inner.drop (i * 8)) := Kd.reps_drop hr
 obtain ⟨seg,hseg⟩ : ∃ seg,inner.drop (i * 8) = seg := ⟨_,rfl⟩
 rw [hseg] at hr1
 have hsl : seg.length = (n - i) * 8 := by rw [hr1.1,hd]
 obtain ⟨HT,HTg⟩ := R_tail (q := i + 1) HOd hr1 (by omega) (by rw [hd];omega) (by rw [hd];omega)
 rw [hd,show i + 1 + (n - i) = n + 1 by omega] at HT
 obtain ⟨W1,hW1⟩ : ∃ W1,W.drew.setCells g ((i + 1) * 8) seg = W1 := ⟨_,rfl⟩
 rw [hW1] at HT HTg
 obtain ⟨cur1,inner1,hh1,_,_,_,hcs1,_,_,_,_⟩ := R_block HT
 have hV1 : W1.heap[vb]? = some (.cells (hcs h a) 39 (0,0)) := (HTg.block vb (Array.getElem?_eq_some_iff.1 hV).1 (by intro e;injection e with e;exact hvb e)).trans hV
 obtain ⟨HS,HSg⟩ := R_segs (q := i) HT (reps_single hE) (by simp;omega)
 rw [List.length_singleton,insert_list xs h i (by omega)] at HS
 obtain ⟨W2,hW2⟩ : ∃ W2,W1.setCells g (i * 8) (hcs h a).toList = W2 := ⟨_,rfl⟩
 rw [hW2] at HS HSg
 have hb1 : Below w.heap.size w W1 := HBd.grown HTg HBd.size (fun k hk => by injection hk with hk;omega)
 have hb2 : Below w.heap.size w W2 := hb1.grown HSg hb1.size (fun k hk => by injection hk with hk;omega)
 have hov : (callFunc 58 #[.slice (some ⟨vb,0,none⟩) 1 1,.slice (some ⟨g,(i + 1) * 8,none⟩) (n - i) (c - (i + 1))]).run Tryz.prog W = .ok (.value (.bool false)) W := by
  rw [run_callFunc_extern Tryz.func58 (by kernel_rfl) (by kernel_rfl) (by kernel_rfl) (e := Extern.SlicesOverlaps.overlaps #[22,22] #[4]) (by kernel_rfl),
   Lib.run_overlaps_apart W 22 4 39 Tryz.underlying22 8 Tryz.sizeOf39 ⟨vb,0,none⟩ ⟨g,(i + 1) * 8,none⟩ 1 1 (n - i) (c - (i + 1)) hvb _ _ _ _ (shape_of hV) (shape_of hh) (by omega) (qad hV _) (qad hV _)]
  rfl
 have hmin1 : Nat.min (n + 1 - i) (n - i) = n - i := Nat.min_eq_right (by omega)
 have hsrc1 : ∀ j v,seg[j]? = some v → W.drew.cell? ((⟨g,i * 8,none⟩ : Addr).add j) = some v := fun j v hj => by
  rw [Addr.add_lit]
  have hlt := (List.getElem?_eq_some_iff.1 hj).1
  rw [← hseg,List.getElem?_drop,← ht,List.getElem?_take] at hj
  split at hj
  ·rw [show W.drew.cell? ⟨g,i * 8 + j,none⟩ = W.cell? ⟨g,i * 8 + j,none⟩ from rfl,cell_of_row W g _ cur _ (0,0) hh,← Array.getElem?_toList]
   exact hj
  ·cases hj
 have hc8 : (n + 1) * 8 ≤ c * 8 := Nat.mul_le_mul_right 8 hroom
 have hcp1 : ∀ ty dc sc,(Builtin.copy_ #[22,22] ty #[.slice (some ⟨g,(i + 1) * 8,none⟩) (n - i) dc,.slice (some ⟨g,i * 8,none⟩) (n + 1 - i) sc]).run Tryz.prog W.drew = .ok (goInt (Nat.min (n + 1 - i) (n - i))) W1 := fun ty dc sc => by
  rw [← hW1]
  exact run_copy_size W.drew _ _ ty 39 8 g ((i + 1) * 8) (n - i) dc ⟨g,i * 8,none⟩ (n + 1 - i) sc seg Tryz.underlying22 infoH8 (by rw [hmin1,hsl]) hsrc1
   (fun j hj => cell_some (W := W) hh (by omega)) (fun j _ => qad (w := W) hh _) (ones_of hr1)
 have hmin2 : Nat.min 1 (n + 1 - i) = 1 := Nat.min_eq_left (by omega)
 have hcp2 : ∀ ty dc,(Builtin.copy_ #[22,22] ty #[.slice (some ⟨g,i * 8,none⟩) (n + 1 - i) dc,.slice (some ⟨vb,0,none⟩) 1 1]).run Tryz.prog W1 = .ok (goInt (Nat.min 1 (n + 1 - i))) W2 := fun ty dc => by
  rw [← hW2]
  refine run_copy_size W1 _ _ ty 39 8 g (i * 8) (n + 1 - i) dc ⟨vb,0,none⟩ 1 1 (hcs h a).toList Tryz.underlying22 infoH8 (by rw [hmin2];rfl) (fun j v hj => ?_)
   (fun j hj => cell_some hh1 (by have : j < 8 := hj;omega)) (fun j _ => qad hh1 _) (KH.K_one hE)
  rw [Addr.add_lit,Nat.zero_add,cell_of_row W1 vb _ _ _ (0,0) hV1,← Array.getElem?_toList]
  exact hj
 exact (insert_walk hi hroom hn hov hcp1 hcp2).mono fun e w' ⟨he,hw⟩ => ⟨_,he,hw ▸ HS,hw ▸ hb2⟩
end Go.Proofs.YtiidmjmkgjfaeaaGreatDoor.Ent

namespace Go.Proofs.YtiidmjmkgjfaeaaGreatDoor.Ent
open Go Go.RowKit Go.Shelf Go.Proofs.YtiidmjmkgjfaeaaGreatDoorW.PrintWords Go.Proofs.YtiidmjmkgjfaeaaGreatDoor.PA Go.Proofs.YtiidmjmkgjfaeaaGreatDoor.Pure
set_option linter.unusedVariables false
set_option linter.unusedSimpArgs false
set_option maxHeartbeats 1000000 in
set_option maxRecDepth 100000 in
theorem grow_walk {W W1 W2 W3 : World} {g c i n vb G N : Nat} (hi : i < n) (hc : n ≤ c) (hroom : c < n + 1) (hn : n ≤ 1000000) (hG : n + 1 ≤ G) (hGm : G ≤ 9223372036854775807)
  (hrz : ∀ ty,(Builtin.append_ #[22,3] ty #[.slice (some ⟨g,0,none⟩) i c,.int .i64 ((n : Int) + 1 - (i : Int))]).run Tryz.prog W = .ok (.slice (some ⟨N,0,none⟩) (n + 1) G) W1)
  (hcpA : ∀ ty dc,(Builtin.copy_ #[22,22] ty #[.slice (some ⟨N,i * 8,none⟩) (n + 1 - i) dc,.slice (some ⟨vb,0,none⟩) 1 1]).run Tryz.prog W1 = .ok (goInt (Nat.min 1 (n + 1 - i))) W2)
  (hcpB : ∀ ty dc sc,(Builtin.copy_ #[22,22] ty #[.slice (some ⟨N,(i + 1) * 8,none⟩) (n - i) dc,.slice (some ⟨g,i * 8,none⟩) (n - i) sc]).run Tryz.prog W2.drew = .ok (goInt (Nat.min (n - i) (n - i))) W3) :
  Calls Tryz.prog 34 #[.slice (some ⟨g,0,none⟩) n c,.int .i64 (i : Int),.slice (some ⟨vb,0,none⟩) 1 1] W fun e w' => e = .returned (.slice (some ⟨N,0,none⟩) (n + 1) G) ∧ w' = W3 := by
 have mixed : Tryz.prog.follows .mixedOrders = true := by kernel_rfl
 have HRZ := Aside0.mk hrz
 have HC1 := Aside0.mk hcpA
 have HC2 := Aside0.mk hcpB
 clear hrz hcpA hcpB
 have hz2 : ¬ ((i : Int) = (n : Int)) := by omega
 have hz3 : (c : Int) < (n : Int) + 1 := by omega
 have hw1 : IntKind.i64.wrap ((i : Int) + 1) = (i : Int) + 1 := by rw [IntKind.wrap_i64];omega
 have hw2 : IntKind.i64.wrap ((n : Int) + 1) = (n : Int) + 1 := by rw [IntKind.wrap_i64];omega
 have hw3 : IntKind.i64.wrap ((n : Int) + 1 - (i : Int)) = (n : Int) + 1 - (i : Int) := by rw [IntKind.wrap_i64];omega
 have hb1 : (0 : Int) ≤ (i : Int) + 1 := by omega
 have hin : i ≤ n := by omega
 have htn : ((i : Int) + 1).toNat = i + 1 := by omega
 have hb3 : (i : Int) ≤ (n : Int) := by omega
 have hb4 : ¬ (c = i) := by omega
 have hGi : ¬ (G = i) := by omega
 have hGim : ¬ (G = i + 1) := by omega
 have hic : i ≤ c := by omega
 go_enter Tryz.func34,Tryz.ntmps34
 have hc1 := HC1.out 3 (G - i)
 go_wp2_with (first
  | (at_builtin;refine Lib.wpList_append_run _ rfl _ _ _ _ rfl _ _ rfl rfl _ _ (HRZ.out _) ?_)
  | simp only [hc1,Result.andThen_ok])
 go_region_law_o (refine step_copy_runI rfl _ _ 22 22 rfl _ _ (by simp [Act.eval,Act.put]) (by simp [Act.eval,Act.put]) (HC2.out _ (G - (i + 1)) (c - i)) ?_)
 go_wp2
 go_ret
 exact ⟨rfl,rfl⟩
theorem zero_size (z : Array Value) (k : Nat) : (Builtin.zeroCells z k).size = k * z.size := by simp [Builtin.zeroCells]
theorem grow_list (xs : List H8) (h : H8) (i : Nat) (hi : i ≤ xs.length) : ((xs.take i).take i ++ [h]).take (i + 1) ++ xs.drop i = xs.take i ++ h :: xs.drop i := by
 rw [List.take_take,Nat.min_self,List.take_of_length_le (by rw [List.length_append,List.length_take];simp;omega),List.append_assoc]
 rfl
set_option maxHeartbeats 4000000 in
set_option maxRecDepth 100000 in
theorem insert_grow {w0 w W : World} {g c i : Nat} {xs : List H8} (HO : (ice KH w0).R 39 W w.heap.size (fun _ => True) (.slice (some ⟨g,0,none⟩) xs.length c) xs) (hi : i < xs.length) (hroom : c < xs.length + 1) (hn : xs.length ≤ 1000000) (HB : Below w.heap.size w W) {vb : Nat} {h : H8} {a : EA} (hV : W.heap[vb]? = some (.cells (hcs h a) 39 (0,0))) (hE : KH.K w0 h (hcs h a).toList) :
  Calls Tryz.prog 34 #[.slice (some ⟨g,0,none⟩) xs.length c,.int .i64 (i : Int),.slice (some ⟨vb,0,none⟩) 1 1] W fun e w' => InsPost w0 w (xs.take i ++ h :: xs.drop i) e w' := by
 obtain ⟨cur,inner,hh,_,hnc,hcm,hcs8,ht,hr,hb,hil⟩ := R_block HO
 obtain ⟨n,hnd⟩ : ∃ n,xs.length = n := ⟨_,rfl⟩
 have hd : (xs.drop i).length = n - i := by rw [List.length_drop,hnd]
 have htk : (xs.take i).length = i := by rw [List.length_take];omega
 rw [hnd] at HO hi hroom hn hnc ht hil
 rw [hnd]
 have hr1 : Reps (KH.K w0) 8 (xs.drop i) (inner.drop (i * 8)) := Kd.reps_drop hr
 have hr0 : Reps (KH.K w0) 8 (xs.take i) (inner.take (i * 8)) := Kd.reps_take hr (by omega)
 have hl0 : (inner.take (i * 8)).length = i * 8 := by rw [hr0.1,htk]
 have hsrc : ∀ j v,inner[j]? = some v → W.cell? ⟨g,j,none⟩ = some v := fun j v hj => by
  rw [← ht,List.getElem?_take] at hj
  split at hj
  ·rw [cell_of_row W g _ cur _ (0,0) hh,← Array.getElem?_toList]
   exact hj
  ·cases hj
 obtain ⟨seg,hseg⟩ : ∃ seg,inner.drop (i * 8) = seg := ⟨_,rfl⟩
 rw [hseg] at hr1
 have hsl : seg.length = (n - i) * 8 := by rw [hr1.1,hd]
 have gW : g < W.heap.size := (Array.getElem?_eq_some_iff.1 hh).1
 have vW : vb < W.heap.size := (Array.getElem?_eq_some_iff.1 hV).1
 obtain ⟨i0,hi0,hz0,hzs,hzb⟩ : ∃ i0 : TypeInfo,Tryz.prog.info? 39 = some i0 ∧ i0.zero = some (.agg #[.string ⟨#[]⟩,.string ⟨#[]⟩,.slice none 0 0,.slice none 0 0,.slice none 0 0,.slice none 0 0,.bool false,.bool false]) ∧ i0.size = 8 ∧ i0.bytes = 136 := by
  have := infoH
  cases hq : Tryz.prog.info? 39 with
  | none => rw [hq] at this;cases this
  | some i0 =>
   rw [hq] at this
   injection this with this
   injection this with t1 t2
   injection t2 with t2 t3
   exact ⟨i0,rfl,t1,t2,t3⟩
 have hold : (Builtin.firstCells i0.size i (.slice (some ⟨g,0,none⟩) i c)).run Tryz.prog W.drew = .ok (inner.take (i * 8)).toArray W.drew := by
  rw [hzs]
  exact run_firstCells_some W.drew 8 i ⟨g,0,none⟩ i c (inner.take (i * 8)) hl0 (fun j v hj => by
   rw [Addr.add_lit,Nat.zero_add]
   rw [List.getElem?_take] at hj
   split at hj
   ·exact hsrc j v hj
   ·cases hj)
 have hik : i + (n + 1 - i) = n + 1 := by omega
 have hkk : (n : Int) + 1 - (i : Int) = ((n + 1 - i : Nat) : Int) := by omega
 have hzz : (Value.agg #[.string ⟨#[]⟩,.string ⟨#[]⟩,.slice none 0 0,.slice none 0 0,.slice none 0 0,.slice none 0 0,.bool false,.bool false]).cells.size = 8 := by kernel_rfl
 obtain ⟨z,hz⟩ : ∃ z : Value,Value.agg #[.string ⟨#[]⟩,.string ⟨#[]⟩,.slice none 0 0,.slice none 0 0,.slice none 0 0,.slice none 0 0,.bool false,.bool false] = z := ⟨_,rfl⟩
 rw [hz] at hz0 hzz
 obtain ⟨G,hG⟩ : ∃ G,grownCap W (n + 1) c 39 = G := ⟨_,rfl⟩
 obtain ⟨ROW,hROW⟩ : ∃ ROW : Array Value,(inner.take (i * 8)).toArray ++ Builtin.zeroCells z.cells (n + 1 - i) ++ Builtin.zeroCells z.cells (G - (n + 1)) = ROW := ⟨_,rfl⟩
 obtain ⟨W1,hW1⟩ : ∃ W1,W.drew.alloc (.cells ROW 39) = W1 := ⟨_,rfl⟩
 have hrz : ∀ ty,(Builtin.append_ #[22,3] ty #[.slice (some ⟨g,0,none⟩) i c,.int .i64 ((n : Int) + 1 - (i : Int))]).run Tryz.prog W = .ok (.slice (some ⟨W.heap.size,0,none⟩) (n + 1) G) W1 := fun ty => by
  have h := Lib.run_append_grow_zeros W 22 3 ty 39 i0 z .i64 .i64 Tryz.underlying22 Tryz.underlying3 hi0 hz0 (some ⟨g,0,none⟩) i c (inner.take (i * 8)) hold (n + 1 - i) (by omega) (by omega) (by omega) (by omega) (by rw [hzb];omega) (by rw [hzb,hik];exact growslice_fits hroom (by omega))
  rw [hik,hG,hROW,hW1] at h
  rw [hkk]
  exact h
 have hGn : n + 1 ≤ G := by rw [← hG];exact grownCap_ge W _ _ _
 have hGm : G ≤ maxLen := by rw [← hG];exact grownCap_le_maxLen W (n + 1) c _ (by unfold maxLen;omega)
 have hRs : ROW.size = G * 8 := by
  rw [← hROW,Array.size_append,Array.size_append,zero_size,zero_size,hzz]
  show (inner.take (i * 8)).length + _ + _ = _
  rw [hl0,← Nat.add_mul,← Nat.add_mul]
  congr 1
  omega
 have hRt : ROW.toList.take (i * 8) = inner.take (i * 8) := by
  rw [← hROW,Array.toList_append,Array.toList_append,List.append_assoc]
  exact List.take_left' hl0
 have hN1 : W1.heap[W.heap.size]? = some (.cells ROW 39 (0,0)) := by rw [← hW1];exact World.alloc_heap_new W.drew _
 have B1 : Below W.heap.size W W1 := by rw [← hW1];exact qab (below_drew (Below.refl W.heap.size W)) _
 have B2 : Below w.heap.size w W1 := HB.trans (B1.mono HB.size)
 have HR0 := R_of_block (w0 := w0) (base := w.heap.size) (xs := xs.take i) hN1 htk.symm (by omega) hGm hRs hRt hr0 HB.size hl0
 obtain ⟨HR1,HG1⟩ := R_tail (q := i) HR0 (reps_single hE) (by omega) (by simp) (by simp;omega)
 rw [List.length_singleton] at HR1
 obtain ⟨W2,hW2⟩ : ∃ W2,W1.setCells W.heap.size (i * 8) (hcs h a).toList = W2 := ⟨_,rfl⟩
 rw [hW2] at HR1 HG1
 have HR1d := Kd.R_below HR1 (show Below W2.heap.size W2 W2.drew from below_drew (Below.refl _ _))
 obtain ⟨HR2,HG2⟩ := R_tail (q := i + 1) HR1d hr1 (by omega) (by rw [hd];omega) (by rw [hd];omega)
 rw [hd,show i + 1 + (n - i) = n + 1 by omega,grow_list xs h i (by omega)] at HR2
 obtain ⟨W3,hW3⟩ : ∃ W3,W2.drew.setCells W.heap.size ((i + 1) * 8) seg = W3 := ⟨_,rfl⟩
 rw [hW3] at HR2 HG2
 have b2 : Below w.heap.size w W2 := B2.grown HG1 B2.size (fun k hk => by injection hk with hk;have := HB.size;omega)
 have b2d : Below w.heap.size w W2.drew := below_drew b2
 have b3 : Below w.heap.size w W3 := b2d.grown HG2 b2d.size (fun k hk => by injection hk with hk;have := HB.size;omega)
 have hV1 : W1.heap[vb]? = some (.cells (hcs h a) 39 (0,0)) := (B1.block vb vW).trans hV
 have hg2 : W2.heap[g]? = some (.cells cur 39 (0,0)) := (HG1.block g (Nat.lt_of_lt_of_le gW B1.size) (by intro e;injection e with e;omega)).trans ((B1.block g gW).trans hh)
 obtain ⟨cur2,_,hh2,_,_,_,hcs2,_,_,_,_⟩ := R_block HR1
 have hmin2 : Nat.min 1 (n + 1 - i) = 1 := Nat.min_eq_left (by omega)
 have hG8 : (n + 1) * 8 ≤ G * 8 := Nat.mul_le_mul_right 8 hGn
 have hcpA : ∀ ty dc,(Builtin.copy_ #[22,22] ty #[.slice (some ⟨W.heap.size,i * 8,none⟩) (n + 1 - i) dc,.slice (some ⟨vb,0,none⟩) 1 1]).run Tryz.prog W1 = .ok (goInt (Nat.min 1 (n + 1 - i))) W2 := fun ty dc => by
  rw [← hW2]
  refine run_copy_size W1 _ _ ty 39 8 W.heap.size (i * 8) (n + 1 - i) dc ⟨vb,0,none⟩ 1 1 (hcs h a).toList Tryz.underlying22 infoH8 (by rw [hmin2];rfl) (fun j v hj => ?_)
   (fun j hj => cell_some hN1 (by have : j < 8 := hj;omega)) (fun j _ => qad hN1 _) (KH.K_one hE)
  rw [Addr.add_lit,Nat.zero_add,cell_of_row W1 vb _ _ _ (0,0) hV1,← Array.getElem?_toList]
  exact hj
 have hcpB : ∀ ty dc sc,(Builtin.copy_ #[22,22] ty #[.slice (some ⟨W.heap.size,(i + 1) * 8,none⟩) (n - i) dc,.slice (some ⟨g,i * 8,none⟩) (n - i) sc]).run Tryz.prog W2.drew = .ok (goInt (Nat.min (n - i) (n - i))) W3 := fun ty dc sc => by
  rw [← hW3]
  refine run_copy_size W2.drew _ _ ty 39 8 W.heap.size ((i + 1) * 8) (n - i) dc ⟨g,i * 8,none⟩ (n - i) sc seg Tryz.underlying22 infoH8 (by rw [show Nat.min (n - i) (n - i) = n - i from Nat.min_self _,hsl]) (fun j v hj => ?_)
   (fun j hj => cell_some (W := W2.drew) hh2 (by omega)) (fun j _ => qad (w := W2.drew) hh2 _) (ones_of hr1)
  rw [Addr.add_lit,cell_of_row W2.drew g _ cur _ (0,0) hg2,← Array.getElem?_toList]
  rw [← hseg,List.getElem?_drop,← ht,List.getElem?_take] at hj
  split at hj
  ·exact hj
  ·cases hj
 exact (grow_walk hi hnc hroom hn hGn (by unfold maxLen at hGm;omega) hrz hcpA hcpB).mono fun e w' ⟨he,hw⟩ => ⟨_,he,hw ▸ HR2,hw ▸ b3⟩
theorem insert_calls {w0 w W : World} {v : Value} {xs : List H8} {i : Nat} (HO : (ice KH w0).R 39 W w.heap.size (fun _ => True) v xs) (hi : i ≤ xs.length) (hn : xs.length ≤ 1000000) (HB : Below w.heap.size w W) {vb : Nat} {h : H8} {a : EA} (hV : W.heap[vb]? = some (.cells (hcs h a) 39 (0,0))) (hE : KH.K w0 h (hcs h a).toList) (hne : ∀ g n c,v = .slice (some ⟨g,0,none⟩) n c → vb ≠ g) :
  Calls Tryz.prog 34 #[v,.int .i64 (i : Int),.slice (some ⟨vb,0,none⟩) 1 1] W fun e w' => InsPost w0 w (xs.take i ++ h :: xs.drop i) e w' := by
 rcases Nat.lt_or_ge i xs.length with h1 | h1
 ·obtain ⟨hok,inner,hown,hr⟩ := HO
  rcases hown.2 with ⟨rfl,h0⟩ | ⟨g,c,cur,rfl,x1,x2,x3,x4⟩
  ·omega
  ·rcases Nat.lt_or_ge c (xs.length + 1) with h2 | h2
   ·exact insert_grow ⟨hok,inner,hown,hr⟩ h1 h2 hn HB hV hE
   ·exact insert_shift ⟨hok,inner,hown,hr⟩ h1 h2 hn HB hV hE (hne _ _ _ rfl)
 ·obtain rfl : i = xs.length := by omega
  rw [List.take_length,List.drop_length]
  exact insert_end HO hn HB hV hE
end Go.Proofs.YtiidmjmkgjfaeaaGreatDoor.Ent

namespace Go.Proofs.YtiidmjmkgjfaeaaGreatDoor.Ent
open Go Go.RowKit Go.Shelf Go.Proofs.YtiidmjmkgjfaeaaGreatDoorW.PrintWords Go.Proofs.YtiidmjmkgjfaeaaGreatDoor.PA Go.Proofs.YtiidmjmkgjfaeaaGreatDoor.Pure
set_option linter.unusedVariables false
set_option linter.unusedSimpArgs false
set_option maxHeartbeats 1000000 in
set_option maxRecDepth 100000 in
theorem with1_pred {w : World} (h : H8) (a : EA) (D : Nat) (hD : w.heap[D]? = some (.cells (hcs h a) 39 (0,0))) (l : List H8) : PredP KH (lessN h) 33 #[.pointer (some ⟨D,0,none⟩)] w l := by
 intro W x cs hb hm hK
 obtain ⟨ax,rfl,_⟩ := here_open hK
 have gD := (hb.block _ (Array.getElem?_eq_some_iff.1 hD).1).trans hD
 have hDW : D < W.heap.size := (Array.getElem?_eq_some_iff.1 gD).1
 have hne : D ≠ W.heap.size := by omega
 obtain ⟨x0,_⟩ := hcs_cells gD
 have HB := Aside0.mk hb
 unfold lessN
 obtain ⟨r,hr⟩ : ∃ r,Op.bytesLess h.f0.f0.toList x.f0.f0.toList = r := ⟨_,rfl⟩
 rw [hr]
 clear hK hD hm hb gD
 show Calls Tryz.prog 33 #[.agg (hcs x ax),.pointer (some ⟨D,0,none⟩)] W _
 go_enter Tryz.func33,Tryz.ntmps33
 go_wp2
 go_ret
 exact ⟨rfl,qab HB.out _⟩
def putAt (h : H8) (l : List H8) : Nat := (l.findIdx? (lessN h)).getD l.length
def withH (l : List H8) (h : H8) : List H8 := (withoutH l h.f0.f0).take (putAt h (withoutH l h.f0.f0)) ++ h :: (withoutH l h.f0.f0).drop (putAt h (withoutH l h.f0.f0))
theorem idx_find (p : H8 → Bool) : ∀ (m : List H8) (i : Nat),(m.findIdx? p = none ∧ idxP p m i = -1) ∨ ∃ j,j < m.length ∧ m.findIdx? p = some j ∧ idxP p m i = ((i + j : Nat) : Int)
 | [],i => .inl ⟨rfl,rfl⟩
 | x :: r,i => by
  rw [List.findIdx?_cons,idxP]
  cases h : p x with
  | true => exact .inr ⟨0,by simp,rfl,by rw [if_pos rfl];rfl⟩
  | false =>
   simp only [Bool.false_eq_true,if_false]
   rcases idx_find p r (i + 1) with ⟨h1,h2⟩ | ⟨j,h0,h1,h2⟩
   ·exact .inl ⟨by rw [h1];rfl,h2⟩
   ·exact .inr ⟨j + 1,by simp;omega,by rw [h1];rfl,by rw [h2];congr 1;omega⟩
theorem keep2 {w1 w2 w3 : World} {b : Nat} {o : Obj} (z : w1.heap[b]? = some o) (h2 : Below w1.heap.size w1 w2) (h3 : Below w2.heap.size w2 w3) : w3.heap[b]? = some o := by
 have l1 := (Array.getElem?_eq_some_iff.1 z).1
 exact (h3.block b (Nat.lt_of_lt_of_le l1 h2.size)).trans ((h2.block b l1).trans z)
theorem put_at (h : H8) (m : List H8) (r : Int) (hr : idxP (lessN h) m 0 = r) : (r < 0 → putAt h m = m.length) ∧ (0 ≤ r → putAt h m = r.toNat ∧ r ≤ (m.length : Int)) := by
 unfold putAt
 rcases idx_find (lessN h) m 0 with ⟨f1,f2⟩ | ⟨j,f0,f1,f2⟩
 ·rw [f1]
  exact ⟨fun _ => rfl,fun h0 => by omega⟩
 ·rw [f1]
  exact ⟨fun h0 => by omega,fun _ => ⟨show j = r.toNat by omega,by omega⟩⟩
theorem with_ins {w0 w wa w2 w3 : World} {A2 : Option Addr} {c2 : Nat} {m : List H8} {h : H8} {a : EA} (hA : Below w.heap.size w wa) (h2 : Below wa.heap.size wa w2) (h3 : Below w2.heap.size w2 w3) (hR : (ice KH w0).R 39 w2 wa.heap.size (fun _ => True) (.slice A2 m.length c2) m) (hl : m.length ≤ 1000000) (hE : KH.K w0 h (hcs h a).toList) (rr : Int) (h0 : 0 ≤ rr) (h1 : rr ≤ (m.length : Int)) :
  Calls Tryz.prog 34 #[.slice A2 m.length c2,.int .i64 rr,.slice (some ⟨w3.heap.size,0,none⟩) 1 1] (w3.alloc (.cells (hcs h a) 39)) fun e w' => InsPost w0 w (m.take rr.toNat ++ h :: m.drop rr.toNat) e w' := by
 obtain ⟨k,rfl⟩ := Int.eq_ofNat_of_zero_le h0
 have R3 := Kd.R_below hR h3
 have R4 := Kd.R_lower (Kd.R_below R3 (qab (Below.refl w3.heap.size w3) (.cells (hcs h a) 39))) hA.size
 have b12 := hA.trans (h2.mono hA.size)
 have b13 := b12.trans (h3.mono b12.size)
 refine insert_calls R4 (by omega) hl (qab b13 _) (World.alloc_heap_new w3 _) hE (fun g n c hv => ?_)
 injection hv with e1 e2 e3
 subst e1
 obtain ⟨cur,inner,hh,_⟩ := R_block R3
 have := (Array.getElem?_eq_some_iff.1 hh).1
 omega
set_option maxHeartbeats 8000000 in
set_option maxRecDepth 100000 in
theorem with_calls {w0 w : World} (hw0 : Below w0.heap.size w0 w) (A : Option Addr) (c : Nat) (l : List H8) (h : H8) (a : EA) (hr : (ice KH w0).C w A l.length l) (hl : l.length ≤ 1000000) (hE : KH.K w0 h (hcs h a).toList) :
  Calls Tryz.prog 15 #[.slice A l.length c,.agg (hcs h a)] w fun e w' => InsPost w0 w (withH l h) e w' := by
 have hb1 := qab (Below.refl w.heap.size w) (.cells (hcs h a) 39)
 have HWO := Aside0.mk (without_calls (hw0.trans (hb1.mono hw0.size)) A c l h.f0.f0 (Kd.C_below hr hb1) hl)
 have HB1 := Aside0.mk hb1
 have HW0 := Aside0.mk hw0
 have HE := Aside0.mk hE
 have hll : (withoutH l h.f0.f0).length ≤ 1000000 := Nat.le_trans (List.length_filter_le _ _) hl
 unfold withH
 obtain ⟨m,hm⟩ : ∃ m,withoutH l h.f0.f0 = m := ⟨_,rfl⟩
 rw [hm] at HWO hll ⊢
 have HLL := Aside0.mk hll
 have z0 := World.alloc_heap_new w (.cells (hcs h a) 39)
 have Z0 := Aside0.mk z0
 obtain ⟨x0,x1,x2,x3,x4,x5,x6,x7⟩ := hcs_cells z0
 clear hr hl hb1 hw0 hE hm z0 hll
 have HI := Aside0.mk (show ∀ (W : World) (A2 : Option Addr) (c2 : Nat),Below (w.alloc (.cells (hcs h a) 39)).heap.size (w.alloc (.cells (hcs h a) 39)) W → (ice KH w0).C W A2 m.length m → _ from fun W A2 c2 hb hC =>
  indexHere (lessN h) 33 #[.pointer (some ⟨w.heap.size,0,none⟩)] (enters_of Tryz.func33 (by kernel_rfl) rfl) W A2 c2 m (with1_pred h a w.heap.size ((hb.block _ (Array.getElem?_eq_some_iff.1 Z0.out).1).trans Z0.out) m) (thaw hC (HW0.out.trans ((HB1.out.trans (hb.mono HB1.out.size)).mono HW0.out.size))) (by have := HLL.out;omega))
 obtain ⟨r,hr⟩ : ∃ r,idxP (lessN h) m 0 = r := ⟨_,rfl⟩
 rw [hr] at HI
 have HX := Aside0.mk (put_at h m r hr)
 obtain ⟨q,hq⟩ : ∃ q,putAt h m = q := ⟨_,rfl⟩
 rw [hq] at HX ⊢
 clear hr hq
 go_enter Tryz.func15,Tryz.ntmps15
 go_wp2_with (first
  | (go_at_call 34;go_loud (refine (with_ins HB1.out HB2.out HB3.out HR2.out HLL.out HE.out _ (by have := HX.out;omega) (by have := HX.out;omega)).mono ?_);rintro e w5 ⟨v5,rfl,hR5,hb5⟩;have HR5 := Aside0.mk hR5;have HB5 := Aside0.mk hb5;clear hR5 hb5)
  | (go_at_call 32;go_loud (refine (HI.out _ _ _ HB2.out HC2.out).mono ?_);rintro e w3 ⟨rfl,hb3⟩;have HB3 := Aside0.mk hb3;have z3 := keep2 Z0.out HB2.out hb3;have Z3 := Aside0.mk z3;obtain ⟨y0,y1,y2,y3,y4,y5,y6,y7⟩ := hcs_cells z3;clear hb3 z3)
  | (go_at_call 14;refine HWO.out.mono ?_;rintro e w2 ⟨v2,rfl,hR,hb2⟩;obtain ⟨A2,c2,rfl,hc2,hC2⟩ := Kd.R_reads hR;have HR2 := Aside0.mk hR;have HB2 := Aside0.mk hb2;have HC2 := Aside0.mk hC2;clear hR hb2 hC2))
 all_goals
  go_ret
  have hx := HX.out
  have hr5 := HR5.out
  first
   | rw [show q = m.length by omega];exact ⟨_,rfl,hr5,HB5.out⟩
   | rw [show q = r.toNat by omega];exact ⟨_,rfl,hr5,HB5.out⟩
end Go.Proofs.YtiidmjmkgjfaeaaGreatDoor.Ent

