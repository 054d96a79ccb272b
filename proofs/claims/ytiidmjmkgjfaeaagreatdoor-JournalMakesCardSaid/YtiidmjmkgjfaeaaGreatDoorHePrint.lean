import Derived.Test.YtiidmjmkgjfaeaaGreatDoorHeIdx
import Derived.Test.YtiidmjmkgjfaeaaGreatDoorStPrint
import Derived.Lib.SliceRun
import Derived.Test.YtiidmjmkgjfaeaaGreatDoorHeRight
import Derived.Test.YtiidmjmkgjfaeaaGreatDoorEntWrite
import Derived.Lib.ReplaceLaws
import Derived.RangeFuncRecord
namespace Go.Proofs.YtiidmjmkgjfaeaaGreatDoor.Ent
open Go Go.RowKit Go.Shelf Go.Proofs.YtiidmjmkgjfaeaaGreatDoorW.PrintWords Go.Proofs.YtiidmjmkgjfaeaaGreatDoor.PA
set_option linter.unusedVariables false
set_option linter.unusedSimpArgs false
def ice {α : Type} (d : Kd α) (w0 : World) : Kd α where
 sz := d.sz
 E := []
 K := fun _ x cs => d.K w0 x cs
 M := fun _ _ _ x cs => d.K w0 x cs
 K_len := d.K_len
 K_one := d.K_one
 K_below := fun _ h => h
 K_of_M := fun h => h
 M_mono := fun _ h => h
 M_bound := fun h => h
 M_move := fun _ h => h
 M_lower := fun _ h => h
variable {α : Type} {d : Kd α} {w0 w : World} {A : Option Addr} {n : Nat} {xs : List α}
theorem thaw (h : (ice d w0).C w A n xs) (hb : Below w0.heap.size w0 w) : d.C w A n xs := ReadsRow.imp_ h (Below.refl _ _) (fun _ _ hp => d.K_below hb hp)
theorem freeze (h : d.C w A n xs) : (ice d w).C w A n xs := h
end Go.Proofs.YtiidmjmkgjfaeaaGreatDoor.Ent

namespace Go.Proofs.YtiidmjmkgjfaeaaGreatDoor.Ent
open Go Go.RowKit Go.Shelf Go.Proofs.YtiidmjmkgjfaeaaGreatDoorW.PrintWords Go.Proofs.YtiidmjmkgjfaeaaGreatDoor.PA Go.Proofs.YtiidmjmkgjfaeaaGreatDoor.Pure
set_option linter.unusedVariables false
set_option linter.unusedSimpArgs false
theorem infoSF : (Tryz.prog.info? 92).map (fun i => (i.zero,i.size,i.bytes)) = some (some (.agg #[.string ⟨#[]⟩,.string ⟨#[]⟩]),2,32) := by kernel_rfl
theorem lit0 {α : Type} (d : Kd α) (T : TypeId) (w : World) (ok : Nat → Prop) (hok : ok w.heap.size) : d.R T (w.alloc (.cells #[] T)) w.heap.size ok (.slice (some ⟨w.heap.size,0,none⟩) 0 0) [] := by
 refine ⟨fun k hk => ?_,[],?_,Reps.none _ _⟩
 ·have : w.heap.size = k := by simpa [Value.ownBlock] using hk
  subst this
  exact hok
 ·have h2 := World.ownsRow_lit (base := w.heap.size) (e := T) (size := d.sz) w #[] 0 (Nat.le_refl _) (by simp [maxLen]) (by simp)
  simpa using h2
set_option maxHeartbeats 2000000 in
set_option maxRecDepth 100000 in
theorem cloneSF {w : World} (A : Option Addr) (c : Nat) (l : List SF) (hr : KF.C w A l.length l) (hl : l.length ≤ 1000000) :
  Calls Tryz.prog 84 #[.slice A l.length c] w fun e w' => ∃ v,e = .returned v ∧ KF.R 92 w' w.heap.size (fun _ => True) v l ∧ Below w.heap.size w w' := by
 have HR := Aside0.mk hr
 have HL := Aside0.mk hl
 have q22 : ∀ (w : World) (a : Option Addr) (n c n' c' : Nat),(binOp .eql 80 (.slice a n c) (.slice none n' c')).run Tryz.prog w = .ok (.bool a.isNone) w := fun w a n c n' c' => Lib.run_eql_slice_nil w _ _ a n c n' c' Tryz.underlying80
 cases A with
 | none =>
  obtain rfl : l = [] := by
   cases l with
   | nil => rfl
   | cons x r => obtain ⟨_,_,h⟩ := hr;obtain ⟨a,h,_⟩ := h (by simp);cases h
  clear hr hl
  go_enter Tryz.func84,Tryz.ntmps84
  go_wp2
  go_ret
  exact ⟨_,rfl,Kd.R_nil _ _ _ _ _,Below.refl _ _⟩
 | some a =>
  clear hr hl
  go_enter Tryz.func84,Tryz.ntmps84
  go_wp2_with (at_builtin;refine Kd.R_append_rows KF (w0 := w) w.heap.size rfl _ _ 80 92 _ 32 rfl Tryz.underlying80 infoSF rfl (by decide) (by omega) (.slice (some ⟨w.heap.size,0,none⟩) 0 0) [] l (some a) l.length c (fun _ => True) (fun _ => False) rfl rfl (lit0 KF 92 w (fun _ => True) trivial) (Kd.C_alloc HR.out _) (fun x cs h => by obtain rfl := k92_open h;exact k92_mkM _ _ _ x) (fun _ h => h.elim) (fun _ _ => trivial) (qab (Below.refl _ _) _) (by simp) (by have := HL.out;simp;omega) ?_;intro v1 w1 hR hB _ _;rw [List.nil_append] at hR;have HR1 := Aside0.mk hR;have HB1 := Aside0.mk hB;clear hR hB)
  go_ret
  exact ⟨_,rfl,HR1.out,HB1.out⟩
set_option maxHeartbeats 2000000 in
set_option maxRecDepth 100000 in
theorem put_new {w : World} (A : Option Addr) (c : Nat) (l : List SF) (n v : ByteArray) (hr : KF.C w A l.length l) (hl : l.length ≤ 1000000) (hn : idxP (isF n) l 0 = -1) :
  Calls Tryz.prog 63 #[.slice A l.length c,.string n,.string v] w fun e w' => ∃ u,e = .returned u ∧ KF.R 92 w' w.heap.size (fun _ => True) u (l ++ [⟨n,v⟩]) ∧ Below w.heap.size w w' := by
 have HC := Aside0.mk (cloneSF A c l hr hl)
 have HR := Aside0.mk hr
 have HL := Aside0.mk hl
 have HP := Aside0.mk (show ∀ W,Below w.heap.size w W → Calls Tryz.prog 85 #[.slice A l.length c,.string n] W fun e w' => e = .returned (.int .i64 (-1)) ∧ Below W.heap.size W w' from fun W hb => by
  have := stanza_place_calls A c l n W (Kd.C_below hr hb) (by omega)
  rw [hn] at this
  exact this)
 clear hr hl hn
 go_enter Tryz.func63,Tryz.ntmps63
 go_wp2_with (first
  | (at_builtin;refine Kd.R_append KF (w0 := w) w.heap.size rfl _ _ 80 92 _ 32 rfl Tryz.underlying80 infoSF rfl (by decide) (by omega) (.slice A1 l.length c1) l (⟨n,v⟩ : SF) [.string n,.string v] (fun _ => True) (fun _ => False) rfl (by first | rfl | (simp;done) | (go_simp;done) | (simp [Act.eval];done)) (k92_mkM _ _ _ ⟨n,v⟩) (fun _ hk => hk.elim) (fun _ _ => trivial) HR2.out HB2.out HB2.out.size (by have := HL.out;omega) ?_;intro v3 w3 hR hB _ _;have HR3 := Aside0.mk hR;have HB3 := Aside0.mk hB;clear hR hB)
  | (go_at_call 85;refine (HP.out _ HB1.out).mono ?_;rintro e w2 ⟨rfl,hb2⟩;have HR2 := Aside0.mk (Kd.R_below HR1.out hb2);have HB2 := Aside0.mk (HB1.out.trans (hb2.mono HB1.out.size));clear hb2)
  | (go_at_call 84;refine HC.out.mono ?_;rintro e w1 ⟨v1,rfl,hR,hb1⟩;obtain ⟨A1,c1,rfl,hc1,hC1⟩ := Kd.R_reads hR;have HR1 := Aside0.mk hR;have HB1 := Aside0.mk hb1;clear hR hb1 hc1 hC1))
 go_ret
 exact ⟨_,rfl,HR3.out,HB3.out⟩
end Go.Proofs.YtiidmjmkgjfaeaaGreatDoor.Ent

namespace Go.Proofs.YtiidmjmkgjfaeaaGreatDoor.Ent
open Go Go.RowKit Go.Shelf Go.Proofs.YtiidmjmkgjfaeaaGreatDoorW.PrintWords Go.Proofs.YtiidmjmkgjfaeaaGreatDoor.PA Go.Proofs.YtiidmjmkgjfaeaaGreatDoor.Pure
set_option linter.unusedVariables false
set_option linter.unusedSimpArgs false
abbrev sAuto : ByteArray := (⟨#[65,117,116,111]⟩ : ByteArray)
abbrev sHold : ByteArray := (⟨#[72,111,108,100]⟩ : ByteArray)
abbrev sYes : ByteArray := (⟨#[121,101,115]⟩ : ByteArray)
def coreH (e : E6) : List SF := [⟨sPkg,e.f0⟩,⟨sVer,e.f1⟩] ++ (fsE e).filter hasF
def autoH (b : Bool) (l : List SF) : List SF := if b = true then l ++ [⟨sAuto,sYes⟩] else l
def holdH (b : Bool) (l : List SF) : List SF := if b = true then l ++ [⟨sHold,sYes⟩] else l
def stH (h : H8) : List SF := holdH h.f2 (autoH h.f1 (coreH h.f0))
def printH (l : List H8) : ByteArray := if rightH l = true then printT (l.map stH) else ⟨#[]⟩
def fitsH (l : List H8) : Bool := rightH l && (l.isEmpty || !(printH l).toList.isEmpty)
theorem idxP_none {α : Type} (p : α → Bool) : ∀ (l : List α) (i : Nat),(∀ x ∈ l,p x = false) → idxP p l i = -1
 | [],_,_ => rfl
 | x :: r,i,h => by rw [idxP,h x List.mem_cons_self,if_neg (by decide)];exact idxP_none p r (i + 1) fun y hy => h y (List.mem_cons_of_mem _ hy)
theorem core_names {e : E6} {x : SF} (h : x ∈ coreH e) : x.f0 = sPkg ∨ x.f0 = sVer ∨ x.f0 = sDep ∨ x.f0 = sRec ∨ x.f0 = sCon ∨ x.f0 = sPro := by
 unfold coreH at h
 rw [List.mem_append,List.mem_filter] at h
 rcases h with h | ⟨h,_⟩
 ·simp only [List.mem_cons,List.not_mem_nil,or_false] at h
  rcases h with rfl | rfl
  ·exact .inl rfl
  ·exact .inr (.inl rfl)
 ·unfold fsE at h
  simp only [List.mem_cons,List.not_mem_nil,or_false] at h
  rcases h with rfl | rfl | rfl | rfl
  ·exact .inr (.inr (.inl rfl))
  ·exact .inr (.inr (.inr (.inl rfl)))
  ·exact .inr (.inr (.inr (.inr (.inl rfl))))
  ·exact .inr (.inr (.inr (.inr (.inr rfl))))
theorem core_no {e : E6} {n : ByteArray} (h1 : (sPkg.toList == n.toList) = false) (h2 : (sVer.toList == n.toList) = false) (h3 : (sDep.toList == n.toList) = false) (h4 : (sRec.toList == n.toList) = false) (h5 : (sCon.toList == n.toList) = false) (h6 : (sPro.toList == n.toList) = false) : ∀ x ∈ coreH e,isF n x = false := fun x hx => by
 unfold isF
 rcases core_names hx with h | h | h | h | h | h <;> rw [h]
 ·exact h1
 ·exact h2
 ·exact h3
 ·exact h4
 ·exact h5
 ·exact h6
theorem neq (a b : ByteArray) (h : (a.data.toList == b.data.toList) = false) : (a.toList == b.toList) = false := by rw [toList_data,toList_data];exact h
theorem auto_new (e : E6) : idxP (isF sAuto) (coreH e) 0 = -1 := idxP_none _ _ _ (core_no (neq _ _ (by decide)) (neq _ _ (by decide)) (neq _ _ (by decide)) (neq _ _ (by decide)) (neq _ _ (by decide)) (neq _ _ (by decide)))
theorem hold_new (e : E6) (b : Bool) : idxP (isF sHold) (autoH b (coreH e)) 0 = -1 := by
 refine idxP_none _ _ _ fun x hx => ?_
 have hc := core_no (e := e) (n := sHold) (neq _ _ (by decide)) (neq _ _ (by decide)) (neq _ _ (by decide)) (neq _ _ (by decide)) (neq _ _ (by decide)) (neq _ _ (by decide))
 unfold autoH at hx
 split at hx
 ·rcases List.mem_append.1 hx with hx | hx
  ·exact hc x hx
  ·obtain rfl := List.mem_singleton.1 hx
   unfold isF;exact neq _ _ (by decide)
 ·exact hc x hx
theorem core_len (e : E6) : (coreH e).length ≤ 6 := by
 unfold coreH
 have := List.length_filter_le hasF (fsE e)
 have h4 : (fsE e).length = 4 := rfl
 simp only [List.length_append,List.length_cons,List.length_nil];omega
theorem auto_len (e : E6) (b : Bool) : (autoH b (coreH e)).length ≤ 7 := by
 have := core_len e
 unfold autoH
 split
 ·rw [List.length_append,List.length_singleton];omega
 ·omega
theorem st_len (h : H8) : (stH h).length ≤ 8 := by
 have := auto_len h.f0 h.f1
 unfold stH holdH
 split
 ·rw [List.length_append,List.length_singleton];omega
 ·omega
theorem printL_len {l : List (List S46)} (h : SmL l) : (printL l).length ≤ 500000 := by
 unfold printL
 split
 case isTrue hr => exact textL_len l (rightL_len hr).1 (fun g hg => ((rightL_len hr).2 g hg).2.1) h.sm
 case isFalse => simp
theorem mk_size (s : List UInt8) : (mk s).size = s.length := by
 show (mk s).data.size = _
 rw [show (mk s).data = s.toArray from rfl,List.size_toArray]
theorem fs_sizes {e : E6} (s : SmE e) {x : SF} (h : x ∈ coreH e) : x.f0.size ≤ 20 ∧ x.f1.size ≤ 500000 := by
 unfold coreH at h
 rw [List.mem_append,List.mem_filter] at h
 rcases h with h | ⟨h,_⟩
 ·simp only [List.mem_cons,List.not_mem_nil,or_false] at h
  rcases h with rfl | rfl
  ·exact ⟨by show sPkg.size ≤ 20;decide,by have := s.s0;show e.f0.size ≤ _;omega⟩
  ·exact ⟨by show sVer.size ≤ 20;decide,by have := s.s1;show e.f1.size ≤ _;omega⟩
 ·unfold fsE at h
  simp only [List.mem_cons,List.not_mem_nil,or_false] at h
  rcases h with rfl | rfl | rfl | rfl
  ·exact ⟨by show sDep.size ≤ 20;decide,by show (mk (printL e.f2)).size ≤ _;rw [mk_size];exact printL_len s.s2⟩
  ·exact ⟨by show sRec.size ≤ 20;decide,by show (mk (printL e.f3)).size ≤ _;rw [mk_size];exact printL_len s.s3⟩
  ·exact ⟨by show sCon.size ≤ 20;decide,by show (mk (printL (ones e.f4))).size ≤ _;rw [mk_size];exact printL_len (ones_sm s.l4 s.s4)⟩
  ·exact ⟨by show sPro.size ≤ 20;decide,by show (mk (printL (ones e.f5))).size ≤ _;rw [mk_size];exact printL_len (ones_sm s.l5 s.s5)⟩
theorem st_sizes {h : H8} (s : SmE h.f0) {x : SF} (hx : x ∈ stH h) : x.f0.size ≤ 20 ∧ x.f1.size ≤ 500000 := by
 have ha : ∀ {x : SF},x ∈ autoH h.f1 (coreH h.f0) → x.f0.size ≤ 20 ∧ x.f1.size ≤ 500000 := fun {x} hx => by
  unfold autoH at hx
  split at hx
  ·rcases List.mem_append.1 hx with hx | hx
   ·exact fs_sizes s hx
   ·obtain rfl := List.mem_singleton.1 hx
    exact ⟨by decide,by decide⟩
  ·exact fs_sizes s hx
 unfold stH holdH at hx
 split at hx
 ·rcases List.mem_append.1 hx with hx | hx
  ·exact ha hx
  ·obtain rfl := List.mem_singleton.1 hx
   exact ⟨by decide,by decide⟩
 ·exact ha hx
theorem replaceK_len (old new : List UInt8) : ∀ (k : Nat) (s : List UInt8),(Lib.replaceK old new k s).length ≤ s.length + k * new.length
 | 0,s => by simp [Lib.replaceK]
 | k + 1,s => by
  rw [Lib.replaceK]
  split
  ·omega
  ·have ih := replaceK_len old new k (s.drop ((Lib.index s old).toNat + old.length))
   rw [List.length_append,List.length_append,List.length_take]
   rw [List.length_drop] at ih
   rw [Nat.succ_mul]
   have := Nat.min_le_left (Lib.index s old).toNat s.length
   have := Nat.min_le_right (Lib.index s old).toNat s.length
   omega
theorem replaceAll_len (s : ByteArray) : (Lib.replaceAll s.data.toList [10] [10,32]).length ≤ 3 * s.size := by
 have hk := replaceK_len [10] [10,32] (Lib.replaceNum s.data.toList [10] (-1)) s.data.toList
 have hc : Lib.replaceNum s.data.toList [10] (-1) ≤ s.size := by
  unfold Lib.replaceNum
  rw [if_pos (.inl (by decide))]
  exact Lib.countB_le (⟨#[10]⟩ : ByteArray) (by decide) s.size s (Nat.le_refl _)
 have hs : s.data.toList.length = s.size := rfl
 unfold Lib.replaceAll Lib.replace
 rw [if_neg (by decide)]
 simp only [List.length_cons,List.length_nil] at hk
 omega
theorem fieldT_len (f : SF) : (fieldT f).length ≤ f.f0.size + 3 + 3 * f.f1.size := by
 unfold fieldT
 have h1 : f.f0.data.toList.length = f.f0.size := rfl
 have h2 := replaceAll_len f.f1
 have h3 : (sepT f.f1).length ≤ 1 := by unfold sepT;split <;> simp
 simp only [List.length_append,List.length_cons,List.length_nil]
 omega
theorem stT_len (M : Nat) : ∀ (st : List SF),(∀ f ∈ st,(fieldT f).length ≤ M) → (stT st).length ≤ st.length * M
 | [],_ => by simp [stT]
 | f :: r,h => by
  have ih := stT_len M r fun x hx => h x (List.mem_cons_of_mem _ hx)
  have h1 := h f List.mem_cons_self
  unfold stT at ih ⊢
  rw [List.map_cons,List.flatten_cons,List.length_append,List.length_cons,Nat.succ_mul]
  omega
theorem textFrom_len (M : Nat) : ∀ (l : List (List SF)) (i : Nat),(∀ st ∈ l,(stT st).length ≤ M) → (textFrom i l).length ≤ l.length * (M + 1)
 | [],_,_ => by simp [textFrom]
 | s :: r,i,h => by
  have ih := textFrom_len M r (i + 1) fun x hx => h x (List.mem_cons_of_mem _ hx)
  have h1 := h s List.mem_cons_self
  have h2 : (gapT i).length ≤ 1 := by unfold gapT;split <;> simp
  rw [textFrom,List.length_append,List.length_append,List.length_cons,Nat.succ_mul]
  omega
theorem sm_map {l : List H8} (hl : l.length ≤ 64) (hs : ∀ h ∈ l,SmE h.f0) : SmS (l.map stH) := by
 refine ⟨by rw [List.length_map];omega,?_,fun st hst => ?_⟩
 ·have h1 : ∀ st ∈ l.map stH,(stT st).length ≤ 12000184 := fun st hst => by
   obtain ⟨h,hh,rfl⟩ := List.mem_map.1 hst
   have h2 := stT_len 1500023 (stH h) fun f hf => by
    have := fieldT_len f
    obtain ⟨h3,h4⟩ := st_sizes (hs h hh) hf
    omega
   have h3 := Nat.mul_le_mul_right 1500023 (st_len h)
   omega
  have h2 := textFrom_len 12000184 (l.map stH) 0 h1
  rw [List.length_map] at h2
  have h3 := Nat.mul_le_mul_right (12000184 + 1) hl
  unfold textT
  omega
 ·obtain ⟨h,hh,rfl⟩ := List.mem_map.1 hst
  refine ⟨by have := st_len h;omega,fun f hf => ?_⟩
  obtain ⟨h3,h4⟩ := st_sizes (hs h hh) hf
  exact ⟨by omega,by omega⟩
theorem right_len {l : List H8} (h : rightH l = true) : l.length ≤ 64 := by
 unfold rightH at h
 rw [Bool.and_eq_true] at h
 exact of_decide_eq_true h.2
theorem rises_each : ∀ {l : List H8} {p : Option H8},risesFrom p l = true → ∀ h ∈ l,rightE h.f0 = true
 | [],_,_,h,hh => (nomatch hh)
 | x :: r,p,hr,h,hh => by
  have h1 : rightE x.f0 = true ∧ risesFrom (some x) r = true := by
   cases p <;> simp only [risesFrom,Bool.and_eq_true] at hr
   ·exact hr
   ·exact ⟨hr.1.1,hr.2⟩
  rcases List.mem_cons.1 hh with rfl | hh
  ·exact h1.1
  ·exact rises_each h1.2 h hh
theorem right_each {l : List H8} (h : rightH l = true) : ∀ x ∈ l,rightE x.f0 = true := by
 unfold rightH at h
 rw [Bool.and_eq_true] at h
 exact rises_each h.1
end Go.Proofs.YtiidmjmkgjfaeaaGreatDoor.Ent

namespace Go.Proofs.YtiidmjmkgjfaeaaGreatDoor.Ent
open Go Go.RowKit Go.Shelf Go.Proofs.YtiidmjmkgjfaeaaGreatDoorW.PrintWords Go.Proofs.YtiidmjmkgjfaeaaGreatDoorW.PrintLast Go.Proofs.YtiidmjmkgjfaeaaGreatDoor.PA Go.Proofs.YtiidmjmkgjfaeaaGreatDoor.Pure
set_option linter.unusedVariables false
set_option linter.unusedSimpArgs false
theorem infoSt : (Tryz.prog.info? 80).map (fun i => (i.zero,i.size,i.bytes)) = some (some (.slice none 0 0),1,24) := by kernel_rfl
theorem qb_tprint {w : World} (hG : GL w) (A : Option Addr) (c : Nat) (l : List (List SF)) (hr : KS.C w A l.length l) (s : SmS l) : QB w 64 #[.slice A l.length c] (.string (printT l)) :=
 fun W hb => Print_calls (hG.below hb) A c l (Kd.C_below hr hb) s
set_option maxRecDepth 100000 in
set_option maxHeartbeats 8000000 in
theorem hprint_no {w : World} (hG : GL w) (A : Option Addr) (c : Nat) (l : List H8) (hr : KH.C w A l.length l) (hl : l.length ≤ 1000000) (hs : ∀ h ∈ l,SmE h.f0) (hf : rightH l = false) :
  Calls Tryz.prog 37 #[.slice A l.length c] w fun e w' => e = .returned (.string ⟨#[]⟩) ∧ Below w.heap.size w w' := by
 have hR := hright_calls hG A c l hr hl hs
 rw [hf] at hR
 have HR := Aside0.mk hR
 clear hr hl hs hf hR hG
 go_enter Tryz.func37,Tryz.ntmps37
 go_wp2_with (go_at_call 36;refine HR.out.mono ?_;rintro e w1 ⟨rfl,hb1⟩)
 go_ret
 exact ⟨rfl,hb1⟩
theorem write_core {w : World} (hG : GL w) {e : E6} {a : EA} (h : EC w e a) (s : SmE e) (hr : rightE e = true) :
  Calls Tryz.prog 62 #[.agg (ecs e a)] w fun en w' => ∃ v,en = .returned v ∧ KF.R 92 w' w.heap.size (fun _ => True) v (coreH e) ∧ Below w.heap.size w w' := write_yes hG h s hr
def PInv (w : World) (l : List H8) (i : Nat) (v : Value) (wr : World) : Prop := KS.R 80 wr w.heap.size (fun _ => True) v ((l.take i).map stH) ∧ Below w.heap.size w wr
theorem put_hyps {w wr w2 : World} {l : List H8} {i : Nat} {v3 v : Value} {st : List SF} (hI : PInv w l i v3 wr) (h2 : KF.R 92 w2 wr.heap.size (fun _ => True) v st) (hb : Below wr.heap.size wr w2) :
  KS.M w2 w.heap.size (fun k => wr.heap.size ≤ k) st [v] ∧ (∀ k,wr.heap.size ≤ k → True ∧ some k ≠ v3.ownBlock) ∧ KS.R 80 w2 w.heap.size (fun _ => True) v3 ((l.take i).map stH) ∧ Below w.heap.size w w2 ∧ w.heap.size ≤ w2.heap.size := by
 obtain ⟨h3,hB⟩ := hI
 have h3b := (Kd.R_bound h3).1
 refine ⟨⟨v,rfl,Kd.R_lower (Kd.R_mono (Kd.R_bound h2) (fun k hk => hk.2.1)) hB.size⟩,fun k hk => ⟨trivial,fun he => ?_⟩,Kd.R_below h3 hb,hB.trans (hb.mono hB.size),Nat.le_trans hB.size hb.size⟩
 have := (h3b k he.symm).2.2.1
 omega
set_option maxRecDepth 100000 in
set_option maxHeartbeats 16000000 in
theorem hprint_yes {w : World} (hG : GL w) (A : Option Addr) (c : Nat) (l : List H8) (hr : KH.C w A l.length l) (hs : ∀ h ∈ l,SmE h.f0) (hf : rightH l = true) :
  Calls Tryz.prog 37 #[.slice A l.length c] w fun e w' => e = .returned (.string (printT (l.map stH))) ∧ Below w.heap.size w w' := by
 have hl := right_len hf
 obtain ⟨m,hm⟩ : ∃ m,l.map stH = m := ⟨_,rfl⟩
 rw [hm]
 have HM := Aside0.mk hm
 have SM := Aside0.mk (hm ▸ sm_map hl hs : SmS m)
 clear hm
 have hR := hright_calls hG A c l hr (by omega) hs
 rw [hf] at hR
 have HR := Aside0.mk hR
 have HC := Aside0.mk hr
 have HL := Aside0.mk hl
 have HS := Aside0.mk hs
 have HE := Aside0.mk (right_each hf)
 have HG0 := Aside0.mk hG
 clear hr hl hs hf hR hG
 go_enter Tryz.func37,Tryz.ntmps37
 go_wp2_with (go_at_call 36;refine HR.out.mono ?_;rintro e w1 ⟨rfl,hb1⟩;have HB1 := Aside0.mk hb1;clear hb1)
 go_wp2
 go_loopg [3,12] l.length (fun gg v3 v12 wr => ∃ i : Nat,i ≤ l.length ∧ l.length - i ≤ gg ∧ v12 = .int .i64 (i : Int) ∧ Aside0 (PInv w l i v3 wr))
 case atStart => exact ⟨0,Nat.zero_le _,by omega,rfl,⟨Kd.R_nil _ _ _ _ _,HB1.out⟩⟩
 case round =>
  obtain ⟨i,hi,hg,rfl,HI⟩ := hrel
  have bw : wrap64 ((i : Int) + 1) = ((i + 1 : Nat) : Int) := by have := HL.out;unfold wrap64;omega
  by_cases hlt : i < l.length
  ·have b2 : decide ((i : Int) < (l.length : Int)) = true := decide_eq_true (by omega)
   have p0 : (0 : Int) ≤ (i : Int) := by omega
   have p1 : (i : Int) < (l.length : Int) := by omega
   obtain ⟨ad,cs,rfl,hcl,hK,hcc⟩ := Kd.C_get HC.out zH (i : Int) p0 p1
   obtain ⟨h,hf,hm⟩ : ∃ h,l.getD (i : Int).toNat zH = h ∧ l[i] = h := ⟨_,rfl,by rw [Int.toNat_natCast,List.getD_eq_getElem?_getD,List.getElem?_eq_getElem hlt];rfl⟩
   rw [hf] at hK
   obtain ⟨a,rfl,ha⟩ := here_open hK
   rw [Int.toNat_natCast] at hcc
   obtain ⟨y0,y1,y2,y3,y4,y5,y6,y7⟩ := here_at hcc HI.out.2
   have hmem : h ∈ l := hm ▸ List.getElem_mem hlt
   have hsm := HS.out h hmem
   have hre := HE.out h hmem
   obtain ⟨W1,hW1⟩ : ∃ W1,wr.alloc (.cells (hcs h a) 39) = W1 := ⟨_,rfl⟩
   obtain ⟨g,hgd⟩ : ∃ g,wr.heap.size = g := ⟨_,rfl⟩
   have hb1 : Below wr.heap.size wr W1 := by rw [← hW1];exact qab (Below.refl _ _) _
   have HB2 := Aside0.mk hb1
   have HBW := Aside0.mk (HI.out.2.trans (hb1.mono HI.out.2.size))
   have XB := Aside0.mk (show W1.heap[g]? = some (.cells (hcs h a) 39 (0,0)) by rw [← hW1,← hgd];exact World.alloc_heap_new _ _)
   have HWR := Aside0.mk (write_core (HG0.out.below HBW.out) (ha.below HBW.out) hsm hre)
   have HT := Aside0.mk (show (l.take (i + 1)).map stH = (l.take i).map stH ++ [stH h] by rw [List.take_succ_eq_append_getElem hlt,List.map_append,hm];rfl)
   have HW1 := Aside0.mk hW1
   have HLT := Aside0.mk hlt
   have HGG := Aside0.mk hg
   have HII := Aside0.mk (show ((l.take i).map stH).length ≤ 64 by rw [List.length_map,List.length_take];have := HL.out;omega)
   clear hW1 hcl hK hf hm ha hsm hre hb1 hlt hg hi hmem hcc
   obtain ⟨e,b,b'⟩ := h
   obtain ⟨l2,h2⟩ : ∃ q,coreH e = q := ⟨_,rfl⟩
   have k2 : l2.length ≤ 6 := h2 ▸ core_len e
   have H2 := Aside0.mk h2
   have K2 := Aside0.mk k2
   clear h2 k2
   cases b <;> cases b'
   ·go_wp2_with (first
     | (at_builtin;obtain ⟨hm1,hm2,hm3,hm4,hm5⟩ := put_hyps HI.out (Kd.R_lower HR2.out HB2.out.size) (HB2.out.trans (HQ2.out.mono HB2.out.size));go_loud (refine Kd.R_append KS (w0 := w) w.heap.size rfl _ _ 78 80 _ 24 rfl Tryz.underlying78 infoSt rfl (by decide) (by omega) _ _ l2 [.slice A2 l2.length c2] (fun _ => True) (fun k => wr.heap.size ≤ k) rfl (by first | rfl | (simp;done) | (go_simp;done) | (simp [Act.eval];done)) hm1 (by exact hm2) (fun _ _ => trivial) (by exact hm3) hm4 hm5 (by have := HII.out;omega) ?_;intro v1 w5 hR hB _ _;have HR5 := Aside0.mk hR;have HB5 := Aside0.mk hB;clear hR hB hm1 hm2 hm3 hm4 hm5))
     | (go_at_call 62;rw [HW1.out];refine HWR.out.mono ?_;rintro en w2 ⟨v,rfl,hR,hb⟩;rw [H2.out] at hR;obtain ⟨A2,c2,rfl,hc,hC⟩ := Kd.R_reads hR;have HR2 := Aside0.mk (Kd.R_lower hR (Nat.le_refl _));have HC2 := Aside0.mk hC;have HQ2 := Aside0.mk hb;obtain ⟨x0,x1,x2,x3,x4,x5,x6,x7⟩ := hcs_cells ((HQ2.out.block _ (Array.getElem?_eq_some_iff.1 XB.out).1).trans XB.out);clear hR hb hc hC))
    go_roundg (l.length - (i + 1))
    case measure => have := HGG.out;have := HLT.out;omega
    case rel => exact ⟨i + 1,HLT.out,Nat.le_refl _,by first | rw [bw] | go_num,⟨by rw [HT.out,show stH ⟨e,false,false⟩ = l2 from H2.out];exact HR5.out,HB5.out⟩⟩
   ·obtain ⟨l3,h3⟩ : ∃ q,l2 ++ [(⟨sHold,sYes⟩ : SF)] = q := ⟨_,rfl⟩
    have H3 := Aside0.mk h3
    clear h3
    go_wp2_with (first
     | (at_builtin;obtain ⟨hm1,hm2,hm3,hm4,hm5⟩ := put_hyps HI.out (Kd.R_lower HR3.out HB2.out.size) (HB2.out.trans (HQ3.out.mono HB2.out.size));go_loud (refine Kd.R_append KS (w0 := w) w.heap.size rfl _ _ 78 80 _ 24 rfl Tryz.underlying78 infoSt rfl (by decide) (by omega) _ _ l3 [.slice A3 l3.length c3] (fun _ => True) (fun k => wr.heap.size ≤ k) rfl (by first | rfl | (simp;done) | (go_simp;done) | (simp [Act.eval];done)) hm1 (by exact hm2) (fun _ _ => trivial) (by exact hm3) hm4 hm5 (by have := HII.out;omega) ?_;intro v1 w5 hR hB _ _;have HR5 := Aside0.mk hR;have HB5 := Aside0.mk hB;clear hR hB hm1 hm2 hm3 hm4 hm5))
     | (go_at_call 63;refine (put_new A2 c2 l2 sHold sYes HC2.out (by have := K2.out;omega) (by rw [← H2.out];exact hold_new e false)).mono ?_;rintro en w3 ⟨v,rfl,hR,hb⟩;rw [H3.out] at hR;obtain ⟨A3,c3,rfl,hc,hC⟩ := Kd.R_reads hR;have HR3 := Aside0.mk (Kd.R_lower hR HQ2.out.size);have HC3 := Aside0.mk hC;have HQ3 := Aside0.mk (HQ2.out.trans (hb.mono HQ2.out.size));clear x0 x1 x2 x3 x4 x5 x6 x7;obtain ⟨x0,x1,x2,x3,x4,x5,x6,x7⟩ := hcs_cells ((HQ3.out.block _ (Array.getElem?_eq_some_iff.1 XB.out).1).trans XB.out);clear hR hb hc hC)
     | (go_at_call 62;rw [HW1.out];refine HWR.out.mono ?_;rintro en w2 ⟨v,rfl,hR,hb⟩;rw [H2.out] at hR;obtain ⟨A2,c2,rfl,hc,hC⟩ := Kd.R_reads hR;have HR2 := Aside0.mk (Kd.R_lower hR (Nat.le_refl _));have HC2 := Aside0.mk hC;have HQ2 := Aside0.mk hb;obtain ⟨x0,x1,x2,x3,x4,x5,x6,x7⟩ := hcs_cells ((HQ2.out.block _ (Array.getElem?_eq_some_iff.1 XB.out).1).trans XB.out);clear hR hb hc hC))
    go_roundg (l.length - (i + 1))
    case measure => have := HGG.out;have := HLT.out;omega
    case rel => exact ⟨i + 1,HLT.out,Nat.le_refl _,by first | rw [bw] | go_num,⟨by rw [HT.out,show stH ⟨e,false,true⟩ = l3 from by rw [← H3.out,← H2.out];rfl];exact HR5.out,HB5.out⟩⟩
   ·obtain ⟨l3,h3⟩ : ∃ q,l2 ++ [(⟨sAuto,sYes⟩ : SF)] = q := ⟨_,rfl⟩
    have H3 := Aside0.mk h3
    clear h3
    go_wp2_with (first
     | (at_builtin;obtain ⟨hm1,hm2,hm3,hm4,hm5⟩ := put_hyps HI.out (Kd.R_lower HR3.out HB2.out.size) (HB2.out.trans (HQ3.out.mono HB2.out.size));go_loud (refine Kd.R_append KS (w0 := w) w.heap.size rfl _ _ 78 80 _ 24 rfl Tryz.underlying78 infoSt rfl (by decide) (by omega) _ _ l3 [.slice A3 l3.length c3] (fun _ => True) (fun k => wr.heap.size ≤ k) rfl (by first | rfl | (simp;done) | (go_simp;done) | (simp [Act.eval];done)) hm1 (by exact hm2) (fun _ _ => trivial) (by exact hm3) hm4 hm5 (by have := HII.out;omega) ?_;intro v1 w5 hR hB _ _;have HR5 := Aside0.mk hR;have HB5 := Aside0.mk hB;clear hR hB hm1 hm2 hm3 hm4 hm5))
     | (go_at_call 63;refine (put_new A2 c2 l2 sAuto sYes HC2.out (by have := K2.out;omega) (by rw [← H2.out];exact auto_new e)).mono ?_;rintro en w3 ⟨v,rfl,hR,hb⟩;rw [H3.out] at hR;obtain ⟨A3,c3,rfl,hc,hC⟩ := Kd.R_reads hR;have HR3 := Aside0.mk (Kd.R_lower hR HQ2.out.size);have HC3 := Aside0.mk hC;have HQ3 := Aside0.mk (HQ2.out.trans (hb.mono HQ2.out.size));clear x0 x1 x2 x3 x4 x5 x6 x7;obtain ⟨x0,x1,x2,x3,x4,x5,x6,x7⟩ := hcs_cells ((HQ3.out.block _ (Array.getElem?_eq_some_iff.1 XB.out).1).trans XB.out);clear hR hb hc hC)
     | (go_at_call 62;rw [HW1.out];refine HWR.out.mono ?_;rintro en w2 ⟨v,rfl,hR,hb⟩;rw [H2.out] at hR;obtain ⟨A2,c2,rfl,hc,hC⟩ := Kd.R_reads hR;have HR2 := Aside0.mk (Kd.R_lower hR (Nat.le_refl _));have HC2 := Aside0.mk hC;have HQ2 := Aside0.mk hb;obtain ⟨x0,x1,x2,x3,x4,x5,x6,x7⟩ := hcs_cells ((HQ2.out.block _ (Array.getElem?_eq_some_iff.1 XB.out).1).trans XB.out);clear hR hb hc hC))
    go_roundg (l.length - (i + 1))
    case measure => have := HGG.out;have := HLT.out;omega
    case rel => exact ⟨i + 1,HLT.out,Nat.le_refl _,by first | rw [bw] | go_num,⟨by rw [HT.out,show stH ⟨e,true,false⟩ = l3 from by rw [← H3.out,← H2.out];rfl];exact HR5.out,HB5.out⟩⟩
   ·obtain ⟨l3,h3⟩ : ∃ q,l2 ++ [(⟨sAuto,sYes⟩ : SF)] = q := ⟨_,rfl⟩
    have H3 := Aside0.mk h3
    clear h3
    obtain ⟨l4,h4⟩ : ∃ q,l3 ++ [(⟨sHold,sYes⟩ : SF)] = q := ⟨_,rfl⟩
    have H4 := Aside0.mk h4
    clear h4
    go_wp2_with (first
     | (at_builtin;obtain ⟨hm1,hm2,hm3,hm4,hm5⟩ := put_hyps HI.out (Kd.R_lower HR4.out HB2.out.size) (HB2.out.trans (HQ4.out.mono HB2.out.size));go_loud (refine Kd.R_append KS (w0 := w) w.heap.size rfl _ _ 78 80 _ 24 rfl Tryz.underlying78 infoSt rfl (by decide) (by omega) _ _ l4 [.slice A4 l4.length c4] (fun _ => True) (fun k => wr.heap.size ≤ k) rfl (by first | rfl | (simp;done) | (go_simp;done) | (simp [Act.eval];done)) hm1 (by exact hm2) (fun _ _ => trivial) (by exact hm3) hm4 hm5 (by have := HII.out;omega) ?_;intro v1 w5 hR hB _ _;have HR5 := Aside0.mk hR;have HB5 := Aside0.mk hB;clear hR hB hm1 hm2 hm3 hm4 hm5))
     | (go_at_call 63;refine (put_new A3 c3 l3 sHold sYes HC3.out (by rw [← H3.out,List.length_append,List.length_singleton];have := K2.out;omega) (by rw [← H3.out,← H2.out];exact hold_new e true)).mono ?_;rintro en w4 ⟨v,rfl,hR,hb⟩;rw [H4.out] at hR;obtain ⟨A4,c4,rfl,hc,hC⟩ := Kd.R_reads hR;have HR4 := Aside0.mk (Kd.R_lower hR HQ3.out.size);have HC4 := Aside0.mk hC;have HQ4 := Aside0.mk (HQ3.out.trans (hb.mono HQ3.out.size));clear x0 x1 x2 x3 x4 x5 x6 x7;obtain ⟨x0,x1,x2,x3,x4,x5,x6,x7⟩ := hcs_cells ((HQ4.out.block _ (Array.getElem?_eq_some_iff.1 XB.out).1).trans XB.out);clear hR hb hc hC)
     | (go_at_call 63;refine (put_new A2 c2 l2 sAuto sYes HC2.out (by have := K2.out;omega) (by rw [← H2.out];exact auto_new e)).mono ?_;rintro en w3 ⟨v,rfl,hR,hb⟩;rw [H3.out] at hR;obtain ⟨A3,c3,rfl,hc,hC⟩ := Kd.R_reads hR;have HR3 := Aside0.mk (Kd.R_lower hR HQ2.out.size);have HC3 := Aside0.mk hC;have HQ3 := Aside0.mk (HQ2.out.trans (hb.mono HQ2.out.size));clear x0 x1 x2 x3 x4 x5 x6 x7;obtain ⟨x0,x1,x2,x3,x4,x5,x6,x7⟩ := hcs_cells ((HQ3.out.block _ (Array.getElem?_eq_some_iff.1 XB.out).1).trans XB.out);clear hR hb hc hC)
     | (go_at_call 62;rw [HW1.out];refine HWR.out.mono ?_;rintro en w2 ⟨v,rfl,hR,hb⟩;rw [H2.out] at hR;obtain ⟨A2,c2,rfl,hc,hC⟩ := Kd.R_reads hR;have HR2 := Aside0.mk (Kd.R_lower hR (Nat.le_refl _));have HC2 := Aside0.mk hC;have HQ2 := Aside0.mk hb;obtain ⟨x0,x1,x2,x3,x4,x5,x6,x7⟩ := hcs_cells ((HQ2.out.block _ (Array.getElem?_eq_some_iff.1 XB.out).1).trans XB.out);clear hR hb hc hC))
    go_roundg (l.length - (i + 1))
    case measure => have := HGG.out;have := HLT.out;omega
    case rel => exact ⟨i + 1,HLT.out,Nat.le_refl _,by first | rw [bw] | go_num,⟨by rw [HT.out,show stH ⟨e,true,true⟩ = l4 from by rw [← H4.out,← H3.out,← H2.out];rfl];exact HR5.out,HB5.out⟩⟩
  ·have b2 : decide ((i : Int) < (l.length : Int)) = false := decide_eq_false (by omega)
   obtain ⟨h3,hB⟩ := HI.out
   rw [List.take_of_length_le (by omega),HM.out] at h3
   obtain ⟨A3,c3,rfl,hc3,hC3⟩ := Kd.R_reads h3
   have HP := Aside0.mk (qb_tprint (HG0.out.below hB) A3 c3 m hC3 SM.out)
   have HB := Aside0.mk hB
   clear h3 hB hc3 hC3 hi hg
   go_wp2_with (go_at_call 64;go_loud (refine (HP.out.at_ (Below.refl _ _)).mono ?_);rintro e w2 ⟨rfl,hb2⟩)
   go_ret
   exact ⟨rfl,HB.out.trans (hb2.mono HB.out.size)⟩
end Go.Proofs.YtiidmjmkgjfaeaaGreatDoor.Ent

