import Derived.Test.YtiidmjmkgjfaeaaGreatDoorHePrint
import Derived.Test.YtiidmjmkgjfaeaaGreatDoorHeRight
import Derived.Test.YtiidmjmkgjfaeaaGreatDoorWLast
import Derived.Test.YtiidmjmkgjfaeaaGreatDoorHeIdx
import Derived.RangeFuncRecord
namespace Go.Proofs.YtiidmjmkgjfaeaaGreatDoor.Ent
open Go Go.RowKit Go.Shelf Go.Proofs.YtiidmjmkgjfaeaaGreatDoorW.PrintWords Go.Proofs.YtiidmjmkgjfaeaaGreatDoor.PA Go.Proofs.YtiidmjmkgjfaeaaGreatDoor.Pure
set_option linter.unusedVariables false
set_option linter.unusedSimpArgs false
abbrev KE : Kd E6 := k37
theorem infoE : (Tryz.prog.info? 37).map (fun i => (i.zero,i.size,i.bytes)) = some (some (.agg #[.string ⟨#[]⟩,.string ⟨#[]⟩,.slice none 0 0,.slice none 0 0,.slice none 0 0,.slice none 0 0]),6,128) := by kernel_rfl
set_option maxHeartbeats 2000000 in
set_option maxRecDepth 100000 in
theorem cloneE {w w0 : World} (A : Option Addr) (c : Nat) (l : List E6) (hr : (ice KE w0).C w A l.length l) (hl : l.length ≤ 1000000) :
  Calls Tryz.prog 38 #[.slice A l.length c] w fun e w' => ∃ v,e = .returned v ∧ (ice KE w0).R 37 w' w.heap.size (fun _ => True) v l ∧ Below w.heap.size w w' := by
 have HR := Aside0.mk hr
 have HL := Aside0.mk hl
 have q22 : ∀ (w : World) (a : Option Addr) (n c n' c' : Nat),(binOp .eql 51 (.slice a n c) (.slice none n' c')).run Tryz.prog w = .ok (.bool a.isNone) w := fun w a n c n' c' => Lib.run_eql_slice_nil w _ _ a n c n' c' Tryz.underlying51
 cases A with
 | none =>
  obtain rfl : l = [] := by
   cases l with
   | nil => rfl
   | cons x r => obtain ⟨_,_,h⟩ := hr;obtain ⟨a,h,_⟩ := h (by simp);cases h
  clear hr hl
  go_enter Tryz.func38,Tryz.ntmps38
  go_wp2
  go_ret
  exact ⟨_,rfl,Kd.R_nil _ _ _ _ _,Below.refl _ _⟩
 | some a =>
  clear hr hl
  go_enter Tryz.func38,Tryz.ntmps38
  go_wp2_with (at_builtin;refine Kd.R_append_rows (ice KE w0) (w0 := w) w.heap.size rfl _ _ 51 37 _ 128 rfl Tryz.underlying51 infoE rfl (Nat.zero_lt_succ 5) (by omega) (.slice (some ⟨w.heap.size,0,none⟩) 0 0) [] l (some a) l.length c (fun _ => True) (fun _ => False) rfl rfl (lit0 (ice KE w0) 37 w (fun _ => True) trivial) (Kd.C_alloc HR.out _) (fun x cs h => h) (fun _ h => h.elim) (fun _ _ => trivial) (qab (Below.refl _ _) _) (by simp) (by have := HL.out;simp;omega) ?_;intro v1 w1 hR hB _ _;rw [List.nil_append] at hR;have HR1 := Aside0.mk hR;have HB1 := Aside0.mk hB;clear hR hB)
  go_ret
  exact ⟨_,rfl,HR1.out,HB1.out⟩
end Go.Proofs.YtiidmjmkgjfaeaaGreatDoor.Ent

namespace Go.Proofs.YtiidmjmkgjfaeaaGreatDoor.Ent
open Go Go.RowKit Go.Shelf Go.Proofs.YtiidmjmkgjfaeaaGreatDoorW.PrintWords Go.Proofs.YtiidmjmkgjfaeaaGreatDoorW.PrintLast Go.Proofs.YtiidmjmkgjfaeaaGreatDoor.PA Go.Proofs.YtiidmjmkgjfaeaaGreatDoor.Pure
set_option linter.unusedVariables false
set_option linter.unusedSimpArgs false
section
variable {P : Program} {α : Type}
theorem run_clear_cells (w : World) (t e ty : TypeId) (z : Value) (ht : P.underlying t = some (.slice e)) (hv : ∀ w,(zeroValue e).run P w = .ok z w) (hs : 0 < z.cells.size) (h1 : ∀ u ∈ z.cells.toList,u.oneCell' = true) (b o n c : Nat) (hn : 0 < n)
  (hc : ∀ j,j < n * z.cells.size → (w.cell? ⟨b,o + j,none⟩).isSome = true) (hf : ∀ j,j < n * z.cells.size → w.frozen? ⟨b,o + j,none⟩ = false) :
  ∃ news : List Value,news.length = n * z.cells.size ∧ (Builtin.clear_ #[t] ty #[.slice (some ⟨b,o,none⟩) n c]).run P w = .ok (.tuple #[]) (w.setCells b o news) := by
 have hl : (Builtin.zeroCells z.cells n).toList.length = n * z.cells.size := by simp [Builtin.zeroCells]
 have hone : ∀ v ∈ (Builtin.zeroCells z.cells n).toList,v.oneCell' = true := by
  intro v hv'
  simp only [Builtin.zeroCells,Array.toList_map,List.mem_map] at hv'
  obtain ⟨i,_,rfl⟩ := hv'
  have hlt : i % z.cells.size < z.cells.size := Nat.mod_lt _ hs
  rw [getElem!_pos z.cells _ hlt]
  exact h1 _ (by simp)
 have hst := run_storeCells_cells (P := P) b o (Builtin.zeroCells z.cells n).toList 0 w (by rw [hl];simpa using hc) (by rw [hl];simpa using hf) hone
 rw [Nat.add_zero] at hst
 obtain ⟨m,rfl⟩ : ∃ m,n = m + 1 := ⟨n - 1,by omega⟩
 exact ⟨_,hl,by simp [Builtin.clear_,run_underlying ht,hv,hst]⟩
theorem R_clear_run (d : Kd α) {W : World} (base : Nat) (t ty e : TypeId) (z : Value) (ht : P.underlying t = some (.slice e)) (hv : ∀ w,(zeroValue e).run P w = .ok z w) (hz : z.cells.size = d.sz) (hs : 0 < d.sz) (h1 : ∀ u ∈ z.cells.toList,u.oneCell' = true)
  {g m c : Nat} {xs : List α} {ok : Nat → Prop} (HO : d.R e W base ok (.slice (some ⟨g,0,none⟩) m c) xs) (k : Nat) (hk : 0 < k) (hmk : m + k ≤ c) (c2 : Nat) :
  ∃ w1,(Builtin.clear_ #[t] ty #[.slice (some ⟨g,0 + m * d.sz,none⟩) k c2]).run P W = .ok (.tuple #[]) w1 ∧ d.R e w1 base ok (.slice (some ⟨g,0,none⟩) m c) xs ∧ W.grownBy w1 (some g) := by
 obtain ⟨hok,inner,hown,hr⟩ := HO
 have hin : inner.length = xs.length * d.sz := hr.1
 rcases hown.2 with ⟨hv,_⟩ | ⟨g',cap',cur,hvv,hb,hh,hxc,hcm,hcs,htake⟩
 ·cases hv
 injection hvv with ha hn hc
 injection ha with ha
 injection ha with hg
 subst hg;subst hc;subst hn
 have hle : (xs.length + k) * d.sz ≤ c * d.sz := Nat.mul_le_mul_right _ hmk
 rw [Nat.add_mul] at hle
 obtain ⟨news,hnl,hrun⟩ := run_clear_cells (P := P) W t e ty z ht hv (hz ▸ hs) h1 g (0 + xs.length * d.sz) k c2 hk
  (fun j hj => by rw [hz] at hj;rw [cell_of_row W g _ cur e (0,0) hh];simp;omega) (fun j _ => qad hh _)
 rw [hz] at hnl
 have hle2 : 0 + xs.length * d.sz + news.length ≤ cur.size := by rw [hnl,hcs,Nat.zero_add];exact hle
 have hle3 : xs.length * d.sz ≤ cur.size := by omega
 obtain ⟨cur',h3,h4,h5⟩ := setCells_row news (0 + xs.length * d.sz) W cur hh hle2
 obtain ⟨s1,s2,s3,s4⟩ := setCells_same g news (0 + xs.length * d.sz) W
 have hfar : ∀ k',k' ≠ g → (W.setCells g (0 + xs.length * d.sz) news).heap[k']? = W.heap[k']? := fun k' hk' => setCells_far news _ k' hk'
 refine ⟨_,hrun,⟨hok,inner,⟨hin,.inr ⟨g,c,cur',rfl,hb,h3,hxc,hcm,by rw [h4,hcs],?_⟩⟩,hr.imp_ (fun p q hp => d.M_move (fun k' hk' => hfar k' (fun he => hk'.2 (by rw [he];rfl))) hp)⟩,⟨s1,s2,s3,by rw [s4];exact Nat.le_refl _,fun k' _ hk' => hfar k' (fun he => hk' (by rw [he]))⟩⟩
 rw [h5,Nat.zero_add,← htake]
 show (List.take (xs.length * d.sz) cur.toList ++ news ++ _).take (xs.length * d.sz) = _
 rw [List.append_assoc,List.take_append_of_le_length (by have h9 : cur.toList.length = cur.size := Array.length_toList;rw [List.length_take,h9];omega),List.take_take,Nat.min_self]
variable {ops : Array Oper} {rest : List Oper} {o : Oper} {a : Act} {Q : Exit → Act → World → Prop}
end
theorem infoEz : (Tryz.prog.info? 37).map (·.size) = some 6 := by kernel_rfl
def zeE : Value := .agg #[.string ⟨#[]⟩,.string ⟨#[]⟩,.slice none 0 0,.slice none 0 0,.slice none 0 0,.slice none 0 0]
def del5.T : Bool × List (List Nat × List Nat) := (true,[([],[]),([],[]),([0,1],[0,1]),([],[]),([],[]),([3,4],[3,4]),([2,5],[2,5]),([6,6,0,1,2,3,4,5,6],[0,3,6])])
def del5.B : List Nat := [0,0,3,0,0,24,63,127]
theorem del5.tab : rtab .any (opsOf Tryz.f43 5) = del5.T := by kernel_rfl
theorem del5.bits : waitsOk del5.T.2 del5.B = true := by kernel_rfl
set_option maxHeartbeats 4000000 in
set_option maxRecDepth 100000 in
theorem delete_calls {w0 w W : World} (base : Nat) (ok : Nat → Prop) (g n c k : Nat) (xs : List E6) (HO0 : (ice KE w0).R 37 W base ok (.slice (some ⟨g,0,none⟩) (n + 1) c) xs) (hk : k < n + 1) (hn : n ≤ 1000000) (hc : n + 1 ≤ c) (HB0 : Below base w W) (hbase0 : base ≤ W.heap.size) :
  Calls Tryz.prog 43 #[.slice (some ⟨g,0,none⟩) (n + 1) c,.int .i64 (k : Int),.int .i64 ((k : Int) + 1)] W fun e w' => e = .returned (.slice (some ⟨g,0,none⟩) n c) ∧ (ice KE w0).R 37 w' base ok (.slice (some ⟨g,0,none⟩) n c) (xs.eraseIdx k) ∧ Below base w w' ∧ W.heap.size ≤ w'.heap.size ∧ ∀ k',k' < W.heap.size → k' ≠ g → w'.heap[k']? = W.heap[k']? := by
 have HO := Aside0.mk (show (ice KE w0).R 37 W.drew base ok (.slice (some ⟨g,0,none⟩) (n + 1) c) xs from Kd.R_below HO0 (below_drew (Below.refl _ _)))
 have HB := Aside0.mk (show Below base w W.drew from below_drew HB0)
 have hbase : base ≤ W.drew.heap.size := hbase0
 have d0 : decide ((k : Int) = (k : Int) + 1) = false := decide_eq_false (by omega)
 have p0 : (0 : Int) ≤ (k : Int) := by omega
 have p1 : (k : Int) ≤ (k : Int) + 1 := by omega
 have p2 : (k : Int) + 1 ≤ (n : Int) + 1 := by omega
 have p3 : (n : Int) + 1 ≤ (c : Int) := by omega
 have p4 : (k : Int) + 1 ≤ (c : Int) := by omega
 have p5 : (k : Int) ≤ (c : Int) := by omega
 have p6 : (0 : Int) ≤ (k : Int) + 1 := by omega
 have p7 : (0 : Int) ≤ (n : Int) + 1 := by omega
 have p8 : (n : Int) ≤ (n : Int) + 1 := by omega
 have p9 : (0 : Int) ≤ (n : Int) := by omega
 have hA0 : (if c = k + 1 then some ⟨g,0,none⟩ else some ⟨g,(k + 1) * 6,none⟩ : Option Addr) = if c = k + 1 then some ⟨g,0,none⟩ else (some (⟨g,0,none⟩ : Addr)).map (·.add ((k + 1) * (ice KE w0).sz)) := by
  have e : (⟨g,0,none⟩ : Addr).add ((k + 1) * (ice KE w0).sz) = ⟨g,(k + 1) * 6,none⟩ := by rw [Addr.add_lit,Nat.zero_add];rfl
  rw [Option.map_some,e]
 have hne : ¬ c = n := by omega
 have HC := Aside0.mk hc
 have HN := Aside0.mk hn
 clear HO0 HB0
 go_enter Tryz.func43,Tryz.ntmps43
 go_wp2
 refine start_ (n := 8) (S := fun _ => True) (ds := []) (mb 8 0) (by kernel_rfl) rfl rfl trivial (fun hHeld => ?_);refine with_tabW del5.tab del5.bits (fun HT_ HW_ => ?_)
 refine pure_ (i := 0) (N := some 20) (v := ?_) (a' := ?_) (mb 8 1) rfl rfl (any_of HT_.out (by kernel_rfl)) (fun _ _ _ h => h) (Or.inl ⟨by rfl,?_⟩) ?_ ?_
 rotate_left
 ·intro w'
  go_simp
  (try with_reducible rfl)
 rotate_left
 ·simp only [Act.put,List.setIfInBounds_toArray,List.set_cons_zero,List.set_cons_succ,i64_w,i32_w]
  rfl
 refine pure_ (i := 1) (N := some 21) (v := ?_) (a' := ?_) (mb 8 3) rfl rfl (any_of HT_.out (by kernel_rfl)) (fun _ _ _ h => h) (Or.inl ⟨by rfl,?_⟩) ?_ ?_
 rotate_left
 ·intro w'
  go_simp
  (try with_reducible rfl)
 rotate_left
 ·simp only [Act.put,List.setIfInBounds_toArray,List.set_cons_zero,List.set_cons_succ,i64_w,i32_w]
  rfl
 refine pure_ (i := 2) (N := some 22) (v := ?_) (a' := ?_) (mb 8 7) rfl rfl (any_of HT_.out (by kernel_rfl)) (fun _ _ _ h => h) (Or.inl ⟨by rfl,?_⟩) ?_ ?_
 rotate_left
 ·intro w'
  go_simp
  (try with_reducible rfl)
 rotate_left
 ·simp only [Act.put,List.setIfInBounds_toArray,List.set_cons_zero,List.set_cons_succ,i64_w,i32_w]
  rfl
 refine pure_ (i := 3) (N := some 23) (v := ?_) (a' := ?_) (mb 8 15) rfl rfl (any_of HT_.out (by kernel_rfl)) (fun _ _ _ h => h) (Or.inl ⟨by rfl,?_⟩) ?_ ?_
 rotate_left
 ·intro w'
  go_simp
  (try with_reducible rfl)
 rotate_left
 ·simp only [Act.put,List.setIfInBounds_toArray,List.set_cons_zero,List.set_cons_succ,i64_w,i32_w]
  rfl
 refine pure_ (i := 4) (N := some 24) (v := ?_) (a' := ?_) (mb 8 31) rfl rfl (any_of HT_.out (by kernel_rfl)) (fun _ _ _ h => h) (Or.inl ⟨by rfl,?_⟩) ?_ ?_
 rotate_left
 ·intro w'
  go_simp
  (try with_reducible rfl)
 rotate_left
 ·simp only [Act.put,List.setIfInBounds_toArray,List.set_cons_zero,List.set_cons_succ,i64_w,i32_w]
  rfl
 refine pure_ (i := 5) (N := some 25) (v := ?_) (a' := ?_) (mb 8 63) rfl rfl (any_of HT_.out (by kernel_rfl)) (fun _ _ _ h => h) (Or.inl ⟨by rfl,?_⟩) ?_ ?_
 rotate_left
 ·intro w'
  go_simp
  (try with_reducible rfl)
 rotate_left
 ·simp only [Act.put,List.setIfInBounds_toArray,List.set_cons_zero,List.set_cons_succ,i64_w,i32_w]
  rfl
 refine one_ (i := 6) (N := some 26) (mb 8 127) rfl rfl (one_of HT_.out (by kernel_rfl)) (by decide) (fun K hK => ?_)
 refine Kd.R_delete_step (ice KE w0) (w0 := w) base (by rfl) (.tmp 22) (.tmp 25) 51 37 rfl Tryz.underlying51 infoEz (g := g) (n := n + 1) (c := c) (k := k) (m := n - k) (c2 := c - (k + 1)) (by rfl) (by rfl) hA0 (by omega) HO.out hk HB.out hbase ?_
 intro w1 hR hB1 hg1
 have HR1 := Aside0.mk hR
 have HB1 := Aside0.mk hB1
 have HG1 := Aside0.mk hg1
 clear hR hB1 hg1
 refine hK.out _ _ trivial (fun hHeld => ?_)
 clear hK K
 refine norm_ (a' := ?_) ?_ ?_
 rotate_left
 ·first | (show Act.put _ (some 26) _ = _;simp only [Act.put,List.setIfInBounds_toArray,List.set_cons_zero,List.set_cons_succ,i64_w,i32_w];rfl) | rfl
 refine pure_ (i := 7) (N := some 0) (v := ?_) (a' := ?_) (mb 8 255) rfl rfl (any_of HT_.out (by kernel_rfl)) (fun _ _ _ h => h) (Or.inl ⟨by rfl,?_⟩) ?_ ?_
 rotate_left
 ·intro w'
  go_simp
  (try with_reducible rfl)
 rotate_left
 ·simp only [Act.put,List.setIfInBounds_toArray,List.set_cons_zero,List.set_cons_succ,i64_w,i32_w]
  rfl
 refine done_ (done_of HT_.out (by kernel_rfl)) ?_
 obtain ⟨w2,hrun,hR2,hg2⟩ := R_clear_run (P := Tryz.prog) (ice KE w0) base 51 0 37 zeE Tryz.underlying51 Tryz.zeroValue37 rfl (Nat.zero_lt_succ 5) (by decide) HR1.out 1 (by decide) HC.out (c - n)
 have hrun : (Builtin.clear_ #[51] 0 #[.slice (some ⟨g,n * 6,none⟩) 1 (c - n)]).run Tryz.prog w1 = .ok (.tuple #[]) w2 := by rw [← Nat.zero_add (n * 6)];exact hrun
 have HR2 := Aside0.mk hR2
 have HG2 := Aside0.mk hg2
 have HB2 := Aside0.mk (HB1.out.grown hg2 (show base ≤ w1.heap.size from Nat.le_trans hbase HG1.out.size) (fun k hk => by injection hk with hk;subst hk;exact Kd.R_base HR1.out _ (by simp [Value.ownBlock])))
 clear hR2 hg2
 go_wp2
 all_goals
  go_ret
  by_cases hh : c = k + 1
  ·first | contradiction | (obtain rfl := hh;refine ⟨rfl,HR2.out,HB2.out,Nat.le_trans (show W.heap.size ≤ w1.heap.size from HG1.out.size) HG2.out.size,fun k' h1 h2 => ?_⟩;exact (HG2.out.block k' (Nat.lt_of_lt_of_le h1 HG1.out.size) (by intro h;injection h with h;exact h2 h)).trans (HG1.out.block k' h1 (by intro h;injection h with h;exact h2 h)))
  ·first | contradiction | (refine ⟨rfl,HR2.out,HB2.out,Nat.le_trans (show W.heap.size ≤ w1.heap.size from HG1.out.size) HG2.out.size,fun k' h1 h2 => ?_⟩;exact (HG2.out.block k' (Nat.lt_of_lt_of_le h1 HG1.out.size) (by intro h;injection h with h;exact h2 h)).trans (HG1.out.block k' h1 (by intro h;injection h with h;exact h2 h)))
end Go.Proofs.YtiidmjmkgjfaeaaGreatDoor.Ent

namespace Jou
set_option linter.unusedSectionVars false
variable {α κ : Type} [DecidableEq κ] (nm : α → κ) (binds : α → α → Bool)
def bnd (l : List α) (e : α) : Bool := l.any fun x => !decide (nm x = nm e) && binds x e
def freeV (l : List α) : Nat := (l.findIdx? fun e => !bnd nm binds l e).getD 0
def orderV : Nat → List α → List α
 | 0,_ => []
 | n + 1,l => match l[freeV nm binds l]? with
  | some e => e :: orderV n (l.eraseIdx (freeV nm binds l))
  | none => []
variable {nm binds}
theorem free_lt {l : List α} (h : l ≠ []) : freeV nm binds l < l.length := by
 unfold freeV
 cases hf : l.findIdx? (fun e => !bnd nm binds l e) with
 | none => exact List.length_pos_iff.2 h
 | some i =>
  have := List.findIdx?_eq_some_iff_findIdx_eq.1 hf
  exact this.1
theorem perm_erase : ∀ {l : List α} {i : Nat} (h : i < l.length),(l[i] :: l.eraseIdx i).Perm l
 | x :: l,0,h => List.Perm.refl _
 | x :: l,i + 1,h => by
  rw [List.getElem_cons_succ,List.eraseIdx_cons_succ]
  exact (List.Perm.swap _ _ _).trans ((perm_erase (Nat.lt_of_succ_lt_succ h)).cons x)
theorem order_perm : ∀ (n : Nat) (l : List α),l.length = n → (orderV nm binds n l).Perm l
 | 0,l,h => by
  rw [List.length_eq_zero_iff.1 h]
  exact List.Perm.refl _
 | n + 1,l,h => by
  have hl := free_lt (nm := nm) (binds := binds) (l := l) (by intro e;subst e;simp at h)
  unfold orderV
  rw [List.getElem?_eq_getElem hl]
  exact ((order_perm n _ (by rw [List.length_eraseIdx,if_pos hl];omega)).cons _).trans (perm_erase hl)
end Jou

namespace Go.Proofs.YtiidmjmkgjfaeaaGreatDoor.Ent
open Go Go.RowKit Go.Shelf Go.Proofs.YtiidmjmkgjfaeaaGreatDoorW.PrintWords Go.Proofs.YtiidmjmkgjfaeaaGreatDoor.PA Go.Proofs.YtiidmjmkgjfaeaaGreatDoor.Pure
set_option linter.unusedVariables false
set_option linter.unusedSimpArgs false
def BindsAt (w : World) (fn : Nat) (binds : E6 → E6 → Bool) : Prop :=
 ∀ (W : World) (a b : E6) (p q : EA),Below w.heap.size w W → EC W a p → EC W b q → SmE a → SmE b → Calls Tryz.prog fn #[.agg (ecs a p),.agg (ecs b q)] W fun e w' => e = .returned (.bool (binds a b)) ∧ Below W.heap.size W w'
theorem BindsAt.later {w W : World} {fn : Nat} {binds : E6 → E6 → Bool} (h : BindsAt w fn binds) (hb : Below w.heap.size w W) : BindsAt W fn binds := fun W2 a b p q h2 => h W2 a b p q (hb.trans (h2.mono hb.size))
theorem ent_open {W : World} {e : E6} {cs : List Value} (hK : KE.K W e cs) : ∃ a : EA,cs = (ecs e a).toList ∧ EC W e a := by
 obtain ⟨A2,c2,A3,c3,A4,c4,A5,c5,rfl,g⟩ := k37_open hK
 obtain ⟨l2,r2,l3,r3,l4,r4,l5,r5⟩ := g
 exact ⟨⟨A2,c2,A3,c3,A4,c4,A5,c5⟩,rfl,⟨r2,l2,r3,l3,r4,l4,r5,l5⟩⟩
theorem cell_box {W : World} {D : Nat} {v : Value} {T : TypeId} (h : W.heap[D]? = some (.cells #[v] T (0,0))) : W.cell? ⟨D,0,none⟩ = some v := by simp [World.cell?,h]
abbrev ptr (D : Nat) : Value := .pointer (some ⟨D,0,none⟩)
abbrev fnv (fn : Nat) : Value := .func (.func fn) #[] #[]
def ahead (binds : E6 → E6 → Bool) (e x : E6) : Bool := !(x.f0.toList == e.f0.toList) && binds x e
set_option maxHeartbeats 2000000 in
set_option maxRecDepth 100000 in
theorem order11_pred {w : World} (fn : Nat) (eg : ∀ args w,(callFunc fn args).run Tryz.prog w = .ok (.enter fn args) w) (binds : E6 → E6 → Bool) (hF : BindsAt w fn binds) (e : E6) (a : EA) (De Df : Nat) (hDe : w.heap[De]? = some (.cells (ecs e a) 37 (0,0))) (hDf : w.cell? ⟨Df,0,none⟩ = some (fnv fn)) (ha : EC w e a) (se : SmE e) (l : List E6) (hs : ∀ x ∈ l,SmE x) :
  PredP KE (ahead binds e) 42 #[ptr De,ptr Df] w l := by
 intro W x cs hb hm hK
 obtain ⟨ax,rfl,hx⟩ := ent_open hK
 have gD := (hb.block _ (Array.getElem?_eq_some_iff.1 hDe).1).trans hDe
 have hDW : De < W.heap.size := (Array.getElem?_eq_some_iff.1 gD).1
 have hne : De ≠ W.heap.size := by omega
 have gF := (hb.cell (World.block_lt_of_cell? _ _ hDf)).trans hDf
 have hFW : Df < W.heap.size := World.block_lt_of_cell? _ _ gF
 have hnf : Df ≠ W.heap.size := by omega
 obtain ⟨x0,x1,x2,x3,x4,x5⟩ := ecs_cells gD
 have hbW := qab (Below.refl W.heap.size W) (.cells (ecs x ax) 37)
 have HP := Aside0.mk (hF _ x e ax a (hb.trans (hbW.mono hb.size)) (hx.below hbW) ((ha.below hb).below hbW) (hs x hm) se)
 have HB := Aside0.mk hb
 clear hK hDe hDf ha se hs hm hx gD hb hF hbW
 unfold ahead
 show Calls Tryz.prog 42 #[.agg (ecs x ax),ptr De,ptr Df] W _
 by_cases hn : x.f0.toList = e.f0.toList
 ·rw [show (x.f0.toList == e.f0.toList) = true by simp [hn],Bool.not_true,Bool.false_and]
  go_enter Tryz.func42,Tryz.ntmps42
  go_wp2
  go_ret
  exact ⟨rfl,qab HB.out _⟩
 ·have hq : (x.f0.toList == e.f0.toList) = false := beq_eq_false_iff_ne.2 hn
  rw [hq,Bool.not_false,Bool.true_and]
  go_enter Tryz.func42,Tryz.ntmps42
  go_wp2_with (go_at_fn fn;refine HP.out.mono ?_;rintro en w' ⟨rfl,hb'⟩)
  go_ret
  exact ⟨rfl,HB.out.trans (((qab (Below.refl W.heap.size W) _).trans (hb'.mono (by simp))).mono HB.out.size)⟩
set_option maxHeartbeats 2000000 in
set_option maxRecDepth 100000 in
theorem order1_pred {w : World} (fn : Nat) (eg : ∀ args w,(callFunc fn args).run Tryz.prog w = .ok (.enter fn args) w) (binds : E6 → E6 → Bool) (hF : BindsAt w fn binds) (B Bf : Nat) (A : Option Addr) (c : Nat) (L : List E6) (hB : w.cell? ⟨B,0,none⟩ = some (.slice A L.length c)) (hL : KE.C w A L.length L) (hLl : L.length < 1000000000000) (hBf : w.cell? ⟨Bf,0,none⟩ = some (fnv fn)) (hs : ∀ x ∈ L,SmE x) :
  PredP KE (fun e => !(L.any (ahead binds e))) 40 #[ptr B,ptr Bf] w L := by
 intro W x cs hb hm hK
 obtain ⟨ax,rfl,hx⟩ := ent_open hK
 have gB := (hb.cell (World.block_lt_of_cell? _ _ hB)).trans hB
 have hBW : B < W.heap.size := World.block_lt_of_cell? _ _ gB
 have hne : B ≠ W.heap.size := by omega
 have gF := (hb.cell (World.block_lt_of_cell? _ _ hBf)).trans hBf
 have hbW := qab (Below.refl W.heap.size W) (.cells (ecs x ax) 37)
 have gF2 := (hbW.cell (World.block_lt_of_cell? _ _ gF)).trans gF
 have hbw := hb.trans (hbW.mono hb.size)
 have HC := Aside0.mk (containsEnt (ahead binds x) 42 #[ptr W.heap.size,ptr Bf] (enters_of Tryz.func42 (by kernel_rfl) rfl) _ A c L (order11_pred fn eg binds (hF.later hbw) x ax W.heap.size Bf (World.alloc_heap_new W _) gF2 (hx.below hbW) (hs x hm) L hs) (Kd.C_below (Kd.C_below hL hb) hbW) hLl)
 have HB := Aside0.mk hb
 clear hK hB hBf hs hm hx hb hF hbW gF gF2 hbw hL
 show Calls Tryz.prog 40 #[.agg (ecs x ax),ptr B,ptr Bf] W _
 go_enter Tryz.func40,Tryz.ntmps40
 go_wp2_with (go_at_call 41;refine HC.out.mono ?_;rintro en w' ⟨rfl,hb'⟩)
 go_ret
 exact ⟨rfl,HB.out.trans (((qab (Below.refl W.heap.size W) _).trans (hb'.mono (by simp))).mono HB.out.size)⟩
end Go.Proofs.YtiidmjmkgjfaeaaGreatDoor.Ent

namespace Go.Proofs.YtiidmjmkgjfaeaaGreatDoor.Ent
open Go Go.RowKit Go.Shelf Go.Proofs.YtiidmjmkgjfaeaaGreatDoorW.PrintWords Go.Proofs.YtiidmjmkgjfaeaaGreatDoorW.PrintLast Go.Proofs.YtiidmjmkgjfaeaaGreatDoor.PA Go.Proofs.YtiidmjmkgjfaeaaGreatDoor.Pure
set_option linter.unusedVariables false
set_option linter.unusedSimpArgs false
abbrev KP : Kd S31 := k31
theorem infoP : (Tryz.prog.info? 31).map (fun i => (i.zero,i.size,i.bytes)) = some (some (.agg #[.int .i64 0,.string ⟨#[]⟩,.string ⟨#[]⟩]),3,40) := by kernel_rfl
def nmE (e : E6) : List UInt8 := e.f0.toList
def stepE (d : Int) (e : E6) : S31 := ⟨d,e.f0,e.f1⟩
structure OInv (w0 w : World) (B Bf fn : Nat) (v7 vL : Value) (acc : List S31) (left : List E6) (wr : World) : Prop where
 lef : (ice KE w0).R 37 wr w.heap.size (fun k => k ≠ B ∧ k ≠ Bf ∧ some k ≠ v7.ownBlock) vL left
 out : KP.R 31 wr w.heap.size (fun k => k ≠ B ∧ k ≠ Bf ∧ some k ≠ vL.ownBlock) v7 acc
 box : wr.heap[B]? = some (.cells #[vL] 51 (0,0))
 fbx : wr.heap[Bf]? = some (.cells #[fnv fn] 53 (0,0))
 bl : Below w.heap.size w wr
 hB : w.heap.size ≤ B
 hBf : w.heap.size ≤ Bf
section
variable {w0 w : World} {B Bf fn : Nat} {v7 vL : Value} {acc : List S31} {left : List E6} {wr W : World}
theorem OInv.below (h : OInv w0 w B Bf fn v7 vL acc left wr) (hb : Below wr.heap.size wr W) : OInv w0 w B Bf fn v7 vL acc left W :=
 ⟨Kd.R_below h.lef hb,Kd.R_below h.out hb,(hb.block _ (Array.getElem?_eq_some_iff.1 h.box).1).trans h.box,(hb.block _ (Array.getElem?_eq_some_iff.1 h.fbx).1).trans h.fbx,h.bl.trans (hb.mono h.bl.size),h.hB,h.hBf⟩
theorem OInv.Blt (h : OInv w0 w B Bf fn v7 vL acc left wr) : B < wr.heap.size := (Array.getElem?_eq_some_iff.1 h.box).1
theorem OInv.Bflt (h : OInv w0 w B Bf fn v7 vL acc left wr) : Bf < wr.heap.size := (Array.getElem?_eq_some_iff.1 h.fbx).1
theorem OInv.fresh (h : OInv w0 w B Bf fn v7 vL acc left wr) : ∀ k,wr.heap.size ≤ k → (k ≠ B ∧ k ≠ Bf ∧ some k ≠ vL.ownBlock) := fun k hk => by
 have h1 := h.Blt
 have h2 := h.Bflt
 refine ⟨by omega,by omega,fun he => ?_⟩
 have := ((Kd.R_bound h.lef).1 k he.symm).2.2.1
 omega
theorem OInv.ownB (h : OInv w0 w B Bf fn v7 vL acc left wr) : v7.ownBlock ≠ some B ∧ v7.ownBlock ≠ some Bf := ⟨fun he => (h.out.1 B he).1 rfl,fun he => (h.out.1 Bf he).2.1 rfl⟩
theorem OInv.appended {v1 : Value} {w1 : World} {p : S31} (h : OInv w0 w B Bf fn v7 vL acc left W) (hR : KP.R 31 w1 w.heap.size (fun k => k ≠ B ∧ k ≠ Bf ∧ some k ≠ vL.ownBlock) v1 (acc ++ [p])) (hb : Below w.heap.size w w1) (hg : W.grownBy w1 v7.ownBlock) (hat : v1.ownBlock = v7.ownBlock ∨ ∃ b,v1.ownBlock = some b ∧ W.heap.size ≤ b) : OInv w0 w B Bf fn v1 vL (acc ++ [p]) left w1 := by
 obtain ⟨n1,n2⟩ := h.ownB
 have hl := Kd.R_bound h.lef
 refine ⟨Kd.R_mono (Kd.R_grown hl hg (fun k hk => hk.1.2.2)) (fun k hk => ⟨hk.1.1,hk.1.2.1,fun he => ?_⟩),hR,(hg.block _ h.Blt (fun e => n1 e.symm)).trans h.box,(hg.block _ h.Bflt (fun e => n2 e.symm)).trans h.fbx,hb,h.hB,h.hBf⟩
 rcases hat with ha | ⟨b,ha,hlt⟩
 ·exact hk.1.2.2 (he.trans ha)
 ·rw [ha] at he
  injection he with he
  have := hk.2.2.1
  omega
theorem S6_alloc {g i n c B : Nat} {e : E6} {W : World} (h : W.cell? ⟨B,0,none⟩ = some (.slice (some ⟨g,0,none⟩) (n + 1) c) ∧ W.cell? ⟨g,i * 6,none⟩ = some (.string e.f0) ∧ W.cell? ⟨g,i * 6 + 1,none⟩ = some (.string e.f1)) (o : Obj) :
  (W.alloc o).cell? ⟨B,0,none⟩ = some (.slice (some ⟨g,0,none⟩) (n + 1) c) ∧ (W.alloc o).cell? ⟨g,i * 6,none⟩ = some (.string e.f0) ∧ (W.alloc o).cell? ⟨g,i * 6 + 1,none⟩ = some (.string e.f1) :=
 ⟨Lib.cell?_alloc_some o h.1,Lib.cell?_alloc_some o h.2.1,Lib.cell?_alloc_some o h.2.2⟩
theorem OInv.cells {g n c i : Nat} {e : E6} (h : OInv w0 w B Bf fn v7 (.slice (some ⟨g,0,none⟩) (n + 1) c) acc left wr) (hi : left[i]? = some e) :
  wr.cell? ⟨B,0,none⟩ = some (.slice (some ⟨g,0,none⟩) (n + 1) c) ∧ wr.cell? ⟨g,i * 6,none⟩ = some (.string e.f0) ∧ wr.cell? ⟨g,i * 6 + 1,none⟩ = some (.string e.f1) := by
 obtain ⟨A,c',he,hlc,hC⟩ := Kd.R_reads h.lef
 injection he with ha hn hc
 subst ha
 have hlt := (List.getElem?_eq_some_iff.1 hi).1
 obtain ⟨ad,cs,had,_,hK,hcc⟩ := Kd.C_get hC e (i : Int) (by omega) (by omega)
 obtain rfl := Option.some.inj had
 rw [show left.getD (i : Int).toNat e = e by rw [Int.toNat_natCast,List.getD_eq_getElem?_getD,hi];rfl] at hK
 obtain ⟨a,rfl,_⟩ := ent_open hK
 rw [Int.toNat_natCast] at hcc
 have h0 := hcc 0 _ rfl
 have h1 := hcc 1 _ rfl
 rw [Addr.add_lit,Nat.zero_add] at h0 h1
 exact ⟨cell_box h.box,h0,h1⟩
theorem OInv.s6 {g n c i : Nat} {e : E6} {v1 : Value} {acc' : List S31} {w1 : World} (h : OInv w0 w B Bf fn v7 (.slice (some ⟨g,0,none⟩) (n + 1) c) acc left wr) (h1 : OInv w0 w B Bf fn v1 (.slice (some ⟨g,0,none⟩) (n + 1) c) acc' left w1)
  (hS : wr.cell? ⟨B,0,none⟩ = some (.slice (some ⟨g,0,none⟩) (n + 1) c) ∧ wr.cell? ⟨g,i * 6,none⟩ = some (.string e.f0) ∧ wr.cell? ⟨g,i * 6 + 1,none⟩ = some (.string e.f1)) (hg : wr.grownBy w1 v7.ownBlock) :
  w1.cell? ⟨B,0,none⟩ = some (.slice (some ⟨g,0,none⟩) (n + 1) c) ∧ w1.cell? ⟨g,i * 6,none⟩ = some (.string e.f0) ∧ w1.cell? ⟨g,i * 6 + 1,none⟩ = some (.string e.f1) := by
 have hgb : w1.heap[g]? = wr.heap[g]? := hg.block g (World.block_lt_of_cell? _ _ hS.2.1) (fun he => (h.lef.1 g rfl).2.2 he)
 refine ⟨cell_box h1.box,?_,?_⟩
 ·rw [← hS.2.1];simp only [World.cell?,hgb]
 ·rw [← hS.2.2];simp only [World.cell?,hgb]
theorem OInv.deleted {g n c i : Nat} {w1 : World} (h : OInv w0 w B Bf fn v7 (.slice (some ⟨g,0,none⟩) (n + 1) c) acc left W) (hR : (ice KE w0).R 37 w1 w.heap.size (fun k => k ≠ B ∧ k ≠ Bf ∧ some k ≠ v7.ownBlock) (.slice (some ⟨g,0,none⟩) n c) (left.eraseIdx i)) (hb : Below w.heap.size w w1) (hs : W.heap.size ≤ w1.heap.size) (hk : ∀ k',k' < W.heap.size → k' ≠ g → w1.heap[k']? = W.heap[k']?) :
  w1.heap[B]? = some (.cells #[.slice (some ⟨g,0,none⟩) (n + 1) c] 51 (0,0)) ∧ OInv w0 w B Bf fn v7 (.slice (some ⟨g,0,none⟩) n c) acc (left.eraseIdx i) (w1.setCell ⟨B,0,none⟩ (.slice (some ⟨g,0,none⟩) n c)) := by
 have hgB := (h.lef.1 g rfl).1
 have hgF := (h.lef.1 g rfl).2.1
 have hbox := (hk B h.Blt (fun e => hgB e.symm)).trans h.box
 have hfbx := (hk Bf h.Bflt (fun e => hgF e.symm)).trans h.fbx
 have hne : Bf ≠ B := by
  rintro rfl
  rw [hbox] at hfbx
  injection hfbx with hfbx
  injection hfbx with hx
  simp [fnv] at hx
 refine ⟨hbox,Kd.R_far hR (p := ⟨B,0,none⟩) (fun k hk => hk.1) _,?_,?_,(Below.heap_setCell _ _ _ _ hne).trans hfbx,hb.setCell h.hB _,h.hB,h.hBf⟩
 ·refine Kd.R_far (p := ⟨B,0,none⟩) (Kd.R_step h.out (fun k ho hlt => hk k hlt (fun e => ho.2.2 (by rw [e];rfl)))) (fun k hk => hk.1) _
 ·have := h_set hbox 0 (.slice (some ⟨g,0,none⟩) n c)
  simpa using this
theorem OInv.own (h : OInv w0 w B Bf fn v7 vL acc left wr) (hl : left ≠ []) : ∃ g c,vL = .slice (some ⟨g,0,none⟩) left.length c ∧ left.length ≤ c := by
 obtain ⟨hok,inner,hown,hr⟩ := h.lef
 rcases hown.2 with ⟨_,h0⟩ | ⟨g,cap,cur,hv,_,_,hc,_⟩
 ·exact absurd (List.eq_nil_of_length_eq_zero h0) hl
 ·exact ⟨g,cap,hv,hc⟩
end
theorem free_idx (binds : E6 → E6 → Bool) (l : List E6) : ∀ (p : E6 → Bool) (m : List E6) (i : Nat),(m.findIdx? p = none ∧ idxP p m i = -1) ∨ ∃ j,m.findIdx? p = some j ∧ idxP p m i = ((i + j : Nat) : Int)
 | p,[],i => .inl ⟨rfl,rfl⟩
 | p,x :: r,i => by
  rw [List.findIdx?_cons,idxP]
  cases h : p x with
  | true => exact .inr ⟨0,rfl,by rw [if_pos rfl];rfl⟩
  | false =>
   simp only [Bool.false_eq_true,if_false]
   rcases free_idx binds l p r (i + 1) with ⟨h1,h2⟩ | ⟨j,h1,h2⟩
   ·exact .inl ⟨by rw [h1];rfl,h2⟩
   ·exact .inr ⟨j + 1,by rw [h1];rfl,by rw [h2];congr 1;omega⟩
theorem bnd_any (binds : E6 → E6 → Bool) (l : List E6) (e : E6) : Jou.bnd nmE binds l e = l.any (ahead binds e) := by
 unfold Jou.bnd ahead nmE
 congr 1
 funext x
 by_cases h : x.f0.toList = e.f0.toList <;> simp [h]
theorem free_max (binds : E6 → E6 → Bool) (l : List E6) (w : World) : (Builtin.max_ #[3,3] 3 #[.int .i64 (idxP (fun e => !(l.any (ahead binds e))) l 0),.int .i64 0]).run Tryz.prog w = .ok (.int .i64 ((Jou.freeV nmE binds l : Nat) : Int)) w := by
 have hp : (fun e => !Jou.bnd nmE binds l e) = fun e => !(l.any (ahead binds e)) := funext fun e => by rw [bnd_any]
 unfold Jou.freeV
 rw [hp]
 rcases free_idx binds l (fun e => !(l.any (ahead binds e))) l 0 with ⟨h1,h2⟩ | ⟨j,h1,h2⟩
 ·rw [h1,h2];rfl
 ·rw [h1,h2,Nat.zero_add]
  simp only [Option.getD_some]
  have hj : ¬ ((j : Int) < 0) := by omega
  simp [Builtin.max_,Builtin.max2,hj]
def ord6.T : Bool × List (List Nat × List Nat) := (true,[([],[]),([],[]),([],[]),([],[]),([2,3],[2,3]),([4],[4]),([5],[5]),([],[]),([],[]),([7,8],[7,8]),([9],[9]),([10],[10]),([1,6,11],[1,6,11]),([12],[12]),([0,13],[0,13]),([14,14,0,1,2,3,4,5,6,7,8,9,10,11,12,13,14],[0,14])])
def ord6.B : List Nat := [0,0,0,0,12,28,60,0,0,384,896,1920,4094,8190,16383,32767]
theorem ord6.tab : rtab .any (opsOf Tryz.f20 6) = ord6.T := by kernel_rfl
theorem ord6.bits : waitsOk ord6.T.2 ord6.B = true := by kernel_rfl
set_option maxRecDepth 100000 in
set_option maxHeartbeats 16000000 in
theorem order_calls {w w0 : World} (fn : Nat) (eg : ∀ args w,(callFunc fn args).run Tryz.prog w = .ok (.enter fn args) w) (binds : E6 → E6 → Bool) (hF : BindsAt w fn binds) (hw : Below w0.heap.size w0 w) (do_ : Int) (A : Option Addr) (c : Nat) (l : List E6) (hr : (ice KE w0).C w A l.length l) (hl : l.length ≤ 1000000) (hs : ∀ x ∈ l,SmE x) :
  Calls Tryz.prog 20 #[.slice A l.length c,.int .i64 do_,fnv fn] w fun e w' => ∃ v,e = .returned v ∧ KP.R 31 w' w.heap.size (fun _ => True) v ((Jou.orderV nmE binds l.length l).map (stepE do_)) ∧ Below w.heap.size w w' := by
 have hb1 := qab (Below.refl w.heap.size w) (.cells #[fnv fn] 53)
 have HCl := Aside0.mk (cloneE (w0 := w0) A c l (Kd.C_below hr hb1) hl)
 have HB1 := Aside0.mk hb1
 have HF := Aside0.mk hF
 have HS := Aside0.mk hs
 have HL := Aside0.mk hl
 have HW := Aside0.mk hw
 clear hr hl hs hF hb1 hw
 go_enter Tryz.func20,Tryz.ntmps20
 go_wp2_with (go_at_call 38;refine HCl.out.mono ?_;rintro en w2 ⟨vL,rfl,hR,hb2⟩;obtain ⟨A2,c2,rfl,hc2,hC2⟩ := Kd.R_reads hR;have HR2 := Aside0.mk hR;have HB2 := Aside0.mk hb2;clear hR hb2 hc2 hC2)
 go_wp2
 have hI : OInv w0 w w2.heap.size w.heap.size fn (.slice none 0 0) (.slice A2 l.length c2) [] l (w2.alloc (.cells #[.slice A2 l.length c2] 51)) := by
  have hb2 := HB2.out
  have hs1 : (w.alloc (.cells #[fnv fn] 53)).heap.size = w.heap.size + 1 := by simp
  have hs2 : w.heap.size + 1 ≤ w2.heap.size := hs1 ▸ hb2.size
  have hlef := Kd.R_lower (base' := w.heap.size) (Kd.R_mono (ok' := fun k => k ≠ w2.heap.size ∧ k ≠ w.heap.size ∧ some k ≠ (Value.slice none 0 0).ownBlock) (Kd.R_bound HR2.out) (fun k hk => ⟨by have := hk.2.2.1;omega,by have := hk.2.1;omega,by simp [Value.ownBlock]⟩)) (by omega)
  refine ⟨Kd.R_alloc hlef _,Kd.R_nil _ _ _ _ _,World.alloc_heap_new _ _,?_,qab (HB1.out.trans (hb2.mono (by omega))) _,by omega,Nat.le_refl _⟩
  ·exact (Below.heap_alloc _ _ _ (by omega)).trans ((hb2.block _ (by omega)).trans (World.alloc_heap_new w _))
 have HI0 := Aside0.mk hI
 clear hI
 obtain ⟨B,hB⟩ : ∃ B,w2.heap.size = B := ⟨_,rfl⟩
 obtain ⟨Bf,hBf⟩ : ∃ B,w.heap.size = B := ⟨_,rfl⟩
 rw [hB,hBf] at HI0
 simp only [hB,hBf]
 obtain ⟨full,hfull⟩ : ∃ q,(Jou.orderV nmE binds l.length l).map (stepE do_) = q := ⟨_,rfl⟩
 have HFU := Aside0.mk hfull
 go_loopg [7] l.length (fun gg v7 wr => ∃ (acc : List S31) (L : List E6) (A : Option Addr) (c : Nat),L.length ≤ gg ∧ Aside0 (OInv w0 w B Bf fn v7 (.slice A L.length c) acc L wr) ∧ Aside0 (acc ++ (Jou.orderV nmE binds L.length L).map (stepE do_) = full) ∧ Aside0 ((∀ x ∈ L,SmE x) ∧ acc.length + L.length ≤ 1000000))
 case atStart => exact ⟨[],l,A2,c2,Nat.le_refl _,HI0,⟨by rw [List.nil_append];exact HFU.out⟩,⟨HS.out,by have := HL.out;simp;omega⟩⟩
 case round =>
  clear HI0
  obtain ⟨acc,L,A3,cL,hg,HI,HA,HX⟩ := hrel
  cases hL : L.length with
  | zero =>
   have hI := HI.out
   rw [hL] at hI
   have x0 := cell_box hI.box
   have hA := HA.out
   rw [hL,show (Jou.orderV nmE binds 0 L).map (stepE do_) = [] from rfl,List.append_nil] at hA
   have HO := Aside0.mk hI.out
   have HBB := Aside0.mk hI.bl
   have HAA := Aside0.mk hA
   clear hI hA
   go_wp2
   go_ret
   refine ⟨_,rfl,?_,HBB.out⟩
   rw [HFU.out,← HAA.out]
   exact Kd.R_mono HO.out (fun _ _ => trivial)
  | succ n =>
   obtain ⟨g,c9,hv,hcc⟩ := HI.out.own (by intro h;rw [h] at hL;cases hL)
   injection hv with h1 h2 h3
   subst h1;subst h3
   have hI := HI.out
   rw [hL] at hI hcc
   have x0 := cell_box hI.box
   have hlt : Jou.freeV nmE binds L < L.length := Jou.free_lt (by intro h;rw [h] at hL;cases hL)
   obtain ⟨e,he⟩ : ∃ e,L[Jou.freeV nmE binds L]? = some e := ⟨_,List.getElem?_eq_getElem hlt⟩
   have hmx := free_max binds L
   have hord : Jou.orderV nmE binds (n + 1) L = e :: Jou.orderV nmE binds n (L.eraseIdx (Jou.freeV nmE binds L)) := by rw [Jou.orderV,he]
   obtain ⟨A4,c4,hv4,hc4,hC4⟩ := Kd.R_reads hI.lef
   injection hv4 with h1 h2 h3
   subst h1;subst h3
   have hwr : Below w0.heap.size w0 wr := HW.out.trans (hI.bl.mono HW.out.size)
   have hCL := thaw hC4 hwr
   have hcall := indexEnt (fun e => !(L.any (ahead binds e))) 40 #[ptr B,ptr Bf] (enters_of Tryz.func40 (by kernel_rfl) rfl) wr (some ⟨g,0,none⟩) cL L (order1_pred fn eg binds (HF.out.later hI.bl) B Bf (some ⟨g,0,none⟩) cL L (by rw [hL];exact x0) hCL (by have := HX.out.2;omega) (cell_box hI.fbx) HX.out.1) hCL (by have := HX.out.2;omega)
   obtain ⟨z,hz⟩ : ∃ z,idxP (fun e => !(L.any (ahead binds e))) L 0 = z := ⟨_,rfl⟩
   obtain ⟨i,hi⟩ : ∃ i,Jou.freeV nmE binds L = i := ⟨_,rfl⟩
   rw [hL,hz] at hcall
   rw [hz,hi] at hmx
   rw [hi] at hlt he hord
   rw [hL] at hlt
   have p0 : (0 : Int) ≤ (i : Int) := by omega
   have p1 : (i : Int) < (n : Int) + 1 := by omega
   have hnn : n ≤ 1000000 := by have := HX.out.2;omega
   have HCALL := Aside0.mk hcall
   have I := Aside0.mk hI
   have HHE := Aside0.mk he
   have HOR := Aside0.mk hord
   have HLL := Aside0.mk hL
   have HLT := Aside0.mk hlt
   have HCC := Aside0.mk hcc
   have HNN := Aside0.mk hnn
   have HAL := Aside0.mk (show acc.length ≤ 1000000 by have := HX.out.2;omega)
   have HLE := Aside0.mk (show (L.eraseIdx i).length = n by rw [List.length_eraseIdx_of_lt (show i < L.length by rw [hL];exact hlt),hL];rfl)
   have bw : wrap64 ((i : Int) + 1) = (i : Int) + 1 := by unfold wrap64;omega
   clear hcall hI he hord hL hlt hcc hnn hz hi hC4 hCL hwr hc4 h2 HI
   go_wp2_with (go_at_call 39;refine HCALL.out.mono ?_;rintro en wi ⟨rfl,hb3⟩;have I2 := Aside0.mk (I.out.below (show Below wr.heap.size wr wi.drew from below_drew hb3));have S2 := Aside0.mk (I2.out.cells HHE.out);clear hb3)
   refine start_ (n := 16) (S := fun w' => w'.cell? ⟨B,0,none⟩ = some (.slice (some ⟨g,0,none⟩) (n + 1) cL) ∧ w'.cell? ⟨g,i * 6,none⟩ = some (.string e.f0) ∧ w'.cell? ⟨g,i * 6 + 1,none⟩ = some (.string e.f1)) (ds := []) (mb 16 0) (by kernel_rfl) rfl rfl S2.out (fun hHeld => ?_);refine with_tabW ord6.tab ord6.bits (fun HT_ HW_ => ?_)
   refine pure_ (i := 0) (N := some 20) (v := ?_) (a' := ?_) (mb 16 1) rfl rfl (any_of HT_.out (by kernel_rfl)) (fun _ _ _ h => h) (Or.inl ⟨by rfl,?_⟩) ?_ ?_
   rotate_left
   ·intro w'
    go_simp
    (try with_reducible rfl)
   rotate_left
   ·simp only [Act.put,List.setIfInBounds_toArray,List.set_cons_zero,List.set_cons_succ,i64_w,i32_w]
    rfl
   refine pure_ (i := 1) (N := some 21) (v := ?_) (a' := ?_) (mb 16 3) rfl rfl (any_of HT_.out (by kernel_rfl)) (fun _ _ _ h => h) (Or.inl ⟨by rfl,?_⟩) ?_ ?_
   rotate_left
   ·intro w'
    go_simp
    (try with_reducible rfl)
   rotate_left
   ·simp only [Act.put,List.setIfInBounds_toArray,List.set_cons_zero,List.set_cons_succ,i64_w,i32_w]
    rfl
   refine pure_ (i := 3) (N := some 23) (v := ?_) (a' := ?_) (mb 16 11) rfl rfl (any_of HT_.out (by kernel_rfl)) (fun _ _ _ h => h) (Or.inl ⟨by rfl,?_⟩) ?_ ?_
   rotate_left
   ·intro w'
    go_simp
    (try with_reducible rfl)
   rotate_left
   ·simp only [Act.put,List.setIfInBounds_toArray,List.set_cons_zero,List.set_cons_succ,i64_w,i32_w]
    rfl
   refine pure_ (i := 8) (N := some 28) (v := ?_) (a' := ?_) (mb 16 267) rfl rfl (any_of HT_.out (by kernel_rfl)) (fun _ _ _ h => h) (Or.inl ⟨by rfl,?_⟩) ?_ ?_
   rotate_left
   ·intro w'
    go_simp
    (try with_reducible rfl)
   rotate_left
   ·simp only [Act.put,List.setIfInBounds_toArray,List.set_cons_zero,List.set_cons_succ,i64_w,i32_w]
    rfl
   refine take_ (i := 2) (N := some 22) (v := ?_) (a' := ?_) (mb 16 271) rfl rfl (take_ofW HT_.out HW_.out (by kernel_rfl)) (fun _ _ _ h => h) (Or.inl ⟨by rfl,?_⟩) hHeld ?_ ?_
   rotate_left
   ·rintro w' ⟨s0,s1,s2⟩
    go_simp
    (try with_reducible rfl)
   rotate_left
   ·simp only [Act.put,List.setIfInBounds_toArray,List.set_cons_zero,List.set_cons_succ,i64_w,i32_w]
    rfl
   refine take_ (i := 4) (N := some 24) (v := ?_) (a' := ?_) (mb 16 287) rfl rfl (take_ofW HT_.out HW_.out (by kernel_rfl)) (fun _ _ _ h => h) (Or.inl ⟨by rfl,?_⟩) hHeld ?_ ?_
   rotate_left
   ·rintro w' ⟨s0,s1,s2⟩
    go_simp
    (try with_reducible rfl)
   rotate_left
   ·simp only [Act.put,List.setIfInBounds_toArray,List.set_cons_zero,List.set_cons_succ,i64_w,i32_w]
    rfl
   refine pure_ (i := 5) (N := some 25) (v := ?_) (a' := ?_) (mb 16 319) rfl rfl (any_of HT_.out (by kernel_rfl)) (fun _ _ _ h => h) (Or.inl ⟨by rfl,?_⟩) ?_ ?_
   rotate_left
   ·intro w'
    go_simp
    (try with_reducible rfl)
   rotate_left
   ·simp only [Act.put,List.setIfInBounds_toArray,List.set_cons_zero,List.set_cons_succ,i64_w,i32_w]
    rfl
   refine take_ (i := 6) (N := some 26) (v := ?_) (a' := ?_) (mb 16 383) rfl rfl (take_ofW HT_.out HW_.out (by kernel_rfl)) (fun _ _ _ h => h) (Or.inl ⟨by rfl,?_⟩) hHeld ?_ ?_
   rotate_left
   ·rintro w' ⟨s0,s1,s2⟩
    go_simp
    (try with_reducible rfl)
   rotate_left
   ·simp only [Act.put,List.setIfInBounds_toArray,List.set_cons_zero,List.set_cons_succ,i64_w,i32_w]
    rfl
   refine take_ (i := 7) (N := some 27) (v := ?_) (a' := ?_) (mb 16 511) rfl rfl (take_ofW HT_.out HW_.out (by kernel_rfl)) (fun _ _ _ h => h) (Or.inl ⟨by rfl,?_⟩) hHeld ?_ ?_
   rotate_left
   ·rintro w' ⟨s0,s1,s2⟩
    go_simp
    (try with_reducible rfl)
   rotate_left
   ·simp only [Act.put,List.setIfInBounds_toArray,List.set_cons_zero,List.set_cons_succ,i64_w,i32_w]
    rfl
   refine take_ (i := 9) (N := some 29) (v := ?_) (a' := ?_) (mb 16 1023) rfl rfl (take_ofW HT_.out HW_.out (by kernel_rfl)) (fun _ _ _ h => h) (Or.inl ⟨by rfl,?_⟩) hHeld ?_ ?_
   rotate_left
   ·rintro w' ⟨s0,s1,s2⟩
    go_simp
    (try with_reducible rfl)
   rotate_left
   ·simp only [Act.put,List.setIfInBounds_toArray,List.set_cons_zero,List.set_cons_succ,i64_w,i32_w]
    rfl
   refine pure_ (i := 10) (N := some 30) (v := ?_) (a' := ?_) (mb 16 2047) rfl rfl (any_of HT_.out (by kernel_rfl)) (fun _ _ _ h => h) (Or.inl ⟨by rfl,?_⟩) ?_ ?_
   rotate_left
   ·intro w'
    go_simp
    (try with_reducible rfl)
   rotate_left
   ·simp only [Act.put,List.setIfInBounds_toArray,List.set_cons_zero,List.set_cons_succ,i64_w,i32_w]
    rfl
   refine take_ (i := 11) (N := some 31) (v := ?_) (a' := ?_) (mb 16 4095) rfl rfl (take_ofW HT_.out HW_.out (by kernel_rfl)) (fun _ _ _ h => h) (Or.inl ⟨by rfl,?_⟩) hHeld ?_ ?_
   rotate_left
   ·rintro w' ⟨s0,s1,s2⟩
    go_simp
    (try with_reducible rfl)
   rotate_left
   ·simp only [Act.put,List.setIfInBounds_toArray,List.set_cons_zero,List.set_cons_succ,i64_w,i32_w]
    rfl
   refine pure_ (i := 12) (N := some 32) (v := ?_) (a' := ?_) (mb 16 8191) rfl rfl (any_of HT_.out (by kernel_rfl)) (fun _ _ _ h => h) (Or.inl ⟨by rfl,?_⟩) ?_ ?_
   rotate_left
   ·intro w'
    go_simp
    (try with_reducible rfl)
   rotate_left
   ·simp only [Act.put,List.setIfInBounds_toArray,List.set_cons_zero,List.set_cons_succ,i64_w,i32_w]
    rfl
   refine one_ (i := 13) (N := some 33) (mb 16 16383) rfl rfl (one_of HT_.out (by kernel_rfl)) (by decide) (fun K hK => ?_)
   rw [if_pos (by rfl)]
   go_simp
   refine hK.out _ _ (S6_alloc S2.out _) (fun hHeld => ?_)
   clear hK K
   refine norm_ (a' := ?_) ?_ ?_
   rotate_left
   ·first | (show Act.put _ (some 33) _ = _;simp only [Act.put,List.setIfInBounds_toArray,List.set_cons_zero,List.set_cons_succ,i64_w,i32_w];rfl) | rfl
   refine one_ (i := 14) (N := some 34) (mb 16 32767) rfl rfl (one_of HT_.out (by kernel_rfl)) (by decide) (fun K hK => ?_)
   refine Kd.R_append_step KP (w0 := w) w.heap.size (by rfl) _ _ 25 31 (.agg #[.int .i64 0,.string ⟨#[]⟩,.string ⟨#[]⟩]) 40 rfl Tryz.underlying25 infoP rfl (Nat.zero_lt_succ 2) (by omega) _ acc (⟨do_,e.f0,e.f1⟩ : S31) [.int .i64 do_,.string e.f0,.string e.f1] (fun k => k ≠ B ∧ k ≠ Bf ∧ some k ≠ (Value.slice (some ⟨g,0,none⟩) (n + 1) cL).ownBlock) (fun _ => False) (by rfl) (by first | rfl | (simp;done) | (go_simp;done) | (simp [Act.eval];done)) (k31_mkM _ _ _ ⟨do_,e.f0,e.f1⟩) (fun _ hk => hk.elim) I2.out.fresh I2.out.out I2.out.bl I2.out.bl.size (by have := HAL.out;omega) ?_
   intro v1 w3 hR hB3 hg3 hat
   have I3 := Aside0.mk (I2.out.appended hR hB3 hg3 hat)
   have S3 := Aside0.mk (I2.out.s6 I3.out S2.out hg3)
   clear hR hB3 hg3 hat
   refine hK.out _ _ S3.out (fun hHeld => ?_)
   clear hK K
   refine norm_ (a' := ?_) ?_ ?_
   rotate_left
   ·first | (show Act.put _ (some 34) _ = _;simp only [Act.put,List.setIfInBounds_toArray,List.set_cons_zero,List.set_cons_succ,i64_w,i32_w];rfl) | rfl
   refine pure_ (i := 15) (N := some 7) (v := ?_) (a' := ?_) (mb 16 65535) rfl rfl (any_of HT_.out (by kernel_rfl)) (fun _ _ _ h => h) (Or.inl ⟨by rfl,?_⟩) ?_ ?_
   rotate_left
   ·intro w'
    go_simp
    (try with_reducible rfl)
   rotate_left
   ·simp only [Act.put,List.setIfInBounds_toArray,List.set_cons_zero,List.set_cons_succ,i64_w,i32_w]
    rfl
   refine done_ (done_of HT_.out (by kernel_rfl)) ?_
   have HD := Aside0.mk (delete_calls (w0 := w0) (w := w) w.heap.size _ g n cL i L I3.out.lef HLT.out HNN.out HCC.out I3.out.bl I3.out.bl.size)
   have y0 := S3.out.1
   go_wp2_with (go_at_call 43;refine HD.out.mono ?_;rintro en w4 ⟨rfl,hR,hb4,hs4,hk4⟩;obtain ⟨hbx,hI4⟩ := I3.out.deleted hR hb4 hs4 hk4;have y4 := cell_box hbx;have f4 := h_thaw hbx 0;have I4 := Aside0.mk hI4;clear hR hb4 hs4 hk4 hbx hI4 y0 x0)
   go_roundg n
   case measure => have := HLL.out;omega
   case rel => exact ⟨acc ++ [stepE do_ e],L.eraseIdx i,some ⟨g,0,none⟩,cL,(by rw [HLE.out];exact Nat.le_refl _),⟨by rw [HLE.out];exact I4.out⟩,⟨by rw [HLE.out,← HA.out,HLL.out,HOR.out,List.map_cons,List.append_assoc];rfl⟩,⟨fun x hx => HX.out.1 x (List.mem_of_mem_eraseIdx hx),by have h1 := HX.out.2;have h2 := HLE.out;have h3 := HLL.out;rw [List.length_append,List.length_singleton,h2];omega⟩⟩
end Go.Proofs.YtiidmjmkgjfaeaaGreatDoor.Ent

