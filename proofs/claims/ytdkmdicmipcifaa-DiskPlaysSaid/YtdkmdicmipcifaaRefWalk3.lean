import Derived.Test.YtdkmdicmipcifaaRefWalk2
import Derived.Laws.ResultCell
import Derived.IntWalk
namespace Go.Proofs.Ytdkmdicmipcifaa.Disk
open Go Go.RowKit Go.Maps Go.Proofs.YtdkmdicmipcifaaW.PrintWords Go.Proofs.YtdkmdicmipcifaaW.PrintLast Go.Proofs.YtdkmdicmipcifaaW.PrintMore
open Go.Proofs.Ytdkmdicmipcifaa.Pure (mk mk_size mk_app mk_toList mk_dataList wrap_in)
attribute [local go_sem] mk_size mk_app mk_toList
set_option maxHeartbeats 16000000 in
set_option maxRecDepth 100000 in
theorem rout_calls {w : World} {q c : Nat} {A : Option Addr} {d : Dk} (hD : RAt w q A c d) (g : Good d) (n : Bs) :
    Calls Try.prog 55 #[.pointer (some ⟨q, 0, none⟩), .string (mk n)] w (ROut q A w (.tuple #[]) (outD d n)) := by
  obtain ⟨i0, hi0, hz0, hz1, hz2⟩ := parts3
  have hle := pos_le n d.L
  have hm := g.many
  have HD := Aside0.mk hD
  have HG := Aside0.mk g
  have HQ := Aside0.mk (And.intro hD.lt hD.ltr)
  have HCAP := Aside0.mk hD.cap
  clear hD
  cases hh : has n d.L
  · have hdel := pos_miss g.sorted hh
    have HE := Aside0.mk (show outD d n = { d with used := d.used - (get n d.L).1.length } by unfold outD; rw [hdel])
    clear hdel g hle hm
    go_enter Try.func55, Try.ntmps55
    go_wp2_with (first
      | (go_at_call 56; refine (find_calls HD.out HG.out n).mono ?_; rintro e w1 ⟨rfl, hD1, hb1⟩; rw [hh])
      | go_in)
    go_end0
    rw [HE.out]
    exact ⟨A, c, rfl, hD1.used _, RT.below hb1⟩
  · have HP := Aside0.mk (del_pos g.sorted hh)
    have q0 : (0 : Int) ≤ ((pos n d.L : Nat) : Int) := by omega
    have q1 : ((pos n d.L : Nat) : Int) ≤ (c : Int) := by have := HCAP.out; omega
    have hlt := (has_at g.sorted hh).2
    have q2 : ((pos n d.L : Nat) : Int) + 1 ≤ (d.L.length : Int) := by omega
    have q3 : (0 : Int) ≤ ((pos n d.L : Nat) : Int) + 1 := by omega
    have q4 : (((pos n d.L : Nat) : Int) + 1).toNat = pos n d.L + 1 := by omega
    have bw : wrap64 (((pos n d.L : Nat) : Int) + 1) = ((pos n d.L : Nat) : Int) + 1 := by rw [w64 (by omega) (by omega)]
    have bw2 : IntKind.i64.wrap (((pos n d.L : Nat) : Int) + 1) = ((pos n d.L : Nat) : Int) + 1 := IntWalk.i64_in _ (by omega)
    have HLE := Aside0.mk (show pos n d.L + 1 ≤ d.L.length ∧ d.L.length ≤ 200 by omega)
    have HL1 := Aside0.mk (show (cells3 (d.L.take (pos n d.L))).length = pos n d.L * 3 by rw [cells3_length, List.length_take]; congr 1; omega)
    clear g hm
    go_enter Try.func55, Try.ntmps55
    go_wp2_with (first
      | (go_at_call 56; refine (find_calls HD.out HG.out n).mono ?_; rintro e w1 ⟨rfl, hD1, hb1⟩; rw [hh]; have HD1 := Aside0.mk hD1; have HB1 := Aside0.mk hb1; clear hD1 hb1)
      | go_in)
    have c0 := HD1.out.c0
    have c0' := fun o => (HD1.out.alloc o).c0
    have hb1 : ∀ o, Below w1.heap.size w1 (w1.drew.alloc o) := fun o => (Below.refl _ w1).drew.alloc (Nat.le_refl _) o
    clear hle
    refine wp_region_E (fun w' => w'.cell? ⟨q, 0, none⟩ = some (.slice A d.L.length c)) 17 (by kernel_rfl) (by decide) ?_
    have hS0 := (HD1.out.below ((Below.refl w1.heap.size w1).drew)).c0
    refine wpE_take (v := ?_) 0 rfl (by kernel_rfl) (fun _ _ _ h => h) (Or.inl ⟨by rfl, ?_⟩) hS0 ?_
    rotate_left
    · intro w' hSw; go_simp; (try with_reducible rfl)
    try simp only [Act.put, List.setIfInBounds_toArray, List.set_cons_zero, List.set_cons_succ]
    refine wpE_take (v := ?_) 2 rfl (by kernel_rfl) (fun _ _ _ h => h) (Or.inl ⟨by rfl, ?_⟩) hS0 ?_
    rotate_left
    · intro w' hSw; go_simp; (try with_reducible rfl)
    try simp only [Act.put, List.setIfInBounds_toArray, List.set_cons_zero, List.set_cons_succ]
    refine wpE_take (v := ?_) 3 rfl (by kernel_rfl) (fun _ _ _ h => h) (Or.inl ⟨by rfl, ?_⟩) hS0 ?_
    rotate_left
    · intro w' hSw; go_simp; (try with_reducible rfl)
    try simp only [Act.put, List.setIfInBounds_toArray, List.set_cons_zero, List.set_cons_succ]
    refine wpE_take (v := ?_) 4 rfl (by kernel_rfl) (fun _ _ _ h => h) (Or.inl ⟨by rfl, ?_⟩) hS0 ?_
    rotate_left
    · intro w' hSw; go_simp; (try with_reducible rfl)
    try simp only [Act.put, List.setIfInBounds_toArray, List.set_cons_zero, List.set_cons_succ]
    refine wpE_take (v := ?_) 5 rfl (by kernel_rfl) (fun _ _ _ h => h) (Or.inl ⟨by rfl, ?_⟩) hS0 ?_
    rotate_left
    · intro w' hSw; go_simp; (try with_reducible rfl)
    try simp only [Act.put, List.setIfInBounds_toArray, List.set_cons_zero, List.set_cons_succ]
    refine wpE_take (v := ?_) 6 rfl (by kernel_rfl) (fun _ _ _ h => h) (Or.inl ⟨by rfl, ?_⟩) hS0 ?_
    rotate_left
    · intro w' hSw; go_simp; (try with_reducible rfl)
    try simp only [Act.put, List.setIfInBounds_toArray, List.set_cons_zero, List.set_cons_succ]
    refine wpE_take (v := ?_) 7 rfl (by kernel_rfl) (fun _ _ _ h => h) (Or.inl ⟨by rfl, ?_⟩) hS0 ?_
    rotate_left
    · intro w' hSw; go_simp; (try with_reducible rfl)
    try simp only [Act.put, List.setIfInBounds_toArray, List.set_cons_zero, List.set_cons_succ]
    refine wpE_take (v := ?_) 9 rfl (by kernel_rfl) (fun _ _ _ h => h) (Or.inl ⟨by rfl, ?_⟩) hS0 ?_
    rotate_left
    · intro w' hSw; go_simp; (try with_reducible rfl)
    try simp only [Act.put, List.setIfInBounds_toArray, List.set_cons_zero, List.set_cons_succ]
    refine wpE_take (v := ?_) 10 rfl (by kernel_rfl) (fun _ _ _ h => h) (Or.inl ⟨by rfl, ?_⟩) hS0 ?_
    rotate_left
    · intro w' hSw; go_simp; (try with_reducible rfl)
    try simp only [Act.put, List.setIfInBounds_toArray, List.set_cons_zero, List.set_cons_succ]
    refine wpE_take (v := ?_) 11 rfl (by kernel_rfl) (fun _ _ _ h => h) (Or.inl ⟨by rfl, ?_⟩) hS0 ?_
    rotate_left
    · intro w' hSw; go_simp; (try with_reducible rfl)
    try simp only [Act.put, List.setIfInBounds_toArray, List.set_cons_zero, List.set_cons_succ]
    refine wpE_take (v := ?_) 12 rfl (by kernel_rfl) (fun _ _ _ h => h) (Or.inl ⟨by rfl, ?_⟩) hS0 ?_
    rotate_left
    · intro w' hSw; go_simp; (try with_reducible rfl)
    try simp only [Act.put, List.setIfInBounds_toArray, List.set_cons_zero, List.set_cons_succ]
    refine wpE_take (v := ?_) 13 rfl (by kernel_rfl) (fun _ _ _ h => h) (Or.inl ⟨by rfl, ?_⟩) hS0 ?_
    rotate_left
    · intro w' hSw; go_simp; (try with_reducible rfl)
    try simp only [Act.put, List.setIfInBounds_toArray, List.set_cons_zero, List.set_cons_succ]
    refine wpE_take (v := ?_) 14 rfl (by kernel_rfl) (fun _ _ _ h => h) (Or.inl ⟨by rfl, ?_⟩) hS0 ?_
    rotate_left
    · intro w' hSw; go_simp; (try with_reducible rfl)
    try simp only [Act.put, List.setIfInBounds_toArray, List.set_cons_zero, List.set_cons_succ]
    refine wpE_take (v := ?_) 15 rfl (by kernel_rfl) (fun _ _ _ h => h) (Or.inl ⟨by rfl, ?_⟩) hS0 ?_
    rotate_left
    · intro w' hSw; go_simp; (try with_reducible rfl)
    try simp only [Act.put, List.setIfInBounds_toArray, List.set_cons_zero, List.set_cons_succ]
    clear hS0
    refine wpE_ready [1] (by kernel_rfl) (by simp) ?_
    intro i hi
    obtain rfl : i = 1 := by simpa using hi
    refine wpE_step rfl ?_
    intro K hK
    rw [if_pos (by rfl)]
    go_simp
    refine hK.out _ _ (HD1.out.below (hb1 _)).c0 ?_
    clear hK K
    try simp only [Act.put, List.setIfInBounds_toArray, List.set_cons_zero, List.set_cons_succ]
    refine wpE_ready [8] (by kernel_rfl) (by simp) ?_
    intro i hi
    obtain rfl : i = 8 := by simpa using hi
    refine wpE_step rfl ?_
    intro K hK
    refine step_app3 rfl (.tmp 14) (.tmp 20) rfl i0 hi0 hz0 hz1 hz2 w1.heap.size _ 0 0 [] rfl (owns3_empty (ra1 _ _) (Nat.le_refl _)) _ (pos n d.L) c (cells3 (d.L.take (pos n d.L))) rfl HL1.out (by intro h0; exact RAt.src (k := 0) (m := pos n d.L) (HD1.out.drew.alloc _) (by first | rfl | exact src_zero c A) (fun j u hj => by rw [Nat.zero_mul, Nat.zero_add]; exact cells3_take hj) h0 (by have := HLE.out; omega)) cells3_one (by have := HLE.out; omega) (hb1 _).size ?_
    intro g1 cap1 w2 hown2 hgrow2 hge2 hlt2
    rw [Nat.zero_add, List.nil_append] at hown2
    (try rw [Nat.zero_add])
    have HB2 := Aside0.mk (Below.grown (B := w1.heap.size) (a := w1) (hb1 _) hgrow2 (hb1 _).size (fun k e => by cases e; exact Nat.le_refl _))
    have HD2 := Aside0.mk (HD1.out.below HB2.out)
    have d0 := HD2.out.c0
    refine hK.out _ _ (HD1.out.below HB2.out).c0 ?_
    clear hK K
    try simp only [Act.put, List.setIfInBounds_toArray, List.set_cons_zero, List.set_cons_succ]
    refine wpE_ready [16] (by kernel_rfl) (by simp) ?_
    intro i hi
    obtain rfl : i = 16 := by simpa using hi
    refine wpE_step rfl ?_
    intro K hK
    refine step_app3 rfl (.tmp 21) (.tmp 28) rfl i0 hi0 hz0 hz1 hz2 w1.heap.size g1 _ cap1 _ rfl hown2 _ (d.L.length - (pos n d.L + 1)) _ (cells3 (d.L.drop (pos n d.L + 1))) rfl (by rw [cells3_length, List.length_drop]) (by intro h0; exact RAt.src (k := (pos n d.L + 1)) (m := d.L.length - (pos n d.L + 1)) HD2.out (by first | rfl | (simp; done)) (fun j u hj => by rw [← cells3_drop]; exact hj) h0 (by have := HLE.out; omega)) cells3_one (by have := HLE.out; omega) HB2.out.size ?_
    intro g3 cap3 w4 hown4 hgrow4 hge4 hlt4
    have HB4 := Aside0.mk (Below.grown (B := w1.heap.size) (a := w1) HB2.out hgrow4 HB2.out.size (fun k e => by cases e; exact hge2))
    have HD4 := Aside0.mk (HD1.out.below HB4.out)
    have f0 := HD4.out.c0
    have ff := HD4.out.fz 0
    refine hK.out _ _ (HD1.out.below HB4.out).c0 ?_
    clear hK K
    try simp only [Act.put, List.setIfInBounds_toArray, List.set_cons_zero, List.set_cons_succ]
    refine wpE_end (by kernel_rfl) ?_
    simp only [List.drop_succ_cons, List.drop_zero]
    go_wp2
    all_goals (
      go_end0
      refine ⟨some ⟨g3, 0, none⟩, cap3, rfl, ?_, ?_⟩
      · refine HD4.out.set0 (l := del n d.L) (by rw [HP.out, cells3_app]; exact hown4) (by rw [HP.out, List.length_append, List.length_take, List.length_drop]; have := HLE.out; omega) (by have := HQ.out; have := HB1.out.size; omega) _
      · exact ⟨((RT.below (HB1.out.trans (HB4.out.mono HB1.out.size))).set _ _).two, .inr (Nat.le_trans HB1.out.size hge4)⟩)
def rname (d : Dk) (n : Bs) : Bs := if d.gone = true then [] else if has n d.L = false then [] else n
theorem fv3_nf : fv3 (([] : Bs), (([] : Bs), (0 : Int))) = .agg #[.string ⟨#[]⟩, .string ⟨#[]⟩, .int .i64 0] := rfl
theorem row3f {W : World} {r : Nat} {x : Bs × File} (h : W.heap[r]? = some (boxObj x)) (i : Nat) : W.frozen? ⟨r, i, none⟩ = false := by simp [World.frozen?, h, boxObj]
theorem RAt.box3 {w : World} {q c : Nat} {A : Option Addr} {d : Dk} (h : RAt w q A c d) {r : Nat} (h1 : r ≠ q) (h2 : r ≠ rowB q A) (i j k : Nat) (u v x : Value) : RAt (((w.setCell ⟨r, i, none⟩ u).setCell ⟨r, j, none⟩ v).setCell ⟨r, k, none⟩ x) q A c d :=
  ((h.setOther h1 h2 u).setOther h1 h2 v).setOther h1 h2 x
theorem below3 {B r : Nat} {w W : World} (h : Below B w W) (hr : B ≤ r) (i j k : Nat) (u v x : Value) : Below B w (((W.setCell ⟨r, i, none⟩ u).setCell ⟨r, j, none⟩ v).setCell ⟨r, k, none⟩ x) :=
  ((h.setCell hr u).setCell hr v).setCell hr x
abbrev fileC (y : Bs × File) : Obj := .cells #[.string (mk y.1), .string (mk y.2.1), .int .i64 y.2.2] 74 (0, 0)
set_option maxHeartbeats 4000000 in
set_option maxRecDepth 100000 in
theorem rthere_calls {w : World} {q c : Nat} {A : Option Addr} {d : Dk} (hD : RAt w q A c d) (g : Good d) (n : Bs) :
    Calls Try.prog 51 #[.pointer (some ⟨q, 0, none⟩), .string (mk n)] w fun e w' => e = .returned (.tuple #[fv3 (rname d n, (there d n false).1), .int .i64 (there d n false).2.2]) ∧ RAt w' q A c d ∧ Below w.heap.size w w' := by
  have c3 := fun o => (hD.alloc o).c3
  have hne : q ≠ w.heap.size := by have := hD.lt; omega
  have HG := Aside0.mk g
  have HD := Aside0.mk hD
  by_cases h1 : d.gone = true
  · have e : there d n false = (([], 0), d, 11) := by unfold there; rw [if_pos h1]
    have e2 : rname d n = [] := by unfold rname; rw [if_pos h1]
    rw [e, e2, fv3_nf]
    rw [h1] at c3
    clear hD g h1 e e2
    go_enter Try.func51, Try.ntmps51
    go_wp2
    refine bodyPost_ret (v := .tuple #[.agg #[.string ⟨#[]⟩, .string ⟨#[]⟩, .int .i64 0], .int .i64 11]) (by rw [results_cell_tmp (p := 4) (u := 5) (ty := 74) rfl]; go_simp) rfl ?_
    exact ⟨rfl, HD.out.alloc _, (Below.refl _ w).alloc (Nat.le_refl _) _⟩
  have g0 : d.gone = false := by simpa using h1
  rw [g0] at c3
  by_cases h2 : has n d.L = false
  · have e : there d n false = (([], 0), d, 6) := by unfold there; rw [if_neg h1, if_pos h2]
    have e2 : rname d n = [] := by unfold rname; rw [if_neg h1, if_pos h2]
    rw [e, e2, fv3_nf]
    clear hD g h1 e e2 g0
    go_enter Try.func51, Try.ntmps51
    go_wp2_with (first
      | (go_at_call 56; refine (find_calls (HD.out.alloc _) HG.out n).mono ?_; rintro e w1 ⟨rfl, hD1, hb1⟩; rw [h2]; have HRW := Aside0.mk ((hb1.block _ (by simp)).trans (new_row w (fileC ([], [], 0)))); obtain ⟨x0, x1, x2⟩ := row3 (x := ([], [], 0)) HRW.out; have y0 := row3f (x := ([], [], 0)) HRW.out 0; have y1 := row3f (x := ([], [], 0)) HRW.out 1; have y2 := row3f (x := ([], [], 0)) HRW.out 2; have HD1 := Aside0.mk hD1; have HB1 := Aside0.mk (((Below.refl _ w).alloc (Nat.le_refl _) (fileC ([], [], 0))).trans (hb1.mono (by simp))); clear hD1 hb1)
      | go_in)
    refine bodyPost_ret (v := .tuple #[.agg #[.string ⟨#[]⟩, .string ⟨#[]⟩, .int .i64 0], .int .i64 6]) (by rw [results_cell_tmp (p := 4) (u := 5) (ty := 74) rfl]; go_simp) rfl ?_
    exact ⟨rfl, HD1.out.box3 (Ne.symm hne) (by have := HD.out.ltr; omega) _ _ _ _ _ _, below3 HB1.out (Nat.le_refl _) _ _ _ _ _ _⟩
  · have h2' : has n d.L = true := by simpa using h2
    obtain ⟨hat, hlt⟩ := has_at g.sorted h2'
    have e : there d n false = (get n d.L, d, 0) := by unfold there; rw [if_neg h1, if_neg h2]; rfl
    have e2 : rname d n = n := by unfold rname; rw [if_neg h1, if_neg h2]
    have q0 : (0 : Int) ≤ ((pos n d.L : Nat) : Int) := by omega
    have q1 : ((pos n d.L : Nat) : Int) < (d.L.length : Int) := by omega
    have HA := Aside0.mk hat
    have HLT := Aside0.mk hlt
    rw [e, e2]
    unfold fv3
    clear hD g h1 e e2 g0 h2 hat hlt
    go_enter Try.func51, Try.ntmps51
    go_wp2_with (first
      | (go_at_call 56; refine (find_calls (HD.out.alloc _) HG.out n).mono ?_; rintro e w1 ⟨rfl, hD1, hb1⟩; rw [h2']; have HRW := Aside0.mk ((hb1.block _ (by simp)).trans (new_row w (fileC ([], [], 0)))); obtain ⟨x0, x1, x2⟩ := row3 (x := ([], [], 0)) HRW.out; have y0 := row3f (x := ([], [], 0)) HRW.out 0; have y1 := row3f (x := ([], [], 0)) HRW.out 1; have y2 := row3f (x := ([], [], 0)) HRW.out 2; have s0 := hD1.c0; obtain ⟨r, off, y, rfl, hy, hrq, hrl, k0, k1, k2, -⟩ := hD1.at_ (pos n d.L) HLT.out; rw [HA.out] at hy; obtain rfl := Option.some.inj hy; clear hy; dsimp only at k0 k1 k2; have HD1 := Aside0.mk hD1; have HB1 := Aside0.mk (((Below.refl _ w).alloc (Nat.le_refl _) (fileC ([], [], 0))).trans (hb1.mono (by simp))); clear hD1 hb1)
      | go_in)
    refine bodyPost_ret (v := .tuple #[.agg #[.string (mk n), .string (mk (get n d.L).1), .int .i64 (get n d.L).2], .int .i64 0]) (by rw [results_cell_tmp (p := 4) (u := 5) (ty := 74) rfl]; go_simp) rfl ?_
    exact ⟨rfl, HD1.out.box3 (Ne.symm hne) (by have := HD.out.ltr; omega) _ _ _ _ _ _, below3 HB1.out (Nat.le_refl _) _ _ _ _ _ _⟩
set_option maxHeartbeats 4000000 in
set_option maxRecDepth 100000 in
theorem rread_calls {w : World} {q c : Nat} {A : Option Addr} {d : Dk} (hD : RAt w q A c d) (g : Good d) (n : Bs) :
    Calls Try.prog 43 #[.pointer (some ⟨q, 0, none⟩), .string (mk n)] w fun e w' => e = .returned (.tuple #[.string (mk (read d n).1), .int .i64 (read d n).2]) ∧ RAt w' q A c d ∧ Below w.heap.size w w' := by
  have e : read d n = ((there d n false).1.1, (there d n false).2.2) := rfl
  rw [e]
  have HG := Aside0.mk g
  have HD := Aside0.mk hD
  clear hD g e
  go_enter Try.func43, Try.ntmps43
  go_wp2_with (first
    | (go_at_call 51; refine (rthere_calls HD.out HG.out n).mono ?_; rintro e w1 ⟨rfl, hD1, hb1⟩; unfold fv3)
    | go_in)
  go_ret2
  exact ⟨rfl, hD1.alloc _, hb1.alloc hb1.size _⟩
theorem rlimit_calls {w : World} {q c : Nat} {A : Option Addr} {d : Dk} (hD : RAt w q A c d) (t : Int) :
    Calls Try.prog 39 #[.pointer (some ⟨q, 0, none⟩), .int .i64 t] w (ROut q A w (.tuple #[]) (limit d t)) := by
  have c2 := hD.c2
  have f2 := hD.fz 2
  have HD := Aside0.mk hD
  clear hD
  go_enter Try.func39, Try.ntmps39
  go_wp2
  go_end0
  exact ⟨A, c, rfl, HD.out.set2 _, RT.refl.set _ _⟩
end Go.Proofs.Ytdkmdicmipcifaa.Disk
