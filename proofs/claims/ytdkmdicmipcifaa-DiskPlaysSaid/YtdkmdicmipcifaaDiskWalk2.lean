import Derived.Test.YtdkmdicmipcifaaDiskWalk1
import Derived.Laws.ResultCell
namespace Go.Proofs.Ytdkmdicmipcifaa.Disk
open Go Go.RowKit Go.Maps Go.Proofs.YtdkmdicmipcifaaW.PrintWords Go.Proofs.YtdkmdicmipcifaaW.PrintLast Go.Proofs.YtdkmdicmipcifaaW.PrintMore
open Go.Proofs.Ytdkmdicmipcifaa.Pure (mk mk_size mk_app mk_toList mk_dataList wrap_in)
attribute [local go_sem] mk_size mk_app
def nf : File := ([], 0)
theorem fv_nf : fv nf = .agg #[.string ⟨#[]⟩, .int .i64 0] := rfl
set_option maxHeartbeats 4000000 in
set_option maxRecDepth 100000 in
theorem there_calls {w : World} {p b : Nat} {d : Dk} (hD : At w p b d) (g : Good d) (n : Bs) (hn : n.length ≤ maxLen) (t : Bool) :
    Calls Try.prog 28 #[.pointer (some ⟨p, 0, none⟩), .string (mk n), .bool t] w fun e w' => e = .returned (.tuple #[fv (there d n t).1, .int .i64 (there d n t).2.2]) ∧ At w' p b (there d n t).2.1 ∧ Two p b w w' := by
  have c0 := fun o => (hD.alloc o).c0
  have c4 := fun o o' => ((hD.alloc o).alloc o').c4
  have hne : p ≠ w.heap.size := by have := hD.lt; omega
  have hne1 : p ≠ w.heap.size + 1 := by have := hD.lt; omega
  have HNB := Aside0.mk (show w.heap.size ≠ b by have := hD.ltb; omega)
  have hu := Try.underlying56
  have HG := Aside0.mk g
  have HN := Aside0.mk hn
  have HD := Aside0.mk hD
  by_cases h1 : d.gone = true
  · have e : there d n t = (nf, d, 11) := by unfold there; rw [if_pos h1]; rfl
    rw [e, fv_nf]
    rw [h1] at c4
    clear hD g hn h1 e
    go_enter Try.func28, Try.ntmps28
    go_wp2_with (first
      | (at_lookup; refine op_look2 rfl _ _ rfl (HD.out.alloc _) rfl n rfl HN.out ?_; unfold fv)
      | go_in)
    (try simp only [Exit.inBlock, Exit.then])
    refine bodyPost_ret (v := .tuple #[.agg #[.string ⟨#[]⟩, .int .i64 0], .int .i64 11]) (by rw [results_cell_tmp (p := 6) (u := 7) (ty := 56) rfl]; go_simp) rfl ?_
    exact ⟨rfl, (HD.out.alloc _).alloc _, ((Two.refl p b w).alloc _).alloc _⟩
  · have g0 : d.gone = false := by simpa using h1
    rw [g0] at c4
    by_cases h2 : has n d.L = false
    · have e : there d n t = (nf, d, 6) := by unfold there; rw [if_neg h1, if_pos h2]; rfl
      rw [e, fv_nf]
      have b2 : (!has n d.L) = true := by rw [h2]; rfl
      clear hD g hn h1 e g0
      go_enter Try.func28, Try.ntmps28
      go_wp2_with (first
        | (at_lookup; refine op_look2 rfl _ _ rfl (HD.out.alloc _) rfl n rfl HN.out ?_; unfold fv)
        | go_in)
      (try simp only [Exit.inBlock, Exit.then])
      refine bodyPost_ret (v := .tuple #[.agg #[.string ⟨#[]⟩, .int .i64 0], .int .i64 6]) (by rw [results_cell_tmp (p := 6) (u := 7) (ty := 56) rfl]; go_simp) rfl ?_
      exact ⟨rfl, (HD.out.alloc _).alloc _, ((Two.refl p b w).alloc _).alloc _⟩
    · have h2' : has n d.L = true := by simpa using h2
      have b2 : (!has n d.L) = false := by rw [h2']; rfl
      cases t
      · have e : there d n false = (get n d.L, d, 0) := by unfold there; rw [if_neg h1, if_neg h2]; rfl
        rw [e]
        unfold fv
        clear hD g hn h1 e g0 h2
        go_enter Try.func28, Try.ntmps28
        go_wp2_with (first
          | (at_lookup; refine op_look2 rfl _ _ rfl (HD.out.alloc _) rfl n rfl HN.out ?_; unfold fv)
          | go_in)
        (try simp only [Exit.inBlock, Exit.then])
        refine bodyPost_ret (v := .tuple #[.agg #[.string (mk (get n d.L).1), .int .i64 (get n d.L).2], .int .i64 0]) (by rw [results_cell_tmp (p := 6) (u := 7) (ty := 56) rfl]; go_simp) rfl ?_
        exact ⟨rfl, (HD.out.alloc _).alloc _, ((Two.refl p b w).alloc _).alloc _⟩
      · have e : there d n true = (get n d.L, turn d) := by unfold there; rw [if_neg h1, if_neg h2, if_pos rfl]
        rw [e]
        unfold fv
        have hlb := hD.ltb
        clear hD g hn h1 e g0 h2
        go_enter Try.func28, Try.ntmps28
        go_wp2_with (first
          | (at_lookup; refine op_look2 rfl _ _ rfl (HD.out.alloc _) rfl n rfl HN.out ?_; unfold fv)
          | go_in)
        have hr0 := old_row (o := .cells #[.string (mk (get n d.L).1), .int .i64 (get n d.L).2] 56) (new_row w (.cells #[.string ⟨#[]⟩, .int .i64 0] 56))
        have hr1 := new_row (w.alloc (.cells #[.string ⟨#[]⟩, .int .i64 0] 56)) (.cells #[.string (mk (get n d.L).1), .int .i64 (get n d.L).2] 56)
        have hsz : (w.alloc (.cells #[.string ⟨#[]⟩, .int .i64 0] 56)).heap.size = w.heap.size + 1 := by simp
        rw [hsz] at hr1
        have hDz := (HD.out.alloc (.cells #[.string ⟨#[]⟩, .int .i64 0] 56)).alloc (.cells #[.string (mk (get n d.L).1), .int .i64 (get n d.L).2] 56)
        have htz := ((Two.refl p b w).alloc (.cells #[.string ⟨#[]⟩, .int .i64 0] 56)).alloc (.cells #[.string (mk (get n d.L).1), .int .i64 (get n d.L).2] 56)
        have hlp := hDz.lt
        generalize ((w.alloc (.cells #[.string ⟨#[]⟩, .int .i64 0] 56)).alloc (.cells #[.string (mk (get n d.L).1), .int .i64 (get n d.L).2] 56)) = W at *
        obtain ⟨x0, x1, y0, y1⟩ := row2 hr0
        obtain ⟨z0, z1, u0, u1⟩ := row2 hr1
        have HR0 := Aside0.mk hr0
        have HR1 := Aside0.mk hr1
        have HDZ := Aside0.mk hDz
        have HTZ := Aside0.mk htz
        have HNE := Aside0.mk (And.intro hne hne1)
        have HLB := Aside0.mk hlb
        clear hr0 hr1 hDz htz hsz hlp hne hne1 hlb c0 c4
        go_region_with (go_at_call 34; refine (turn_calls HDZ.out.drew HG.out).mono ?_; rintro e w1 ⟨rfl, hD1, ht1⟩; obtain ⟨a0, a1, a2, a3⟩ := row2 (ht1.row HR0.out (Ne.symm HNE.out.1) (by have := HLB.out; omega)); obtain ⟨b0, b1, b3, b4⟩ := row2 (ht1.row HR1.out (Ne.symm HNE.out.2) (by have := HLB.out; omega)))
        all_goals go_wp2
        all_goals (try simp only [Exit.inBlock, Exit.then])
        all_goals (refine bodyPost_ret (v := .tuple #[.agg #[.string (mk (get n d.L).1), .int .i64 (get n d.L).2], .int .i64 (turn d).2]) (by rw [results_cell_tmp (p := 6) (u := 7) (ty := 56) rfl]; go_simp) rfl ?_)
        all_goals exact ⟨rfl, (hD1.setOther (Ne.symm HNE.out.1) HNB.out _).setOther (Ne.symm HNE.out.1) HNB.out _, ((HTZ.out.drew.trans ht1).setNew (Nat.le_refl _) _).setNew (Nat.le_refl _) _⟩
end Go.Proofs.Ytdkmdicmipcifaa.Disk
