import Derived.Test.YtdkmdicmipcifaaRefWalk3
namespace Go.Proofs.Ytdkmdicmipcifaa.Disk
open Go Go.RowKit Go.Maps Go.Proofs.YtdkmdicmipcifaaW.PrintWords Go.Proofs.YtdkmdicmipcifaaW.PrintLast Go.Proofs.YtdkmdicmipcifaaW.PrintMore
open Go.Proofs.Ytdkmdicmipcifaa.Pure (mk mk_size mk_app mk_toList mk_dataList wrap_in)
attribute [local go_sem] mk_size mk_app mk_toList
theorem there_no {d : Dk} {n : Bs} (h : (there d n false).2.2 ≠ 0) : there d n true = (([], 0), d, (there d n false).2.2) := by
  unfold there at *
  split
  · rfl
  · split
    · rfl
    · rename_i h1 h2; rw [if_neg h1, if_neg h2] at h; exact absurd rfl h
theorem there_yes {d : Dk} {n : Bs} (h : (there d n false).2.2 = 0) : there d n true = (get n d.L, turn d) ∧ (there d n false).1 = get n d.L ∧ rname d n = n ∧ has n d.L = true ∧ d.gone = false := by
  by_cases h1 : d.gone = true
  · unfold there at h; rw [if_pos h1] at h; cases h
  by_cases h2 : has n d.L = false
  · unfold there at h; rw [if_neg h1, if_pos h2] at h; cases h
  refine ⟨?_, ?_, ?_, by simpa using h2, by simpa using h1⟩
  · unfold there; rw [if_neg h1, if_neg h2, if_pos rfl]
  · unfold there; rw [if_neg h1, if_neg h2]; rfl
  · unfold rname; rw [if_neg h1, if_neg h2]
theorem RAt.rowNe {w : World} {q c : Nat} {A : Option Addr} {d : Dk} (h : RAt w q A c d) {r : Nat} (hr : w.heap.size ≤ r) : r ≠ q ∧ r ≠ rowB q A := by
  have := h.lt; have := h.ltr; omega
theorem RT.nrow {q r : Nat} {A A' : Option Addr} {w w' : World} (h : RT q A A' w w') (h2 : r ≠ rowB q A) (hr : r < w.heap.size) : r ≠ rowB q A' := by
  rcases h.nx with e | e
  · rw [e]; exact h2
  · omega
set_option maxHeartbeats 4000000 in
set_option maxRecDepth 100000 in
theorem rremove_calls {w : World} {q c : Nat} {A : Option Addr} {d : Dk} (hD : RAt w q A c d) (g : Good d) (n : Bs) :
    Calls Try.prog 37 #[.pointer (some ⟨q, 0, none⟩), .string (mk n)] w (ROut q A w (.int .i64 (remove d n).2) (remove d n).1) := by
  have HG := Aside0.mk g
  have HD := Aside0.mk hD
  by_cases h : (there d n false).2.2 = 0
  · have hy := there_yes h
    by_cases h1 : (turn d).2 = 0
    · have e : remove d n = (outD (turn d).1 n, 0) := by unfold remove; rw [hy.1, if_pos h1]
      rw [e]
      have HG1 := Aside0.mk (good_turn g)
      clear hD g hy e
      go_enter Try.func37, Try.ntmps37
      go_wp2_with (first
        | (go_at_call 55; refine (rout_calls HD2.out HG1.out n).mono ?_; rintro e w3 ⟨A', c', rfl, hD3, ht3⟩)
        | (go_at_call 52; refine (rturn_calls (HD1.out.alloc _) HG.out).mono ?_; rintro e w2 ⟨rfl, hD2, ht2⟩; rw [h1]; have HD2 := Aside0.mk hD2; have HT2 := Aside0.mk ((HT1.out.alloc _).trans ht2); clear hD2 ht2)
        | (go_at_call 51; refine (rthere_calls HD.out HG.out n).mono ?_; rintro e w1 ⟨rfl, hD1, hb1⟩; rw [h]; unfold fv3; have HD1 := Aside0.mk hD1; have HT1 := Aside0.mk (RT.below (q := q) (A := A) hb1); clear hD1 hb1)
        | go_in)
      go_ret
      exact ⟨A', c', rfl, hD3, HT2.out.trans ht3⟩
    · have e : remove d n = turn d := by unfold remove; rw [hy.1, if_neg h1]
      rw [e]
      have b1 : ((turn d).2 == 0) = false := by simpa using h1
      clear hD g hy e h1
      go_enter Try.func37, Try.ntmps37
      go_wp2_with (first
        | (go_at_call 52; refine (rturn_calls (HD1.out.alloc _) HG.out).mono ?_; rintro e w2 ⟨rfl, hD2, ht2⟩; have HD2 := Aside0.mk hD2; have HT2 := Aside0.mk ((HT1.out.alloc _).trans ht2); clear hD2 ht2)
        | (go_at_call 51; refine (rthere_calls HD.out HG.out n).mono ?_; rintro e w1 ⟨rfl, hD1, hb1⟩; rw [h]; unfold fv3; have HD1 := Aside0.mk hD1; have HT1 := Aside0.mk (RT.below (q := q) (A := A) hb1); clear hD1 hb1)
        | go_in)
      go_ret
      exact ⟨A, c, rfl, HD2.out, HT2.out⟩
  · have e : remove d n = (d, (there d n false).2.2) := by unfold remove; rw [there_no h]; exact if_neg h
    rw [e]
    have b1 : ((there d n false).2.2 == 0) = false := by simpa using h
    clear hD g e h
    go_enter Try.func37, Try.ntmps37
    go_wp2_with (first
      | (go_at_call 51; refine (rthere_calls HD.out HG.out n).mono ?_; rintro e w1 ⟨rfl, hD1, hb1⟩; unfold fv3; have HD1 := Aside0.mk hD1; have HT1 := Aside0.mk (RT.below (q := q) (A := A) hb1); clear hD1 hb1)
      | go_in)
    go_ret
    exact ⟨A, c, rfl, HD1.out.alloc _, HT1.out.alloc _⟩
set_option maxHeartbeats 4000000 in
set_option maxRecDepth 100000 in
theorem rsync_calls {w : World} {q c : Nat} {A : Option Addr} {d : Dk} (hD : RAt w q A c d) (g : Good d) (n : Bs) :
    Calls Try.prog 35 #[.pointer (some ⟨q, 0, none⟩), .string (mk n)] w (ROut q A w (.int .i64 (sync d n).2) (sync d n).1) := by
  have HG := Aside0.mk g
  have HD := Aside0.mk hD
  by_cases h : (there d n false).2.2 = 0
  · have hy := there_yes h
    by_cases h1 : (turn d).2 = 0
    · have e : sync d n = (putD (turn d).1 n ((get n d.L).1, ((get n d.L).1.length : Int)), 0) := by unfold sync; rw [hy.1, if_pos h1]
      rw [e]
      have HG1 := Aside0.mk (good_turn g)
      have HY := Aside0.mk hy
      clear hD g hy e
      go_enter Try.func35, Try.ntmps35
      go_wp2_with (first
        | (go_at_call 53; refine (rput_calls (HD2.out.setOther HNE.out.1 HNE.out.2 _) HG1.out (n, ((get n d.L).1, ((get n d.L).1.length : Int)))).mono ?_; rintro e w3 ⟨A', c', rfl, hD3, ht3⟩)
        | (go_at_call 52; refine (rturn_calls (HD1.out.alloc _) HG.out).mono ?_; rintro e w2 ⟨rfl, hD2, ht2⟩; rw [h1]; have HRW := Aside0.mk (ht2.row (new_row w1 (boxObj (n, get n d.L))) HNE.out.1 HNE.out.2); obtain ⟨x0, x1, x2⟩ := row3 (x := (n, get n d.L)) HRW.out; have y2 := row3f (x := (n, get n d.L)) HRW.out 2; have HD2 := Aside0.mk hD2; have HT2 := Aside0.mk ((HT1.out.alloc _).trans ht2); clear hD2 ht2)
        | (go_at_call 51; refine (rthere_calls HD.out HG.out n).mono ?_; rintro e w1 ⟨rfl, hD1, hb1⟩; rw [h, HY.out.2.1, HY.out.2.2.1]; unfold fv3; have HNE := Aside0.mk (hD1.rowNe (Nat.le_refl _)); have HS := Aside0.mk hb1.size; have HD1 := Aside0.mk hD1; have HT1 := Aside0.mk (RT.below (q := q) (A := A) hb1); clear hD1 hb1)
        | go_in)
      go_ret
      exact ⟨A', c', rfl, hD3, (HT2.out.setNew HS.out _).trans ht3⟩
    · have e : sync d n = turn d := by unfold sync; rw [hy.1, if_neg h1]
      rw [e]
      have b1 : ((turn d).2 == 0) = false := by simpa using h1
      have b2 : ((turn d).2 != 0) = true := by simpa using h1
      clear hD g hy e h1
      go_enter Try.func35, Try.ntmps35
      go_wp2_with (first
        | (go_at_call 52; refine (rturn_calls (HD1.out.alloc _) HG.out).mono ?_; rintro e w2 ⟨rfl, hD2, ht2⟩; have HD2 := Aside0.mk hD2; have HT2 := Aside0.mk ((HT1.out.alloc _).trans ht2); clear hD2 ht2)
        | (go_at_call 51; refine (rthere_calls HD.out HG.out n).mono ?_; rintro e w1 ⟨rfl, hD1, hb1⟩; rw [h]; unfold fv3; have HD1 := Aside0.mk hD1; have HT1 := Aside0.mk (RT.below (q := q) (A := A) hb1); clear hD1 hb1)
        | go_in)
      go_ret
      exact ⟨A, c, rfl, HD2.out, HT2.out⟩
  · have e : sync d n = (d, (there d n false).2.2) := by unfold sync; rw [there_no h]; exact if_neg h
    rw [e]
    have b1 : ((there d n false).2.2 == 0) = false := by simpa using h
    have b2 : ((there d n false).2.2 != 0) = true := by simpa using h
    clear hD g e h
    go_enter Try.func35, Try.ntmps35
    go_wp2_with (first
      | (go_at_call 51; refine (rthere_calls HD.out HG.out n).mono ?_; rintro e w1 ⟨rfl, hD1, hb1⟩; unfold fv3; have HD1 := Aside0.mk hD1; have HT1 := Aside0.mk (RT.below (q := q) (A := A) hb1); clear hD1 hb1)
      | go_in)
    go_ret
    exact ⟨A, c, rfl, HD1.out.alloc _, HT1.out.alloc _⟩
set_option maxHeartbeats 4000000 in
set_option maxRecDepth 100000 in
theorem rrename_calls {w : World} {q c : Nat} {A : Option Addr} {d : Dk} (hD : RAt w q A c d) (g : Good d) (n m : Bs) (hm : m.length < 4611686018427387904) :
    Calls Try.prog 36 #[.pointer (some ⟨q, 0, none⟩), .string (mk n), .string (mk m)] w (ROut q A w (.int .i64 (rename d n m).2) (rename d n m).1) := by
  have HG := Aside0.mk g
  have HM := Aside0.mk hm
  have HD := Aside0.mk hD
  have HZ := Aside0.mk (show ∀ W, RAt W q A c d → 1 ≤ (W.alloc (boxObj (n, get n d.L))).heap.size from fun W h => by simp)
  by_cases h : (there d n false).2.2 = 0
  · have hy := there_yes h
    by_cases h2 : nameOk m = false
    · have e : rename d n m = (d, 3) := by unfold rename; rw [if_neg (by simp [h]), if_pos h2]
      rw [e]
      have b1 : (!nameOk m) = true := by rw [h2]; rfl
      have HY := Aside0.mk hy
      clear hD g hy e hm
      go_enter Try.func36, Try.ntmps36
      go_wp2_with (first
        | (go_at_call 54; refine (refName_calls m HM.out _ (HZ.out _ HD1.out)).mono ?_; rintro e w2 ⟨rfl, hb2⟩)
        | (go_at_call 51; refine (rthere_calls HD.out HG.out n).mono ?_; rintro e w1 ⟨rfl, hD1, hb1⟩; rw [h, HY.out.2.1, HY.out.2.2.1]; unfold fv3; have HD1 := Aside0.mk hD1; have HT1 := Aside0.mk (RT.below (q := q) (A := A) hb1); clear hD1 hb1)
        | go_in)
      go_ret
      exact ⟨A, c, rfl, (HD1.out.alloc _).below hb2, (HT1.out.alloc _).trans (RT.below hb2)⟩
    have z2 : nameOk m = true := by simpa using h2
    have b2 : (!nameOk m) = false := by rw [z2]; rfl
    by_cases h1 : (turn d).2 = 0
    · have e : rename d n m = (putD (outD (turn d).1 n) m (get n d.L), 0) := by unfold rename; rw [if_neg (by simp [h]), if_neg h2, hy.1, if_pos h1]
      rw [e]
      have HG1 := Aside0.mk (good_turn g)
      have HG2 := Aside0.mk (good_out (n := n) (good_turn g))
      have HY := Aside0.mk hy
      clear hD g hy e hm h2
      go_enter Try.func36, Try.ntmps36
      go_wp2_with (first
        | (go_at_call 53; refine (rput_calls (HD4.out.setOther HNE4.out.1 HNE4.out.2 _) HG2.out (m, get n d.L)).mono ?_; rintro e w5 ⟨A', c', rfl, hD5, ht5⟩)
        | (go_at_call 55; refine (rout_calls HD3.out HG1.out n).mono ?_; rintro e w4 ⟨A4, c4, rfl, hD4, ht4⟩; have HRX := Aside0.mk (ht4.row HRW.out HNE.out.1 HNE.out.2); obtain ⟨x0, x1, x2⟩ := row3 (x := (n, get n d.L)) HRX.out; have y0 := row3f (x := (n, get n d.L)) HRX.out 0; have HNE4 := Aside0.mk (show w1.heap.size ≠ q ∧ w1.heap.size ≠ rowB q A4 from ⟨HNE.out.1, RT.nrow ht4 HNE.out.2 (Array.getElem?_eq_some_iff.1 HRW.out).1⟩); have HD4 := Aside0.mk hD4; have HT4 := Aside0.mk (HT3.out.trans ht4); clear hD4 ht4)
        | (go_at_call 52; refine (rturn_calls HD2.out HG.out).mono ?_; rintro e w3 ⟨rfl, hD3, ht3⟩; rw [h1]; have HRW := Aside0.mk (ht3.row HR2.out HNE.out.1 HNE.out.2); have HD3 := Aside0.mk hD3; have HT3 := Aside0.mk (HT2.out.trans ht3); clear hD3 ht3)
        | (go_at_call 54; refine (refName_calls m HM.out _ (HZ.out _ HD1.out)).mono ?_; rintro e w2 ⟨rfl, hb2⟩; have HR2 := Aside0.mk ((RT.below (q := q) (A := A) hb2).row (new_row w1 (boxObj (n, get n d.L))) HNE.out.1 HNE.out.2); have HD2 := Aside0.mk ((HD1.out.alloc _).below hb2); have HT2 := Aside0.mk ((HT1.out.alloc _).trans (RT.below hb2)); clear hb2)
        | (go_at_call 51; refine (rthere_calls HD.out HG.out n).mono ?_; rintro e w1 ⟨rfl, hD1, hb1⟩; rw [h, HY.out.2.1, HY.out.2.2.1]; unfold fv3; have HNE := Aside0.mk (hD1.rowNe (Nat.le_refl _)); have HS := Aside0.mk hb1.size; have HD1 := Aside0.mk hD1; have HT1 := Aside0.mk (RT.below (q := q) (A := A) hb1); clear hD1 hb1)
        | go_in)
      go_ret
      exact ⟨A', c', rfl, hD5, (HT4.out.setNew HS.out _).trans ht5⟩
    · have e : rename d n m = turn d := by unfold rename; rw [if_neg (by simp [h]), if_neg h2, hy.1, if_neg h1]
      rw [e]
      have b3 : ((turn d).2 == 0) = false := by simpa using h1
      have b4 : ((turn d).2 != 0) = true := by simpa using h1
      have HY := Aside0.mk hy
      clear hD g hy e hm h2 h1
      go_enter Try.func36, Try.ntmps36
      go_wp2_with (first
        | (go_at_call 52; refine (rturn_calls HD2.out HG.out).mono ?_; rintro e w3 ⟨rfl, hD3, ht3⟩; have HD3 := Aside0.mk hD3; have HT3 := Aside0.mk (HT2.out.trans ht3); clear hD3 ht3)
        | (go_at_call 54; refine (refName_calls m HM.out _ (HZ.out _ HD1.out)).mono ?_; rintro e w2 ⟨rfl, hb2⟩; have HD2 := Aside0.mk ((HD1.out.alloc _).below hb2); have HT2 := Aside0.mk ((HT1.out.alloc _).trans (RT.below hb2)); clear hb2)
        | (go_at_call 51; refine (rthere_calls HD.out HG.out n).mono ?_; rintro e w1 ⟨rfl, hD1, hb1⟩; rw [h, HY.out.2.1, HY.out.2.2.1]; unfold fv3; have HD1 := Aside0.mk hD1; have HT1 := Aside0.mk (RT.below (q := q) (A := A) hb1); clear hD1 hb1)
        | go_in)
      go_ret
      exact ⟨A, c, rfl, HD3.out, HT3.out⟩
  · have e : rename d n m = (d, (there d n false).2.2) := by unfold rename; rw [if_pos h]
    rw [e]
    have b1 : ((there d n false).2.2 == 0) = false := by simpa using h
    have b2 : ((there d n false).2.2 != 0) = true := by simpa using h
    have HZ2 := Aside0.mk (show ∀ (W : World) (o : Obj), 1 ≤ (W.alloc o).heap.size from fun W o => by simp)
    clear hD g e h hm
    go_enter Try.func36, Try.ntmps36
    go_wp2_with (first
      | (go_at_call 54; refine (refName_calls m HM.out _ (HZ2.out _ _)).mono ?_; rintro e w2 ⟨rfl, hb2⟩)
      | (go_at_call 51; refine (rthere_calls HD.out HG.out n).mono ?_; rintro e w1 ⟨rfl, hD1, hb1⟩; unfold fv3; have HD1 := Aside0.mk hD1; have HT1 := Aside0.mk (RT.below (q := q) (A := A) hb1); clear hD1 hb1)
      | go_in)
    go_ret
    exact ⟨A, c, rfl, (HD1.out.alloc _).below hb2, (HT1.out.alloc _).trans (RT.below hb2)⟩
end Go.Proofs.Ytdkmdicmipcifaa.Disk
