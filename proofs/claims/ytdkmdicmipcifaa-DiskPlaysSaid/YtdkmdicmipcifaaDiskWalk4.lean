import Derived.Test.YtdkmdicmipcifaaDiskWalk3
namespace Go.Proofs.Ytdkmdicmipcifaa.Disk
open Go Go.RowKit Go.Maps Go.Proofs.YtdkmdicmipcifaaW.PrintWords Go.Proofs.YtdkmdicmipcifaaW.PrintLast Go.Proofs.YtdkmdicmipcifaaW.PrintMore
open Go.Proofs.Ytdkmdicmipcifaa.Pure (mk mk_size mk_app mk_toList mk_dataList wrap_in)
attribute [local go_sem] mk_size mk_app
theorem there_len {d : Dk} (g : Good d) (n : Bs) (t : Bool) : (there d n t).1.1.length ≤ 10000000 := by
  have h := (get_safe (n := n) g).2.2
  have := g.fits
  have := g.room
  unfold there
  split; · simp
  split; · simp
  split
  · show (get n d.L).1.length ≤ _; omega
  · show (get n d.L).1.length ≤ _; omega
set_option maxHeartbeats 4000000 in
set_option maxRecDepth 100000 in
theorem sync_calls {w : World} {p b : Nat} {d : Dk} (hD : At w p b d) (g : Good d) (n : Bs) (hn : n.length ≤ maxLen) :
    Calls Try.prog 19 #[.pointer (some ⟨p, 0, none⟩), .string (mk n)] w fun e w' => e = .returned (.int .i64 (sync d n).2) ∧ At w' p b (sync d n).1 ∧ Two p b w w' := by
  have hu := Try.underlying56
  have HG1 := Aside0.mk (there_good g n true)
  have HL := Aside0.mk (there_len g n true)
  have HG := Aside0.mk g
  have HN := Aside0.mk hn
  have HD := Aside0.mk hD
  by_cases h : (there d n true).2.2 = 0
  · have e : sync d n = (putD (there d n true).2.1 n ((there d n true).1.1, (there d n true).1.1.length), 0) := by unfold sync; rw [if_pos h]
    rw [e]
    clear hD g hn e
    go_enter Try.func19, Try.ntmps19
    go_wp2_with (first
      | (go_at_call 33; refine (put_calls (HD1.out.alloc _) HG1.out n HN.out ((there d n true).1.1, ((there d n true).1.1.length : Int)) (by have := HL.out; show (there d n true).1.1.length ≤ _; omega)).mono ?_; rintro e w2 ⟨rfl, hD2, ht2⟩)
      | (go_at_call 28; refine (there_calls HD.out HG.out n HN.out true).mono ?_; rintro e w1 ⟨rfl, hD1, ht1⟩; rw [h]; have HD1 := Aside0.mk hD1; have HT1 := Aside0.mk ht1; clear hD1 ht1; unfold fv)
      | go_in)
    go_ret
    exact ⟨rfl, hD2, (HT1.out.alloc _).trans ht2⟩
  · have e : sync d n = (there d n true).2 := by unfold sync; rw [if_neg h]
    have b0 : ((there d n true).2.2 == 0) = false := by simpa using h
    rw [e]
    clear hD g hn e
    go_enter Try.func19, Try.ntmps19
    go_wp2_with (first
      | (go_at_call 28; refine (there_calls HD.out HG.out n HN.out true).mono ?_; rintro e w1 ⟨rfl, hD1, ht1⟩; unfold fv)
      | go_in)
    go_ret
    exact ⟨rfl, hD1.alloc _, ht1.alloc _⟩
theorem nameIs {w : World} {p b : Nat} {d : Dk} (h : At w p b d) : 1 ≤ w.heap.size := by have := h.lt; omega
set_option maxHeartbeats 4000000 in
set_option maxRecDepth 100000 in
theorem rename_calls {w : World} {p b : Nat} {d : Dk} (hD : At w p b d) (g : Good d) (n m : Bs) (hn : n.length ≤ maxLen) (hm : m.length ≤ 1000000000000000) :
    Calls Try.prog 27 #[.pointer (some ⟨p, 0, none⟩), .string (mk n), .string (mk m)] w fun e w' => e = .returned (.int .i64 (rename d n m).2) ∧ At w' p b (rename d n m).1 ∧ Two p b w w' := by
  have hu := Try.underlying56
  have e1 := there_file d n
  have HE := Aside0.mk e1
  have HG1 := Aside0.mk (there_good g n true)
  have HL := Aside0.mk (there_len g n true)
  have HG := Aside0.mk g
  have HN := Aside0.mk hn
  have HM := Aside0.mk hm
  have HD := Aside0.mk hD
  by_cases h0 : (there d n false).2.2 ≠ 0
  · have e : rename d n m = (d, (there d n false).2.2) := by unfold rename; rw [if_pos h0]
    have b0 : ((there d n false).2.2 == 0) = false := by simpa using h0
    have b1 : ((there d n false).2.2 != 0) = true := by simpa using h0
    rw [e]
    clear hD g hn e e1 hm
    go_enter Try.func27, Try.ntmps27
    go_wp2_with (first
      | (go_at_call 28; refine (there_calls HD.out HG.out n HN.out false).mono ?_; rintro e w1 ⟨rfl, hD1, ht1⟩; unfold fv)
      | go_in)
    go_ret
    rw [HE.out] at hD1
    exact ⟨rfl, hD1.alloc _, ht1.alloc _⟩
  have z0 : (there d n false).2.2 = 0 := by simpa using h0
  by_cases h1 : nameOk m = false
  · have e : rename d n m = (d, 3) := by unfold rename; rw [if_neg h0, if_pos h1]
    have b0 : (!nameOk m) = true := by rw [h1]; rfl
    rw [e]
    clear hD g hn e e1 h0 hm
    go_enter Try.func27, Try.ntmps27
    go_wp2_with (first
      | (go_at_call 31; refine (isName_calls m (by have := HM.out; omega) _ (nameIs (HD1.out.alloc _))).mono ?_; rintro e w2 ⟨rfl, hb2⟩)
      | (go_at_call 28; refine (there_calls HD.out HG.out n HN.out false).mono ?_; rintro e w1 ⟨rfl, hD1, ht1⟩; rw [z0]; rw [HE.out] at hD1; have HD1 := Aside0.mk hD1; have HT1 := Aside0.mk ht1; clear hD1 ht1; unfold fv)
      | go_in)
    go_ret
    exact ⟨rfl, (HD1.out.alloc _).below hb2, (HT1.out.alloc _).trans (Two.below hb2)⟩
  have z1 : nameOk m = true := by simpa using h1
  have b1 : (!nameOk m) = false := by rw [z1]; rfl
  by_cases h2 : (there d n true).2.2 = 0
  · have e : rename d n m = (putD (outD (there d n true).2.1 n) m (there d n true).1, 0) := by unfold rename; rw [if_neg h0, if_neg h1, if_pos h2]
    rw [e]
    clear hD g hn e e1 h0 h1 hm
    go_enter Try.func27, Try.ntmps27
    go_wp2_with (first
      | (go_at_call 33; refine (put_calls HD4.out (good_out HG1.out) m (by have := HM.out; unfold maxLen; omega) (there d n true).1 (by have := HL.out; omega)).mono ?_; rintro e w5 ⟨rfl, hD5, ht5⟩)
      | (go_at_call 44; refine (out_calls (HD3.out.alloc _) HG1.out n HN.out).mono ?_; rintro e w4 ⟨rfl, hD4, ht4⟩; obtain ⟨k0, k1, -, -⟩ := row2 (ht4.row (new_row _ _) (by have := HD3.out.lt; omega) (by have := HD3.out.ltb; omega)); have HD4 := Aside0.mk hD4; have HT4 := Aside0.mk ht4; clear hD4 ht4)
      | (go_at_call 28; refine (there_calls HD2.out HG.out n HN.out true).mono ?_; rintro e w3 ⟨rfl, hD3, ht3⟩; rw [h2]; have HD3 := Aside0.mk hD3; have HT3 := Aside0.mk ht3; clear hD3 ht3; unfold fv)
      | (go_at_call 31; refine (isName_calls m (by have := HM.out; omega) _ (nameIs (HD1.out.alloc _))).mono ?_; rintro e w2 ⟨rfl, hb2⟩; have HD2 := Aside0.mk ((HD1.out.alloc _).below hb2); have HT2 := Aside0.mk ((HT1.out.alloc _).trans (Two.below hb2)); clear hb2)
      | (go_at_call 28; refine (there_calls HD.out HG.out n HN.out false).mono ?_; rintro e w1 ⟨rfl, hD1, ht1⟩; rw [z0]; rw [HE.out] at hD1; have HD1 := Aside0.mk hD1; have HT1 := Aside0.mk ht1; clear hD1 ht1; unfold fv)
      | go_in)
    go_ret
    exact ⟨rfl, hD5, ((HT2.out.trans (HT3.out.alloc _)).trans HT4.out).trans ht5⟩
  · have e : rename d n m = (there d n true).2 := by unfold rename; rw [if_neg h0, if_neg h1, if_neg h2]
    have b2 : ((there d n true).2.2 == 0) = false := by simpa using h2
    rw [e]
    clear hD g hn e e1 h0 h1 hm
    go_enter Try.func27, Try.ntmps27
    go_wp2_with (first
      | (go_at_call 28; refine (there_calls HD2.out HG.out n HN.out true).mono ?_; rintro e w3 ⟨rfl, hD3, ht3⟩; unfold fv)
      | (go_at_call 31; refine (isName_calls m (by have := HM.out; omega) _ (nameIs (HD1.out.alloc _))).mono ?_; rintro e w2 ⟨rfl, hb2⟩; have HD2 := Aside0.mk ((HD1.out.alloc _).below hb2); have HT2 := Aside0.mk ((HT1.out.alloc _).trans (Two.below hb2)); clear hb2)
      | (go_at_call 28; refine (there_calls HD.out HG.out n HN.out false).mono ?_; rintro e w1 ⟨rfl, hD1, ht1⟩; rw [z0]; rw [HE.out] at hD1; have HD1 := Aside0.mk hD1; have HT1 := Aside0.mk ht1; clear hD1 ht1; unfold fv)
      | go_in)
    go_ret
    exact ⟨rfl, hD3.alloc _, HT2.out.trans (ht3.alloc _)⟩
end Go.Proofs.Ytdkmdicmipcifaa.Disk
