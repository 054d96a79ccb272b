import Derived.Test.YtdkmdicmipcifaaDiskShown
import Derived.Test.YtdkmdicmipcifaaDiskTurnsLaw
namespace Go.Proofs.Ytdkmdicmipcifaa.Disk
open Go Go.RowKit Go.Maps Go.Proofs.YtdkmdicmipcifaaW.PrintWords Go.Proofs.YtdkmdicmipcifaaW.PrintLast Go.Proofs.YtdkmdicmipcifaaW.PrintMore
open Go.Proofs.Ytdkmdicmipcifaa.Pure (mk mk_size mk_app mk_toList mk_dataList mk_ext_from wrap_in)
attribute [local go_sem] mk_size mk_app mk_toList
theorem wf_rng {a : Int} (h : (Lit.int .i64 a).wf = true) : -9223372036854775808 ≤ a ∧ a ≤ 9223372036854775807 := by
  have h1 : IntKind.i64.min = -9223372036854775808 := by decide
  have h2 : IntKind.i64.max = 9223372036854775807 := by decide
  simp [Lit.wf] at h
  omega
theorem pickV_rng (c n : Int) (hn : 0 < n) : ∃ k : Nat, pickV c n = k ∧ (k : Int) < n := by
  have h : ∀ x : Int, 0 ≤ x → ∃ k : Nat, Int.tmod x n = k ∧ (k : Int) < n := fun x hx => by
    have h1 := Int.tmod_nonneg n hx
    have h2 := Int.tmod_lt_of_pos x hn
    exact ⟨(Int.tmod x n).toNat, by omega, by omega⟩
  unfold pickV
  split
  · exact h _ (by omega)
  · exact h _ (by omega)
theorem sync_used (d : Dk) (n : Bs) : (sync d n).1.used = d.used := by
  unfold sync
  split
  · rename_i h
    obtain ⟨h1, h2, h3, h4⟩ := there_true h
    rw [h4]
    show d.used + (((get n d.L).1.length : Int) - (get n d.L).1.length) = _
    omega
  · unfold there
    split; · rfl
    split; · rfl
    exact (turn_L d).2.1
set_option maxHeartbeats 8000000 in
set_option maxRecDepth 100000 in
theorem turns_walk (a0 a1 : Int) (w0 : (Lit.int .i64 a0).wf = true) (w1 : (Lit.int .i64 a1).wf = true) (w : World) :
    Calls Try.prog 7 #[.int .i64 a0, .int .i64 a1] w fun e w' => e = .returned (.bool true) ∧ Below w.heap.size w w' := by
  obtain ⟨n, hn, hn1⟩ := pickV_rng a0 60 (by decide)
  obtain ⟨c, hc, hc1⟩ := pickV_rng a1 80 (by decide)
  have HW0 := Aside0.mk (wf_rng w0)
  have HW1 := Aside0.mk (wf_rng w1)
  have HNN := Aside0.mk hn
  have HCC := Aside0.mk hc
  have HN1 := Aside0.mk hn1
  have HC1 := Aside0.mk hc1
  clear w0 w1 hn hc hn1 hc1
  go_enter Try.func7, Try.ntmps7
  go_wp2_with (first
    | (go_at_call 14; refine (limit_calls HD1.out n).mono ?_; rintro e w3 ⟨rfl, hD, ht⟩; have HD2 := Aside0.mk hD; have HT2 := Aside0.mk ht; clear hD ht)
    | (go_at_call 15; refine (pick_calls a0 60 HW0.out.1 HW0.out.2 (by decide)).mono ?_; rintro e w2 ⟨rfl, rfl⟩; rw [HNN.out])
    | (go_at_call 21; refine (new_calls 1000 (by decide) (by decide)).mono ?_; rintro e w1 ⟨rfl, hD, hb⟩; have HD1 := Aside0.mk hD; have HB1 := Aside0.mk hb; clear hD hb)
    | (go_at_call 9; refine (shown_calls _).mono ?_; rintro e ws ⟨rfl, hb⟩; have HBs := Aside0.mk hb; clear hb)
    | go_in)
  have HDn := Aside0.mk (show At w3 (ws.heap.size + 1) ws.heap.size (tD n 0) from by rw [← tD_new n (by have := HN1.out; omega)]; exact HD2.out)
  go_loopw [9] (fun v9 wr => ∃ (i : Nat), v9 = .int .i64 i ∧ Aside0 (i ≤ c) ∧ Aside0 (At wr (ws.heap.size + 1) ws.heap.size (tD n i)) ∧ Aside0 (Two (ws.heap.size + 1) ws.heap.size w2 wr)) (fun i _ => c - (intOf i).toNat)
  case atStart => exact ⟨0, rfl, ⟨Nat.zero_le _⟩, HDn, HT2⟩
  case round =>
    obtain ⟨i, rfl, HI, HDi, HTi⟩ := hrel
    have bw : wrap64 ((i : Int) + 1) = ((i + 1 : Nat) : Int) := by have := HI.out; have := HC1.out; rw [w64 (by omega) (by omega)]; rfl
    by_cases hi : i < c
    · have b0 : decide ((i : Int) < (c : Int)) = true := decide_eq_true (by omega)
      obtain ⟨t1, t2⟩ := tD_step n i (by have := HN1.out; omega) (by have := HC1.out; omega)
      have HT1 := Aside0.mk t1
      have HT3 := Aside0.mk t2
      by_cases hn : i < n
      · have b1 : decide ((i : Int) < (n : Int)) = true := decide_eq_true (by omega)
        have b2 : decide ((i : Int) ≥ (n : Int)) = false := decide_eq_false (by omega)
        have t3 : (tD n (i + 1)).gone = false := by rw [t2]; exact decide_eq_false (by omega)
        have HT4 := Aside0.mk t3
        clear t1 t2 t3
        go_wp2_with (first
          | (go_at_call 25; (try (refine gate_guard (by rfl) ?_; dsimp only)); refine (dead_calls HD5.out).mono ?_; rintro e w5 ⟨rfl, rfl⟩; rw [HT4.out])
          | (go_at_call 18; refine (append_calls HDi.out (tD_good n i (by have := HN1.out; omega)) [97] [120] (by decide) (by decide)).mono ?_; rintro e w4 ⟨rfl, hD, ht⟩; rw [HT1.out] at hD ⊢; rw [if_pos hn]; have HD5 := Aside0.mk hD; have HT5 := Aside0.mk (HTi.out.trans ht); clear hD ht)
          | (go_at_call 15; refine (pick_calls a1 80 HW1.out.1 HW1.out.2 (by decide)).mono ?_; rintro e w2 ⟨rfl, rfl⟩; rw [HCC.out])
          | go_in)
        exact ⟨⟨i + 1, by rw [bw], ⟨hi⟩, HD5, HT5⟩, by rw [bw]; simp only [intOf]; omega⟩
      · have b1 : decide ((i : Int) < (n : Int)) = false := decide_eq_false (by omega)
        have b2 : decide ((i : Int) ≥ (n : Int)) = true := decide_eq_true (by omega)
        have t3 : (tD n (i + 1)).gone = true := by rw [t2]; exact decide_eq_true (by omega)
        have b3 : (n : Int) ≤ (i : Int) := by omega
        have b4 : decide ((n : Int) ≤ (i : Int)) = true := decide_eq_true b3
        have HT4 := Aside0.mk t3
        clear t1 t2 t3
        go_wp2_with (first
          | (go_at_call 25; (try (refine gate_guard (by rfl) ?_; dsimp only)); refine (dead_calls HD5.out).mono ?_; rintro e w5 ⟨rfl, rfl⟩; rw [HT4.out])
          | (go_at_call 18; refine (append_calls HDi.out (tD_good n i (by have := HN1.out; omega)) [97] [120] (by decide) (by decide)).mono ?_; rintro e w4 ⟨rfl, hD, ht⟩; rw [HT1.out] at hD ⊢; rw [if_neg hn]; have HD5 := Aside0.mk hD; have HT5 := Aside0.mk (HTi.out.trans ht); clear hD ht)
          | (go_at_call 15; refine (pick_calls a1 80 HW1.out.1 HW1.out.2 (by decide)).mono ?_; rintro e w2 ⟨rfl, rfl⟩; rw [HCC.out])
          | go_in)
        exact ⟨⟨i + 1, by rw [bw], ⟨hi⟩, HD5, HT5⟩, by rw [bw]; simp only [intOf]; omega⟩
    · obtain rfl : i = c := by have := HI.out; omega
      have b0 : decide ((i : Int) < (i : Int)) = false := decide_eq_false (by omega)
      obtain ⟨u1, u2⟩ := tD_end n i
      have u3 := sync_used (tD n i) [97]
      have HU1 := Aside0.mk u1
      have HU3 := Aside0.mk u3
      have bE : ((sync (tD n i) [97]).2 == 0) = (decide ((tD n i).used > 0) && decide (i < n)) := by rw [← u2]; rfl
      have bm : ((min (n : Int) (i : Int)) == min (n : Int) (i : Int)) = true := by simp
      have q : ((sync (tD n i) [97]).2 == 0) = (decide (min (n : Int) (i : Int) > 0) && decide ((i : Int) < (n : Int))) := by rw [bE, u1]; simp
      clear u1 u2 u3 bE
      by_cases h0 : 0 < i ∧ i < n
      · have hin : i < n := h0.2
        have b1 : decide ((i : Int) < (n : Int)) = true := decide_eq_true (by omega)
        have b2 : decide (min (n : Int) (i : Int) > 0) = true := decide_eq_true (by omega)
        have b3 : ((sync (tD n i) [97]).2 == 0) = true := by rw [q, b1, b2]; rfl
        clear q h0
        go_wp2_with (first
          | (go_at_call 26; (try (refine gate_guard (by rfl) ?_; dsimp only)); refine (used_calls HD6.out).mono ?_; rintro e w7 ⟨rfl, rfl⟩; rw [HU3.out, HU1.out])
          | (go_at_call 19; (try (refine gate_guard (by rfl) ?_; dsimp only)); refine (sync_calls HDi.out (tD_good n i (by have := HN1.out; omega)) [97] (by decide)).mono ?_; rintro e w6 ⟨rfl, hD, ht⟩; have HD6 := Aside0.mk hD; have HT6 := Aside0.mk ht; clear hD ht)
          | (go_at_call 26; refine (used_calls HDi.out).mono ?_; rintro e w5 ⟨rfl, rfl⟩; rw [HU1.out])
          | (go_at_call 15; (try (refine gate_guard (by rfl) ?_; dsimp only)); refine (pick_calls a1 80 HW1.out.1 HW1.out.2 (by decide)).mono ?_; rintro e w2 ⟨rfl, rfl⟩; rw [HCC.out])
          | go_in)
        go_ret
        exact ⟨by first | rfl | (simp; done) | (simp [*]; done), HBs.out.trans ((HB1.out.trans ((HTi.out.trans HT6.out).under (B := ws.heap.size) HB1.out.size (by omega) (by omega))).mono HBs.out.size)⟩
      by_cases hn : i < n
      · have b1 : decide ((i : Int) < (n : Int)) = true := decide_eq_true (by omega)
        have b2 : decide (min (n : Int) (i : Int) > 0) = false := decide_eq_false (by omega)
        have b3 : ((sync (tD n i) [97]).2 == 0) = false := by rw [q, b1, b2]; rfl
        clear q h0
        go_wp2_with (first
          | (go_at_call 26; (try (refine gate_guard (by rfl) ?_; dsimp only)); refine (used_calls HD6.out).mono ?_; rintro e w7 ⟨rfl, rfl⟩; rw [HU3.out, HU1.out])
          | (go_at_call 19; (try (refine gate_guard (by rfl) ?_; dsimp only)); refine (sync_calls HDi.out (tD_good n i (by have := HN1.out; omega)) [97] (by decide)).mono ?_; rintro e w6 ⟨rfl, hD, ht⟩; have HD6 := Aside0.mk hD; have HT6 := Aside0.mk ht; clear hD ht)
          | (go_at_call 26; refine (used_calls HDi.out).mono ?_; rintro e w5 ⟨rfl, rfl⟩; rw [HU1.out])
          | (go_at_call 15; (try (refine gate_guard (by rfl) ?_; dsimp only)); refine (pick_calls a1 80 HW1.out.1 HW1.out.2 (by decide)).mono ?_; rintro e w2 ⟨rfl, rfl⟩; rw [HCC.out])
          | go_in)
        go_ret
        exact ⟨by first | rfl | (simp; done) | (simp [*]; done), HBs.out.trans ((HB1.out.trans ((HTi.out.trans HT6.out).under (B := ws.heap.size) HB1.out.size (by omega) (by omega))).mono HBs.out.size)⟩
      have b1 : decide ((i : Int) < (n : Int)) = false := decide_eq_false (by omega)
      by_cases hz : min (n : Int) (i : Int) > 0
      · have b2 : decide (min (n : Int) (i : Int) > 0) = true := decide_eq_true hz
        have b3 : ((sync (tD n i) [97]).2 == 0) = false := by rw [q, b1, b2]; rfl
        clear q h0 hz
        go_wp2_with (first
          | (go_at_call 26; (try (refine gate_guard (by rfl) ?_; dsimp only)); refine (used_calls HD6.out).mono ?_; rintro e w7 ⟨rfl, rfl⟩; rw [HU3.out, HU1.out])
          | (go_at_call 19; (try (refine gate_guard (by rfl) ?_; dsimp only)); refine (sync_calls HDi.out (tD_good n i (by have := HN1.out; omega)) [97] (by decide)).mono ?_; rintro e w6 ⟨rfl, hD, ht⟩; have HD6 := Aside0.mk hD; have HT6 := Aside0.mk ht; clear hD ht)
          | (go_at_call 26; refine (used_calls HDi.out).mono ?_; rintro e w5 ⟨rfl, rfl⟩; rw [HU1.out])
          | (go_at_call 15; (try (refine gate_guard (by rfl) ?_; dsimp only)); refine (pick_calls a1 80 HW1.out.1 HW1.out.2 (by decide)).mono ?_; rintro e w2 ⟨rfl, rfl⟩; rw [HCC.out])
          | go_in)
        go_ret
        exact ⟨by first | rfl | (simp; done) | (simp [*]; done), HBs.out.trans ((HB1.out.trans ((HTi.out.trans HT6.out).under (B := ws.heap.size) HB1.out.size (by omega) (by omega))).mono HBs.out.size)⟩
      · have b2 : decide (min (n : Int) (i : Int) > 0) = false := decide_eq_false hz
        have b3 : ((sync (tD n i) [97]).2 == 0) = false := by rw [q, b1, b2]; rfl
        clear q h0 hz
        go_wp2_with (first
          | (go_at_call 26; (try (refine gate_guard (by rfl) ?_; dsimp only)); refine (used_calls HD6.out).mono ?_; rintro e w7 ⟨rfl, rfl⟩; rw [HU3.out, HU1.out])
          | (go_at_call 19; (try (refine gate_guard (by rfl) ?_; dsimp only)); refine (sync_calls HDi.out (tD_good n i (by have := HN1.out; omega)) [97] (by decide)).mono ?_; rintro e w6 ⟨rfl, hD, ht⟩; have HD6 := Aside0.mk hD; have HT6 := Aside0.mk ht; clear hD ht)
          | (go_at_call 26; refine (used_calls HDi.out).mono ?_; rintro e w5 ⟨rfl, rfl⟩; rw [HU1.out])
          | (go_at_call 15; (try (refine gate_guard (by rfl) ?_; dsimp only)); refine (pick_calls a1 80 HW1.out.1 HW1.out.2 (by decide)).mono ?_; rintro e w2 ⟨rfl, rfl⟩; rw [HCC.out])
          | go_in)
        go_ret
        exact ⟨by first | rfl | (simp; done) | (simp [*]; done), HBs.out.trans ((HB1.out.trans ((HTi.out.trans HT6.out).under (B := ws.heap.size) HB1.out.size (by omega) (by omega))).mono HBs.out.size)⟩
end Go.Proofs.Ytdkmdicmipcifaa.Disk
