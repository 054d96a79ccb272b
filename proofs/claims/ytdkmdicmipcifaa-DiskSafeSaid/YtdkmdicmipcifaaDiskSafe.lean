import Derived.Test.YtdkmdicmipcifaaDiskBegun
namespace Go.Proofs.Ytdkmdicmipcifaa.Disk
open Go Go.RowKit Go.Maps Go.Proofs.YtdkmdicmipcifaaW.PrintWords Go.Proofs.YtdkmdicmipcifaaW.PrintLast Go.Proofs.YtdkmdicmipcifaaW.PrintMore
open Go.Proofs.Ytdkmdicmipcifaa.Pure (mk mk_size mk_app mk_toList mk_dataList mk_ext_from wrap_in)
attribute [local go_sem] mk_size mk_app mk_toList mk_ext_from
theorem read_len {d : Dk} (g : Good d) (n : Bs) : (read d n).1.length ≤ 10000000 := there_len g n false
set_option maxHeartbeats 8000000 in
set_option maxRecDepth 100000 in
theorem safe_walk {w : World} (A : Option Addr) (c : Nat) (l : List Act') (h : Acts w w.heap.size A l) (n a b : Bs) (lf : Int) (hn : n.length ≤ 1000000000000000) (hna : a.length ≤ 1000000000000000) (hnb : b.length ≤ 1000000000000000) (_hlf : (Lit.int .i64 lf).wf = true) :
    Calls Try.prog 4 #[.slice A l.length c, .string (mk n), .string (mk a), .string (mk b), .int .i64 lf] w fun e w' => e = .returned (.bool true) ∧ Below w.heap.size w w' := by
  have HA := Aside0.mk h
  have HN := Aside0.mk hn
  have HNL := Aside0.mk (show n.length ≤ maxLen by unfold maxLen; omega)
  clear h hn hna hnb _hlf
  by_cases hs : smallA l = false
  · have b0 : (!smallA l) = true := by rw [hs]; rfl
    clear hs
    go_enter Try.func4, Try.ntmps4
    go_wp2_with (first
      | (go_at_call 10; refine (small_calls A c l (HA.out.below HB1.out)).mono ?_; rintro e wz ⟨rfl, hw⟩; obtain rfl : w1 = wz := hw.symm)
      | (go_at_call 9; refine (shown_calls _).mono ?_; rintro e w1 ⟨rfl, hb⟩; have HB1 := Aside0.mk hb; clear hb)
      | go_in)
    go_ret
    exact ⟨rfl, HB1.out⟩
  have hs' : smallA l = true := by simpa using hs
  have HS := Aside0.mk hs'
  have b0 : (!smallA l) = false := by rw [hs']; rfl
  clear hs hs'
  by_cases ha : (a.length : Int) > 300
  · have b1 : decide ((a.length : Int) > 300) = true := decide_eq_true ha
    clear ha
    go_enter Try.func4, Try.ntmps4
    go_wp2_with (first
      | (go_at_call 10; refine (small_calls A c l (HA.out.below HB1.out)).mono ?_; rintro e wz ⟨rfl, hw⟩; obtain rfl : w1 = wz := hw.symm)
      | (go_at_call 9; refine (shown_calls _).mono ?_; rintro e w1 ⟨rfl, hb⟩; have HB1 := Aside0.mk hb; clear hb)
      | go_in)
    go_ret
    exact ⟨rfl, HB1.out⟩
  have b1 : decide ((a.length : Int) > 300) = false := decide_eq_false ha
  by_cases hb : (b.length : Int) > 300
  · have b2 : decide ((b.length : Int) > 300) = true := decide_eq_true hb
    clear ha hb
    go_enter Try.func4, Try.ntmps4
    go_wp2_with (first
      | (go_at_call 10; refine (small_calls A c l (HA.out.below HB1.out)).mono ?_; rintro e wz ⟨rfl, hw⟩; obtain rfl : w1 = wz := hw.symm)
      | (go_at_call 9; refine (shown_calls _).mono ?_; rintro e w1 ⟨rfl, hb⟩; have HB1 := Aside0.mk hb; clear hb)
      | go_in)
    go_ret
    exact ⟨rfl, HB1.out⟩
  have b2 : decide ((b.length : Int) > 300) = false := decide_eq_false hb
  have HLA := Aside0.mk (And.intro ha hb)
  have cl : Clean (bg l) := clean_bg HA.out HS.out
  by_cases h1 : (append (bg l) n a).2 ≠ 0
  · have c1 : ((append (bg l) n a).2 == 0) = false := by simpa using h1
    have c2 : ((append (bg l) n a).2 != 0) = true := by simpa using h1
    clear cl ha hb h1
    go_enter Try.func4, Try.ntmps4
    go_wp2_with (first
      | (go_at_call 18; (try (refine gate_guard (by rfl) ?_; dsimp only)); refine (append_calls HD3.out HC.out.toGood n a HN.out (by have := HLA.out; omega)).mono ?_; rintro e w4 ⟨rfl, hD, ht⟩; have HD4 := Aside0.mk hD; have HT4 := Aside0.mk (HT3.out.trans ht); clear hD ht)
      | (go_at_call 12; (try (refine gate_guard (by rfl) ?_; dsimp only)); refine (read_calls HD2.out HC.out.toGood n HNL.out).mono ?_; rintro e w3 ⟨rfl, hD, ht⟩; have HD3 := Aside0.mk hD; have HT3 := Aside0.mk (HT2.out.trans ht); clear hD ht)
      | (go_at_call 11; refine (begun_calls A c l (HA.out.below HB1.out) HB1.out.size HS.out).mono ?_; rintro e w2 ⟨rfl, hD, hc, hb⟩; have HD2 := Aside0.mk hD; have HC := Aside0.mk hc; have HB2 := Aside0.mk hb; have HT2 := Aside0.mk (Two.refl (w1.heap.size + 1) w1.heap.size w2); clear hD hc hb)
      | (go_at_call 10; refine (small_calls A c l (HA.out.below HB1.out)).mono ?_; rintro e wz ⟨rfl, hw⟩; obtain rfl : w1 = wz := hw.symm)
      | (go_at_call 9; refine (shown_calls _).mono ?_; rintro e w1 ⟨rfl, hb⟩; have HB1 := Aside0.mk hb; clear hb)
      | go_in)
    go_ret
    exact ⟨by first | rfl | (simp; done), HB1.out.trans ((HB2.out.trans (HT4.out.under (B := w1.heap.size) HB2.out.size (by omega) (Nat.le_refl _))).mono HB1.out.size)⟩
  have zh1 : (append (bg l) n a).2 = 0 := by simpa using h1
  have Zh1 := Aside0.mk zh1
  by_cases h2 : (sync (append (bg l) n a).1 n).2 ≠ 0
  · have c1 : ((sync (append (bg l) n a).1 n).2 == 0) = false := by simpa using h2
    have c2 : ((sync (append (bg l) n a).1 n).2 != 0) = true := by simpa using h2
    clear cl ha hb h1 h2 zh1
    go_enter Try.func4, Try.ntmps4
    go_wp2_with (first
      | (go_at_call 19; (try (refine gate_guard (by rfl) ?_; dsimp only)); refine (sync_calls HD4.out (good_append HC.out.toGood n a) n HNL.out).mono ?_; rintro e w5 ⟨rfl, hD, ht⟩; have HD5 := Aside0.mk hD; have HT5 := Aside0.mk (HT4.out.trans ht); clear hD ht)
      | (go_at_call 18; (try (refine gate_guard (by rfl) ?_; dsimp only)); refine (append_calls HD3.out HC.out.toGood n a HN.out (by have := HLA.out; omega)).mono ?_; rintro e w4 ⟨rfl, hD, ht⟩; rw [Zh1.out]; have HD4 := Aside0.mk hD; have HT4 := Aside0.mk (HT3.out.trans ht); clear hD ht)
      | (go_at_call 12; (try (refine gate_guard (by rfl) ?_; dsimp only)); refine (read_calls HD2.out HC.out.toGood n HNL.out).mono ?_; rintro e w3 ⟨rfl, hD, ht⟩; have HD3 := Aside0.mk hD; have HT3 := Aside0.mk (HT2.out.trans ht); clear hD ht)
      | (go_at_call 11; refine (begun_calls A c l (HA.out.below HB1.out) HB1.out.size HS.out).mono ?_; rintro e w2 ⟨rfl, hD, hc, hb⟩; have HD2 := Aside0.mk hD; have HC := Aside0.mk hc; have HB2 := Aside0.mk hb; have HT2 := Aside0.mk (Two.refl (w1.heap.size + 1) w1.heap.size w2); clear hD hc hb)
      | (go_at_call 10; refine (small_calls A c l (HA.out.below HB1.out)).mono ?_; rintro e wz ⟨rfl, hw⟩; obtain rfl : w1 = wz := hw.symm)
      | (go_at_call 9; refine (shown_calls _).mono ?_; rintro e w1 ⟨rfl, hb⟩; have HB1 := Aside0.mk hb; clear hb)
      | go_in)
    go_ret
    exact ⟨by first | rfl | (simp; done), HB1.out.trans ((HB2.out.trans (HT5.out.under (B := w1.heap.size) HB2.out.size (by omega) (Nat.le_refl _))).mono HB1.out.size)⟩
  have zh2 : (sync (append (bg l) n a).1 n).2 = 0 := by simpa using h2
  have Zh2 := Aside0.mk zh2
  by_cases h3 : (append (sync (append (bg l) n a).1 n).1 n b).2 ≠ 0
  · have c1 : ((append (sync (append (bg l) n a).1 n).1 n b).2 == 0) = false := by simpa using h3
    have c2 : ((append (sync (append (bg l) n a).1 n).1 n b).2 != 0) = true := by simpa using h3
    clear cl ha hb h1 h2 h3 zh1 zh2
    go_enter Try.func4, Try.ntmps4
    go_wp2_with (first
      | (go_at_call 18; (try (refine gate_guard (by rfl) ?_; dsimp only)); refine (append_calls HD5.out (good_sync (good_append HC.out.toGood n a) n) n b HN.out (by have := HLA.out; omega)).mono ?_; rintro e w6 ⟨rfl, hD, ht⟩; have HD6 := Aside0.mk hD; have HT6 := Aside0.mk (HT5.out.trans ht); clear hD ht)
      | (go_at_call 19; (try (refine gate_guard (by rfl) ?_; dsimp only)); refine (sync_calls HD4.out (good_append HC.out.toGood n a) n HNL.out).mono ?_; rintro e w5 ⟨rfl, hD, ht⟩; rw [Zh2.out]; have HD5 := Aside0.mk hD; have HT5 := Aside0.mk (HT4.out.trans ht); clear hD ht)
      | (go_at_call 18; (try (refine gate_guard (by rfl) ?_; dsimp only)); refine (append_calls HD3.out HC.out.toGood n a HN.out (by have := HLA.out; omega)).mono ?_; rintro e w4 ⟨rfl, hD, ht⟩; rw [Zh1.out]; have HD4 := Aside0.mk hD; have HT4 := Aside0.mk (HT3.out.trans ht); clear hD ht)
      | (go_at_call 12; (try (refine gate_guard (by rfl) ?_; dsimp only)); refine (read_calls HD2.out HC.out.toGood n HNL.out).mono ?_; rintro e w3 ⟨rfl, hD, ht⟩; have HD3 := Aside0.mk hD; have HT3 := Aside0.mk (HT2.out.trans ht); clear hD ht)
      | (go_at_call 11; refine (begun_calls A c l (HA.out.below HB1.out) HB1.out.size HS.out).mono ?_; rintro e w2 ⟨rfl, hD, hc, hb⟩; have HD2 := Aside0.mk hD; have HC := Aside0.mk hc; have HB2 := Aside0.mk hb; have HT2 := Aside0.mk (Two.refl (w1.heap.size + 1) w1.heap.size w2); clear hD hc hb)
      | (go_at_call 10; refine (small_calls A c l (HA.out.below HB1.out)).mono ?_; rintro e wz ⟨rfl, hw⟩; obtain rfl : w1 = wz := hw.symm)
      | (go_at_call 9; refine (shown_calls _).mono ?_; rintro e w1 ⟨rfl, hb⟩; have HB1 := Aside0.mk hb; clear hb)
      | go_in)
    go_ret
    exact ⟨by first | rfl | (simp; done), HB1.out.trans ((HB2.out.trans (HT6.out.under (B := w1.heap.size) HB2.out.size (by omega) (Nat.le_refl _))).mono HB1.out.size)⟩
  have zh3 : (append (sync (append (bg l) n a).1 n).1 n b).2 = 0 := by simpa using h3
  have Zh3 := Aside0.mk zh3
  obtain ⟨m1, m2⟩ := law_safe cl n a b lf zh1 zh2 zh3
  have hr := read_len cl.toGood n
  have HR := Aside0.mk hr
  have q0 : (0 : Int) ≤ max 0 (min lf (b.length : Int)) := by omega
  have q1 : max 0 (min lf (b.length : Int)) ≤ (b.length : Int) := by omega
  have s1 : (read (bg l) n).1.length + a.length ≤ 9223372036854775807 := by omega
  have s2 : (read (bg l) n).1.length + a.length + min (max 0 (min lf (b.length : Int))).toNat b.length ≤ 9223372036854775807 := by omega
  have s3 : (read (bg l) n).1.length + a.length + (b.take (max 0 (min lf (b.length : Int))).toNat).length ≤ 9223372036854775807 := by rw [List.length_take]; exact s2
  have s4 : ((read (bg l) n).1 ++ a).length + (b.take (max 0 (min lf (b.length : Int))).toNat).length ≤ 9223372036854775807 := by rw [List.length_append]; exact s3
  have M1 := Aside0.mk m1
  have M2 := Aside0.mk m2
  clear cl ha hb h1 h2 h3 zh1 zh2 zh3 m1 m2 hr
  go_enter Try.func4, Try.ntmps4
  go_wp2_with (first
    | (go_at_call 12; (try (refine gate_guard (by rfl) ?_; dsimp only)); refine (read_calls HD9.out (good_crash (good_crash (good_append (good_sync (good_append HC.out.toGood n a) n) n b) [lf]) []) n HNL.out).mono ?_; rintro e w10 ⟨rfl, hD, ht⟩; rw [M2.out, M1.out]; have HD10 := Aside0.mk hD; have HT10 := Aside0.mk (HT9.out.trans ht); clear hD ht)
    | (go_at_call 17; refine (crash_calls HD8.out (good_crash (good_append (good_sync (good_append HC.out.toGood n a) n) n b) [lf]) _ [] (Ints.none_ _ _ _) ⟨_, _, rfl⟩ (by decide)).mono ?_; rintro e w9 ⟨rfl, hD, ht⟩; have HD9 := Aside0.mk hD; have HT9 := Aside0.mk (HT8.out.trans ht); clear hD ht)
    | (go_at_call 12; (try (refine gate_guard (by rfl) ?_; dsimp only)); refine (read_calls HD7.out (good_crash (good_append (good_sync (good_append HC.out.toGood n a) n) n b) [lf]) n HNL.out).mono ?_; rintro e w8 ⟨rfl, hD, ht⟩; rw [M1.out]; have HD8 := Aside0.mk hD; have HT8 := Aside0.mk (HT7.out.trans ht); clear hD ht)
    | (go_at_call 17; refine (crash_calls (HD6.out.alloc _) (good_append (good_sync (good_append HC.out.toGood n a) n) n b) _ [lf] (Ints.one HD6.out lf) ⟨_, _, rfl⟩ (show 1 ≤ 1000000000000 by decide)).mono ?_; rintro e w7 ⟨rfl, hD, ht⟩; have HD7 := Aside0.mk hD; have HT7 := Aside0.mk ((HT6.out.alloc _).trans ht); clear hD ht)
    | (go_at_call 18; (try (refine gate_guard (by rfl) ?_; dsimp only)); refine (append_calls HD5.out (good_sync (good_append HC.out.toGood n a) n) n b HN.out (by have := HLA.out; omega)).mono ?_; rintro e w6 ⟨rfl, hD, ht⟩; rw [Zh3.out]; have HD6 := Aside0.mk hD; have HT6 := Aside0.mk (HT5.out.trans ht); clear hD ht)
    | (go_at_call 19; (try (refine gate_guard (by rfl) ?_; dsimp only)); refine (sync_calls HD4.out (good_append HC.out.toGood n a) n HNL.out).mono ?_; rintro e w5 ⟨rfl, hD, ht⟩; rw [Zh2.out]; have HD5 := Aside0.mk hD; have HT5 := Aside0.mk (HT4.out.trans ht); clear hD ht)
    | (go_at_call 18; (try (refine gate_guard (by rfl) ?_; dsimp only)); refine (append_calls HD3.out HC.out.toGood n a HN.out (by have := HLA.out; omega)).mono ?_; rintro e w4 ⟨rfl, hD, ht⟩; rw [Zh1.out]; have HD4 := Aside0.mk hD; have HT4 := Aside0.mk (HT3.out.trans ht); clear hD ht)
    | (go_at_call 12; (try (refine gate_guard (by rfl) ?_; dsimp only)); refine (read_calls HD2.out HC.out.toGood n HNL.out).mono ?_; rintro e w3 ⟨rfl, hD, ht⟩; have HD3 := Aside0.mk hD; have HT3 := Aside0.mk (HT2.out.trans ht); clear hD ht)
    | (go_at_call 11; refine (begun_calls A c l (HA.out.below HB1.out) HB1.out.size HS.out).mono ?_; rintro e w2 ⟨rfl, hD, hc, hb⟩; have HD2 := Aside0.mk hD; have HC := Aside0.mk hc; have HB2 := Aside0.mk hb; have HT2 := Aside0.mk (Two.refl (w1.heap.size + 1) w1.heap.size w2); clear hD hc hb)
    | (go_at_call 10; refine (small_calls A c l (HA.out.below HB1.out)).mono ?_; rintro e wz ⟨rfl, hw⟩; obtain rfl : w1 = wz := hw.symm)
    | (go_at_call 9; refine (shown_calls _).mono ?_; rintro e w1 ⟨rfl, hb⟩; have HB1 := Aside0.mk hb; clear hb)
    | go_in)
  go_ret
  exact ⟨by first | rfl | (simp; done), HB1.out.trans ((HB2.out.trans (HT10.out.under (B := w1.heap.size) HB2.out.size (by omega) (Nat.le_refl _))).mono HB1.out.size)⟩
end Go.Proofs.Ytdkmdicmipcifaa.Disk
