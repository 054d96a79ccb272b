import Derived.Test.YtdkmdicmipcifaaDiskBegun
namespace Go.Proofs.Ytdkmdicmipcifaa.Disk
open Go Go.RowKit Go.Maps Go.Proofs.YtdkmdicmipcifaaW.PrintWords Go.Proofs.YtdkmdicmipcifaaW.PrintLast Go.Proofs.YtdkmdicmipcifaaW.PrintMore
open Go.Proofs.Ytdkmdicmipcifaa.Pure (mk mk_size mk_app mk_toList mk_dataList mk_ext_from wrap_in)
attribute [local go_sem] mk_size mk_app mk_toList
set_option maxHeartbeats 8000000 in
set_option maxRecDepth 100000 in
theorem moves_walk {w : World} (A : Option Addr) (c : Nat) (l : List Act') (h : Acts w w.heap.size A l) (n m : Bs) (hn : n.length ≤ 1000000000000000) (hm : m.length ≤ 1000000000000000) :
    Calls Try.prog 8 #[.slice A l.length c, .string (mk n), .string (mk m)] w fun e w' => e = .returned (.bool true) ∧ Below w.heap.size w w' := by
  have HA := Aside0.mk h
  have HN := Aside0.mk hn
  have HM := Aside0.mk hm
  have HNL := Aside0.mk (show n.length ≤ maxLen by unfold maxLen; omega)
  have HML := Aside0.mk (show m.length ≤ maxLen by unfold maxLen; omega)
  clear h hn hm
  by_cases hs : smallA l = false
  · have b0 : (!smallA l) = true := by rw [hs]; rfl
    clear hs
    go_enter Try.func8, Try.ntmps8
    go_wp2_with (first
      | (go_at_call 10; refine (small_calls A c l (HA.out.below HB1.out)).mono ?_; rintro e wz ⟨rfl, hw⟩; obtain rfl : w1 = wz := hw.symm)
      | (go_at_call 9; refine (shown_calls _).mono ?_; rintro e w1 ⟨rfl, hb⟩; have HB1 := Aside0.mk hb; clear hb)
      | go_in)
    go_ret
    exact ⟨rfl, HB1.out⟩
  have hs' : smallA l = true := by simpa using hs
  have HS := Aside0.mk hs'
  have b0 : (!smallA l) = false := by rw [hs']; rfl
  clear hs hs'
  by_cases hnm : n = m
  · have b1 : (n == m) = true := by rw [hnm]; simp
    go_enter Try.func8, Try.ntmps8
    go_wp2_with (first
      | (go_at_call 10; refine (small_calls A c l (HA.out.below HB1.out)).mono ?_; rintro e wz ⟨rfl, hw⟩; obtain rfl : w1 = wz := hw.symm)
      | (go_at_call 9; refine (shown_calls _).mono ?_; rintro e w1 ⟨rfl, hb⟩; have HB1 := Aside0.mk hb; clear hb)
      | go_in)
    go_ret
    exact ⟨rfl, HB1.out⟩
  have b1 : (n == m) = false := by simpa using hnm
  have HNM := Aside0.mk hnm
  have cl : Clean (bg l) := clean_bg HA.out HS.out
  obtain ⟨m1, m2⟩ := law_moves cl n m hnm
  clear hnm
  by_cases h1 : (rename (bg l) n m).2 ≠ 0
  · have q1 := m1 h1
    have b2 : ((rename (bg l) n m).2 == 0) = false := by simpa using h1
    have b3 : ((rename (bg l) n m).2 != 0) = true := by simpa using h1
    have Q1 := Aside0.mk q1
    clear cl m1 m2 h1 q1
    go_enter Try.func8, Try.ntmps8
    go_wp2_with (first
      | (go_at_call 12; (try (refine gate_guard (by rfl) ?_; dsimp only)); refine (read_calls HD6.out (good_rename HC.out.toGood n m) n HNL.out).mono ?_; rintro e w7 ⟨rfl, hD, ht⟩; rw [Q1.out]; have HD7 := Aside0.mk hD; have HT7 := Aside0.mk (HT6.out.trans ht); clear hD ht)
      | (go_at_call 27; (try (refine gate_guard (by rfl) ?_; dsimp only)); refine (rename_calls HD5.out HC.out.toGood n m HNL.out HM.out).mono ?_; rintro e w6 ⟨rfl, hD, ht⟩; have HD6 := Aside0.mk hD; have HT6 := Aside0.mk (HT5.out.trans ht); clear hD ht)
      | (go_at_call 26; (try (refine gate_guard (by rfl) ?_; dsimp only)); refine (used_calls HD4.out).mono ?_; rintro e w5 ⟨rfl, rfl⟩; have HD5 := Aside0.mk HD4.out; have HT5 := Aside0.mk HT4.out)
      | (go_at_call 12; (try (refine gate_guard (by rfl) ?_; dsimp only)); refine (read_calls HD3.out HC.out.toGood m HML.out).mono ?_; rintro e w4 ⟨rfl, hD, ht⟩; have HD4 := Aside0.mk hD; have HT4 := Aside0.mk (HT3.out.trans ht); clear hD ht)
      | (go_at_call 12; (try (refine gate_guard (by rfl) ?_; dsimp only)); refine (read_calls HD2.out HC.out.toGood n HNL.out).mono ?_; rintro e w3 ⟨rfl, hD, ht⟩; have HD3 := Aside0.mk hD; have HT3 := Aside0.mk (HT2.out.trans ht); clear hD ht)
      | (go_at_call 11; refine (begun_calls A c l (HA.out.below HB1.out) HB1.out.size HS.out).mono ?_; rintro e w2 ⟨rfl, hD, hc, hb⟩; have HD2 := Aside0.mk hD; have HC := Aside0.mk hc; have HB2 := Aside0.mk hb; have HT2 := Aside0.mk (Two.refl (w1.heap.size + 1) w1.heap.size w2); clear hD hc hb)
      | (go_at_call 10; refine (small_calls A c l (HA.out.below HB1.out)).mono ?_; rintro e wz ⟨rfl, hw⟩; obtain rfl : w1 = wz := hw.symm)
      | (go_at_call 9; refine (shown_calls _).mono ?_; rintro e w1 ⟨rfl, hb⟩; have HB1 := Aside0.mk hb; clear hb)
      | go_in)
    go_ret
    exact ⟨by first | rfl | (simp; done), HB1.out.trans ((HB2.out.trans (HT7.out.under (B := w1.heap.size) HB2.out.size (by omega) (Nat.le_refl _))).mono HB1.out.size)⟩
  have z1 : (rename (bg l) n m).2 = 0 := by simpa using h1
  obtain ⟨q2, q3, q4⟩ := m2 z1
  have Z1 := Aside0.mk z1
  have Q2 := Aside0.mk q2
  have Q3 := Aside0.mk q3
  clear m1 m2 h1 z1 q2 q3
  by_cases h2 : (read (bg l) m).2 = 0
  · have b2 : ((read (bg l) m).2 == 0) = true := by rw [h2]; rfl
    clear cl q4 h2
    go_enter Try.func8, Try.ntmps8
    go_wp2_with (first
      | (go_at_call 12; (try (refine gate_guard (by rfl) ?_; dsimp only)); refine (read_calls HD7.out (good_rename HC.out.toGood n m) n HNL.out).mono ?_; rintro e w8 ⟨rfl, hD, ht⟩; rw [Q3.out]; have HD8 := Aside0.mk hD; have HT8 := Aside0.mk (HT7.out.trans ht); clear hD ht)
      | (go_at_call 12; (try (refine gate_guard (by rfl) ?_; dsimp only)); refine (read_calls HD6.out (good_rename HC.out.toGood n m) m HML.out).mono ?_; rintro e w7 ⟨rfl, hD, ht⟩; rw [Q2.out]; have HD7 := Aside0.mk hD; have HT7 := Aside0.mk (HT6.out.trans ht); clear hD ht)
      | (go_at_call 27; (try (refine gate_guard (by rfl) ?_; dsimp only)); refine (rename_calls HD5.out HC.out.toGood n m HNL.out HM.out).mono ?_; rintro e w6 ⟨rfl, hD, ht⟩; rw [Z1.out]; have HD6 := Aside0.mk hD; have HT6 := Aside0.mk (HT5.out.trans ht); clear hD ht)
      | (go_at_call 26; (try (refine gate_guard (by rfl) ?_; dsimp only)); refine (used_calls HD4.out).mono ?_; rintro e w5 ⟨rfl, rfl⟩; have HD5 := Aside0.mk HD4.out; have HT5 := Aside0.mk HT4.out)
      | (go_at_call 12; (try (refine gate_guard (by rfl) ?_; dsimp only)); refine (read_calls HD3.out HC.out.toGood m HML.out).mono ?_; rintro e w4 ⟨rfl, hD, ht⟩; have HD4 := Aside0.mk hD; have HT4 := Aside0.mk (HT3.out.trans ht); clear hD ht)
      | (go_at_call 12; (try (refine gate_guard (by rfl) ?_; dsimp only)); refine (read_calls HD2.out HC.out.toGood n HNL.out).mono ?_; rintro e w3 ⟨rfl, hD, ht⟩; have HD3 := Aside0.mk hD; have HT3 := Aside0.mk (HT2.out.trans ht); clear hD ht)
      | (go_at_call 11; refine (begun_calls A c l (HA.out.below HB1.out) HB1.out.size HS.out).mono ?_; rintro e w2 ⟨rfl, hD, hc, hb⟩; have HD2 := Aside0.mk hD; have HC := Aside0.mk hc; have HB2 := Aside0.mk hb; have HT2 := Aside0.mk (Two.refl (w1.heap.size + 1) w1.heap.size w2); clear hD hc hb)
      | (go_at_call 10; refine (small_calls A c l (HA.out.below HB1.out)).mono ?_; rintro e wz ⟨rfl, hw⟩; obtain rfl : w1 = wz := hw.symm)
      | (go_at_call 9; refine (shown_calls _).mono ?_; rintro e w1 ⟨rfl, hb⟩; have HB1 := Aside0.mk hb; clear hb)
      | go_in)
    go_ret
    exact ⟨by first | rfl | (simp; done), HB1.out.trans ((HB2.out.trans (HT8.out.under (B := w1.heap.size) HB2.out.size (by omega) (Nat.le_refl _))).mono HB1.out.size)⟩
  have b2 : ((read (bg l) m).2 == 0) = false := by simpa using h2
  obtain ⟨q5, q6, q7⟩ := q4 h2
  have Q5 := Aside0.mk q5
  have Q6 := Aside0.mk q6
  have Q7 := Aside0.mk q7
  clear cl q4 h2 q5 q6 q7
  go_enter Try.func8, Try.ntmps8
  go_wp2_with (first
    | (go_at_call 26; (try (refine gate_guard (by rfl) ?_; dsimp only)); refine (used_calls HD10.out).mono ?_; rintro e w11 ⟨rfl, rfl⟩; rw [Q7.out]; have HD11 := Aside0.mk HD10.out; have HT11 := Aside0.mk HT10.out)
    | (go_at_call 12; (try (refine gate_guard (by rfl) ?_; dsimp only)); refine (read_calls HD9.out (good_rename (good_rename HC.out.toGood n m) m n) n HNL.out).mono ?_; rintro e w10 ⟨rfl, hD, ht⟩; rw [Q6.out]; have HD10 := Aside0.mk hD; have HT10 := Aside0.mk (HT9.out.trans ht); clear hD ht)
    | (go_at_call 27; (try (refine gate_guard (by rfl) ?_; dsimp only)); refine (rename_calls HD8.out (good_rename HC.out.toGood n m) m n HML.out HN.out).mono ?_; rintro e w9 ⟨rfl, hD, ht⟩; rw [Q5.out]; have HD9 := Aside0.mk hD; have HT9 := Aside0.mk (HT8.out.trans ht); clear hD ht)
    | (go_at_call 12; (try (refine gate_guard (by rfl) ?_; dsimp only)); refine (read_calls HD7.out (good_rename HC.out.toGood n m) n HNL.out).mono ?_; rintro e w8 ⟨rfl, hD, ht⟩; rw [Q3.out]; have HD8 := Aside0.mk hD; have HT8 := Aside0.mk (HT7.out.trans ht); clear hD ht)
    | (go_at_call 12; (try (refine gate_guard (by rfl) ?_; dsimp only)); refine (read_calls HD6.out (good_rename HC.out.toGood n m) m HML.out).mono ?_; rintro e w7 ⟨rfl, hD, ht⟩; rw [Q2.out]; have HD7 := Aside0.mk hD; have HT7 := Aside0.mk (HT6.out.trans ht); clear hD ht)
    | (go_at_call 27; (try (refine gate_guard (by rfl) ?_; dsimp only)); refine (rename_calls HD5.out HC.out.toGood n m HNL.out HM.out).mono ?_; rintro e w6 ⟨rfl, hD, ht⟩; rw [Z1.out]; have HD6 := Aside0.mk hD; have HT6 := Aside0.mk (HT5.out.trans ht); clear hD ht)
    | (go_at_call 26; (try (refine gate_guard (by rfl) ?_; dsimp only)); refine (used_calls HD4.out).mono ?_; rintro e w5 ⟨rfl, rfl⟩; have HD5 := Aside0.mk HD4.out; have HT5 := Aside0.mk HT4.out)
    | (go_at_call 12; (try (refine gate_guard (by rfl) ?_; dsimp only)); refine (read_calls HD3.out HC.out.toGood m HML.out).mono ?_; rintro e w4 ⟨rfl, hD, ht⟩; have HD4 := Aside0.mk hD; have HT4 := Aside0.mk (HT3.out.trans ht); clear hD ht)
    | (go_at_call 12; (try (refine gate_guard (by rfl) ?_; dsimp only)); refine (read_calls HD2.out HC.out.toGood n HNL.out).mono ?_; rintro e w3 ⟨rfl, hD, ht⟩; have HD3 := Aside0.mk hD; have HT3 := Aside0.mk (HT2.out.trans ht); clear hD ht)
    | (go_at_call 11; refine (begun_calls A c l (HA.out.below HB1.out) HB1.out.size HS.out).mono ?_; rintro e w2 ⟨rfl, hD, hc, hb⟩; have HD2 := Aside0.mk hD; have HC := Aside0.mk hc; have HB2 := Aside0.mk hb; have HT2 := Aside0.mk (Two.refl (w1.heap.size + 1) w1.heap.size w2); clear hD hc hb)
    | (go_at_call 10; refine (small_calls A c l (HA.out.below HB1.out)).mono ?_; rintro e wz ⟨rfl, hw⟩; obtain rfl : w1 = wz := hw.symm)
    | (go_at_call 9; refine (shown_calls _).mono ?_; rintro e w1 ⟨rfl, hb⟩; have HB1 := Aside0.mk hb; clear hb)
    | go_in)
  go_ret
  exact ⟨by first | rfl | (simp; done), HB1.out.trans ((HB2.out.trans (HT11.out.under (B := w1.heap.size) HB2.out.size (by omega) (Nat.le_refl _))).mono HB1.out.size)⟩
end Go.Proofs.Ytdkmdicmipcifaa.Disk
