import Derived.Test.YtdkmdicmipcifaaRefWalk5
import Derived.Test.YtdkmdicmipcifaaDiskWalk6
namespace Go.Proofs.Ytdkmdicmipcifaa.Disk
open Go Go.RowKit Go.Maps Go.Proofs.YtdkmdicmipcifaaW.PrintWords Go.Proofs.YtdkmdicmipcifaaW.PrintLast Go.Proofs.YtdkmdicmipcifaaW.PrintMore
open Go.Proofs.Ytdkmdicmipcifaa.Pure (mk mk_size mk_app mk_toList mk_dataList wrap_in)
attribute [local go_sem] mk_size mk_app mk_45
set_option maxHeartbeats 8000000 in
set_option maxRecDepth 100000 in
theorem rsave_calls {w : World} {q c : Nat} {A : Option Addr} {d : Dk} (hD : RAt w q A c d) (g : Good d) (n s : Bs) (hn : n.length ≤ 100000000000) (hs : s.length ≤ 100000000000000) :
    Calls Try.prog 38 #[.pointer (some ⟨q, 0, none⟩), .string (mk n), .string (mk s)] w (ROut q A w (.int .i64 (save d n s).2) (save d n s).1) := by
  have c3 := hD.c3
  have HG := Aside0.mk g
  have HN := Aside0.mk (show n.length < 4611686018427387904 by omega)
  have HX := Aside0.mk (show (n ++ [45]).length < 4611686018427387904 by rw [List.length_append]; simp; omega)
  have HS := Aside0.mk hs
  have b45 : n.length + 1 ≤ 9223372036854775807 := by omega
  have HD := Aside0.mk hD
  have HZ := Aside0.mk (show ∀ (W : World), RAt W q A c d → 1 ≤ W.heap.size from fun W h => by have := h.lt; omega)
  by_cases h1 : d.gone = true
  · have e : save d n s = (d, 11) := by unfold save; rw [if_pos h1]
    rw [e]
    rw [h1] at c3
    clear hD g hn e hs h1
    go_enter Try.func38, Try.ntmps38
    go_wp2
    go_ret
    exact ⟨A, c, rfl, HD.out, RT.refl⟩
  rw [show d.gone = false by simpa using h1] at c3
  by_cases h2 : nameOk n = false ∨ nameOk (n ++ [45]) = false
  · have e : save d n s = (d, 3) := by unfold save; rw [if_neg h1, if_pos h2]
    rw [e]
    have b2 : (!nameOk n) = true ∨ ((!nameOk n) = false ∧ (!nameOk (n ++ [45])) = true) := by
      rcases h2 with h | h
      · left; rw [h]; rfl
      · cases hh : nameOk n
        · left; rfl
        · right; rw [h]; exact ⟨rfl, rfl⟩
    clear hD g hn e hs h1 h2
    rcases b2 with b2 | ⟨b2, b3⟩
    all_goals (
      go_enter Try.func38, Try.ntmps38
      go_wp2_with (first
        | (go_at_call 54; refine (refName_calls (n ++ [45]) HX.out _ (HZ.out _ HD2.out)).mono ?_; rintro e w3 ⟨rfl, hb3⟩)
        | (go_at_call 54; refine (refName_calls n HN.out _ (HZ.out _ HD.out)).mono ?_; rintro e w2 ⟨rfl, hb2⟩; have HD2 := Aside0.mk (HD.out.below hb2); have HT2 := Aside0.mk (RT.below (q := q) (A := A) hb2); clear hb2)
        | go_in)
      go_ret
      exact ⟨A, c, rfl, HD2.out.below hb3, HT2.out.trans (RT.below hb3)⟩)
  have b2 : (!nameOk n) = false := by cases hh : nameOk n; · exact absurd (.inl hh) h2
                                      · rfl
  have b3 : (!nameOk (n ++ [45])) = false := by cases hh : nameOk (n ++ [45]); · exact absurd (.inr hh) h2
                                                · rfl
  cases z3 : has (n ++ [45]) d.L
  · have h3 : ¬ has (n ++ [45]) d.L = true := by rw [z3]; simp
    have es : save d n s = save3 d n s := by unfold save; rw [if_neg h1, if_neg h2, if_neg h3]
    have HG5 := Aside0.mk (good_append HG.out (n ++ [45]) s)
    have HG6 := Aside0.mk (good_sync HG5.out (n ++ [45]))
    rw [es]
    clear hD g hn hs h1 h2 h3 es
    by_cases ha : (append d (n ++ [45]) s).2 ≠ 0
    · have ba : ((append d (n ++ [45]) s).2 == 0) = false := by simpa using ha
      have e : save3 d n s = (append d (n ++ [45]) s) := by unfold save3; rw [if_pos ha]
      rw [e]
      clear e ha
      go_enter Try.func38, Try.ntmps38
      go_wp2_with (first
        | (go_at_call 41; refine (rappend_calls HD4.out HG.out (n ++ [45]) s HX.out HS.out).mono ?_; rintro e w5 ⟨A5, c5, rfl, hD5, ht5⟩; have HD5 := Aside0.mk hD5; have HT5 := Aside0.mk (HT4.out.trans ht5); clear hD5 ht5)
        | (go_at_call 56; refine (find_calls HD3.out HG.out (n ++ [45])).mono ?_; rintro e w4 ⟨rfl, hD4, hb4⟩; rw [z3]; have HD4 := Aside0.mk hD4; have HT4 := Aside0.mk (HT3.out.trans (RT.below hb4)); clear hD4 hb4)
        | (go_at_call 54; refine (refName_calls (n ++ [45]) HX.out _ (HZ.out _ HD2.out)).mono ?_; rintro e w3 ⟨rfl, hb3⟩; have HD3 := Aside0.mk (HD2.out.below hb3); have HT3 := Aside0.mk (HT2.out.trans (RT.below hb3)); clear hb3)
        | (go_at_call 54; refine (refName_calls n HN.out _ (HZ.out _ HD.out)).mono ?_; rintro e w2 ⟨rfl, hb2⟩; have HD2 := Aside0.mk (HD.out.below hb2); have HT2 := Aside0.mk (RT.below (q := q) (A := A) hb2); clear hb2)
        | go_in)
      go_ret
      exact ⟨A5, c5, rfl, HD5.out, HT5.out⟩
    have za : (append d (n ++ [45]) s).2 = 0 := by simpa using ha
    by_cases hy : (sync (append d (n ++ [45]) s).1 (n ++ [45])).2 ≠ 0
    · have by1 : ((sync (append d (n ++ [45]) s).1 (n ++ [45])).2 == 0) = false := by simpa using hy
      have e : save3 d n s = (sync (append d (n ++ [45]) s).1 (n ++ [45])) := by unfold save3; rw [if_neg ha, if_pos hy]
      rw [e]
      clear e ha hy
      go_enter Try.func38, Try.ntmps38
      go_wp2_with (first
        | (go_at_call 35; refine (rsync_calls HD5.out HG5.out (n ++ [45])).mono ?_; rintro e w6 ⟨A6, c6, rfl, hD6, ht6⟩; have HD6 := Aside0.mk hD6; have HT6 := Aside0.mk (HT5.out.trans ht6); clear hD6 ht6)
        | (go_at_call 41; refine (rappend_calls HD4.out HG.out (n ++ [45]) s HX.out HS.out).mono ?_; rintro e w5 ⟨A5, c5, rfl, hD5, ht5⟩; rw [za]; have HD5 := Aside0.mk hD5; have HT5 := Aside0.mk (HT4.out.trans ht5); clear hD5 ht5)
        | (go_at_call 56; refine (find_calls HD3.out HG.out (n ++ [45])).mono ?_; rintro e w4 ⟨rfl, hD4, hb4⟩; rw [z3]; have HD4 := Aside0.mk hD4; have HT4 := Aside0.mk (HT3.out.trans (RT.below hb4)); clear hD4 hb4)
        | (go_at_call 54; refine (refName_calls (n ++ [45]) HX.out _ (HZ.out _ HD2.out)).mono ?_; rintro e w3 ⟨rfl, hb3⟩; have HD3 := Aside0.mk (HD2.out.below hb3); have HT3 := Aside0.mk (HT2.out.trans (RT.below hb3)); clear hb3)
        | (go_at_call 54; refine (refName_calls n HN.out _ (HZ.out _ HD.out)).mono ?_; rintro e w2 ⟨rfl, hb2⟩; have HD2 := Aside0.mk (HD.out.below hb2); have HT2 := Aside0.mk (RT.below (q := q) (A := A) hb2); clear hb2)
        | go_in)
      go_ret
      exact ⟨A6, c6, rfl, HD6.out, HT6.out⟩
    have zy : (sync (append d (n ++ [45]) s).1 (n ++ [45])).2 = 0 := by simpa using hy
    have e : save3 d n s = (rename (sync (append d (n ++ [45]) s).1 (n ++ [45])).1 (n ++ [45]) n) := by unfold save3; rw [if_neg ha, if_neg hy]
    rw [e]
    clear e ha hy
    go_enter Try.func38, Try.ntmps38
    go_wp2_with (first
      | (go_at_call 36; refine (rrename_calls HD6.out HG6.out (n ++ [45]) n HN.out).mono ?_; rintro e w7 ⟨A7, c7, rfl, hD7, ht7⟩; have HD7 := Aside0.mk hD7; have HT7 := Aside0.mk (HT6.out.trans ht7); clear hD7 ht7)
      | (go_at_call 35; refine (rsync_calls HD5.out HG5.out (n ++ [45])).mono ?_; rintro e w6 ⟨A6, c6, rfl, hD6, ht6⟩; rw [zy]; have HD6 := Aside0.mk hD6; have HT6 := Aside0.mk (HT5.out.trans ht6); clear hD6 ht6)
      | (go_at_call 41; refine (rappend_calls HD4.out HG.out (n ++ [45]) s HX.out HS.out).mono ?_; rintro e w5 ⟨A5, c5, rfl, hD5, ht5⟩; rw [za]; have HD5 := Aside0.mk hD5; have HT5 := Aside0.mk (HT4.out.trans ht5); clear hD5 ht5)
      | (go_at_call 56; refine (find_calls HD3.out HG.out (n ++ [45])).mono ?_; rintro e w4 ⟨rfl, hD4, hb4⟩; rw [z3]; have HD4 := Aside0.mk hD4; have HT4 := Aside0.mk (HT3.out.trans (RT.below hb4)); clear hD4 hb4)
      | (go_at_call 54; refine (refName_calls (n ++ [45]) HX.out _ (HZ.out _ HD2.out)).mono ?_; rintro e w3 ⟨rfl, hb3⟩; have HD3 := Aside0.mk (HD2.out.below hb3); have HT3 := Aside0.mk (HT2.out.trans (RT.below hb3)); clear hb3)
      | (go_at_call 54; refine (refName_calls n HN.out _ (HZ.out _ HD.out)).mono ?_; rintro e w2 ⟨rfl, hb2⟩; have HD2 := Aside0.mk (HD.out.below hb2); have HT2 := Aside0.mk (RT.below (q := q) (A := A) hb2); clear hb2)
      | go_in)
    go_ret
    exact ⟨A7, c7, rfl, HD7.out, HT7.out⟩
  · have h3 := z3
    by_cases hr : (remove d (n ++ [45])).2 ≠ 0
    · have b4 : ((remove d (n ++ [45])).2 == 0) = false := by simpa using hr
      have e : save d n s = remove d (n ++ [45]) := by unfold save; rw [if_neg h1, if_neg h2, if_pos h3, if_pos hr]
      rw [e]
      clear hD g hn hs h1 h2 h3 e hr
      go_enter Try.func38, Try.ntmps38
      go_wp2_with (first
        | (go_at_call 37; refine (rremove_calls HD4.out HG.out (n ++ [45])).mono ?_; rintro e w5 ⟨A5, c5, rfl, hD5, ht5⟩; have HD5 := Aside0.mk hD5; have HT5 := Aside0.mk (HT4.out.trans ht5); clear hD5 ht5)
        | (go_at_call 56; refine (find_calls HD3.out HG.out (n ++ [45])).mono ?_; rintro e w4 ⟨rfl, hD4, hb4⟩; rw [z3]; have HD4 := Aside0.mk hD4; have HT4 := Aside0.mk (HT3.out.trans (RT.below hb4)); clear hD4 hb4)
        | (go_at_call 54; refine (refName_calls (n ++ [45]) HX.out _ (HZ.out _ HD2.out)).mono ?_; rintro e w3 ⟨rfl, hb3⟩; have HD3 := Aside0.mk (HD2.out.below hb3); have HT3 := Aside0.mk (HT2.out.trans (RT.below hb3)); clear hb3)
        | (go_at_call 54; refine (refName_calls n HN.out _ (HZ.out _ HD.out)).mono ?_; rintro e w2 ⟨rfl, hb2⟩; have HD2 := Aside0.mk (HD.out.below hb2); have HT2 := Aside0.mk (RT.below (q := q) (A := A) hb2); clear hb2)
        | go_in)
      go_ret
      exact ⟨A5, c5, rfl, HD5.out, HT5.out⟩
    have zr : (remove d (n ++ [45])).2 = 0 := by simpa using hr
    have HG4 := Aside0.mk (good_remove g (n ++ [45]))
    have es : save d n s = save3 (remove d (n ++ [45])).1 n s := by unfold save; rw [if_neg h1, if_neg h2, if_pos h3, if_neg hr]
    clear hr
    have HG5 := Aside0.mk (good_append HG4.out (n ++ [45]) s)
    have HG6 := Aside0.mk (good_sync HG5.out (n ++ [45]))
    rw [es]
    clear hD g hn hs h1 h2 h3 es
    by_cases ha : (append (remove d (n ++ [45])).1 (n ++ [45]) s).2 ≠ 0
    · have ba : ((append (remove d (n ++ [45])).1 (n ++ [45]) s).2 == 0) = false := by simpa using ha
      have e : save3 (remove d (n ++ [45])).1 n s = (append (remove d (n ++ [45])).1 (n ++ [45]) s) := by unfold save3; rw [if_pos ha]
      rw [e]
      clear e ha
      go_enter Try.func38, Try.ntmps38
      go_wp2_with (first
        | (go_at_call 41; refine (rappend_calls HD5.out HG4.out (n ++ [45]) s HX.out HS.out).mono ?_; rintro e w6 ⟨A6, c6, rfl, hD6, ht6⟩; have HD6 := Aside0.mk hD6; have HT6 := Aside0.mk (HT5.out.trans ht6); clear hD6 ht6)
        | (go_at_call 37; refine (rremove_calls HD4.out HG.out (n ++ [45])).mono ?_; rintro e w5 ⟨A5, c5, rfl, hD5, ht5⟩; rw [zr]; have HD5 := Aside0.mk hD5; have HT5 := Aside0.mk (HT4.out.trans ht5); clear hD5 ht5)
        | (go_at_call 56; refine (find_calls HD3.out HG.out (n ++ [45])).mono ?_; rintro e w4 ⟨rfl, hD4, hb4⟩; rw [z3]; have HD4 := Aside0.mk hD4; have HT4 := Aside0.mk (HT3.out.trans (RT.below hb4)); clear hD4 hb4)
        | (go_at_call 54; refine (refName_calls (n ++ [45]) HX.out _ (HZ.out _ HD2.out)).mono ?_; rintro e w3 ⟨rfl, hb3⟩; have HD3 := Aside0.mk (HD2.out.below hb3); have HT3 := Aside0.mk (HT2.out.trans (RT.below hb3)); clear hb3)
        | (go_at_call 54; refine (refName_calls n HN.out _ (HZ.out _ HD.out)).mono ?_; rintro e w2 ⟨rfl, hb2⟩; have HD2 := Aside0.mk (HD.out.below hb2); have HT2 := Aside0.mk (RT.below (q := q) (A := A) hb2); clear hb2)
        | go_in)
      go_ret
      exact ⟨A6, c6, rfl, HD6.out, HT6.out⟩
    have za : (append (remove d (n ++ [45])).1 (n ++ [45]) s).2 = 0 := by simpa using ha
    by_cases hy : (sync (append (remove d (n ++ [45])).1 (n ++ [45]) s).1 (n ++ [45])).2 ≠ 0
    · have by1 : ((sync (append (remove d (n ++ [45])).1 (n ++ [45]) s).1 (n ++ [45])).2 == 0) = false := by simpa using hy
      have e : save3 (remove d (n ++ [45])).1 n s = (sync (append (remove d (n ++ [45])).1 (n ++ [45]) s).1 (n ++ [45])) := by unfold save3; rw [if_neg ha, if_pos hy]
      rw [e]
      clear e ha hy
      go_enter Try.func38, Try.ntmps38
      go_wp2_with (first
        | (go_at_call 35; refine (rsync_calls HD6.out HG5.out (n ++ [45])).mono ?_; rintro e w7 ⟨A7, c7, rfl, hD7, ht7⟩; have HD7 := Aside0.mk hD7; have HT7 := Aside0.mk (HT6.out.trans ht7); clear hD7 ht7)
        | (go_at_call 41; refine (rappend_calls HD5.out HG4.out (n ++ [45]) s HX.out HS.out).mono ?_; rintro e w6 ⟨A6, c6, rfl, hD6, ht6⟩; rw [za]; have HD6 := Aside0.mk hD6; have HT6 := Aside0.mk (HT5.out.trans ht6); clear hD6 ht6)
        | (go_at_call 37; refine (rremove_calls HD4.out HG.out (n ++ [45])).mono ?_; rintro e w5 ⟨A5, c5, rfl, hD5, ht5⟩; rw [zr]; have HD5 := Aside0.mk hD5; have HT5 := Aside0.mk (HT4.out.trans ht5); clear hD5 ht5)
        | (go_at_call 56; refine (find_calls HD3.out HG.out (n ++ [45])).mono ?_; rintro e w4 ⟨rfl, hD4, hb4⟩; rw [z3]; have HD4 := Aside0.mk hD4; have HT4 := Aside0.mk (HT3.out.trans (RT.below hb4)); clear hD4 hb4)
        | (go_at_call 54; refine (refName_calls (n ++ [45]) HX.out _ (HZ.out _ HD2.out)).mono ?_; rintro e w3 ⟨rfl, hb3⟩; have HD3 := Aside0.mk (HD2.out.below hb3); have HT3 := Aside0.mk (HT2.out.trans (RT.below hb3)); clear hb3)
        | (go_at_call 54; refine (refName_calls n HN.out _ (HZ.out _ HD.out)).mono ?_; rintro e w2 ⟨rfl, hb2⟩; have HD2 := Aside0.mk (HD.out.below hb2); have HT2 := Aside0.mk (RT.below (q := q) (A := A) hb2); clear hb2)
        | go_in)
      go_ret
      exact ⟨A7, c7, rfl, HD7.out, HT7.out⟩
    have zy : (sync (append (remove d (n ++ [45])).1 (n ++ [45]) s).1 (n ++ [45])).2 = 0 := by simpa using hy
    have e : save3 (remove d (n ++ [45])).1 n s = (rename (sync (append (remove d (n ++ [45])).1 (n ++ [45]) s).1 (n ++ [45])).1 (n ++ [45]) n) := by unfold save3; rw [if_neg ha, if_neg hy]
    rw [e]
    clear e ha hy
    go_enter Try.func38, Try.ntmps38
    go_wp2_with (first
      | (go_at_call 36; refine (rrename_calls HD7.out HG6.out (n ++ [45]) n HN.out).mono ?_; rintro e w8 ⟨A8, c8, rfl, hD8, ht8⟩; have HD8 := Aside0.mk hD8; have HT8 := Aside0.mk (HT7.out.trans ht8); clear hD8 ht8)
      | (go_at_call 35; refine (rsync_calls HD6.out HG5.out (n ++ [45])).mono ?_; rintro e w7 ⟨A7, c7, rfl, hD7, ht7⟩; rw [zy]; have HD7 := Aside0.mk hD7; have HT7 := Aside0.mk (HT6.out.trans ht7); clear hD7 ht7)
      | (go_at_call 41; refine (rappend_calls HD5.out HG4.out (n ++ [45]) s HX.out HS.out).mono ?_; rintro e w6 ⟨A6, c6, rfl, hD6, ht6⟩; rw [za]; have HD6 := Aside0.mk hD6; have HT6 := Aside0.mk (HT5.out.trans ht6); clear hD6 ht6)
      | (go_at_call 37; refine (rremove_calls HD4.out HG.out (n ++ [45])).mono ?_; rintro e w5 ⟨A5, c5, rfl, hD5, ht5⟩; rw [zr]; have HD5 := Aside0.mk hD5; have HT5 := Aside0.mk (HT4.out.trans ht5); clear hD5 ht5)
      | (go_at_call 56; refine (find_calls HD3.out HG.out (n ++ [45])).mono ?_; rintro e w4 ⟨rfl, hD4, hb4⟩; rw [z3]; have HD4 := Aside0.mk hD4; have HT4 := Aside0.mk (HT3.out.trans (RT.below hb4)); clear hD4 hb4)
      | (go_at_call 54; refine (refName_calls (n ++ [45]) HX.out _ (HZ.out _ HD2.out)).mono ?_; rintro e w3 ⟨rfl, hb3⟩; have HD3 := Aside0.mk (HD2.out.below hb3); have HT3 := Aside0.mk (HT2.out.trans (RT.below hb3)); clear hb3)
      | (go_at_call 54; refine (refName_calls n HN.out _ (HZ.out _ HD.out)).mono ?_; rintro e w2 ⟨rfl, hb2⟩; have HD2 := Aside0.mk (HD.out.below hb2); have HT2 := Aside0.mk (RT.below (q := q) (A := A) hb2); clear hb2)
      | go_in)
    go_ret
    exact ⟨A8, c8, rfl, HD8.out, HT8.out⟩
set_option maxHeartbeats 4000000 in
set_option maxRecDepth 100000 in
theorem rnew_calls {w : World} (r : Int) (h0 : 0 ≤ r) (h1 : r ≤ 10000000) :
    Calls Try.prog 22 #[.int .i64 r] w fun e w' => e = .returned (.tuple #[.pointer (some ⟨w.heap.size, 0, none⟩), .int .i64 0]) ∧ RAt w' w.heap.size none 0 (new r) ∧ Below w.heap.size w w' := by
  have b0 : decide (r < 0) = false := decide_eq_false (by omega)
  have b1 : decide (r > 10000000) = false := decide_eq_false (by omega)
  clear h0 h1
  go_enter Try.func22, Try.ntmps22
  go_wp2
  go_ret2
  exact ⟨rfl, ⟨new_row w _, .inl rfl, fun a ha => (by cases ha), ⟨Nat.le_refl _, by unfold maxLen; omega⟩⟩, (Below.refl _ w).alloc (Nat.le_refl _) _⟩
theorem rnew_err {w : World} (r : Int) (h : r < 0 ∨ r > 10000000) :
    Calls Try.prog 22 #[.int .i64 r] w fun e w' => e = .returned (.tuple #[.pointer none, .int .i64 1]) ∧ w' = w := by
  have b : decide (r < 0) = true ∨ (decide (r < 0) = false ∧ decide (r > 10000000) = true) := by
    by_cases h0 : r < 0
    · exact .inl (decide_eq_true h0)
    · exact .inr ⟨decide_eq_false h0, decide_eq_true (by omega)⟩
  clear h
  rcases b with b0 | ⟨b0, b1⟩
  all_goals (
    go_enter Try.func22, Try.ntmps22
    go_wp2
    go_ret2
    exact ⟨rfl, rfl⟩)
end Go.Proofs.Ytdkmdicmipcifaa.Disk
