import Derived.Test.YtdkmdicmipcifaaDiskWalk5
namespace Go.Proofs.Ytdkmdicmipcifaa.Disk
open Go Go.RowKit Go.Maps Go.Proofs.YtdkmdicmipcifaaW.PrintWords Go.Proofs.YtdkmdicmipcifaaW.PrintLast Go.Proofs.YtdkmdicmipcifaaW.PrintMore
open Go.Proofs.Ytdkmdicmipcifaa.Pure (mk mk_size mk_app mk_toList mk_dataList wrap_in)
theorem mk_45 (n : Bs) : mk n ++ (⟨#[45]⟩ : ByteArray) = mk (n ++ [45]) := mk_app n [45]
attribute [local go_sem] mk_size mk_app mk_45
set_option maxHeartbeats 4000000 in
set_option maxRecDepth 100000 in
theorem save_calls {w : World} {p b : Nat} {d : Dk} (hD : At w p b d) (g : Good d) (n s : Bs) (hn : n.length ≤ 100000000000) (hs : s.length ≤ 100000000000000) :
    Calls Try.prog 16 #[.pointer (some ⟨p, 0, none⟩), .string (mk n), .string (mk s)] w fun e w' => e = .returned (.int .i64 (save d n s).2) ∧ At w' p b (save d n s).1 ∧ Two p b w w' := by
  have c4 := hD.c4
  have HG := Aside0.mk g
  have HNN := Aside0.mk hn
  have hnx : (n ++ [45]).length ≤ 1000000000000 := by rw [List.length_append]; simp; omega
  have HX := Aside0.mk hnx
  have HXL := Aside0.mk (show (n ++ [45]).length ≤ maxLen by unfold maxLen; omega)
  have HS := Aside0.mk hs
  have b45 : n.length + 1 ≤ 9223372036854775807 := by omega
  have HD := Aside0.mk hD
  by_cases h1 : d.gone = true
  · have e : save d n s = (d, 11) := by unfold save; rw [if_pos h1]
    rw [e]
    rw [h1] at c4
    clear hD g hn e hs h1 hnx
    go_enter Try.func16, Try.ntmps16
    go_wp2
    go_ret
    exact ⟨rfl, HD.out, Two.refl p b w⟩
  rw [show d.gone = false by simpa using h1] at c4
  by_cases h2 : nameOk n = false ∨ nameOk (n ++ [45]) = false
  · have e : save d n s = (d, 3) := by unfold save; rw [if_neg h1, if_pos h2]
    rw [e]
    have b2 : (!nameOk n) = true ∨ ((!nameOk n) = false ∧ (!nameOk (n ++ [45])) = true) := by
      rcases h2 with h | h
      · left; rw [h]; rfl
      · cases hh : nameOk n
        · left; rfl
        · right; rw [h]; exact ⟨rfl, rfl⟩
    clear hD g hn e hs h1 h2 hnx
    rcases b2 with b2 | ⟨b2, b3⟩
    · go_enter Try.func16, Try.ntmps16
      go_wp2_with (first
        | (go_at_call 31; refine (isName_calls n (by have := HNN.out; omega) _ (nameIs HD.out)).mono ?_; rintro e w2 ⟨rfl, hb2⟩)
        | go_in)
      go_ret
      exact ⟨rfl, HD.out.below hb2, Two.below hb2⟩
    · go_enter Try.func16, Try.ntmps16
      go_wp2_with (first
        | (go_at_call 31; (try (refine gate_guard (by rfl) ?_; dsimp only)); refine (isName_calls (n ++ [45]) (by have := HX.out; omega) _ (nameIs HD2.out)).mono ?_; rintro e w3 ⟨rfl, hb3⟩)
        | (go_at_call 31; refine (isName_calls n (by have := HNN.out; omega) _ (nameIs HD.out)).mono ?_; rintro e w2 ⟨rfl, hb2⟩; have HD2 := Aside0.mk (HD.out.below hb2); have HT2 := Aside0.mk (Two.below (p := p) (b := b) hb2); clear hb2)
        | go_in)
      go_ret
      exact ⟨rfl, HD2.out.below hb3, HT2.out.trans (Two.below hb3)⟩
  have b2 : (!nameOk n) = false := by cases hh : nameOk n; · exact absurd (.inl hh) h2
                                      · rfl
  have b3 : (!nameOk (n ++ [45])) = false := by cases hh : nameOk (n ++ [45]); · exact absurd (.inr hh) h2
                                                · rfl
  by_cases h3 : has (n ++ [45]) d.L = true
  · by_cases h4 : (remove d (n ++ [45])).2 ≠ 0
    · have e : save d n s = remove d (n ++ [45]) := by unfold save; rw [if_neg h1, if_neg h2, if_pos h3, if_pos h4]
      have b4 : ((remove d (n ++ [45])).2 == 0) = false := by simpa using h4
      have b4' : ((remove d (n ++ [45])).2 != 0) = true := by simpa using h4
      rw [e]
      clear hD g hn hs h1 h2 hnx e h4
      go_enter Try.func16, Try.ntmps16
      go_wp2_with (first
        | (go_at_call 32; refine (remove_calls (HD3.out.alloc _) HG.out (n ++ [45]) HXL.out).mono ?_; rintro e w4 ⟨rfl, hD4, ht4⟩)
        | (go_at_call 31; (try (refine gate_guard (by rfl) ?_; dsimp only)); refine (isName_calls (n ++ [45]) (by have := HX.out; omega) _ (nameIs HD2.out)).mono ?_; rintro e w3 ⟨rfl, hb3⟩; have HD3 := Aside0.mk (HD2.out.below hb3); have HT3 := Aside0.mk (HT2.out.trans (Two.below hb3)); clear hb3; have k0 := HD3.out.c0)
        | (go_at_call 31; refine (isName_calls n (by have := HNN.out; omega) _ (nameIs HD.out)).mono ?_; rintro e w2 ⟨rfl, hb2⟩; have HD2 := Aside0.mk (HD.out.below hb2); have HT2 := Aside0.mk (Two.below (p := p) (b := b) hb2); clear hb2)
        | (at_lookup; refine op_look2 rfl _ _ rfl HD3.out rfl (n ++ [45]) rfl HXL.out ?_; unfold fv)
        | go_in)
      go_ret
      exact ⟨rfl, hD4, (HT3.out.alloc _).trans ht4⟩
    have z4 : (remove d (n ++ [45])).2 = 0 := by simpa using h4
    have HG4 := Aside0.mk (good_remove g (n ++ [45]))
    have z3 := h3
    have HG5 := Aside0.mk (good_append HG4.out (n ++ [45]) s)
    have HG6 := Aside0.mk (good_sync HG5.out (n ++ [45]))
    have es : save d n s = save3 (remove d (n ++ [45])).1 n s := by unfold save; rw [if_neg h1, if_neg h2, if_pos h3, if_neg h4]
    rw [es]
    clear hD g hn hs h1 h2 h3 hnx es h4
    by_cases ha : (append (remove d (n ++ [45])).1 (n ++ [45]) s).2 ≠ 0
    · have ba : ((append (remove d (n ++ [45])).1 (n ++ [45]) s).2 == 0) = false := by simpa using ha
      have ba' : ((append (remove d (n ++ [45])).1 (n ++ [45]) s).2 != 0) = true := by simpa using ha
      have e : save3 (remove d (n ++ [45])).1 n s = (append (remove d (n ++ [45])).1 (n ++ [45]) s) := by unfold save3; rw [if_pos ha]
      rw [e]
      clear e ha
      go_enter Try.func16, Try.ntmps16
      go_wp2_with (first
        | (go_at_call 18; refine (append_calls HD4.out HG4.out (n ++ [45]) s (by have := HX.out; omega) HS.out).mono ?_; rintro e w5 ⟨rfl, hD5, ht5⟩; have HD5 := Aside0.mk hD5; have HT5 := Aside0.mk (HT4.out.trans ht5); clear hD5 ht5)
        | (go_at_call 32; refine (remove_calls (HD3.out.alloc _) HG.out (n ++ [45]) HXL.out).mono ?_; rintro e w4 ⟨rfl, hD4, ht4⟩; rw [z4]; have HD4 := Aside0.mk hD4; have HT4 := Aside0.mk ((HT3.out.alloc _).trans ht4); clear hD4 ht4)
        | (go_at_call 31; (try (refine gate_guard (by rfl) ?_; dsimp only)); refine (isName_calls (n ++ [45]) (by have := HX.out; omega) _ (nameIs HD2.out)).mono ?_; rintro e w3 ⟨rfl, hb3⟩; have HD3 := Aside0.mk (HD2.out.below hb3); have HT3 := Aside0.mk (HT2.out.trans (Two.below hb3)); clear hb3; have k0 := HD3.out.c0)
        | (go_at_call 31; refine (isName_calls n (by have := HNN.out; omega) _ (nameIs HD.out)).mono ?_; rintro e w2 ⟨rfl, hb2⟩; have HD2 := Aside0.mk (HD.out.below hb2); have HT2 := Aside0.mk (Two.below (p := p) (b := b) hb2); clear hb2)
        | (at_lookup; refine op_look2 rfl _ _ rfl HD3.out rfl (n ++ [45]) rfl HXL.out ?_; unfold fv)
        | go_in)
      go_ret
      exact ⟨rfl, HD5.out, HT5.out⟩
    have za : (append (remove d (n ++ [45])).1 (n ++ [45]) s).2 = 0 := by simpa using ha
    by_cases hy : (sync (append (remove d (n ++ [45])).1 (n ++ [45]) s).1 (n ++ [45])).2 ≠ 0
    · have by1 : ((sync (append (remove d (n ++ [45])).1 (n ++ [45]) s).1 (n ++ [45])).2 == 0) = false := by simpa using hy
      have by2 : ((sync (append (remove d (n ++ [45])).1 (n ++ [45]) s).1 (n ++ [45])).2 != 0) = true := by simpa using hy
      have e : save3 (remove d (n ++ [45])).1 n s = (sync (append (remove d (n ++ [45])).1 (n ++ [45]) s).1 (n ++ [45])) := by unfold save3; rw [if_neg ha, if_pos hy]
      rw [e]
      clear e ha hy
      go_enter Try.func16, Try.ntmps16
      go_wp2_with (first
        | (go_at_call 19; refine (sync_calls HD5.out HG5.out (n ++ [45]) HXL.out).mono ?_; rintro e w6 ⟨rfl, hD6, ht6⟩; have HD6 := Aside0.mk hD6; have HT6 := Aside0.mk (HT5.out.trans ht6); clear hD6 ht6)
        | (go_at_call 18; refine (append_calls HD4.out HG4.out (n ++ [45]) s (by have := HX.out; omega) HS.out).mono ?_; rintro e w5 ⟨rfl, hD5, ht5⟩; rw [za]; have HD5 := Aside0.mk hD5; have HT5 := Aside0.mk (HT4.out.trans ht5); clear hD5 ht5)
        | (go_at_call 32; refine (remove_calls (HD3.out.alloc _) HG.out (n ++ [45]) HXL.out).mono ?_; rintro e w4 ⟨rfl, hD4, ht4⟩; rw [z4]; have HD4 := Aside0.mk hD4; have HT4 := Aside0.mk ((HT3.out.alloc _).trans ht4); clear hD4 ht4)
        | (go_at_call 31; (try (refine gate_guard (by rfl) ?_; dsimp only)); refine (isName_calls (n ++ [45]) (by have := HX.out; omega) _ (nameIs HD2.out)).mono ?_; rintro e w3 ⟨rfl, hb3⟩; have HD3 := Aside0.mk (HD2.out.below hb3); have HT3 := Aside0.mk (HT2.out.trans (Two.below hb3)); clear hb3; have k0 := HD3.out.c0)
        | (go_at_call 31; refine (isName_calls n (by have := HNN.out; omega) _ (nameIs HD.out)).mono ?_; rintro e w2 ⟨rfl, hb2⟩; have HD2 := Aside0.mk (HD.out.below hb2); have HT2 := Aside0.mk (Two.below (p := p) (b := b) hb2); clear hb2)
        | (at_lookup; refine op_look2 rfl _ _ rfl HD3.out rfl (n ++ [45]) rfl HXL.out ?_; unfold fv)
        | go_in)
      go_ret
      exact ⟨rfl, HD6.out, HT6.out⟩
    have zy : (sync (append (remove d (n ++ [45])).1 (n ++ [45]) s).1 (n ++ [45])).2 = 0 := by simpa using hy
    have e : save3 (remove d (n ++ [45])).1 n s = (rename (sync (append (remove d (n ++ [45])).1 (n ++ [45]) s).1 (n ++ [45])).1 (n ++ [45]) n) := by unfold save3; rw [if_neg ha, if_neg hy]
    rw [e]
    clear e ha hy
    go_enter Try.func16, Try.ntmps16
    go_wp2_with (first
      | (go_at_call 27; refine (rename_calls HD6.out HG6.out (n ++ [45]) n HXL.out (by have := HNN.out; omega)).mono ?_; rintro e w7 ⟨rfl, hD7, ht7⟩)
      | (go_at_call 19; refine (sync_calls HD5.out HG5.out (n ++ [45]) HXL.out).mono ?_; rintro e w6 ⟨rfl, hD6, ht6⟩; rw [zy]; have HD6 := Aside0.mk hD6; have HT6 := Aside0.mk (HT5.out.trans ht6); clear hD6 ht6)
      | (go_at_call 18; refine (append_calls HD4.out HG4.out (n ++ [45]) s (by have := HX.out; omega) HS.out).mono ?_; rintro e w5 ⟨rfl, hD5, ht5⟩; rw [za]; have HD5 := Aside0.mk hD5; have HT5 := Aside0.mk (HT4.out.trans ht5); clear hD5 ht5)
      | (go_at_call 32; refine (remove_calls (HD3.out.alloc _) HG.out (n ++ [45]) HXL.out).mono ?_; rintro e w4 ⟨rfl, hD4, ht4⟩; rw [z4]; have HD4 := Aside0.mk hD4; have HT4 := Aside0.mk ((HT3.out.alloc _).trans ht4); clear hD4 ht4)
      | (go_at_call 31; (try (refine gate_guard (by rfl) ?_; dsimp only)); refine (isName_calls (n ++ [45]) (by have := HX.out; omega) _ (nameIs HD2.out)).mono ?_; rintro e w3 ⟨rfl, hb3⟩; have HD3 := Aside0.mk (HD2.out.below hb3); have HT3 := Aside0.mk (HT2.out.trans (Two.below hb3)); clear hb3; have k0 := HD3.out.c0)
      | (go_at_call 31; refine (isName_calls n (by have := HNN.out; omega) _ (nameIs HD.out)).mono ?_; rintro e w2 ⟨rfl, hb2⟩; have HD2 := Aside0.mk (HD.out.below hb2); have HT2 := Aside0.mk (Two.below (p := p) (b := b) hb2); clear hb2)
      | (at_lookup; refine op_look2 rfl _ _ rfl HD3.out rfl (n ++ [45]) rfl HXL.out ?_; unfold fv)
      | go_in)
    go_ret
    exact ⟨rfl, hD7, HT6.out.trans ht7⟩
  · have z3 : has (n ++ [45]) d.L = false := by simpa using h3
    have HG5 := Aside0.mk (good_append HG.out (n ++ [45]) s)
    have HG6 := Aside0.mk (good_sync HG5.out (n ++ [45]))
    have es : save d n s = save3 d n s := by unfold save; rw [if_neg h1, if_neg h2, if_neg h3]
    rw [es]
    clear hD g hn hs h1 h2 h3 hnx es
    by_cases ha : (append d (n ++ [45]) s).2 ≠ 0
    · have ba : ((append d (n ++ [45]) s).2 == 0) = false := by simpa using ha
      have ba' : ((append d (n ++ [45]) s).2 != 0) = true := by simpa using ha
      have e : save3 d n s = (append d (n ++ [45]) s) := by unfold save3; rw [if_pos ha]
      rw [e]
      clear e ha
      go_enter Try.func16, Try.ntmps16
      go_wp2_with (first
        | (go_at_call 18; refine (append_calls (HD3.out.alloc _) HG.out (n ++ [45]) s (by have := HX.out; omega) HS.out).mono ?_; rintro e w5 ⟨rfl, hD5, ht5⟩; have HD5 := Aside0.mk hD5; have HT5 := Aside0.mk ((HT3.out.alloc _).trans ht5); clear hD5 ht5)
        | (go_at_call 31; (try (refine gate_guard (by rfl) ?_; dsimp only)); refine (isName_calls (n ++ [45]) (by have := HX.out; omega) _ (nameIs HD2.out)).mono ?_; rintro e w3 ⟨rfl, hb3⟩; have HD3 := Aside0.mk (HD2.out.below hb3); have HT3 := Aside0.mk (HT2.out.trans (Two.below hb3)); clear hb3; have k0 := HD3.out.c0)
        | (go_at_call 31; refine (isName_calls n (by have := HNN.out; omega) _ (nameIs HD.out)).mono ?_; rintro e w2 ⟨rfl, hb2⟩; have HD2 := Aside0.mk (HD.out.below hb2); have HT2 := Aside0.mk (Two.below (p := p) (b := b) hb2); clear hb2)
        | (at_lookup; refine op_look2 rfl _ _ rfl HD3.out rfl (n ++ [45]) rfl HXL.out ?_; unfold fv)
        | go_in)
      go_ret
      exact ⟨rfl, HD5.out, HT5.out⟩
    have za : (append d (n ++ [45]) s).2 = 0 := by simpa using ha
    by_cases hy : (sync (append d (n ++ [45]) s).1 (n ++ [45])).2 ≠ 0
    · have by1 : ((sync (append d (n ++ [45]) s).1 (n ++ [45])).2 == 0) = false := by simpa using hy
      have by2 : ((sync (append d (n ++ [45]) s).1 (n ++ [45])).2 != 0) = true := by simpa using hy
      have e : save3 d n s = (sync (append d (n ++ [45]) s).1 (n ++ [45])) := by unfold save3; rw [if_neg ha, if_pos hy]
      rw [e]
      clear e ha hy
      go_enter Try.func16, Try.ntmps16
      go_wp2_with (first
        | (go_at_call 19; refine (sync_calls HD5.out HG5.out (n ++ [45]) HXL.out).mono ?_; rintro e w6 ⟨rfl, hD6, ht6⟩; have HD6 := Aside0.mk hD6; have HT6 := Aside0.mk (HT5.out.trans ht6); clear hD6 ht6)
        | (go_at_call 18; refine (append_calls (HD3.out.alloc _) HG.out (n ++ [45]) s (by have := HX.out; omega) HS.out).mono ?_; rintro e w5 ⟨rfl, hD5, ht5⟩; rw [za]; have HD5 := Aside0.mk hD5; have HT5 := Aside0.mk ((HT3.out.alloc _).trans ht5); clear hD5 ht5)
        | (go_at_call 31; (try (refine gate_guard (by rfl) ?_; dsimp only)); refine (isName_calls (n ++ [45]) (by have := HX.out; omega) _ (nameIs HD2.out)).mono ?_; rintro e w3 ⟨rfl, hb3⟩; have HD3 := Aside0.mk (HD2.out.below hb3); have HT3 := Aside0.mk (HT2.out.trans (Two.below hb3)); clear hb3; have k0 := HD3.out.c0)
        | (go_at_call 31; refine (isName_calls n (by have := HNN.out; omega) _ (nameIs HD.out)).mono ?_; rintro e w2 ⟨rfl, hb2⟩; have HD2 := Aside0.mk (HD.out.below hb2); have HT2 := Aside0.mk (Two.below (p := p) (b := b) hb2); clear hb2)
        | (at_lookup; refine op_look2 rfl _ _ rfl HD3.out rfl (n ++ [45]) rfl HXL.out ?_; unfold fv)
        | go_in)
      go_ret
      exact ⟨rfl, HD6.out, HT6.out⟩
    have zy : (sync (append d (n ++ [45]) s).1 (n ++ [45])).2 = 0 := by simpa using hy
    have e : save3 d n s = (rename (sync (append d (n ++ [45]) s).1 (n ++ [45])).1 (n ++ [45]) n) := by unfold save3; rw [if_neg ha, if_neg hy]
    rw [e]
    clear e ha hy
    go_enter Try.func16, Try.ntmps16
    go_wp2_with (first
      | (go_at_call 27; refine (rename_calls HD6.out HG6.out (n ++ [45]) n HXL.out (by have := HNN.out; omega)).mono ?_; rintro e w7 ⟨rfl, hD7, ht7⟩)
      | (go_at_call 19; refine (sync_calls HD5.out HG5.out (n ++ [45]) HXL.out).mono ?_; rintro e w6 ⟨rfl, hD6, ht6⟩; rw [zy]; have HD6 := Aside0.mk hD6; have HT6 := Aside0.mk (HT5.out.trans ht6); clear hD6 ht6)
      | (go_at_call 18; refine (append_calls (HD3.out.alloc _) HG.out (n ++ [45]) s (by have := HX.out; omega) HS.out).mono ?_; rintro e w5 ⟨rfl, hD5, ht5⟩; rw [za]; have HD5 := Aside0.mk hD5; have HT5 := Aside0.mk ((HT3.out.alloc _).trans ht5); clear hD5 ht5)
      | (go_at_call 31; (try (refine gate_guard (by rfl) ?_; dsimp only)); refine (isName_calls (n ++ [45]) (by have := HX.out; omega) _ (nameIs HD2.out)).mono ?_; rintro e w3 ⟨rfl, hb3⟩; have HD3 := Aside0.mk (HD2.out.below hb3); have HT3 := Aside0.mk (HT2.out.trans (Two.below hb3)); clear hb3; have k0 := HD3.out.c0)
      | (go_at_call 31; refine (isName_calls n (by have := HNN.out; omega) _ (nameIs HD.out)).mono ?_; rintro e w2 ⟨rfl, hb2⟩; have HD2 := Aside0.mk (HD.out.below hb2); have HT2 := Aside0.mk (Two.below (p := p) (b := b) hb2); clear hb2)
      | (at_lookup; refine op_look2 rfl _ _ rfl HD3.out rfl (n ++ [45]) rfl HXL.out ?_; unfold fv)
      | go_in)
    go_ret
    exact ⟨rfl, hD7, HT6.out.trans ht7⟩
end Go.Proofs.Ytdkmdicmipcifaa.Disk
