import Derived.Test.YtdkmdicmipcifaaDiskWalk4
namespace Go.Proofs.Ytdkmdicmipcifaa.Disk
open Go Go.RowKit Go.Maps Go.Proofs.YtdkmdicmipcifaaW.PrintWords Go.Proofs.YtdkmdicmipcifaaW.PrintLast Go.Proofs.YtdkmdicmipcifaaW.PrintMore
open Go.Proofs.Ytdkmdicmipcifaa.Pure (mk mk_size mk_app mk_toList mk_dataList wrap_in)
attribute [local go_sem] mk_size mk_app
set_option maxHeartbeats 4000000 in
set_option maxRecDepth 100000 in
theorem append_calls {w : World} {p b : Nat} {d : Dk} (hD : At w p b d) (g : Good d) (n s : Bs) (hn : n.length ≤ 1000000000000000) (hs : s.length ≤ 100000000000000) :
    Calls Try.prog 18 #[.pointer (some ⟨p, 0, none⟩), .string (mk n), .string (mk s)] w fun e w' => e = .returned (.int .i64 (append d n s).2) ∧ At w' p b (append d n s).1 ∧ Two p b w w' := by
  have hu := Try.underlying56
  have c0 := hD.c0
  have c4 := fun o => (hD.alloc o).c4
  have HNE := Aside0.mk (show p ≠ w.heap.size ∧ b ≠ w.heap.size by have := hD.lt; have := hD.ltb; omega)
  have HG := Aside0.mk g
  have HN := Aside0.mk (show n.length ≤ maxLen by unfold maxLen; omega)
  have HM := Aside0.mk hn
  have HS := Aside0.mk hs
  have HD := Aside0.mk hD
  by_cases h1 : d.gone = true
  · have e : append d n s = (d, 11) := by unfold append; rw [if_pos h1]
    rw [e]
    rw [h1] at c4
    clear hD g hn e hs h1
    go_enter Try.func18, Try.ntmps18
    go_wp2_with (first
      | (at_lookup; refine op_look2 rfl _ _ rfl HD.out rfl n rfl HN.out ?_; unfold fv)
      | go_in)
    go_ret
    exact ⟨rfl, HD.out.alloc _, (Two.refl p b w).alloc _⟩
  rw [show d.gone = false by simpa using h1] at c4
  by_cases h2 : nameOk n = false
  · have e : append d n s = (d, 3) := by unfold append; rw [if_neg h1, if_pos h2]
    rw [e]
    have b2 : (!nameOk n) = true := by rw [h2]; rfl
    clear hD g hn e hs h1
    go_enter Try.func18, Try.ntmps18
    go_wp2_with (first
      | (at_lookup; refine op_look2 rfl _ _ rfl HD.out rfl n rfl HN.out ?_; unfold fv)
      | (go_at_call 31; refine (isName_calls n (by have := HM.out; omega) _ (nameIs (HD.out.alloc _))).mono ?_; rintro e w2 ⟨rfl, hb2⟩)
      | go_in)
    go_ret
    exact ⟨rfl, (HD.out.alloc _).below hb2, ((Two.refl p b w).alloc _).trans (Two.below hb2)⟩
  have b2 : (!nameOk n) = false := by simpa using h2
  by_cases h3 : has n d.L = false ∧ d.L.length = 200
  · have e : append d n s = (d, 8) := by unfold append; rw [if_neg h1, if_neg h2, if_pos h3]
    rw [e]
    have z3 := h3.1
    have b3 : (!has n d.L) = true := by rw [h3.1]; rfl
    have b3' : ((d.L.length : Int) == 200) = true := by rw [h3.2]; rfl
    clear hD g hn e hs h1 h2 h3
    go_enter Try.func18, Try.ntmps18
    go_wp2_with (first
      | (at_lookup; refine op_look2 rfl _ _ rfl HD.out rfl n rfl HN.out ?_; unfold fv)
      | (go_at_call 31; refine (isName_calls n (by have := HM.out; omega) _ (nameIs (HD.out.alloc _))).mono ?_; rintro e w2 ⟨rfl, hb2⟩; have HD2 := Aside0.mk ((HD.out.alloc _).below hb2); have HT2 := Aside0.mk (((Two.refl p b w).alloc _).trans (Two.below (p := p) (b := b) hb2)); clear hb2; have k0 := HD2.out.c0)
      | (at_len; (try (refine gate_guard (by rfl) ?_; dsimp only)); refine op_len rfl _ rfl HD2.out rfl ?_)
      | go_in)
    go_ret
    exact ⟨rfl, HD2.out, HT2.out⟩
  have b3 : (!has n d.L) = false ∨ ((!has n d.L) = true ∧ ((d.L.length : Int) == 200) = false) := by
    cases hh : has n d.L
    · right; refine ⟨rfl, ?_⟩; rw [hh] at h3; simp at h3 ⊢; omega
    · left; rfl
  by_cases h4 : d.used + s.length > d.room
  · have e : append d n s = (d, 12) := by unfold append; rw [if_neg h1, if_neg h2, if_neg h3, if_pos h4]
    rw [e]
    have b4 : wrap64 (d.used + (s.length : Int)) = d.used + s.length := by have := g.nonneg; have := g.fits; have := g.room; exact w64 (by omega) (by omega)
    have b4' : decide (d.used + (s.length : Int) > d.room) = true := decide_eq_true h4
    clear hD g hn e hs h1 h2 h3 h4
    rcases b3 with b3 | ⟨b3, b3'⟩
    all_goals (
      go_enter Try.func18, Try.ntmps18
      go_wp2_with (first
        | (at_lookup; refine op_look2 rfl _ _ rfl HD.out rfl n rfl HN.out ?_; unfold fv)
        | (go_at_call 31; refine (isName_calls n (by have := HM.out; omega) _ (nameIs (HD.out.alloc _))).mono ?_; rintro e w2 ⟨rfl, hb2⟩; have HD2 := Aside0.mk ((HD.out.alloc _).below hb2); have HT2 := Aside0.mk (((Two.refl p b w).alloc _).trans (Two.below (p := p) (b := b) hb2)); clear hb2; have k0 := HD2.out.c0; have k1 := HD2.out.c1; have k2 := HD2.out.c2)
        | (at_len; (try (refine gate_guard (by rfl) ?_; dsimp only)); refine op_len rfl _ rfl HD2.out rfl ?_)
        | go_in)
      go_region
      go_wp2
      go_ret
      exact ⟨rfl, HD2.out.drew, HT2.out.drew⟩)
  have b4 : wrap64 (d.used + (s.length : Int)) = d.used + s.length := by have := g.nonneg; have := g.fits; have := g.room; exact w64 (by omega) (by omega)
  have b4' : decide (d.used + (s.length : Int) > d.room) = false := decide_eq_false h4
  by_cases h5 : (turn d).2 ≠ 0
  · have e : append d n s = turn d := by unfold append; rw [if_neg h1, if_neg h2, if_neg h3, if_neg h4, if_pos h5]
    rw [e]
    have b5 : ((turn d).2 == 0) = false := by simpa using h5
    have b5' : ((turn d).2 != 0) = true := by simpa using h5
    clear hD g hn e hs h1 h2 h3 h4 h5
    rcases b3 with b3 | ⟨b3, b3'⟩
    all_goals (
      go_enter Try.func18, Try.ntmps18
      go_wp2_with (first
        | (at_lookup; refine op_look2 rfl _ _ rfl HD.out rfl n rfl HN.out ?_; unfold fv)
        | (go_at_call 31; refine (isName_calls n (by have := HM.out; omega) _ (nameIs (HD.out.alloc _))).mono ?_; rintro e w2 ⟨rfl, hb2⟩; have HD2 := Aside0.mk ((HD.out.alloc _).below hb2); have HT2 := Aside0.mk (((Two.refl p b w).alloc _).trans (Two.below (p := p) (b := b) hb2)); clear hb2; have k0 := HD2.out.c0; have k1 := HD2.out.c1; have k2 := HD2.out.c2)
        | (at_len; (try (refine gate_guard (by rfl) ?_; dsimp only)); refine op_len rfl _ rfl HD2.out rfl ?_)
        | go_in)
      go_region
      go_wp2_with (first
        | (go_at_call 34; refine (turn_calls HD2.out.drew HG.out).mono ?_; rintro e w3 ⟨rfl, hD3, ht3⟩)
        | go_in)
      go_ret
      exact ⟨rfl, hD3, HT2.out.drew.trans ht3⟩)
  have z5 : (turn d).2 = 0 := by simpa using h5
  have hL := turn_L d
  have e : append d n s = (putD (turn d).1 n ((get n d.L).1 ++ s, (get n d.L).2), 0) := by unfold append; rw [if_neg h1, if_neg h2, if_neg h3, if_neg h4, if_neg h5]
  rw [e]
  have HG3 := Aside0.mk (good_turn g)
  have hgl := (get_safe (n := n) g).2.2
  have hfl : ((get n d.L).1.length : Int) ≤ 10000000 := by have := g.fits; have := g.room; omega
  have b6 : (get n d.L).1.length + s.length ≤ 9223372036854775807 := by omega
  have HF := Aside0.mk (show ((get n d.L).1 ++ s).length ≤ 1000000000000000 by rw [List.length_append]; omega)
  clear hD g hn e hs h1 h2 h3 h4 h5 hL hgl hfl
  rcases b3 with b3 | ⟨b3, b3'⟩
  all_goals (
    go_enter Try.func18, Try.ntmps18
    go_wp2_with (first
      | (at_lookup; refine op_look2 rfl _ _ rfl HD.out rfl n rfl HN.out ?_; unfold fv)
      | (go_at_call 31; refine (isName_calls n (by have := HM.out; omega) _ (nameIs (HD.out.alloc _))).mono ?_; rintro e w2 ⟨rfl, hb2⟩; have HD2 := Aside0.mk ((HD.out.alloc _).below hb2); have HR2 := Aside0.mk ((Two.below (p := p) (b := b) hb2).row (new_row _ _) (Ne.symm HNE.out.1) (Ne.symm HNE.out.2)); have HT2 := Aside0.mk (((Two.refl p b w).alloc _).trans (Two.below (p := p) (b := b) hb2)); clear hb2; have k0 := HD2.out.c0; have k1 := HD2.out.c1; have k2 := HD2.out.c2)
      | (at_len; (try (refine gate_guard (by rfl) ?_; dsimp only)); refine op_len rfl _ rfl HD2.out rfl ?_)
      | go_in)
    go_region
    go_wp2_with (first
      | (go_at_call 33; refine (put_calls (HD3.out.setOther (Ne.symm HNE.out.1) (Ne.symm HNE.out.2) _) HG3.out n HN.out ((get n d.L).1 ++ s, (get n d.L).2) HF.out).mono ?_; rintro e w4 ⟨rfl, hD4, ht4⟩)
      | (go_at_call 34; refine (turn_calls HD2.out.drew HG.out).mono ?_; rintro e w3 ⟨rfl, hD3, ht3⟩; rw [z5]; obtain ⟨r0, r1, r2, r3⟩ := row2 (ht3.row HR2.out (Ne.symm HNE.out.1) (Ne.symm HNE.out.2)); have HD3 := Aside0.mk hD3; have HT3 := Aside0.mk ht3; clear hD3 ht3)
      | go_in)
    go_ret
    exact ⟨rfl, hD4, ((HT2.out.drew.trans HT3.out).setNew (Nat.le_refl _) _).trans ht4⟩)
end Go.Proofs.Ytdkmdicmipcifaa.Disk
