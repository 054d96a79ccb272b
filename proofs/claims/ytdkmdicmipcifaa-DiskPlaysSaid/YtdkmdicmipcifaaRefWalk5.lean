import Derived.Test.YtdkmdicmipcifaaRefWalk4
import Derived.Deep.QuietTactic
import Derived.BigQuiet
namespace Go.Proofs.Ytdkmdicmipcifaa.Disk
open Go Go.RowKit Go.Maps Go.Proofs.YtdkmdicmipcifaaW.PrintWords Go.Proofs.YtdkmdicmipcifaaW.PrintLast Go.Proofs.YtdkmdicmipcifaaW.PrintMore
open Go.Proofs.Ytdkmdicmipcifaa.Pure (mk mk_size mk_app mk_toList mk_dataList wrap_in)
theorem nil_mk (s : Bs) : (⟨#[]⟩ : ByteArray) ++ mk s = mk s := mk_app [] s
attribute [local go_sem] mk_size mk_app mk_toList nil_mk
theorem RAt.drewN {w : World} {q c : Nat} {A : Option Addr} {d : Dk} (h : RAt w q A c d) (n : Nat) : RAt (w.drewN n) q A c d := h.below (Drawn0.below ⟨⟨n, rfl⟩⟩)
theorem RT.drewN {q : Nat} {A A' : Option Addr} {w w' : World} (h : RT q A A' w w') (n : Nat) : RT q A A' w (w'.drewN n) := h.trans (RT.below (Drawn0.below ⟨⟨n, rfl⟩⟩))
set_option maxHeartbeats 8000000 in
set_option maxRecDepth 100000 in
theorem rappend_calls {w : World} {q c : Nat} {A : Option Addr} {d : Dk} (hD : RAt w q A c d) (g : Good d) (n s : Bs) (hn : n.length < 4611686018427387904) (hs : s.length ≤ 100000000000000) :
    Calls Try.prog 41 #[.pointer (some ⟨q, 0, none⟩), .string (mk n), .string (mk s)] w (ROut q A w (.int .i64 (append d n s).2) (append d n s).1) := by
  have HG := Aside0.mk g
  have HN := Aside0.mk hn
  have HD := Aside0.mk hD
  have HZ := Aside0.mk (show ∀ (W : World), RAt W q A c d → 1 ≤ W.heap.size from fun W h => by have := h.lt; omega)
  by_cases h1 : d.gone = true
  · have e : append d n s = (d, 11) := by unfold append; rw [if_pos h1]
    rw [e]
    clear hD g hn e hs
    go_enter Try.func41, Try.ntmps41
    go_wp2_with (first
      | (go_at_call 54; refine (refName_calls n HN.out _ (HZ.out _ HD1.out)).mono ?_; rintro e w2 ⟨rfl, hb2⟩; have HD2 := Aside0.mk (HD1.out.below hb2); have HT2 := Aside0.mk (HT1.out.trans (RT.below hb2)); have c3 := HD2.out.c3; rw [h1] at c3; clear hb2)
      | (go_at_call 56; refine (find_calls HD.out HG.out n).mono ?_; rintro e w1 ⟨rfl, hD1, hb1⟩; have HD1 := Aside0.mk hD1; have HT1 := Aside0.mk (RT.below (q := q) (A := A) hb1); clear hD1 hb1)
      | go_in)
    go_ret
    exact ⟨A, c, rfl, HD2.out, HT2.out⟩
  have g0 : d.gone = false := by simpa using h1
  by_cases h2 : nameOk n = false
  · have e : append d n s = (d, 3) := by unfold append; rw [if_neg h1, if_pos h2]
    rw [e]
    have b2 : (!nameOk n) = true := by rw [h2]; rfl
    clear hD g hn e hs h1
    go_enter Try.func41, Try.ntmps41
    go_wp2_with (first
      | (go_at_call 54; refine (refName_calls n HN.out _ (HZ.out _ HD1.out)).mono ?_; rintro e w2 ⟨rfl, hb2⟩; have HD2 := Aside0.mk (HD1.out.below hb2); have HT2 := Aside0.mk (HT1.out.trans (RT.below hb2)); have c3 := HD2.out.c3; rw [g0] at c3; clear hb2)
      | (go_at_call 56; refine (find_calls HD.out HG.out n).mono ?_; rintro e w1 ⟨rfl, hD1, hb1⟩; have HD1 := Aside0.mk hD1; have HT1 := Aside0.mk (RT.below (q := q) (A := A) hb1); clear hD1 hb1)
      | go_in)
    go_ret
    exact ⟨A, c, rfl, HD2.out, HT2.out⟩
  have b2 : (!nameOk n) = false := by simpa using h2
  by_cases h3 : has n d.L = false ∧ d.L.length = 200
  · have e : append d n s = (d, 8) := by unfold append; rw [if_neg h1, if_neg h2, if_pos h3]
    rw [e]
    have z3 := h3.1
    have b3' : decide ((200 : Int) ≤ (d.L.length : Int)) = true := by rw [h3.2]; rfl
    clear hD g hn e hs h1 h2 h3
    go_enter Try.func41, Try.ntmps41
    go_wp2_with (first
      | (go_at_call 54; refine (refName_calls n HN.out _ (HZ.out _ HD1.out)).mono ?_; rintro e w2 ⟨rfl, hb2⟩; have HD2 := Aside0.mk (HD1.out.below hb2); have HT2 := Aside0.mk (HT1.out.trans (RT.below hb2)); have c3 := HD2.out.c3; rw [g0] at c3; have c0 := HD2.out.c0; clear hb2)
      | (go_at_call 56; refine (find_calls HD.out HG.out n).mono ?_; rintro e w1 ⟨rfl, hD1, hb1⟩; rw [z3]; have HD1 := Aside0.mk hD1; have HT1 := Aside0.mk (RT.below (q := q) (A := A) hb1); clear hD1 hb1)
      | go_in)
    go_ret
    exact ⟨A, c, rfl, HD2.out, HT2.out⟩
  have b3 : has n d.L = true ∨ (has n d.L = false ∧ decide ((200 : Int) ≤ (d.L.length : Int)) = false) := by
    cases hh : has n d.L
    · right; refine ⟨rfl, decide_eq_false ?_⟩; rw [hh] at h3; simp at h3; have := g.many; omega
    · left; rfl
  have b4 : wrap64 (d.used + (s.length : Int)) = d.used + s.length := by have := g.nonneg; have := g.fits; have := g.room; exact w64 (by omega) (by omega)
  have b4w : IntKind.i64.wrap (d.used + (s.length : Int)) = d.used + s.length := by have := g.nonneg; have := g.fits; have := g.room; exact IntWalk.i64_in _ (by omega)
  by_cases h4 : d.used + s.length > d.room
  · have e : append d n s = (d, 12) := by unfold append; rw [if_neg h1, if_neg h2, if_neg h3, if_pos h4]
    rw [e]
    have b4' : decide (d.used + (s.length : Int) > d.room) = true := decide_eq_true h4
    clear hD g hn e hs h1 h2 h3 h4
    rcases b3 with b3 | ⟨b3, b3'⟩
    all_goals (
      go_enter Try.func41, Try.ntmps41
      go_wp2_with (first
        | (go_at_call 54; refine (refName_calls n HN.out _ (HZ.out _ HD1.out)).mono ?_; rintro e w2 ⟨rfl, hb2⟩; have HD2 := Aside0.mk (HD1.out.below hb2); have HT2 := Aside0.mk (HT1.out.trans (RT.below hb2)); have c3 := HD2.out.c3; rw [g0] at c3; have c0 := HD2.out.c0; have c1 := HD2.out.c1; clear hb2)
        | (go_at_call 56; refine (find_calls HD.out HG.out n).mono ?_; rintro e w1 ⟨rfl, hD1, hb1⟩; rw [b3]; have HD1 := Aside0.mk hD1; have HT1 := Aside0.mk (RT.below (q := q) (A := A) hb1); clear hD1 hb1)
        | go_in)
      go_quiet ((go_at_call 42; exact Calls.quiet_of_same (rused_calls (by first | exact HD2.out.drewN _ | exact HD2.out.drew | exact HD2.out) HG.out)))
      go_wp2
      go_ret
      exact ⟨A, c, rfl, by first | exact HD2.out.drewN _ | exact HD2.out.drew, by first | exact HT2.out.drewN _ | exact HT2.out.drew⟩)
  have b4' : decide (d.used + (s.length : Int) > d.room) = false := decide_eq_false h4
  by_cases h5 : (turn d).2 ≠ 0
  · have e : append d n s = turn d := by unfold append; rw [if_neg h1, if_neg h2, if_neg h3, if_neg h4, if_pos h5]
    rw [e]
    have b5 : ((turn d).2 == 0) = false := by simpa using h5
    have b5' : ((turn d).2 != 0) = true := by simpa using h5
    clear hD g hn e hs h1 h2 h3 h4 h5
    rcases b3 with b3 | ⟨b3, b3'⟩
    all_goals (
      go_enter Try.func41, Try.ntmps41
      go_wp2_with (first
        | (go_at_call 54; refine (refName_calls n HN.out _ (HZ.out _ HD1.out)).mono ?_; rintro e w2 ⟨rfl, hb2⟩; have HD2 := Aside0.mk (HD1.out.below hb2); have HT2 := Aside0.mk (HT1.out.trans (RT.below hb2)); have c3 := HD2.out.c3; rw [g0] at c3; have c0 := HD2.out.c0; have c1 := HD2.out.c1; clear hb2)
        | (go_at_call 56; refine (find_calls HD.out HG.out n).mono ?_; rintro e w1 ⟨rfl, hD1, hb1⟩; rw [b3]; have HD1 := Aside0.mk hD1; have HT1 := Aside0.mk (RT.below (q := q) (A := A) hb1); clear hD1 hb1)
        | go_in)
      go_quiet ((go_at_call 42; exact Calls.quiet_of_same (rused_calls (by first | exact HD2.out.drewN _ | exact HD2.out.drew | exact HD2.out) HG.out)))
      go_wp2_with (first
        | (go_at_call 52; refine (rturn_calls (by first | exact HD2.out.drewN _ | exact HD2.out.drew) HG.out).mono ?_; rintro e w3 ⟨rfl, hD3, ht3⟩)
        | go_in)
      go_ret
      exact ⟨A, c, rfl, hD3, RT.trans (by first | exact HT2.out.drewN _ | exact HT2.out.drew) ht3⟩)
  have z5 : (turn d).2 = 0 := by simpa using h5
  have hL := turn_L d
  have e : append d n s = (putD (turn d).1 n ((get n d.L).1 ++ s, (get n d.L).2), 0) := by unfold append; rw [if_neg h1, if_neg h2, if_neg h3, if_neg h4, if_neg h5]
  rw [e]
  have HG3 := Aside0.mk (good_turn g)
  have hgl := (get_safe (n := n) g).2.2
  have hfl : ((get n d.L).1.length : Int) ≤ 10000000 := by have := g.fits; have := g.room; omega
  have b6 : (get n d.L).1.length + s.length ≤ 9223372036854775807 := by omega
  have HL := Aside0.mk hL.1
  rcases b3 with b3 | ⟨b3, b3'⟩
  · obtain ⟨hat, hlt⟩ := has_at g.sorted b3
    have q0 : (0 : Int) ≤ ((pos n d.L : Nat) : Int) := by omega
    have q1 : ((pos n d.L : Nat) : Int) < (d.L.length : Int) := by omega
    have HA := Aside0.mk hat
    have HLT := Aside0.mk hlt
    clear hD g hn e hs h1 h2 h3 h4 h5 hL hgl hfl hat hlt
    go_enter Try.func41, Try.ntmps41
    go_wp2_with (first
      | (go_at_call 54; refine (refName_calls n HN.out _ (HZ.out _ HD1.out)).mono ?_; rintro e w2 ⟨rfl, hb2⟩; have HD2 := Aside0.mk (HD1.out.below hb2); have HT2 := Aside0.mk (HT1.out.trans (RT.below hb2)); have c3 := HD2.out.c3; rw [g0] at c3; have c0 := HD2.out.c0; have c1 := HD2.out.c1; clear hb2)
      | (go_at_call 56; refine (find_calls HD.out HG.out n).mono ?_; rintro e w1 ⟨rfl, hD1, hb1⟩; rw [b3]; have HS := Aside0.mk hb1.size; have HD1 := Aside0.mk hD1; have HT1 := Aside0.mk (RT.below (q := q) (A := A) hb1); clear hD1 hb1)
      | go_in)
    go_quiet ((go_at_call 42; exact Calls.quiet_of_same (rused_calls (by first | exact HD2.out.drewN _ | exact HD2.out.drew | exact HD2.out) HG.out)))
    go_wp2_with (first
      | (go_at_call 53; refine (rput_calls (HD3.out.alloc _) HG3.out (n, ((get n d.L).1 ++ s, (get n d.L).2))).mono ?_; rintro e w4 ⟨A', c', rfl, hD4, ht4⟩)
      | (go_at_call 52; refine (rturn_calls (by first | exact HD2.out.drewN _ | exact HD2.out.drew) HG.out).mono ?_; rintro e w3 ⟨rfl, hD3, ht3⟩; rw [z5]; have HNE := Aside0.mk (hD3.rowNe (Nat.le_refl _)); have s0 := fun o => (hD3.alloc o).c0; obtain ⟨r, off, y, rfl, hy, hrq, hrl, k0, k1, k2, -⟩ := hD3.at_ (pos n d.L) (by rw [HL.out]; exact HLT.out); simp only [HL.out] at s0; rw [HL.out, HA.out] at hy; obtain rfl := Option.some.inj hy; clear hy; dsimp only at k0 k1 k2; have hrn : w3.heap.size ≠ r := (by omega); have kk0 := fun o => (((Below.refl _ w3).alloc (Nat.le_refl _) o).cell (p := ⟨r, off + pos n d.L * 3, none⟩) hrl).trans k0; have kk1 := fun o => (((Below.refl _ w3).alloc (Nat.le_refl _) o).cell (p := ⟨r, off + pos n d.L * 3 + 1, none⟩) hrl).trans k1; have kk2 := fun o => (((Below.refl _ w3).alloc (Nat.le_refl _) o).cell (p := ⟨r, off + pos n d.L * 3 + 2, none⟩) hrl).trans k2; have HD3 := Aside0.mk hD3; have HS3 := Aside0.mk (Nat.le_trans HT2.out.two.size ht3.two.size); have HT3 := Aside0.mk (RT.trans (by first | exact HT2.out.drewN _ | exact HT2.out.drew) ht3); clear hD3 ht3)
      | go_in)
    go_ret
    exact ⟨A', c', rfl, hD4, (HT3.out.alloc _).trans ht4⟩
  · have hget : get n d.L = ([], 0) := get_none (has_none b3)
    rw [hget] at b6 ⊢
    simp only [List.nil_append]
    have b6' : (0 : Nat) + s.length ≤ 9223372036854775807 := by simpa using b6
    clear hD g hn e hs h1 h2 h3 h4 h5 hL hgl hfl b6 hget
    go_enter Try.func41, Try.ntmps41
    go_wp2_with (first
      | (go_at_call 54; refine (refName_calls n HN.out _ (HZ.out _ HD1.out)).mono ?_; rintro e w2 ⟨rfl, hb2⟩; have HD2 := Aside0.mk (HD1.out.below hb2); have HT2 := Aside0.mk (HT1.out.trans (RT.below hb2)); have c3 := HD2.out.c3; rw [g0] at c3; have c0 := HD2.out.c0; have c1 := HD2.out.c1; clear hb2)
      | (go_at_call 56; refine (find_calls HD.out HG.out n).mono ?_; rintro e w1 ⟨rfl, hD1, hb1⟩; rw [b3]; have HS := Aside0.mk hb1.size; have HD1 := Aside0.mk hD1; have HT1 := Aside0.mk (RT.below (q := q) (A := A) hb1); clear hD1 hb1)
      | go_in)
    go_quiet ((go_at_call 42; exact Calls.quiet_of_same (rused_calls (by first | exact HD2.out.drewN _ | exact HD2.out.drew | exact HD2.out) HG.out)))
    go_wp2_with (first
      | (go_at_call 53; refine (rput_calls (HD3.out.alloc _) HG3.out (n, (s, 0))).mono ?_; rintro e w4 ⟨A', c', rfl, hD4, ht4⟩)
      | (go_at_call 52; refine (rturn_calls (by first | exact HD2.out.drewN _ | exact HD2.out.drew) HG.out).mono ?_; rintro e w3 ⟨rfl, hD3, ht3⟩; rw [z5]; have HNE := Aside0.mk (hD3.rowNe (Nat.le_refl _)); have HD3 := Aside0.mk hD3; have HS3 := Aside0.mk (Nat.le_trans HT2.out.two.size ht3.two.size); have HT3 := Aside0.mk (RT.trans (by first | exact HT2.out.drewN _ | exact HT2.out.drew) ht3); clear hD3 ht3)
      | go_in)
    go_ret
    exact ⟨A', c', rfl, hD4, (HT3.out.alloc _).trans ht4⟩
end Go.Proofs.Ytdkmdicmipcifaa.Disk
