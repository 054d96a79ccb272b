import Derived.Test.YtdkmdicmipcifaaRefAlike
import Derived.Test.YtdkmdicmipcifaaRefActs
import Derived.Test.YtdkmdicmipcifaaDiskDoes
import Derived.Deep.RegionHeld3
namespace Go.Proofs.Ytdkmdicmipcifaa.Disk
open Go Go.RowKit Go.Maps Go.Proofs.YtdkmdicmipcifaaW.PrintWords Go.Proofs.YtdkmdicmipcifaaW.PrintLast Go.Proofs.YtdkmdicmipcifaaW.PrintMore
open Go.Proofs.Ytdkmdicmipcifaa.Pure (mk mk_size mk_app mk_toList mk_dataList mk_ext_from wrap_in)
attribute [local go_sem] mk_size mk_app mk_toList
def SixAt (g off : Nat) (x : Act') (v : Value) (w : World) : Prop :=
  w.cell? ⟨g, off, none⟩ = some (.int .i64 x.op) ∧ w.cell? ⟨g, off + 1, none⟩ = some (.int .i64 x.n) ∧ w.cell? ⟨g, off + 2, none⟩ = some (.string (mk x.name)) ∧ w.cell? ⟨g, off + 3, none⟩ = some (.string (mk x.other)) ∧ w.cell? ⟨g, off + 4, none⟩ = some (.string (mk x.s)) ∧ w.cell? ⟨g, off + 5, none⟩ = some v
theorem ActAt.six {w : World} {B g off : Nat} {x : Act'} {v : Value} (h : ActAt w B g off x v) : SixAt g off x v w := ⟨h.c0, h.c1, h.c2, h.c3, h.c4, h.c5⟩
theorem RT.nrow' {q p : Nat} {A A' : Option Addr} {w w' : World} (h : RT q A A' w w') (h2 : rowB q A ≠ p) (hr : p < w.heap.size) : rowB q A' ≠ p := by
  rcases h.nx with e | e
  · rw [e]; exact h2
  · omega
theorem Apart.next {w w' : World} {p b q : Nat} {A A' : Option Addr} (h : Apart p b q A) (hr : RT q A A' w w') (hp : p < w.heap.size) (hb : b < w.heap.size) : Apart p b q A' :=
  ⟨h.qp, h.qb, hr.nrow' h.rp hp, hr.nrow' h.rb hb⟩
theorem RT.under {w w' : World} {q B : Nat} {A A' : Option Addr} (h : RT q A A' w w') (hw : B ≤ w.heap.size) (hq : B ≤ q) (hr : B ≤ rowB q A) : Below B w w' := h.two.under hw hq hr
theorem RT.rowLe {w w' : World} {q B : Nat} {A A' : Option Addr} (h : RT q A A' w w') (hw : B ≤ w.heap.size) (hr : B ≤ rowB q A) : B ≤ rowB q A' := by
  rcases h.nx with e | e
  · rw [e]; exact hr
  · omega
set_option maxHeartbeats 8000000 in
set_option maxRecDepth 100000 in
theorem plays_walk {w : World} (room : Int) (A : Option Addr) (c : Nat) (l : List Act') (h : Acts w w.heap.size A l) (_hr : (Lit.int .i64 room).wf = true) :
    Calls Try.prog 6 #[.int .i64 room, .slice A l.length c] w fun e w' => e = .returned (.bool true) ∧ Below w.heap.size w w' := by
  have HA := Aside0.mk h
  clear h
  by_cases hs : smallA l = false
  · have b0 : (!smallA l) = true := by rw [hs]; rfl
    clear hs
    go_enter Try.func6, Try.ntmps6
    go_wp2_with (first
      | (go_at_call 10; refine (small_calls A c l (HA.out.below HB1.out)).mono ?_; rintro e wz ⟨rfl, hw⟩; obtain rfl : w1 = wz := hw.symm)
      | (go_at_call 9; refine (shown_calls _).mono ?_; rintro e w1 ⟨rfl, hb⟩; have HB1 := Aside0.mk hb; clear hb)
      | go_in)
    go_ret
    exact ⟨rfl, HB1.out⟩
  have hs' : smallA l = true := by simpa using hs
  have b0 : (!smallA l) = false := by rw [hs']; rfl
  unfold smallA at hs'
  simp only [Bool.and_eq_true, decide_eq_true_eq, List.all_eq_true] at hs'
  have HS := Aside0.mk hs'
  clear hs hs'
  by_cases hr : room < 0 ∨ room > 10000000
  · clear HS
    have HRM := Aside0.mk hr
    clear hr
    go_enter Try.func6, Try.ntmps6
    go_wp2_with (first
      | (go_at_call 22; refine (rnew_err room HRM.out).mono ?_; rintro e wz ⟨rfl, hw⟩; obtain rfl : w1 = wz := hw.symm)
      | (go_at_call 21; refine (new_err room HRM.out).mono ?_; rintro e wz ⟨rfl, hw⟩; obtain rfl : w1 = wz := hw.symm)
      | (go_at_call 10; refine (small_calls A c l (HA.out.below HB1.out)).mono ?_; rintro e wz ⟨rfl, hw⟩; obtain rfl : w1 = wz := hw.symm)
      | (go_at_call 9; refine (shown_calls _).mono ?_; rintro e w1 ⟨rfl, hb⟩; have HB1 := Aside0.mk hb; clear hb)
      | go_in)
    go_ret
    exact ⟨rfl, HB1.out⟩
  have HRM := Aside0.mk (show 0 ≤ room ∧ room ≤ 10000000 by omega)
  clear hr
  go_enter Try.func6, Try.ntmps6
  go_wp2_with (first
    | (go_at_call 22; refine (rnew_calls room HRM.out.1 HRM.out.2).mono ?_; rintro e w3 ⟨rfl, hR, hb⟩; have HAP := Aside0.mk (show Apart (w1.heap.size + 1) w1.heap.size w2.heap.size none from ⟨by have := HD2.out.lt; omega, by have := HD2.out.lt; omega, by have := HD2.out.lt; show w2.heap.size ≠ _; omega, by have := HD2.out.lt; show w2.heap.size ≠ _; omega⟩); have HD3 := Aside0.mk (HD2.out.below hb); have HR3 := Aside0.mk hR; have HB3 := Aside0.mk (HB2.out.trans (hb.mono HB2.out.size)); clear hR hb)
    | (go_at_call 21; refine (new_calls room HRM.out.1 HRM.out.2).mono ?_; rintro e w2 ⟨rfl, hD, hb⟩; have HD2 := Aside0.mk hD; have HB2 := Aside0.mk (HB1.out.trans (hb.mono HB1.out.size)); clear hD hb)
    | (go_at_call 10; refine (small_calls A c l (HA.out.below HB1.out)).mono ?_; rintro e wz ⟨rfl, hw⟩; obtain rfl : w1 = wz := hw.symm)
    | (go_at_call 9; refine (shown_calls _).mono ?_; rintro e w1 ⟨rfl, hb⟩; have HB1 := Aside0.mk hb; clear hb)
    | go_in)
  have HW := Aside0.mk (show w.heap.size ≤ w1.heap.size ∧ w.heap.size ≤ w2.heap.size from ⟨HB1.out.size, HB2.out.size⟩)
  go_loopw [11] (fun v11 wr => ∃ (i : Nat) (di : Dk) (A' : Option Addr) (c' : Nat), v11 = .int .i64 i ∧ Aside0 (i ≤ l.length) ∧ Aside0 (Good di) ∧ Aside0 (At wr (w1.heap.size + 1) w1.heap.size di) ∧ Aside0 (RAt wr w2.heap.size A' c' di) ∧ Aside0 (Apart (w1.heap.size + 1) w1.heap.size w2.heap.size A') ∧ Aside0 (w.heap.size ≤ rowB w2.heap.size A') ∧ Aside0 (Below w.heap.size w wr)) (fun i _ => l.length - (intOf i).toNat)
  case atStart => exact ⟨0, _, none, 0, rfl, ⟨Nat.zero_le _⟩, ⟨good_new HRM.out.1 HRM.out.2⟩, HD3, HR3, HAP, ⟨HW.out.2⟩, HB3⟩
  case round =>
    obtain ⟨i, di, A', c', rfl, HI, HGi, HDi, HRi, HAi, HLi, HBi⟩ := hrel
    by_cases hi : i < l.length
    · have b1 : decide ((i : Int) < (l.length : Int)) = true := decide_eq_true (by omega)
      have bw : wrap64 ((i : Int) + 1) = ((i + 1 : Nat) : Int) := by have := HS.out.1; rw [w64 (by omega) (by omega)]; rfl
      have q0 : (0 : Int) ≤ (i : Int) := by omega
      have q1 : (i : Int) < (l.length : Int) := by omega
      have HLT := Aside0.mk hi
      obtain ⟨g, off, x, v, rfl, hg, hx, hat⟩ := HA.out i hi
      have HAT := Aside0.mk hat
      have hat := hat.below hg HBi.out
      have HATI := Aside0.mk hat
      have HLX := Aside0.mk (HS.out.2 x (List.mem_of_getElem? hx))
      have HGB := Aside0.mk hg
      obtain ⟨k0, k1, k2, k3, k4, k5⟩ := hat.six
      obtain ⟨a5, c5', hv⟩ := hat.left.shape
      subst hv
      clear hat hx hi
      go_wp2_with fail
      go_region_held3 (fun w' => w'.cell? ⟨g, off + i * 6, none⟩ = some (.int .i64 x.op) ∧ w'.cell? ⟨g, off + i * 6 + 1, none⟩ = some (.int .i64 x.n) ∧ w'.cell? ⟨g, off + i * 6 + 2, none⟩ = some (.string (mk x.name)) ∧ w'.cell? ⟨g, off + i * 6 + 3, none⟩ = some (.string (mk x.other)) ∧ w'.cell? ⟨g, off + i * 6 + 4, none⟩ = some (.string (mk x.s)) ∧ w'.cell? ⟨g, off + i * 6 + 5, none⟩ = some (.slice a5 x.left.length c5')) (first | exact (HAT.out.below HGB.out HB5.out).six | exact (HAT.out.below HGB.out HB4.out).six | exact HATI.out.six | go_keep) (first
        | (go_at_call 23; refine (model_calls HR4.out HGi.out x _ (HAT.out.left.below HB4.out) HW.out.2 HLi.out HLX.out HAT.out.fits).mono ?_; rintro e w5 ⟨A5, c5, rfl, hR5, ht5⟩; have HB5 := Aside0.mk (HB4.out.trans (ht5.under HB4.out.size HW.out.2 HLi.out)); have HD5 := Aside0.mk (HAi.out.at_two HD4.out ht5.two); have HA5 := Aside0.mk (HAi.out.next ht5 HD4.out.lt HD4.out.ltb); have HL5 := Aside0.mk (ht5.rowLe HB4.out.size HLi.out); have HR5 := Aside0.mk hR5; clear hR5 ht5)
        | (go_at_call 20; refine (does_calls HDi.out.drew HGi.out x _ (HAT.out.left.below HBi.out.drew) (Nat.le_succ_of_le HW.out.1) HW.out.1 HLX.out HAT.out.fits).mono ?_; rintro e w4 ⟨rfl, hD4, ht4⟩; have HB4 := Aside0.mk (HBi.out.trans ((Below.refl w.heap.size wr).drew.trans (ht4.under HBi.out.size (Nat.le_succ_of_le HW.out.1) HW.out.1))); have HR4 := Aside0.mk (HAi.out.rat_two HRi.out.drew ht4); have HD4 := Aside0.mk hD4; clear hD4 ht4))
      go_wp2_with (first
        | (go_at_call 24; refine (alike_calls HD5.out HR5.out (good_does HGi.out x HAT.out.fits.2.2) HA5.out).mono ?_; rintro e w6 ⟨rfl, hD6, hR6, ht6⟩)
        | go_in)
      exact ⟨⟨i + 1, _, _, _, by rw [bw], ⟨HLT.out⟩, ⟨good_does HGi.out x HAT.out.fits.2.2⟩, ⟨hD6⟩, ⟨hR6⟩, HA5, HL5, ⟨HB5.out.trans (ht6.under HB5.out.size (Nat.le_succ_of_le HW.out.1) HW.out.1)⟩⟩, by rw [bw]; have := HLT.out; simp only [intOf]; omega⟩
    · have b1 : decide ((i : Int) < (l.length : Int)) = false := decide_eq_false (by omega)
      go_wp2
      go_ret
      exact ⟨rfl, HBi.out⟩
end Go.Proofs.Ytdkmdicmipcifaa.Disk
