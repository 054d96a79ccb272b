import Derived.Test.YtdkmdicmipcifaaRefWalk7
namespace Go.Proofs.Ytdkmdicmipcifaa.Disk
open Go Go.RowKit Go.Maps Go.Proofs.YtdkmdicmipcifaaW.PrintWords Go.Proofs.YtdkmdicmipcifaaW.PrintLast Go.Proofs.YtdkmdicmipcifaaW.PrintMore
open Go.Proofs.Ytdkmdicmipcifaa.Pure (mk mk_size mk_app mk_toList mk_dataList mk_ext_from wrap_in)
attribute [local go_sem] mk_size mk_app mk_toList
theorem AtDrewN {w : World} {p b : Nat} {d : Dk} (h : At w p b d) (n : Nat) : At (w.drewN n) p b d := h.below (Drawn0.below ⟨⟨n, rfl⟩⟩)
theorem drewN_below {w : World} (n : Nat) : Below w.heap.size w (w.drewN n) := Drawn0.below ⟨⟨n, rfl⟩⟩
structure Apart (p b q : Nat) (A : Option Addr) : Prop where
  qp : q ≠ p
  qb : q ≠ b
  rp : rowB q A ≠ p
  rb : rowB q A ≠ b
theorem Apart.at_two {w w' : World} {p b q : Nat} {A : Option Addr} {d : Dk} (h : Apart p b q A) (hD : At w p b d) (ht : Two q (rowB q A) w w') : At w' p b d :=
  hD.keep ht.size (ht.block _ hD.lt (Ne.symm h.qp) (Ne.symm h.rp)) (ht.block _ hD.ltb (Ne.symm h.qb) (Ne.symm h.rb))
theorem Apart.rat_two {w w' : World} {p b q c : Nat} {A : Option Addr} {d : Dk} (h : Apart p b q A) (hR : RAt w q A c d) (ht : Two p b w w') : RAt w' q A c d :=
  hR.two ht h.qp h.qb h.rp h.rb
set_option maxHeartbeats 8000000 in
set_option maxRecDepth 100000 in
theorem alike_calls {w : World} {p b q c : Nat} {A : Option Addr} {d : Dk} (hD : At w p b d) (hR : RAt w q A c d) (g : Good d) (ha : Apart p b q A) :
    Calls Try.prog 24 #[.pointer (some ⟨p, 0, none⟩), .pointer (some ⟨q, 0, none⟩)] w fun e w' => e = .returned (.bool true) ∧ At w' p b d ∧ RAt w' q A c d ∧ Two p b w w' := by
  have HD := Aside0.mk hD
  have HR := Aside0.mk hR
  have HG := Aside0.mk g
  have HA := Aside0.mk ha
  have hm := g.many
  have HP := Aside0.mk (And.intro hD.lt hD.ltb)
  clear hD hR g ha
  go_enter Try.func24, Try.ntmps24
  go_wp2_with (first
    | (go_at_call 13; refine (names_calls HD.out HG.out).mono ?_; rintro e w1 ⟨vn, rfl, hS, hb⟩; obtain ⟨A1, cap, rfl, hcap, hS⟩ := hS.shape; rw [List.length_map] at hcap ⊢; have HD1 := Aside0.mk (HD.out.below hb); have HR1 := Aside0.mk (HR.out.below hb); have HS := Aside0.mk hS; have HB := Aside0.mk hb; have c0 := HR1.out.c0; have c3 := HR1.out.c3; clear hS hb hcap)
    | go_in)
  go_quiet (first
    | ((go_at_call 26; exact Calls.quiet_of_same (used_calls (by first | exact AtDrewN HD1.out _ | exact HD1.out.drew | exact HD1.out))))
    | ((go_at_call 25; exact Calls.quiet_of_same (dead_calls (by first | exact AtDrewN HD1.out _ | exact HD1.out.drew | exact HD1.out))))
    | ((go_at_call 42; exact Calls.quiet_of_same (rused_calls (by first | exact HR1.out.drewN _ | exact HR1.out.drew | exact HR1.out) HG.out))))
  go_wp2
  go_loopw [6] (fun v6 wr => ∃ (i : Nat), v6 = .int .i64 i ∧ Aside0 (i ≤ d.L.length) ∧ Aside0 (At wr p b d) ∧ Aside0 (RAt wr q A c d) ∧ Aside0 (StrsA wr w.heap.size A1 (d.L.map (·.1))) ∧ Aside0 (Two p b w wr)) (fun i _ => d.L.length - (intOf i).toNat)
  case atStart =>
    exact ⟨0, rfl, ⟨Nat.zero_le _⟩, ⟨by first | exact AtDrewN HD1.out _ | exact HD1.out.drew⟩, ⟨by first | exact HR1.out.drewN _ | exact HR1.out.drew⟩, ⟨by first | exact HS.out.two (Two.below (p := p) (b := b) (drewN_below _)) HP.out.1 HP.out.2 | exact HS.out.two (Two.drew (Two.refl p b _)) HP.out.1 HP.out.2⟩, ⟨by first | exact (Two.below (p := p) (b := b) HB.out).trans (Two.below (drewN_below _)) | exact (Two.below (p := p) (b := b) HB.out).drew⟩⟩
  case round =>
    obtain ⟨i, rfl, HI, HDi, HRi, HSi, HTi⟩ := hrel
    by_cases hi : i < d.L.length
    · have b1 : decide ((i : Int) < (d.L.length : Int)) = true := decide_eq_true (by omega)
      have bw : wrap64 ((i : Int) + 1) = ((i + 1 : Nat) : Int) := by rw [w64 (by omega) (by omega)]; rfl
      have q0 : (0 : Int) ≤ (i : Int) := by omega
      have q1 : (i : Int) < (d.L.length : Int) := by omega
      have HLT := Aside0.mk hi
      have HLM := Aside0.mk (show i < (d.L.map (·.1)).length by rw [List.length_map]; exact hi)
      obtain ⟨y, hy⟩ : ∃ y, d.L[i]? = some y := ⟨_, List.getElem?_eq_getElem hi⟩
      have hnm : (d.L.map (·.1)).getD i [] = y.1 := by rw [List.getD_eq_getElem?_getD, List.getElem?_map, hy]; rfl
      have HN := Aside0.mk (show y.1.length ≤ maxLen by
        have := HG.out.names y (List.mem_of_getElem? hy)
        unfold nameOk at this
        simp only [Bool.and_eq_true, decide_eq_true_eq] at this
        unfold maxLen; omega)
      have HNM := Aside0.mk hnm
      have HY := Aside0.mk hy
      have hcell : ∀ W, StrsA W w.heap.size A1 (d.L.map (·.1)) → ∃ gb, A1 = some ⟨gb, 0, none⟩ ∧ W.cell? ⟨gb, i, none⟩ = some (.string (mk y.1)) := fun W h => by
        obtain ⟨gb, hA, _, hc⟩ := h i HLM.out
        rw [HNM.out] at hc
        exact ⟨gb, hA, hc⟩
      have HC := Aside0.mk hcell
      have hrow : ∀ W, RAt W q A c d → ∃ r off, A = some ⟨r, off, none⟩ ∧ W.cell? ⟨r, off + i * 3, none⟩ = some (.string (mk y.1)) := fun W h => by
        obtain ⟨r, off, y', hA, hy', _, _, k0, _⟩ := h.at_ i HLT.out
        rw [HY.out] at hy'
        obtain rfl := Option.some.inj hy'
        exact ⟨r, off, hA, k0⟩
      have HRW := Aside0.mk hrow
      clear hi hnm hy hm hcell hrow
      obtain ⟨gb, rfl, hc1⟩ := HC.out wr HSi.out
      go_wp2_with (first
        | (go_at_call 43; refine (rread_calls HR2.out HG.out y.1).mono ?_; rintro e w3 ⟨rfl, hR3, hb3⟩; have HD3 := Aside0.mk (HD2.out.below hb3); have HS3 := Aside0.mk (HS2.out.two (Two.below (p := p) (b := b) hb3) HP.out.1 HP.out.2); have HT3 := Aside0.mk (HT2.out.trans (Two.below hb3)); have s0 := hR3.c0; obtain ⟨gb', hgb', hc3⟩ := HC.out _ HS3.out; cases hgb'; obtain ⟨r, off, rfl, k0⟩ := HRW.out _ hR3; have HR3 := Aside0.mk hR3; clear hR3 hb3)
        | (go_at_call 12; refine (read_calls HDi.out HG.out y.1 HN.out).mono ?_; rintro e w2 ⟨rfl, hD2, ht2⟩; have HR2 := Aside0.mk (HA.out.rat_two HRi.out ht2); have HS2 := Aside0.mk (HSi.out.two ht2 HP.out.1 HP.out.2); have HT2 := Aside0.mk (HTi.out.trans ht2); obtain ⟨gb', hgb', hc2⟩ := HC.out _ HS2.out; cases hgb'; have HD2 := Aside0.mk hD2; clear hD2 ht2)
        | go_in)
      go_quiet (fail)
      go_wp2
      exact ⟨⟨i + 1, by rw [bw], ⟨HLT.out⟩, ⟨AtDrewN HD3.out _⟩, ⟨HR3.out.drewN _⟩, ⟨HS3.out.two (Two.below (drewN_below _)) HP.out.1 HP.out.2⟩, ⟨HT3.out.trans (Two.below (drewN_below _))⟩⟩, by rw [bw]; have := HLT.out; simp only [intOf]; omega⟩
    · have b1 : decide ((i : Int) < (d.L.length : Int)) = false := decide_eq_false (by omega)
      clear hm
      go_wp2
      go_ret
      exact ⟨rfl, HDi.out, HRi.out, HTi.out⟩
end Go.Proofs.Ytdkmdicmipcifaa.Disk
