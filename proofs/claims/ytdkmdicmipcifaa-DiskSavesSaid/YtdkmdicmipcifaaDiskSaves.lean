import Derived.Test.YtdkmdicmipcifaaDiskBegun
import Derived.Test.YtdkmdicmipcifaaDiskTurns
import Derived.Maps.AppendAt
import Derived.OwnWalk
namespace Go.Proofs.Ytdkmdicmipcifaa.Disk
open Go Go.RowKit Go.Maps Go.Proofs.YtdkmdicmipcifaaW.PrintWords Go.Proofs.YtdkmdicmipcifaaW.PrintLast Go.Proofs.YtdkmdicmipcifaaW.PrintMore
open Go.Proofs.Ytdkmdicmipcifaa.Pure (mk mk_size mk_app mk_toList mk_dataList mk_ext_from wrap_in)
attribute [local go_sem] mk_size mk_app mk_toList mk_45
theorem info_str : (Try.prog.info? 9).map (fun i => (i.zero, i.size, i.bytes)) = some (some (.string ByteArray.empty), 1, 16) := by kernel_rfl
theorem owns_two {w w' : World} {p b base : Nat} {v : Value} {n : Nat} {xs : List Value} (h : w.ownsRow base 9 1 v n xs) (ht : Two p b w w') (hp : p < base) (hb : b < base) : w'.ownsRow base 9 1 v n xs := by
  obtain ⟨h1, h2⟩ := h
  refine ⟨h1, ?_⟩
  rcases h2 with h2 | ⟨g, cap, cur, hv, hg, hh, r⟩
  · exact .inl h2
  · exact .inr ⟨g, cap, cur, hv, hg, ht.row hh (by omega) (by omega), r⟩
theorem At.grown {w w' : World} {p b base : Nat} {d : Dk} {row : Option Nat} (h : At w p b d) (hg : w.grownBy w' row) (hr : ∀ k, row = some k → base ≤ k) (hp : p < base) (hb : b < base) : At w' p b d :=
  h.keep hg.size (hg.block p h.lt (fun e => by have := hr p e.symm; omega)) (hg.block b h.ltb (fun e => by have := hr b e.symm; omega))
theorem Two.grown {p b : Nat} {x w w' : World} {row : Option Nat} (h : Two p b x w) (hg : w.grownBy w' row) (hr : ∀ k, row = some k → x.heap.size ≤ k) : Two p b x w' :=
  ⟨hg.os.trans h.os, hg.tape.trans h.tape, hg.output.trans h.output, Nat.le_trans h.size hg.size, fun k hk h1 h2 => (hg.block k (Nat.lt_of_lt_of_le hk h.size) (fun e => by have := hr k e.symm; omega)).trans (h.block k hk h1 h2)⟩
def bts (d : Dk) (k : Nat) : List Value := ((d.L.map (·.1)).take k).map fun m => .string (mk (read d m).1)
theorem bts_succ (d : Dk) {k : Nat} (h : k < d.L.length) : bts d (k + 1) = bts d k ++ [.string (mk (read d ((d.L.map (·.1)).getD k [])).1)] := by
  unfold bts
  rw [List.take_add_one, List.map_append]
  congr 1
  rw [List.getElem?_eq_getElem (by simpa using h), List.getD_eq_getElem?_getD, List.getElem?_eq_getElem (by simpa using h)]
  rfl
theorem name_le {d : Dk} (g : Good d) {k : Nat} (h : k < d.L.length) : ((d.L.map (·.1)).getD k []).length ≤ 60 := by
  have hm : (d.L.map (·.1)).getD k [] ∈ d.L.map (·.1) := by
    rw [List.getD_eq_getElem?_getD, List.getElem?_eq_getElem (by simpa using h)]
    exact List.getElem_mem _
  obtain ⟨y, hy, e⟩ := List.mem_map.1 hm
  have := g.names y hy
  rw [e] at this
  unfold nameOk at this
  simp only [Bool.and_eq_true, decide_eq_true_eq] at this
  exact this.1.2
set_option maxHeartbeats 16000000 in
set_option maxRecDepth 100000 in
theorem saves_walk {w : World} (A : Option Addr) (c : Nat) (l : List Act') (h : Acts w w.heap.size A l) (n s : Bs) (tn : Int) (vl : Value) (left : List Int) (hvl : IntsB w w.heap.size vl left) (_hn : n.length ≤ 1000000000000000) (_hs : s.length ≤ 1000000000000000) (htn : (Lit.int .i64 tn).wf = true) :
    Calls Try.prog 3 #[.slice A l.length c, .string (mk n), .string (mk s), .int .i64 tn, vl] w fun e w' => e = .returned (.bool true) ∧ Below w.heap.size w w' := by
  have HA := Aside0.mk h
  obtain ⟨k, hk, hk1⟩ := pickV_rng0 tn 7 (by decide)
  have HK := Aside0.mk hk
  have HK1 := Aside0.mk hk1
  have HTN := Aside0.mk (wf_rng htn)
  obtain ⟨al, cl, hv⟩ := hvl.shape
  subst hv
  have HVL := Aside0.mk hvl
  clear h _hn _hs htn hk hk1 hvl
  by_cases hs : smallA l = false
  · have b0 : (!smallA l) = true := by rw [hs]; rfl
    clear hs
    go_enter Try.func3, Try.ntmps3
    go_wp2_with (first
      | (go_at_call 10; refine (small_calls A c l (HA.out.below HB1.out)).mono ?_; rintro e wz ⟨rfl, hw⟩; obtain rfl : w1 = wz := hw.symm)
      | (go_at_call 9; refine (shown_calls _).mono ?_; rintro e w1 ⟨rfl, hb⟩; have HB1 := Aside0.mk hb; clear hb)
      | go_in)
    go_ret
    exact ⟨rfl, HB1.out⟩
  have hs' : smallA l = true := by simpa using hs
  have HS := Aside0.mk hs'
  have b0 : (!smallA l) = false := by rw [hs']; rfl
  clear hs hs'
  by_cases ha : (n.length : Int) > 59
  · have b1 : decide ((n.length : Int) > 59) = true := decide_eq_true ha
    clear ha
    go_enter Try.func3, Try.ntmps3
    go_wp2_with (first
      | (go_at_call 10; refine (small_calls A c l (HA.out.below HB1.out)).mono ?_; rintro e wz ⟨rfl, hw⟩; obtain rfl : w1 = wz := hw.symm)
      | (go_at_call 9; refine (shown_calls _).mono ?_; rintro e w1 ⟨rfl, hb⟩; have HB1 := Aside0.mk hb; clear hb)
      | go_in)
    go_ret
    exact ⟨rfl, HB1.out⟩
  have b1 : decide ((n.length : Int) > 59) = false := decide_eq_false ha
  by_cases hb : (s.length : Int) > 300
  · have b2 : decide ((s.length : Int) > 300) = true := decide_eq_true hb
    clear ha hb
    go_enter Try.func3, Try.ntmps3
    go_wp2_with (first
      | (go_at_call 10; refine (small_calls A c l (HA.out.below HB1.out)).mono ?_; rintro e wz ⟨rfl, hw⟩; obtain rfl : w1 = wz := hw.symm)
      | (go_at_call 9; refine (shown_calls _).mono ?_; rintro e w1 ⟨rfl, hb⟩; have HB1 := Aside0.mk hb; clear hb)
      | go_in)
    go_ret
    exact ⟨rfl, HB1.out⟩
  have b2 : decide ((s.length : Int) > 300) = false := decide_eq_false hb
  by_cases hc : (left.length : Int) > 100
  · have b3 : decide ((left.length : Int) > 100) = true := decide_eq_true hc
    clear ha hb hc
    go_enter Try.func3, Try.ntmps3
    go_wp2_with (first
      | (go_at_call 10; refine (small_calls A c l (HA.out.below HB1.out)).mono ?_; rintro e wz ⟨rfl, hw⟩; obtain rfl : w1 = wz := hw.symm)
      | (go_at_call 9; refine (shown_calls _).mono ?_; rintro e w1 ⟨rfl, hb⟩; have HB1 := Aside0.mk hb; clear hb)
      | go_in)
    go_ret
    exact ⟨rfl, HB1.out⟩
  have b3 : decide ((left.length : Int) > 100) = false := decide_eq_false hc
  have HLA := Aside0.mk (show n.length ≤ 59 ∧ s.length ≤ 300 ∧ left.length ≤ 100 by omega)
  have HNL := Aside0.mk (show n.length ≤ maxLen by unfold maxLen; omega)
  have cln : Clean (bg l) := clean_bg HA.out HS.out
  obtain ⟨m1, m2, m3⟩ := law_saves cln n s (k : Int) (by have := HK1.out; omega) left
  have M1 := Aside0.mk m1
  have M2 := Aside0.mk m2
  have M3 := Aside0.mk m3
  have HMY := Aside0.mk cln.many
  obtain ⟨i0, hi0, hz0, hz1, hz2⟩ := info_parts info_str
  have b45 : n.length + 1 ≤ 9223372036854775807 := by omega
  clear ha hb hc cln m1 m2 m3
  go_enter Try.func3, Try.ntmps3
  go_wp2_with (first
    | (go_at_call 13; refine (names_calls HD3.out HC.out.toGood).mono ?_; rintro e w4 ⟨vn, rfl, hS, hb⟩; obtain ⟨An, cn, rfl, hcn, hS⟩ := hS.shape; rw [List.length_map]; have HS4 := Aside0.mk hS; have HD4 := Aside0.mk (HD3.out.below hb); have HT4 := Aside0.mk (HT3.out.trans (Two.below (p := w1.heap.size + 1) (b := w1.heap.size) hb)); have HPB := Aside0.mk (And.intro HD3.out.lt HD3.out.ltb); have HW34 := Aside0.mk hb.size; clear hS hb hcn)
    | (go_at_call 12; (try (refine gate_guard (by rfl) ?_; dsimp only)); refine (read_calls HD2.out HC.out.toGood n HNL.out).mono ?_; rintro e w3 ⟨rfl, hD, ht⟩; have HD3 := Aside0.mk hD; have HT3 := Aside0.mk (HT2.out.trans ht); clear hD ht)
    | (go_at_call 11; refine (begun_calls A c l (HA.out.below HB1.out) HB1.out.size HS.out).mono ?_; rintro e w2 ⟨rfl, hD, hc, hb⟩; have HD2 := Aside0.mk hD; have HC := Aside0.mk hc; have HB2 := Aside0.mk hb; have HT2 := Aside0.mk (Two.refl (w1.heap.size + 1) w1.heap.size w2); clear hD hc hb)
    | (go_at_call 10; refine (small_calls A c l (HA.out.below HB1.out)).mono ?_; rintro e wz ⟨rfl, hw⟩; obtain rfl : w1 = wz := hw.symm)
    | (go_at_call 9; refine (shown_calls _).mono ?_; rintro e w1 ⟨rfl, hb⟩; have HB1 := Aside0.mk hb; clear hb)
    | go_in)
  go_loopw [17, 18] (fun v17 v18 wr => ∃ (i : Nat), v18 = .int .i64 i ∧ Aside0 (i ≤ (bg l).L.length) ∧ Aside0 (wr.ownsRow w4.heap.size 9 1 v17 i (bts (bg l) i)) ∧ Aside0 (At wr (w1.heap.size + 1) w1.heap.size (bg l)) ∧ Aside0 (Two (w1.heap.size + 1) w1.heap.size w4 wr)) (fun _ i _ => (bg l).L.length - (intOf i).toNat)
  case atStart => exact ⟨0, rfl, ⟨Nat.zero_le _⟩, ⟨World.ownsRow_nil _ _ _ _⟩, HD4, ⟨Two.refl _ _ _⟩⟩
  case round =>
    obtain ⟨i, rfl, HI, HOW, HDi, HTi⟩ := hrel
    have bw : wrap64 ((i : Int) + 1) = ((i + 1 : Nat) : Int) := by have := HI.out; have := HMY.out; rw [w64 (by omega) (by omega)]; rfl
    by_cases hi : i < (bg l).L.length
    · have q0 : (0 : Int) ≤ (i : Int) := by omega
      have q1 : (i : Int) < ((bg l).L.length : Int) := by omega
      have q2 : decide ((i : Int) < ((bg l).L.length : Int)) = true := decide_eq_true q1
      obtain ⟨gn, rfl, hgn, hcell⟩ := (HS4.out.two HTi.out HPB.out.1 HPB.out.2) i (by rw [List.length_map]; exact hi)
      have hnl := name_le HC.out.toGood hi
      have hbs := bts_succ (bg l) hi
      generalize List.getD ((bg l).L.map (·.1)) i [] = nmi at hcell hnl hbs
      have HNM := Aside0.mk (show nmi.length ≤ maxLen by unfold maxLen; omega)
      have HBS := Aside0.mk hbs
      clear hnl hbs
      go_wp2_with (first
        | (at_builtin; refine wpList_append_own _ rfl _ _ 31 rfl w4.heap.size 9 i0 (.string ByteArray.empty) 1 16 Try.underlying31 hi0 hz0 hz1 hz2 rfl (by decide) _ _ _ rfl (HOW2.out.alloc _) ⟨w5.heap.size, 0, none⟩ 1 1 [.string (mk (read (bg l) nmi).1)] rfl rfl (cell_one_new _ _ _) (fun x hx => by simp at hx; subst hx; rfl) (by have := HI.out; have := HMY.out; unfold maxLen; omega) (by have := HI.out; have := HMY.out; omega) (by have := HTi.out.size; have := HT5.out.size; simp; omega) ?_; intro v' w6 hown' hgrow6 hnil6)
        | (go_at_call 12; refine (read_calls HDi.out HC.out.toGood nmi HNM.out).mono ?_; rintro e w5 ⟨rfl, hD, ht⟩; have HD5 := Aside0.mk hD; have HT5 := Aside0.mk ht; have HOW2 := Aside0.mk (owns_two HOW.out ht (by have := HPB.out; have := HW34.out; omega) (by have := HPB.out; have := HW34.out; omega)); clear hD ht)
        | go_in)
      have hrow : ∀ q, Value.ownBlock u17 = some q → w4.heap.size ≤ q := fun q hq => (HOW.out.lt q hq).1
      rw [← HBS.out] at hown'
      exact ⟨⟨i + 1, by rw [bw], ⟨hi⟩, ⟨hown'⟩, ⟨At.grown (HD5.out.alloc _) hgrow6 hrow (by have := HPB.out; have := HW34.out; omega) (by have := HPB.out; have := HW34.out; omega)⟩, ⟨Two.grown ((HTi.out.trans HT5.out).alloc _) hgrow6 hrow⟩⟩, by rw [bw]; simp only [intOf]; omega⟩
    · obtain rfl : i = (bg l).L.length := by have := HI.out; omega
      obtain ⟨wa, hwa⟩ : ∃ wa, wa = wr := ⟨_, rfl⟩
      subst hwa
      have q2 : decide (((bg l).L.length : Int) < ((bg l).L.length : Int)) = false := decide_eq_false (by omega)
      have hbl : bts (bg l) (bg l).L.length = (((bg l).L.map (·.1)).map fun m => (read (bg l) m).1).map encStr := by
        unfold bts
        rw [List.take_of_length_le (by rw [List.length_map]; exact Nat.le_refl _)]
        simp only [List.map_map]
        rfl
      have hll : (((bg l).L.map (·.1)).map fun m => (read (bg l) m).1).length = (bg l).L.length := by rw [List.length_map, List.length_map]
      have hsb := HOW.out
      rw [hbl] at hsb
      have hsb2 : Strs wa w4.heap.size u17 (((bg l).L.map (·.1)).map fun m => (read (bg l) m).1) := Strs.of_row (by rw [hll]; exact hsb)
      obtain ⟨Ab, cb, rfl, hcb, hSB⟩ := hsb2.shape
      have HSB := Aside0.mk hSB
      have HLL := Aside0.mk hll
      have hbw : Below w.heap.size w wa := (HB1.out.trans (HB2.out.mono HB1.out.size)).trans ((HT4.out.trans HTi.out).under (B := w.heap.size) (by have := HB1.out.size; have := HB2.out.size; omega) (by have := HB1.out.size; omega) HB1.out.size)
      have HLI := Aside0.mk ((HVL.out.below hbw).ints (p := w1.heap.size + 1) (b := w1.heap.size) (by have := HB1.out.size; omega) HB1.out.size)
      clear hbw
      rw [hll]
      clear hbl hll hsb hsb2 hSB hcb
      by_cases hE : (save (limit (bg l) (k : Int)) n s).2 = 0
      · have bE : ((save (limit (bg l) (k : Int)) n s).2 == 0) = true := by rw [hE]; rfl
        have HM2 := Aside0.mk (M2.out hE)
        clear hE
        go_wp2_with (first
          | (go_at_call 12; refine (read_calls HD9.out (good_crash (good_save (good_limit HC.out.toGood (show (k : Int) ≤ 9223372036854775807 by have := HK1.out; omega)) n s) left) n HNL.out).mono ?_; rintro e w10 ⟨rfl, hD, ht⟩; rw [HM2.out]; have HD10 := Aside0.mk hD; have HT10 := Aside0.mk (HT9.out.trans ht); clear hD ht)
          | (go_at_call 17; refine (crash_calls HD8.out (good_save (good_limit HC.out.toGood (show (k : Int) ≤ 9223372036854775807 by have := HK1.out; omega)) n s) _ left (HLI.out.two HT8.out) ⟨_, _, rfl⟩ (by have := HLA.out; omega)).mono ?_; rintro e w9 ⟨rfl, hD, ht⟩; have HD9 := Aside0.mk hD; have HT9 := Aside0.mk (HT8.out.trans ht); clear hD ht)
          | (go_at_call 16; refine (save_calls HD7.out (good_limit HC.out.toGood (show (k : Int) ≤ 9223372036854775807 by have := HK1.out; omega)) n s (by have := HLA.out; omega) (by have := HLA.out; omega)).mono ?_; rintro e w8 ⟨rfl, hD, ht⟩; have HD8 := Aside0.mk hD; have HT8 := Aside0.mk (HT7.out.trans ht); clear hD ht)
          | (go_at_call 14; refine (limit_calls HDi.out (k : Int)).mono ?_; rintro e w7 ⟨rfl, hD, ht⟩; have HD7 := Aside0.mk hD; have HT7 := Aside0.mk ht; clear hD ht)
          | (go_at_call 15; refine (pick_calls tn 7 HTN.out.1 HTN.out.2 (by decide)).mono ?_; rintro e wz ⟨rfl, hw⟩; obtain rfl : wa = wz := hw.symm; rw [HK.out])
          | go_in)
        go_loopw [24] (fun v24 wq => ∃ (j : Nat), v24 = .int .i64 j ∧ Aside0 (j ≤ (bg l).L.length) ∧ Aside0 (At wq (w1.heap.size + 1) w1.heap.size (crash (save (limit (bg l) (k : Int)) n s).1 left)) ∧ Aside0 (Two (w1.heap.size + 1) w1.heap.size wa wq)) (fun j _ => (bg l).L.length - (intOf j).toNat)
        case atStart => exact ⟨0, rfl, ⟨Nat.zero_le _⟩, HD10, HT10⟩
        case round =>
          obtain ⟨j, rfl, HJ, HDj, HTj⟩ := hrel
          have bw2 : wrap64 ((j : Int) + 1) = ((j + 1 : Nat) : Int) := by have := HJ.out; have := HMY.out; rw [w64 (by omega) (by omega)]; rfl
          by_cases hj : j < (bg l).L.length
          · have r0 : (0 : Int) ≤ (j : Int) := by omega
            have r1 : (j : Int) < ((bg l).L.length : Int) := by omega
            have r2 : decide ((j : Int) < ((bg l).L.length : Int)) = true := decide_eq_true r1
            obtain ⟨gn, rfl, hgn, hcell⟩ := (HS4.out.two (HTi.out.trans HTj.out) HPB.out.1 HPB.out.2) j (by rw [List.length_map]; exact hj)
            obtain ⟨gb, rfl, hgb, hcb⟩ := (HSB.out.two HTj.out (by have := HPB.out; have := HW34.out; omega) (by have := HPB.out; have := HW34.out; omega)) j (by rw [HLL.out]; exact hj)
            have hbj : List.getD (((bg l).L.map (·.1)).map fun m => (read (bg l) m).1) j [] = (read (bg l) (List.getD ((bg l).L.map (·.1)) j [])).1 := by
              rw [List.getD_eq_getElem?_getD, List.getElem?_map, List.getD_eq_getElem?_getD, List.getElem?_eq_getElem (show j < ((bg l).L.map (·.1)).length by rw [List.length_map]; exact hj)]; rfl
            rw [hbj] at hcb
            have hnl := name_le HC.out.toGood hj
            have hg1 : gn ≠ w1.heap.size + 1 ∧ gn ≠ w1.heap.size ∧ gb ≠ w1.heap.size + 1 ∧ gb ≠ w1.heap.size := by have := HPB.out; have := HW34.out; omega
            generalize List.getD ((bg l).L.map (·.1)) j [] = nmj at hcell hnl hcb
            have HNM := Aside0.mk (show nmj.length ≤ maxLen by unfold maxLen; omega)
            have HG1 := Aside0.mk hg1
            have HCE := Aside0.mk hcell
            have HCB := Aside0.mk hcb
            clear hbj hnl hg1 hgn hgb
            by_cases e1 : nmj = n
            · have f1 : (nmj == n) = true := by rw [e1]; simp
              have f2 : (nmj != n) = false := by rw [e1]; simp
              clear e1
              go_wp2_with (first
                | (go_at_call 12; refine (read_calls HDj.out (good_crash (good_save (good_limit HC.out.toGood (show (k : Int) ≤ 9223372036854775807 by have := HK1.out; omega)) n s) left) nmj HNM.out).mono ?_; rintro e wx ⟨rfl, hD, ht⟩; have y1 := ht.cell HCE.out HG1.out.1 HG1.out.2.1; have y2 := ht.cell HCB.out HG1.out.2.2.1 HG1.out.2.2.2; have HDx := Aside0.mk hD; have HTx := Aside0.mk ht; clear hD ht)
                | go_in)
              exact ⟨⟨j + 1, by rw [bw2], ⟨hj⟩, HDx, ⟨HTj.out.trans HTx.out⟩⟩, by rw [bw2]; simp only [intOf]; omega⟩
            have f1 : (nmj == n) = false := by simpa using e1
            have f2 : (nmj != n) = true := by simpa using e1
            by_cases e2 : nmj = n ++ [45]
            · have f3 : (nmj == n ++ [45]) = true := by rw [e2]; simp
              have f4 : (nmj != n ++ [45]) = false := by rw [e2]; simp
              clear e1 e2
              go_wp2_with (first
                | (go_at_call 12; refine (read_calls HDj.out (good_crash (good_save (good_limit HC.out.toGood (show (k : Int) ≤ 9223372036854775807 by have := HK1.out; omega)) n s) left) nmj HNM.out).mono ?_; rintro e wx ⟨rfl, hD, ht⟩; have y1 := ht.cell HCE.out HG1.out.1 HG1.out.2.1; have y2 := ht.cell HCB.out HG1.out.2.2.1 HG1.out.2.2.2; have HDx := Aside0.mk hD; have HTx := Aside0.mk ht; clear hD ht)
                | go_in)
              exact ⟨⟨j + 1, by rw [bw2], ⟨hj⟩, HDx, ⟨HTj.out.trans HTx.out⟩⟩, by rw [bw2]; simp only [intOf]; omega⟩
            have f3 : (nmj == n ++ [45]) = false := by simpa using e2
            have f4 : (nmj != n ++ [45]) = true := by simpa using e2
            have HM1 := Aside0.mk (M1.out nmj e1 e2)
            clear e1 e2
            go_wp2_with (first
              | (go_at_call 12; refine (read_calls HDj.out (good_crash (good_save (good_limit HC.out.toGood (show (k : Int) ≤ 9223372036854775807 by have := HK1.out; omega)) n s) left) nmj HNM.out).mono ?_; rintro e wx ⟨rfl, hD, ht⟩; rw [HM1.out]; have y1 := ht.cell HCE.out HG1.out.1 HG1.out.2.1; have y2 := ht.cell HCB.out HG1.out.2.2.1 HG1.out.2.2.2; have HDx := Aside0.mk hD; have HTx := Aside0.mk ht; clear hD ht)
              | go_in)
            exact ⟨⟨j + 1, by rw [bw2], ⟨hj⟩, HDx, ⟨HTj.out.trans HTx.out⟩⟩, by rw [bw2]; simp only [intOf]; omega⟩
          · obtain rfl : j = (bg l).L.length := by have := HJ.out; omega
            have r2 : decide (((bg l).L.length : Int) < ((bg l).L.length : Int)) = false := decide_eq_false (by omega)
            go_wp2
            go_ret
            exact ⟨by first | rfl | (simp; done) | (simp [*]; done), HB1.out.trans ((HB2.out.trans (((HT4.out.trans HTi.out).trans HTj.out).under (B := w1.heap.size) HB2.out.size (by omega) (Nat.le_refl _))).mono HB1.out.size)⟩
      · have bE : ((save (limit (bg l) (k : Int)) n s).2 == 0) = false := by simpa using hE
        have HM3 := Aside0.mk (M3.out hE)
        clear hE
        go_wp2_with (first
          | (go_at_call 12; refine (read_calls HD9.out (good_crash (good_save (good_limit HC.out.toGood (show (k : Int) ≤ 9223372036854775807 by have := HK1.out; omega)) n s) left) n HNL.out).mono ?_; rintro e w10 ⟨rfl, hD, ht⟩; rw [HM3.out]; have HD10 := Aside0.mk hD; have HT10 := Aside0.mk (HT9.out.trans ht); clear hD ht)
          | (go_at_call 17; refine (crash_calls HD8.out (good_save (good_limit HC.out.toGood (show (k : Int) ≤ 9223372036854775807 by have := HK1.out; omega)) n s) _ left (HLI.out.two HT8.out) ⟨_, _, rfl⟩ (by have := HLA.out; omega)).mono ?_; rintro e w9 ⟨rfl, hD, ht⟩; have HD9 := Aside0.mk hD; have HT9 := Aside0.mk (HT8.out.trans ht); clear hD ht)
          | (go_at_call 16; refine (save_calls HD7.out (good_limit HC.out.toGood (show (k : Int) ≤ 9223372036854775807 by have := HK1.out; omega)) n s (by have := HLA.out; omega) (by have := HLA.out; omega)).mono ?_; rintro e w8 ⟨rfl, hD, ht⟩; have HD8 := Aside0.mk hD; have HT8 := Aside0.mk (HT7.out.trans ht); clear hD ht)
          | (go_at_call 14; refine (limit_calls HDi.out (k : Int)).mono ?_; rintro e w7 ⟨rfl, hD, ht⟩; have HD7 := Aside0.mk hD; have HT7 := Aside0.mk ht; clear hD ht)
          | (go_at_call 15; refine (pick_calls tn 7 HTN.out.1 HTN.out.2 (by decide)).mono ?_; rintro e wz ⟨rfl, hw⟩; obtain rfl : wa = wz := hw.symm; rw [HK.out])
          | go_in)
        go_loopw [24] (fun v24 wq => ∃ (j : Nat), v24 = .int .i64 j ∧ Aside0 (j ≤ (bg l).L.length) ∧ Aside0 (At wq (w1.heap.size + 1) w1.heap.size (crash (save (limit (bg l) (k : Int)) n s).1 left)) ∧ Aside0 (Two (w1.heap.size + 1) w1.heap.size wa wq)) (fun j _ => (bg l).L.length - (intOf j).toNat)
        case atStart => exact ⟨0, rfl, ⟨Nat.zero_le _⟩, HD10, HT10⟩
        case round =>
          obtain ⟨j, rfl, HJ, HDj, HTj⟩ := hrel
          have bw2 : wrap64 ((j : Int) + 1) = ((j + 1 : Nat) : Int) := by have := HJ.out; have := HMY.out; rw [w64 (by omega) (by omega)]; rfl
          by_cases hj : j < (bg l).L.length
          · have r0 : (0 : Int) ≤ (j : Int) := by omega
            have r1 : (j : Int) < ((bg l).L.length : Int) := by omega
            have r2 : decide ((j : Int) < ((bg l).L.length : Int)) = true := decide_eq_true r1
            obtain ⟨gn, rfl, hgn, hcell⟩ := (HS4.out.two (HTi.out.trans HTj.out) HPB.out.1 HPB.out.2) j (by rw [List.length_map]; exact hj)
            obtain ⟨gb, rfl, hgb, hcb⟩ := (HSB.out.two HTj.out (by have := HPB.out; have := HW34.out; omega) (by have := HPB.out; have := HW34.out; omega)) j (by rw [HLL.out]; exact hj)
            have hbj : List.getD (((bg l).L.map (·.1)).map fun m => (read (bg l) m).1) j [] = (read (bg l) (List.getD ((bg l).L.map (·.1)) j [])).1 := by
              rw [List.getD_eq_getElem?_getD, List.getElem?_map, List.getD_eq_getElem?_getD, List.getElem?_eq_getElem (show j < ((bg l).L.map (·.1)).length by rw [List.length_map]; exact hj)]; rfl
            rw [hbj] at hcb
            have hnl := name_le HC.out.toGood hj
            have hg1 : gn ≠ w1.heap.size + 1 ∧ gn ≠ w1.heap.size ∧ gb ≠ w1.heap.size + 1 ∧ gb ≠ w1.heap.size := by have := HPB.out; have := HW34.out; omega
            generalize List.getD ((bg l).L.map (·.1)) j [] = nmj at hcell hnl hcb
            have HNM := Aside0.mk (show nmj.length ≤ maxLen by unfold maxLen; omega)
            have HG1 := Aside0.mk hg1
            have HCE := Aside0.mk hcell
            have HCB := Aside0.mk hcb
            clear hbj hnl hg1 hgn hgb
            by_cases e1 : nmj = n
            · have f1 : (nmj == n) = true := by rw [e1]; simp
              have f2 : (nmj != n) = false := by rw [e1]; simp
              clear e1
              go_wp2_with (first
                | (go_at_call 12; refine (read_calls HDj.out (good_crash (good_save (good_limit HC.out.toGood (show (k : Int) ≤ 9223372036854775807 by have := HK1.out; omega)) n s) left) nmj HNM.out).mono ?_; rintro e wx ⟨rfl, hD, ht⟩; have y1 := ht.cell HCE.out HG1.out.1 HG1.out.2.1; have y2 := ht.cell HCB.out HG1.out.2.2.1 HG1.out.2.2.2; have HDx := Aside0.mk hD; have HTx := Aside0.mk ht; clear hD ht)
                | go_in)
              exact ⟨⟨j + 1, by rw [bw2], ⟨hj⟩, HDx, ⟨HTj.out.trans HTx.out⟩⟩, by rw [bw2]; simp only [intOf]; omega⟩
            have f1 : (nmj == n) = false := by simpa using e1
            have f2 : (nmj != n) = true := by simpa using e1
            by_cases e2 : nmj = n ++ [45]
            · have f3 : (nmj == n ++ [45]) = true := by rw [e2]; simp
              have f4 : (nmj != n ++ [45]) = false := by rw [e2]; simp
              clear e1 e2
              go_wp2_with (first
                | (go_at_call 12; refine (read_calls HDj.out (good_crash (good_save (good_limit HC.out.toGood (show (k : Int) ≤ 9223372036854775807 by have := HK1.out; omega)) n s) left) nmj HNM.out).mono ?_; rintro e wx ⟨rfl, hD, ht⟩; have y1 := ht.cell HCE.out HG1.out.1 HG1.out.2.1; have y2 := ht.cell HCB.out HG1.out.2.2.1 HG1.out.2.2.2; have HDx := Aside0.mk hD; have HTx := Aside0.mk ht; clear hD ht)
                | go_in)
              exact ⟨⟨j + 1, by rw [bw2], ⟨hj⟩, HDx, ⟨HTj.out.trans HTx.out⟩⟩, by rw [bw2]; simp only [intOf]; omega⟩
            have f3 : (nmj == n ++ [45]) = false := by simpa using e2
            have f4 : (nmj != n ++ [45]) = true := by simpa using e2
            have HM1 := Aside0.mk (M1.out nmj e1 e2)
            clear e1 e2
            go_wp2_with (first
              | (go_at_call 12; refine (read_calls HDj.out (good_crash (good_save (good_limit HC.out.toGood (show (k : Int) ≤ 9223372036854775807 by have := HK1.out; omega)) n s) left) nmj HNM.out).mono ?_; rintro e wx ⟨rfl, hD, ht⟩; rw [HM1.out]; have y1 := ht.cell HCE.out HG1.out.1 HG1.out.2.1; have y2 := ht.cell HCB.out HG1.out.2.2.1 HG1.out.2.2.2; have HDx := Aside0.mk hD; have HTx := Aside0.mk ht; clear hD ht)
              | go_in)
            exact ⟨⟨j + 1, by rw [bw2], ⟨hj⟩, HDx, ⟨HTj.out.trans HTx.out⟩⟩, by rw [bw2]; simp only [intOf]; omega⟩
          · obtain rfl : j = (bg l).L.length := by have := HJ.out; omega
            have r2 : decide (((bg l).L.length : Int) < ((bg l).L.length : Int)) = false := decide_eq_false (by omega)
            go_wp2
            go_ret
            exact ⟨by first | rfl | (simp; done) | (simp [*]; done), HB1.out.trans ((HB2.out.trans (((HT4.out.trans HTi.out).trans HTj.out).under (B := w1.heap.size) HB2.out.size (by omega) (Nat.le_refl _))).mono HB1.out.size)⟩
end Go.Proofs.Ytdkmdicmipcifaa.Disk
