import Derived.Test.YtdkmdicmipcifaaDiskWalk7
import Derived.Test.YtdkmdicmipcifaaDiskCrash
import Derived.Deep.Slices
namespace Go.Proofs.Ytdkmdicmipcifaa.Disk
open Go Go.RowKit Go.Maps Go.Proofs.YtdkmdicmipcifaaW.PrintWords Go.Proofs.YtdkmdicmipcifaaW.PrintLast Go.Proofs.YtdkmdicmipcifaaW.PrintMore
open Go.Proofs.Ytdkmdicmipcifaa.Pure (mk mk_size mk_app mk_toList mk_dataList mk_ext_from wrap_in)
attribute [local go_sem] mk_size mk_app mk_ext_from
theorem add_blk (a : Addr) (n : Nat) : (a.add n).block = a.block := by unfold Addr.add; split <;> rfl
def Ints (w : World) (p b : Nat) (v : Value) (l : List Int) : Prop :=
  (l = [] ∧ ∃ a c, v = .slice a 0 c) ∨ ∃ (a : Addr) (cap : Nat), v = .slice (some a) l.length cap ∧ l.length ≤ cap ∧ a.block ≠ p ∧ a.block ≠ b ∧ (∀ i, i < l.length → w.cell? (a.add i) = some (.int .i64 (l.getD i 0)))
theorem Ints.two {w w' : World} {p b : Nat} {v : Value} {l : List Int} (h : Ints w p b v l) (ht : Two p b w w') : Ints w' p b v l := by
  rcases h with h | ⟨a, cap, hv, hl, hp, hb, hc⟩
  · exact .inl h
  · exact .inr ⟨a, cap, hv, hl, hp, hb, fun i hi => ht.cell (hc i hi) (by rw [add_blk]; exact hp) (by rw [add_blk]; exact hb)⟩
theorem Ints.cons_of {w : World} {p b : Nat} {v : Value} {x : Int} {l : List Int} (h : Ints w p b v (x :: l)) :
    ∃ (a : Addr) (cap : Nat), v = .slice (some a) (l.length + 1) cap ∧ l.length + 1 ≤ cap ∧ w.cell? a = some (.int .i64 x) ∧ a.block < w.heap.size ∧ (∀ c, c = cap - 1 → Ints w p b (.slice (some (a.add 1)) l.length c) l) := by
  rcases h with ⟨h, _⟩ | ⟨a, cap, hv, hl, hp, hb, hc⟩
  · cases h
  · refine ⟨a, cap, hv, hl, ?_, ?_, fun c hcap => .inr ⟨a.add 1, c, rfl, by rw [List.length_cons] at hl; omega, by rw [add_blk]; exact hp, by rw [add_blk]; exact hb, fun i hi => ?_⟩⟩
    · have := hc 0 (by simp)
      simpa [Addr.add] using this
    · have := hc 0 (by simp)
      have h0 := World.block_lt_of_cell? w _ this
      rwa [add_blk] at h0
    · have := hc (i + 1) (by simp; omega)
      have e : (a.add 1).add i = a.add (i + 1) := by rw [Deep.add_add, Nat.add_comm]
      rw [e]
      simpa using this
theorem crash_end {d di : Dk} {left lf : List Int} {i : Nat} (g : Good di) (h : di.turns = -1 ∧ di.gone = false ∧ di.room = d.room) (hc : Cr left d.L i lf di.L) (hi : d.L.length ≤ i) : di = crash d left := by
  have e := hc.fin hi
  have u := g.used
  obtain ⟨L, us, rm, tu, go⟩ := di
  obtain ⟨h1, h2, h3⟩ := h
  simp only at h1 h2 h3 e u
  subst h1 h2 h3 e
  unfold crash
  rw [u]
theorem put_calls2 {w : World} {p b : Nat} {d : Dk} (hD : At w p b d) (g : Good d) (n : Bs) (hn : n.length ≤ maxLen) (s : ByteArray) (k : Int) (f : File) (hs : s = mk f.1) (hk : k = f.2) (hf : f.1.length ≤ 1000000000000000) :
    Calls Try.prog 33 #[.pointer (some ⟨p, 0, none⟩), .string (mk n), .agg #[.string s, .int .i64 k]] w fun e w' => e = .returned (.tuple #[]) ∧ At w' p b (putD d n f) ∧ Two p b w w' := by
  subst hs hk
  exact put_calls hD g n hn f hf
theorem cut_fst (left : List Int) (f : File) : cut left f = (f.1.take (f.2 + min (max (left.headD 0) 0) (f.1.length - f.2)).toNat, f.2 + min (max (left.headD 0) 0) (f.1.length - f.2)) := rfl
set_option maxHeartbeats 8000000 in
set_option maxRecDepth 100000 in
theorem crash_calls {w : World} {p b : Nat} {d : Dk} (hD : At w p b d) (g : Good d) (v : Value) (left : List Int) (hI : Ints w p b v left) (hv : ∃ a c, v = .slice a left.length c) (hlen : left.length ≤ 1000000000000) :
    Calls Try.prog 17 #[.pointer (some ⟨p, 0, none⟩), v] w fun e w' => e = .returned (.tuple #[]) ∧ At w' p b (crash d left) ∧ Two p b w w' := by
  have hu := Try.underlying56
  have c3 := hD.c3
  have c4 := hD.c4
  have f3 := hD.fz 3
  have f4 := hD.fz 4
  have g0 : Good { d with gone := false, turns := -1 } := ⟨g.sorted, g.names, g.safe, g.used, g.fits, g.room, g.many, by simp⟩
  have hD0 := (hD.set4 false).set3 (-1)
  have HD0 := Aside0.mk hD0
  have HG0 := Aside0.mk g0
  have HI := Aside0.mk hI
  have HV := Aside0.mk hv
  have HLN := Aside0.mk hlen
  have HP := Aside0.mk (And.intro hD.lt hD.ltb)
  have HT0 := Aside0.mk (((Two.refl p b w).set 4 (.bool false)).set 3 (.int .i64 (-1)))
  clear hD g hD0 g0 hI hlen hv
  go_enter Try.func17, Try.ntmps17
  go_wp2_with (first
    | (go_at_call 13; refine (names_calls HD0.out HG0.out).mono ?_; rintro e w1 ⟨vn, rfl, hS, hb⟩; obtain ⟨A, cap, rfl, hcap, hS⟩ := hS.shape; rw [List.length_map]; have HS := Aside0.mk hS; have HB := Aside0.mk hb; clear hS hb)
    | go_in)
  go_loopw [1, 18] (fun v1 v18 wr => ∃ (i : Nat) (lf : List Int) (di : Dk), v18 = .int .i64 i ∧ Aside0 (i ≤ d.L.length) ∧ Aside0 (Ints wr p b v1 lf) ∧ (∃ a c, v1 = .slice a lf.length c) ∧ Aside0 (lf.length ≤ 1000000000000) ∧
    Aside0 (At wr p b di) ∧ Aside0 (Good di) ∧ Aside0 (di.turns = -1 ∧ di.gone = false ∧ di.room = d.room) ∧ Aside0 (Cr left d.L i lf di.L) ∧ Aside0 (StrsA wr w.heap.size A (d.L.map (·.1))) ∧ Aside0 (Two p b w wr))
    (fun _ i _ => d.L.length - (intOf i).toNat)
  case atStart =>
    have ht1 := Two.below (p := p) (b := b) HB.out
    exact ⟨0, left, _, rfl, ⟨Nat.zero_le _⟩, ⟨HI.out.two (HT0.out.trans ht1)⟩, HV.out, HLN, ⟨HD0.out.below HB.out⟩, HG0, ⟨rfl, rfl, rfl⟩, ⟨Cr.start _ _⟩, ⟨by simpa using HS.out⟩, ⟨HT0.out.trans ht1⟩⟩
  case round =>
    obtain ⟨i, lf, di, rfl, HI1, HIn, ⟨a, c, rfl⟩, HLf, HDi, HGi, HFi, HCr, HSt, HTw⟩ := hrel
    have c0 := HDi.out.c0
    by_cases hi : i < d.L.length
    · have b0 : decide ((i : Int) < (d.L.length : Int)) = true := decide_eq_true (by omega)
      have bi0 : (0 : Int) ≤ (i : Int) := by omega
      have bw : wrap64 ((i : Int) + 1) = ((i + 1 : Nat) : Int) := by rw [w64 (by have := HGi.out.many; have := HCr.out.len; omega) (by have := HGi.out.many; have := HCr.out.len; omega)]; rfl
      have bi1 : (i : Int) < (d.L.length : Int) := by omega
      obtain ⟨gb, rfl, hgb, hcell⟩ := HSt.out i (by rw [List.length_map]; exact hi)
      obtain ⟨hmem, hhas, hst0, hst1⟩ := HCr.out.step HGi.out.sorted hi
      have hnm : (List.getD (d.L.map (·.1)) i []).length ≤ 60 := by
        have := HGi.out.names _ hmem
        unfold nameOk at this
        simp only [Bool.and_eq_true, decide_eq_true_eq] at this
        exact this.1.2
      have hgs := get_safe (n := List.getD (d.L.map (·.1)) i []) HGi.out
      have hgc := good_cut HGi.out (List.getD (d.L.map (·.1)) i []) lf hhas
      generalize List.getD (d.L.map (·.1)) i [] = nm at *
      have HHas := Aside0.mk hhas
      have HS0 := Aside0.mk hst0
      have HS1 := Aside0.mk hst1
      have HGC := Aside0.mk hgc
      have HN := Aside0.mk (show nm.length ≤ maxLen by unfold maxLen; omega)
      have hus : ((get nm di.L).1.length : Int) ≤ 10000000 := by have := HGi.out.fits; have := HGi.out.room; omega
      have hf : ∃ f, f = get nm di.L := ⟨_, rfl⟩
      obtain ⟨f, hf⟩ := hf
      have HF := Aside0.mk hf
      rw [← hf] at hgs hus
      have bt : wrap64 ((f.1.length : Int) - f.2) = (f.1.length : Int) - f.2 := w64 (by omega) (by omega)
      clear hmem hhas hst0 hst1 hgc hnm hf
      by_cases h0 : (f.1.length : Int) - f.2 = 0
      · have b1 : ((f.1.length : Int) - f.2 == 0) = true := by rw [h0]; rfl
        go_wp2_with (first
          | (at_lookup; refine op_look rfl _ _ rfl HDi.out rfl nm rfl HN.out ?_; rw [← HF.out]; unfold fv)
          | go_in)
        exact ⟨⟨i + 1, lf, di, by rw [bw], ⟨hi⟩, ⟨HIn.out.two (Two.below ((Below.refl _ wr).alloc (Nat.le_refl _) _))⟩, ⟨a, c, rfl⟩, HLf, ⟨HDi.out.alloc _⟩, HGi, HFi, ⟨HS0.out (by rw [← HF.out]; exact h0)⟩,
          ⟨HSt.out.two (Two.below (p := p) (b := b) ((Below.refl _ wr).alloc (Nat.le_refl _) _)) HP.out.1 HP.out.2⟩, ⟨HTw.out.alloc _⟩⟩, by rw [bw]; simp only [intOf]; omega⟩
      · have b1 : ((f.1.length : Int) - f.2 == 0) = false := by simpa using h0
        have hne : wr.heap.size ≠ p := by have := HDi.out.lt; omega
        have hnb : wr.heap.size ≠ b := by have := HDi.out.ltb; omega
        have HNE := Aside0.mk (And.intro hne hnb)
        have hc2 := cut_safe (f := f) hgs.1 hgs.2.1 lf
        have hcf := cut_fst lf f
        cases lf with
        | nil =>
          have hcf' : cut [] f = (f.1.take f.2.toNat, f.2) := by
            rw [hcf]
            have e : f.2 + min (max (([] : List Int).headD 0) 0) ((f.1.length : Int) - f.2) = f.2 := by simp; omega
            rw [e]
          have bs : wrap64 (f.2 + 0) = f.2 := by rw [Int.add_zero]; exact w64 (by omega) (by omega)
          have bm : max f.2 0 = f.2 := by omega
          have bs1 : wrap64 f.2 = f.2 := w64 (by omega) (by omega)
          have q0 : (0 : Int) ≤ f.2 := hgs.1
          have q1 : f.2 ≤ (f.1.length : Int) := hgs.2.1
          go_wp2_with (first
            | (at_lookup; refine op_look rfl _ _ rfl HDi.out rfl nm rfl HN.out ?_; rw [← HF.out]; unfold fv)
            | (go_at_call 33; refine (put_calls (HDi.out.alloc _) HGi.out nm HN.out (f.1.take f.2.toNat, f.2) (by show (f.1.take f.2.toNat).length ≤ _; rw [List.length_take]; omega)).mono ?_; rintro e w2 ⟨rfl, hD2, ht2⟩)
            | go_in)
          rw [← hcf', HF.out] at hD2
          have ht3 := ((Two.refl p b wr).alloc (.cells #[.string (mk (f.1.take f.2.toNat)), .int .i64 f.2] 56)).trans ht2
          exact ⟨⟨i + 1, [], _, by rw [bw], ⟨hi⟩, ⟨HIn.out.two ht3⟩, ⟨a, c, rfl⟩, HLf, ⟨hD2⟩, HGC, HFi, ⟨HS1.out (by rw [← HF.out]; exact h0)⟩,
            ⟨HSt.out.two ht3 HP.out.1 HP.out.2⟩, ⟨HTw.out.trans ht3⟩⟩, by rw [bw]; simp only [intOf]; omega⟩
        | cons x lf =>
          obtain ⟨a', cap', hsl, hcl, hcx0, hlt, hrest⟩ := HIn.out.cons_of
          rw [List.length_cons] at hsl
          obtain ⟨rfl, -, rfl⟩ : a = some a' ∧ lf.length + 1 = lf.length + 1 ∧ c = cap' := by simpa using hsl
          have hcx : ∀ o, (wr.alloc o).cell? a' = some (.int .i64 x) := fun o => (((Below.refl _ wr).alloc (Nat.le_refl _) o).cell hlt).trans hcx0
          have q0 : (0 : Int) ≤ f.2 + min (max x 0) ((f.1.length : Int) - f.2) := by omega
          have q1 : f.2 + min (max x 0) ((f.1.length : Int) - f.2) ≤ (f.1.length : Int) := by omega
          have bs : wrap64 (f.2 + min (max x 0) ((f.1.length : Int) - f.2)) = f.2 + min (max x 0) ((f.1.length : Int) - f.2) := w64 (by omega) (by omega)
          have hcf' : ((f.1.take (f.2 + min (max x 0) ((f.1.length : Int) - f.2)).toNat, (((min (f.2 + min (max x 0) ((f.1.length : Int) - f.2)).toNat f.1.length : Nat)) : Int)) : File) = cut (x :: lf) f := by
            rw [hcf]
            have e : (((min (f.2 + min (max x 0) ((f.1.length : Int) - f.2)).toNat f.1.length : Nat)) : Int) = f.2 + min (max x 0) ((f.1.length : Int) - f.2) := by omega
            rw [e]; rfl
          have bl : decide (((lf.length : Int) + 1) > 0) = true := decide_eq_true (by omega)
          have bl1 : (0 : Int) < (lf.length : Int) + 1 := by omega
          have bl2 : (1 : Int) ≤ (lf.length : Int) + 1 := by omega
          have HRS := Aside0.mk hrest
          have HCF := Aside0.mk hcf'
          have HCL := Aside0.mk hcl
          clear hsl hcx0 hrest hcf hc2 hcf' hcl
          go_wp2_with (first
            | (at_lookup; refine op_look rfl _ _ rfl HDi.out rfl nm rfl HN.out ?_; rw [← HF.out]; unfold fv)
            | go_in)
          go_region
          go_wp2_with (first
            | (go_at_call 33; refine (put_calls2 (HDi.out.alloc _).drew HGi.out nm HN.out _ _ (cut (x :: lf) f) ?hs ?hk ?hf).mono ?_; (case hs => rw [← HCF.out]); (case hk => rw [← HCF.out]; show _ = (((min (f.2 + min (max x 0) ((f.1.length : Int) - f.2)).toNat f.1.length : Nat)) : Int); omega); (case hf => rw [← HCF.out, List.length_take]; omega); rintro e w2 ⟨rfl, hD2, ht2⟩)
            | go_in)
          rw [HF.out] at hD2
          have ht3 := (((Two.refl p b wr).alloc _).drew).trans ht2
          have hint : Ints w2 p b (.slice (if c = 1 then some a' else some ⟨a'.block, a'.off + 1, none⟩) lf.length (c - 1)) lf := by
            by_cases hc1 : c = 1
            · have : lf = [] := List.length_eq_zero_iff.1 (by have := HCL.out; omega)
              subst this
              exact .inl ⟨rfl, _, _, rfl⟩
            · rw [if_neg hc1]
              have := (HRS.out (c - 1) rfl).two ht3
              have e : a'.add 1 = ⟨a'.block, a'.off + 1, none⟩ := rfl
              rw [e] at this
              exact this
          exact ⟨⟨i + 1, lf, _, by rw [bw], ⟨hi⟩, ⟨hint⟩, ⟨_, _, rfl⟩, ⟨by have := HLf.out; rw [List.length_cons] at this; omega⟩, ⟨hD2⟩, HGC, HFi, ⟨HS1.out (by rw [← HF.out]; exact h0)⟩,
            ⟨HSt.out.two ht3 HP.out.1 HP.out.2⟩, ⟨HTw.out.trans ht3⟩⟩, by rw [bw]; simp only [intOf]; omega⟩
    · have b0 : decide ((i : Int) < (d.L.length : Int)) = false := decide_eq_false (by omega)
      go_wp2
      go_end0
      have e := crash_end HGi.out HFi.out HCr.out (by omega)
      exact ⟨rfl, e ▸ HDi.out, HTw.out⟩
end Go.Proofs.Ytdkmdicmipcifaa.Disk
