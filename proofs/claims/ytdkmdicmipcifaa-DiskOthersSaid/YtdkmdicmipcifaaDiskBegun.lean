import Derived.Test.YtdkmdicmipcifaaDiskDoes
namespace Go.Proofs.Ytdkmdicmipcifaa.Disk
open Go Go.RowKit Go.Maps Go.Proofs.YtdkmdicmipcifaaW.PrintWords Go.Proofs.YtdkmdicmipcifaaW.PrintLast Go.Proofs.YtdkmdicmipcifaaW.PrintMore
open Go.Proofs.Ytdkmdicmipcifaa.Pure (mk mk_size mk_app mk_toList mk_dataList mk_ext_from wrap_in)
attribute [local go_sem] mk_size mk_app mk_toList
theorem begun_take {l : List Act'} {i : Nat} {x : Act'} (d : Dk) (h : l[i]? = some x) : begunV d (l.take (i + 1)) = (doesV (begunV d (l.take i)) x).1 := by
  unfold begunV
  rw [List.take_add_one, h, List.foldl_append]
  rfl
def bg (l : List Act') : Dk := crash (begunV (new 1000000) l) []
theorem good_bg {l : List Act'} (h : ∀ a ∈ l, a.n ≤ 9223372036854775807) : Good (begunV (new 1000000) l) := good_begun (good_new (by decide) (by decide)) h
theorem clean_bg {w : World} {B : Nat} {A : Option Addr} {l : List Act'} (h : Acts w B A l) (_hs : smallA l = true) : Clean (bg l) := by
  refine clean_crash (good_bg (fun a ha => ?_)) []
  obtain ⟨i, hi, e⟩ := List.mem_iff_getElem.1 ha
  obtain ⟨g, off, x, v, -, -, hx, hat⟩ := h i hi
  rw [List.getElem?_eq_getElem hi, e] at hx
  rw [Option.some.inj hx]
  exact hat.fits.2.2
set_option maxHeartbeats 8000000 in
set_option maxRecDepth 100000 in
theorem begun_calls {w : World} {B : Nat} (A : Option Addr) (c : Nat) (l : List Act') (h : Acts w B A l) (hB : B ≤ w.heap.size) (hs : smallA l = true) :
    Calls Try.prog 11 #[.slice A l.length c] w fun e w' => e = .returned (.pointer (some ⟨w.heap.size + 1, 0, none⟩)) ∧ At w' (w.heap.size + 1) w.heap.size (bg l) ∧ Clean (bg l) ∧ Below w.heap.size w w' := by
  unfold smallA at hs
  simp only [Bool.and_eq_true, decide_eq_true_eq, List.all_eq_true] at hs
  have hns : ∀ a ∈ l, a.n ≤ 9223372036854775807 := fun a ha => by
    obtain ⟨i, hi, e⟩ := List.mem_iff_getElem.1 ha
    obtain ⟨g, off, x, v, -, -, hx, hat⟩ := h i hi
    rw [List.getElem?_eq_getElem hi, e] at hx
    rw [Option.some.inj hx]
    exact hat.fits.2.2
  have HNS := Aside0.mk hns
  have HA := Aside0.mk h
  have HB := Aside0.mk hB
  have HS := Aside0.mk hs
  clear h hB hs hns
  go_enter Try.func11, Try.ntmps11
  go_wp2_with (first
    | (go_at_call 21; refine (new_calls 1000000 (by decide) (by decide)).mono ?_; rintro e w1 ⟨rfl, hD, hb⟩; have HD1 := Aside0.mk hD; have HB1 := Aside0.mk hb; clear hD hb)
    | go_in)
  go_loopw [5] (fun v5 wr => ∃ (i : Nat) (di : Dk), v5 = .int .i64 i ∧ Aside0 (i ≤ l.length) ∧ Aside0 (di = begunV (new 1000000) (l.take i)) ∧ Aside0 (Good di) ∧ Aside0 (At wr (w.heap.size + 1) w.heap.size di) ∧ Aside0 (Below w.heap.size w wr)) (fun i _ => l.length - (intOf i).toNat)
  case atStart => exact ⟨0, _, rfl, ⟨Nat.zero_le _⟩, ⟨by simp [begunV]⟩, ⟨good_new (by decide) (by decide)⟩, HD1, HB1⟩
  case round =>
    obtain ⟨i, di, rfl, HI, HE, HGi, HDi, HBi⟩ := hrel
    by_cases hi : i < l.length
    · have b1 : decide ((i : Int) < (l.length : Int)) = true := decide_eq_true (by omega)
      have bw : wrap64 ((i : Int) + 1) = ((i + 1 : Nat) : Int) := by have := HS.out.1; rw [w64 (by omega) (by omega)]; rfl
      have q0 : (0 : Int) ≤ (i : Int) := by omega
      have q1 : (i : Int) < (l.length : Int) := by omega
      obtain ⟨g, off, x, v, rfl, hg, hx, hat⟩ := HA.out i hi
      have hat := hat.below hg (HBi.out.mono HB.out)
      have hlx : lightA x = true := HS.out.2 x (List.mem_of_getElem? hx)
      have ht := begun_take (new 1000000) hx
      rw [← HE.out] at ht
      have HT := Aside0.mk ht
      have HLX := Aside0.mk hlx
      have k0 := hat.c0
      have k1 := hat.c1
      have k2 := hat.c2
      have k3 := hat.c3
      have k4 := hat.c4
      have k5 := hat.c5
      have HLF := Aside0.mk hat.left
      have HFT := Aside0.mk hat.fits
      clear hat hlx ht hx
      go_wp2_with (first
        | (go_at_call 20; refine (does_calls HDi.out HGi.out x v HLF.out (by have := HB.out; omega) HB.out HLX.out HFT.out).mono ?_; rintro e w2 ⟨rfl, hD, ht⟩)
        | go_in)
      exact ⟨⟨i + 1, _, by rw [bw], ⟨hi⟩, ⟨HT.out.symm⟩, ⟨good_does HGi.out x HFT.out.2.2⟩, ⟨hD⟩, ⟨HBi.out.trans (ht.under HBi.out.size (by omega) (Nat.le_refl _))⟩⟩, by rw [bw]; simp only [intOf]; omega⟩
    · have b1 : decide ((i : Int) < (l.length : Int)) = false := decide_eq_false (by omega)
      obtain rfl : i = l.length := by have := HI.out; omega
      have e : di = begunV (new 1000000) l := by rw [HE.out, List.take_length]
      have HEE := Aside0.mk e
      clear e
      go_wp2_with (first
        | (go_at_call 17; refine (crash_calls HDi.out HGi.out _ [] (Ints.none_ _ _ _) ⟨_, _, rfl⟩ (by decide)).mono ?_; rintro e w2 ⟨rfl, hD, ht⟩)
        | go_in)
      go_ret
      rw [HEE.out] at hD
      exact ⟨rfl, hD, clean_crash (good_bg HNS.out) [], HBi.out.trans (ht.under HBi.out.size (by omega) (Nat.le_refl _))⟩
end Go.Proofs.Ytdkmdicmipcifaa.Disk
