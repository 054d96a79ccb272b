import Derived.Test.YtdkmdicmipcifaaRefWalk6
import Derived.Test.YtdkmdicmipcifaaDiskWalk8
namespace Go.Proofs.Ytdkmdicmipcifaa.Disk
open Go Go.RowKit Go.Maps Go.Proofs.YtdkmdicmipcifaaW.PrintWords Go.Proofs.YtdkmdicmipcifaaW.PrintLast Go.Proofs.YtdkmdicmipcifaaW.PrintMore
open Go.Proofs.Ytdkmdicmipcifaa.Pure (mk mk_size mk_app mk_toList mk_dataList mk_ext_from wrap_in)
attribute [local go_sem] mk_size mk_app mk_ext_from
theorem Ints.below {w w' : World} {p b : Nat} {v : Value} {l : List Int} (h : Ints w p b v l) (hb : Below w.heap.size w w') : Ints w' p b v l := h.two (Two.below hb)
theorem Ints.at_ {w : World} {p b cv : Nat} {a : Option Addr} {l : List Int} (h : Ints w p b (.slice a l.length cv) l) {k : Nat} (hk : k < l.length) : ∃ a', a = some a' ∧ a'.block ≠ p ∧ a'.block ≠ b ∧ a'.block < w.heap.size ∧ w.cell? (a'.add k) = some (.int .i64 (l.getD k 0)) := by
  rcases h with ⟨h, _⟩ | ⟨a', cap, hv, _, hp, hb, hc⟩
  · rw [h] at hk; simp at hk
  · cases hv
    have := hc k hk
    refine ⟨a', rfl, hp, hb, ?_, this⟩
    have h0 := World.block_lt_of_cell? w _ this
    rwa [add_blk] at h0
theorem headD_drop (l : List Int) (k : Nat) : (l.drop k).headD 0 = l.getD k 0 := by
  rw [List.headD_eq_head?_getD, List.head?_drop, List.getD_eq_getElem?_getD]
theorem clamp {x t : Int} (h : 0 ≤ t) : max 0 (min x t) = min (max x 0) t := by omega
theorem clamp0 {x s L : Int} (h0 : 0 ≤ s) (h1 : s ≤ L) : 0 ≤ s + max 0 (min x (L - s)) ∧ s + max 0 (min x (L - s)) ≤ L := by omega
theorem cut_ref {L : List Int} {y : File} {x : Int} (h : cut L y = (y.1.take (y.2 + min (max x 0) (y.1.length - y.2)).toNat, y.2 + min (max x 0) (y.1.length - y.2))) (h0 : 0 ≤ y.2 + max 0 (min x (y.1.length - y.2))) (h1 : y.2 + max 0 (min x (y.1.length - y.2)) ≤ y.1.length) :
    cut L y = (y.1.take (y.2 + max 0 (min x (y.1.length - y.2))).toNat, max (y.2 + max 0 (min x (y.1.length - y.2))) 0) := by
  rw [h]
  by_cases ht : 0 ≤ (y.1.length : Int) - y.2
  · rw [clamp ht, show max (y.2 + min (max x 0) ((y.1.length : Int) - y.2)) 0 = y.2 + min (max x 0) ((y.1.length : Int) - y.2) by rw [← clamp ht]; omega]
  · omega
theorem cut_ref0 {L : List Int} {y : File} (h : cut L y = (y.1.take (y.2 + min (max 0 0) (y.1.length - y.2)).toNat, y.2 + min (max 0 0) (y.1.length - y.2))) (h0 : 0 ≤ y.2) (h1 : y.2 ≤ y.1.length) :
    cut L y = (y.1.take y.2.toNat, max y.2 0) := by
  rw [h]
  have e : y.2 + min (max 0 0) ((y.1.length : Int) - y.2) = y.2 := by omega
  rw [e, show max y.2 0 = y.2 by omega]
theorem RT.rows {q r off : Nat} {A : Option Addr} {w : World} (hA : A = some ⟨r, off, none⟩) (i j k : Nat) (u v x : Value) : RT q A A w (((w.setCell ⟨r, i, none⟩ u).setCell ⟨r, j, none⟩ v).setCell ⟨r, k, none⟩ x) := by
  subst hA
  refine RT.of ⟨rfl, rfl, rfl, by simp, fun m _ _ h2 => ?_⟩
  have h3 : m ≠ r := h2
  rw [Below.heap_setCell _ _ _ _ h3, Below.heap_setCell _ _ _ _ h3, Below.heap_setCell _ _ _ _ h3]
def Dc (left : List Int) (d : Dk) (i : Nat) : Dk := { d with L := crashAt left d.L i, gone := false, turns := -1 }
set_option maxHeartbeats 8000000 in
set_option maxRecDepth 100000 in
theorem rcrash_calls {w : World} {q c : Nat} {A : Option Addr} {d : Dk} (hD : RAt w q A c d) (g : Good d) (v : Value) (left : List Int) (hI : Ints w q (rowB q A) v left) (hv : ∃ a c, v = .slice a left.length c) (hlen : left.length ≤ 1000000000000) :
    Calls Try.prog 40 #[.pointer (some ⟨q, 0, none⟩), v] w (ROut q A w (.tuple #[]) (crash d left)) := by
  obtain ⟨a, cv, rfl⟩ := hv
  have c2 := hD.c2
  have c3 := hD.c3
  have f2 := hD.fz 2
  have f3 := hD.fz 3
  have HD0 := Aside0.mk ((hD.set3 false).set2 (-1))
  have HG := Aside0.mk g
  have HI := Aside0.mk hI
  have HLN := Aside0.mk hlen
  have hm := g.many
  have HT0 := Aside0.mk (((RT.refl (q := q) (A := A) (w := w)).set 3 (.bool false)).set 2 (.int .i64 (-1)))
  clear hD g hI hlen
  go_enter Try.func40, Try.ntmps40
  go_wp2
  go_loopw [4, 5] (fun v4 v5 wr => ∃ (i : Nat), v5 = .int .i64 i ∧ v4 = .int .i64 (tails (d.L.take i) : Nat) ∧ Aside0 (i ≤ d.L.length) ∧ Aside0 (RAt wr q A c (Dc left d i)) ∧ Aside0 (RT q A A w wr))
    (fun _ i _ => d.L.length - (intOf i).toNat)
  case atStart =>
    exact ⟨0, rfl, rfl, ⟨Nat.zero_le _⟩, HD0, HT0⟩
  case round =>
    obtain ⟨i, rfl, rfl, HI1, HDi, HTw⟩ := hrel
    have c0 := HDi.out.c0
    have hlen : (Dc left d i).L.length = d.L.length := crashAt_len left d.L i HI1.out
    rw [hlen] at c0
    have HLEN := Aside0.mk hlen
    have htl := tails_le d.L i
    by_cases hi : i < d.L.length
    · have b0 : decide ((i : Int) < (d.L.length : Int)) = true := decide_eq_true (by omega)
      have bi0 : (0 : Int) ≤ (i : Int) := by omega
      have bw : wrap64 ((i : Int) + 1) = ((i + 1 : Nat) : Int) := by rw [w64 (by omega) (by omega)]; rfl
      have bi1 : (i : Int) < (d.L.length : Int) := by omega
      obtain ⟨r, off, y, rfl, hy, hrq, hrl, k0, k1, k2, fz⟩ := HDi.out.at_ i (by rw [hlen]; exact hi)
      rw [show (Dc left d i).L = crashAt left d.L i from rfl, crashAt_get left d.L i HI1.out] at hy
      have HY := Aside0.mk hy
      have hgs := HG.out.safe y (List.mem_of_getElem? hy)
      have hus : (y.2.1.length : Int) ≤ 10000000 := by
        have h1 := total_mem (List.mem_of_getElem? hy); have := HG.out.used; have := HG.out.fits; have := HG.out.room; omega
      have htn := tails_next hy
      have bt : wrap64 ((y.2.1.length : Int) - y.2.2) = (y.2.1.length : Int) - y.2.2 := w64 (by omega) (by omega)
      clear hlen hy
      by_cases h0 : (y.2.1.length : Int) - y.2.2 = 0
      · have b1 : ((y.2.1.length : Int) - y.2.2 == 0) = true := by rw [h0]; rfl
        rw [if_pos h0] at htn
        have HTN := Aside0.mk htn
        have HSM := Aside0.mk (crashAt_same (left := left) HY.out h0)
        clear htn h0
        go_wp2
        exact ⟨⟨i + 1, rfl, by rw [HTN.out]; rfl, ⟨hi⟩, ⟨by have := HDi.out.alloc (fileC y); unfold Dc at this ⊢; rw [HSM.out]; exact this⟩, ⟨HTw.out.alloc _⟩⟩, by simp only [intOf]; omega⟩
      · have b1 : ((y.2.1.length : Int) - y.2.2 == 0) = false := by simpa using h0
        rw [if_neg h0] at htn
        have HTN := Aside0.mk htn
        have HSM := Aside0.mk (crashAt_set (left := left) HY.out h0)
        have hcf := cut_fst (left.drop (tails (d.L.take i))) y.2
        rw [headD_drop] at hcf
        have bwk : wrap64 (((tails (d.L.take i) : Nat) : Int) + 1) = ((tails (d.L.take i) + 1 : Nat) : Int) := by rw [w64 (by omega) (by omega)]; rfl
        have hnr : wr.heap.size ≠ r := by omega
        have c0' := fun o => (HDi.out.alloc o).c0
        simp only [HLEN.out] at c0'
        have kk0 := fun o => (((Below.refl _ wr).alloc (Nat.le_refl _) o).cell (p := ⟨r, off + i * 3, none⟩) hrl).trans k0
        have kk1 := fun o => (((Below.refl _ wr).alloc (Nat.le_refl _) o).cell (p := ⟨r, off + i * 3 + 1, none⟩) hrl).trans k1
        have kk2 := fun o => (((Below.refl _ wr).alloc (Nat.le_refl _) o).cell (p := ⟨r, off + i * 3 + 2, none⟩) hrl).trans k2
        have fz' := fun o j => (((Below.refl _ wr).alloc (Nat.le_refl _) o).frozen (p := ⟨r, j, none⟩) hrl).trans (fz j)
        by_cases hk : tails (d.L.take i) < left.length
        · have bk : decide (((tails (d.L.take i) : Nat) : Int) < (left.length : Int)) = true := decide_eq_true (Int.ofNat_lt.2 hk)
          have bk0 : (0 : Int) ≤ ((tails (d.L.take i) : Nat) : Int) := Int.natCast_nonneg _
          have bk1 : ((tails (d.L.take i) : Nat) : Int) < (left.length : Int) := Int.ofNat_lt.2 hk
          obtain ⟨a', rfl, hap, hab, hal, hcx0⟩ := (HI.out.two HTw.out.two).at_ hk
          have hcx := fun o => (((Below.refl _ wr).alloc (Nat.le_refl _) o).cell (p := a'.add (tails (d.L.take i))) (by rw [add_blk]; exact hal)).trans hcx0
          obtain ⟨x, hx⟩ : ∃ x, left.getD (tails (d.L.take i)) 0 = x := ⟨_, rfl⟩
          rw [hx] at hcx0 hcf
          simp only [hx] at hcx
          clear hx
          obtain ⟨q0, q1⟩ := clamp0 (x := x) hgs.1 hgs.2
          have bs : wrap64 (y.2.2 + max 0 (min x ((y.2.1.length : Int) - y.2.2))) = y.2.2 + max 0 (min x ((y.2.1.length : Int) - y.2.2)) := w64 (Int.le_trans (by decide) q0) (Int.lt_of_le_of_lt (Int.le_trans q1 hus) (by decide))
          have HCF := Aside0.mk hcf
          have HH := Aside0.mk (And.intro h0 (And.intro hgs hus))
          clear hcf h0 htn hgs hus
          go_wp2
          go_region
          go_wp2
          have hy2 := cut_ref HCF.out q0 q1
          refine ⟨⟨i + 1, rfl, by rw [HTN.out]; rfl, ⟨hi⟩, ⟨?_⟩, ⟨?_⟩⟩, by simp only [intOf]; omega⟩
          · have := (HDi.out.store rfl (by rw [show (Dc left d i).L = crashAt left d.L i from rfl, crashAt_get left d.L i HI1.out]; exact HY.out) (y.1, cut (left.drop (tails (d.L.take i))) y.2) (Dc left d i).used).alloc (fileC (y.1, cut (left.drop (tails (d.L.take i))) y.2))
            rw [hy2] at this
            unfold Dc at this ⊢
            rw [HSM.out, hy2]
            exact this.drew
          · exact ((HTw.out.trans (RT.rows (A := some ⟨r, off, none⟩) rfl _ _ _ _ _ _)).alloc _).drew
        · have bk : decide (((tails (d.L.take i) : Nat) : Int) < (left.length : Int)) = false := decide_eq_false (fun e => hk (Int.ofNat_lt.1 e))
          have hx : left.getD (tails (d.L.take i)) 0 = 0 := by rw [List.getD_eq_getElem?_getD, List.getElem?_eq_none (Nat.le_of_not_lt hk)]; rfl
          rw [hx] at hcf
          have q0 : (0 : Int) ≤ y.2.2 := hgs.1
          have q1 : y.2.2 ≤ (y.2.1.length : Int) := hgs.2
          have bs : wrap64 y.2.2 = y.2.2 :=  w64 (Int.le_trans (by decide) q0) (Int.lt_of_le_of_lt (Int.le_trans q1 hus) (by decide))
          have HCF := Aside0.mk hcf
          have HH := Aside0.mk (And.intro h0 (And.intro hgs hus))
          clear hcf h0 htn hgs hus hx
          go_wp2
          go_region
          go_wp2
          have hy2 := cut_ref0 HCF.out q0 q1
          refine ⟨⟨i + 1, rfl, by rw [HTN.out]; rfl, ⟨hi⟩, ⟨?_⟩, ⟨?_⟩⟩, by simp only [intOf]; omega⟩
          · have := (HDi.out.store rfl (by rw [show (Dc left d i).L = crashAt left d.L i from rfl, crashAt_get left d.L i HI1.out]; exact HY.out) (y.1, cut (left.drop (tails (d.L.take i))) y.2) (Dc left d i).used).alloc (fileC (y.1, cut (left.drop (tails (d.L.take i))) y.2))
            rw [hy2] at this
            unfold Dc at this ⊢
            rw [HSM.out, hy2]
            exact this.drew
          · exact ((HTw.out.trans (RT.rows (A := some ⟨r, off, none⟩) rfl _ _ _ _ _ _)).alloc _).drew
    · have b0 : decide ((i : Int) < (d.L.length : Int)) = false := decide_eq_false (by omega)
      obtain rfl : i = d.L.length := by have := HI1.out; omega
      have e : crash d left = { Dc left d d.L.length with used := total (crashL left d.L) } := by unfold crash Dc; rw [crashAt_end]
      have HE := Aside0.mk e
      clear hlen e
      go_wp2
      go_end0
      rw [HE.out]
      exact ⟨A, c, rfl, HDi.out.used _, HTw.out⟩
end Go.Proofs.Ytdkmdicmipcifaa.Disk
