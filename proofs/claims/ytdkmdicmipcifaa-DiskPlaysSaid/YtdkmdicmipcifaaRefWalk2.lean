import Derived.Test.YtdkmdicmipcifaaRefWalk1
import Derived.Test.YtdkmdicmipcifaaRefRegion
namespace Go.Proofs.Ytdkmdicmipcifaa.Disk
open Go Go.RowKit Go.Maps Go.Proofs.YtdkmdicmipcifaaW.PrintWords Go.Proofs.YtdkmdicmipcifaaW.PrintLast Go.Proofs.YtdkmdicmipcifaaW.PrintMore
open Go.Proofs.Ytdkmdicmipcifaa.Pure (mk mk_size mk_app mk_toList mk_dataList wrap_in)
attribute [local go_sem] mk_size mk_app mk_toList
set_option maxHeartbeats 4000000 in
set_option maxRecDepth 100000 in
theorem rused_calls {w : World} {q c : Nat} {A : Option Addr} {d : Dk} (hD : RAt w q A c d) (g : Good d) :
    Calls Try.prog 42 #[.pointer (some ⟨q, 0, none⟩)] w fun e w' => e = .returned (.int .i64 d.used) ∧ w' = w := by
  have c0 := hD.c0
  have HD := Aside0.mk hD
  have hm := g.many
  have ht : total d.L ≤ 10000000 := by have := g.used; have := g.fits; have := g.room; omega
  have HU := Aside0.mk g.used
  have HT := Aside0.mk ht
  clear hD g ht
  go_enter Try.func42, Try.ntmps42
  go_wp2
  go_loopw [3, 4] (fun v3 v4 wr => ∃ (i : Nat), v4 = .int .i64 i ∧ v3 = .int .i64 (total (d.L.take i)) ∧ Aside0 (i ≤ d.L.length) ∧ wr = w) (fun _ i _ => d.L.length - (intOf i).toNat)
  case atStart => exact ⟨0, rfl, rfl, ⟨Nat.zero_le _⟩, rfl⟩
  case round =>
    obtain ⟨i, rfl, rfl, HI, rfl⟩ := hrel
    by_cases hi : i < d.L.length
    · have b1 : decide ((i : Int) < (d.L.length : Int)) = true := decide_eq_true (by omega)
      have bw : wrap64 ((i : Int) + 1) = ((i + 1 : Nat) : Int) := by rw [w64 (by omega) (by omega)]; rfl
      have q0 : (0 : Int) ≤ (i : Int) := by omega
      have q1 : (i : Int) < (d.L.length : Int) := by omega
      obtain ⟨r, off, y, rfl, hy, hrq, hrl, k0, k1, k2, fz⟩ := HD.out.at_ i hi
      have bt : wrap64 (total (d.L.take i) + (y.2.1.length : Int)) = total (d.L.take (i + 1)) := by
        rw [total_take hy]
        have h1 := total_take_le d.L (i + 1)
        rw [total_take hy] at h1
        have h2 := total_nonneg (d.L.take i)
        have := HT.out
        exact w64 (by omega) (by omega)
      clear hy hm
      go_wp2
      exact ⟨⟨i + 1, by rw [bw], by rw [bt], ⟨hi⟩, trivial⟩, by rw [bw]; simp only [intOf]; omega⟩
    · have b1 : decide ((i : Int) < (d.L.length : Int)) = false := decide_eq_false (by omega)
      have e : total (d.L.take i) = d.used := by rw [List.take_of_length_le (by omega)]; exact HU.out.symm
      rw [e]
      go_wp2
      go_ret
      exact ⟨rfl, rfl⟩
theorem src_zero (c : Nat) (A : Option Addr) : A = if c = 0 then A else A.map (·.add (0 * 3)) := by
  split
  · rfl
  · cases A <;> simp [Addr.add]
theorem RAt.src {w : World} {q c : Nat} {A A' : Option Addr} {d : Dk} (h : RAt w q A c d) {k m : Nat} (hA : A' = if c = k then A else A.map (·.add (k * 3))) {news : List Value} (hn : ∀ j u, news[j]? = some u → (cells3 d.L)[k * 3 + j]? = some u) (hm : 0 < m) (hk : k + m ≤ d.L.length) :
    ∃ ad, A' = some ad ∧ ∀ j u, news[j]? = some u → w.cell? (ad.add j) = some u := by
  have hc := h.cap
  rw [if_neg (by omega)] at hA
  rcases h.row with h0 | ⟨r, off, cur, hA0, _, _⟩
  · rw [h0] at hk; simp at hk; omega
  subst hA0
  refine ⟨_, hA, fun j u hj => ?_⟩
  obtain ⟨r', off', hA', hl⟩ := h.lies (hn j u hj)
  cases hA'
  exact hl
theorem ra1 (W : World) (o : Obj) : (W.alloc o).heap[W.heap.size]? = some o := new_row W o
theorem ra2 (W : World) (o o' : Obj) : ((W.alloc o).alloc o').heap[W.heap.size]? = some o := old_row (new_row W o)
theorem ra3 (W : World) (o o' : Obj) : ((W.alloc o).alloc o').heap[W.heap.size + 1]? = some o' := by
  have := new_row (W.alloc o) o'
  have e : (W.alloc o).heap.size = W.heap.size + 1 := by simp
  rwa [e] at this
abbrev boxObj (x : Bs × File) : Obj := .cells #[.string (mk x.1), .string (mk x.2.1), .int .i64 x.2.2] 74 (0, 0)
theorem cf_at {W : World} {r : Nat} {x : Bs × File} (h : W.heap[r]? = some (boxObj x)) : ∀ j u, (cf x)[j]? = some u → W.cell? ((⟨r, 0, none⟩ : Addr).add j) = some u := fun j u hj => by
  have e : ∀ i, W.cell? ⟨r, i, none⟩ = (cf x)[i]? := fun i => by simp [World.cell?, h, cf, boxObj]
  rw [← hj, ← e]
  unfold Addr.add
  split
  · rename_i h0; rw [h0]
  · simp
theorem row3 {W : World} {r : Nat} {x : Bs × File} (h : W.heap[r]? = some (boxObj x)) : W.cell? ⟨r, 0, none⟩ = some (.string (mk x.1)) ∧ W.cell? ⟨r, 1, none⟩ = some (.string (mk x.2.1)) ∧ W.cell? ⟨r, 2, none⟩ = some (.int .i64 x.2.2) := by
  refine ⟨?_, ?_, ?_⟩ <;> simp [World.cell?, h, boxObj]
theorem keep3 {w1 w' : World} {q c r : Nat} {A : Option Addr} {d : Dk} {x : Bs × File} (hb : Below w1.heap.size w1 w') (hD : RAt w1 q A c d) (hx : w1.heap[r]? = some (boxObj x)) (hr : r < w1.heap.size) :
    w'.cell? ⟨q, 0, none⟩ = some (.slice A d.L.length c) ∧ w'.cell? ⟨r, 0, none⟩ = some (.string (mk x.1)) ∧ w'.cell? ⟨r, 1, none⟩ = some (.string (mk x.2.1)) ∧ w'.cell? ⟨r, 2, none⟩ = some (.int .i64 x.2.2) :=
  ⟨(hD.below hb).c0, row3 ((hb.block _ hr).trans hx)⟩
def ROut (q : Nat) (A : Option Addr) (w : World) (v : Value) (d' : Dk) (e : Ending) (w' : World) : Prop := ∃ A' c', e = .returned v ∧ RAt w' q A' c' d' ∧ RT q A A' w w'
set_option maxHeartbeats 16000000 in
set_option maxRecDepth 100000 in
theorem rput_calls {w : World} {q c : Nat} {A : Option Addr} {d : Dk} (hD : RAt w q A c d) (g : Good d) (x : Bs × File) :
    Calls Try.prog 53 #[.pointer (some ⟨q, 0, none⟩), fv3 x] w (ROut q A w (.tuple #[]) (putD d x.1 x.2)) := by
  obtain ⟨i0, hi0, hz0, hz1, hz2⟩ := parts3
  have hle := pos_le x.1 d.L
  have hm := g.many
  have hput := put_pos (n := x.1) (f := x.2) g.sorted
  have HD := Aside0.mk (hD.alloc (.cells #[.string (mk x.1), .string (mk x.2.1), .int .i64 x.2.2] 74))
  have HG := Aside0.mk g
  have hq : q < w.heap.size := hD.lt
  have hr : rowB q A < w.heap.size := hD.ltr
  have HQ := Aside0.mk (And.intro hq hr)
  have HCAP := Aside0.mk hD.cap
  clear hD g hq hr
  unfold fv3
  cases hh : has x.1 d.L
  · have HP := Aside0.mk (show put x.1 x.2 d.L = d.L.take (pos x.1 d.L) ++ (x.1, x.2) :: d.L.drop (pos x.1 d.L) by rw [hput, hh]; rfl)
    have q0 : (0 : Int) ≤ ((pos x.1 d.L : Nat) : Int) := by omega
    have q1 : ((pos x.1 d.L : Nat) : Int) ≤ (c : Int) := by have := HCAP.out; omega
    have q2 : ((pos x.1 d.L : Nat) : Int) ≤ (d.L.length : Int) := by omega
    have HLE := Aside0.mk (And.intro hle hm)
    have HL1 := Aside0.mk (show (cells3 (d.L.take (pos x.1 d.L))).length = pos x.1 d.L * 3 by rw [cells3_length, List.length_take]; congr 1; omega)
    clear hput
    go_enter Try.func53, Try.ntmps53
    go_wp2_with (first
      | (go_at_call 56; refine (find_calls HD.out HG.out x.1).mono ?_; rintro e w1 ⟨rfl, hD1, hb1⟩; rw [hh]; have HD1 := Aside0.mk hD1; have HB1 := Aside0.mk hb1; have HBX := Aside0.mk ((hb1.block _ (by simp)).trans (new_row w (boxObj x))); have HW1 := Aside0.mk (show w.heap.size < w1.heap.size by have := hb1.size; simp at this; omega); clear hD1 hb1)
      | go_in)
    have c0 := HD1.out.c0
    have c0' := fun o => (HD1.out.alloc o).c0
    have c0'' := fun o o' => ((HD1.out.alloc o).alloc o').c0
    have hb1 : ∀ o, Below w1.heap.size w1 (w1.drew.alloc o) := fun o => (Below.refl _ w1).drew.alloc (Nat.le_refl _) o
    have hb2 : ∀ o o', Below w1.heap.size w1 ((w1.drew.alloc o).alloc o') := fun o o' => (hb1 o).alloc (hb1 o).size o'
    obtain ⟨k0, k1, k2⟩ := row3 HBX.out
    have kk0 := fun o => (row3 (old_row (o := o) HBX.out)).1
    have kk1 := fun o => (row3 (old_row (o := o) HBX.out)).2.1
    have kk2 := fun o => (row3 (old_row (o := o) HBX.out)).2.2
    clear hle hm
    refine wp_region_E (fun w' => w'.cell? ⟨q, 0, none⟩ = some (.slice A d.L.length c) ∧ w'.cell? ⟨w.heap.size, 0, none⟩ = some (.string (mk x.1)) ∧ w'.cell? ⟨w.heap.size, 1, none⟩ = some (.string (mk x.2.1)) ∧ w'.cell? ⟨w.heap.size, 2, none⟩ = some (.int .i64 x.2.2)) 19 (by kernel_rfl) (by decide) ?_
    have hS0 := keep3 ((Below.refl w1.heap.size w1).drew) HD1.out HBX.out HW1.out
    refine wpE_take (v := ?_) 0 rfl (by kernel_rfl) (fun _ _ _ h => h) (Or.inl ⟨by rfl, ?_⟩) hS0 ?_
    rotate_left
    · intro w' hSw; go_simp; (try with_reducible rfl)
    try simp only [Act.put, List.setIfInBounds_toArray, List.set_cons_zero, List.set_cons_succ]
    refine wpE_take (v := ?_) 2 rfl (by kernel_rfl) (fun _ _ _ h => h) (Or.inl ⟨by rfl, ?_⟩) hS0 ?_
    rotate_left
    · intro w' hSw; go_simp; (try with_reducible rfl)
    try simp only [Act.put, List.setIfInBounds_toArray, List.set_cons_zero, List.set_cons_succ]
    refine wpE_take (v := ?_) 3 rfl (by kernel_rfl) (fun _ _ _ h => h) (Or.inl ⟨by rfl, ?_⟩) hS0 ?_
    rotate_left
    · intro w' hSw; go_simp; (try with_reducible rfl)
    try simp only [Act.put, List.setIfInBounds_toArray, List.set_cons_zero, List.set_cons_succ]
    refine wpE_take (v := ?_) 4 rfl (by kernel_rfl) (fun _ _ _ h => h) (Or.inl ⟨by rfl, ?_⟩) hS0 ?_
    rotate_left
    · intro w' hSw; go_simp; (try with_reducible rfl)
    try simp only [Act.put, List.setIfInBounds_toArray, List.set_cons_zero, List.set_cons_succ]
    refine wpE_take (v := ?_) 5 rfl (by kernel_rfl) (fun _ _ _ h => h) (Or.inl ⟨by rfl, ?_⟩) hS0 ?_
    rotate_left
    · intro w' hSw; go_simp; (try with_reducible rfl)
    try simp only [Act.put, List.setIfInBounds_toArray, List.set_cons_zero, List.set_cons_succ]
    refine wpE_take (v := ?_) 6 rfl (by kernel_rfl) (fun _ _ _ h => h) (Or.inl ⟨by rfl, ?_⟩) hS0 ?_
    rotate_left
    · intro w' hSw; go_simp; (try with_reducible rfl)
    try simp only [Act.put, List.setIfInBounds_toArray, List.set_cons_zero, List.set_cons_succ]
    refine wpE_take (v := ?_) 7 rfl (by kernel_rfl) (fun _ _ _ h => h) (Or.inl ⟨by rfl, ?_⟩) hS0 ?_
    rotate_left
    · intro w' hSw; go_simp; (try with_reducible rfl)
    try simp only [Act.put, List.setIfInBounds_toArray, List.set_cons_zero, List.set_cons_succ]
    refine wpE_take (v := ?_) 9 rfl (by kernel_rfl) (fun _ _ _ h => h) (Or.inl ⟨by rfl, ?_⟩) hS0 ?_
    rotate_left
    · intro w' hSw; go_simp; (try with_reducible rfl)
    try simp only [Act.put, List.setIfInBounds_toArray, List.set_cons_zero, List.set_cons_succ]
    refine wpE_take (v := ?_) 12 rfl (by kernel_rfl) (fun _ _ _ h => h) (Or.inl ⟨by rfl, ?_⟩) hS0 ?_
    rotate_left
    · intro w' hSw; go_simp; (try with_reducible rfl)
    try simp only [Act.put, List.setIfInBounds_toArray, List.set_cons_zero, List.set_cons_succ]
    refine wpE_take (v := ?_) 13 rfl (by kernel_rfl) (fun _ _ _ h => h) (Or.inl ⟨by rfl, ?_⟩) hS0 ?_
    rotate_left
    · intro w' hSw; go_simp; (try with_reducible rfl)
    try simp only [Act.put, List.setIfInBounds_toArray, List.set_cons_zero, List.set_cons_succ]
    refine wpE_take (v := ?_) 14 rfl (by kernel_rfl) (fun _ _ _ h => h) (Or.inl ⟨by rfl, ?_⟩) hS0 ?_
    rotate_left
    · intro w' hSw; go_simp; (try with_reducible rfl)
    try simp only [Act.put, List.setIfInBounds_toArray, List.set_cons_zero, List.set_cons_succ]
    refine wpE_take (v := ?_) 15 rfl (by kernel_rfl) (fun _ _ _ h => h) (Or.inl ⟨by rfl, ?_⟩) hS0 ?_
    rotate_left
    · intro w' hSw; go_simp; (try with_reducible rfl)
    try simp only [Act.put, List.setIfInBounds_toArray, List.set_cons_zero, List.set_cons_succ]
    refine wpE_take (v := ?_) 16 rfl (by kernel_rfl) (fun _ _ _ h => h) (Or.inl ⟨by rfl, ?_⟩) hS0 ?_
    rotate_left
    · intro w' hSw; go_simp; (try with_reducible rfl)
    try simp only [Act.put, List.setIfInBounds_toArray, List.set_cons_zero, List.set_cons_succ]
    refine wpE_take (v := ?_) 17 rfl (by kernel_rfl) (fun _ _ _ h => h) (Or.inl ⟨by rfl, ?_⟩) hS0 ?_
    rotate_left
    · intro w' hSw; go_simp; (try with_reducible rfl)
    try simp only [Act.put, List.setIfInBounds_toArray, List.set_cons_zero, List.set_cons_succ]
    clear hS0
    refine wpE_ready [1, 10] (by kernel_rfl) (by simp) ?_
    intro i hi
    simp only [List.mem_cons, List.not_mem_nil, or_false] at hi
    rcases hi with rfl | rfl
    · refine wpE_step rfl ?_
      intro K hK
      rw [if_pos (by rfl)]
      go_simp
      refine hK.out _ _ (keep3 (hb1 _) HD1.out HBX.out HW1.out) ?_
      clear hK K
      try simp only [Act.put, List.setIfInBounds_toArray, List.set_cons_zero, List.set_cons_succ]
      refine wpE_ready [8, 10] (by kernel_rfl) (by simp) ?_
      intro i hi
      simp only [List.mem_cons, List.not_mem_nil, or_false] at hi
      rcases hi with rfl | rfl
      · refine wpE_step rfl ?_
        intro K hK
        refine step_app3 rfl (.tmp 19) (.tmp 25) rfl i0 hi0 hz0 hz1 hz2 w1.heap.size _ 0 0 [] rfl (owns3_empty (by first | exact ra1 _ _ | exact ra2 _ _ _ | exact ra3 _ _ _) (by first | exact Nat.le_refl _ | (simp; done) | omega)) _ (pos x.1 d.L) c (cells3 (d.L.take (pos x.1 d.L))) rfl HL1.out (by intro h0; exact RAt.src (k := 0) (m := pos x.1 d.L) (by first | exact HD1.out.drew.alloc _ | exact (HD1.out.drew.alloc _).alloc _) (by first | rfl | exact src_zero c A) (fun j u hj => by rw [Nat.zero_mul, Nat.zero_add]; exact cells3_take hj) h0 (by have := HLE.out; omega)) cells3_one (by have := HLE.out; omega) (by first | exact (hb1 _).size | exact (hb2 _ _).size) ?_
        intro g1 cap1 w2 hown2 hgrow2 hge2 hlt2
        rw [Nat.zero_add, List.nil_append] at hown2
        (try rw [Nat.zero_add])
        have HB2 := Aside0.mk (Below.grown (B := w1.heap.size) (a := w1) (by first | exact hb1 _ | exact hb2 _ _) hgrow2 (by first | exact (hb1 _).size | exact (hb2 _ _).size) (fun k e => by cases e; first | exact Nat.le_refl _ | (simp; done) | omega))
        have HD2 := Aside0.mk (HD1.out.below HB2.out)
        have d0 := HD2.out.c0
        have d0' := fun o => (HD2.out.alloc o).c0
        have hbx2 := (HB2.out.block _ HW1.out).trans HBX.out
        obtain ⟨y0, y1, y2⟩ := row3 hbx2
        have hR := fun (r : Nat) (o : Obj) hne (ho : _ = some o) => (hgrow2.block r (Array.getElem?_eq_some_iff.1 ho).1 hne).trans ho
        refine hK.out _ _ (keep3 HB2.out HD1.out HBX.out HW1.out) ?_
        clear hK K
        try simp only [Act.put, List.setIfInBounds_toArray, List.set_cons_zero, List.set_cons_succ]
        refine wpE_ready [10] (by kernel_rfl) (by simp) ?_
        intro i hi
        obtain rfl : i = 10 := by simpa using hi
        refine wpE_step rfl ?_
        intro K hK
        rw [if_pos (by rfl)]
        go_simp
        refine hK.out _ _ (keep3 (HB2.out.alloc HB2.out.size _) HD1.out HBX.out HW1.out) ?_
        clear hK K
        try simp only [Act.put, List.setIfInBounds_toArray, List.set_cons_zero, List.set_cons_succ]
        refine wpE_ready [11] (by kernel_rfl) (by simp) ?_
        intro i hi
        obtain rfl : i = 11 := by simpa using hi
        refine wpE_step rfl ?_
        intro K hK
        refine step_app3 rfl (.tmp 26) (.tmp 28) rfl i0 hi0 hz0 hz1 hz2 w1.heap.size g1 _ cap1 _ rfl (by first | exact hown2 | exact hown2.alloc _) _ 1 1 (cf x) rfl rfl (by intro _; exact ⟨_, rfl, by first | exact cf_at (ra1 _ _) | exact cf_at (hR _ _ (fun e => Nat.succ_ne_self _ (Option.some.inj e)) (ra3 _ _ _)) | exact cf_at (hR _ _ (fun e => Nat.succ_ne_self _ (Option.some.inj e).symm) (ra2 _ _ _))⟩) cf_one (by have := HLE.out; omega) (by first | exact HB2.out.size | exact (HB2.out.alloc HB2.out.size _).size) ?_
        intro g2 cap2 w3 hown3 hgrow3 hge3 hlt3
        have HB3 := Aside0.mk (Below.grown (B := w1.heap.size) (a := w1) (by first | exact HB2.out | exact HB2.out.alloc HB2.out.size _) hgrow3 (by first | exact HB2.out.size | exact (HB2.out.alloc HB2.out.size _).size) (fun k e => by cases e; exact hge2))
        have HD3 := Aside0.mk (HD1.out.below HB3.out)
        have e0 := HD3.out.c0
        refine hK.out _ _ (keep3 HB3.out HD1.out HBX.out HW1.out) ?_
        clear hK K
        try simp only [Act.put, List.setIfInBounds_toArray, List.set_cons_zero, List.set_cons_succ]
        refine wpE_ready [18] (by kernel_rfl) (by simp) ?_
        intro i hi
        obtain rfl : i = 18 := by simpa using hi
        refine wpE_step rfl ?_
        intro K hK
        refine step_app3 rfl (.tmp 29) (.tmp 35) rfl i0 hi0 hz0 hz1 hz2 w1.heap.size g2 _ cap2 _ rfl hown3 _ (d.L.length - (pos x.1 d.L)) _ (cells3 (d.L.drop (pos x.1 d.L))) rfl (by rw [cells3_length, List.length_drop]) (by intro h0; exact RAt.src (k := (pos x.1 d.L)) (m := d.L.length - (pos x.1 d.L)) HD3.out (by first | rfl | (simp; done)) (fun j u hj => by rw [← cells3_drop]; exact hj) h0 (by have := HLE.out; omega)) cells3_one (by have := HLE.out; omega) HB3.out.size ?_
        intro g3 cap3 w4 hown4 hgrow4 hge4 hlt4
        have HB4 := Aside0.mk (Below.grown (B := w1.heap.size) (a := w1) HB3.out hgrow4 HB3.out.size (fun k e => by cases e; exact hge3))
        have HD4 := Aside0.mk (HD1.out.below HB4.out)
        have f0 := HD4.out.c0
        have ff := HD4.out.fz 0
        refine hK.out _ _ (keep3 HB4.out HD1.out HBX.out HW1.out) ?_
        clear hK K
        try simp only [Act.put, List.setIfInBounds_toArray, List.set_cons_zero, List.set_cons_succ]
        refine wpE_end (by kernel_rfl) ?_
        simp only [List.drop_succ_cons, List.drop_zero]
        go_wp2
        all_goals (
          go_end0
          refine ⟨some ⟨g3, 0, none⟩, cap3, rfl, ?_, ?_⟩
          · refine HD4.out.set0 (l := put x.1 x.2 d.L) (by rw [HP.out, cells3_app]; show World.ownsRow _ _ _ _ _ _ (cells3 _ ++ (cf x ++ cells3 _)); rw [← List.append_assoc]; exact hown4) (by rw [HP.out, List.length_append, List.length_take, List.length_cons, List.length_drop]; have := HLE.out; omega) (by have := HQ.out; have := HW1.out; omega) _
          · exact ⟨((RT.below (((Below.refl _ w).alloc (Nat.le_refl _) _).trans ((HB1.out.mono (by simp)).trans (HB4.out.mono (Nat.le_of_lt HW1.out))))).set _ _).two, .inr (Nat.le_trans (Nat.le_of_lt HW1.out) hge4)⟩)
      · refine wpE_step rfl ?_
        intro K hK
        rw [if_pos (by rfl)]
        go_simp
        refine hK.out _ _ (keep3 (hb2 _ _) HD1.out HBX.out HW1.out) ?_
        clear hK K
        try simp only [Act.put, List.setIfInBounds_toArray, List.set_cons_zero, List.set_cons_succ]
        refine wpE_ready [8] (by kernel_rfl) (by simp) ?_
        intro i hi
        obtain rfl : i = 8 := by simpa using hi
        refine wpE_step rfl ?_
        intro K hK
        refine step_app3 rfl (.tmp 19) (.tmp 25) rfl i0 hi0 hz0 hz1 hz2 w1.heap.size _ 0 0 [] rfl (owns3_empty (by first | exact ra1 _ _ | exact ra2 _ _ _ | exact ra3 _ _ _) (by first | exact Nat.le_refl _ | (simp; done) | omega)) _ (pos x.1 d.L) c (cells3 (d.L.take (pos x.1 d.L))) rfl HL1.out (by intro h0; exact RAt.src (k := 0) (m := pos x.1 d.L) (by first | exact HD1.out.drew.alloc _ | exact (HD1.out.drew.alloc _).alloc _) (by first | rfl | exact src_zero c A) (fun j u hj => by rw [Nat.zero_mul, Nat.zero_add]; exact cells3_take hj) h0 (by have := HLE.out; omega)) cells3_one (by have := HLE.out; omega) (by first | exact (hb1 _).size | exact (hb2 _ _).size) ?_
        intro g1 cap1 w2 hown2 hgrow2 hge2 hlt2
        rw [Nat.zero_add, List.nil_append] at hown2
        (try rw [Nat.zero_add])
        have HB2 := Aside0.mk (Below.grown (B := w1.heap.size) (a := w1) (by first | exact hb1 _ | exact hb2 _ _) hgrow2 (by first | exact (hb1 _).size | exact (hb2 _ _).size) (fun k e => by cases e; first | exact Nat.le_refl _ | (simp; done) | omega))
        have HD2 := Aside0.mk (HD1.out.below HB2.out)
        have d0 := HD2.out.c0
        have d0' := fun o => (HD2.out.alloc o).c0
        have hbx2 := (HB2.out.block _ HW1.out).trans HBX.out
        obtain ⟨y0, y1, y2⟩ := row3 hbx2
        have hR := fun (r : Nat) (o : Obj) hne (ho : _ = some o) => (hgrow2.block r (Array.getElem?_eq_some_iff.1 ho).1 hne).trans ho
        refine hK.out _ _ (keep3 HB2.out HD1.out HBX.out HW1.out) ?_
        clear hK K
        try simp only [Act.put, List.setIfInBounds_toArray, List.set_cons_zero, List.set_cons_succ]
        refine wpE_ready [11] (by kernel_rfl) (by simp) ?_
        intro i hi
        obtain rfl : i = 11 := by simpa using hi
        refine wpE_step rfl ?_
        intro K hK
        refine step_app3 rfl (.tmp 26) (.tmp 28) rfl i0 hi0 hz0 hz1 hz2 w1.heap.size g1 _ cap1 _ rfl (by first | exact hown2 | exact hown2.alloc _) _ 1 1 (cf x) rfl rfl (by intro _; exact ⟨_, rfl, by first | exact cf_at (ra1 _ _) | exact cf_at (hR _ _ (fun e => Nat.succ_ne_self _ (Option.some.inj e)) (ra3 _ _ _)) | exact cf_at (hR _ _ (fun e => Nat.succ_ne_self _ (Option.some.inj e).symm) (ra2 _ _ _))⟩) cf_one (by have := HLE.out; omega) (by first | exact HB2.out.size | exact (HB2.out.alloc HB2.out.size _).size) ?_
        intro g2 cap2 w3 hown3 hgrow3 hge3 hlt3
        have HB3 := Aside0.mk (Below.grown (B := w1.heap.size) (a := w1) (by first | exact HB2.out | exact HB2.out.alloc HB2.out.size _) hgrow3 (by first | exact HB2.out.size | exact (HB2.out.alloc HB2.out.size _).size) (fun k e => by cases e; exact hge2))
        have HD3 := Aside0.mk (HD1.out.below HB3.out)
        have e0 := HD3.out.c0
        refine hK.out _ _ (keep3 HB3.out HD1.out HBX.out HW1.out) ?_
        clear hK K
        try simp only [Act.put, List.setIfInBounds_toArray, List.set_cons_zero, List.set_cons_succ]
        refine wpE_ready [18] (by kernel_rfl) (by simp) ?_
        intro i hi
        obtain rfl : i = 18 := by simpa using hi
        refine wpE_step rfl ?_
        intro K hK
        refine step_app3 rfl (.tmp 29) (.tmp 35) rfl i0 hi0 hz0 hz1 hz2 w1.heap.size g2 _ cap2 _ rfl hown3 _ (d.L.length - (pos x.1 d.L)) _ (cells3 (d.L.drop (pos x.1 d.L))) rfl (by rw [cells3_length, List.length_drop]) (by intro h0; exact RAt.src (k := (pos x.1 d.L)) (m := d.L.length - (pos x.1 d.L)) HD3.out (by first | rfl | (simp; done)) (fun j u hj => by rw [← cells3_drop]; exact hj) h0 (by have := HLE.out; omega)) cells3_one (by have := HLE.out; omega) HB3.out.size ?_
        intro g3 cap3 w4 hown4 hgrow4 hge4 hlt4
        have HB4 := Aside0.mk (Below.grown (B := w1.heap.size) (a := w1) HB3.out hgrow4 HB3.out.size (fun k e => by cases e; exact hge3))
        have HD4 := Aside0.mk (HD1.out.below HB4.out)
        have f0 := HD4.out.c0
        have ff := HD4.out.fz 0
        refine hK.out _ _ (keep3 HB4.out HD1.out HBX.out HW1.out) ?_
        clear hK K
        try simp only [Act.put, List.setIfInBounds_toArray, List.set_cons_zero, List.set_cons_succ]
        refine wpE_end (by kernel_rfl) ?_
        simp only [List.drop_succ_cons, List.drop_zero]
        go_wp2
        all_goals (
          go_end0
          refine ⟨some ⟨g3, 0, none⟩, cap3, rfl, ?_, ?_⟩
          · refine HD4.out.set0 (l := put x.1 x.2 d.L) (by rw [HP.out, cells3_app]; show World.ownsRow _ _ _ _ _ _ (cells3 _ ++ (cf x ++ cells3 _)); rw [← List.append_assoc]; exact hown4) (by rw [HP.out, List.length_append, List.length_take, List.length_cons, List.length_drop]; have := HLE.out; omega) (by have := HQ.out; have := HW1.out; omega) _
          · exact ⟨((RT.below (((Below.refl _ w).alloc (Nat.le_refl _) _).trans ((HB1.out.mono (by simp)).trans (HB4.out.mono (Nat.le_of_lt HW1.out))))).set _ _).two, .inr (Nat.le_trans (Nat.le_of_lt HW1.out) hge4)⟩)
    · refine wpE_step rfl ?_
      intro K hK
      rw [if_pos (by rfl)]
      go_simp
      refine hK.out _ _ (keep3 (hb1 _) HD1.out HBX.out HW1.out) ?_
      clear hK K
      try simp only [Act.put, List.setIfInBounds_toArray, List.set_cons_zero, List.set_cons_succ]
      refine wpE_ready [1] (by kernel_rfl) (by simp) ?_
      intro i hi
      obtain rfl : i = 1 := by simpa using hi
      refine wpE_step rfl ?_
      intro K hK
      rw [if_pos (by rfl)]
      go_simp
      refine hK.out _ _ (keep3 (hb2 _ _) HD1.out HBX.out HW1.out) ?_
      clear hK K
      try simp only [Act.put, List.setIfInBounds_toArray, List.set_cons_zero, List.set_cons_succ]
      refine wpE_ready [8] (by kernel_rfl) (by simp) ?_
      intro i hi
      obtain rfl : i = 8 := by simpa using hi
      refine wpE_step rfl ?_
      intro K hK
      refine step_app3 rfl (.tmp 19) (.tmp 25) rfl i0 hi0 hz0 hz1 hz2 w1.heap.size _ 0 0 [] rfl (owns3_empty (by first | exact ra1 _ _ | exact ra2 _ _ _ | exact ra3 _ _ _) (by first | exact Nat.le_refl _ | (simp; done) | omega)) _ (pos x.1 d.L) c (cells3 (d.L.take (pos x.1 d.L))) rfl HL1.out (by intro h0; exact RAt.src (k := 0) (m := pos x.1 d.L) (by first | exact HD1.out.drew.alloc _ | exact (HD1.out.drew.alloc _).alloc _) (by first | rfl | exact src_zero c A) (fun j u hj => by rw [Nat.zero_mul, Nat.zero_add]; exact cells3_take hj) h0 (by have := HLE.out; omega)) cells3_one (by have := HLE.out; omega) (by first | exact (hb1 _).size | exact (hb2 _ _).size) ?_
      intro g1 cap1 w2 hown2 hgrow2 hge2 hlt2
      rw [Nat.zero_add, List.nil_append] at hown2
      (try rw [Nat.zero_add])
      have HB2 := Aside0.mk (Below.grown (B := w1.heap.size) (a := w1) (by first | exact hb1 _ | exact hb2 _ _) hgrow2 (by first | exact (hb1 _).size | exact (hb2 _ _).size) (fun k e => by cases e; first | exact Nat.le_refl _ | (simp; done) | omega))
      have HD2 := Aside0.mk (HD1.out.below HB2.out)
      have d0 := HD2.out.c0
      have d0' := fun o => (HD2.out.alloc o).c0
      have hbx2 := (HB2.out.block _ HW1.out).trans HBX.out
      obtain ⟨y0, y1, y2⟩ := row3 hbx2
      have hR := fun (r : Nat) (o : Obj) hne (ho : _ = some o) => (hgrow2.block r (Array.getElem?_eq_some_iff.1 ho).1 hne).trans ho
      refine hK.out _ _ (keep3 HB2.out HD1.out HBX.out HW1.out) ?_
      clear hK K
      try simp only [Act.put, List.setIfInBounds_toArray, List.set_cons_zero, List.set_cons_succ]
      refine wpE_ready [11] (by kernel_rfl) (by simp) ?_
      intro i hi
      obtain rfl : i = 11 := by simpa using hi
      refine wpE_step rfl ?_
      intro K hK
      refine step_app3 rfl (.tmp 26) (.tmp 28) rfl i0 hi0 hz0 hz1 hz2 w1.heap.size g1 _ cap1 _ rfl (by first | exact hown2 | exact hown2.alloc _) _ 1 1 (cf x) rfl rfl (by intro _; exact ⟨_, rfl, by first | exact cf_at (ra1 _ _) | exact cf_at (hR _ _ (fun e => Nat.succ_ne_self _ (Option.some.inj e)) (ra3 _ _ _)) | exact cf_at (hR _ _ (fun e => Nat.succ_ne_self _ (Option.some.inj e).symm) (ra2 _ _ _))⟩) cf_one (by have := HLE.out; omega) (by first | exact HB2.out.size | exact (HB2.out.alloc HB2.out.size _).size) ?_
      intro g2 cap2 w3 hown3 hgrow3 hge3 hlt3
      have HB3 := Aside0.mk (Below.grown (B := w1.heap.size) (a := w1) (by first | exact HB2.out | exact HB2.out.alloc HB2.out.size _) hgrow3 (by first | exact HB2.out.size | exact (HB2.out.alloc HB2.out.size _).size) (fun k e => by cases e; exact hge2))
      have HD3 := Aside0.mk (HD1.out.below HB3.out)
      have e0 := HD3.out.c0
      refine hK.out _ _ (keep3 HB3.out HD1.out HBX.out HW1.out) ?_
      clear hK K
      try simp only [Act.put, List.setIfInBounds_toArray, List.set_cons_zero, List.set_cons_succ]
      refine wpE_ready [18] (by kernel_rfl) (by simp) ?_
      intro i hi
      obtain rfl : i = 18 := by simpa using hi
      refine wpE_step rfl ?_
      intro K hK
      refine step_app3 rfl (.tmp 29) (.tmp 35) rfl i0 hi0 hz0 hz1 hz2 w1.heap.size g2 _ cap2 _ rfl hown3 _ (d.L.length - (pos x.1 d.L)) _ (cells3 (d.L.drop (pos x.1 d.L))) rfl (by rw [cells3_length, List.length_drop]) (by intro h0; exact RAt.src (k := (pos x.1 d.L)) (m := d.L.length - (pos x.1 d.L)) HD3.out (by first | rfl | (simp; done)) (fun j u hj => by rw [← cells3_drop]; exact hj) h0 (by have := HLE.out; omega)) cells3_one (by have := HLE.out; omega) HB3.out.size ?_
      intro g3 cap3 w4 hown4 hgrow4 hge4 hlt4
      have HB4 := Aside0.mk (Below.grown (B := w1.heap.size) (a := w1) HB3.out hgrow4 HB3.out.size (fun k e => by cases e; exact hge3))
      have HD4 := Aside0.mk (HD1.out.below HB4.out)
      have f0 := HD4.out.c0
      have ff := HD4.out.fz 0
      refine hK.out _ _ (keep3 HB4.out HD1.out HBX.out HW1.out) ?_
      clear hK K
      try simp only [Act.put, List.setIfInBounds_toArray, List.set_cons_zero, List.set_cons_succ]
      refine wpE_end (by kernel_rfl) ?_
      simp only [List.drop_succ_cons, List.drop_zero]
      go_wp2
      all_goals (
        go_end0
        refine ⟨some ⟨g3, 0, none⟩, cap3, rfl, ?_, ?_⟩
        · refine HD4.out.set0 (l := put x.1 x.2 d.L) (by rw [HP.out, cells3_app]; show World.ownsRow _ _ _ _ _ _ (cells3 _ ++ (cf x ++ cells3 _)); rw [← List.append_assoc]; exact hown4) (by rw [HP.out, List.length_append, List.length_take, List.length_cons, List.length_drop]; have := HLE.out; omega) (by have := HQ.out; have := HW1.out; omega) _
        · exact ⟨((RT.below (((Below.refl _ w).alloc (Nat.le_refl _) _).trans ((HB1.out.mono (by simp)).trans (HB4.out.mono (Nat.le_of_lt HW1.out))))).set _ _).two, .inr (Nat.le_trans (Nat.le_of_lt HW1.out) hge4)⟩)
  · have HP := Aside0.mk (show put x.1 x.2 d.L = d.L.take (pos x.1 d.L) ++ (x.1, x.2) :: d.L.drop ((pos x.1 d.L + 1)) by rw [hput, hh]; rfl)
    have q0 : (0 : Int) ≤ ((pos x.1 d.L : Nat) : Int) := by omega
    have q1 : ((pos x.1 d.L : Nat) : Int) ≤ (c : Int) := by have := HCAP.out; omega
    have hlt := (has_at HG.out.sorted hh).2
    have q2 : ((pos x.1 d.L : Nat) : Int) + 1 ≤ (d.L.length : Int) := by omega
    have q3 : (0 : Int) ≤ ((pos x.1 d.L : Nat) : Int) + 1 := by omega
    have q4 : (((pos x.1 d.L : Nat) : Int) + 1).toNat = pos x.1 d.L + 1 := by omega
    have bw : wrap64 (((pos x.1 d.L : Nat) : Int) + 1) = ((pos x.1 d.L : Nat) : Int) + 1 := by rw [w64 (by omega) (by omega)]
    have HLE := Aside0.mk (show pos x.1 d.L + 1 ≤ d.L.length ∧ d.L.length ≤ 200 by omega)
    have HL1 := Aside0.mk (show (cells3 (d.L.take (pos x.1 d.L))).length = pos x.1 d.L * 3 by rw [cells3_length, List.length_take]; congr 1; omega)
    clear hput
    go_enter Try.func53, Try.ntmps53
    go_wp2_with (first
      | (go_at_call 56; refine (find_calls HD.out HG.out x.1).mono ?_; rintro e w1 ⟨rfl, hD1, hb1⟩; rw [hh]; have HD1 := Aside0.mk hD1; have HB1 := Aside0.mk hb1; have HBX := Aside0.mk ((hb1.block _ (by simp)).trans (new_row w (boxObj x))); have HW1 := Aside0.mk (show w.heap.size < w1.heap.size by have := hb1.size; simp at this; omega); clear hD1 hb1)
      | go_in)
    have c0 := HD1.out.c0
    have c0' := fun o => (HD1.out.alloc o).c0
    have c0'' := fun o o' => ((HD1.out.alloc o).alloc o').c0
    have hb1 : ∀ o, Below w1.heap.size w1 (w1.drew.alloc o) := fun o => (Below.refl _ w1).drew.alloc (Nat.le_refl _) o
    have hb2 : ∀ o o', Below w1.heap.size w1 ((w1.drew.alloc o).alloc o') := fun o o' => (hb1 o).alloc (hb1 o).size o'
    obtain ⟨k0, k1, k2⟩ := row3 HBX.out
    have kk0 := fun o => (row3 (old_row (o := o) HBX.out)).1
    have kk1 := fun o => (row3 (old_row (o := o) HBX.out)).2.1
    have kk2 := fun o => (row3 (old_row (o := o) HBX.out)).2.2
    clear hle hm
    refine wp_region_E (fun w' => w'.cell? ⟨q, 0, none⟩ = some (.slice A d.L.length c) ∧ w'.cell? ⟨w.heap.size, 0, none⟩ = some (.string (mk x.1)) ∧ w'.cell? ⟨w.heap.size, 1, none⟩ = some (.string (mk x.2.1)) ∧ w'.cell? ⟨w.heap.size, 2, none⟩ = some (.int .i64 x.2.2)) 19 (by kernel_rfl) (by decide) ?_
    have hS0 := keep3 ((Below.refl w1.heap.size w1).drew) HD1.out HBX.out HW1.out
    refine wpE_take (v := ?_) 0 rfl (by kernel_rfl) (fun _ _ _ h => h) (Or.inl ⟨by rfl, ?_⟩) hS0 ?_
    rotate_left
    · intro w' hSw; go_simp; (try with_reducible rfl)
    try simp only [Act.put, List.setIfInBounds_toArray, List.set_cons_zero, List.set_cons_succ]
    refine wpE_take (v := ?_) 2 rfl (by kernel_rfl) (fun _ _ _ h => h) (Or.inl ⟨by rfl, ?_⟩) hS0 ?_
    rotate_left
    · intro w' hSw; go_simp; (try with_reducible rfl)
    try simp only [Act.put, List.setIfInBounds_toArray, List.set_cons_zero, List.set_cons_succ]
    refine wpE_take (v := ?_) 3 rfl (by kernel_rfl) (fun _ _ _ h => h) (Or.inl ⟨by rfl, ?_⟩) hS0 ?_
    rotate_left
    · intro w' hSw; go_simp; (try with_reducible rfl)
    try simp only [Act.put, List.setIfInBounds_toArray, List.set_cons_zero, List.set_cons_succ]
    refine wpE_take (v := ?_) 4 rfl (by kernel_rfl) (fun _ _ _ h => h) (Or.inl ⟨by rfl, ?_⟩) hS0 ?_
    rotate_left
    · intro w' hSw; go_simp; (try with_reducible rfl)
    try simp only [Act.put, List.setIfInBounds_toArray, List.set_cons_zero, List.set_cons_succ]
    refine wpE_take (v := ?_) 5 rfl (by kernel_rfl) (fun _ _ _ h => h) (Or.inl ⟨by rfl, ?_⟩) hS0 ?_
    rotate_left
    · intro w' hSw; go_simp; (try with_reducible rfl)
    try simp only [Act.put, List.setIfInBounds_toArray, List.set_cons_zero, List.set_cons_succ]
    refine wpE_take (v := ?_) 6 rfl (by kernel_rfl) (fun _ _ _ h => h) (Or.inl ⟨by rfl, ?_⟩) hS0 ?_
    rotate_left
    · intro w' hSw; go_simp; (try with_reducible rfl)
    try simp only [Act.put, List.setIfInBounds_toArray, List.set_cons_zero, List.set_cons_succ]
    refine wpE_take (v := ?_) 7 rfl (by kernel_rfl) (fun _ _ _ h => h) (Or.inl ⟨by rfl, ?_⟩) hS0 ?_
    rotate_left
    · intro w' hSw; go_simp; (try with_reducible rfl)
    try simp only [Act.put, List.setIfInBounds_toArray, List.set_cons_zero, List.set_cons_succ]
    refine wpE_take (v := ?_) 9 rfl (by kernel_rfl) (fun _ _ _ h => h) (Or.inl ⟨by rfl, ?_⟩) hS0 ?_
    rotate_left
    · intro w' hSw; go_simp; (try with_reducible rfl)
    try simp only [Act.put, List.setIfInBounds_toArray, List.set_cons_zero, List.set_cons_succ]
    refine wpE_take (v := ?_) 12 rfl (by kernel_rfl) (fun _ _ _ h => h) (Or.inl ⟨by rfl, ?_⟩) hS0 ?_
    rotate_left
    · intro w' hSw; go_simp; (try with_reducible rfl)
    try simp only [Act.put, List.setIfInBounds_toArray, List.set_cons_zero, List.set_cons_succ]
    refine wpE_take (v := ?_) 13 rfl (by kernel_rfl) (fun _ _ _ h => h) (Or.inl ⟨by rfl, ?_⟩) hS0 ?_
    rotate_left
    · intro w' hSw; go_simp; (try with_reducible rfl)
    try simp only [Act.put, List.setIfInBounds_toArray, List.set_cons_zero, List.set_cons_succ]
    refine wpE_take (v := ?_) 14 rfl (by kernel_rfl) (fun _ _ _ h => h) (Or.inl ⟨by rfl, ?_⟩) hS0 ?_
    rotate_left
    · intro w' hSw; go_simp; (try with_reducible rfl)
    try simp only [Act.put, List.setIfInBounds_toArray, List.set_cons_zero, List.set_cons_succ]
    refine wpE_take (v := ?_) 15 rfl (by kernel_rfl) (fun _ _ _ h => h) (Or.inl ⟨by rfl, ?_⟩) hS0 ?_
    rotate_left
    · intro w' hSw; go_simp; (try with_reducible rfl)
    try simp only [Act.put, List.setIfInBounds_toArray, List.set_cons_zero, List.set_cons_succ]
    refine wpE_take (v := ?_) 16 rfl (by kernel_rfl) (fun _ _ _ h => h) (Or.inl ⟨by rfl, ?_⟩) hS0 ?_
    rotate_left
    · intro w' hSw; go_simp; (try with_reducible rfl)
    try simp only [Act.put, List.setIfInBounds_toArray, List.set_cons_zero, List.set_cons_succ]
    refine wpE_take (v := ?_) 17 rfl (by kernel_rfl) (fun _ _ _ h => h) (Or.inl ⟨by rfl, ?_⟩) hS0 ?_
    rotate_left
    · intro w' hSw; go_simp; (try with_reducible rfl)
    try simp only [Act.put, List.setIfInBounds_toArray, List.set_cons_zero, List.set_cons_succ]
    clear hS0
    refine wpE_ready [1, 10] (by kernel_rfl) (by simp) ?_
    intro i hi
    simp only [List.mem_cons, List.not_mem_nil, or_false] at hi
    rcases hi with rfl | rfl
    · refine wpE_step rfl ?_
      intro K hK
      rw [if_pos (by rfl)]
      go_simp
      refine hK.out _ _ (keep3 (hb1 _) HD1.out HBX.out HW1.out) ?_
      clear hK K
      try simp only [Act.put, List.setIfInBounds_toArray, List.set_cons_zero, List.set_cons_succ]
      refine wpE_ready [8, 10] (by kernel_rfl) (by simp) ?_
      intro i hi
      simp only [List.mem_cons, List.not_mem_nil, or_false] at hi
      rcases hi with rfl | rfl
      · refine wpE_step rfl ?_
        intro K hK
        refine step_app3 rfl (.tmp 19) (.tmp 25) rfl i0 hi0 hz0 hz1 hz2 w1.heap.size _ 0 0 [] rfl (owns3_empty (by first | exact ra1 _ _ | exact ra2 _ _ _ | exact ra3 _ _ _) (by first | exact Nat.le_refl _ | (simp; done) | omega)) _ (pos x.1 d.L) c (cells3 (d.L.take (pos x.1 d.L))) rfl HL1.out (by intro h0; exact RAt.src (k := 0) (m := pos x.1 d.L) (by first | exact HD1.out.drew.alloc _ | exact (HD1.out.drew.alloc _).alloc _) (by first | rfl | exact src_zero c A) (fun j u hj => by rw [Nat.zero_mul, Nat.zero_add]; exact cells3_take hj) h0 (by have := HLE.out; omega)) cells3_one (by have := HLE.out; omega) (by first | exact (hb1 _).size | exact (hb2 _ _).size) ?_
        intro g1 cap1 w2 hown2 hgrow2 hge2 hlt2
        rw [Nat.zero_add, List.nil_append] at hown2
        (try rw [Nat.zero_add])
        have HB2 := Aside0.mk (Below.grown (B := w1.heap.size) (a := w1) (by first | exact hb1 _ | exact hb2 _ _) hgrow2 (by first | exact (hb1 _).size | exact (hb2 _ _).size) (fun k e => by cases e; first | exact Nat.le_refl _ | (simp; done) | omega))
        have HD2 := Aside0.mk (HD1.out.below HB2.out)
        have d0 := HD2.out.c0
        have d0' := fun o => (HD2.out.alloc o).c0
        have hbx2 := (HB2.out.block _ HW1.out).trans HBX.out
        obtain ⟨y0, y1, y2⟩ := row3 hbx2
        have hR := fun (r : Nat) (o : Obj) hne (ho : _ = some o) => (hgrow2.block r (Array.getElem?_eq_some_iff.1 ho).1 hne).trans ho
        refine hK.out _ _ (keep3 HB2.out HD1.out HBX.out HW1.out) ?_
        clear hK K
        try simp only [Act.put, List.setIfInBounds_toArray, List.set_cons_zero, List.set_cons_succ]
        refine wpE_ready [10] (by kernel_rfl) (by simp) ?_
        intro i hi
        obtain rfl : i = 10 := by simpa using hi
        refine wpE_step rfl ?_
        intro K hK
        rw [if_pos (by rfl)]
        go_simp
        refine hK.out _ _ (keep3 (HB2.out.alloc HB2.out.size _) HD1.out HBX.out HW1.out) ?_
        clear hK K
        try simp only [Act.put, List.setIfInBounds_toArray, List.set_cons_zero, List.set_cons_succ]
        refine wpE_ready [11] (by kernel_rfl) (by simp) ?_
        intro i hi
        obtain rfl : i = 11 := by simpa using hi
        refine wpE_step rfl ?_
        intro K hK
        refine step_app3 rfl (.tmp 26) (.tmp 28) rfl i0 hi0 hz0 hz1 hz2 w1.heap.size g1 _ cap1 _ rfl (by first | exact hown2 | exact hown2.alloc _) _ 1 1 (cf x) rfl rfl (by intro _; exact ⟨_, rfl, by first | exact cf_at (ra1 _ _) | exact cf_at (hR _ _ (fun e => Nat.succ_ne_self _ (Option.some.inj e)) (ra3 _ _ _)) | exact cf_at (hR _ _ (fun e => Nat.succ_ne_self _ (Option.some.inj e).symm) (ra2 _ _ _))⟩) cf_one (by have := HLE.out; omega) (by first | exact HB2.out.size | exact (HB2.out.alloc HB2.out.size _).size) ?_
        intro g2 cap2 w3 hown3 hgrow3 hge3 hlt3
        have HB3 := Aside0.mk (Below.grown (B := w1.heap.size) (a := w1) (by first | exact HB2.out | exact HB2.out.alloc HB2.out.size _) hgrow3 (by first | exact HB2.out.size | exact (HB2.out.alloc HB2.out.size _).size) (fun k e => by cases e; exact hge2))
        have HD3 := Aside0.mk (HD1.out.below HB3.out)
        have e0 := HD3.out.c0
        refine hK.out _ _ (keep3 HB3.out HD1.out HBX.out HW1.out) ?_
        clear hK K
        try simp only [Act.put, List.setIfInBounds_toArray, List.set_cons_zero, List.set_cons_succ]
        refine wpE_ready [18] (by kernel_rfl) (by simp) ?_
        intro i hi
        obtain rfl : i = 18 := by simpa using hi
        refine wpE_step rfl ?_
        intro K hK
        refine step_app3 rfl (.tmp 29) (.tmp 35) rfl i0 hi0 hz0 hz1 hz2 w1.heap.size g2 _ cap2 _ rfl hown3 _ (d.L.length - (pos x.1 d.L + 1)) _ (cells3 (d.L.drop (pos x.1 d.L + 1))) rfl (by rw [cells3_length, List.length_drop]) (by intro h0; exact RAt.src (k := (pos x.1 d.L + 1)) (m := d.L.length - (pos x.1 d.L + 1)) HD3.out (by first | rfl | (simp; done)) (fun j u hj => by rw [← cells3_drop]; exact hj) h0 (by have := HLE.out; omega)) cells3_one (by have := HLE.out; omega) HB3.out.size ?_
        intro g3 cap3 w4 hown4 hgrow4 hge4 hlt4
        have HB4 := Aside0.mk (Below.grown (B := w1.heap.size) (a := w1) HB3.out hgrow4 HB3.out.size (fun k e => by cases e; exact hge3))
        have HD4 := Aside0.mk (HD1.out.below HB4.out)
        have f0 := HD4.out.c0
        have ff := HD4.out.fz 0
        refine hK.out _ _ (keep3 HB4.out HD1.out HBX.out HW1.out) ?_
        clear hK K
        try simp only [Act.put, List.setIfInBounds_toArray, List.set_cons_zero, List.set_cons_succ]
        refine wpE_end (by kernel_rfl) ?_
        simp only [List.drop_succ_cons, List.drop_zero]
        go_wp2
        all_goals (
          go_end0
          refine ⟨some ⟨g3, 0, none⟩, cap3, rfl, ?_, ?_⟩
          · refine HD4.out.set0 (l := put x.1 x.2 d.L) (by rw [HP.out, cells3_app]; show World.ownsRow _ _ _ _ _ _ (cells3 _ ++ (cf x ++ cells3 _)); rw [← List.append_assoc]; exact hown4) (by rw [HP.out, List.length_append, List.length_take, List.length_cons, List.length_drop]; have := HLE.out; omega) (by have := HQ.out; have := HW1.out; omega) _
          · exact ⟨((RT.below (((Below.refl _ w).alloc (Nat.le_refl _) _).trans ((HB1.out.mono (by simp)).trans (HB4.out.mono (Nat.le_of_lt HW1.out))))).set _ _).two, .inr (Nat.le_trans (Nat.le_of_lt HW1.out) hge4)⟩)
      · refine wpE_step rfl ?_
        intro K hK
        rw [if_pos (by rfl)]
        go_simp
        refine hK.out _ _ (keep3 (hb2 _ _) HD1.out HBX.out HW1.out) ?_
        clear hK K
        try simp only [Act.put, List.setIfInBounds_toArray, List.set_cons_zero, List.set_cons_succ]
        refine wpE_ready [8] (by kernel_rfl) (by simp) ?_
        intro i hi
        obtain rfl : i = 8 := by simpa using hi
        refine wpE_step rfl ?_
        intro K hK
        refine step_app3 rfl (.tmp 19) (.tmp 25) rfl i0 hi0 hz0 hz1 hz2 w1.heap.size _ 0 0 [] rfl (owns3_empty (by first | exact ra1 _ _ | exact ra2 _ _ _ | exact ra3 _ _ _) (by first | exact Nat.le_refl _ | (simp; done) | omega)) _ (pos x.1 d.L) c (cells3 (d.L.take (pos x.1 d.L))) rfl HL1.out (by intro h0; exact RAt.src (k := 0) (m := pos x.1 d.L) (by first | exact HD1.out.drew.alloc _ | exact (HD1.out.drew.alloc _).alloc _) (by first | rfl | exact src_zero c A) (fun j u hj => by rw [Nat.zero_mul, Nat.zero_add]; exact cells3_take hj) h0 (by have := HLE.out; omega)) cells3_one (by have := HLE.out; omega) (by first | exact (hb1 _).size | exact (hb2 _ _).size) ?_
        intro g1 cap1 w2 hown2 hgrow2 hge2 hlt2
        rw [Nat.zero_add, List.nil_append] at hown2
        (try rw [Nat.zero_add])
        have HB2 := Aside0.mk (Below.grown (B := w1.heap.size) (a := w1) (by first | exact hb1 _ | exact hb2 _ _) hgrow2 (by first | exact (hb1 _).size | exact (hb2 _ _).size) (fun k e => by cases e; first | exact Nat.le_refl _ | (simp; done) | omega))
        have HD2 := Aside0.mk (HD1.out.below HB2.out)
        have d0 := HD2.out.c0
        have d0' := fun o => (HD2.out.alloc o).c0
        have hbx2 := (HB2.out.block _ HW1.out).trans HBX.out
        obtain ⟨y0, y1, y2⟩ := row3 hbx2
        have hR := fun (r : Nat) (o : Obj) hne (ho : _ = some o) => (hgrow2.block r (Array.getElem?_eq_some_iff.1 ho).1 hne).trans ho
        refine hK.out _ _ (keep3 HB2.out HD1.out HBX.out HW1.out) ?_
        clear hK K
        try simp only [Act.put, List.setIfInBounds_toArray, List.set_cons_zero, List.set_cons_succ]
        refine wpE_ready [11] (by kernel_rfl) (by simp) ?_
        intro i hi
        obtain rfl : i = 11 := by simpa using hi
        refine wpE_step rfl ?_
        intro K hK
        refine step_app3 rfl (.tmp 26) (.tmp 28) rfl i0 hi0 hz0 hz1 hz2 w1.heap.size g1 _ cap1 _ rfl (by first | exact hown2 | exact hown2.alloc _) _ 1 1 (cf x) rfl rfl (by intro _; exact ⟨_, rfl, by first | exact cf_at (ra1 _ _) | exact cf_at (hR _ _ (fun e => Nat.succ_ne_self _ (Option.some.inj e)) (ra3 _ _ _)) | exact cf_at (hR _ _ (fun e => Nat.succ_ne_self _ (Option.some.inj e).symm) (ra2 _ _ _))⟩) cf_one (by have := HLE.out; omega) (by first | exact HB2.out.size | exact (HB2.out.alloc HB2.out.size _).size) ?_
        intro g2 cap2 w3 hown3 hgrow3 hge3 hlt3
        have HB3 := Aside0.mk (Below.grown (B := w1.heap.size) (a := w1) (by first | exact HB2.out | exact HB2.out.alloc HB2.out.size _) hgrow3 (by first | exact HB2.out.size | exact (HB2.out.alloc HB2.out.size _).size) (fun k e => by cases e; exact hge2))
        have HD3 := Aside0.mk (HD1.out.below HB3.out)
        have e0 := HD3.out.c0
        refine hK.out _ _ (keep3 HB3.out HD1.out HBX.out HW1.out) ?_
        clear hK K
        try simp only [Act.put, List.setIfInBounds_toArray, List.set_cons_zero, List.set_cons_succ]
        refine wpE_ready [18] (by kernel_rfl) (by simp) ?_
        intro i hi
        obtain rfl : i = 18 := by simpa using hi
        refine wpE_step rfl ?_
        intro K hK
        refine step_app3 rfl (.tmp 29) (.tmp 35) rfl i0 hi0 hz0 hz1 hz2 w1.heap.size g2 _ cap2 _ rfl hown3 _ (d.L.length - (pos x.1 d.L + 1)) _ (cells3 (d.L.drop (pos x.1 d.L + 1))) rfl (by rw [cells3_length, List.length_drop]) (by intro h0; exact RAt.src (k := (pos x.1 d.L + 1)) (m := d.L.length - (pos x.1 d.L + 1)) HD3.out (by first | rfl | (simp; done)) (fun j u hj => by rw [← cells3_drop]; exact hj) h0 (by have := HLE.out; omega)) cells3_one (by have := HLE.out; omega) HB3.out.size ?_
        intro g3 cap3 w4 hown4 hgrow4 hge4 hlt4
        have HB4 := Aside0.mk (Below.grown (B := w1.heap.size) (a := w1) HB3.out hgrow4 HB3.out.size (fun k e => by cases e; exact hge3))
        have HD4 := Aside0.mk (HD1.out.below HB4.out)
        have f0 := HD4.out.c0
        have ff := HD4.out.fz 0
        refine hK.out _ _ (keep3 HB4.out HD1.out HBX.out HW1.out) ?_
        clear hK K
        try simp only [Act.put, List.setIfInBounds_toArray, List.set_cons_zero, List.set_cons_succ]
        refine wpE_end (by kernel_rfl) ?_
        simp only [List.drop_succ_cons, List.drop_zero]
        go_wp2
        all_goals (
          go_end0
          refine ⟨some ⟨g3, 0, none⟩, cap3, rfl, ?_, ?_⟩
          · refine HD4.out.set0 (l := put x.1 x.2 d.L) (by rw [HP.out, cells3_app]; show World.ownsRow _ _ _ _ _ _ (cells3 _ ++ (cf x ++ cells3 _)); rw [← List.append_assoc]; exact hown4) (by rw [HP.out, List.length_append, List.length_take, List.length_cons, List.length_drop]; have := HLE.out; omega) (by have := HQ.out; have := HW1.out; omega) _
          · exact ⟨((RT.below (((Below.refl _ w).alloc (Nat.le_refl _) _).trans ((HB1.out.mono (by simp)).trans (HB4.out.mono (Nat.le_of_lt HW1.out))))).set _ _).two, .inr (Nat.le_trans (Nat.le_of_lt HW1.out) hge4)⟩)
    · refine wpE_step rfl ?_
      intro K hK
      rw [if_pos (by rfl)]
      go_simp
      refine hK.out _ _ (keep3 (hb1 _) HD1.out HBX.out HW1.out) ?_
      clear hK K
      try simp only [Act.put, List.setIfInBounds_toArray, List.set_cons_zero, List.set_cons_succ]
      refine wpE_ready [1] (by kernel_rfl) (by simp) ?_
      intro i hi
      obtain rfl : i = 1 := by simpa using hi
      refine wpE_step rfl ?_
      intro K hK
      rw [if_pos (by rfl)]
      go_simp
      refine hK.out _ _ (keep3 (hb2 _ _) HD1.out HBX.out HW1.out) ?_
      clear hK K
      try simp only [Act.put, List.setIfInBounds_toArray, List.set_cons_zero, List.set_cons_succ]
      refine wpE_ready [8] (by kernel_rfl) (by simp) ?_
      intro i hi
      obtain rfl : i = 8 := by simpa using hi
      refine wpE_step rfl ?_
      intro K hK
      refine step_app3 rfl (.tmp 19) (.tmp 25) rfl i0 hi0 hz0 hz1 hz2 w1.heap.size _ 0 0 [] rfl (owns3_empty (by first | exact ra1 _ _ | exact ra2 _ _ _ | exact ra3 _ _ _) (by first | exact Nat.le_refl _ | (simp; done) | omega)) _ (pos x.1 d.L) c (cells3 (d.L.take (pos x.1 d.L))) rfl HL1.out (by intro h0; exact RAt.src (k := 0) (m := pos x.1 d.L) (by first | exact HD1.out.drew.alloc _ | exact (HD1.out.drew.alloc _).alloc _) (by first | rfl | exact src_zero c A) (fun j u hj => by rw [Nat.zero_mul, Nat.zero_add]; exact cells3_take hj) h0 (by have := HLE.out; omega)) cells3_one (by have := HLE.out; omega) (by first | exact (hb1 _).size | exact (hb2 _ _).size) ?_
      intro g1 cap1 w2 hown2 hgrow2 hge2 hlt2
      rw [Nat.zero_add, List.nil_append] at hown2
      (try rw [Nat.zero_add])
      have HB2 := Aside0.mk (Below.grown (B := w1.heap.size) (a := w1) (by first | exact hb1 _ | exact hb2 _ _) hgrow2 (by first | exact (hb1 _).size | exact (hb2 _ _).size) (fun k e => by cases e; first | exact Nat.le_refl _ | (simp; done) | omega))
      have HD2 := Aside0.mk (HD1.out.below HB2.out)
      have d0 := HD2.out.c0
      have d0' := fun o => (HD2.out.alloc o).c0
      have hbx2 := (HB2.out.block _ HW1.out).trans HBX.out
      obtain ⟨y0, y1, y2⟩ := row3 hbx2
      have hR := fun (r : Nat) (o : Obj) hne (ho : _ = some o) => (hgrow2.block r (Array.getElem?_eq_some_iff.1 ho).1 hne).trans ho
      refine hK.out _ _ (keep3 HB2.out HD1.out HBX.out HW1.out) ?_
      clear hK K
      try simp only [Act.put, List.setIfInBounds_toArray, List.set_cons_zero, List.set_cons_succ]
      refine wpE_ready [11] (by kernel_rfl) (by simp) ?_
      intro i hi
      obtain rfl : i = 11 := by simpa using hi
      refine wpE_step rfl ?_
      intro K hK
      refine step_app3 rfl (.tmp 26) (.tmp 28) rfl i0 hi0 hz0 hz1 hz2 w1.heap.size g1 _ cap1 _ rfl (by first | exact hown2 | exact hown2.alloc _) _ 1 1 (cf x) rfl rfl (by intro _; exact ⟨_, rfl, by first | exact cf_at (ra1 _ _) | exact cf_at (hR _ _ (fun e => Nat.succ_ne_self _ (Option.some.inj e)) (ra3 _ _ _)) | exact cf_at (hR _ _ (fun e => Nat.succ_ne_self _ (Option.some.inj e).symm) (ra2 _ _ _))⟩) cf_one (by have := HLE.out; omega) (by first | exact HB2.out.size | exact (HB2.out.alloc HB2.out.size _).size) ?_
      intro g2 cap2 w3 hown3 hgrow3 hge3 hlt3
      have HB3 := Aside0.mk (Below.grown (B := w1.heap.size) (a := w1) (by first | exact HB2.out | exact HB2.out.alloc HB2.out.size _) hgrow3 (by first | exact HB2.out.size | exact (HB2.out.alloc HB2.out.size _).size) (fun k e => by cases e; exact hge2))
      have HD3 := Aside0.mk (HD1.out.below HB3.out)
      have e0 := HD3.out.c0
      refine hK.out _ _ (keep3 HB3.out HD1.out HBX.out HW1.out) ?_
      clear hK K
      try simp only [Act.put, List.setIfInBounds_toArray, List.set_cons_zero, List.set_cons_succ]
      refine wpE_ready [18] (by kernel_rfl) (by simp) ?_
      intro i hi
      obtain rfl : i = 18 := by simpa using hi
      refine wpE_step rfl ?_
      intro K hK
      refine step_app3 rfl (.tmp 29) (.tmp 35) rfl i0 hi0 hz0 hz1 hz2 w1.heap.size g2 _ cap2 _ rfl hown3 _ (d.L.length - (pos x.1 d.L + 1)) _ (cells3 (d.L.drop (pos x.1 d.L + 1))) rfl (by rw [cells3_length, List.length_drop]) (by intro h0; exact RAt.src (k := (pos x.1 d.L + 1)) (m := d.L.length - (pos x.1 d.L + 1)) HD3.out (by first | rfl | (simp; done)) (fun j u hj => by rw [← cells3_drop]; exact hj) h0 (by have := HLE.out; omega)) cells3_one (by have := HLE.out; omega) HB3.out.size ?_
      intro g3 cap3 w4 hown4 hgrow4 hge4 hlt4
      have HB4 := Aside0.mk (Below.grown (B := w1.heap.size) (a := w1) HB3.out hgrow4 HB3.out.size (fun k e => by cases e; exact hge3))
      have HD4 := Aside0.mk (HD1.out.below HB4.out)
      have f0 := HD4.out.c0
      have ff := HD4.out.fz 0
      refine hK.out _ _ (keep3 HB4.out HD1.out HBX.out HW1.out) ?_
      clear hK K
      try simp only [Act.put, List.setIfInBounds_toArray, List.set_cons_zero, List.set_cons_succ]
      refine wpE_end (by kernel_rfl) ?_
      simp only [List.drop_succ_cons, List.drop_zero]
      go_wp2
      all_goals (
        go_end0
        refine ⟨some ⟨g3, 0, none⟩, cap3, rfl, ?_, ?_⟩
        · refine HD4.out.set0 (l := put x.1 x.2 d.L) (by rw [HP.out, cells3_app]; show World.ownsRow _ _ _ _ _ _ (cells3 _ ++ (cf x ++ cells3 _)); rw [← List.append_assoc]; exact hown4) (by rw [HP.out, List.length_append, List.length_take, List.length_cons, List.length_drop]; have := HLE.out; omega) (by have := HQ.out; have := HW1.out; omega) _
        · exact ⟨((RT.below (((Below.refl _ w).alloc (Nat.le_refl _) _).trans ((HB1.out.mono (by simp)).trans (HB4.out.mono (Nat.le_of_lt HW1.out))))).set _ _).two, .inr (Nat.le_trans (Nat.le_of_lt HW1.out) hge4)⟩)
end Go.Proofs.Ytdkmdicmipcifaa.Disk
