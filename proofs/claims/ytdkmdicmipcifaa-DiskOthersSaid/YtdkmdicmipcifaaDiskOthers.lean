import Derived.Test.YtdkmdicmipcifaaDiskBegun
import Derived.Test.YtdkmdicmipcifaaDiskFlat
import Derived.Deep.RegionLaw
import Derived.Deep.AppendLies
import Derived.Deep.CutBlock
import Derived.OwnWalk
namespace Go.Proofs.Ytdkmdicmipcifaa.Disk
open Go Go.RowKit Go.Maps Go.Proofs.YtdkmdicmipcifaaW.PrintWords Go.Proofs.YtdkmdicmipcifaaW.PrintLast Go.Proofs.YtdkmdicmipcifaaW.PrintMore
open Go.Proofs.Ytdkmdicmipcifaa.Pure (mk mk_size mk_app mk_toList mk_dataList mk_ext_from wrap_in)
attribute [local go_sem] mk_size mk_app mk_toList mk_45
theorem r1 (W : World) (o : Obj) : (W.alloc o).heap[W.heap.size]? = some o := new_row W o
theorem r2 (W : World) (o o' : Obj) : ((W.alloc o).alloc o').heap[W.heap.size]? = some o := old_row (new_row W o)
theorem r3 (W : World) (o o' : Obj) : ((W.alloc o).alloc o').heap[W.heap.size + 1]? = some o' := by
  have := new_row (W.alloc o) o'
  have e : (W.alloc o).heap.size = W.heap.size + 1 := by simp
  rwa [e] at this
def actZ : Value := .agg #[.int .i64 0, .int .i64 0, .string ByteArray.empty, .string ByteArray.empty, .string ByteArray.empty, .slice none 0 0]
theorem info_act : (Try.prog.info? 41).map (fun i => (i.zero, i.size, i.bytes)) = some (some actZ, 6, 88) := by kernel_rfl
theorem owns_empty {W : World} {base g : Nat} (h : W.heap[g]? = some (.cells #[] 41 (0, 0))) (hb : base ≤ g) : W.ownsRow base 41 6 (.slice (some ⟨g, 0, none⟩) 0 0) 0 [] :=
  ⟨by simp, .inr ⟨g, 0, #[], rfl, hb, h, Nat.le_refl _, by unfold maxLen; omega, by simp, by simp⟩⟩
theorem cells6 {W : World} {r : Nat} {x : Act'} {v : Value} (h : W.heap[r]? = some (.cells #[.int .i64 x.op, .int .i64 x.n, .string (mk x.name), .string (mk x.other), .string (mk x.s), v] 41 (0, 0))) : ∀ j u, (vals x v)[j]? = some u → W.cell? ((⟨r, 0, none⟩ : Addr).add j) = some u := fun j u hj => by
  have e : ∀ i, W.cell? ⟨r, i, none⟩ = (vals x v)[i]? := fun i => by simp [World.cell?, h, vals]
  rw [← hj, ← e]
  unfold Addr.add
  split
  · rename_i h0; rw [h0]
  · simp
set_option maxRecDepth 100000 in
theorem step_app {o : Oper} {a : Act} {K : Act → World → Prop} {Q : Exit → Act → World → Prop} {E : Prop} {w : World} {ops : Array Oper} (hgd : o.guard = none) (s x : Operand)
    (ho : o.op = .call { callee := .builtin .append, args := #[s, x], argTypes := #[22, 22] })
    (i : TypeInfo) (hi : Try.prog.info? 41 = some i) (hz : i.zero = some actZ) (hsize : i.size = 6) (hby : i.bytes = 88)
    (base g n cap : Nat) (xs : List Value) (hs : a.eval s = .slice (some ⟨g, 0, none⟩) n cap) (hown : w.ownsRow base 41 6 (.slice (some ⟨g, 0, none⟩) n cap) n xs)
    (A : Option Addr) (m c : Nat) (news : List Value) (hx : a.eval x = .slice A m c) (hl : news.length = m * 6) (hA : 0 < m → ∃ ad, A = some ad ∧ ∀ j u, news[j]? = some u → w.cell? (ad.add j) = some u) (h1 : ∀ u ∈ news, u.oneCell' = true)
    (hbytes : (n + m) * 88 ≤ 140737488355328) (hbase : base ≤ w.heap.size)
    (h : ∀ g' cap' w', w'.ownsRow base 41 6 (.slice (some ⟨g', 0, none⟩) (n + m) cap') (n + m) (xs ++ news) → w.grownBy w' (some g) → base ≤ g' → g' < w'.heap.size → K (a.put o.dst (.slice (some ⟨g', 0, none⟩) (n + m) cap')) w') :
    if Region.wanted o (yielded ops a.tmps) = true then Oper.wp Try.prog o a w K Q else E := by
  by_cases hm : 0 < m
  · obtain ⟨ad, rfl, hc⟩ := hA hm
    refine step_append_lies w hgd s x _ ho base 41 i actZ 6 88 Try.underlying22 hi hz hsize hby rfl (by decide) _ n xs hs hown ad m c news hx hl hc h1 hm (by unfold maxLen; omega) hbytes hbase _ rfl ?_
    intro g' cap' w' q1 q2 q3 q4
    refine h g' cap' w' q1 q2 ?_ q4
    obtain ⟨_, q5 | ⟨g'', cap'', cur, hv, hg'', _⟩⟩ := q1
    · cases q5.1
    · cases hv; exact hg''
  · obtain rfl : m = 0 := by omega
    obtain rfl : news = [] := List.length_eq_zero_iff.1 (by simpa using hl)
    have hw : Region.wanted o (yielded ops a.tmps) = true := by simp [Region.wanted, hgd]
    rw [if_pos hw]
    have hlt := hown.lt g rfl
    cases A with
    | some ad =>
      have hcap : n ≤ cap := by
        obtain ⟨_, q5 | ⟨g'', cap'', cur, hv, _, _, hle, _⟩⟩ := hown
        · cases q5.1
        · cases hv; exact hle
      obtain ⟨w', hrun, q1, q2⟩ := run_append_fits (P := Try.prog) w base _ o.type _ i 6 Try.underlying22 hi hsize g n cap xs hown ad 0 c [] rfl (fun j u hj => by simp at hj) (fun u hu => by cases hu) hcap
      unfold Oper.wp
      simp [execOp, ho, resolve, invoke, builtin, hs, hx, hrun, Result.andThen]
      have := h g cap w' (by simpa using q1) q2 hlt.1 (Nat.lt_of_lt_of_le hlt.2 q2.size)
      simp only [Nat.add_zero] at this
      exact this
    | none =>
      have hrun : (Builtin.append_ #[22, 22] o.type #[.slice (some ⟨g, 0, none⟩) n cap, .slice none 0 c]).run Try.prog w = .ok (.slice (some ⟨g, 0, none⟩) n cap) w := by
        rcases hown.2 with ⟨q, _⟩ | ⟨g', cap', cur, q, _, _, hnc, _⟩
        · cases q
        · cases q
          simp [Builtin.append_, run_underlying Try.underlying22, sizeOf, typeInfo, hi, Builtin.lenOf, Builtin.firstCells, hnc, storeCells]
      unfold Oper.wp
      simp [execOp, ho, resolve, invoke, builtin, hs, hx, hrun, Result.andThen]
      have := h g cap w (by simpa using hown) ⟨rfl, rfl, rfl, Nat.le_refl _, fun _ _ _ => rfl⟩ hlt.1 hlt.2
      simp only [Nat.add_zero] at this
      exact this
theorem small2 {w : World} {B : Nat} (A : Option Addr) (c k : Nat) (l : List Act') (hk : k = l.length) (h : Acts w B A l) :
    Calls Try.prog 10 #[.slice A k c] w fun e w' => e = .returned (.bool (smallA l)) ∧ w' = w := by
  subst hk
  exact small_calls A c l h
theorem smallA_app {l : List Act'} {x : Act'} (h : smallA (l ++ [x]) = true) : smallA l = true ∧ lightA x = true := by
  unfold smallA at *
  simp only [Bool.and_eq_true, decide_eq_true_eq, List.all_append, List.length_append, List.length_cons, List.length_nil, List.all_cons, List.all_nil, Bool.and_true] at h ⊢
  exact ⟨⟨by omega, h.2.1⟩, h.2.2⟩
theorem IntsB.mono {w : World} {B B' : Nat} {v : Value} {l : List Int} (h : IntsB w B v l) (hB : B ≤ B') : IntsB w B' v l := by
  rcases h with h | ⟨a, cap, h1, h2, h3, h4⟩
  · exact .inl h
  · exact .inr ⟨a, cap, h1, h2, by omega, h4⟩
theorem row6 {w : World} {k : Nat} {a b c d e f : Value} {t : TypeId} (hk : w.heap[k]? = some (.cells #[a, b, c, d, e, f] t (0, 0))) :
    w.cell? ⟨k, 0, none⟩ = some a ∧ w.cell? ⟨k, 1, none⟩ = some b ∧ w.cell? ⟨k, 2, none⟩ = some c ∧ w.cell? ⟨k, 3, none⟩ = some d ∧ w.cell? ⟨k, 4, none⟩ = some e ∧ w.cell? ⟨k, 5, none⟩ = some f := by
  simp [World.cell?, hk]
theorem add_plain0 (g off j : Nat) : (⟨g, off, none⟩ : Addr).add j = ⟨g, off + j, none⟩ := by
  unfold Addr.add
  split
  · rename_i h; rw [h]; rfl
  · rfl
theorem cell_in {w W : World} {g off j : Nat} {u : Value} (h : w.cell? ⟨g, off + j, none⟩ = some u) (hg : g < w.heap.size) (hb : Below w.heap.size w W) : W.cell? ((⟨g, off, none⟩ : Addr).add j) = some u := by
  rw [add_plain0]
  exact (hb.cell (p := ⟨g, off + j, none⟩) hg).trans h
theorem acts_app {w w3 : World} {ps : List (Act' × Value)} {l : List Act'} {x : Act'} {v : Value} {base g n cap : Nat} (hps : ps.map (·.1) = l)
    (hpl : ∀ y ∈ ps, IntsB w w.heap.size y.2 y.1.left ∧ ((-9223372036854775808 ≤ y.1.op ∧ y.1.op ≤ 9223372036854775807) ∧ (-9223372036854775808 ≤ y.1.n ∧ y.1.n ≤ 9223372036854775807)))
    (hv : IntsB w w.heap.size v x.left) (hf : (-9223372036854775808 ≤ x.op ∧ x.op ≤ 9223372036854775807) ∧ (-9223372036854775808 ≤ x.n ∧ x.n ≤ 9223372036854775807))
    (hown : w3.ownsRow base 41 6 (.slice (some ⟨g, 0, none⟩) n cap) n (flat ps ++ vals x v)) (hlt : g < w3.heap.size) (hb : Below w.heap.size w w3) :
    Acts w3 w3.heap.size (some ⟨g, 0, none⟩) (l ++ [x]) := by
  have h := acts_of_flat (w := w3) (B := w3.heap.size) (g := g) (ps := ps ++ [(x, v)]) hlt (fun y hy => by
    rcases List.mem_append.1 hy with hy | hy
    · obtain ⟨q1, q2⟩ := hpl y hy
      exact ⟨(q1.below hb).mono hb.size, q2⟩
    · rw [List.mem_singleton] at hy
      subst hy
      exact ⟨(hv.below hb).mono hb.size, hf⟩) (fun j u hj => by
    rw [flat_app] at hj
    have := hown.cells rfl j u hj
    rw [add_plain0, Nat.zero_add] at this
    exact this)
  rw [List.map_append, hps] at h
  exact h
set_option maxHeartbeats 16000000 in
set_option maxRecDepth 100000 in
theorem others_walk {w : World} (A : Option Addr) (c : Nat) (l : List Act') (h : Acts w w.heap.size A l) (hlen : l.length * 88 ≤ 140737488351232) (x : Act') (v : Value) (hv : IntsB w w.heap.size v x.left)
    (hf : (-9223372036854775808 ≤ x.op ∧ x.op ≤ 9223372036854775807) ∧ (-9223372036854775808 ≤ x.n ∧ x.n ≤ 9223372036854775807)) (m : Bs) (hm : m.length ≤ 1000000000000000) :
    Calls Try.prog 5 #[.slice A l.length c, .agg #[.int .i64 x.op, .int .i64 x.n, .string (mk x.name), .string (mk x.other), .string (mk x.s), v], .string (mk m)] w fun e w' => e = .returned (.bool true) ∧ Below w.heap.size w w' := by
  obtain ⟨ps, hps, hpl, hpc⟩ := h.flat
  obtain ⟨i0, hi0, hz0, hz1, hz2⟩ := info_parts info_act
  have hpsl : ps.length = l.length := by rw [← hps, List.length_map]
  have hfl := flat_length ps
  rw [hpsl] at hfl
  obtain ⟨av, cv, hvs⟩ := hv.shape
  have hone : ∀ u ∈ flat ps, u.oneCell' = true := fun u hu => by
    obtain ⟨j, hj, e⟩ := List.mem_iff_getElem.1 hu
    obtain ⟨y, hy1, hy2⟩ := flat_at (show (flat ps)[j]? = some u by rw [List.getElem?_eq_getElem hj, e])
    obtain ⟨a, k, hs⟩ := (hpl y (List.mem_of_getElem? hy1)).1.shape
    exact vals_one y.1 y.2 ⟨a, _, k, hs⟩ u (List.mem_of_getElem? hy2)
  have hone1 := vals_one x v ⟨av, _, cv, hvs⟩
  have HA := Aside0.mk h
  have HPS := Aside0.mk hps
  have HPL := Aside0.mk hpl
  have HPC := Aside0.mk hpc
  have HFL := Aside0.mk hfl
  have HLE := Aside0.mk hlen
  have HV := Aside0.mk hv
  have HFX := Aside0.mk hf
  have HO := Aside0.mk hone
  have HO1 := Aside0.mk hone1
  have HML := Aside0.mk (show m.length ≤ maxLen by unfold maxLen; omega)
  have HPSL := Aside0.mk hpsl
  clear h hps hpl hpc hfl hlen hv hf hone hone1 hm hpsl
  subst hvs
  go_enter Try.func5, Try.ntmps5
  go_upto_region 2 with (first
    | (go_at_call 9; refine (shown_calls _).mono ?_; rintro e w1 ⟨rfl, hb⟩; have HB1 := Aside0.mk (show Below (w.heap.size + 1) (w.alloc (.cells #[.int .i64 x.op, .int .i64 x.n, .string (mk x.name), .string (mk x.other), .string (mk x.s), .slice av x.left.length cv] 41)) w1 from hb.mono (by simp)); clear hb)
    | go_in)
  (try simp only [Act.put, List.setIfInBounds_toArray, List.set_cons_zero, List.set_cons_succ])
  have hbox : w1.heap[w.heap.size]? = some (.cells #[.int .i64 x.op, .int .i64 x.n, .string (mk x.name), .string (mk x.other), .string (mk x.s), .slice av x.left.length cv] 41) := (HB1.out.block _ (by omega)).trans (new_row w _)
  have HBX := Aside0.mk hbox
  clear hbox
  have hwlt : w.heap.size < w1.heap.size := by have := HB1.out.size; simp at this; omega
  have HWL := Aside0.mk hwlt
  have hb1 : ∀ o, Below w1.heap.size w1 (w1.drew.alloc o) := fun o => (Below.refl _ w1).drew.alloc (Nat.le_refl _) o
  have hb2 : ∀ o o', Below w1.heap.size w1 ((w1.drew.alloc o).alloc o') := fun o o' => (hb1 o).alloc (hb1 o).size o'
  have hbw : Below w.heap.size w w1 := ((Below.refl _ w).alloc (Nat.le_refl _) _).trans (HB1.out.mono (by omega))
  have HBW := Aside0.mk hbw
  clear hwlt hbw
  go_cut [8] (fun v8 wx => v8 = .bool (smallA (l ++ [x])) ∧ Aside0 (Below w1.heap.size w1 wx))
  case first =>
    obtain ⟨k0, k1, k2, k3, k4, k5⟩ := row6 HBX.out
    have kk := fun o => row6 (old_row (o := o) HBX.out)
    have kk0 := fun o => (kk o).1
    have kk1 := fun o => (kk o).2.1
    have kk2 := fun o => (kk o).2.2.1
    have kk3 := fun o => (kk o).2.2.2.1
    have kk4 := fun o => (kk o).2.2.2.2.1
    have kk5 := fun o => (kk o).2.2.2.2.2
    clear kk
    go_region_law (first
      | (go_simp; go_at_call 10; refine (small2 (some ⟨g2, 0, none⟩) cap2 _ (l ++ [x]) (by rw [List.length_append]; simp) HAC.out).mono ?_; rintro e wz ⟨rfl, hw⟩; obtain rfl : w3 = wz := hw.symm)
      | (refine step_app rfl (.tmp 18) (.tmp 20) rfl i0 hi0 hz0 hz1 hz2 w1.heap.size g1 _ cap1 _ rfl (by first | exact hown2 | exact hown2.alloc _) _ 1 1 (vals x (.slice av x.left.length cv)) rfl rfl (by intro _; exact ⟨_, rfl, by first | exact cells6 (r1 _ _) | exact cells6 (hR _ _ (fun e => Nat.succ_ne_self _ (Option.some.inj e)) (r3 _ _ _)) | exact cells6 (hR _ _ (fun e => Nat.succ_ne_self _ (Option.some.inj e).symm) (r2 _ _ _))⟩) HO1.out (by have := HLE.out; omega) (by first | exact HB2.out.size | exact (HB2.out.alloc HB2.out.size _).size) ?_; intro g2 cap2 w3 hown3 hgrow3 hge3 hlt3; have HB3 := Aside0.mk (Below.grown (B := w1.heap.size) (a := w1) (by first | exact HB2.out | exact HB2.out.alloc HB2.out.size _) hgrow3 (by first | exact HB2.out.size | exact (HB2.out.alloc HB2.out.size _).size) (fun k e => by cases e; exact hge2)); have HAC := Aside0.mk (acts_app HPS.out HPL.out HV.out HFX.out hown3 hlt3 (HBW.out.trans (HB3.out.mono (by have := HWL.out; omega)))))
      | (refine step_app rfl (.tmp 16) (.tmp 17) rfl i0 hi0 hz0 hz1 hz2 w1.heap.size _ 0 0 [] rfl (owns_empty (by first | exact r1 _ _ | exact r2 _ _ _ | exact r3 _ _ _) (by first | exact Nat.le_refl _ | (simp; done) | omega)) A l.length c (flat ps) rfl HFL.out (by intro h0; obtain ⟨g, off, hA, hg, hc⟩ := HPC.out h0; exact ⟨⟨g, off, none⟩, hA, fun j u hj => cell_in (hc j u hj) hg (HBW.out.trans (Below.mono (by first | exact hb1 _ | exact hb2 _ _) (by have := HWL.out; omega)))⟩) HO.out (by have := HLE.out; omega) (by first | exact (hb1 _).size | exact (hb2 _ _).size) ?_; intro g1 cap1 w2 hown2 hgrow2 hge2 hlt2; rw [Nat.zero_add, List.nil_append] at hown2; have HB2 := Aside0.mk (Below.grown (B := w1.heap.size) (a := w1) (by first | exact hb1 _ | exact hb2 _ _) hgrow2 (by first | exact (hb1 _).size | exact (hb2 _ _).size) (fun k e => by cases e; first | exact Nat.le_refl _ | (simp; done) | omega)); obtain ⟨y0, y1, y2, y3, y4, y5⟩ := row6 ((HB2.out.block _ HWL.out).trans HBX.out); have hR := fun (r : Nat) (o : Obj) hne (ho : _ = some o) => (hgrow2.block r (Array.getElem?_eq_some_iff.1 ho).1 hne).trans ho))
    all_goals (go_wp2_with fail; go_meet; exact ⟨rfl, HB3⟩)
  case rest =>
    obtain ⟨rfl, HB2⟩ := hcut
    have hxc := (HB2.out.block _ HWL.out).trans HBX.out
    obtain ⟨z0, z1, z2, z3, z4, z5⟩ := row6 hxc
    have HXC := Aside0.mk hxc
    have HBC := Aside0.mk (HBW.out.trans (HB2.out.mono (by have := HWL.out; omega)))
    have HWC := Aside0.mk (show w.heap.size < wc.heap.size by have := HWL.out; have := HB2.out.size; omega)
    have HAW := HA
    obtain ⟨k, hk, hk1⟩ := pickV_rng0 x.op 12 (by decide)
    have HK := Aside0.mk hk
    clear hxc hb1 hb2 hk1
    by_cases hs : smallA (l ++ [x]) = false
    · have b0 : (!smallA (l ++ [x])) = true := by rw [hs]; rfl
      clear hs hk
      go_wp2_with (first
        | (go_at_call 15; refine (pick_calls x.op 12 HFX.out.1.1 HFX.out.1.2 (by decide)).mono ?_; rintro e wz ⟨rfl, hw⟩; obtain rfl : wc = wz := hw.symm; rw [HK.out])
        | go_in)
      go_ret
      exact ⟨by first | rfl | (simp; done), HBC.out⟩
    have hs' : smallA (l ++ [x]) = true := by simpa using hs
    obtain ⟨hsl, hlx⟩ := smallA_app hs'
    have HS := Aside0.mk hsl
    have HLX := Aside0.mk hlx
    have b0 : (!smallA (l ++ [x])) = false := by rw [hs']; rfl
    have b45 : x.name.length + 1 ≤ 9223372036854775807 := by
      unfold lightA at hlx
      simp only [Bool.and_eq_true, decide_eq_true_eq] at hlx
      omega
    clear hs hs' hsl hlx
    by_cases h9 : (k : Int) > 9
    · have b1 : decide ((k : Int) > 9) = true := decide_eq_true h9
      clear hk h9
      go_wp2_with (first
        | (go_at_call 15; refine (pick_calls x.op 12 HFX.out.1.1 HFX.out.1.2 (by decide)).mono ?_; rintro e wz ⟨rfl, hw⟩; obtain rfl : wc = wz := hw.symm; rw [HK.out])
        | go_in)
      go_ret
      exact ⟨by first | rfl | (simp; done), HBC.out⟩
    have b1 : decide ((k : Int) > 9) = false := decide_eq_false h9
    by_cases e1 : m = x.name
    · have b2 : (m == x.name) = true := by rw [e1]; simp
      clear hk h9 e1
      go_wp2_with (first
        | (go_at_call 15; refine (pick_calls x.op 12 HFX.out.1.1 HFX.out.1.2 (by decide)).mono ?_; rintro e wz ⟨rfl, hw⟩; obtain rfl : wc = wz := hw.symm; rw [HK.out])
        | go_in)
      go_ret
      exact ⟨by first | rfl | (simp; done), HBC.out⟩
    have b2 : (m == x.name) = false := by simpa using e1
    by_cases e2 : m = x.name ++ [45]
    · have b3 : (m == x.name ++ [45]) = true := by rw [e2]; simp
      clear hk h9 e1 e2
      go_wp2_with (first
        | (go_at_call 15; refine (pick_calls x.op 12 HFX.out.1.1 HFX.out.1.2 (by decide)).mono ?_; rintro e wz ⟨rfl, hw⟩; obtain rfl : wc = wz := hw.symm; rw [HK.out])
        | go_in)
      go_ret
      exact ⟨by first | rfl | (simp; done), HBC.out⟩
    have b3 : (m == x.name ++ [45]) = false := by simpa using e2
    by_cases h6 : k = 6 ∧ m = x.other
    · obtain ⟨rfl, e3⟩ := h6
      have b4 : (m == x.other) = true := by rw [e3]; simp
      clear hk h9 e1 e2 e3
      go_wp2_with (first
        | (go_at_call 15; refine (pick_calls x.op 12 HFX.out.1.1 HFX.out.1.2 (by decide)).mono ?_; rintro e wz ⟨rfl, hw⟩; obtain rfl : wc = wz := hw.symm; rw [HK.out])
        | go_in)
      go_ret
      exact ⟨by first | rfl | (simp; done), HBC.out⟩
    have cl : Clean (bg l) := clean_bg HA.out HS.out
    have hlw := law_others cl x (by rw [hk]; omega) m e1 e2 (fun h => by
      have : k = 6 := by rw [hk] at h; omega
      exact fun e => h6 ⟨this, e⟩)
    have HLW := Aside0.mk hlw
    have fin : ∀ w5 : World, Aside0 (Two (wc.heap.size + 1) wc.heap.size w5 w5) := fun _ => ⟨Two.refl _ _ _⟩
    by_cases h66 : k = 6
    · subst h66
      have b4 : (m == x.other) = false := by simp; exact fun e => h6 ⟨rfl, e⟩
      clear hk h9 e1 e2 h6 cl hlw fin
      go_wp2_with (first
        | (go_at_call 12; refine (read_calls HD4.out (good_does HC.out.toGood x HFX.out.2.2) m HML.out).mono ?_; rintro e w5 ⟨rfl, hD, ht⟩; rw [HLW.out]; have HD5 := Aside0.mk hD; have HT5 := Aside0.mk (HT4.out.trans ht); clear hD ht)
        | (go_at_call 20; refine (does_calls HD3.out HC.out.toGood x _ (B := w.heap.size) (HV.out.below (HBC.out.trans ((HB2x.out.mono HBC.out.size).trans (HT3.out.under (by have := HWC.out; have := HB2x.out.size; omega) (by have := HWC.out; omega) (by have := HWC.out; omega))))) (by have := HWC.out; omega) (by have := HWC.out; omega) HLX.out HFX.out).mono ?_; rintro e w4 ⟨rfl, hD, ht⟩; have HD4 := Aside0.mk hD; have HT4 := Aside0.mk (HT3.out.trans ht); clear hD ht)
        | (go_at_call 12; refine (read_calls HD2.out HC.out.toGood m HML.out).mono ?_; rintro e w3 ⟨rfl, hD, ht⟩; have HD3 := Aside0.mk hD; have HX3 := Aside0.mk (ht.row HX2.out (by have := HWC.out; omega) (by have := HWC.out; omega)); have HT3 := Aside0.mk (HT2.out.trans ht); obtain ⟨u0, u1, u2, u3, u4, u5⟩ := row6 HX3.out; clear hD ht)
        | (go_at_call 11; refine (begun_calls A c l (HAW.out.below HBC.out) HBC.out.size HS.out).mono ?_; rintro e w2 ⟨rfl, hD, hc, hb⟩; have HD2 := Aside0.mk hD; have HC := Aside0.mk hc; have HB2x := Aside0.mk hb; have HT2 := Aside0.mk (Two.refl (wc.heap.size + 1) wc.heap.size w2); have HX2 := Aside0.mk ((hb.block _ HWC.out).trans HXC.out); obtain ⟨y0, y1, y2, y3, y4, y5⟩ := row6 HX2.out; clear hD hc hb)
        | (go_at_call 15; refine (pick_calls x.op 12 HFX.out.1.1 HFX.out.1.2 (by decide)).mono ?_; rintro e wz ⟨rfl, hw⟩; obtain rfl : wc = wz := hw.symm; rw [HK.out])
        | go_in)
      go_ret
      exact ⟨by first | rfl | (simp; done), HBC.out.trans ((HB2x.out.trans (HT5.out.under (B := wc.heap.size) HB2x.out.size (by omega) (Nat.le_refl _))).mono HBC.out.size)⟩
    · have b4 : ((k : Int) == 6) = false := by simp; omega
      clear hk h9 e1 e2 h6 h66 cl hlw fin
      go_wp2_with (first
        | (go_at_call 12; refine (read_calls HD4.out (good_does HC.out.toGood x HFX.out.2.2) m HML.out).mono ?_; rintro e w5 ⟨rfl, hD, ht⟩; rw [HLW.out]; have HD5 := Aside0.mk hD; have HT5 := Aside0.mk (HT4.out.trans ht); clear hD ht)
        | (go_at_call 20; refine (does_calls HD3.out HC.out.toGood x _ (B := w.heap.size) (HV.out.below (HBC.out.trans ((HB2x.out.mono HBC.out.size).trans (HT3.out.under (by have := HWC.out; have := HB2x.out.size; omega) (by have := HWC.out; omega) (by have := HWC.out; omega))))) (by have := HWC.out; omega) (by have := HWC.out; omega) HLX.out HFX.out).mono ?_; rintro e w4 ⟨rfl, hD, ht⟩; have HD4 := Aside0.mk hD; have HT4 := Aside0.mk (HT3.out.trans ht); clear hD ht)
        | (go_at_call 12; refine (read_calls HD2.out HC.out.toGood m HML.out).mono ?_; rintro e w3 ⟨rfl, hD, ht⟩; have HD3 := Aside0.mk hD; have HX3 := Aside0.mk (ht.row HX2.out (by have := HWC.out; omega) (by have := HWC.out; omega)); have HT3 := Aside0.mk (HT2.out.trans ht); obtain ⟨u0, u1, u2, u3, u4, u5⟩ := row6 HX3.out; clear hD ht)
        | (go_at_call 11; refine (begun_calls A c l (HAW.out.below HBC.out) HBC.out.size HS.out).mono ?_; rintro e w2 ⟨rfl, hD, hc, hb⟩; have HD2 := Aside0.mk hD; have HC := Aside0.mk hc; have HB2x := Aside0.mk hb; have HT2 := Aside0.mk (Two.refl (wc.heap.size + 1) wc.heap.size w2); have HX2 := Aside0.mk ((hb.block _ HWC.out).trans HXC.out); obtain ⟨y0, y1, y2, y3, y4, y5⟩ := row6 HX2.out; clear hD hc hb)
        | (go_at_call 15; refine (pick_calls x.op 12 HFX.out.1.1 HFX.out.1.2 (by decide)).mono ?_; rintro e wz ⟨rfl, hw⟩; obtain rfl : wc = wz := hw.symm; rw [HK.out])
        | go_in)
      go_ret
      exact ⟨by first | rfl | (simp; done), HBC.out.trans ((HB2x.out.trans (HT5.out.under (B := wc.heap.size) HB2x.out.size (by omega) (Nat.le_refl _))).mono HBC.out.size)⟩
end Go.Proofs.Ytdkmdicmipcifaa.Disk
