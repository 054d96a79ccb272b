import Derived.Test.YtdkmdicmipcifaaDiskActs
import Derived.ProofKit
import Derived.OpenShut
import Derived.SizedLaws
import Derived.Deep.Slices
import Derived.Deep.Fields
import Derived.Lib.SmallJoins
namespace Go.Proofs.Ytdkmdicmipcifaa.Disk
open Go Go.RowKit Go.ChangeShapes Go.WideShapes Go.Deep
open Go.Proofs.Ytdkmdicmipcifaa.Pure (mk mk_data)
section
variable {H : Type} {enc : TypeId × Value → H} {W : World}
set_option maxRecDepth 100000 in
theorem ints_trod {fuel : Nat} {v : Value} {x : DataW H × List MemPlace} (h : DataW.trod enc Try.prog W 0 (fun _ => true) true fuel 23 [v] = some x) : ∃ l, IntsB W W.heap.size v l := by
  rcases open_ints Try.underlying23 Try.underlying3 (by kernel_rfl) h with ⟨hcs, _⟩ | ⟨a, len, cap, zs, hcs, _, hl, hm, hz, _, hcell, _⟩
  · simp at hcs
    exact ⟨[], .inl ⟨rfl, none, 0, hcs⟩⟩
  · simp at hcs
    simp only [if_true] at hz
    by_cases h0 : len = 0
    · subst h0
      exact ⟨[], .inl ⟨rfl, _, _, hcs⟩⟩
    · have hlen : (zs.take len).length = len := by rw [List.length_take]; omega
      have hb := World.block_lt_of_cell? W _ (hcell 0 (by omega))
      rw [add_blk] at hb
      refine ⟨zs.take len, .inr ⟨a, cap, by rw [hlen]; exact hcs, by rw [hlen]; exact hl, hb, fun i hi => ?_⟩⟩
      rw [hlen] at hi
      rw [hcell i (by omega)]
      rw [List.getD_eq_getElem?_getD, List.getD_eq_getElem?_getD, List.getElem?_take_of_lt hi]
set_option maxRecDepth 100000 in
theorem act_trod {fuel : Nat} {c0 c1 c2 c3 c4 c5 : Value} {x : DataW H × List MemPlace} (h : DataW.trod enc Try.prog W 0 (fun _ => true) true fuel 41 [c0, c1, c2, c3, c4, c5] = some x) :
    ∃ (y : Act'), c0 = .int .i64 y.op ∧ c1 = .int .i64 y.n ∧ c2 = .string (mk y.name) ∧ c3 = .string (mk y.other) ∧ c4 = .string (mk y.s) ∧ IntsB W W.heap.size c5 y.left ∧
      ((-9223372036854775808 ≤ y.op ∧ y.op ≤ 9223372036854775807) ∧ (-9223372036854775808 ≤ y.n ∧ y.n ≤ 9223372036854775807)) := by
  obtain ⟨xs, n, _, _, _, hlen, hf⟩ := DataW.trod_struct Try.underlying41 h
  have hone : oneCellFields Try.prog _ = true := (show oneCellFields Try.prog _ = true by kernel_rfl : oneCellFields Try.prog (match Try.prog.underlying 41 with | some (.struct fs) => fs | _ => #[]) = true)
  have key : ∀ i f, i < 6 → (match Try.prog.underlying 41 with | some (.struct fs) => fs | _ => #[])[i]? = some f → ∃ y, DataW.trod enc Try.prog W 0 (fun _ => true) true n f.type (([c0, c1, c2, c3, c4, c5].drop i).take 1) = some y := fun i f hi hfi => by
    obtain ⟨o, k⟩ := Deep.hone_of hone i f hfi
    rw [Try.underlying41] at hfi
    have := hf i f hfi
    rw [o, k] at this
    rw [this]
    have hl : xs.length = 6 := hlen
    exact ⟨xs[i]'(by omega), List.getElem?_eq_getElem (by omega)⟩
  have hU := Try.underlying41
  obtain ⟨y0, t0⟩ := key 0 _ (by decide) (by rw [hU]; rfl)
  obtain ⟨y1, t1⟩ := key 1 _ (by decide) (by rw [hU]; rfl)
  obtain ⟨y2, t2⟩ := key 2 _ (by decide) (by rw [hU]; rfl)
  obtain ⟨y3, t3⟩ := key 3 _ (by decide) (by rw [hU]; rfl)
  obtain ⟨y4, t4⟩ := key 4 _ (by decide) (by rw [hU]; rfl)
  obtain ⟨y5, t5⟩ := key 5 _ (by decide) (by rw [hU]; rfl)
  obtain ⟨op, e0, _, w0⟩ := DataW.trod_int Try.underlying3 t0
  obtain ⟨m, e1, _, w1⟩ := DataW.trod_int Try.underlying3 t1
  obtain ⟨s2, e2, _, _⟩ := DataW.trod_string Try.underlying9 t2
  obtain ⟨s3, e3, _, _⟩ := DataW.trod_string Try.underlying9 t3
  obtain ⟨s4, e4, _, _⟩ := DataW.trod_string Try.underlying9 t4
  obtain ⟨l, hl⟩ := ints_trod t5
  refine ⟨⟨op, m, s2.data.toList, s3.data.toList, s4.data.toList, l⟩, by simpa using e0, by simpa using e1, ?_, ?_, ?_, hl, bounds_i64 w0, bounds_i64 w1⟩
  · show c2 = .string (mk s2.data.toList); rw [mk_data]; simpa using e2
  · show c3 = .string (mk s3.data.toList); rw [mk_data]; simpa using e3
  · show c4 = .string (mk s4.data.toList); rw [mk_data]; simpa using e4
theorem list6 {α : Type} {l : List α} (h : l.length = 6) : ∃ a b c d e f, l = [a, b, c, d, e, f] := by
  match l, h with
  | [a, b, c, d, e, f], _ => exact ⟨a, b, c, d, e, f, rfl⟩
theorem spot_none {w : World} {a : Addr} {v : Value} (h : w.cell? a = some v) : a = ⟨a.block, a.off, none⟩ := by
  unfold World.cell? at h
  split at h
  · split at h
    · cases h
    · rename_i hs
      obtain ⟨b, o, s⟩ := a
      cases s with
      | none => rfl
      | some s => simp at hs
  · cases h
set_option maxRecDepth 100000 in
theorem acts_of {base : Nat} {v : Value} {d : DataW H} {p : List MemPlace} (hv : Value.okWide Try.prog W .any base 22 v) (h : DataW.Trod enc Try.prog W 0 (fun _ => true) true 22 v d p) :
    ∃ (A : Option Addr) (c : Nat) (l : List Act'), v = .slice A l.length c ∧ Acts W W.heap.size A l := by
  obtain ⟨A, len, cap, rfl⟩ := okWide_slice Try.underlying22 hv
  obtain ⟨fuel, hf⟩ := h
  have hc6 : Try.prog.cellsOf 41 = 6 := by kernel_rfl
  rcases Deep.open_slice Try.underlying22 hf with ⟨hcs, _⟩ | ⟨a, len', cap', m, n, D, Pl, hcs, _, hl, hm, hmm, _, hel⟩
  · simp [Value.cells] at hcs
    obtain ⟨rfl, rfl, rfl⟩ := hcs
    exact ⟨none, 0, [], rfl, fun i hi => by simp at hi⟩
  · simp [Value.cells] at hcs
    obtain ⟨rfl, rfl, rfl⟩ := hcs
    simp only [if_true] at hmm
    subst hmm
    rw [hc6] at hel
    have one : ∀ i, i < len → ∃ (y : Act'), ∃ v, a = ⟨a.block, a.off, none⟩ ∧ a.block < W.heap.size ∧ ActAt W W.heap.size a.block (a.off + i * 6) y v := fun i hi => by
      obtain ⟨cs', h1, h2⟩ := hel i (by omega)
      obtain ⟨_, h4, h5⟩ := World.cells?_some h1
      obtain ⟨c0, c1, c2, c3, c4, c5, rfl⟩ := list6 h4
      obtain ⟨y, rfl, rfl, rfl, rfl, rfl, hi5, hfit⟩ := act_trod h2
      obtain ⟨cz, hz, _⟩ := hel 0 (by omega)
      obtain ⟨_, hz4, hz5⟩ := World.cells?_some hz
      obtain ⟨z0, z1, z2, z3, z4, z5, rfl⟩ := list6 hz4
      have hz0 := hz5 0 (by decide)
      rw [Nat.zero_mul] at hz0
      have hz0' : W.cell? a = some z0 := hz0
      have hs := spot_none hz0'
      have hb := World.block_lt_of_cell? W _ hz0'
      have cell : ∀ j, j < 6 → W.cell? ⟨a.block, a.off + i * 6 + j, none⟩ = [Value.int .i64 y.op, .int .i64 y.n, .string (mk y.name), .string (mk y.other), .string (mk y.s), c5][j]? := fun j hj => by
        have := h5 j hj
        rw [Deep.add_add] at this
        rw [← this]
        congr 1
        rw [hs]
        unfold Addr.add
        split
        · rename_i h0; simp only [Addr.mk.injEq, true_and, and_true]; omega
        · simp only [Addr.mk.injEq, true_and, and_true]; omega
      exact ⟨y, c5, hs, hb, ⟨cell 0 (by decide), cell 1 (by decide), cell 2 (by decide), cell 3 (by decide), cell 4 (by decide), cell 5 (by decide), hi5, hfit⟩⟩
    have : Inhabited Act' := ⟨⟨0, 0, [], [], [], []⟩⟩
    obtain ⟨f, hf'⟩ := Deep.choose_lt one
    refine ⟨some a, _, (List.range len).map f, by rw [List.length_map, List.length_range], fun i hi => ?_⟩
    have hi' : i < len := by simpa using hi
    obtain ⟨v, h1, h2, h3⟩ := hf' i hi'
    exact ⟨a.block, a.off, f i, v, by rw [← h1], h2, by simp [hi'], h3⟩
end
end Go.Proofs.Ytdkmdicmipcifaa.Disk
