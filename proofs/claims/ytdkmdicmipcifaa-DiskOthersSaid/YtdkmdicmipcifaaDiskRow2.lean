import Derived.Test.YtdkmdicmipcifaaDiskRow
namespace Go.Proofs.Ytdkmdicmipcifaa.Disk
open Go Go.RowKit Go.ChangeShapes Go.WideShapes Go.Deep
open Go.Proofs.Ytdkmdicmipcifaa.Pure (mk mk_data)
section
variable {H : Type} {enc : TypeId × Value → H} {W : World}
set_option maxRecDepth 100000 in
theorem act_of {base : Nat} {v : Value} {d : DataW H} {p : List MemPlace} (hv : Value.okWide Try.prog W .any base 41 v) (h : DataW.Trod enc Try.prog W 0 (fun _ => true) true 41 v d p) :
    ∃ (x : Act') (u : Value), v = .agg #[.int .i64 x.op, .int .i64 x.n, .string (mk x.name), .string (mk x.other), .string (mk x.s), u] ∧ IntsB W W.heap.size u x.left ∧
      ((-9223372036854775808 ≤ x.op ∧ x.op ≤ 9223372036854775807) ∧ (-9223372036854775808 ≤ x.n ∧ x.n ≤ 9223372036854775807)) := by
  obtain ⟨cs, rfl, hsz⟩ := okWide_struct Try.underlying41 hv
  have hc6 : Try.prog.cellsOf 41 = 6 := by kernel_rfl
  rw [hc6] at hsz
  obtain ⟨fuel, hf⟩ := h
  obtain ⟨l⟩ := cs
  obtain ⟨c0, c1, c2, c3, c4, c5, rfl⟩ := list6 hsz
  obtain ⟨y, rfl, rfl, rfl, rfl, rfl, hi5, hfit⟩ := act_trod hf
  exact ⟨y, c5, rfl, hi5, hfit⟩
set_option maxRecDepth 100000 in
theorem acts_datum {A : Option Addr} {n c : Nat} {d : DataW H} {p : List MemPlace} (h : DataW.Trod enc Try.prog W 0 (fun _ => true) true 22 (.slice A n c) d p) :
    n = 0 ∨ ∃ elems spare, d = .slice elems spare ∧ elems.length = n := by
  obtain ⟨fuel, hf⟩ := h
  rcases Deep.open_slice Try.underlying22 hf with ⟨hcs, _⟩ | ⟨a, len', cap', m, k, D, Pl, hcs, _, hl, hm, hmm, hx, hel⟩
  · simp [Value.cells] at hcs
    exact .inl hcs.2.1
  · simp [Value.cells] at hcs
    obtain ⟨rfl, rfl, rfl⟩ := hcs
    simp only [Prod.mk.injEq] at hx
    exact .inr ⟨_, _, hx.1, by simp⟩
end
end Go.Proofs.Ytdkmdicmipcifaa.Disk
