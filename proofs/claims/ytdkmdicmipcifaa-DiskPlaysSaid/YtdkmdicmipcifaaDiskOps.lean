import Derived.Test.YtdkmdicmipcifaaDiskWorld
import Derived.Test.YtdkmdicmipcifaaDiskGood
import Derived.Test.YtdkmdicmipcifaaLib
import Derived.Test.YtdkmdicmipcifaaPureKit
import Derived.Maps.OwnSet
namespace Go.Proofs.Ytdkmdicmipcifaa.Disk
open Go Go.RowKit Go.Maps Go.ChangeMaps Go.WideElems Go.WideShapes Go.ChangeShapes
open Go.Proofs.Ytdkmdicmipcifaa.Pure (mk mk_size mk_app mk_toList mk_dataList)
abbrev At (w : World) (p b : Nat) (d : Dk) : Prop := DiskAt Try.prog 9 65 w p b d
def fv (f : File) : Value := .agg #[.string (mk f.1), .int .i64 f.2]
theorem law : Keyed Try.prog 9 := string_keyed Try.underlying9
theorem zeroF (w : World) : (zeroValue 56).run Try.prog w = .ok (fv ([], 0)) w := by kernel_rfl
theorem key_mk {n : Bs} (h : n.length ≤ maxLen) : keyOf Try.prog 9 (.string (mk n)) = some (.string n) := by
  have := WideMaps.keyOf_string_mk (P := Try.prog) Try.underlying9 (s := mk n) (by rw [mk_size]; exact h)
  rw [mk_dataList] at this
  exact this
theorem fileR_fv (f : File) : fileR (fv f) = some (fd f, []) := by
  unfold fv
  rw [fileR_mk, mk_dataList]
theorem field0 (f : File) (W : World) : (Instr.field 56 (fv f) 0).run Try.prog W = .ok (.string (mk f.1)) W := by
  unfold fv; kernel_rfl
theorem field1 (f : File) (W : World) : (Instr.field 56 (fv f) 1).run Try.prog W = .ok (.int .i64 f.2) W := by
  unfold fv; kernel_rfl
theorem look_run {w : World} {p b : Nat} {d : Dk} (hD : At w p b d) (n : Bs) (hn : n.length ≤ maxLen) :
    (Instr.lookup 63 (.map (some b)) (.string (mk n)) false).run Try.prog w = .ok (fv (get n d.L)) w := by
  obtain ⟨v, ps, hrun, hv⟩ := hD.own.lookup law Try.underlying63 (zeroF w) (fileR_fv ([], 0)) (key_mk hn)
  rw [Dd_at] at hv
  obtain ⟨rfl, -⟩ := fileR_inv hv
  exact hrun
theorem put_run {w : World} {p b : Nat} {d : Dk} (hD : At w p b d) (n : Bs) (hn : n.length ≤ maxLen) (f : File) (g : Sorted d.L) (hl : d.L.length < maxLen) :
    ∃ w', (Instr.mapUpdate 63 (.map (some b)) (.string (mk n)) (fv f)).run Try.prog w = .ok () w' ∧ At w' p b { d with L := put n f d.L } ∧ w.mapTurned w' b := by
  obtain ⟨w', hrun, ho, ht⟩ := hD.own.store law Try.underlying63 hl (key_mk hn) (fileR_fv f)
  rw [Dd_put] at ho
  refine ⟨w', hrun, hD.map ho ht ?_, ht⟩
  have := (total_put (n := n) (f := f) g).2
  rw [this]; split <;> omega
section
variable {ops : Array Oper} {rest : List Oper} {o : Oper} {a : Act} {Q : Exit → Act → World → Prop} {w : World} {p b : Nat} {d : Dk}
theorem op_look (hg : o.guard = none) (m x : Operand) (hop : o.op = Op.lookup 63 m x false) (hD : At w p b d) (hm : a.eval m = .map (some b)) (n : Bs) (hx : a.eval x = .string (mk n)) (hn : n.length ≤ maxLen)
    (hK : wpList Try.prog ops Q rest (a.put o.dst (fv (get n d.L))) w) : wpList Try.prog ops Q (o :: rest) a w := by
  refine wpList_plain hg fun K' hK' => ?_
  obtain ⟨v, ps, hrun, hv⟩ := hD.own.lookup law Try.underlying63 (zeroF w) (fileR_fv ([], 0)) (key_mk hn)
  rw [Dd_at] at hv
  obtain ⟨rfl, -⟩ := fileR_inv hv
  unfold Oper.wp
  simp [execOp, hop, hm, hx, hrun, Result.andThen]
  exact hK' _ _ hK
theorem op_look2 (hg : o.guard = none) (m x : Operand) (hop : o.op = Op.lookup 63 m x true) (hD : At w p b d) (hm : a.eval m = .map (some b)) (n : Bs) (hx : a.eval x = .string (mk n)) (hn : n.length ≤ maxLen)
    (hK : wpList Try.prog ops Q rest (a.put o.dst (.tuple #[fv (get n d.L), .bool (has n d.L)])) w) : wpList Try.prog ops Q (o :: rest) a w := by
  refine wpList_plain hg fun K' hK' => ?_
  obtain ⟨v, ps, hrun, hv⟩ := hD.own.look_ok law Try.underlying63 (zeroF w) (fileR_fv ([], 0)) (key_mk hn)
  rw [Dd_at] at hv
  rw [Dd_has] at hrun
  obtain ⟨rfl, -⟩ := fileR_inv hv
  unfold Oper.wp
  simp [execOp, hop, hm, hx, hrun, Result.andThen]
  exact hK' _ _ hK
theorem op_del (hg : o.guard = none) (m x : Operand) (hop : o.op = Op.call { callee := Callee.builtin Builtin.delete, args := #[m, x], argTypes := #[63, 9] }) (hD : At w p b d) (hm : a.eval m = .map (some b)) (n : Bs) (hx : a.eval x = .string (mk n)) (hn : n.length ≤ maxLen)
    (g : Sorted d.L)
    (hK : ∀ w', At w' p b { d with L := del n d.L } → w.mapTurned w' b → wpList Try.prog ops Q rest (a.put o.dst (.tuple #[])) w') : wpList Try.prog ops Q (o :: rest) a w := by
  refine wpList_delete_own w hg m x _ _ hop 56 law Try.underlying63 fileR b _ _ hm hD.own _ _ hx (key_mk hn) (fun w' ho ht => ?_)
  rw [Dd_del] at ho
  exact hK w' (hD.map ho ht (total_del g).2) ht
theorem op_len (hg : o.guard = none) (m : Operand) (hop : o.op = Op.call { callee := Callee.builtin Builtin.len, args := #[m], argTypes := #[63] }) (hD : At w p b d) (hm : a.eval m = .map (some b))
    (hK : wpList Try.prog ops Q rest (a.put o.dst (.int .i64 d.L.length)) w) : wpList Try.prog ops Q (o :: rest) a w := by
  refine wpList_len_own w hg m _ hop 9 56 Try.underlying63 fileR b _ _ hm hD.own ?_
  rw [Dd_size]
  exact hK
end
end Go.Proofs.Ytdkmdicmipcifaa.Disk
