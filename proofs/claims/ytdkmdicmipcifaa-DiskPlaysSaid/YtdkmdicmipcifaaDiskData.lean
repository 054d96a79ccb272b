import Derived.Test.YtdkmdicmipcifaaDiskModel
namespace Go.Proofs.Ytdkmdicmipcifaa.Disk
open Go Go.WideShapes
def fd (f : File) : DataW Unit := .agg [.lit (.string f.1), .lit (.int .i64 f.2)]
def Dd (l : FL) : DataW Unit := .map (l.map fun y => (.string y.1, fd y.2))
def fileL : List Value → Option (DataW Unit × List MemPlace)
  | [.string s, .int .i64 n] => some (.agg [.lit (.string s.data.toList), .lit (.int .i64 n)], [])
  | _ => none
def fileR : Value → Option (DataW Unit × List MemPlace)
  | .agg cs => fileL cs.toList
  | _ => none
theorem fileR_mk (s : ByteArray) (n : Int) : fileR (.agg #[.string s, .int .i64 n]) = some (fd (s.data.toList, n), []) := rfl
theorem fileL_inv {cs : List Value} {f : File} {ps : List MemPlace} (h : fileL cs = some (fd f, ps)) : cs = [.string ⟨f.1.toArray⟩, .int .i64 f.2] ∧ ps = [] := by
  unfold fileL at h
  split at h
  · rename_i s n
    simp only [fd, Option.some.injEq, Prod.mk.injEq, DataW.agg.injEq, List.cons.injEq, DataW.lit.injEq, Lit.string.injEq, Lit.int.injEq, true_and, and_true] at h
    obtain ⟨⟨h1, h2⟩, h3⟩ := h
    refine ⟨?_, h3.symm⟩
    rw [← h1, ← h2]
  · cases h
theorem fileR_inv {v : Value} {f : File} {ps : List MemPlace} (h : fileR v = some (fd f, ps)) : v = .agg #[.string ⟨f.1.toArray⟩, .int .i64 f.2] ∧ ps = [] := by
  cases v <;> simp only [fileR] at h <;> try (cases h; done)
  rename_i cs
  obtain ⟨h1, h2⟩ := fileL_inv h
  refine ⟨?_, h2⟩
  rw [← Array.toArray_toList (xs := cs), h1]
theorem ins_map (x : Bs × File) : ∀ l : FL, DataW.insert (.string x.1, fd x.2) (l.map fun y => ((.string y.1 : Lit), fd y.2)) = (ins x l).map fun y => (.string y.1, fd y.2)
  | [] => rfl
  | y :: r => by
    unfold ins
    show (if (Lit.string x.1).before (.string y.1) = true then _ else _) = _
    have e : (Lit.string x.1).before (.string y.1) = bytesBefore x.1 y.1 := rfl
    rw [e]
    split
    · rfl
    · rw [List.map_cons, ← ins_map x r]
theorem del_map (n : Bs) (l : FL) : (l.map fun y => ((.string y.1 : Lit), fd y.2)).filter (fun p => !p.1.sameKey (.string n)) = (del n l).map fun y => (.string y.1, fd y.2) := by
  unfold del
  rw [List.filter_map]; rfl
theorem Dd_del (n : Bs) (l : FL) : (Dd l).del (.string n) = Dd (del n l) := by
  show DataW.map _ = DataW.map _
  rw [del_map]
theorem Dd_put (n : Bs) (f : File) (l : FL) : (Dd l).put (.string n) (fd f) = Dd (put n f l) := by
  show DataW.map _ = DataW.map _
  rw [del_map, ins_map (n, f)]; rfl
theorem Dd_has (n : Bs) (l : FL) : Maps.has (Dd l) (.string n) = has n l := by
  show (l.map _).any _ = _
  rw [List.any_map]; rfl
theorem Dd_at (n : Bs) (l : FL) : (Dd l).atKey (.string n) (fd ([], 0)) = fd (get n l) := by
  unfold Dd DataW.atKey
  simp only [List.find?_map]
  unfold get get?
  have e : ((fun p : Lit × DataW Unit => p.1.sameKey (.string n)) ∘ fun y : Bs × File => ((.string y.1 : Lit), fd y.2)) = fun y => y.1 == n := rfl
  rw [e]
  cases l.find? (fun y => y.1 == n) <;> rfl
theorem Dd_size (l : FL) : Maps.size (Dd l) = l.length := by
  show (l.map _).length = _
  rw [List.length_map]
theorem Dd_keys (l : FL) : strKeys (Dd l) = l.map (·.1) := by
  show (l.map _).map _ = _
  rw [List.map_map]; rfl
theorem bytes_lt : ∀ a b : Bs, bytesBefore a b = true ↔ a < b
  | [], [] => by simp [bytesBefore]
  | [], b :: r => by simp [bytesBefore]
  | a :: r, [] => by simp [bytesBefore]
  | a :: r, b :: s => by
    rw [List.cons_lt_cons_iff, ← bytes_lt r s]
    simp [bytesBefore]
theorem names_sorted {l : FL} (h : Sorted l) {ss : List Bs} (hp : ss.Perm (strKeys (Dd l))) : ss.mergeSort (fun x y => decide (x ≤ y)) = l.map (·.1) := by
  rw [mergeSort_of_perm hp, Dd_keys]
  refine List.mergeSort_of_pairwise ?_
  refine List.pairwise_map.2 (h.imp fun {a b} hab => ?_)
  simp only [leB, decide_eq_true_eq]
  exact List.le_of_lt ((bytes_lt _ _).1 hab)
end Go.Proofs.Ytdkmdicmipcifaa.Disk
