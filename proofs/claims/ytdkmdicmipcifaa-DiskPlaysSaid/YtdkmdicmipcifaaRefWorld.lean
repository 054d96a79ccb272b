import Derived.Test.YtdkmdicmipcifaaRefModel
import Derived.Test.YtdkmdicmipcifaaDiskOps
import Derived.Test.YtdkmdicmipcifaaDiskActs
import Derived.Deep.RegionLaw
import Derived.Deep.AppendLies
import Derived.Deep.CutBlock
import Derived.OwnWalk
namespace Go.Proofs.Ytdkmdicmipcifaa.Disk
open Go Go.RowKit Go.Maps Go.Proofs.YtdkmdicmipcifaaW.PrintWords Go.Proofs.YtdkmdicmipcifaaW.PrintLast Go.Proofs.YtdkmdicmipcifaaW.PrintMore
open Go.Proofs.Ytdkmdicmipcifaa.Pure (mk mk_size mk_app mk_toList mk_dataList)
open Go.Proofs.Ytdkmdicmipcifaa.Pure renaming mk → mkb
def fileZ : Value := .agg #[.string ByteArray.empty, .string ByteArray.empty, .int .i64 0]
theorem info_file : (Try.prog.info? 74).map (fun i => (i.zero, i.size, i.bytes)) = some (some fileZ, 3, 40) := by kernel_rfl
theorem parts3 : ∃ i, Try.prog.info? 74 = some i ∧ i.zero = some fileZ ∧ i.size = 3 ∧ i.bytes = 40 := by
  have h := info_file
  cases e : Try.prog.info? 74 with
  | none => rw [e] at h; cases h
  | some i =>
    rw [e] at h
    simp only [Option.map_some, Option.some.injEq, Prod.mk.injEq] at h
    exact ⟨i, rfl, h.1, h.2.1, h.2.2⟩
theorem owns3_empty {W : World} {base g : Nat} (h : W.heap[g]? = some (.cells #[] 74 (0, 0))) (hb : base ≤ g) : W.ownsRow base 74 3 (.slice (some ⟨g, 0, none⟩) 0 0) 0 [] :=
  ⟨by simp, .inr ⟨g, 0, #[], rfl, hb, h, Nat.le_refl _, by unfold maxLen; omega, by simp, by simp⟩⟩
set_option maxRecDepth 100000 in
theorem step_app3 {o : Oper} {a : Act} {K : Act → World → Prop} {Q : Exit → Act → World → Prop} {E : Prop} {w : World} {ops : Array Oper} (hgd : o.guard = none) (s x : Operand)
    (ho : o.op = .call { callee := .builtin .append, args := #[s, x], argTypes := #[70, 70] })
    (i : TypeInfo) (hi : Try.prog.info? 74 = some i) (hz : i.zero = some fileZ) (hsize : i.size = 3) (hby : i.bytes = 40)
    (base g n cap : Nat) (xs : List Value) (hs : a.eval s = .slice (some ⟨g, 0, none⟩) n cap) (hown : w.ownsRow base 74 3 (.slice (some ⟨g, 0, none⟩) n cap) n xs)
    (A : Option Addr) (m c : Nat) (news : List Value) (hx : a.eval x = .slice A m c) (hl : news.length = m * 3) (hA : 0 < m → ∃ ad, A = some ad ∧ ∀ j u, news[j]? = some u → w.cell? (ad.add j) = some u) (h1 : ∀ u ∈ news, u.oneCell' = true)
    (hbytes : (n + m) * 40 ≤ 140737488355328) (hbase : base ≤ w.heap.size)
    (h : ∀ g' cap' w', w'.ownsRow base 74 3 (.slice (some ⟨g', 0, none⟩) (n + m) cap') (n + m) (xs ++ news) → w.grownBy w' (some g) → base ≤ g' → g' < w'.heap.size → K (a.put o.dst (.slice (some ⟨g', 0, none⟩) (n + m) cap')) w') :
    if Region.wanted o (yielded ops a.tmps) = true then Oper.wp Try.prog o a w K Q else E := by
  by_cases hm : 0 < m
  · obtain ⟨ad, rfl, hc⟩ := hA hm
    refine step_append_lies w hgd s x _ ho base 74 i fileZ 3 40 Try.underlying70 hi hz hsize hby rfl (by decide) _ n xs hs hown ad m c news hx hl hc h1 hm (by unfold maxLen; omega) hbytes hbase _ rfl ?_
    intro g' cap' w' q1 q2 q3 q4
    refine h g' cap' w' q1 q2 ?_ q4
    obtain ⟨_, q5 | ⟨g'', cap'', cur, hv, hg'', _⟩⟩ := q1
    · cases q5.1
    · cases hv; exact hg''
  · obtain rfl : m = 0 := by omega
    obtain rfl : news = [] := List.length_eq_zero_iff.1 (by simpa using hl)
    have hw : Region.wanted o (yielded ops a.tmps) = true := by simp [Region.wanted, hgd]
    rw [if_pos hw]
    have hlt := hown.lt g rfl
    cases A with
    | some ad =>
      have hcap : n ≤ cap := by
        obtain ⟨_, q5 | ⟨g'', cap'', cur, hv, _, _, hle, _⟩⟩ := hown
        · cases q5.1
        · cases hv; exact hle
      obtain ⟨w', hrun, q1, q2⟩ := run_append_fits (P := Try.prog) w base _ o.type _ i 3 Try.underlying70 hi hsize g n cap xs hown ad 0 c [] rfl (fun j u hj => by simp at hj) (fun u hu => by cases hu) hcap
      unfold Oper.wp
      simp [execOp, ho, resolve, invoke, builtin, hs, hx, hrun, Result.andThen]
      have := h g cap w' (by simpa using q1) q2 hlt.1 (Nat.lt_of_lt_of_le hlt.2 q2.size)
      simp only [Nat.add_zero] at this
      exact this
    | none =>
      have hrun : (Builtin.append_ #[70, 70] o.type #[.slice (some ⟨g, 0, none⟩) n cap, .slice none 0 c]).run Try.prog w = .ok (.slice (some ⟨g, 0, none⟩) n cap) w := by
        rcases hown.2 with ⟨q, _⟩ | ⟨g', cap', cur, q, _, _, hnc, _⟩
        · cases q
        · cases q
          simp [Builtin.append_, run_underlying Try.underlying70, sizeOf, typeInfo, hi, Builtin.lenOf, Builtin.firstCells, hnc, storeCells]
      unfold Oper.wp
      simp [execOp, ho, resolve, invoke, builtin, hs, hx, hrun, Result.andThen]
      have := h g cap w (by simpa using hown) ⟨rfl, rfl, rfl, Nat.le_refl _, fun _ _ _ => rfl⟩ hlt.1 hlt.2
      simp only [Nat.add_zero] at this
      exact this
def cf (y : Bs × File) : List Value := [.string (mk y.1), .string (mk y.2.1), .int .i64 y.2.2]
def fv3 (y : Bs × File) : Value := .agg #[.string (mk y.1), .string (mk y.2.1), .int .i64 y.2.2]
def cells3 : FL → List Value
  | [] => []
  | y :: r => cf y ++ cells3 r
theorem cells3_length : ∀ l : FL, (cells3 l).length = l.length * 3
  | [] => rfl
  | y :: r => by
    show (cf y ++ cells3 r).length = _
    rw [List.length_append, cells3_length r, List.length_cons]
    show 3 + r.length * 3 = _
    omega
theorem cells3_app : ∀ (a b : FL), cells3 (a ++ b) = cells3 a ++ cells3 b
  | [], _ => rfl
  | y :: r, b => by show cf y ++ cells3 (r ++ b) = _; rw [cells3_app r b]; show _ = (cf y ++ cells3 r) ++ _; rw [List.append_assoc]
theorem cells3_get {l : FL} {i : Nat} {y : Bs × File} (h : l[i]? = some y) (r : Nat) (hr : r < 3) : (cells3 l)[i * 3 + r]? = (cf y)[r]? := by
  have hi := (List.getElem?_eq_some_iff.1 h).1
  have e : l = l.take i ++ y :: l.drop (i + 1) := by
    rw [List.getElem?_eq_getElem hi] at h
    rw [← Option.some.inj h, ← List.drop_eq_getElem_cons hi, List.take_append_drop]
  have ht : (cells3 (l.take i)).length = i * 3 := by rw [cells3_length, List.length_take]; congr 1; omega
  rw [e, cells3_app, List.getElem?_append_right (by omega), ht, Nat.add_sub_cancel_left]
  show (cf y ++ _)[r]? = _
  rw [List.getElem?_append_left (by exact hr)]
theorem cells3_drop (l : FL) (k j : Nat) : (cells3 (l.drop k))[j]? = (cells3 l)[k * 3 + j]? := by
  by_cases hk : k ≤ l.length
  · have ht : (cells3 (l.take k)).length = k * 3 := by rw [cells3_length, List.length_take]; congr 1; omega
    have e : cells3 l = cells3 (l.take k) ++ cells3 (l.drop k) := by rw [← cells3_app, List.take_append_drop]
    rw [e, List.getElem?_append_right (by omega), ht, Nat.add_sub_cancel_left]
  · rw [List.drop_of_length_le (by omega), List.getElem?_eq_none (l := cells3 l) (by rw [cells3_length]; omega)]; rfl
theorem cells3_take {l : FL} {k j : Nat} {u : Value} (h : (cells3 (l.take k))[j]? = some u) : (cells3 l)[j]? = some u := by
  have e : cells3 l = cells3 (l.take k) ++ cells3 (l.drop k) := by rw [← cells3_app, List.take_append_drop]
  have hj := (List.getElem?_eq_some_iff.1 h).1
  rw [e, List.getElem?_append_left hj, h]
theorem cf_one {y : Bs × File} : ∀ u ∈ cf y, u.oneCell' = true := fun u hu => by
  simp only [cf, List.mem_cons, List.not_mem_nil, or_false] at hu
  rcases hu with rfl | rfl | rfl <;> rfl
theorem cells3_one : ∀ {l : FL}, ∀ u ∈ cells3 l, u.oneCell' = true
  | [], _, h => by cases h
  | y :: r, u, h => by
    rcases List.mem_append.1 h with h | h
    · exact cf_one u h
    · exact cells3_one u h
theorem cells3_set {l : FL} {i : Nat} {y z : Bs × File} (h : l[i]? = some z) (j : Nat) : (cells3 (l.set i y))[j]? = if j = i * 3 then some (.string (mk y.1)) else if j = i * 3 + 1 then some (.string (mk y.2.1)) else if j = i * 3 + 2 then some (.int .i64 y.2.2) else (cells3 l)[j]? := by
  have hi := (List.getElem?_eq_some_iff.1 h).1
  have hy : (l.set i y)[i]? = some y := by rw [List.getElem?_set_self hi]
  have g := cells3_get hy
  split
  · rename_i e; subst e; exact g 0 (by decide)
  split
  · rename_i e; subst e; exact g 1 (by decide)
  split
  · rename_i e; subst e; exact g 2 (by decide)
  rename_i h0 h1 h2
  by_cases hj : j / 3 < l.length
  · have hne : j / 3 ≠ i := by omega
    have e1 : (l.set i y)[j / 3]? = some l[j / 3] := by rw [List.getElem?_set_ne (Ne.symm hne), List.getElem?_eq_getElem hj]
    have a := cells3_get e1 (j % 3) (by omega)
    have b := cells3_get (List.getElem?_eq_getElem hj) (j % 3) (by omega)
    rw [show j / 3 * 3 + j % 3 = j by omega] at a b
    rw [a, b]
  · rw [List.getElem?_eq_none (by rw [cells3_length, List.length_set]; omega), List.getElem?_eq_none (by rw [cells3_length]; omega)]
def rowB (q : Nat) : Option Addr → Nat
  | some a => a.block
  | none => q
structure RAt (w : World) (q : Nat) (A : Option Addr) (c : Nat) (d : Dk) : Prop where
  cells : w.heap[q]? = some (.cells #[.slice A d.L.length c, .int .i64 d.room, .int .i64 d.turns, .bool d.gone] 72 (0, 0))
  row : d.L = [] ∨ ∃ r off cur, A = some ⟨r, off, none⟩ ∧ w.heap[r]? = some (.cells cur 74 (0, 0)) ∧ ∀ j u, (cells3 d.L)[j]? = some u → cur[off + j]? = some u
  ne : ∀ a, A = some a → a.block ≠ q ∧ a.block < w.heap.size
  cap : d.L.length ≤ c ∧ c ≤ maxLen
namespace RAt
variable {w w' : World} {q : Nat} {A : Option Addr} {c : Nat} {d : Dk}
theorem lt (h : RAt w q A c d) : q < w.heap.size := (Array.getElem?_eq_some_iff.1 h.cells).1
theorem ltr (h : RAt w q A c d) : rowB q A < w.heap.size := by
  cases A with
  | none => exact h.lt
  | some a => exact (h.ne a rfl).2
theorem c0 (h : RAt w q A c d) : w.cell? ⟨q, 0, none⟩ = some (.slice A d.L.length c) := by simp [World.cell?, h.cells]
theorem c1 (h : RAt w q A c d) : w.cell? ⟨q, 1, none⟩ = some (.int .i64 d.room) := by simp [World.cell?, h.cells]
theorem c2 (h : RAt w q A c d) : w.cell? ⟨q, 2, none⟩ = some (.int .i64 d.turns) := by simp [World.cell?, h.cells]
theorem c3 (h : RAt w q A c d) : w.cell? ⟨q, 3, none⟩ = some (.bool d.gone) := by simp [World.cell?, h.cells]
theorem fz (h : RAt w q A c d) (i : Nat) : w.frozen? ⟨q, i, none⟩ = false := by simp [World.frozen?, h.cells]
theorem keep (h : RAt w q A c d) (hs : w.heap.size ≤ w'.heap.size) (hq : w'.heap[q]? = w.heap[q]?) (hr : w'.heap[rowB q A]? = w.heap[rowB q A]?) : RAt w' q A c d := by
  refine ⟨hq.trans h.cells, ?_, fun a ha => ⟨(h.ne a ha).1, Nat.lt_of_lt_of_le (h.ne a ha).2 hs⟩, h.cap⟩
  rcases h.row with h0 | ⟨r, off, cur, hA, hc, hr'⟩
  · exact .inl h0
  · subst hA; exact .inr ⟨r, off, cur, rfl, hr.trans hc, hr'⟩
theorem below (h : RAt w q A c d) (hb : Below w.heap.size w w') : RAt w' q A c d := h.keep hb.size (hb.block _ h.lt) (hb.block _ h.ltr)
theorem drew (h : RAt w q A c d) : RAt w.drew q A c d := ⟨h.cells, h.row, h.ne, h.cap⟩
theorem alloc (h : RAt w q A c d) (o : Obj) : RAt (w.alloc o) q A c d := h.below ((Below.refl _ w).alloc (Nat.le_refl _) o)
theorem two (h : RAt w q A c d) {p b : Nat} (ht : Two p b w w') (h1 : q ≠ p) (h2 : q ≠ b) (h3 : rowB q A ≠ p) (h4 : rowB q A ≠ b) : RAt w' q A c d :=
  h.keep ht.size (ht.block _ h.lt h1 h2) (ht.block _ h.ltr h3 h4)
theorem setOther (h : RAt w q A c d) {a : Addr} (h1 : a.block ≠ q) (h2 : a.block ≠ rowB q A) (v : Value) : RAt (w.setCell a v) q A c d :=
  h.keep (by simp) (Below.heap_setCell _ _ _ _ (Ne.symm h1)) (Below.heap_setCell _ _ _ _ (Ne.symm h2))
theorem setQ (h : RAt w q A c d) (i : Nat) (v : Value) {d' : Dk} (hL : d'.L = d.L) (hc : (w.setCell ⟨q, i, none⟩ v).heap[q]? = some (.cells #[.slice A d.L.length c, .int .i64 d'.room, .int .i64 d'.turns, .bool d'.gone] 72 (0, 0))) : RAt (w.setCell ⟨q, i, none⟩ v) q A c d' := by
  refine ⟨by rw [hL]; exact hc, ?_, fun a ha => ⟨(h.ne a ha).1, by simpa using (h.ne a ha).2⟩, by rw [hL]; exact h.cap⟩
  rw [hL]
  rcases h.row with h0 | ⟨r, off, cur, hA, hcr, hr'⟩
  · exact .inl h0
  · refine .inr ⟨r, off, cur, hA, ?_, hr'⟩
    rw [Below.heap_setCell _ _ _ _ (h.ne _ hA).1]
    exact hcr
theorem set2 (h : RAt w q A c d) (v : Int) : RAt (w.setCell ⟨q, 2, none⟩ (.int .i64 v)) q A c { d with turns := v } :=
  h.setQ 2 _ rfl (by simp [World.setCell, Array.getElem?_modify, h.cells])
theorem set3 (h : RAt w q A c d) (v : Bool) : RAt (w.setCell ⟨q, 3, none⟩ (.bool v)) q A c { d with gone := v } :=
  h.setQ 3 _ rfl (by simp [World.setCell, Array.getElem?_modify, h.cells])
theorem used (h : RAt w q A c d) (u : Int) : RAt w q A c { d with used := u } := ⟨h.cells, h.row, h.ne, h.cap⟩
theorem set0 (h : RAt w q A c d) {base g n k : Nat} {l : FL} (ho : w.ownsRow base 74 3 (.slice (some ⟨g, 0, none⟩) n k) n (cells3 l)) (hn : n = l.length) (hg : g ≠ q) (u : Int) :
    RAt (w.setCell ⟨q, 0, none⟩ (.slice (some ⟨g, 0, none⟩) n k)) q (some ⟨g, 0, none⟩) k { d with L := l, used := u } := by
  subst hn
  have hlt := (ho.lt g rfl).2
  obtain ⟨_, q5 | ⟨g', cap', cur, hv, _, hc, hle, hm, hsz, hx⟩⟩ := ho
  · cases q5.1
  cases hv
  refine ⟨by simp [World.setCell, Array.getElem?_modify, h.cells], .inr ⟨g, 0, cur, rfl, ?_, fun j u hj => ?_⟩, fun a ha => ?_, hle, hm⟩
  · rw [Below.heap_setCell _ _ _ _ hg]; exact hc
  · have hj' := (List.getElem?_eq_some_iff.1 hj).1
    rw [cells3_length] at hj'
    have := congrArg (fun z => z[j]?) hx
    rw [List.getElem?_take_of_lt hj'] at this
    rw [Nat.zero_add, ← Array.getElem?_toList, this]
    exact hj
  · cases ha
    exact ⟨hg, by simpa using hlt⟩
theorem at_ (h : RAt w q A c d) (i : Nat) (hi : i < d.L.length) : ∃ r off y, A = some ⟨r, off, none⟩ ∧ d.L[i]? = some y ∧ r ≠ q ∧ r < w.heap.size ∧
    w.cell? ⟨r, off + i * 3, none⟩ = some (.string (mkb y.1)) ∧ w.cell? ⟨r, off + i * 3 + 1, none⟩ = some (.string (mkb y.2.1)) ∧ w.cell? ⟨r, off + i * 3 + 2, none⟩ = some (.int .i64 y.2.2) ∧ (∀ j, w.frozen? ⟨r, j, none⟩ = false) := by
  rcases h.row with h0 | ⟨r, off, cur, hA, hc, hr⟩
  · rw [h0] at hi; simp at hi
  have hy := List.getElem?_eq_getElem hi
  have g := cells3_get hy
  have e0 := hr _ _ (g 0 (by decide))
  have e1 := hr _ _ (g 1 (by decide))
  have e2 := hr _ _ (g 2 (by decide))
  rw [Nat.add_zero] at e0
  rw [show off + (i * 3 + 1) = off + i * 3 + 1 by omega] at e1
  rw [show off + (i * 3 + 2) = off + i * 3 + 2 by omega] at e2
  have hn := h.ne _ hA
  refine ⟨r, off, _, hA, hy, hn.1, hn.2, ?_, ?_, ?_, fun j => by simp [World.frozen?, hc]⟩
  · simp only [World.cell?, hc]; exact e0
  · simp only [World.cell?, hc]; exact e1
  · simp only [World.cell?, hc]; exact e2
theorem lies (h : RAt w q A c d) {k j : Nat} {u : Value} (hj : (cells3 d.L)[k * 3 + j]? = some u) : ∃ r off, A = some ⟨r, off, none⟩ ∧ w.cell? ((Addr.add ⟨r, off, none⟩ (k * 3)).add j) = some u := by
  rcases h.row with h0 | ⟨r, off, cur, hA, hc, hr⟩
  · rw [h0] at hj; simp [cells3] at hj
  refine ⟨r, off, hA, ?_⟩
  have e : (Addr.add ⟨r, off, none⟩ (k * 3)).add j = ⟨r, off + (k * 3 + j), none⟩ := by
    unfold Addr.add
    split <;> split <;> simp_all <;> omega
  rw [e]
  simp only [World.cell?, hc]
  exact hr _ _ hj
theorem store (h : RAt w q A c d) {i r off : Nat} {z : Bs × File} (hA : A = some ⟨r, off, none⟩) (hz : d.L[i]? = some z) (y : Bs × File) (u : Int) :
    RAt (((w.setCell ⟨r, off + i * 3, none⟩ (.string (mkb y.1))).setCell ⟨r, off + i * 3 + 1, none⟩ (.string (mkb y.2.1))).setCell ⟨r, off + i * 3 + 2, none⟩ (.int .i64 y.2.2)) q A c { d with L := d.L.set i y, used := u } := by
  have hi := (List.getElem?_eq_some_iff.1 hz).1
  rcases h.row with h0 | ⟨r', off', cur, hA', hc, hr⟩
  · rw [h0] at hi; simp at hi
  have hn := h.ne _ hA
  rw [hA] at hA'
  cases hA'
  have g := cells3_get hz
  have e0 := hr _ _ (g 0 (by decide))
  have e1 := hr _ _ (g 1 (by decide))
  have e2 := hr _ _ (g 2 (by decide))
  have l0 := (Array.getElem?_eq_some_iff.1 e0).1
  have l1 := (Array.getElem?_eq_some_iff.1 e1).1
  have l2 := (Array.getElem?_eq_some_iff.1 e2).1
  refine ⟨?_, .inr ⟨r, off, ((cur.setIfInBounds (off + i * 3) (.string (mkb y.1))).setIfInBounds (off + i * 3 + 1) (.string (mkb y.2.1))).setIfInBounds (off + i * 3 + 2) (.int .i64 y.2.2), hA, ?_, fun j u' hj => ?_⟩, fun a ha => ?_, by simpa using h.cap⟩
  · have hq : q ≠ r := Ne.symm hn.1
    rw [Below.heap_setCell _ _ _ _ hq, Below.heap_setCell _ _ _ _ hq, Below.heap_setCell _ _ _ _ hq, h.cells]
    simp
  · simp [World.setCell, Array.getElem?_modify, hc]
  · rw [cells3_set hz] at hj
    simp only [Array.getElem?_setIfInBounds, Array.size_setIfInBounds]
    by_cases j2 : j = i * 3 + 2
    · subst j2
      rw [if_neg (by omega), if_neg (by omega), if_pos rfl] at hj
      rw [if_pos (by omega), if_pos (by omega)]; exact hj
    rw [if_neg (show ¬ off + i * 3 + 2 = off + j by omega)]
    by_cases j1 : j = i * 3 + 1
    · subst j1
      rw [if_neg (by omega), if_pos rfl] at hj
      rw [if_pos (by omega), if_pos (by omega)]; exact hj
    rw [if_neg (show ¬ off + i * 3 + 1 = off + j by omega)]
    by_cases j0 : j = i * 3
    · subst j0
      rw [if_pos rfl] at hj
      rw [if_pos (by omega), if_pos (by omega)]; exact hj
    rw [if_neg (show ¬ off + i * 3 = off + j by omega)]
    rw [if_neg j0, if_neg j1, if_neg j2] at hj
    exact hr j u' hj
  · exact ⟨(h.ne a ha).1, by simpa using (h.ne a ha).2⟩
end RAt
structure RT (q : Nat) (A A' : Option Addr) (w w' : World) : Prop where
  two : Two q (rowB q A) w w'
  nx : rowB q A' = rowB q A ∨ w.heap.size ≤ rowB q A'
namespace RT
variable {q : Nat} {A A' A'' : Option Addr} {w w1 w' : World}
theorem of (h : Two q (rowB q A) w w') : RT q A A w w' := ⟨h, .inl rfl⟩
theorem refl : RT q A A w w := of (Two.refl _ _ _)
theorem trans (h : RT q A A' w w1) (k : RT q A' A'' w1 w') : RT q A A'' w w' := by
  refine ⟨⟨k.two.os.trans h.two.os, k.two.tape.trans h.two.tape, k.two.output.trans h.two.output, Nat.le_trans h.two.size k.two.size, fun i hi h1 h2 => ?_⟩, ?_⟩
  · refine (k.two.block i (Nat.lt_of_lt_of_le hi h.two.size) h1 ?_).trans (h.two.block i hi h1 h2)
    rcases h.nx with e | e
    · rw [e]; exact h2
    · omega
  · rcases k.nx with e | e
    · rw [e]; exact h.nx
    · exact .inr (Nat.le_trans h.two.size e)
theorem below (h : Below w.heap.size w w') : RT q A A w w' := of (Two.below h)
theorem drew (h : RT q A A' w w') : RT q A A' w w'.drew := ⟨h.two.drew, h.nx⟩
theorem alloc (h : RT q A A' w w') (o : Obj) : RT q A A' w (w'.alloc o) := h.trans (below ((Below.refl _ w').alloc (Nat.le_refl _) o))
theorem set (h : RT q A A' w w') (i : Nat) (v : Value) : RT q A A' w (w'.setCell ⟨q, i, none⟩ v) := h.trans (of ((Two.refl _ _ _).set i v))
theorem setNew (h : RT q A A' w w') {a : Addr} (ha : w.heap.size ≤ a.block) (v : Value) : RT q A A' w (w'.setCell a v) := ⟨h.two.setNew ha v, h.nx⟩
theorem row {k : Nat} {o : Obj} (h : RT q A A' w w') (hk : w.heap[k]? = some o) (h1 : k ≠ q) (h2 : k ≠ rowB q A) : w'.heap[k]? = some o := h.two.row hk h1 h2
end RT
end Go.Proofs.Ytdkmdicmipcifaa.Disk
