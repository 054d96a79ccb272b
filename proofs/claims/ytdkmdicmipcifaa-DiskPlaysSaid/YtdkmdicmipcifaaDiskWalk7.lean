import Derived.Test.YtdkmdicmipcifaaDiskWalk6
import Derived.Test.YtdkmdicmipcifaaIter
namespace Go.Proofs.Ytdkmdicmipcifaa.Disk
open Go Go.RowKit Go.Maps Go.Proofs.YtdkmdicmipcifaaW.PrintWords Go.Proofs.YtdkmdicmipcifaaW.PrintLast Go.Proofs.YtdkmdicmipcifaaW.PrintMore
open Go.Proofs.Ytdkmdicmipcifaa.Pure (mk mk_size mk_app mk_toList mk_dataList wrap_in)
open Go.Sort Go.Shelf
set_option maxHeartbeats 4000000 in
set_option maxRecDepth 100000 in
theorem new_calls {w : World} (r : Int) (h0 : 0 ≤ r) (h1 : r ≤ 10000000) :
    Calls Try.prog 21 #[.int .i64 r] w fun e w' => e = .returned (.tuple #[.pointer (some ⟨w.heap.size + 1, 0, none⟩), .int .i64 0]) ∧ At w' (w.heap.size + 1) w.heap.size (new r) ∧ Below w.heap.size w w' := by
  have hmm := @run_makeMap Try.prog
  have b0 : decide (r < 0) = false := decide_eq_false (by omega)
  have b1 : decide (r > 10000000) = false := decide_eq_false (by omega)
  have hown := World.ownsMap_made w Try.prog 9 fileR
  have HO := Aside0.mk hown
  clear hown h0 h1
  go_enter Try.func21, Try.ntmps21
  go_wp2
  go_ret2
  refine ⟨by simp, ⟨?_, HO.out.alloc _, by omega⟩, ((Below.refl _ w).alloc (Nat.le_refl _) _).alloc (by simp) _⟩
  have := new_row (w.alloc (.map #[] 0)) (.cells #[.map (some w.heap.size), .int .i64 0, .int .i64 r, .int .i64 (-1), .bool false] 65)
  have hs : (w.alloc (.map #[] 0)).heap.size = w.heap.size + 1 := by simp
  rw [hs] at this
  exact this
theorem new_err {w : World} (r : Int) (h : r < 0 ∨ r > 10000000) :
    Calls Try.prog 21 #[.int .i64 r] w fun e w' => e = .returned (.tuple #[.pointer none, .int .i64 1]) ∧ w' = w := by
  have b : decide (r < 0) = true ∨ (decide (r < 0) = false ∧ decide (r > 10000000) = true) := by
    by_cases h0 : r < 0
    · exact .inl (decide_eq_true h0)
    · exact .inr ⟨decide_eq_false h0, decide_eq_true (by omega)⟩
  clear h
  rcases b with b0 | ⟨b0, b1⟩
  all_goals (
    go_enter Try.func21, Try.ntmps21
    go_wp2
    go_ret2
    exact ⟨rfl, rfl⟩)
def Strs (w : World) (base : Nat) (v : Value) (l : List Bs) : Prop :=
  (v = .slice none 0 0 ∧ l = []) ∨ ∃ g cap, v = .slice (some ⟨g, 0, none⟩) l.length cap ∧ base ≤ g ∧ l.length ≤ cap ∧ (∀ i, i < l.length → w.cell? ⟨g, i, none⟩ = some (.string (mk (l.getD i []))))
theorem Strs.of_row {w : World} {base : Nat} {v : Value} {l : List Bs} (h : w.ownsRow base 9 1 v l.length (l.map encStr)) : Strs w base v l := by
  obtain ⟨h1, h2 | ⟨g, cap, cur, hv, hg, hh, hn, hm, hs, ht⟩⟩ := h
  · exact .inl ⟨h2.1, List.length_eq_zero_iff.1 h2.2⟩
  · refine .inr ⟨g, cap, hv, hg, hn, fun i hi => ?_⟩
    have e : cur[i]? = some (.string (mk (l.getD i []))) := by
      have : (cur.toList.take (l.length * 1))[i]? = (l.map encStr)[i]? := by rw [ht]
      rw [List.getElem?_take_of_lt (by omega), List.getElem?_map, List.getElem?_eq_getElem hi] at this
      rw [← Array.getElem?_toList, this, List.getD_eq_getElem?_getD, List.getElem?_eq_getElem hi]
      rfl
    simp only [World.cell?, hh, Option.isSome_none, e]
    rfl
theorem Strs.two {w w' : World} {base p b : Nat} {v : Value} {l : List Bs} (h : Strs w base v l) (ht : Two p b w w') (hp : p < base) (hb : b < base) : Strs w' base v l := by
  rcases h with h | ⟨g, cap, hv, hg, hl, hc⟩
  · exact .inl h
  · exact .inr ⟨g, cap, hv, hg, hl, fun i hi => ht.cell (hc i hi) (by simp only []; omega) (by simp only []; omega)⟩
def StrsA (w : World) (base : Nat) (A : Option Addr) (l : List Bs) : Prop := ∀ i, i < l.length → ∃ g, A = some ⟨g, 0, none⟩ ∧ base ≤ g ∧ w.cell? ⟨g, i, none⟩ = some (.string (mk (l.getD i [])))
theorem StrsA.two {w w' : World} {base p b : Nat} {A : Option Addr} {l : List Bs} (h : StrsA w base A l) (ht : Two p b w w') (hp : p < base) (hb : b < base) : StrsA w' base A l := fun i hi => by
  obtain ⟨g, hA, hg, hc⟩ := h i hi
  exact ⟨g, hA, hg, ht.cell hc (by simp only []; omega) (by simp only []; omega)⟩
theorem Strs.shape {w : World} {base : Nat} {v : Value} {l : List Bs} (h : Strs w base v l) : ∃ A cap, v = .slice A l.length cap ∧ l.length ≤ cap ∧ StrsA w base A l := by
  rcases h with ⟨rfl, rfl⟩ | ⟨g, cap, hv, hg, hl, hc⟩
  · exact ⟨none, 0, rfl, Nat.le_refl _, fun i hi => by simp at hi⟩
  · exact ⟨_, cap, hv, hl, fun i hi => ⟨g, rfl, hg, hc i hi⟩⟩
set_option maxHeartbeats 4000000 in
set_option maxRecDepth 100000 in
theorem names_calls {w : World} {p b : Nat} {d : Dk} (hD : At w p b d) (g : Good d) :
    Calls Try.prog 13 #[.pointer (some ⟨p, 0, none⟩)] w fun e w' => ∃ v, e = .returned v ∧ Strs w' w.heap.size v (d.L.map (·.1)) ∧ Below w.heap.size w w' := by
  refine (callsIn_wide (n := 6)).1 ?_
  have hfK : Fence.wide.fn 30 := trivial
  have hfS : Fence.wide.fn 29 := trivial
  have c0 := hD.c0
  have hsz : Maps.size (Dd d.L) ≤ 200 := by rw [Dd_size]; exact g.many
  have hown := Aside0.mk hD.own
  have hmax := Aside0.mk (show Maps.size (Dd d.L) ≤ maxLen by unfold maxLen; omega)
  have hbytes := Aside0.mk (show Maps.size (Dd d.L) * 16 ≤ 140737488355328 by omega)
  have HG := Aside0.mk g
  clear hD g hsz
  refine callsIn_of_wp Try.func13 rfl trivial ?_ rfl
  simp only [Try.ntmps13, List.size_toArray, List.length_cons, List.length_nil, Nat.reduceAdd, Nat.reduceSub, Array.replicate_succ, Array.replicate_zero, List.push_toArray, List.append_toArray, List.nil_append, List.cons_append]
  gi_wp2_with (first
    | (gi_at_call 30; refine (Try.maps_Keys_30 _ _).mono ?_; rintro e w' ⟨rfl, rfl⟩)
    | (gi_at_call 29; refine (Try.slices_Sorted_keys_29_30 b _ (Dd d.L) fileR w hown.out hmax.out hbytes.out).mono ?_; rintro e w' ⟨v, ss, rfl, hS, hrow, hnil, hb⟩))
  go_ret
  rw [names_sorted HG.out.sorted hS] at hrow
  have hl : ss.length = (d.L.map (·.1)).length := by rw [hS.length_eq, Dd_keys]
  rw [hl] at hrow
  exact ⟨v, rfl, Strs.of_row (ownsRow_base_a hrow (by simp)), ((Below.refl _ w).alloc (Nat.le_refl _) _).trans (hb.mono (by simp))⟩
end Go.Proofs.Ytdkmdicmipcifaa.Disk
