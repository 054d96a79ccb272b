import Derived.Test.YtdkmdicmipcifaaDiskActs
namespace Go.Proofs.Ytdkmdicmipcifaa.Disk
open Go Go.RowKit
open Go.Proofs.Ytdkmdicmipcifaa.Pure (mk)
def vals (x : Act') (v : Value) : List Value := [.int .i64 x.op, .int .i64 x.n, .string (mk x.name), .string (mk x.other), .string (mk x.s), v]
def flat : List (Act' × Value) → List Value
  | [] => []
  | y :: r => vals y.1 y.2 ++ flat r
theorem flat_length : ∀ l : List (Act' × Value), (flat l).length = l.length * 6
  | [] => rfl
  | y :: r => by
    show (vals y.1 y.2 ++ flat r).length = _
    rw [List.length_append, flat_length r, List.length_cons]
    show 6 + r.length * 6 = _
    omega
theorem flat_get : ∀ {l : List (Act' × Value)} {i : Nat} {y : Act' × Value}, l[i]? = some y → ∀ r, r < 6 → (flat l)[i * 6 + r]? = (vals y.1 y.2)[r]?
  | [], i, y, h, _, _ => by simp at h
  | z :: t, 0, y, h, r, hr => by
    simp at h
    subst h
    show (vals z.1 z.2 ++ flat t)[0 * 6 + r]? = _
    rw [Nat.zero_mul, Nat.zero_add, List.getElem?_append_left (by exact hr)]
  | z :: t, i + 1, y, h, r, hr => by
    have ih := flat_get (l := t) (i := i) (y := y) (by simpa using h) r hr
    show (vals z.1 z.2 ++ flat t)[(i + 1) * 6 + r]? = _
    have e : (i + 1) * 6 + r = (vals z.1 z.2).length + (i * 6 + r) := by show _ = 6 + (i * 6 + r); omega
    rw [e, List.getElem?_append_right (by omega), Nat.add_sub_cancel_left, ih]
theorem flat_at {l : List (Act' × Value)} {j : Nat} {u : Value} (h : (flat l)[j]? = some u) : ∃ y, l[j / 6]? = some y ∧ (vals y.1 y.2)[j % 6]? = some u := by
  have hj := (List.getElem?_eq_some_iff.1 h).1
  rw [flat_length] at hj
  have hi : j / 6 < l.length := by omega
  refine ⟨l[j / 6], List.getElem?_eq_getElem hi, ?_⟩
  have := flat_get (List.getElem?_eq_getElem hi) (j % 6) (by omega)
  rw [← this, show j / 6 * 6 + j % 6 = j by omega]
  exact h
theorem flat_app (l : List (Act' × Value)) (y : Act' × Value) : flat (l ++ [y]) = flat l ++ vals y.1 y.2 := by
  induction l with
  | nil => simp [flat]
  | cons z t ih => show vals z.1 z.2 ++ flat (t ++ [y]) = _; rw [ih]; show _ = (vals z.1 z.2 ++ flat t) ++ _; rw [List.append_assoc]
theorem vals_one (x : Act') (v : Value) (hv : ∃ a n c, v = .slice a n c) : ∀ u ∈ vals x v, u.oneCell' = true := by
  obtain ⟨a, n, c, rfl⟩ := hv
  intro u hu
  unfold vals at hu
  simp only [List.mem_cons, List.not_mem_nil, or_false] at hu
  rcases hu with rfl | rfl | rfl | rfl | rfl | rfl <;> rfl
theorem vals_cell {w : World} {B g off : Nat} {x : Act'} {v : Value} (h : ActAt w B g off x v) : ∀ r u, (vals x v)[r]? = some u → w.cell? ⟨g, off + r, none⟩ = some u := fun r u hr => by
  have hl := (List.getElem?_eq_some_iff.1 hr).1
  have hl : r < 6 := hl
  have hc : r = 0 ∨ r = 1 ∨ r = 2 ∨ r = 3 ∨ r = 4 ∨ r = 5 := by omega
  rcases hc with rfl | rfl | rfl | rfl | rfl | rfl
  · rw [← hr]; exact h.c0
  · rw [← hr]; exact h.c1
  · rw [← hr]; exact h.c2
  · rw [← hr]; exact h.c3
  · rw [← hr]; exact h.c4
  · rw [← hr]; exact h.c5
theorem Acts.flat {w : World} {B : Nat} {A : Option Addr} {l : List Act'} (h : Acts w B A l) :
    ∃ ps : List (Act' × Value), ps.map (·.1) = l ∧ (∀ y ∈ ps, IntsB w B y.2 y.1.left ∧ ((-9223372036854775808 ≤ y.1.op ∧ y.1.op ≤ 9223372036854775807) ∧ (-9223372036854775808 ≤ y.1.n ∧ y.1.n ≤ 9223372036854775807))) ∧
      (0 < l.length → ∃ g off, A = some ⟨g, off, none⟩ ∧ g < B ∧ ∀ j u, (Disk.flat ps)[j]? = some u → w.cell? ⟨g, off + j, none⟩ = some u) := by
  have one : ∀ i, i < l.length → ∃ y : Act' × Value, ∃ g off, A = some ⟨g, off, none⟩ ∧ g < B ∧ l[i]? = some y.1 ∧ ActAt w B g (off + i * 6) y.1 y.2 := fun i hi => by
    obtain ⟨g, off, x, v, h1, h2, h3, h4⟩ := h i hi
    exact ⟨(x, v), g, off, h1, h2, h3, h4⟩
  have : Inhabited (Act' × Value) := ⟨(⟨0, 0, [], [], [], []⟩, .bool false)⟩
  obtain ⟨f, hf⟩ := Deep.choose_lt one
  refine ⟨(List.range l.length).map f, ?_, ?_, ?_⟩
  · refine List.ext_getElem? (fun i => ?_)
    rw [List.map_map, List.getElem?_map]
    by_cases hi : i < l.length
    · obtain ⟨g, off, _, _, h3, _⟩ := hf i hi
      rw [List.getElem?_range hi, h3]; rfl
    · rw [List.getElem?_eq_none (by simpa using hi), List.getElem?_eq_none (by simpa using hi)]; rfl
  · intro y hy
    obtain ⟨i, hi, rfl⟩ := List.mem_map.1 hy
    obtain ⟨g, off, _, _, _, h4⟩ := hf i (List.mem_range.1 hi)
    exact ⟨h4.left, h4.fits⟩
  · intro h0
    obtain ⟨g, off, h1, h2, _, _⟩ := hf 0 h0
    refine ⟨g, off, h1, h2, fun j u hj => ?_⟩
    obtain ⟨y, hy1, hy2⟩ := flat_at hj
    have hi : j / 6 < l.length := by have := (List.getElem?_eq_some_iff.1 hy1).1; simpa using this
    rw [List.getElem?_map, List.getElem?_range hi] at hy1
    obtain rfl := Option.some.inj hy1
    obtain ⟨g', off', h1', _, _, h4⟩ := hf (j / 6) hi
    rw [h1] at h1'
    obtain ⟨rfl, rfl⟩ : g = g' ∧ off = off' := by simpa using h1'
    have := vals_cell h4 (j % 6) u hy2
    rwa [show off + j / 6 * 6 + j % 6 = off + j by omega] at this
theorem acts_of_flat {w : World} {B g : Nat} {ps : List (Act' × Value)} (hg : g < B) (hl : ∀ y ∈ ps, IntsB w B y.2 y.1.left ∧ ((-9223372036854775808 ≤ y.1.op ∧ y.1.op ≤ 9223372036854775807) ∧ (-9223372036854775808 ≤ y.1.n ∧ y.1.n ≤ 9223372036854775807)))
    (hc : ∀ j u, (flat ps)[j]? = some u → w.cell? ⟨g, j, none⟩ = some u) : Acts w B (some ⟨g, 0, none⟩) (ps.map (·.1)) := fun i hi => by
  rw [List.length_map] at hi
  have hp := List.getElem?_eq_getElem hi
  obtain ⟨h1, h2⟩ := hl ps[i] (List.getElem_mem hi)
  have cell : ∀ r u, r < 6 → (vals ps[i].1 ps[i].2)[r]? = some u → w.cell? ⟨g, 0 + i * 6 + r, none⟩ = some u := fun r u hr hu => by
    rw [Nat.zero_add]
    exact hc _ _ ((flat_get hp r hr).trans hu)
  exact ⟨g, 0, ps[i].1, ps[i].2, rfl, hg, by rw [List.getElem?_map, hp]; rfl, ⟨cell 0 _ (by decide) rfl, cell 1 _ (by decide) rfl, cell 2 _ (by decide) rfl, cell 3 _ (by decide) rfl, cell 4 _ (by decide) rfl, cell 5 _ (by decide) rfl, h1, h2⟩⟩
end Go.Proofs.Ytdkmdicmipcifaa.Disk
