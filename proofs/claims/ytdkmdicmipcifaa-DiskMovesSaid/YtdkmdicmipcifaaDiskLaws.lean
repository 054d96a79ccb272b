import Derived.Test.YtdkmdicmipcifaaDiskGood
namespace Go.Proofs.Ytdkmdicmipcifaa.Disk
open Go
structure Clean (d : Dk) : Prop extends Good d where
  on : d.gone = false
  free : d.turns = -1
  synced : ∀ y ∈ d.L, y.2.2 = y.2.1.length
theorem clean_crash {d : Dk} (g : Good d) (left : List Int) : Clean (crash d left) :=
  { good_crash g left with on := rfl, free := rfl, synced := (crashL_mem (left := left) g.safe).1 }
theorem read_at {d : Dk} (h : d.gone = false) (n : Bs) : read d n = match get? n d.L with | some f => (f.1, 0) | none => ([], 6) := by
  unfold read there
  rw [if_neg (by simp [h]), has_get?]
  cases e : get? n d.L with
  | none => rfl
  | some f => simp [get_some e]
theorem put_get? {d : Dk} (g : Good d) (n : Bs) (f : File) : get? n (putD d n f).L = some f ∧ ∀ m, m ≠ n → get? m (putD d n f).L = get? m d.L :=
  ⟨get?_put n f g.sorted, fun _ h => get?_put_other f g.sorted h⟩
theorem out_get? {d : Dk} (g : Good d) (n : Bs) : get? n (outD d n).L = none ∧ ∀ m, m ≠ n → get? m (outD d n).L = get? m d.L :=
  ⟨get?_del n g.sorted, fun _ h => get?_del_other g.sorted h⟩
theorem rename_get? {d : Dk} (g : Good d) (a b : Bs) : (∀ m, m ≠ a → m ≠ b → get? m (rename d a b).1.L = get? m d.L) ∧
    ((rename d a b).2 = 0 → get? b (rename d a b).1.L = some (get a d.L) ∧ (a ≠ b → get? a (rename d a b).1.L = none) ∧ has a d.L = true) ∧ ((rename d a b).2 ≠ 0 → (rename d a b).1.L = d.L) := by
  unfold rename
  split
  · rename_i h; exact ⟨fun _ _ _ => rfl, fun h' => absurd h' h, fun _ => rfl⟩
  split; · exact ⟨fun _ _ _ => rfl, fun h => by simp at h, fun _ => rfl⟩
  split
  · rename_i h
    obtain ⟨h1, h2, h3, h4⟩ := there_true h
    rw [h4]
    have hg : Good { d with turns := max (d.turns - 1) (-1) } := by have := there_good g a true; rw [h4] at this; exact this
    obtain ⟨p1, p2⟩ := out_get? hg a
    obtain ⟨q1, q2⟩ := put_get? (good_out (n := a) hg) b (get a d.L)
    refine ⟨fun m ha hb => by rw [q2 m hb, p2 m ha], fun _ => ⟨q1, fun hab => by rw [q2 a hab, p1], h2⟩, fun h => by simp at h⟩
  · rename_i h
    have : (there d a true).2.1.L = d.L := by
      unfold there
      split; · rfl
      split; · rfl
      exact (turn_L d).1
    exact ⟨fun m _ _ => by rw [this], fun h' => absurd h' h, fun _ => this⟩
theorem turn_free {d : Dk} (h : d.turns = -1) : turn d = (d, 0) := by
  unfold turn; rw [if_neg (by omega)]
  cases d; simp only at h; subst h; rfl
theorem there_free {d : Dk} (h : d.gone = false) (ht : d.turns = -1) (n : Bs) (t : Bool) : there d n t = if has n d.L = true then (get n d.L, d, 0) else (([], 0), d, 6) := by
  unfold there
  rw [if_neg (by simp [h]), turn_free ht]
  cases has n d.L <;> cases t <;> rfl
def On (d : Dk) : Prop := d.gone = false ∧ d.turns = -1
theorem on_put {d : Dk} (h : On d) (n : Bs) (f : File) : On (putD d n f) := h
theorem on_out {d : Dk} (h : On d) (n : Bs) : On (outD d n) := h
theorem on_there {d : Dk} (h : On d) (n : Bs) (t : Bool) : (there d n t).2.1 = d := by
  rw [there_free h.1 h.2]; split <;> rfl
theorem on_rename {d : Dk} (h : On d) (a b : Bs) : On (rename d a b).1 := by
  unfold rename
  split; · exact h
  split; · exact h
  split
  · rw [on_there h]; exact on_put (on_out h _) _ _
  · show On (there d a true).2.1
    rw [on_there h]; exact h
theorem read_on {d d' : Dk} (h : On d) (h' : On d') {m : Bs} (e : get? m d'.L = get? m d.L) : read d' m = read d m := by
  rw [read_at h.1, read_at h'.1, e]
theorem Clean.isOn {d : Dk} (c : Clean d) : On d := ⟨c.on, c.free⟩
theorem law_moves {d : Dk} (c : Clean d) (a b : Bs) (hab : a ≠ b) :
    ((rename d a b).2 ≠ 0 → read (rename d a b).1 a = read d a) ∧
    ((rename d a b).2 = 0 → read (rename d a b).1 b = ((read d a).1, 0) ∧ (read (rename d a b).1 a).2 = 6 ∧
      ((read d b).2 ≠ 0 → (rename (rename d a b).1 b a).2 = 0 ∧ read (rename (rename d a b).1 b a).1 a = ((read d a).1, 0) ∧ (rename (rename d a b).1 b a).1.used = d.used)) := by
  have hon := c.isOn
  have hon1 := on_rename hon a b
  have hon2 := on_rename hon1 b a
  obtain ⟨r1, r2, r3⟩ := rename_get? c.toGood a b
  have g1 := good_rename c.toGood a b
  refine ⟨fun h => read_on hon hon1 (by rw [r3 h]), fun h => ?_⟩
  obtain ⟨q1, q2, q3⟩ := r2 h
  have hA := has_some q3
  have hw : (read d a).1 = (get a d.L).1 := by rw [read_at c.on, hA]
  refine ⟨by rw [read_at hon1.1, q1, hw], by rw [read_at hon1.1, q2 hab], fun hb => ?_⟩
  have hbn : get? b d.L = none := by
    cases e : get? b d.L with
    | none => rfl
    | some f => rw [read_at c.on, e] at hb; simp at hb
  have hna : nameOk a = true := c.names _ ((get?_mem c.sorted).1 hA)
  have hasb : has b (rename d a b).1.L = true := by rw [has_get?, q1]; rfl
  have hgb : get b (rename d a b).1.L = get a d.L := get_some q1
  have hga : get a (rename d a b).1.L = ([], 0) := get_none (q2 hab)
  have e0 : ∀ d1 : Dk, On d1 → has b d1.L = true → get b d1.L = get a d.L → rename d1 b a = (putD (outD d1 b) a (get a d.L), 0) := fun d1 o1 o2 o3 => by
    unfold rename
    rw [there_free o1.1 o1.2, there_free o1.1 o1.2, if_pos o2, o3]
    simp [hna]
  have e2 := e0 _ hon1 hasb hgb
  have e1 : (rename d a b).1 = putD (outD d a) b (get a d.L) := by
    have hx : ¬ (rename d a b).2 ≠ 0 := by simpa using h
    unfold rename at hx ⊢
    rw [there_free hon.1 hon.2, there_free hon.1 hon.2, if_pos q3] at hx ⊢
    simp only [ne_eq, not_true_eq_false, if_false] at hx ⊢
    by_cases hb' : nameOk b = false
    · rw [if_pos hb'] at hx; simp at hx
    · rw [if_neg hb']; rfl
  refine ⟨by rw [e2], ?_, ?_⟩
  · rw [read_at hon2.1, e2]
    rw [(put_get? (good_out (n := b) g1) a (get a d.L)).1, hw]
  · rw [e2]
    show (rename d a b).1.used - ((get b (rename d a b).1.L).1.length : Int) + (((get a d.L).1.length : Int) - (get a (del b (rename d a b).1.L)).1.length) = d.used
    have z : get a (del b (rename d a b).1.L) = ([], 0) := get_none (by rw [get?_del_other g1.sorted hab]; exact q2 hab)
    have y : get b (del a d.L) = ([], 0) := get_none (by rw [get?_del_other c.sorted (Ne.symm hab)]; exact hbn)
    rw [z, hgb]
    have : (rename d a b).1.used = d.used - ((get a d.L).1.length : Int) + (((get a d.L).1.length : Int) - (get b (del a d.L)).1.length) := by rw [e1]; rfl
    rw [this, y]; simp
end Go.Proofs.Ytdkmdicmipcifaa.Disk
