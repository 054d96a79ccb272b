import Derived.Test.YtdkmdicmipcifaaDiskGood
namespace Go.Proofs.Ytdkmdicmipcifaa.Disk
open Go
structure Clean (d : Dk) : Prop extends Good d where
  on : d.gone = false
  free : d.turns = -1
  synced : ∀ y ∈ d.L, y.2.2 = y.2.1.length
theorem clean_crash {d : Dk} (g : Good d) (left : List Int) : Clean (crash d left) :=
  { good_crash g left with on := rfl, free := rfl, synced := (crashL_mem (left := left) g.safe).1 }
theorem read_at {d : Dk} (h : d.gone = false) (n : Bs) : read d n = match get? n d.L with | some f => (f.1, 0) | none => ([], 6) := by
  unfold read there
  rw [if_neg (by simp [h]), has_get?]
  cases e : get? n d.L with
  | none => rfl
  | some f => simp [get_some e]
theorem put_get? {d : Dk} (g : Good d) (n : Bs) (f : File) : get? n (putD d n f).L = some f ∧ ∀ m, m ≠ n → get? m (putD d n f).L = get? m d.L :=
  ⟨get?_put n f g.sorted, fun _ h => get?_put_other f g.sorted h⟩
theorem out_get? {d : Dk} (g : Good d) (n : Bs) : get? n (outD d n).L = none ∧ ∀ m, m ≠ n → get? m (outD d n).L = get? m d.L :=
  ⟨get?_del n g.sorted, fun _ h => get?_del_other g.sorted h⟩
theorem append_get? {d : Dk} (g : Good d) (n s : Bs) : (∀ m, m ≠ n → get? m (append d n s).1.L = get? m d.L) ∧
    ((append d n s).2 = 0 → get? n (append d n s).1.L = some ((get n d.L).1 ++ s, (get n d.L).2)) ∧ ((append d n s).2 ≠ 0 → (append d n s).1.L = d.L) := by
  unfold append
  split; · exact ⟨fun _ _ => rfl, fun h => by simp at h, fun _ => rfl⟩
  split; · exact ⟨fun _ _ => rfl, fun h => by simp at h, fun _ => rfl⟩
  split; · exact ⟨fun _ _ => rfl, fun h => by simp at h, fun _ => rfl⟩
  split; · exact ⟨fun _ _ => rfl, fun h => by simp at h, fun _ => rfl⟩
  have hL := (turn_L d).1
  split
  · rename_i h; exact ⟨fun _ _ => by rw [hL], fun h' => absurd h' h, fun _ => hL⟩
  · obtain ⟨p1, p2⟩ := put_get? (good_turn g) n ((get n d.L).1 ++ s, (get n d.L).2)
    exact ⟨fun m hm => by rw [p2 m hm, hL], fun _ => p1, fun h => by simp at h⟩
theorem sync_get? {d : Dk} (g : Good d) (n : Bs) : (∀ m, m ≠ n → get? m (sync d n).1.L = get? m d.L) ∧
    ((sync d n).2 = 0 → get? n (sync d n).1.L = some ((get n d.L).1, ((get n d.L).1.length : Int))) ∧ ((sync d n).2 ≠ 0 → (sync d n).1.L = d.L) := by
  unfold sync
  split
  · rename_i h
    obtain ⟨h1, h2, h3, h4⟩ := there_true h
    rw [h4]
    obtain ⟨p1, p2⟩ := put_get? (by have := there_good g n true; rw [h4] at this; exact this) n ((get n d.L).1, (get n d.L).1.length)
    exact ⟨fun m hm => p2 m hm, fun _ => p1, fun h => by simp at h⟩
  · rename_i h
    have : (there d n true).2.1.L = d.L := by
      unfold there
      split; · rfl
      split; · rfl
      exact (turn_L d).1
    exact ⟨fun m hm => by rw [this], fun h' => absurd h' h, fun _ => this⟩
theorem remove_get? {d : Dk} (g : Good d) (n : Bs) : (∀ m, m ≠ n → get? m (remove d n).1.L = get? m d.L) ∧ ((remove d n).2 = 0 → get? n (remove d n).1.L = none) := by
  unfold remove
  split
  · rename_i h
    obtain ⟨h1, h2, h3, h4⟩ := there_true h
    rw [h4]
    obtain ⟨p1, p2⟩ := out_get? (by have := there_good g n true; rw [h4] at this; exact this) n
    exact ⟨fun m hm => p2 m hm, fun _ => p1⟩
  · rename_i h
    have : (there d n true).2.1.L = d.L := by
      unfold there
      split; · rfl
      split; · rfl
      exact (turn_L d).1
    exact ⟨fun m hm => by rw [this], fun h' => absurd h' h⟩
theorem rename_get? {d : Dk} (g : Good d) (a b : Bs) : (∀ m, m ≠ a → m ≠ b → get? m (rename d a b).1.L = get? m d.L) ∧
    ((rename d a b).2 = 0 → get? b (rename d a b).1.L = some (get a d.L) ∧ (a ≠ b → get? a (rename d a b).1.L = none) ∧ has a d.L = true) ∧ ((rename d a b).2 ≠ 0 → (rename d a b).1.L = d.L) := by
  unfold rename
  split
  · rename_i h; exact ⟨fun _ _ _ => rfl, fun h' => absurd h' h, fun _ => rfl⟩
  split; · exact ⟨fun _ _ _ => rfl, fun h => by simp at h, fun _ => rfl⟩
  split
  · rename_i h
    obtain ⟨h1, h2, h3, h4⟩ := there_true h
    rw [h4]
    have hg : Good { d with turns := max (d.turns - 1) (-1) } := by have := there_good g a true; rw [h4] at this; exact this
    obtain ⟨p1, p2⟩ := out_get? hg a
    obtain ⟨q1, q2⟩ := put_get? (good_out (n := a) hg) b (get a d.L)
    refine ⟨fun m ha hb => by rw [q2 m hb, p2 m ha], fun _ => ⟨q1, fun hab => by rw [q2 a hab, p1], h2⟩, fun h => by simp at h⟩
  · rename_i h
    have : (there d a true).2.1.L = d.L := by
      unfold there
      split; · rfl
      split; · rfl
      exact (turn_L d).1
    exact ⟨fun m _ _ => by rw [this], fun h' => absurd h' h, fun _ => this⟩
theorem tilde_ne (n : Bs) : n ++ [45] ≠ n := fun h => by have := congrArg List.length h; simp at this
theorem save3_get? {d : Dk} (g : Good d) (n s : Bs) (hn : get? (n ++ [45]) d.L = none) :
    (∀ m, m ≠ n → m ≠ n ++ [45] → get? m (save3 d n s).1.L = get? m d.L) ∧ ((save3 d n s).2 = 0 → get? n (save3 d n s).1.L = some (s, (s.length : Int))) ∧ ((save3 d n s).2 ≠ 0 → get? n (save3 d n s).1.L = get? n d.L) := by
  have hne := tilde_ne n
  unfold save3
  obtain ⟨a1, a2, a3⟩ := append_get? g (n ++ [45]) s
  have g1 := good_append g (n ++ [45]) s
  split
  · rename_i h; exact ⟨fun m _ hm => a1 m hm, fun h' => absurd h' h, fun _ => a1 n hne.symm⟩
  rename_i h
  have h0 : (append d (n ++ [45]) s).2 = 0 := by simpa using h
  have a2 := a2 h0
  rw [get_none hn] at a2
  obtain ⟨b1, b2, b3⟩ := sync_get? g1 (n ++ [45])
  have g2 := good_sync g1 (n ++ [45])
  split
  · rename_i h'; exact ⟨fun m _ hm => by rw [b1 m hm, a1 m hm], fun h'' => absurd h'' h', fun _ => by rw [b1 n hne.symm, a1 n hne.symm]⟩
  rename_i h'
  have h1 : (sync (append d (n ++ [45]) s).1 (n ++ [45])).2 = 0 := by simpa using h'
  have b2 := b2 h1
  rw [get_some a2] at b2
  obtain ⟨c1, c2, c3⟩ := rename_get? g2 (n ++ [45]) n
  refine ⟨fun m h1 h2 => by rw [c1 m h2 h1, b1 m h2, a1 m h2], fun h => ?_, fun h => ?_⟩
  · rw [(c2 h).1, get_some b2]; rfl
  · rw [c3 h, b1 n hne.symm, a1 n hne.symm]
theorem save_get? {d : Dk} (g : Good d) (n s : Bs) :
    (∀ m, m ≠ n → m ≠ n ++ [45] → get? m (save d n s).1.L = get? m d.L) ∧ ((save d n s).2 = 0 → get? n (save d n s).1.L = some (s, (s.length : Int))) ∧ ((save d n s).2 ≠ 0 → get? n (save d n s).1.L = get? n d.L) := by
  have hne := tilde_ne n
  unfold save
  split; · exact ⟨fun _ _ _ => rfl, fun h => by simp at h, fun _ => rfl⟩
  split; · exact ⟨fun _ _ _ => rfl, fun h => by simp at h, fun _ => rfl⟩
  split
  · obtain ⟨r1, r2⟩ := remove_get? g (n ++ [45])
    split
    · rename_i h; exact ⟨fun m _ hm => r1 m hm, fun h' => absurd h' h, fun _ => r1 n hne.symm⟩
    · rename_i h
      obtain ⟨s1, s2, s3⟩ := save3_get? (good_remove g (n ++ [45])) n s (r2 (by simpa using h))
      exact ⟨fun m h1 h2 => by rw [s1 m h1 h2, r1 m h2], s2, fun h => by rw [s3 h, r1 n hne.symm]⟩
  · rename_i h; exact save3_get? g n s (has_none (by simpa using h))
theorem turn_free {d : Dk} (h : d.turns = -1) : turn d = (d, 0) := by
  unfold turn; rw [if_neg (by omega)]
  cases d; simp only at h; subst h; rfl
theorem there_free {d : Dk} (h : d.gone = false) (ht : d.turns = -1) (n : Bs) (t : Bool) : there d n t = if has n d.L = true then (get n d.L, d, 0) else (([], 0), d, 6) := by
  unfold there
  rw [if_neg (by simp [h]), turn_free ht]
  cases has n d.L <;> cases t <;> rfl
def On (d : Dk) : Prop := d.gone = false ∧ d.turns = -1
theorem on_put {d : Dk} (h : On d) (n : Bs) (f : File) : On (putD d n f) := h
theorem on_out {d : Dk} (h : On d) (n : Bs) : On (outD d n) := h
theorem on_there {d : Dk} (h : On d) (n : Bs) (t : Bool) : (there d n t).2.1 = d := by
  rw [there_free h.1 h.2]; split <;> rfl
theorem on_append {d : Dk} (h : On d) (n s : Bs) : On (append d n s).1 := by
  unfold append
  rw [turn_free h.2]
  split; · exact h
  split; · exact h
  split; · exact h
  split; · exact h
  split; · exact h
  exact on_put h _ _
theorem on_sync {d : Dk} (h : On d) (n : Bs) : On (sync d n).1 := by
  unfold sync
  split
  · rw [on_there h]; exact on_put h _ _
  · show On (there d n true).2.1
    rw [on_there h]; exact h
theorem on_remove {d : Dk} (h : On d) (n : Bs) : On (remove d n).1 := by
  unfold remove
  split
  · rw [on_there h]; exact on_out h _
  · show On (there d n true).2.1
    rw [on_there h]; exact h
theorem on_rename {d : Dk} (h : On d) (a b : Bs) : On (rename d a b).1 := by
  unfold rename
  split; · exact h
  split; · exact h
  split
  · rw [on_there h]; exact on_put (on_out h _) _ _
  · show On (there d a true).2.1
    rw [on_there h]; exact h
theorem on_save3 {d : Dk} (h : On d) (n s : Bs) : On (save3 d n s).1 := by
  unfold save3
  have h1 := on_append h (n ++ [45]) s
  have h2 := on_sync h1 (n ++ [45])
  split; · exact h1
  split; · exact h2
  exact on_rename h2 _ _
theorem on_save {d : Dk} (h : On d) (n s : Bs) : On (save d n s).1 := by
  unfold save
  split; · exact h
  split; · exact h
  split
  · split
    · exact on_remove h _
    · exact on_save3 (on_remove h _) n s
  · exact on_save3 h n s
theorem read_on {d d' : Dk} (h : On d) (h' : On d') {m : Bs} (e : get? m d'.L = get? m d.L) : read d' m = read d m := by
  rw [read_at h.1, read_at h'.1, e]
theorem Clean.isOn {d : Dk} (c : Clean d) : On d := ⟨c.on, c.free⟩
end Go.Proofs.Ytdkmdicmipcifaa.Disk
