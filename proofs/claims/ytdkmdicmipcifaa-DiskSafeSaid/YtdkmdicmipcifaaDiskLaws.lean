import Derived.Test.YtdkmdicmipcifaaDiskGood
namespace Go.Proofs.Ytdkmdicmipcifaa.Disk
open Go
structure Clean (d : Dk) : Prop extends Good d where
  on : d.gone = false
  free : d.turns = -1
  synced : ∀ y ∈ d.L, y.2.2 = y.2.1.length
theorem clean_crash {d : Dk} (g : Good d) (left : List Int) : Clean (crash d left) :=
  { good_crash g left with on := rfl, free := rfl, synced := (crashL_mem (left := left) g.safe).1 }
theorem read_at {d : Dk} (h : d.gone = false) (n : Bs) : read d n = match get? n d.L with | some f => (f.1, 0) | none => ([], 6) := by
  unfold read there
  rw [if_neg (by simp [h]), has_get?]
  cases e : get? n d.L with
  | none => rfl
  | some f => simp [get_some e]
theorem crashL_synced : ∀ {left : List Int} {l : FL}, (∀ y ∈ l, y.2.2 = y.2.1.length) → crashL left l = l
  | _, [], _ => by simp [crashL]
  | left, y :: r, h => by
    have hy := h y List.mem_cons_self
    unfold crashL
    rw [if_pos (by omega), crashL_synced (fun z hz => h z (List.mem_cons_of_mem _ hz))]
theorem crashL_one {n : Bs} {f : File} (hf : (f.1.length : Int) - f.2 ≠ 0) : ∀ {left : List Int} {l : FL}, Sorted l → (∀ y ∈ l, y.1 ≠ n → y.2.2 = y.2.1.length) → get? n l = some f →
    get? n (crashL left l) = some (cut left f)
  | _, [], _, _, h => by simp [get?] at h
  | left, y :: r, hs, h, hg => by
    obtain ⟨h1, h2⟩ := List.pairwise_cons.1 hs
    unfold crashL
    by_cases hy : y.1 = n
    · rw [get?_hit r hy] at hg
      obtain rfl := Option.some.inj hg
      rw [if_neg hf, get?_hit _ (by exact hy)]
    · rw [get?_miss r hy] at hg
      rw [if_pos (by have := h y List.mem_cons_self hy; omega), get?_miss _ hy]
      exact crashL_one hf h2 (fun z hz => h z (List.mem_cons_of_mem _ hz)) hg
theorem crashL_keeps {n : Bs} : ∀ {left : List Int} {l : FL} {o : Option File}, get? n l = o → (∀ f, o = some f → f.2 = f.1.length) → get? n (crashL left l) = o
  | _, [], o, hg, _ => by rw [← hg]; simp [crashL]
  | left, y :: r, o, hg, hs => by
    unfold crashL
    by_cases hy : y.1 = n
    · rw [get?_hit r hy] at hg
      have := hs y.2 hg.symm
      rw [if_pos (by omega), get?_hit _ hy, hg]
    · rw [get?_miss r hy] at hg
      split
      · rw [get?_miss _ hy]; exact crashL_keeps hg hs
      · rw [get?_miss _ (by exact hy)]; exact crashL_keeps hg hs
theorem clean_get {d : Dk} (c : Clean d) {n : Bs} {f : File} (h : get? n d.L = some f) : f.2 = f.1.length := c.synced _ ((get?_mem c.sorted).1 h)
theorem put_get? {d : Dk} (g : Good d) (n : Bs) (f : File) : get? n (putD d n f).L = some f ∧ ∀ m, m ≠ n → get? m (putD d n f).L = get? m d.L :=
  ⟨get?_put n f g.sorted, fun _ h => get?_put_other f g.sorted h⟩
theorem append_get? {d : Dk} (g : Good d) (n s : Bs) : (∀ m, m ≠ n → get? m (append d n s).1.L = get? m d.L) ∧
    ((append d n s).2 = 0 → get? n (append d n s).1.L = some ((get n d.L).1 ++ s, (get n d.L).2)) ∧ ((append d n s).2 ≠ 0 → (append d n s).1.L = d.L) := by
  unfold append
  split; · exact ⟨fun _ _ => rfl, fun h => by simp at h, fun _ => rfl⟩
  split; · exact ⟨fun _ _ => rfl, fun h => by simp at h, fun _ => rfl⟩
  split; · exact ⟨fun _ _ => rfl, fun h => by simp at h, fun _ => rfl⟩
  split; · exact ⟨fun _ _ => rfl, fun h => by simp at h, fun _ => rfl⟩
  have hL := (turn_L d).1
  split
  · rename_i h; exact ⟨fun _ _ => by rw [hL], fun h' => absurd h' h, fun _ => hL⟩
  · obtain ⟨p1, p2⟩ := put_get? (good_turn g) n ((get n d.L).1 ++ s, (get n d.L).2)
    exact ⟨fun m hm => by rw [p2 m hm, hL], fun _ => p1, fun h => by simp at h⟩
theorem sync_get? {d : Dk} (g : Good d) (n : Bs) : (∀ m, m ≠ n → get? m (sync d n).1.L = get? m d.L) ∧
    ((sync d n).2 = 0 → get? n (sync d n).1.L = some ((get n d.L).1, ((get n d.L).1.length : Int))) ∧ ((sync d n).2 ≠ 0 → (sync d n).1.L = d.L) := by
  unfold sync
  split
  · rename_i h
    obtain ⟨h1, h2, h3, h4⟩ := there_true h
    rw [h4]
    obtain ⟨p1, p2⟩ := put_get? (by have := there_good g n true; rw [h4] at this; exact this) n ((get n d.L).1, (get n d.L).1.length)
    exact ⟨fun m hm => p2 m hm, fun _ => p1, fun h => by simp at h⟩
  · rename_i h
    have : (there d n true).2.1.L = d.L := by
      unfold there
      split; · rfl
      split; · rfl
      exact (turn_L d).1
    exact ⟨fun m hm => by rw [this], fun h' => absurd h' h, fun _ => this⟩
theorem law_safe {d : Dk} (c : Clean d) (n a b : Bs) (left : Int) (h1 : (append d n a).2 = 0) (h2 : (sync (append d n a).1 n).2 = 0) (h3 : (append (sync (append d n a).1 n).1 n b).2 = 0) :
    read (crash (append (sync (append d n a).1 n).1 n b).1 [left]) n = ((read d n).1 ++ a ++ b.take (max 0 (min left b.length)).toNat, 0) ∧
    read (crash (crash (append (sync (append d n a).1 n).1 n b).1 [left]) []) n = read (crash (append (sync (append d n a).1 n).1 n b).1 [left]) n := by
  obtain ⟨a1, a2, -⟩ := append_get? c.toGood n a
  have g1 := good_append c.toGood n a
  obtain ⟨b1, b2, -⟩ := sync_get? g1 n
  have g2 := good_sync g1 n
  obtain ⟨e1, e2, -⟩ := append_get? g2 n b
  have g3 := good_append g2 n b
  have a2 := a2 h1
  have b2 := b2 h2
  have e2 := e2 h3
  rw [get_some a2] at b2
  rw [get_some b2] at e2
  simp only [] at e2
  have hw : (read d n).1 = (get n d.L).1 := by
    rw [read_at c.on]
    cases e : get? n d.L with
    | none => rw [get_none e]
    | some f => rw [get_some e]
  have hcl : Clean (crash (append (sync (append d n a).1 n).1 n b).1 [left]) := clean_crash g3 _
  refine ⟨?_, ?_⟩
  · rw [read_at rfl, hw]
    show (match get? n (crashL [left] _) with | some f => (f.1, (0 : Int)) | none => ([], 6)) = _
    by_cases hb : b = []
    · subst hb
      rw [crashL_keeps e2 (fun f e => by cases e; simp)]
      simp
    · have hl : b.length ≠ 0 := fun h => hb (List.length_eq_zero_iff.1 h)
      rw [crashL_one (f := ((get n d.L).1 ++ a ++ b, ((get n d.L).1 ++ a).length)) (by simp only [List.length_append]; omega) g3.sorted (fun y hy hne => ?_) e2]
      · simp only [cut, List.headD_cons, List.length_append]
        congr 1
        rw [List.take_append, List.take_of_length_le (by simp only [List.length_append]; omega)]
        congr 2
        simp only [List.length_append]; omega
      · have hy' := (get?_mem (n := y.1) (f := y.2) g3.sorted).2 hy
        rw [e1 y.1 hne, b1 y.1 hne, a1 y.1 hne] at hy'
        exact clean_get c hy'
  · rw [read_at rfl, read_at hcl.on]
    show (match get? n (crashL [] _) with | some f => (f.1, (0 : Int)) | none => ([], 6)) = _
    rw [crashL_synced hcl.synced]
end Go.Proofs.Ytdkmdicmipcifaa.Disk
