import Derived.Test.YtdkmdicmipcifaaDiskModel
namespace Go.Proofs.Ytdkmdicmipcifaa.Disk
open Go
theorem get?_safe {n : Bs} {f : File} {d : Dk} (g : Good d) (h : get? n d.L = some f) : 0 ≤ f.2 ∧ f.2 ≤ f.1.length ∧ (f.1.length : Int) ≤ d.used := by
  have hm := (get?_mem g.sorted).1 h
  have h1 := g.safe _ hm
  have h2 := total_mem hm
  rw [g.used]; exact ⟨h1.1, h1.2, h2⟩
theorem get_safe {n : Bs} {d : Dk} (g : Good d) : 0 ≤ (get n d.L).2 ∧ (get n d.L).2 ≤ (get n d.L).1.length ∧ ((get n d.L).1.length : Int) ≤ d.used := by
  cases e : get? n d.L with
  | none => rw [get_none e]; refine ⟨by simp, by simp, ?_⟩; rw [g.used]; simpa using total_nonneg d.L
  | some f => rw [get_some e]; exact get?_safe g e
theorem Good.nonneg {d : Dk} (g : Good d) : 0 ≤ d.used := by rw [g.used]; exact total_nonneg _
theorem good_new {r : Int} (h0 : 0 ≤ r) (h1 : r ≤ 10000000) : Good (new r) :=
  ⟨List.Pairwise.nil, fun y h => by simp [new] at h, fun y h => by simp [new] at h, by simp [new, total], h0, h1, by simp [new], by simp [new]⟩
theorem good_turn {d : Dk} (g : Good d) : Good (turn d).1 := by
  unfold turn
  have := g.turns
  split
  · exact ⟨g.sorted, g.names, g.safe, g.used, g.fits, g.room, g.many, g.turns⟩
  · exact ⟨g.sorted, g.names, g.safe, g.used, g.fits, g.room, g.many, by simp only []; omega⟩
theorem turn_L (d : Dk) : (turn d).1.L = d.L ∧ (turn d).1.used = d.used ∧ (turn d).1.room = d.room := by
  unfold turn; split <;> exact ⟨rfl, rfl, rfl⟩
theorem turn_ok {d : Dk} (h : d.turns ≠ 0) : turn d = ({ d with turns := max (d.turns - 1) (-1) }, 0) := by unfold turn; rw [if_neg h]
theorem good_put {d : Dk} {n : Bs} {f : File} (g : Good d) (hn : nameOk n = true) (h0 : 0 ≤ f.2) (h1 : f.2 ≤ f.1.length) (hu : d.used + (f.1.length - (get n d.L).1.length) ≤ d.room) (hm : has n d.L = true ∨ d.L.length < 200) : Good (putD d n f) := by
  obtain ⟨t1, t2⟩ := total_put (n := n) (f := f) g.sorted
  refine ⟨sorted_put g.sorted, fun y hy => ?_, fun y hy => ?_, ?_, hu, g.room, ?_, g.turns⟩
  · rcases mem_put.1 hy with rfl | hy
    · exact hn
    · exact g.names y hy.1
  · rcases mem_put.1 hy with rfl | hy
    · exact ⟨h0, h1⟩
    · exact g.safe y hy.1
  · show _ = total (put n f d.L)
    rw [t1, ← g.used]; rfl
  · show (put n f d.L).length ≤ 200
    have := g.many
    rw [t2]
    rcases hm with h | h
    · rw [if_pos h]; exact this
    · split <;> omega
theorem good_out {d : Dk} {n : Bs} (g : Good d) : Good (outD d n) := by
  obtain ⟨t1, t2⟩ := total_del (n := n) g.sorted
  refine ⟨sorted_del g.sorted, fun y hy => g.names y (mem_del.1 hy).1, fun y hy => g.safe y (mem_del.1 hy).1, ?_, ?_, g.room, ?_, g.turns⟩
  · show _ = total (del n d.L)
    rw [t1, ← g.used]; rfl
  · show d.used - _ ≤ d.room
    have := g.fits; omega
  · have := g.many
    show (del n d.L).length ≤ 200
    omega
theorem good_append {d : Dk} (g : Good d) (n s : Bs) : Good (append d n s).1 := by
  unfold append
  split; · exact g
  split; · exact g
  split; · exact g
  split; · exact g
  split; · exact good_turn g
  rename_i h1 h2 h3 h4 h5
  obtain ⟨e1, e2, e3⟩ := turn_L d
  have gs := get_safe (n := n) g
  refine good_put (good_turn g) (by simpa using h2) gs.1 ?_ ?_ ?_
  · show _ ≤ (((get n d.L).1 ++ s).length : Int)
    rw [List.length_append]; omega
  · rw [e1, e2, e3]
    show d.used + ((((get n d.L).1 ++ s).length : Int) - _) ≤ _
    rw [List.length_append]; omega
  · rw [e1]
    have := g.many
    cases h : has n d.L
    · right; simp [h] at h3; omega
    · left; rfl
theorem there_true {d : Dk} {n : Bs} (h : (there d n true).2.2 = 0) : d.gone = false ∧ has n d.L = true ∧ d.turns ≠ 0 ∧ there d n true = (get n d.L, { d with turns := max (d.turns - 1) (-1) }, 0) := by
  unfold there at *
  by_cases h1 : d.gone = true
  · rw [if_pos h1] at h; simp at h
  · rw [if_neg h1] at h ⊢
    by_cases h2 : has n d.L = false
    · rw [if_pos h2] at h; simp at h
    · rw [if_neg h2] at h ⊢
      rw [if_pos rfl] at h ⊢
      have ht : d.turns ≠ 0 := by
        intro ht; simp [turn, ht] at h
      rw [turn_ok ht]
      exact ⟨by simpa using h1, by simpa using h2, ht, rfl⟩
theorem there_good {d : Dk} (g : Good d) (n : Bs) (t : Bool) : Good (there d n t).2.1 := by
  unfold there
  split; · exact g
  split; · exact g
  split; · exact good_turn g
  exact g
theorem there_file (d : Dk) (n : Bs) : (there d n false).2.1 = d := by
  unfold there
  split; · rfl
  split; · rfl
  simp
theorem good_sync {d : Dk} (g : Good d) (n : Bs) : Good (sync d n).1 := by
  unfold sync
  split
  · rename_i h
    obtain ⟨h1, h2, h3, h4⟩ := there_true h
    have hg := there_good g n true
    rw [h4] at hg ⊢
    have hx : get? n d.L = some (get n d.L) := by
      rw [has_get?] at h2
      obtain ⟨f, hf⟩ := Option.isSome_iff_exists.1 h2
      rw [hf, get_some hf]
    have hn := g.names _ ((get?_mem g.sorted).1 hx)
    refine good_put hg hn (by simp) (by simp) ?_ (.inl h2)
    have := g.fits
    simp only []; omega
  · exact there_good g n true
theorem has_some {n : Bs} {l : FL} (h : has n l = true) : get? n l = some (get n l) := by
  rw [has_get?] at h
  obtain ⟨f, hf⟩ := Option.isSome_iff_exists.1 h
  rw [hf, get_some hf]
theorem has_none {n : Bs} {l : FL} (h : has n l = false) : get? n l = none := by
  rw [has_get?] at h
  cases e : get? n l with
  | none => rfl
  | some f => rw [e] at h; cases h
theorem good_rename {d : Dk} (g : Good d) (a b : Bs) : Good (rename d a b).1 := by
  unfold rename
  split; · exact g
  split; · exact g
  split
  · rename_i h0 hb h
    obtain ⟨h1, h2, h3, h4⟩ := there_true h
    have hg := there_good g a true
    rw [h4] at hg ⊢
    have hx := has_some h2
    have hs := get?_safe g hx
    have t := total_del (n := a) g.sorted
    have t' := del_split g.sorted hx
    have hm := g.many
    have hu := g.fits
    have ho := good_out (n := a) hg
    refine good_put ho (by simpa using hb) hs.1 hs.2.1 ?_ (.inr ?_)
    · show (d.used - ((get a d.L).1.length : Int)) + (_ - _) ≤ d.room
      simp only []; omega
    · show (del a d.L).length < 200
      omega
  · exact there_good g a true
theorem good_remove {d : Dk} (g : Good d) (n : Bs) : Good (remove d n).1 := by
  unfold remove
  split
  · rename_i h
    exact good_out (there_good g n true)
  · exact there_good g n true
theorem good_save3 {d : Dk} (g : Good d) (n s : Bs) : Good (save3 d n s).1 := by
  unfold save3
  have g1 := good_append g (n ++ [45]) s
  have g2 := good_sync g1 (n ++ [45])
  split; · exact g1
  split; · exact g2
  exact good_rename g2 _ _
theorem good_save {d : Dk} (g : Good d) (n s : Bs) : Good (save d n s).1 := by
  unfold save
  split; · exact g
  split; · exact g
  split
  · split
    · exact good_remove g _
    · exact good_save3 (good_remove g _) n s
  · exact good_save3 g n s
theorem good_limit {d : Dk} (g : Good d) {t : Int} (h : t ≤ 9223372036854775807) : Good (limit d t) :=
  ⟨g.sorted, g.names, g.safe, g.used, g.fits, g.room, g.many, by simp only [limit]; omega⟩
theorem cut_safe {f : File} (h0 : 0 ≤ f.2) (h1 : f.2 ≤ f.1.length) (left : List Int) : (cut left f).2 = (cut left f).1.length ∧ ((cut left f).1.length : Int) ≤ f.1.length ∧ 0 ≤ (cut left f).2 := by
  unfold cut
  simp only [List.length_take]
  omega
theorem crashL_names : ∀ (left : List Int) (l : FL), (crashL left l).map (·.1) = l.map (·.1)
  | _, [] => rfl
  | left, y :: r => by
    unfold crashL
    split
    · rw [List.map_cons, List.map_cons, crashL_names left r]
    · rw [List.map_cons, List.map_cons, crashL_names left.tail r]
theorem crashL_mem : ∀ {left : List Int} {l : FL}, (∀ y ∈ l, 0 ≤ y.2.2 ∧ y.2.2 ≤ y.2.1.length) → (∀ y ∈ crashL left l, y.2.2 = y.2.1.length) ∧ total (crashL left l) ≤ total l
  | _, [], _ => ⟨by simp [crashL], by simp [crashL]⟩
  | left, y :: r, h => by
    have hy := h y List.mem_cons_self
    have hr : ∀ y ∈ r, 0 ≤ y.2.2 ∧ y.2.2 ≤ y.2.1.length := fun z hz => h z (List.mem_cons_of_mem _ hz)
    unfold crashL
    split
    · rename_i e
      obtain ⟨i1, i2⟩ := crashL_mem (left := left) hr
      refine ⟨fun z hz => ?_, by rw [total_cons, total_cons]; omega⟩
      rcases List.mem_cons.1 hz with rfl | hz
      · omega
      · exact i1 z hz
    · obtain ⟨i1, i2⟩ := crashL_mem (left := left.tail) hr
      obtain ⟨c1, c2, c3⟩ := cut_safe hy.1 hy.2 left
      refine ⟨fun z hz => ?_, by rw [total_cons, total_cons]; simp only []; omega⟩
      rcases List.mem_cons.1 hz with rfl | hz
      · exact c1
      · exact i1 z hz
theorem sorted_map {l l' : FL} (h : l'.map (·.1) = l.map (·.1)) (hs : Sorted l) : Sorted l' := by
  unfold Sorted at *
  have h1 : (l.map (·.1)).Pairwise fun a b => bytesBefore a b = true := List.pairwise_map.2 hs
  rw [← h] at h1
  exact List.pairwise_map.1 h1
theorem good_crash {d : Dk} (g : Good d) (left : List Int) : Good (crash d left) := by
  have hn := crashL_names left d.L
  obtain ⟨i1, i2⟩ := crashL_mem (left := left) g.safe
  have hu := g.used
  have hf := g.fits
  refine ⟨sorted_map hn g.sorted, fun y hy => ?_, fun y hy => ?_, rfl, by simp only [crash]; omega, g.room, ?_, by simp [crash]⟩
  · have : y.1 ∈ (crashL left d.L).map (·.1) := List.mem_map_of_mem hy
    rw [hn] at this
    obtain ⟨z, hz, e⟩ := List.mem_map.1 this
    rw [← e]; exact g.names z hz
  · have := i1 y hy
    omega
  · have := congrArg List.length hn
    simp at this
    show (crashL left d.L).length ≤ 200
    rw [this]; exact g.many
end Go.Proofs.Ytdkmdicmipcifaa.Disk
