import Derived.Test.YtooomjcdlfdnmaaGreatDoorEntMore
import Derived.Test.YtooomjcdlfdnmaaGreatDoorEntShown
namespace Go.Proofs.YtooomjcdlfdnmaaGreatDoor.Ent
open Go Go.RowKit Go.Shelf Go.Proofs.YtooomjcdlfdnmaaGreatDoorW.PrintWords Go.Proofs.YtooomjcdlfdnmaaGreatDoorW.PrintLast Go.Proofs.YtooomjcdlfdnmaaGreatDoor.PA Go.Proofs.YtooomjcdlfdnmaaGreatDoor.Pure
set_option linter.unusedVariables false
set_option maxRecDepth 100000
set_option maxHeartbeats 4000000
abbrev mcs (m : S27) : Array Value := #[.string m.f0, .int .i64 m.f1, .string m.f2]
theorem m_cells {W : World} {D : Nat} {T : TypeId} {m : S27} (h : W.heap[D]? = some (.cells (mcs m) T (0, 0))) :
    W.cell? ⟨D, 0, none⟩ = some (.string m.f0) ∧ W.cell? ⟨D, 1, none⟩ = some (.int .i64 m.f1) ∧ W.cell? ⟨D, 2, none⟩ = some (.string m.f2) := by
  refine ⟨?_, ?_, ?_⟩ <;> simp [World.cell?, h]
theorem m_keep {W W' : World} {D : Nat} {o : Obj} (h : W.heap[D]? = some o) (hb : Below W.heap.size W W') : W'.heap[D]? = some o :=
  (hb.block _ (Array.getElem?_eq_some_iff.1 h).1).trans h
theorem gboxes (w : World) (a b : E6) (m : S27) (p q : EA) (T T' : TypeId) : (((w.alloc (.cells (ecs a p) T)).alloc (.cells (ecs b q) T)).alloc (.cells (mcs m) T')).heap[w.heap.size]? = some (.cells (ecs a p) T (0, 0)) ∧ (((w.alloc (.cells (ecs a p) T)).alloc (.cells (ecs b q) T)).alloc (.cells (mcs m) T')).heap[w.heap.size + 1]? = some (.cells (ecs b q) T (0, 0)) ∧ (((w.alloc (.cells (ecs a p) T)).alloc (.cells (ecs b q) T)).alloc (.cells (mcs m) T')).heap[w.heap.size + 1 + 1]? = some (.cells (mcs m) T' (0, 0)) := by
  obtain ⟨h0, h1⟩ := two_boxes w a b p q T
  have e : ((w.alloc (.cells (ecs a p) T)).alloc (.cells (ecs b q) T)).heap.size = w.heap.size + 1 + 1 := by simp
  refine ⟨(Below.heap_alloc _ _ _ (by rw [e]; omega)).trans h0, (Below.heap_alloc _ _ _ (by rw [e]; omega)).trans h1, ?_⟩
  have := World.alloc_heap_new ((w.alloc (.cells (ecs a p) T)).alloc (.cells (ecs b q) T)) (.cells (mcs m) T')
  rwa [e] at this
theorem light_one {W : World} (hG : GL W) (m : S27) {g : Nat} {T : TypeId} (h : W.heap[g]? = some (.cells (mcs m) T (0, 0))) : Calls Tryz.prog 15 #[.slice (some ⟨g, 0, none⟩) 1 1] W fun e w' => e = .returned (.bool (lightV6 [m])) ∧ Below W.heap.size W w' :=
  (qb_light hG (l := [m]) (C_single h) (by simp)).at_ (Below.refl _ _)
theorem e_thaw {W : World} {D : Nat} {cs : Array Value} {T : TypeId} (h : W.heap[D]? = some (.cells cs T (0, 0))) (i : Nat) : W.frozen? ⟨D, i, none⟩ = false := by
  simp [World.frozen?, h]
theorem qb_fightsS {w : World} (hG : GL w) {a b : E6} {p q : EA} (ha : EC w a p) (hb : EC w b q) (sa : SmE a) (sb : SmE b) : QB w 18 #[.agg (ecs a p), .agg (ecs b q)] (.bool (fightsE a b)) := fun W hbW =>
  fights_calls (hG.below hbW) (ha.below hbW) (hb.below hbW) (by have := sa.l4; omega) (by have := sb.l5; omega) (by have := sa.l5; omega) (by have := sb.l4; omega)
theorem sm_more {a : E6} {m : S27} (sa : SmE a) (hl : a.f5.length ≤ 20) (hm : smS m) : SmE (moreE a m) :=
  ⟨sa.s0, sa.s1, sa.s2, sa.s3, sa.l4, sa.s4, by show (a.f5 ++ [m]).length ≤ 40; simp; omega, fun x hx => by
    rcases List.mem_append.1 (show x ∈ a.f5 ++ [m] from hx) with h | h
    · exact sa.s5 x h
    · rw [List.mem_singleton.1 h]; exact hm⟩
abbrev LawGives (w : World) (a b : E6) (m : S27) (p q : EA) : Prop := Calls Tryz.prog 3 #[.agg (ecs a p), .agg (ecs b q), .agg (mcs m)] w fun en w' => en = .returned (.bool true) ∧ Below w.heap.size w w'
theorem gives_f {w : World} (hG : GL w) {a b : E6} {m : S27} {p q : EA} (ha : EC w a p) (hb : EC w b q) (hsa : smallV6 a = false) : LawGives w a b m p q := by
  obtain ⟨z0, z1, z2⟩ := gboxes w a b m p q 25 27
  obtain ⟨W, hW⟩ : ∃ W, ((w.alloc (.cells (ecs a p) 25)).alloc (.cells (ecs b q) 25)).alloc (.cells (mcs m) 27) = W := ⟨_, rfl⟩
  have hbW : Below w.heap.size w W := by rw [← hW]; exact qab (qab (qab (Below.refl _ _) _) _) _
  rw [hW] at z0 z1 z2
  have hGW := hG.below hbW
  have H1 := Aside0.mk (show QB W 13 #[] (.bool true) from fun W' hb => shown_calls (hGW.below hb))
  have H2 := qb_small hGW (ha.below hbW)
  have H3 := qb_small hGW (hb.below hbW)
  have hl0 : ∀ (W' : World) (g : Nat) (T : TypeId), Below W.heap.size W W' → W'.heap[g]? = some (.cells (mcs m) T (0, 0)) → Calls Tryz.prog 15 #[.slice (some ⟨g, 0, none⟩) 1 1] W' fun e w' => e = .returned (.bool (lightV6 [m])) ∧ Below W'.heap.size W' w' := fun W' g T hb' hg => light_one (hGW.below hb') m hg
  rw [hsa] at H2
  have H2 := Aside0.mk H2
  obtain ⟨sb, hsb⟩ : ∃ s, smallV6 b = s := ⟨_, rfl⟩
  rw [hsb] at H3
  have H3 := Aside0.mk H3
  obtain ⟨sm, hsm⟩ : ∃ s, lightV6 [m] = s := ⟨_, rfl⟩
  rw [hsm] at hl0
  have H4 := Aside0.mk hl0
  obtain ⟨x0, x1, x2, x3, x4, x5⟩ := qap z0
  obtain ⟨y0, y1, y2, y3, y4, y5⟩ := qap z1
  obtain ⟨u0, u1, u2⟩ := m_cells z2
  have Z0 := Aside0.mk z0
  have Z1 := Aside0.mk z1
  have Z2 := Aside0.mk z2
  have HB := Aside0.mk hbW
  clear z0 z1 z2 hbW hGW hl0 hG ha hb hsa hsb hsm
  go_enter Tryz.func3, Tryz.ntmps3
  go_wp2_with (first
    | (go_at_call 15; refine (H4.out _ _ _ (qab g3.out _) (World.alloc_heap_new w3 _)).mono ?_; rintro en w4 ⟨rfl, h4⟩; have g4 := Aside0.mk ((qab g3.out _).trans (h4.mono (qab g3.out _).size)); clear h4 x0 x1 x2 x3 x4 x5 y0 y1 y2 y3 y4 y5 u0 u1 u2; obtain ⟨x0, x1, x2, x3, x4, x5⟩ := qap (m_keep Z0.out g4.out); obtain ⟨y0, y1, y2, y3, y4, y5⟩ := qap (m_keep Z1.out g4.out); obtain ⟨u0, u1, u2⟩ := m_cells (m_keep Z2.out g4.out))
    | (go_at_call 14; refine (H3.out.at_ g2.out).mono ?_; rintro en w3 ⟨rfl, h3⟩; have g3 := Aside0.mk h3; clear h3 x0 x1 x2 x3 x4 x5 y0 y1 y2 y3 y4 y5 u0 u1 u2; obtain ⟨x0, x1, x2, x3, x4, x5⟩ := qap (m_keep Z0.out g3.out); obtain ⟨y0, y1, y2, y3, y4, y5⟩ := qap (m_keep Z1.out g3.out); obtain ⟨u0, u1, u2⟩ := m_cells (m_keep Z2.out g3.out))
    | (go_at_call 14; refine (H2.out.at_ g1.out).mono ?_; rintro en w2 ⟨rfl, h2⟩; have g2 := Aside0.mk h2; clear h2 x0 x1 x2 x3 x4 x5 y0 y1 y2 y3 y4 y5 u0 u1 u2; obtain ⟨x0, x1, x2, x3, x4, x5⟩ := qap (m_keep Z0.out g2.out); obtain ⟨y0, y1, y2, y3, y4, y5⟩ := qap (m_keep Z1.out g2.out); obtain ⟨u0, u1, u2⟩ := m_cells (m_keep Z2.out g2.out))
    | (go_at_call 13; refine (H1.out.at_ (Below.refl _ _)).mono ?_; rintro en w1 ⟨rfl, h1⟩; have g1 := Aside0.mk h1; clear h1 x0 x1 x2 x3 x4 x5 y0 y1 y2 y3 y4 y5 u0 u1 u2; obtain ⟨x0, x1, x2, x3, x4, x5⟩ := qap (m_keep Z0.out g1.out); obtain ⟨y0, y1, y2, y3, y4, y5⟩ := qap (m_keep Z1.out g1.out); obtain ⟨u0, u1, u2⟩ := m_cells (m_keep Z2.out g1.out)))
  go_ret
  exact ⟨rfl, HB.out.trans (g4.out.mono HB.out.size)⟩
theorem gives_tf {w : World} (hG : GL w) {a b : E6} {m : S27} {p q : EA} (ha : EC w a p) (hb : EC w b q) (hsa : smallV6 a = true) (hsb : smallV6 b = false) : LawGives w a b m p q := by
  obtain ⟨z0, z1, z2⟩ := gboxes w a b m p q 25 27
  obtain ⟨W, hW⟩ : ∃ W, ((w.alloc (.cells (ecs a p) 25)).alloc (.cells (ecs b q) 25)).alloc (.cells (mcs m) 27) = W := ⟨_, rfl⟩
  have hbW : Below w.heap.size w W := by rw [← hW]; exact qab (qab (qab (Below.refl _ _) _) _) _
  rw [hW] at z0 z1 z2
  have hGW := hG.below hbW
  have H1 := Aside0.mk (show QB W 13 #[] (.bool true) from fun W' hb => shown_calls (hGW.below hb))
  have H2 := qb_small hGW (ha.below hbW)
  have H3 := qb_small hGW (hb.below hbW)
  have hl0 : ∀ (W' : World) (g : Nat) (T : TypeId), Below W.heap.size W W' → W'.heap[g]? = some (.cells (mcs m) T (0, 0)) → Calls Tryz.prog 15 #[.slice (some ⟨g, 0, none⟩) 1 1] W' fun e w' => e = .returned (.bool (lightV6 [m])) ∧ Below W'.heap.size W' w' := fun W' g T hb' hg => light_one (hGW.below hb') m hg
  rw [hsa] at H2
  have H2 := Aside0.mk H2
  rw [hsb] at H3
  have H3 := Aside0.mk H3
  obtain ⟨sm, hsm⟩ : ∃ s, lightV6 [m] = s := ⟨_, rfl⟩
  rw [hsm] at hl0
  have H4 := Aside0.mk hl0
  obtain ⟨x0, x1, x2, x3, x4, x5⟩ := qap z0
  obtain ⟨y0, y1, y2, y3, y4, y5⟩ := qap z1
  obtain ⟨u0, u1, u2⟩ := m_cells z2
  have Z0 := Aside0.mk z0
  have Z1 := Aside0.mk z1
  have Z2 := Aside0.mk z2
  have HB := Aside0.mk hbW
  clear z0 z1 z2 hbW hGW hl0 hG ha hb hsa hsb hsm
  go_enter Tryz.func3, Tryz.ntmps3
  go_wp2_with (first
    | (go_at_call 15; refine (H4.out _ _ _ (qab g3.out _) (World.alloc_heap_new w3 _)).mono ?_; rintro en w4 ⟨rfl, h4⟩; have g4 := Aside0.mk ((qab g3.out _).trans (h4.mono (qab g3.out _).size)); clear h4 x0 x1 x2 x3 x4 x5 y0 y1 y2 y3 y4 y5 u0 u1 u2; obtain ⟨x0, x1, x2, x3, x4, x5⟩ := qap (m_keep Z0.out g4.out); obtain ⟨y0, y1, y2, y3, y4, y5⟩ := qap (m_keep Z1.out g4.out); obtain ⟨u0, u1, u2⟩ := m_cells (m_keep Z2.out g4.out))
    | (go_at_call 14; refine (H3.out.at_ g2.out).mono ?_; rintro en w3 ⟨rfl, h3⟩; have g3 := Aside0.mk h3; clear h3 x0 x1 x2 x3 x4 x5 y0 y1 y2 y3 y4 y5 u0 u1 u2; obtain ⟨x0, x1, x2, x3, x4, x5⟩ := qap (m_keep Z0.out g3.out); obtain ⟨y0, y1, y2, y3, y4, y5⟩ := qap (m_keep Z1.out g3.out); obtain ⟨u0, u1, u2⟩ := m_cells (m_keep Z2.out g3.out))
    | (go_at_call 14; refine (H2.out.at_ g1.out).mono ?_; rintro en w2 ⟨rfl, h2⟩; have g2 := Aside0.mk h2; clear h2 x0 x1 x2 x3 x4 x5 y0 y1 y2 y3 y4 y5 u0 u1 u2; obtain ⟨x0, x1, x2, x3, x4, x5⟩ := qap (m_keep Z0.out g2.out); obtain ⟨y0, y1, y2, y3, y4, y5⟩ := qap (m_keep Z1.out g2.out); obtain ⟨u0, u1, u2⟩ := m_cells (m_keep Z2.out g2.out))
    | (go_at_call 13; refine (H1.out.at_ (Below.refl _ _)).mono ?_; rintro en w1 ⟨rfl, h1⟩; have g1 := Aside0.mk h1; clear h1 x0 x1 x2 x3 x4 x5 y0 y1 y2 y3 y4 y5 u0 u1 u2; obtain ⟨x0, x1, x2, x3, x4, x5⟩ := qap (m_keep Z0.out g1.out); obtain ⟨y0, y1, y2, y3, y4, y5⟩ := qap (m_keep Z1.out g1.out); obtain ⟨u0, u1, u2⟩ := m_cells (m_keep Z2.out g1.out)))
  go_ret
  exact ⟨rfl, HB.out.trans (g4.out.mono HB.out.size)⟩
theorem gives_ttf {w : World} (hG : GL w) {a b : E6} {m : S27} {p q : EA} (ha : EC w a p) (hb : EC w b q) (hsa : smallV6 a = true) (hsb : smallV6 b = true) (hsm : lightV6 [m] = false) : LawGives w a b m p q := by
  obtain ⟨z0, z1, z2⟩ := gboxes w a b m p q 25 27
  obtain ⟨W, hW⟩ : ∃ W, ((w.alloc (.cells (ecs a p) 25)).alloc (.cells (ecs b q) 25)).alloc (.cells (mcs m) 27) = W := ⟨_, rfl⟩
  have hbW : Below w.heap.size w W := by rw [← hW]; exact qab (qab (qab (Below.refl _ _) _) _) _
  rw [hW] at z0 z1 z2
  have hGW := hG.below hbW
  have H1 := Aside0.mk (show QB W 13 #[] (.bool true) from fun W' hb => shown_calls (hGW.below hb))
  have H2 := qb_small hGW (ha.below hbW)
  have H3 := qb_small hGW (hb.below hbW)
  have hl0 : ∀ (W' : World) (g : Nat) (T : TypeId), Below W.heap.size W W' → W'.heap[g]? = some (.cells (mcs m) T (0, 0)) → Calls Tryz.prog 15 #[.slice (some ⟨g, 0, none⟩) 1 1] W' fun e w' => e = .returned (.bool (lightV6 [m])) ∧ Below W'.heap.size W' w' := fun W' g T hb' hg => light_one (hGW.below hb') m hg
  rw [hsa] at H2
  have H2 := Aside0.mk H2
  rw [hsb] at H3
  have H3 := Aside0.mk H3
  rw [hsm] at hl0
  have H4 := Aside0.mk hl0
  obtain ⟨x0, x1, x2, x3, x4, x5⟩ := qap z0
  obtain ⟨y0, y1, y2, y3, y4, y5⟩ := qap z1
  obtain ⟨u0, u1, u2⟩ := m_cells z2
  have Z0 := Aside0.mk z0
  have Z1 := Aside0.mk z1
  have Z2 := Aside0.mk z2
  have HB := Aside0.mk hbW
  clear z0 z1 z2 hbW hGW hl0 hG ha hb hsa hsb hsm
  go_enter Tryz.func3, Tryz.ntmps3
  go_wp2_with (first
    | (go_at_call 15; refine (H4.out _ _ _ (qab g3.out _) (World.alloc_heap_new w3 _)).mono ?_; rintro en w4 ⟨rfl, h4⟩; have g4 := Aside0.mk ((qab g3.out _).trans (h4.mono (qab g3.out _).size)); clear h4 x0 x1 x2 x3 x4 x5 y0 y1 y2 y3 y4 y5 u0 u1 u2; obtain ⟨x0, x1, x2, x3, x4, x5⟩ := qap (m_keep Z0.out g4.out); obtain ⟨y0, y1, y2, y3, y4, y5⟩ := qap (m_keep Z1.out g4.out); obtain ⟨u0, u1, u2⟩ := m_cells (m_keep Z2.out g4.out))
    | (go_at_call 14; refine (H3.out.at_ g2.out).mono ?_; rintro en w3 ⟨rfl, h3⟩; have g3 := Aside0.mk h3; clear h3 x0 x1 x2 x3 x4 x5 y0 y1 y2 y3 y4 y5 u0 u1 u2; obtain ⟨x0, x1, x2, x3, x4, x5⟩ := qap (m_keep Z0.out g3.out); obtain ⟨y0, y1, y2, y3, y4, y5⟩ := qap (m_keep Z1.out g3.out); obtain ⟨u0, u1, u2⟩ := m_cells (m_keep Z2.out g3.out))
    | (go_at_call 14; refine (H2.out.at_ g1.out).mono ?_; rintro en w2 ⟨rfl, h2⟩; have g2 := Aside0.mk h2; clear h2 x0 x1 x2 x3 x4 x5 y0 y1 y2 y3 y4 y5 u0 u1 u2; obtain ⟨x0, x1, x2, x3, x4, x5⟩ := qap (m_keep Z0.out g2.out); obtain ⟨y0, y1, y2, y3, y4, y5⟩ := qap (m_keep Z1.out g2.out); obtain ⟨u0, u1, u2⟩ := m_cells (m_keep Z2.out g2.out))
    | (go_at_call 13; refine (H1.out.at_ (Below.refl _ _)).mono ?_; rintro en w1 ⟨rfl, h1⟩; have g1 := Aside0.mk h1; clear h1 x0 x1 x2 x3 x4 x5 y0 y1 y2 y3 y4 y5 u0 u1 u2; obtain ⟨x0, x1, x2, x3, x4, x5⟩ := qap (m_keep Z0.out g1.out); obtain ⟨y0, y1, y2, y3, y4, y5⟩ := qap (m_keep Z1.out g1.out); obtain ⟨u0, u1, u2⟩ := m_cells (m_keep Z2.out g1.out)))
  go_ret
  exact ⟨rfl, HB.out.trans (g4.out.mono HB.out.size)⟩
attribute [local go_sem high] eqA27
def gives8.T : Bool × List (List Nat × List Nat) := (true, [([], []), ([], []), ([1], [1]), ([0, 2], [0, 2]), ([], []), ([4], [4]), ([3, 5, 3], [3, 5]), ([0, 1, 2, 3, 4, 5, 6], []), ([7, 6, 6, 0, 1, 2, 3, 4, 5, 6], [6, 7])])
def gives8.B : List Nat := [0, 0, 2, 7, 0, 16, 63, 127, 255]
theorem gives8.tab : rtab .any (opsOf Tryz.f3 8) = gives8.T := by kernel_rfl
theorem gives8.bits : waitsOk gives8.T.2 gives8.B = true := by kernel_rfl
theorem gives_t {w : World} (hG : GL w) {a b : E6} {m : S27} {p q : EA} (ha : EC w a p) (hb : EC w b q) (hsa : smallV6 a = true) (hsb : smallV6 b = true) (hsm : lightV6 [m] = true) : LawGives w a b m p q := by
  obtain ⟨z0, z1, z2⟩ := gboxes w a b m p q 25 27
  obtain ⟨W, hW⟩ : ∃ W, ((w.alloc (.cells (ecs a p) 25)).alloc (.cells (ecs b q) 25)).alloc (.cells (mcs m) 27) = W := ⟨_, rfl⟩
  have hbW : Below w.heap.size w W := by rw [← hW]; exact qab (qab (qab (Below.refl _ _) _) _) _
  rw [hW] at z0 z1 z2
  have hGW := hG.below hbW
  have H1 := Aside0.mk (show QB W 13 #[] (.bool true) from fun W' hb => shown_calls (hGW.below hb))
  have H2 := qb_small hGW (ha.below hbW)
  have H3 := qb_small hGW (hb.below hbW)
  have hl0 : ∀ (W' : World) (g : Nat) (T : TypeId), Below W.heap.size W W' → W'.heap[g]? = some (.cells (mcs m) T (0, 0)) → Calls Tryz.prog 15 #[.slice (some ⟨g, 0, none⟩) 1 1] W' fun e w' => e = .returned (.bool (lightV6 [m])) ∧ Below W'.heap.size W' w' := fun W' g T hb' hg => light_one (hGW.below hb') m hg
  rw [hsa] at H2
  have H2 := Aside0.mk H2
  rw [hsb] at H3
  have H3 := Aside0.mk H3
  rw [hsm] at hl0
  have H4 := Aside0.mk hl0
  obtain ⟨x0, x1, x2, x3, x4, x5⟩ := qap z0
  obtain ⟨y0, y1, y2, y3, y4, y5⟩ := qap z1
  obtain ⟨u0, u1, u2⟩ := m_cells z2
  have Z0 := Aside0.mk z0
  have Z1 := Aside0.mk z1
  have Z2 := Aside0.mk z2
  have HB := Aside0.mk hbW
  have L5 := Aside0.mk (smallV6_true hsa).2
  have HA := Aside0.mk ha
  have HBq := Aside0.mk hb
  have HGG := Aside0.mk hGW
  have SM := Aside0.mk ((lightV6_true hsm).2 m List.mem_cons_self)
  have SA := Aside0.mk (smallV6_true hsa).1
  have SB := Aside0.mk (smallV6_true hsb).1
  clear z0 z1 z2 hbW hGW hl0 hG ha hb hsa hsb hsm
  go_enter Tryz.func3, Tryz.ntmps3
  go_wp2_with (first
    | (go_at_call 15; refine (H4.out _ _ _ (qab g3.out _) (World.alloc_heap_new w3 _)).mono ?_; rintro en w4 ⟨rfl, h4⟩; have g4 := Aside0.mk ((qab g3.out _).trans (h4.mono (qab g3.out _).size)); clear h4 x0 x1 x2 x3 x4 x5 y0 y1 y2 y3 y4 y5 u0 u1 u2; obtain ⟨x0, x1, x2, x3, x4, x5⟩ := qap (m_keep Z0.out g4.out); obtain ⟨y0, y1, y2, y3, y4, y5⟩ := qap (m_keep Z1.out g4.out); obtain ⟨u0, u1, u2⟩ := m_cells (m_keep Z2.out g4.out))
    | (go_at_call 14; refine (H3.out.at_ g2.out).mono ?_; rintro en w3 ⟨rfl, h3⟩; have g3 := Aside0.mk h3; clear h3 x0 x1 x2 x3 x4 x5 y0 y1 y2 y3 y4 y5 u0 u1 u2; obtain ⟨x0, x1, x2, x3, x4, x5⟩ := qap (m_keep Z0.out g3.out); obtain ⟨y0, y1, y2, y3, y4, y5⟩ := qap (m_keep Z1.out g3.out); obtain ⟨u0, u1, u2⟩ := m_cells (m_keep Z2.out g3.out))
    | (go_at_call 14; refine (H2.out.at_ g1.out).mono ?_; rintro en w2 ⟨rfl, h2⟩; have g2 := Aside0.mk h2; clear h2 x0 x1 x2 x3 x4 x5 y0 y1 y2 y3 y4 y5 u0 u1 u2; obtain ⟨x0, x1, x2, x3, x4, x5⟩ := qap (m_keep Z0.out g2.out); obtain ⟨y0, y1, y2, y3, y4, y5⟩ := qap (m_keep Z1.out g2.out); obtain ⟨u0, u1, u2⟩ := m_cells (m_keep Z2.out g2.out))
    | (go_at_call 13; refine (H1.out.at_ (Below.refl _ _)).mono ?_; rintro en w1 ⟨rfl, h1⟩; have g1 := Aside0.mk h1; clear h1 x0 x1 x2 x3 x4 x5 y0 y1 y2 y3 y4 y5 u0 u1 u2; obtain ⟨x0, x1, x2, x3, x4, x5⟩ := qap (m_keep Z0.out g1.out); obtain ⟨y0, y1, y2, y3, y4, y5⟩ := qap (m_keep Z1.out g1.out); obtain ⟨u0, u1, u2⟩ := m_cells (m_keep Z2.out g1.out)))
  have Z07 := Aside0.mk (m_keep (m_keep Z0.out g4.out) (qab (Below.refl _ _) (.cells (ecs a p) 25)))
  have Z17 := Aside0.mk (m_keep (m_keep Z1.out g4.out) (qab (Below.refl _ _) (.cells (ecs a p) 25)))
  have Z27 := Aside0.mk (m_keep (m_keep Z2.out g4.out) (qab (Below.refl _ _) (.cells (ecs a p) 25)))
  have C7 := Aside0.mk (World.alloc_heap_new w4 (.cells (ecs a p) 25))
  have HB7 := Aside0.mk (qab g4.out (.cells (ecs a p) 25))
  obtain ⟨D, hD⟩ : ∃ D, w4.heap.size = D := ⟨_, rfl⟩
  have HDlt := Aside0.mk (show W.heap.size ≤ D by rw [← hD]; exact g4.out.size)
  rw [hD] at C7
  simp only [hD]
  clear hD x0 x1 x2 x3 x4 x5 y0 y1 y2 y3 y4 y5 u0 u1 u2
  generalize w4.alloc (.cells (ecs a p) 25) = W7 at Z07 Z17 Z27 C7 HB7 ⊢
  obtain ⟨W8, hW8⟩ : ∃ W8, W7.drew = W8 := ⟨_, rfl⟩
  have HW8 : W8.heap = W7.heap := by rw [← hW8]; exact heap_drew' W7
  have Z08 := Aside0.mk (HW8 ▸ Z07.out)
  have Z18 := Aside0.mk (HW8 ▸ Z17.out)
  have Z28 := Aside0.mk (HW8 ▸ Z27.out)
  have C8 := Aside0.mk (HW8 ▸ C7.out)
  have HB8 := Aside0.mk (show Below W.heap.size W W8 by rw [← hW8]; exact below_drew HB7.out)
  have HR5 := Aside0.mk ((HA.out.below (HB.out.trans (HB8.out.mono HB.out.size))).r5)
  have HS := Aside0.mk (show ∀ w', Below W8.heap.size W8 w' → (w'.cell? ⟨w.heap.size, 5, none⟩ = some (.slice p.A5 a.f5.length p.c5) ∧ w'.cell? ⟨w.heap.size + 1 + 1, 0, none⟩ = some (.string m.f0) ∧ w'.cell? ⟨w.heap.size + 1 + 1, 1, none⟩ = some (.int .i64 m.f1) ∧ w'.cell? ⟨w.heap.size + 1 + 1, 2, none⟩ = some (.string m.f2)) from fun w' hb => ⟨(qap (m_keep Z08.out hb)).2.2.2.2.2, m_cells (m_keep Z28.out hb)⟩)
  clear HW8 Z07 Z17 Z27 C7 HB7
  skip
  refine start_ (n := 9) (S := fun w' => w'.cell? ⟨w.heap.size, 5, none⟩ = some (.slice p.A5 a.f5.length p.c5) ∧ w'.cell? ⟨w.heap.size + 1 + 1, 0, none⟩ = some (.string m.f0) ∧ w'.cell? ⟨w.heap.size + 1 + 1, 1, none⟩ = some (.int .i64 m.f1) ∧ w'.cell? ⟨w.heap.size + 1 + 1, 2, none⟩ = some (.string m.f2)) (ds := []) #[false, false, false, false, false, false, false, false, false] (by kernel_rfl) rfl rfl (by rw [hW8]; exact HS.out _ (Below.refl _ _)) (fun hHeld => ?_); refine with_tabW gives8.tab gives8.bits (fun HT_ HW_ => ?_)
  rw [hW8] at hHeld ⊢
  clear hW8
  refine pure_ (i := 1) (N := some 39) (v := ?_) (a' := ?_) #[false, true, false, false, false, false, false, false, false] rfl rfl (any_of HT_.out (by kernel_rfl)) (fun _ _ _ h => h) (Or.inl ⟨by rfl, ?_⟩) ?_ ?_
  rotate_left
  · intro w'
    go_simp
    (try with_reducible rfl)
  rotate_left
  · simp only [Act.put, List.setIfInBounds_toArray, List.set_cons_zero, List.set_cons_succ, i64_w, i32_w]
    rfl
  refine take_ (i := 2) (N := some 40) (v := ?_) (a' := ?_) #[false, true, true, false, false, false, false, false, false] rfl rfl (take_ofW HT_.out HW_.out (by kernel_rfl)) (fun _ _ _ h => h) (Or.inl ⟨by rfl, ?_⟩) hHeld ?_ ?_
  rotate_left
  · rintro w' ⟨s0, s1, s2, s3⟩
    go_simp
    (try with_reducible rfl)
  rotate_left
  · simp only [Act.put, List.setIfInBounds_toArray, List.set_cons_zero, List.set_cons_succ, i64_w, i32_w]
    rfl
  refine take_ (i := 4) (N := some 42) (v := ?_) (a' := ?_) #[false, true, true, false, true, false, false, false, false] rfl rfl (take_ofW HT_.out HW_.out (by kernel_rfl)) (fun _ _ _ h => h) (Or.inl ⟨by rfl, ?_⟩) hHeld ?_ ?_
  rotate_left
  · rintro w' ⟨s0, s1, s2, s3⟩
    go_simp
    (try with_reducible rfl)
  rotate_left
  · simp only [Act.put, List.setIfInBounds_toArray, List.set_cons_zero, List.set_cons_succ, i64_w, i32_w]
    rfl
  refine join_ (σ := Value × Value × Value) 3 #[true, true, true, true, true, true, false, false, false] (fun s_ => [(38, s_.1), (41, s_.2.1), (43, s_.2.2)]) (fun s_ w' => (w'.cell? ⟨w.heap.size, 5, none⟩ = some (.slice p.A5 a.f5.length p.c5) ∧ w'.cell? ⟨w.heap.size + 1 + 1, 0, none⟩ = some (.string m.f0) ∧ w'.cell? ⟨w.heap.size + 1 + 1, 1, none⟩ = some (.int .i64 m.f1) ∧ w'.cell? ⟨w.heap.size + 1 + 1, 2, none⟩ = some (.string m.f2)) ∧ KA.R 27 w' W8.heap.size (fun k_ => True ∧ some k_ ≠ (s_.2.2 : Value).ownBlock) s_.2.1 a.f5 ∧ KA.R 27 w' W8.heap.size (fun k_ => True ∧ some k_ ≠ (s_.2.1 : Value).ownBlock) s_.2.2 [m] ∧ Below W8.heap.size W8 w') ?_ ?_
  rotate_left
  · intro hCont
    refine two_ (i := 0) (j := 5) (Ni := some 38) (Nj := some 43) #[true, true, true, false, true, false, false, false, false] #[false, true, true, false, true, true, false, false, false] rfl rfl rfl rfl (two_of HT_.out (by kernel_rfl)) (by decide) (by decide) (fun K hK => ?_) (fun K hK => ?_)
    · refine Kd.R_lit_step KA _ 27 ?hg (N := 38) ?hd (xs := ([] : List S27)) (inner := []) (ok := fun _ => True) (okp := fun _ => True) ?hr ?hp (fun _ hk => hk) trivial (Below.refl _ _) (Nat.le_refl _) (by simp) ?_; (case hd => rfl); (case hg => rfl); (case hr => first | (go_simp; done) | (go_simp; rfl)); (case hp => exact (Reps.none _ _))
      intro v38 w1 ho hb hg_ hnew_
      clear hg_ hnew_
      have HO38 := Aside0.mk (Kd.R_lower ho (Nat.le_refl _))
      have HB1 := Aside0.mk hb
      clear ho hb
      refine hK.out _ _ (HS.out _ HB1.out) (fun hHeld => ?_)
      clear hK K
      refine norm_ (a' := ?_) ?_ ?_
      rotate_left
      · first | (show Act.put _ (some 38) _ = _; simp only [Act.put, List.setIfInBounds_toArray, List.set_cons_zero, List.set_cons_succ, i64_w, i32_w]; rfl) | rfl
      refine two_ (i := 3) (j := 5) (Ni := some 41) (Nj := some 43) #[true, true, true, true, true, false, false, false, false] #[true, true, true, false, true, true, false, false, false] rfl rfl rfl rfl (two_of HT_.out (by kernel_rfl)) (by decide) (by decide) (fun K hK => ?_) (fun K hK => ?_)
      · refine Kd.R_append_rows_step KA (w0 := W8) W8.heap.size (by rfl) (.tmp 38) (.tmp 40) 23 27 _ 40 rfl Tryz.underlying23 info27 rfl (by decide) (by omega) v38 [] a.f5 p.A5 a.f5.length p.c5 (fun _ => True) (fun _ => False) rfl rfl ?aO ?aR (fun _ _ h => h) (fun _ h => h.elim) ?aF ?aB ?aS ?aL ?_
        (case aO => exact HO38.out)
        (case aR => exact Kd.C_below HR5.out HB1.out)
        (case aF => exact (fun _ _ => trivial))
        (case aB => exact HB1.out)
        (case aS => exact HB1.out.size)
        (case aL => have := L5.out; simp; omega)
        intro v41 w2 ho hb hg hat
        rw [List.nil_append] at ho
        have HO41 := Aside0.mk ho
        have HB2 := Aside0.mk hb
        clear ho hb hg hat
        refine hK.out _ _ (HS.out _ HB2.out) (fun hHeld => ?_)
        clear hK K
        refine norm_ (a' := ?_) ?_ ?_
        rotate_left
        · first | (show Act.put _ (some 41) _ = _; simp only [Act.put, List.setIfInBounds_toArray, List.set_cons_zero, List.set_cons_succ, i64_w, i32_w]; rfl) | rfl
        refine one_ (i := 5) (N := some 43) #[true, true, true, true, true, true, false, false, false] rfl rfl (one_of HT_.out (by kernel_rfl)) (by decide) (fun K hK => ?_)
        refine Kd.R_lit_step KA _ 27 ?hg (N := 43) ?hd (xs := ([m] : List S27)) (inner := [.string m.f0, .int .i64 m.f1, .string m.f2]) (ok := fun _ => True) (okp := fun _ => True) ?hr ?hp (fun _ hk => hk) trivial (Below.refl _ _) (Nat.le_refl _) (by simp) ?_; (case hd => rfl); (case hg => rfl); (case hr => first | (go_simp; done) | (go_simp; rfl)); (case hp => exact (Reps.c3 (show Kd.M KA _ _ _ m [.string m.f0, .int .i64 m.f1, .string m.f2] from k27_mkM _ _ _ m) (Reps.none _ _)))
        intro v43 w3 ho hb hg_ hnew_
        clear hg_ hnew_
        have HO41' := Aside0.mk (Kd.R_elder' HO41.out (Kd.R_base ho) hb)
        have HO43 := Aside0.mk (Kd.R_lower (Kd.R_new' ho (Kd.R_lt HO41.out)) HB2.out.size)
        have HB3 := Aside0.mk (HB2.out.trans (hb.mono HB2.out.size))
        clear ho hb
        refine hK.out _ _ (HS.out _ HB3.out) (fun hHeld => ?_)
        clear hK K
        refine norm_ (a' := ?_) ?_ ?_
        rotate_left
        · first | (show Act.put _ (some 43) _ = _; simp only [Act.put, List.setIfInBounds_toArray, List.set_cons_zero, List.set_cons_succ, i64_w, i32_w]; rfl) | rfl
        exact norm_ (by simp only [putAll, Act.put, List.setIfInBounds_toArray, List.set_cons_zero, List.set_cons_succ]) (hCont (v38, v41, v43) _ ⟨hHeld, HO41'.out, HO43.out, HB3.out⟩)
      · refine Kd.R_lit_step KA _ 27 ?hg (N := 43) ?hd (xs := ([m] : List S27)) (inner := [.string m.f0, .int .i64 m.f1, .string m.f2]) (ok := fun _ => True) (okp := fun _ => True) ?hr ?hp (fun _ hk => hk) trivial (Below.refl _ _) (Nat.le_refl _) (by simp) ?_; (case hd => rfl); (case hg => rfl); (case hr => first | (go_simp; done) | (go_simp; rfl)); (case hp => exact (Reps.c3 (show Kd.M KA _ _ _ m [.string m.f0, .int .i64 m.f1, .string m.f2] from k27_mkM _ _ _ m) (Reps.none _ _)))
        intro v43 w2 ho hb hg_ hnew_
        clear hg_ hnew_
        have HO38' := Aside0.mk (Kd.R_elder' HO38.out (Kd.R_base ho) hb)
        have HO43 := Aside0.mk (Kd.R_lower (Kd.R_new' ho (Kd.R_lt HO38.out)) HB1.out.size)
        have HB2 := Aside0.mk (HB1.out.trans (hb.mono HB1.out.size))
        clear ho hb
        refine hK.out _ _ (HS.out _ HB2.out) (fun hHeld => ?_)
        clear hK K
        refine norm_ (a' := ?_) ?_ ?_
        rotate_left
        · first | (show Act.put _ (some 43) _ = _; simp only [Act.put, List.setIfInBounds_toArray, List.set_cons_zero, List.set_cons_succ, i64_w, i32_w]; rfl) | rfl
        refine one_ (i := 3) (N := some 41) #[true, true, true, true, true, true, false, false, false] rfl rfl (one_of HT_.out (by kernel_rfl)) (by decide) (fun K hK => ?_)
        refine Kd.R_append_rows_step KA (w0 := W8) W8.heap.size (by rfl) (.tmp 38) (.tmp 40) 23 27 _ 40 rfl Tryz.underlying23 info27 rfl (by decide) (by omega) v38 [] a.f5 p.A5 a.f5.length p.c5 (fun k_ => True ∧ some k_ ≠ (v43 : Value).ownBlock) (fun _ => False) rfl rfl ?aO ?aR (fun _ _ h => h) (fun _ h => h.elim) ?aF ?aB ?aS ?aL ?_
        (case aO => exact HO38'.out)
        (case aR => exact Kd.C_below HR5.out HB2.out)
        (case aF => exact (fun k_ hk => ⟨trivial, Kd.fresh' (Kd.R_lt HO43.out) k_ hk⟩))
        (case aB => exact HB2.out)
        (case aS => exact HB2.out.size)
        (case aL => have := L5.out; simp; omega)
        intro v41 w3 ho hb hg hat
        rw [List.nil_append] at ho
        have HO41 := Aside0.mk ho
        have HO43' := Aside0.mk (Kd.R_after HO43.out hg hat)
        have HB3 := Aside0.mk hb
        clear ho hb hg hat
        refine hK.out _ _ (HS.out _ HB3.out) (fun hHeld => ?_)
        clear hK K
        refine norm_ (a' := ?_) ?_ ?_
        rotate_left
        · first | (show Act.put _ (some 41) _ = _; simp only [Act.put, List.setIfInBounds_toArray, List.set_cons_zero, List.set_cons_succ, i64_w, i32_w]; rfl) | rfl
        exact norm_ (by simp only [putAll, Act.put, List.setIfInBounds_toArray, List.set_cons_zero, List.set_cons_succ]) (hCont (v38, v41, v43) _ ⟨hHeld, HO41.out, HO43'.out, HB3.out⟩)
    · refine Kd.R_lit_step KA _ 27 ?hg (N := 43) ?hd (xs := ([m] : List S27)) (inner := [.string m.f0, .int .i64 m.f1, .string m.f2]) (ok := fun _ => True) (okp := fun _ => True) ?hr ?hp (fun _ hk => hk) trivial (Below.refl _ _) (Nat.le_refl _) (by simp) ?_; (case hd => rfl); (case hg => rfl); (case hr => first | (go_simp; done) | (go_simp; rfl)); (case hp => exact (Reps.c3 (show Kd.M KA _ _ _ m [.string m.f0, .int .i64 m.f1, .string m.f2] from k27_mkM _ _ _ m) (Reps.none _ _)))
      intro v43 w1 ho hb hg_ hnew_
      clear hg_ hnew_
      have HO43_ := Aside0.mk (Kd.R_lower ho (Nat.le_refl _))
      have HB1 := Aside0.mk hb
      clear ho hb
      refine hK.out _ _ (HS.out _ HB1.out) (fun hHeld => ?_)
      clear hK K
      refine norm_ (a' := ?_) ?_ ?_
      rotate_left
      · first | (show Act.put _ (some 43) _ = _; simp only [Act.put, List.setIfInBounds_toArray, List.set_cons_zero, List.set_cons_succ, i64_w, i32_w]; rfl) | rfl
      refine one_ (i := 0) (N := some 38) #[true, true, true, false, true, true, false, false, false] rfl rfl (one_of HT_.out (by kernel_rfl)) (by decide) (fun K hK => ?_)
      refine Kd.R_lit_step KA _ 27 ?hg (N := 38) ?hd (xs := ([] : List S27)) (inner := []) (ok := fun _ => True) (okp := fun _ => True) ?hr ?hp (fun _ hk => hk) trivial (Below.refl _ _) (Nat.le_refl _) (by simp) ?_; (case hd => rfl); (case hg => rfl); (case hr => first | (go_simp; done) | (go_simp; rfl)); (case hp => exact (Reps.none _ _))
      intro v38 w2 ho hb hg_ hnew_
      clear hg_ hnew_
      have HO43 := Aside0.mk (Kd.R_elder' HO43_.out (Kd.R_base ho) hb)
      have HO38' := Aside0.mk (Kd.R_lower (Kd.R_new' ho (Kd.R_lt HO43_.out)) HB1.out.size)
      have HB2 := Aside0.mk (HB1.out.trans (hb.mono HB1.out.size))
      clear ho hb
      refine hK.out _ _ (HS.out _ HB2.out) (fun hHeld => ?_)
      clear hK K
      refine norm_ (a' := ?_) ?_ ?_
      rotate_left
      · first | (show Act.put _ (some 38) _ = _; simp only [Act.put, List.setIfInBounds_toArray, List.set_cons_zero, List.set_cons_succ, i64_w, i32_w]; rfl) | rfl
      refine one_ (i := 3) (N := some 41) #[true, true, true, true, true, true, false, false, false] rfl rfl (one_of HT_.out (by kernel_rfl)) (by decide) (fun K hK => ?_)
      refine Kd.R_append_rows_step KA (w0 := W8) W8.heap.size (by rfl) (.tmp 38) (.tmp 40) 23 27 _ 40 rfl Tryz.underlying23 info27 rfl (by decide) (by omega) v38 [] a.f5 p.A5 a.f5.length p.c5 (fun k_ => True ∧ some k_ ≠ (v43 : Value).ownBlock) (fun _ => False) rfl rfl ?aO ?aR (fun _ _ h => h) (fun _ h => h.elim) ?aF ?aB ?aS ?aL ?_
      (case aO => exact HO38'.out)
      (case aR => exact Kd.C_below HR5.out HB2.out)
      (case aF => exact (fun k_ hk => ⟨trivial, Kd.fresh' (Kd.R_lt HO43.out) k_ hk⟩))
      (case aB => exact HB2.out)
      (case aS => exact HB2.out.size)
      (case aL => have := L5.out; simp; omega)
      intro v41 w3 ho hb hg hat
      rw [List.nil_append] at ho
      have HO41 := Aside0.mk ho
      have HO43' := Aside0.mk (Kd.R_after HO43.out hg hat)
      have HB3 := Aside0.mk hb
      clear ho hb hg hat
      refine hK.out _ _ (HS.out _ HB3.out) (fun hHeld => ?_)
      clear hK K
      refine norm_ (a' := ?_) ?_ ?_
      rotate_left
      · first | (show Act.put _ (some 41) _ = _; simp only [Act.put, List.setIfInBounds_toArray, List.set_cons_zero, List.set_cons_succ, i64_w, i32_w]; rfl) | rfl
      exact norm_ (by simp only [putAll, Act.put, List.setIfInBounds_toArray, List.set_cons_zero, List.set_cons_succ]) (hCont (v38, v41, v43) _ ⟨hHeld, HO41.out, HO43'.out, HB3.out⟩)
  rintro ⟨v38, v41, v43⟩ w3 ⟨hHeld, h41, h43, hb3⟩
  have HO41 := Aside0.mk h41
  have HO43 := Aside0.mk h43
  have HB3 := Aside0.mk hb3
  clear h41 h43 hb3
  obtain ⟨A43, c43, rfl, hc43, hC43⟩ := Kd.R_reads HO43.out
  have HC43 := Aside0.mk hC43
  clear hC43 hc43
  refine norm_ (a' := ?_) ?_ ?_
  rotate_left
  · simp only [putAll, Act.put, List.setIfInBounds_toArray, List.set_cons_zero, List.set_cons_succ]
    rfl
  refine one_ (i := 6) (N := some 44) #[true, true, true, true, true, true, true, false, false] rfl rfl (one_of HT_.out (by kernel_rfl)) (by decide) (fun K hK => ?_)
  refine Kd.R_append_rows_step KA (w0 := W8) W8.heap.size (by rfl) (.tmp 41) (.tmp 43) 23 27 _ 40 rfl Tryz.underlying23 info27 rfl (by decide) (by omega) v41 a.f5 [m] A43 1 c43 (fun k_ => True ∧ some k_ ≠ ((.slice A43 [m].length c43 : Value)).ownBlock) (fun _ => False) rfl rfl ?aO ?aR (fun _ _ h => h) (fun _ h => h.elim) ?aF ?aB ?aS ?aL ?_
  (case aO => exact HO41.out)
  (case aR => exact HC43.out)
  (case aF => exact (fun k_ hk => ⟨trivial, Kd.fresh' (Kd.R_lt HO43.out) k_ hk⟩))
  (case aB => exact HB3.out)
  (case aS => exact HB3.out.size)
  (case aL => have := L5.out; simp; omega)
  intro v44 w4 ho hb hg hat
  obtain ⟨A44, c44, rfl, hc44, _⟩ := Kd.R_reads ho
  have HO44 := Aside0.mk ho
  have HB4 := Aside0.mk hb
  clear ho hb hg hat
  refine hK.out _ _ (HS.out _ HB4.out) (fun hHeld => ?_)
  clear hK K
  refine norm_ (a' := ?_) ?_ ?_
  rotate_left
  · first | (show Act.put _ (some 44) _ = _; simp only [Act.put, List.setIfInBounds_toArray, List.set_cons_zero, List.set_cons_succ, i64_w, i32_w]; rfl) | rfl
  refine pure_ (i := 7) (N := some 45) (v := ?_) (a' := ?_) #[true, true, true, true, true, true, true, true, false] rfl rfl (any_of HT_.out (by kernel_rfl)) (fun _ _ _ h => h) (Or.inl ⟨by rfl, ?_⟩) ?_ ?_
  rotate_left
  · intro w'
    go_simp
    (try with_reducible rfl)
  rotate_left
  · simp only [Act.put, List.setIfInBounds_toArray, List.set_cons_zero, List.set_cons_succ, i64_w, i32_w]
    rfl
  refine one_ (i := 8) (N := none) #[true, true, true, true, true, true, true, true, true] rfl rfl (one_of HT_.out (by kernel_rfl)) (by decide) (fun K hK => ?_)
  rw [if_pos (by rfl)]
  have c4 := m_keep C8.out HB4.out
  obtain ⟨k0, k1, k2, k3, k4, k5⟩ := qap c4
  have f5 := e_thaw c4 5
  have C4 := Aside0.mk c4
  clear c4
  go_simp
  have hnn : (a.f5 ++ [m]).length = a.f5.length + 1 := by simp
  obtain ⟨W9, hW9⟩ : ∃ W9, w4.setCell ⟨D, 5, none⟩ (.slice A44 (a.f5.length + 1) c44) = W9 := ⟨_, rfl⟩
  have hDl : D < W8.heap.size := (Array.getElem?_eq_some_iff.1 C8.out).1
  have hWl := HDlt.out
  have hW3 : W.heap.size = w.heap.size + 3 := by rw [← hW]; simp
  have hset : ∀ k, k ≠ D → W9.heap[k]? = w4.heap[k]? := fun k hk => by rw [← hW9]; exact Below.heap_setCell _ _ _ _ hk
  have hC44 : KA.C W9 A44 (a.f5 ++ [m]).length (a.f5 ++ [m]) := by
    have h := Kd.R_far (p := ⟨D, 5, none⟩) (Kd.R_bound HO44.out) (fun k hk => by have := hk.2.1; show k ≠ D; omega) (.slice A44 (a.f5.length + 1) c44)
    rw [hW9] at h
    obtain ⟨A', c', e', _, hC'⟩ := Kd.R_reads h
    injection e' with e1 e2 e3
    subst e1
    exact hC'
  have Z09 := Aside0.mk ((hset _ (by omega)).trans (m_keep Z08.out HB4.out))
  have Z19 := Aside0.mk ((hset _ (by omega)).trans (m_keep Z18.out HB4.out))
  have Z29 := Aside0.mk ((hset _ (by omega)).trans (m_keep Z28.out HB4.out))
  have C9 : W9.heap[D]? = some (.cells (ecs (moreE a m) { p with A5 := A44, c5 := c44 }) 25 (0, 0)) := by
    rw [← hW9]
    simp [World.setCell, Array.getElem?_modify, C4.out, moreE]
  have C9 := Aside0.mk C9
  have HB9 : Below w.heap.size w W9 := by
    have h4 := HB.out.trans ((HB8.out.trans (HB4.out.mono HB8.out.size)).mono HB.out.size)
    rw [← hW9]
    exact h4.setCell (show w.heap.size ≤ D by omega) _
  have HB9' : Below W.heap.size W W9 := by
    have h4 := HB8.out.trans (HB4.out.mono HB8.out.size)
    rw [← hW9]
    exact h4.setCell (show W.heap.size ≤ D by omega) _
  have EA9 := Aside0.mk (HA.out.below HB9)
  have EB9 := Aside0.mk (HBq.out.below HB9)
  have EM9 := Aside0.mk (EC_more EA9.out hC44 hc44)
  have HG9 := Aside0.mk (HGG.out.below HB9')
  have HB9 := Aside0.mk HB9
  clear hDl hWl hset hC44 HB9' hnn
  simp only [hW9]
  refine hK.out _ _ ⟨(qap Z09.out).2.2.2.2.2, m_cells Z29.out⟩ (fun hHeld => ?_)
  clear hK K hHeld hW9 k0 k1 k2 k3 k4 k5 f5 hW3
  refine done_ (done_of HT_.out (by kernel_rfl)) ?_
  obtain ⟨x0, x1, x2, x3, x4, x5⟩ := qap Z09.out
  obtain ⟨y0, y1, y2, y3, y4, y5⟩ := qap Z19.out
  obtain ⟨u0, u1, u2⟩ := m_cells Z29.out
  obtain ⟨d0, d1, d2, d3, d4, d5⟩ := qap C9.out
  have HL5 : a.f5.length ≤ 100000000 := by have := L5.out; omega
  have H5 := Aside0.mk (gives_calls EA9.out HL5)
  clear HL5
  go_wp2_with (first
    | (go_at_call 16; refine (gives_calls (EM9.out.below q1.out) (show (moreE a m).f5.length ≤ 100000000 by have := L5.out; simp [moreE]; omega)).mono ?_; rintro en w6 ⟨v, rfl, hR, hb⟩; obtain ⟨A6, c6, rfl, hc6, hC6⟩ := Kd.R_reads hR; have R6 := Aside0.mk hC6; have K6 := Aside0.mk hc6; have q2 := Aside0.mk (q1.out.trans (hb.mono q1.out.size)); have R5 := Aside0.mk (Kd.C_below R5_.out hb); clear hR hb hC6 hc6 x0 x1 x2 x3 x4 x5 y0 y1 y2 y3 y4 y5 u0 u1 u2 d0 d1 d2 d3 d4 d5; obtain ⟨x0, x1, x2, x3, x4, x5⟩ := qap (m_keep Z09.out q2.out); obtain ⟨y0, y1, y2, y3, y4, y5⟩ := qap (m_keep Z19.out q2.out); obtain ⟨u0, u1, u2⟩ := m_cells (m_keep Z29.out q2.out); obtain ⟨d0, d1, d2, d3, d4, d5⟩ := qap (m_keep C9.out q2.out))
    | (go_at_call 16; refine H5.out.mono ?_; rintro en w5 ⟨v, rfl, hR, hb⟩; obtain ⟨A5, c5, rfl, hc5, hC5⟩ := Kd.R_reads hR; have R5_ := Aside0.mk hC5; have K5 := Aside0.mk hc5; have q1 := Aside0.mk hb; clear hR hb hC5 hc5 x0 x1 x2 x3 x4 x5 y0 y1 y2 y3 y4 y5 u0 u1 u2 d0 d1 d2 d3 d4 d5; obtain ⟨x0, x1, x2, x3, x4, x5⟩ := qap (m_keep Z09.out q1.out); obtain ⟨y0, y1, y2, y3, y4, y5⟩ := qap (m_keep Z19.out q1.out); obtain ⟨u0, u1, u2⟩ := m_cells (m_keep Z29.out q1.out); obtain ⟨d0, d1, d2, d3, d4, d5⟩ := qap (m_keep C9.out q1.out)))
  have hN := L5.out
  have e5 : (givesE a).length = a.f5.length + 1 := rfl
  have e6 : (givesE (moreE a m)).length = a.f5.length + 1 + 1 := by show (a.f5 ++ [m]).length + 1 = _; simp
  obtain ⟨ad5, c5_, rfl, _, hK5, hc5⟩ := Kd.C_get R5.out z27 (0 : Int) (by omega) (by rw [e5]; omega)
  obtain ⟨ad6, c6_, rfl, _, hK6, hc6⟩ := Kd.C_get R6.out z27 ((a.f5.length : Int) + 1) (by omega) (by rw [e6]; omega)
  have g5 : (givesE a).getD (0 : Int).toNat z27 = ⟨a.f0, 3, a.f1⟩ := rfl
  have g6 : (givesE (moreE a m)).getD ((a.f5.length : Int) + 1).toNat z27 = m := by
    rw [gives_more, show ((a.f5.length : Int) + 1).toNat = (givesE a).length by rw [e5]; omega, List.getD_eq_getElem?_getD, List.getElem?_append_right (Nat.le_refl _)]
    simp
  rw [g5] at hK5
  rw [g6] at hK6
  obtain rfl := k27_open hK5
  obtain rfl := k27_open hK6
  have t6 : ((a.f5.length : Int) + 1).toNat = a.f5.length + 1 := by omega
  rw [t6] at hc6
  obtain ⟨ka, hka⟩ := sameA_f (givesE a) (by rw [e5]; omega)
  have HSA := Aside0.mk (show ∀ n : Nat, Calls Tryz.prog 17 #[.slice (some ad6) (a.f5.length + 1) c6, .slice (some ad5) (a.f5.length + 1) c5] (w6.drewN n) fun e w' => e = .returned (.bool true) ∧ ∃ mm, w' = (w6.drewN n).drewN mm from fun n =>
    (keelsonlaw6_sameAtoms.calls ka (some ad6) c6 (givesE a) (some ad5) c5 (givesE a) true (w6.drewN n) ((HG9.out.below q2.out).drewN n) (Kd.C_drewN (C_prefix (m := m) R6.out) n) (by have := K6.out; rw [e5]; omega) (Kd.C_drewN R5.out n) (by have := K5.out; rw [e5]; omega) (hka ka (Nat.le_refl _))).mono fun _ _ h => ⟨h.1, h.2.out⟩)
  rw [e5] at K5
  rw [e6] at K6
  have k6 : a.f5.length + 1 ≤ c6 := by have := K6.out; omega
  simp only [e5, e6]
  have q5 : ad5.add 0 = ad5 := by simp [Addr.add]
  have v0 : w6.cell? ad5 = some (.string a.f0) := by have h := hc5 0 _ rfl; rw [show (0 : Int).toNat * KA.sz + 0 = 0 from rfl, q5] at h; exact h
  have v1 : w6.cell? ⟨ad5.block, ad5.off + 1, none⟩ = some (.int .i64 3) := by have h := hc5 1 _ rfl; rw [show (0 : Int).toNat * KA.sz + 1 = 0 + 1 from rfl, add_field _ _ 1 (by omega), q5] at h; exact h
  have v2 : w6.cell? ⟨ad5.block, ad5.off + 2, none⟩ = some (.string a.f1) := by have h := hc5 2 _ rfl; rw [show (0 : Int).toNat * KA.sz + 2 = 0 + 2 from rfl, add_field _ _ 2 (by omega), q5] at h; exact h
  have r0 : w6.cell? (ad6.add ((a.f5.length + 1) * 3)) = some (.string m.f0) := hc6 0 _ rfl
  have r1 : w6.cell? ⟨(ad6.add ((a.f5.length + 1) * 3)).block, (ad6.add ((a.f5.length + 1) * 3)).off + 1, none⟩ = some (.int .i64 m.f1) := by rw [← add_field _ _ 1 (by omega)]; exact hc6 1 _ rfl
  have r2 : w6.cell? ⟨(ad6.add ((a.f5.length + 1) * 3)).block, (ad6.add ((a.f5.length + 1) * 3)).off + 2, none⟩ = some (.string m.f2) := by rw [← add_field _ _ 2 (by omega)]; exact hc6 2 _ rfl
  have wr := IntWalk.i64_in ((a.f5.length : Int) + 1) (by omega)
  have wr2 := IntWalk.i64_in ((a.f5.length : Int) + 1 + 1) (by omega)
  clear q5 hc5 hc6 hK5 hK6 g5 g6 e5 e6 hka R5 R6 K5 K6
  go_quiet ((go_at_call 17; exact Calls.quiet_of (HSA.out _)))
  have hG6 := HG9.out.below q2.out
  have ea := EA9.out.below q2.out
  have eb := EB9.out.below q2.out
  have em := EM9.out.below q2.out
  have H6 := qb_fightsS hG6 ea eb SA.out SB.out
  have H7 := qb_fightsS hG6 em eb (sm_more SA.out L5.out SM.out) SB.out
  have H8 := qb_fightsS hG6 eb em SB.out (sm_more SA.out L5.out SM.out)
  have HQ := Aside0.mk (qaa (Below.refl w6.heap.size w6) nq)
  clear hN hG6 ea eb em HSA k6 v0 v1 v2 r0 r1 r2 wr wr2 t6
  obtain ⟨F, hF⟩ : ∃ F, fightsE a b = F := ⟨_, rfl⟩
  rw [hF] at H6
  have H6 := Aside0.mk H6
  cases F with
  | false =>
    clear hF H7 H8
    go_wp2_with (go_at_call 18; refine (H6.out.at_ HQ.out).mono ?_; rintro en w7 ⟨rfl, hb⟩; have q3 := Aside0.mk hb; clear hb)
    go_ret
    exact ⟨rfl, HB9.out.trans ((q2.out.trans (q3.out.mono q2.out.size)).mono HB9.out.size)⟩
  | true =>
    obtain ⟨f7, f8⟩ := fights_more m hF
    rw [f7] at H7
    rw [f8] at H8
    have H7 := Aside0.mk H7
    have H8 := Aside0.mk H8
    clear hF f7 f8
    go_wp2_with (first
      | (go_at_call 18; refine (H8.out.at_ q4.out).mono ?_; rintro en w9 ⟨rfl, hb⟩; have q5 := Aside0.mk hb; clear hb)
      | (go_at_call 18; refine (H7.out.at_ q3.out).mono ?_; rintro en w8 ⟨rfl, hb⟩; have q4 := Aside0.mk hb; clear hb x0 x1 x2 x3 x4 x5 y0 y1 y2 y3 y4 y5 d0 d1 d2 d3 d4 d5; obtain ⟨x0, x1, x2, x3, x4, x5⟩ := qap (m_keep (m_keep Z09.out q2.out) q4.out); obtain ⟨y0, y1, y2, y3, y4, y5⟩ := qap (m_keep (m_keep Z19.out q2.out) q4.out); obtain ⟨d0, d1, d2, d3, d4, d5⟩ := qap (m_keep (m_keep C9.out q2.out) q4.out))
      | (go_at_call 18; refine (H6.out.at_ HQ.out).mono ?_; rintro en w7 ⟨rfl, hb⟩; have q3 := Aside0.mk hb; clear hb x0 x1 x2 x3 x4 x5 y0 y1 y2 y3 y4 y5 u0 u1 u2 d0 d1 d2 d3 d4 d5; obtain ⟨x0, x1, x2, x3, x4, x5⟩ := qap (m_keep (m_keep Z09.out q2.out) q3.out); obtain ⟨y0, y1, y2, y3, y4, y5⟩ := qap (m_keep (m_keep Z19.out q2.out) q3.out); obtain ⟨d0, d1, d2, d3, d4, d5⟩ := qap (m_keep (m_keep C9.out q2.out) q3.out)))
    go_ret
    exact ⟨rfl, HB9.out.trans ((q2.out.trans (q5.out.mono q2.out.size)).mono HB9.out.size)⟩
theorem law_gives {w : World} (hG : GL w) {a b : E6} {p q : EA} (ha : EC w a p) (hb : EC w b q) {m0 : ByteArray} {m1 : Int} {m2 : ByteArray} : Calls Tryz.prog 3 #[.agg (ecs a p), .agg (ecs b q), .agg #[.string m0, .int .i64 m1, .string m2]] w fun en w' => en = .returned (.bool true) ∧ Below w.heap.size w w' := by
  show LawGives w a b ⟨m0, m1, m2⟩ p q
  cases hsa : smallV6 a with
  | false => exact gives_f hG ha hb hsa
  | true =>
  cases hsb : smallV6 b with
  | false => exact gives_tf hG ha hb hsa hsb
  | true =>
  cases hsm : lightV6 [(⟨m0, m1, m2⟩ : S27)] with
  | false => exact gives_ttf hG ha hb hsa hsb hsm
  | true => exact gives_t hG ha hb hsa hsb hsm
end Go.Proofs.YtooomjcdlfdnmaaGreatDoor.Ent
