import Derived.Test.YtooomjcdlfdnmaaGreatDoorEntSmall
import Derived.Test.YtooomjcdlfdnmaaGreatDoorEntShown
namespace Go.Proofs.YtooomjcdlfdnmaaGreatDoor.Ent
open Go Go.RowKit Go.Shelf Go.Proofs.YtooomjcdlfdnmaaGreatDoorW.PrintWords Go.Proofs.YtooomjcdlfdnmaaGreatDoor.PA Go.Proofs.YtooomjcdlfdnmaaGreatDoor.Pure
set_option linter.unusedVariables false
set_option maxRecDepth 100000
set_option maxHeartbeats 4000000
theorem three_boxes (w : World) (a b c : E6) (p q r : EA) (T : TypeId) : (((w.alloc (.cells (ecs a p) T)).alloc (.cells (ecs b q) T)).alloc (.cells (ecs c r) T)).heap[w.heap.size]? = some (.cells (ecs a p) T (0, 0)) ∧ (((w.alloc (.cells (ecs a p) T)).alloc (.cells (ecs b q) T)).alloc (.cells (ecs c r) T)).heap[w.heap.size + 1]? = some (.cells (ecs b q) T (0, 0)) ∧ (((w.alloc (.cells (ecs a p) T)).alloc (.cells (ecs b q) T)).alloc (.cells (ecs c r) T)).heap[w.heap.size + 1 + 1]? = some (.cells (ecs c r) T (0, 0)) := by
  obtain ⟨h0, h1⟩ := two_boxes w a b p q T
  have e : ((w.alloc (.cells (ecs a p) T)).alloc (.cells (ecs b q) T)).heap.size = w.heap.size + 1 + 1 := by simp
  refine ⟨(Below.heap_alloc _ _ _ (by rw [e]; omega)).trans h0, (Below.heap_alloc _ _ _ (by rw [e]; omega)).trans h1, ?_⟩
  have := World.alloc_heap_new ((w.alloc (.cells (ecs a p) T)).alloc (.cells (ecs b q) T)) (.cells (ecs c r) T)
  rwa [e] at this
abbrev LawLess (w : World) (a b c : E6) (p q r : EA) : Prop := Calls Tryz.prog 4 #[.agg (ecs a p), .agg (ecs b q), .agg (ecs c r)] w fun en w' => en = .returned (.bool true) ∧ Below w.heap.size w w'
theorem less_f {w : World} (hG : GL w) {a b c : E6} {p q r : EA} (ha : EC w a p) (hb : EC w b q) (hc : EC w c r) (hsa : smallV6 a = false) : LawLess w a b c p q r := by
  obtain ⟨z0, z1, z2⟩ := three_boxes w a b c p q r 25
  obtain ⟨W, hW⟩ : ∃ W, ((w.alloc (.cells (ecs a p) 25)).alloc (.cells (ecs b q) 25)).alloc (.cells (ecs c r) 25) = W := ⟨_, rfl⟩
  have hbW : Below w.heap.size w W := by rw [← hW]; exact qab (qab (qab (Below.refl _ _) _) _) _
  rw [hW] at z0 z1 z2
  have hGW := hG.below hbW
  have H1 := Aside0.mk (show QB W 13 #[] (.bool true) from fun W' hb => shown_calls (hGW.below hb))
  have H2 := qb_small hGW (ha.below hbW)
  have H3 := qb_small hGW (hb.below hbW)
  have H4 := qb_small hGW (hc.below hbW)
  rw [hsa] at H2
  have H2 := Aside0.mk H2
  obtain ⟨sb, hsb⟩ : ∃ s, smallV6 b = s := ⟨_, rfl⟩
  rw [hsb] at H3
  have H3 := Aside0.mk H3
  obtain ⟨sc, hsc⟩ : ∃ s, smallV6 c = s := ⟨_, rfl⟩
  rw [hsc] at H4
  have H4 := Aside0.mk H4
  obtain ⟨x0, x1, x2, x3, x4, x5⟩ := qai z0
  obtain ⟨y0, y1, y2, y3, y4, y5⟩ := qai z1
  obtain ⟨u0, u1, u2, u3, u4, u5⟩ := qai z2
  have Z0 := Aside0.mk z0
  have Z1 := Aside0.mk z1
  have Z2 := Aside0.mk z2
  have HB := Aside0.mk hbW
  clear z0 z1 z2 hbW hGW hG ha hb hc hsa hsb hsc
  go_enter Tryz.func4, Tryz.ntmps4
  go_wp2_with (first
    | (go_at_call 14; refine (H4.out.at_ g3.out).mono ?_; rintro en w4 ⟨rfl, h4⟩; have g4 := Aside0.mk h4; clear h4 x0 x1 x2 x3 x4 x5 y0 y1 y2 y3 y4 y5 u0 u1 u2 u3 u4 u5; obtain ⟨x0, x1, x2, x3, x4, x5⟩ := qai (qak Z0.out g4.out); obtain ⟨y0, y1, y2, y3, y4, y5⟩ := qai (qak Z1.out g4.out); obtain ⟨u0, u1, u2, u3, u4, u5⟩ := qai (qak Z2.out g4.out))
    | (go_at_call 14; refine (H3.out.at_ g2.out).mono ?_; rintro en w3 ⟨rfl, h3⟩; have g3 := Aside0.mk h3; clear h3 x0 x1 x2 x3 x4 x5 y0 y1 y2 y3 y4 y5 u0 u1 u2 u3 u4 u5; obtain ⟨x0, x1, x2, x3, x4, x5⟩ := qai (qak Z0.out g3.out); obtain ⟨y0, y1, y2, y3, y4, y5⟩ := qai (qak Z1.out g3.out); obtain ⟨u0, u1, u2, u3, u4, u5⟩ := qai (qak Z2.out g3.out))
    | (go_at_call 14; refine (H2.out.at_ g1.out).mono ?_; rintro en w2 ⟨rfl, h2⟩; have g2 := Aside0.mk h2; clear h2 x0 x1 x2 x3 x4 x5 y0 y1 y2 y3 y4 y5 u0 u1 u2 u3 u4 u5; obtain ⟨x0, x1, x2, x3, x4, x5⟩ := qai (qak Z0.out g2.out); obtain ⟨y0, y1, y2, y3, y4, y5⟩ := qai (qak Z1.out g2.out); obtain ⟨u0, u1, u2, u3, u4, u5⟩ := qai (qak Z2.out g2.out))
    | (go_at_call 13; refine (H1.out.at_ (Below.refl _ _)).mono ?_; rintro en w1 ⟨rfl, h1⟩; have g1 := Aside0.mk h1; clear h1 x0 x1 x2 x3 x4 x5 y0 y1 y2 y3 y4 y5 u0 u1 u2 u3 u4 u5; obtain ⟨x0, x1, x2, x3, x4, x5⟩ := qai (qak Z0.out g1.out); obtain ⟨y0, y1, y2, y3, y4, y5⟩ := qai (qak Z1.out g1.out); obtain ⟨u0, u1, u2, u3, u4, u5⟩ := qai (qak Z2.out g1.out)))
  go_ret
  exact ⟨rfl, HB.out.trans (g4.out.mono HB.out.size)⟩
theorem less_tf {w : World} (hG : GL w) {a b c : E6} {p q r : EA} (ha : EC w a p) (hb : EC w b q) (hc : EC w c r) (hsa : smallV6 a = true) (hsb : smallV6 b = false) : LawLess w a b c p q r := by
  obtain ⟨z0, z1, z2⟩ := three_boxes w a b c p q r 25
  obtain ⟨W, hW⟩ : ∃ W, ((w.alloc (.cells (ecs a p) 25)).alloc (.cells (ecs b q) 25)).alloc (.cells (ecs c r) 25) = W := ⟨_, rfl⟩
  have hbW : Below w.heap.size w W := by rw [← hW]; exact qab (qab (qab (Below.refl _ _) _) _) _
  rw [hW] at z0 z1 z2
  have hGW := hG.below hbW
  have H1 := Aside0.mk (show QB W 13 #[] (.bool true) from fun W' hb => shown_calls (hGW.below hb))
  have H2 := qb_small hGW (ha.below hbW)
  have H3 := qb_small hGW (hb.below hbW)
  have H4 := qb_small hGW (hc.below hbW)
  rw [hsa] at H2
  have H2 := Aside0.mk H2
  rw [hsb] at H3
  have H3 := Aside0.mk H3
  obtain ⟨sc, hsc⟩ : ∃ s, smallV6 c = s := ⟨_, rfl⟩
  rw [hsc] at H4
  have H4 := Aside0.mk H4
  obtain ⟨x0, x1, x2, x3, x4, x5⟩ := qai z0
  obtain ⟨y0, y1, y2, y3, y4, y5⟩ := qai z1
  obtain ⟨u0, u1, u2, u3, u4, u5⟩ := qai z2
  have Z0 := Aside0.mk z0
  have Z1 := Aside0.mk z1
  have Z2 := Aside0.mk z2
  have HB := Aside0.mk hbW
  clear z0 z1 z2 hbW hGW hG ha hb hc hsa hsb hsc
  go_enter Tryz.func4, Tryz.ntmps4
  go_wp2_with (first
    | (go_at_call 14; refine (H4.out.at_ g3.out).mono ?_; rintro en w4 ⟨rfl, h4⟩; have g4 := Aside0.mk h4; clear h4 x0 x1 x2 x3 x4 x5 y0 y1 y2 y3 y4 y5 u0 u1 u2 u3 u4 u5; obtain ⟨x0, x1, x2, x3, x4, x5⟩ := qai (qak Z0.out g4.out); obtain ⟨y0, y1, y2, y3, y4, y5⟩ := qai (qak Z1.out g4.out); obtain ⟨u0, u1, u2, u3, u4, u5⟩ := qai (qak Z2.out g4.out))
    | (go_at_call 14; refine (H3.out.at_ g2.out).mono ?_; rintro en w3 ⟨rfl, h3⟩; have g3 := Aside0.mk h3; clear h3 x0 x1 x2 x3 x4 x5 y0 y1 y2 y3 y4 y5 u0 u1 u2 u3 u4 u5; obtain ⟨x0, x1, x2, x3, x4, x5⟩ := qai (qak Z0.out g3.out); obtain ⟨y0, y1, y2, y3, y4, y5⟩ := qai (qak Z1.out g3.out); obtain ⟨u0, u1, u2, u3, u4, u5⟩ := qai (qak Z2.out g3.out))
    | (go_at_call 14; refine (H2.out.at_ g1.out).mono ?_; rintro en w2 ⟨rfl, h2⟩; have g2 := Aside0.mk h2; clear h2 x0 x1 x2 x3 x4 x5 y0 y1 y2 y3 y4 y5 u0 u1 u2 u3 u4 u5; obtain ⟨x0, x1, x2, x3, x4, x5⟩ := qai (qak Z0.out g2.out); obtain ⟨y0, y1, y2, y3, y4, y5⟩ := qai (qak Z1.out g2.out); obtain ⟨u0, u1, u2, u3, u4, u5⟩ := qai (qak Z2.out g2.out))
    | (go_at_call 13; refine (H1.out.at_ (Below.refl _ _)).mono ?_; rintro en w1 ⟨rfl, h1⟩; have g1 := Aside0.mk h1; clear h1 x0 x1 x2 x3 x4 x5 y0 y1 y2 y3 y4 y5 u0 u1 u2 u3 u4 u5; obtain ⟨x0, x1, x2, x3, x4, x5⟩ := qai (qak Z0.out g1.out); obtain ⟨y0, y1, y2, y3, y4, y5⟩ := qai (qak Z1.out g1.out); obtain ⟨u0, u1, u2, u3, u4, u5⟩ := qai (qak Z2.out g1.out)))
  go_ret
  exact ⟨rfl, HB.out.trans (g4.out.mono HB.out.size)⟩
theorem less_ttf {w : World} (hG : GL w) {a b c : E6} {p q r : EA} (ha : EC w a p) (hb : EC w b q) (hc : EC w c r) (hsa : smallV6 a = true) (hsb : smallV6 b = true) (hsc : smallV6 c = false) : LawLess w a b c p q r := by
  obtain ⟨z0, z1, z2⟩ := three_boxes w a b c p q r 25
  obtain ⟨W, hW⟩ : ∃ W, ((w.alloc (.cells (ecs a p) 25)).alloc (.cells (ecs b q) 25)).alloc (.cells (ecs c r) 25) = W := ⟨_, rfl⟩
  have hbW : Below w.heap.size w W := by rw [← hW]; exact qab (qab (qab (Below.refl _ _) _) _) _
  rw [hW] at z0 z1 z2
  have hGW := hG.below hbW
  have H1 := Aside0.mk (show QB W 13 #[] (.bool true) from fun W' hb => shown_calls (hGW.below hb))
  have H2 := qb_small hGW (ha.below hbW)
  have H3 := qb_small hGW (hb.below hbW)
  have H4 := qb_small hGW (hc.below hbW)
  rw [hsa] at H2
  have H2 := Aside0.mk H2
  rw [hsb] at H3
  have H3 := Aside0.mk H3
  rw [hsc] at H4
  have H4 := Aside0.mk H4
  obtain ⟨x0, x1, x2, x3, x4, x5⟩ := qai z0
  obtain ⟨y0, y1, y2, y3, y4, y5⟩ := qai z1
  obtain ⟨u0, u1, u2, u3, u4, u5⟩ := qai z2
  have Z0 := Aside0.mk z0
  have Z1 := Aside0.mk z1
  have Z2 := Aside0.mk z2
  have HB := Aside0.mk hbW
  clear z0 z1 z2 hbW hGW hG ha hb hc hsa hsb hsc
  go_enter Tryz.func4, Tryz.ntmps4
  go_wp2_with (first
    | (go_at_call 14; refine (H4.out.at_ g3.out).mono ?_; rintro en w4 ⟨rfl, h4⟩; have g4 := Aside0.mk h4; clear h4 x0 x1 x2 x3 x4 x5 y0 y1 y2 y3 y4 y5 u0 u1 u2 u3 u4 u5; obtain ⟨x0, x1, x2, x3, x4, x5⟩ := qai (qak Z0.out g4.out); obtain ⟨y0, y1, y2, y3, y4, y5⟩ := qai (qak Z1.out g4.out); obtain ⟨u0, u1, u2, u3, u4, u5⟩ := qai (qak Z2.out g4.out))
    | (go_at_call 14; refine (H3.out.at_ g2.out).mono ?_; rintro en w3 ⟨rfl, h3⟩; have g3 := Aside0.mk h3; clear h3 x0 x1 x2 x3 x4 x5 y0 y1 y2 y3 y4 y5 u0 u1 u2 u3 u4 u5; obtain ⟨x0, x1, x2, x3, x4, x5⟩ := qai (qak Z0.out g3.out); obtain ⟨y0, y1, y2, y3, y4, y5⟩ := qai (qak Z1.out g3.out); obtain ⟨u0, u1, u2, u3, u4, u5⟩ := qai (qak Z2.out g3.out))
    | (go_at_call 14; refine (H2.out.at_ g1.out).mono ?_; rintro en w2 ⟨rfl, h2⟩; have g2 := Aside0.mk h2; clear h2 x0 x1 x2 x3 x4 x5 y0 y1 y2 y3 y4 y5 u0 u1 u2 u3 u4 u5; obtain ⟨x0, x1, x2, x3, x4, x5⟩ := qai (qak Z0.out g2.out); obtain ⟨y0, y1, y2, y3, y4, y5⟩ := qai (qak Z1.out g2.out); obtain ⟨u0, u1, u2, u3, u4, u5⟩ := qai (qak Z2.out g2.out))
    | (go_at_call 13; refine (H1.out.at_ (Below.refl _ _)).mono ?_; rintro en w1 ⟨rfl, h1⟩; have g1 := Aside0.mk h1; clear h1 x0 x1 x2 x3 x4 x5 y0 y1 y2 y3 y4 y5 u0 u1 u2 u3 u4 u5; obtain ⟨x0, x1, x2, x3, x4, x5⟩ := qai (qak Z0.out g1.out); obtain ⟨y0, y1, y2, y3, y4, y5⟩ := qai (qak Z1.out g1.out); obtain ⟨u0, u1, u2, u3, u4, u5⟩ := qai (qak Z2.out g1.out)))
  go_ret
  exact ⟨rfl, HB.out.trans (g4.out.mono HB.out.size)⟩
theorem less_x0_t {w : World} (hG : GL w) {a b c : E6} {p q r : EA} (ha : EC w a p) (hb : EC w b q) (hc : EC w c r) (hsa : smallV6 a = true) (hsb : smallV6 b = true) (hsc : smallV6 c = true) (lab : lessE a b = true) (lba : lessE b a = false) (lbc : lessE b c = true) (lac : lessE a c = true) (laa : lessE a a = false) (hn : ¬ a.f0.toList = b.f0.toList) (hq : (a.f0.toList == b.f0.toList) = false) : LawLess w a b c p q r := by
  obtain ⟨z0, z1, z2⟩ := three_boxes w a b c p q r 25
  obtain ⟨W, hW⟩ : ∃ W, ((w.alloc (.cells (ecs a p) 25)).alloc (.cells (ecs b q) 25)).alloc (.cells (ecs c r) 25) = W := ⟨_, rfl⟩
  have hbW : Below w.heap.size w W := by rw [← hW]; exact qab (qab (qab (Below.refl _ _) _) _) _
  rw [hW] at z0 z1 z2
  have hGW := hG.below hbW
  have H1 := Aside0.mk (show QB W 13 #[] (.bool true) from fun W' hb => shown_calls (hGW.below hb))
  have H2 := qb_small hGW (ha.below hbW)
  have H3 := qb_small hGW (hb.below hbW)
  have H4 := qb_small hGW (hc.below hbW)
  rw [hsa] at H2
  have H2 := Aside0.mk H2
  rw [hsb] at H3
  have H3 := Aside0.mk H3
  rw [hsc] at H4
  have H4 := Aside0.mk H4
  have H5 := qb_less hGW a b p q
  rw [lab] at H5
  have H5 := Aside0.mk H5
  have H6 := qb_less hGW b a q p
  rw [lba] at H6
  have H6 := Aside0.mk H6
  have H7 := qb_less hGW b c q r
  rw [lbc] at H7
  have H7 := Aside0.mk H7
  have H8 := qb_less hGW a c p r
  rw [lac] at H8
  have H8 := Aside0.mk H8
  have H9 := qb_less hGW a a p p
  rw [laa] at H9
  have H9 := Aside0.mk H9
  obtain ⟨x0, x1, x2, x3, x4, x5⟩ := qai z0
  obtain ⟨y0, y1, y2, y3, y4, y5⟩ := qai z1
  obtain ⟨u0, u1, u2, u3, u4, u5⟩ := qai z2
  have Z0 := Aside0.mk z0
  have Z1 := Aside0.mk z1
  have Z2 := Aside0.mk z2
  have HB := Aside0.mk hbW
  clear z0 z1 z2 hbW hGW hG ha hb hc hsa hsb hsc lab lba lbc lac laa
  go_enter Tryz.func4, Tryz.ntmps4
  go_wp2_with (first
    | (go_at_call 19; refine (H9.out.at_ g8.out).mono ?_; rintro en w9 ⟨rfl, h9⟩; have g9 := Aside0.mk h9; clear h9 x0 x1 x2 x3 x4 x5 y0 y1 y2 y3 y4 y5 u0 u1 u2 u3 u4 u5; obtain ⟨x0, x1, x2, x3, x4, x5⟩ := qai (qak Z0.out g9.out); obtain ⟨y0, y1, y2, y3, y4, y5⟩ := qai (qak Z1.out g9.out); obtain ⟨u0, u1, u2, u3, u4, u5⟩ := qai (qak Z2.out g9.out))
    | (go_at_call 19; refine (H8.out.at_ g7.out).mono ?_; rintro en w8 ⟨rfl, h8⟩; have g8 := Aside0.mk h8; clear h8 x0 x1 x2 x3 x4 x5 y0 y1 y2 y3 y4 y5 u0 u1 u2 u3 u4 u5; obtain ⟨x0, x1, x2, x3, x4, x5⟩ := qai (qak Z0.out g8.out); obtain ⟨y0, y1, y2, y3, y4, y5⟩ := qai (qak Z1.out g8.out); obtain ⟨u0, u1, u2, u3, u4, u5⟩ := qai (qak Z2.out g8.out))
    | (go_at_call 19; refine (H7.out.at_ g6.out).mono ?_; rintro en w7 ⟨rfl, h7⟩; have g7 := Aside0.mk h7; clear h7 x0 x1 x2 x3 x4 x5 y0 y1 y2 y3 y4 y5 u0 u1 u2 u3 u4 u5; obtain ⟨x0, x1, x2, x3, x4, x5⟩ := qai (qak Z0.out g7.out); obtain ⟨y0, y1, y2, y3, y4, y5⟩ := qai (qak Z1.out g7.out); obtain ⟨u0, u1, u2, u3, u4, u5⟩ := qai (qak Z2.out g7.out))
    | (go_at_call 19; refine (H6.out.at_ g5.out).mono ?_; rintro en w6 ⟨rfl, h6⟩; have g6 := Aside0.mk h6; clear h6 x0 x1 x2 x3 x4 x5 y0 y1 y2 y3 y4 y5 u0 u1 u2 u3 u4 u5; obtain ⟨x0, x1, x2, x3, x4, x5⟩ := qai (qak Z0.out g6.out); obtain ⟨y0, y1, y2, y3, y4, y5⟩ := qai (qak Z1.out g6.out); obtain ⟨u0, u1, u2, u3, u4, u5⟩ := qai (qak Z2.out g6.out))
    | (go_at_call 19; refine (H5.out.at_ g4.out).mono ?_; rintro en w5 ⟨rfl, h5⟩; have g5 := Aside0.mk h5; clear h5 x0 x1 x2 x3 x4 x5 y0 y1 y2 y3 y4 y5 u0 u1 u2 u3 u4 u5; obtain ⟨x0, x1, x2, x3, x4, x5⟩ := qai (qak Z0.out g5.out); obtain ⟨y0, y1, y2, y3, y4, y5⟩ := qai (qak Z1.out g5.out); obtain ⟨u0, u1, u2, u3, u4, u5⟩ := qai (qak Z2.out g5.out))
    | (go_at_call 14; refine (H4.out.at_ g3.out).mono ?_; rintro en w4 ⟨rfl, h4⟩; have g4 := Aside0.mk h4; clear h4 x0 x1 x2 x3 x4 x5 y0 y1 y2 y3 y4 y5 u0 u1 u2 u3 u4 u5; obtain ⟨x0, x1, x2, x3, x4, x5⟩ := qai (qak Z0.out g4.out); obtain ⟨y0, y1, y2, y3, y4, y5⟩ := qai (qak Z1.out g4.out); obtain ⟨u0, u1, u2, u3, u4, u5⟩ := qai (qak Z2.out g4.out))
    | (go_at_call 14; refine (H3.out.at_ g2.out).mono ?_; rintro en w3 ⟨rfl, h3⟩; have g3 := Aside0.mk h3; clear h3 x0 x1 x2 x3 x4 x5 y0 y1 y2 y3 y4 y5 u0 u1 u2 u3 u4 u5; obtain ⟨x0, x1, x2, x3, x4, x5⟩ := qai (qak Z0.out g3.out); obtain ⟨y0, y1, y2, y3, y4, y5⟩ := qai (qak Z1.out g3.out); obtain ⟨u0, u1, u2, u3, u4, u5⟩ := qai (qak Z2.out g3.out))
    | (go_at_call 14; refine (H2.out.at_ g1.out).mono ?_; rintro en w2 ⟨rfl, h2⟩; have g2 := Aside0.mk h2; clear h2 x0 x1 x2 x3 x4 x5 y0 y1 y2 y3 y4 y5 u0 u1 u2 u3 u4 u5; obtain ⟨x0, x1, x2, x3, x4, x5⟩ := qai (qak Z0.out g2.out); obtain ⟨y0, y1, y2, y3, y4, y5⟩ := qai (qak Z1.out g2.out); obtain ⟨u0, u1, u2, u3, u4, u5⟩ := qai (qak Z2.out g2.out))
    | (go_at_call 13; refine (H1.out.at_ (Below.refl _ _)).mono ?_; rintro en w1 ⟨rfl, h1⟩; have g1 := Aside0.mk h1; clear h1 x0 x1 x2 x3 x4 x5 y0 y1 y2 y3 y4 y5 u0 u1 u2 u3 u4 u5; obtain ⟨x0, x1, x2, x3, x4, x5⟩ := qai (qak Z0.out g1.out); obtain ⟨y0, y1, y2, y3, y4, y5⟩ := qai (qak Z1.out g1.out); obtain ⟨u0, u1, u2, u3, u4, u5⟩ := qai (qak Z2.out g1.out)))
  go_ret
  exact ⟨rfl, HB.out.trans (g9.out.mono HB.out.size)⟩
theorem less_x0_f {w : World} (hG : GL w) {a b c : E6} {p q r : EA} (ha : EC w a p) (hb : EC w b q) (hc : EC w c r) (hsa : smallV6 a = true) (hsb : smallV6 b = true) (hsc : smallV6 c = true) (lab : lessE a b = true) (lba : lessE b a = false) (lbc : lessE b c = false) (laa : lessE a a = false) (hn : ¬ a.f0.toList = b.f0.toList) (hq : (a.f0.toList == b.f0.toList) = false) : LawLess w a b c p q r := by
  obtain ⟨z0, z1, z2⟩ := three_boxes w a b c p q r 25
  obtain ⟨W, hW⟩ : ∃ W, ((w.alloc (.cells (ecs a p) 25)).alloc (.cells (ecs b q) 25)).alloc (.cells (ecs c r) 25) = W := ⟨_, rfl⟩
  have hbW : Below w.heap.size w W := by rw [← hW]; exact qab (qab (qab (Below.refl _ _) _) _) _
  rw [hW] at z0 z1 z2
  have hGW := hG.below hbW
  have H1 := Aside0.mk (show QB W 13 #[] (.bool true) from fun W' hb => shown_calls (hGW.below hb))
  have H2 := qb_small hGW (ha.below hbW)
  have H3 := qb_small hGW (hb.below hbW)
  have H4 := qb_small hGW (hc.below hbW)
  rw [hsa] at H2
  have H2 := Aside0.mk H2
  rw [hsb] at H3
  have H3 := Aside0.mk H3
  rw [hsc] at H4
  have H4 := Aside0.mk H4
  have H5 := qb_less hGW a b p q
  rw [lab] at H5
  have H5 := Aside0.mk H5
  have H6 := qb_less hGW b a q p
  rw [lba] at H6
  have H6 := Aside0.mk H6
  have H7 := qb_less hGW b c q r
  rw [lbc] at H7
  have H7 := Aside0.mk H7
  have H8 := qb_less hGW a a p p
  rw [laa] at H8
  have H8 := Aside0.mk H8
  obtain ⟨x0, x1, x2, x3, x4, x5⟩ := qai z0
  obtain ⟨y0, y1, y2, y3, y4, y5⟩ := qai z1
  obtain ⟨u0, u1, u2, u3, u4, u5⟩ := qai z2
  have Z0 := Aside0.mk z0
  have Z1 := Aside0.mk z1
  have Z2 := Aside0.mk z2
  have HB := Aside0.mk hbW
  clear z0 z1 z2 hbW hGW hG ha hb hc hsa hsb hsc lab lba lbc laa
  go_enter Tryz.func4, Tryz.ntmps4
  go_wp2_with (first
    | (go_at_call 19; refine (H8.out.at_ g7.out).mono ?_; rintro en w8 ⟨rfl, h8⟩; have g8 := Aside0.mk h8; clear h8 x0 x1 x2 x3 x4 x5 y0 y1 y2 y3 y4 y5 u0 u1 u2 u3 u4 u5; obtain ⟨x0, x1, x2, x3, x4, x5⟩ := qai (qak Z0.out g8.out); obtain ⟨y0, y1, y2, y3, y4, y5⟩ := qai (qak Z1.out g8.out); obtain ⟨u0, u1, u2, u3, u4, u5⟩ := qai (qak Z2.out g8.out))
    | (go_at_call 19; refine (H7.out.at_ g6.out).mono ?_; rintro en w7 ⟨rfl, h7⟩; have g7 := Aside0.mk h7; clear h7 x0 x1 x2 x3 x4 x5 y0 y1 y2 y3 y4 y5 u0 u1 u2 u3 u4 u5; obtain ⟨x0, x1, x2, x3, x4, x5⟩ := qai (qak Z0.out g7.out); obtain ⟨y0, y1, y2, y3, y4, y5⟩ := qai (qak Z1.out g7.out); obtain ⟨u0, u1, u2, u3, u4, u5⟩ := qai (qak Z2.out g7.out))
    | (go_at_call 19; refine (H6.out.at_ g5.out).mono ?_; rintro en w6 ⟨rfl, h6⟩; have g6 := Aside0.mk h6; clear h6 x0 x1 x2 x3 x4 x5 y0 y1 y2 y3 y4 y5 u0 u1 u2 u3 u4 u5; obtain ⟨x0, x1, x2, x3, x4, x5⟩ := qai (qak Z0.out g6.out); obtain ⟨y0, y1, y2, y3, y4, y5⟩ := qai (qak Z1.out g6.out); obtain ⟨u0, u1, u2, u3, u4, u5⟩ := qai (qak Z2.out g6.out))
    | (go_at_call 19; refine (H5.out.at_ g4.out).mono ?_; rintro en w5 ⟨rfl, h5⟩; have g5 := Aside0.mk h5; clear h5 x0 x1 x2 x3 x4 x5 y0 y1 y2 y3 y4 y5 u0 u1 u2 u3 u4 u5; obtain ⟨x0, x1, x2, x3, x4, x5⟩ := qai (qak Z0.out g5.out); obtain ⟨y0, y1, y2, y3, y4, y5⟩ := qai (qak Z1.out g5.out); obtain ⟨u0, u1, u2, u3, u4, u5⟩ := qai (qak Z2.out g5.out))
    | (go_at_call 14; refine (H4.out.at_ g3.out).mono ?_; rintro en w4 ⟨rfl, h4⟩; have g4 := Aside0.mk h4; clear h4 x0 x1 x2 x3 x4 x5 y0 y1 y2 y3 y4 y5 u0 u1 u2 u3 u4 u5; obtain ⟨x0, x1, x2, x3, x4, x5⟩ := qai (qak Z0.out g4.out); obtain ⟨y0, y1, y2, y3, y4, y5⟩ := qai (qak Z1.out g4.out); obtain ⟨u0, u1, u2, u3, u4, u5⟩ := qai (qak Z2.out g4.out))
    | (go_at_call 14; refine (H3.out.at_ g2.out).mono ?_; rintro en w3 ⟨rfl, h3⟩; have g3 := Aside0.mk h3; clear h3 x0 x1 x2 x3 x4 x5 y0 y1 y2 y3 y4 y5 u0 u1 u2 u3 u4 u5; obtain ⟨x0, x1, x2, x3, x4, x5⟩ := qai (qak Z0.out g3.out); obtain ⟨y0, y1, y2, y3, y4, y5⟩ := qai (qak Z1.out g3.out); obtain ⟨u0, u1, u2, u3, u4, u5⟩ := qai (qak Z2.out g3.out))
    | (go_at_call 14; refine (H2.out.at_ g1.out).mono ?_; rintro en w2 ⟨rfl, h2⟩; have g2 := Aside0.mk h2; clear h2 x0 x1 x2 x3 x4 x5 y0 y1 y2 y3 y4 y5 u0 u1 u2 u3 u4 u5; obtain ⟨x0, x1, x2, x3, x4, x5⟩ := qai (qak Z0.out g2.out); obtain ⟨y0, y1, y2, y3, y4, y5⟩ := qai (qak Z1.out g2.out); obtain ⟨u0, u1, u2, u3, u4, u5⟩ := qai (qak Z2.out g2.out))
    | (go_at_call 13; refine (H1.out.at_ (Below.refl _ _)).mono ?_; rintro en w1 ⟨rfl, h1⟩; have g1 := Aside0.mk h1; clear h1 x0 x1 x2 x3 x4 x5 y0 y1 y2 y3 y4 y5 u0 u1 u2 u3 u4 u5; obtain ⟨x0, x1, x2, x3, x4, x5⟩ := qai (qak Z0.out g1.out); obtain ⟨y0, y1, y2, y3, y4, y5⟩ := qai (qak Z1.out g1.out); obtain ⟨u0, u1, u2, u3, u4, u5⟩ := qai (qak Z2.out g1.out)))
  go_ret
  exact ⟨rfl, HB.out.trans (g8.out.mono HB.out.size)⟩
theorem less_y0 {w : World} (hG : GL w) {a b c : E6} {p q r : EA} (ha : EC w a p) (hb : EC w b q) (hc : EC w c r) (hsa : smallV6 a = true) (hsb : smallV6 b = true) (hsc : smallV6 c = true) (lab : lessE a b = false) (lba : lessE b a = true) (laa : lessE a a = false) (hn : ¬ a.f0.toList = b.f0.toList) (hq : (a.f0.toList == b.f0.toList) = false) : LawLess w a b c p q r := by
  obtain ⟨z0, z1, z2⟩ := three_boxes w a b c p q r 25
  obtain ⟨W, hW⟩ : ∃ W, ((w.alloc (.cells (ecs a p) 25)).alloc (.cells (ecs b q) 25)).alloc (.cells (ecs c r) 25) = W := ⟨_, rfl⟩
  have hbW : Below w.heap.size w W := by rw [← hW]; exact qab (qab (qab (Below.refl _ _) _) _) _
  rw [hW] at z0 z1 z2
  have hGW := hG.below hbW
  have H1 := Aside0.mk (show QB W 13 #[] (.bool true) from fun W' hb => shown_calls (hGW.below hb))
  have H2 := qb_small hGW (ha.below hbW)
  have H3 := qb_small hGW (hb.below hbW)
  have H4 := qb_small hGW (hc.below hbW)
  rw [hsa] at H2
  have H2 := Aside0.mk H2
  rw [hsb] at H3
  have H3 := Aside0.mk H3
  rw [hsc] at H4
  have H4 := Aside0.mk H4
  have H5 := qb_less hGW a b p q
  rw [lab] at H5
  have H5 := Aside0.mk H5
  have H6 := qb_less hGW b a q p
  rw [lba] at H6
  have H6 := Aside0.mk H6
  have H7 := qb_less hGW a a p p
  rw [laa] at H7
  have H7 := Aside0.mk H7
  obtain ⟨x0, x1, x2, x3, x4, x5⟩ := qai z0
  obtain ⟨y0, y1, y2, y3, y4, y5⟩ := qai z1
  obtain ⟨u0, u1, u2, u3, u4, u5⟩ := qai z2
  have Z0 := Aside0.mk z0
  have Z1 := Aside0.mk z1
  have Z2 := Aside0.mk z2
  have HB := Aside0.mk hbW
  clear z0 z1 z2 hbW hGW hG ha hb hc hsa hsb hsc lab lba laa
  go_enter Tryz.func4, Tryz.ntmps4
  go_wp2_with (first
    | (go_at_call 19; refine (H7.out.at_ g6.out).mono ?_; rintro en w7 ⟨rfl, h7⟩; have g7 := Aside0.mk h7; clear h7 x0 x1 x2 x3 x4 x5 y0 y1 y2 y3 y4 y5 u0 u1 u2 u3 u4 u5; obtain ⟨x0, x1, x2, x3, x4, x5⟩ := qai (qak Z0.out g7.out); obtain ⟨y0, y1, y2, y3, y4, y5⟩ := qai (qak Z1.out g7.out); obtain ⟨u0, u1, u2, u3, u4, u5⟩ := qai (qak Z2.out g7.out))
    | (go_at_call 19; refine (H6.out.at_ g5.out).mono ?_; rintro en w6 ⟨rfl, h6⟩; have g6 := Aside0.mk h6; clear h6 x0 x1 x2 x3 x4 x5 y0 y1 y2 y3 y4 y5 u0 u1 u2 u3 u4 u5; obtain ⟨x0, x1, x2, x3, x4, x5⟩ := qai (qak Z0.out g6.out); obtain ⟨y0, y1, y2, y3, y4, y5⟩ := qai (qak Z1.out g6.out); obtain ⟨u0, u1, u2, u3, u4, u5⟩ := qai (qak Z2.out g6.out))
    | (go_at_call 19; refine (H5.out.at_ g4.out).mono ?_; rintro en w5 ⟨rfl, h5⟩; have g5 := Aside0.mk h5; clear h5 x0 x1 x2 x3 x4 x5 y0 y1 y2 y3 y4 y5 u0 u1 u2 u3 u4 u5; obtain ⟨x0, x1, x2, x3, x4, x5⟩ := qai (qak Z0.out g5.out); obtain ⟨y0, y1, y2, y3, y4, y5⟩ := qai (qak Z1.out g5.out); obtain ⟨u0, u1, u2, u3, u4, u5⟩ := qai (qak Z2.out g5.out))
    | (go_at_call 14; refine (H4.out.at_ g3.out).mono ?_; rintro en w4 ⟨rfl, h4⟩; have g4 := Aside0.mk h4; clear h4 x0 x1 x2 x3 x4 x5 y0 y1 y2 y3 y4 y5 u0 u1 u2 u3 u4 u5; obtain ⟨x0, x1, x2, x3, x4, x5⟩ := qai (qak Z0.out g4.out); obtain ⟨y0, y1, y2, y3, y4, y5⟩ := qai (qak Z1.out g4.out); obtain ⟨u0, u1, u2, u3, u4, u5⟩ := qai (qak Z2.out g4.out))
    | (go_at_call 14; refine (H3.out.at_ g2.out).mono ?_; rintro en w3 ⟨rfl, h3⟩; have g3 := Aside0.mk h3; clear h3 x0 x1 x2 x3 x4 x5 y0 y1 y2 y3 y4 y5 u0 u1 u2 u3 u4 u5; obtain ⟨x0, x1, x2, x3, x4, x5⟩ := qai (qak Z0.out g3.out); obtain ⟨y0, y1, y2, y3, y4, y5⟩ := qai (qak Z1.out g3.out); obtain ⟨u0, u1, u2, u3, u4, u5⟩ := qai (qak Z2.out g3.out))
    | (go_at_call 14; refine (H2.out.at_ g1.out).mono ?_; rintro en w2 ⟨rfl, h2⟩; have g2 := Aside0.mk h2; clear h2 x0 x1 x2 x3 x4 x5 y0 y1 y2 y3 y4 y5 u0 u1 u2 u3 u4 u5; obtain ⟨x0, x1, x2, x3, x4, x5⟩ := qai (qak Z0.out g2.out); obtain ⟨y0, y1, y2, y3, y4, y5⟩ := qai (qak Z1.out g2.out); obtain ⟨u0, u1, u2, u3, u4, u5⟩ := qai (qak Z2.out g2.out))
    | (go_at_call 13; refine (H1.out.at_ (Below.refl _ _)).mono ?_; rintro en w1 ⟨rfl, h1⟩; have g1 := Aside0.mk h1; clear h1 x0 x1 x2 x3 x4 x5 y0 y1 y2 y3 y4 y5 u0 u1 u2 u3 u4 u5; obtain ⟨x0, x1, x2, x3, x4, x5⟩ := qai (qak Z0.out g1.out); obtain ⟨y0, y1, y2, y3, y4, y5⟩ := qai (qak Z1.out g1.out); obtain ⟨u0, u1, u2, u3, u4, u5⟩ := qai (qak Z2.out g1.out)))
  go_ret
  exact ⟨rfl, HB.out.trans (g7.out.mono HB.out.size)⟩
theorem less_x1_t {w : World} (hG : GL w) {a b c : E6} {p q r : EA} (ha : EC w a p) (hb : EC w b q) (hc : EC w c r) (hsa : smallV6 a = true) (hsb : smallV6 b = true) (hsc : smallV6 c = true) (lab : lessE a b = true) (lba : lessE b a = false) (lbc : lessE b c = true) (lac : lessE a c = true) (laa : lessE a a = false) (he : a.f0.toList = b.f0.toList) (hn : ¬ a.f1.toList = b.f1.toList) (hq : (a.f1.toList == b.f1.toList) = false) : LawLess w a b c p q r := by
  obtain ⟨z0, z1, z2⟩ := three_boxes w a b c p q r 25
  obtain ⟨W, hW⟩ : ∃ W, ((w.alloc (.cells (ecs a p) 25)).alloc (.cells (ecs b q) 25)).alloc (.cells (ecs c r) 25) = W := ⟨_, rfl⟩
  have hbW : Below w.heap.size w W := by rw [← hW]; exact qab (qab (qab (Below.refl _ _) _) _) _
  rw [hW] at z0 z1 z2
  have hGW := hG.below hbW
  have H1 := Aside0.mk (show QB W 13 #[] (.bool true) from fun W' hb => shown_calls (hGW.below hb))
  have H2 := qb_small hGW (ha.below hbW)
  have H3 := qb_small hGW (hb.below hbW)
  have H4 := qb_small hGW (hc.below hbW)
  rw [hsa] at H2
  have H2 := Aside0.mk H2
  rw [hsb] at H3
  have H3 := Aside0.mk H3
  rw [hsc] at H4
  have H4 := Aside0.mk H4
  have H5 := qb_less hGW a b p q
  rw [lab] at H5
  have H5 := Aside0.mk H5
  have H6 := qb_less hGW b a q p
  rw [lba] at H6
  have H6 := Aside0.mk H6
  have H7 := qb_less hGW b c q r
  rw [lbc] at H7
  have H7 := Aside0.mk H7
  have H8 := qb_less hGW a c p r
  rw [lac] at H8
  have H8 := Aside0.mk H8
  have H9 := qb_less hGW a a p p
  rw [laa] at H9
  have H9 := Aside0.mk H9
  obtain ⟨x0, x1, x2, x3, x4, x5⟩ := qai z0
  obtain ⟨y0, y1, y2, y3, y4, y5⟩ := qai z1
  obtain ⟨u0, u1, u2, u3, u4, u5⟩ := qai z2
  have Z0 := Aside0.mk z0
  have Z1 := Aside0.mk z1
  have Z2 := Aside0.mk z2
  have HB := Aside0.mk hbW
  clear z0 z1 z2 hbW hGW hG ha hb hc hsa hsb hsc lab lba lbc lac laa
  go_enter Tryz.func4, Tryz.ntmps4
  go_wp2_with (first
    | (go_at_call 19; refine (H9.out.at_ g8.out).mono ?_; rintro en w9 ⟨rfl, h9⟩; have g9 := Aside0.mk h9; clear h9 x0 x1 x2 x3 x4 x5 y0 y1 y2 y3 y4 y5 u0 u1 u2 u3 u4 u5; obtain ⟨x0, x1, x2, x3, x4, x5⟩ := qai (qak Z0.out g9.out); obtain ⟨y0, y1, y2, y3, y4, y5⟩ := qai (qak Z1.out g9.out); obtain ⟨u0, u1, u2, u3, u4, u5⟩ := qai (qak Z2.out g9.out))
    | (go_at_call 19; refine (H8.out.at_ g7.out).mono ?_; rintro en w8 ⟨rfl, h8⟩; have g8 := Aside0.mk h8; clear h8 x0 x1 x2 x3 x4 x5 y0 y1 y2 y3 y4 y5 u0 u1 u2 u3 u4 u5; obtain ⟨x0, x1, x2, x3, x4, x5⟩ := qai (qak Z0.out g8.out); obtain ⟨y0, y1, y2, y3, y4, y5⟩ := qai (qak Z1.out g8.out); obtain ⟨u0, u1, u2, u3, u4, u5⟩ := qai (qak Z2.out g8.out))
    | (go_at_call 19; refine (H7.out.at_ g6.out).mono ?_; rintro en w7 ⟨rfl, h7⟩; have g7 := Aside0.mk h7; clear h7 x0 x1 x2 x3 x4 x5 y0 y1 y2 y3 y4 y5 u0 u1 u2 u3 u4 u5; obtain ⟨x0, x1, x2, x3, x4, x5⟩ := qai (qak Z0.out g7.out); obtain ⟨y0, y1, y2, y3, y4, y5⟩ := qai (qak Z1.out g7.out); obtain ⟨u0, u1, u2, u3, u4, u5⟩ := qai (qak Z2.out g7.out))
    | (go_at_call 19; refine (H6.out.at_ g5.out).mono ?_; rintro en w6 ⟨rfl, h6⟩; have g6 := Aside0.mk h6; clear h6 x0 x1 x2 x3 x4 x5 y0 y1 y2 y3 y4 y5 u0 u1 u2 u3 u4 u5; obtain ⟨x0, x1, x2, x3, x4, x5⟩ := qai (qak Z0.out g6.out); obtain ⟨y0, y1, y2, y3, y4, y5⟩ := qai (qak Z1.out g6.out); obtain ⟨u0, u1, u2, u3, u4, u5⟩ := qai (qak Z2.out g6.out))
    | (go_at_call 19; refine (H5.out.at_ g4.out).mono ?_; rintro en w5 ⟨rfl, h5⟩; have g5 := Aside0.mk h5; clear h5 x0 x1 x2 x3 x4 x5 y0 y1 y2 y3 y4 y5 u0 u1 u2 u3 u4 u5; obtain ⟨x0, x1, x2, x3, x4, x5⟩ := qai (qak Z0.out g5.out); obtain ⟨y0, y1, y2, y3, y4, y5⟩ := qai (qak Z1.out g5.out); obtain ⟨u0, u1, u2, u3, u4, u5⟩ := qai (qak Z2.out g5.out))
    | (go_at_call 14; refine (H4.out.at_ g3.out).mono ?_; rintro en w4 ⟨rfl, h4⟩; have g4 := Aside0.mk h4; clear h4 x0 x1 x2 x3 x4 x5 y0 y1 y2 y3 y4 y5 u0 u1 u2 u3 u4 u5; obtain ⟨x0, x1, x2, x3, x4, x5⟩ := qai (qak Z0.out g4.out); obtain ⟨y0, y1, y2, y3, y4, y5⟩ := qai (qak Z1.out g4.out); obtain ⟨u0, u1, u2, u3, u4, u5⟩ := qai (qak Z2.out g4.out))
    | (go_at_call 14; refine (H3.out.at_ g2.out).mono ?_; rintro en w3 ⟨rfl, h3⟩; have g3 := Aside0.mk h3; clear h3 x0 x1 x2 x3 x4 x5 y0 y1 y2 y3 y4 y5 u0 u1 u2 u3 u4 u5; obtain ⟨x0, x1, x2, x3, x4, x5⟩ := qai (qak Z0.out g3.out); obtain ⟨y0, y1, y2, y3, y4, y5⟩ := qai (qak Z1.out g3.out); obtain ⟨u0, u1, u2, u3, u4, u5⟩ := qai (qak Z2.out g3.out))
    | (go_at_call 14; refine (H2.out.at_ g1.out).mono ?_; rintro en w2 ⟨rfl, h2⟩; have g2 := Aside0.mk h2; clear h2 x0 x1 x2 x3 x4 x5 y0 y1 y2 y3 y4 y5 u0 u1 u2 u3 u4 u5; obtain ⟨x0, x1, x2, x3, x4, x5⟩ := qai (qak Z0.out g2.out); obtain ⟨y0, y1, y2, y3, y4, y5⟩ := qai (qak Z1.out g2.out); obtain ⟨u0, u1, u2, u3, u4, u5⟩ := qai (qak Z2.out g2.out))
    | (go_at_call 13; refine (H1.out.at_ (Below.refl _ _)).mono ?_; rintro en w1 ⟨rfl, h1⟩; have g1 := Aside0.mk h1; clear h1 x0 x1 x2 x3 x4 x5 y0 y1 y2 y3 y4 y5 u0 u1 u2 u3 u4 u5; obtain ⟨x0, x1, x2, x3, x4, x5⟩ := qai (qak Z0.out g1.out); obtain ⟨y0, y1, y2, y3, y4, y5⟩ := qai (qak Z1.out g1.out); obtain ⟨u0, u1, u2, u3, u4, u5⟩ := qai (qak Z2.out g1.out)))
  go_ret
  exact ⟨rfl, HB.out.trans (g9.out.mono HB.out.size)⟩
theorem less_x1_f {w : World} (hG : GL w) {a b c : E6} {p q r : EA} (ha : EC w a p) (hb : EC w b q) (hc : EC w c r) (hsa : smallV6 a = true) (hsb : smallV6 b = true) (hsc : smallV6 c = true) (lab : lessE a b = true) (lba : lessE b a = false) (lbc : lessE b c = false) (laa : lessE a a = false) (he : a.f0.toList = b.f0.toList) (hn : ¬ a.f1.toList = b.f1.toList) (hq : (a.f1.toList == b.f1.toList) = false) : LawLess w a b c p q r := by
  obtain ⟨z0, z1, z2⟩ := three_boxes w a b c p q r 25
  obtain ⟨W, hW⟩ : ∃ W, ((w.alloc (.cells (ecs a p) 25)).alloc (.cells (ecs b q) 25)).alloc (.cells (ecs c r) 25) = W := ⟨_, rfl⟩
  have hbW : Below w.heap.size w W := by rw [← hW]; exact qab (qab (qab (Below.refl _ _) _) _) _
  rw [hW] at z0 z1 z2
  have hGW := hG.below hbW
  have H1 := Aside0.mk (show QB W 13 #[] (.bool true) from fun W' hb => shown_calls (hGW.below hb))
  have H2 := qb_small hGW (ha.below hbW)
  have H3 := qb_small hGW (hb.below hbW)
  have H4 := qb_small hGW (hc.below hbW)
  rw [hsa] at H2
  have H2 := Aside0.mk H2
  rw [hsb] at H3
  have H3 := Aside0.mk H3
  rw [hsc] at H4
  have H4 := Aside0.mk H4
  have H5 := qb_less hGW a b p q
  rw [lab] at H5
  have H5 := Aside0.mk H5
  have H6 := qb_less hGW b a q p
  rw [lba] at H6
  have H6 := Aside0.mk H6
  have H7 := qb_less hGW b c q r
  rw [lbc] at H7
  have H7 := Aside0.mk H7
  have H8 := qb_less hGW a a p p
  rw [laa] at H8
  have H8 := Aside0.mk H8
  obtain ⟨x0, x1, x2, x3, x4, x5⟩ := qai z0
  obtain ⟨y0, y1, y2, y3, y4, y5⟩ := qai z1
  obtain ⟨u0, u1, u2, u3, u4, u5⟩ := qai z2
  have Z0 := Aside0.mk z0
  have Z1 := Aside0.mk z1
  have Z2 := Aside0.mk z2
  have HB := Aside0.mk hbW
  clear z0 z1 z2 hbW hGW hG ha hb hc hsa hsb hsc lab lba lbc laa
  go_enter Tryz.func4, Tryz.ntmps4
  go_wp2_with (first
    | (go_at_call 19; refine (H8.out.at_ g7.out).mono ?_; rintro en w8 ⟨rfl, h8⟩; have g8 := Aside0.mk h8; clear h8 x0 x1 x2 x3 x4 x5 y0 y1 y2 y3 y4 y5 u0 u1 u2 u3 u4 u5; obtain ⟨x0, x1, x2, x3, x4, x5⟩ := qai (qak Z0.out g8.out); obtain ⟨y0, y1, y2, y3, y4, y5⟩ := qai (qak Z1.out g8.out); obtain ⟨u0, u1, u2, u3, u4, u5⟩ := qai (qak Z2.out g8.out))
    | (go_at_call 19; refine (H7.out.at_ g6.out).mono ?_; rintro en w7 ⟨rfl, h7⟩; have g7 := Aside0.mk h7; clear h7 x0 x1 x2 x3 x4 x5 y0 y1 y2 y3 y4 y5 u0 u1 u2 u3 u4 u5; obtain ⟨x0, x1, x2, x3, x4, x5⟩ := qai (qak Z0.out g7.out); obtain ⟨y0, y1, y2, y3, y4, y5⟩ := qai (qak Z1.out g7.out); obtain ⟨u0, u1, u2, u3, u4, u5⟩ := qai (qak Z2.out g7.out))
    | (go_at_call 19; refine (H6.out.at_ g5.out).mono ?_; rintro en w6 ⟨rfl, h6⟩; have g6 := Aside0.mk h6; clear h6 x0 x1 x2 x3 x4 x5 y0 y1 y2 y3 y4 y5 u0 u1 u2 u3 u4 u5; obtain ⟨x0, x1, x2, x3, x4, x5⟩ := qai (qak Z0.out g6.out); obtain ⟨y0, y1, y2, y3, y4, y5⟩ := qai (qak Z1.out g6.out); obtain ⟨u0, u1, u2, u3, u4, u5⟩ := qai (qak Z2.out g6.out))
    | (go_at_call 19; refine (H5.out.at_ g4.out).mono ?_; rintro en w5 ⟨rfl, h5⟩; have g5 := Aside0.mk h5; clear h5 x0 x1 x2 x3 x4 x5 y0 y1 y2 y3 y4 y5 u0 u1 u2 u3 u4 u5; obtain ⟨x0, x1, x2, x3, x4, x5⟩ := qai (qak Z0.out g5.out); obtain ⟨y0, y1, y2, y3, y4, y5⟩ := qai (qak Z1.out g5.out); obtain ⟨u0, u1, u2, u3, u4, u5⟩ := qai (qak Z2.out g5.out))
    | (go_at_call 14; refine (H4.out.at_ g3.out).mono ?_; rintro en w4 ⟨rfl, h4⟩; have g4 := Aside0.mk h4; clear h4 x0 x1 x2 x3 x4 x5 y0 y1 y2 y3 y4 y5 u0 u1 u2 u3 u4 u5; obtain ⟨x0, x1, x2, x3, x4, x5⟩ := qai (qak Z0.out g4.out); obtain ⟨y0, y1, y2, y3, y4, y5⟩ := qai (qak Z1.out g4.out); obtain ⟨u0, u1, u2, u3, u4, u5⟩ := qai (qak Z2.out g4.out))
    | (go_at_call 14; refine (H3.out.at_ g2.out).mono ?_; rintro en w3 ⟨rfl, h3⟩; have g3 := Aside0.mk h3; clear h3 x0 x1 x2 x3 x4 x5 y0 y1 y2 y3 y4 y5 u0 u1 u2 u3 u4 u5; obtain ⟨x0, x1, x2, x3, x4, x5⟩ := qai (qak Z0.out g3.out); obtain ⟨y0, y1, y2, y3, y4, y5⟩ := qai (qak Z1.out g3.out); obtain ⟨u0, u1, u2, u3, u4, u5⟩ := qai (qak Z2.out g3.out))
    | (go_at_call 14; refine (H2.out.at_ g1.out).mono ?_; rintro en w2 ⟨rfl, h2⟩; have g2 := Aside0.mk h2; clear h2 x0 x1 x2 x3 x4 x5 y0 y1 y2 y3 y4 y5 u0 u1 u2 u3 u4 u5; obtain ⟨x0, x1, x2, x3, x4, x5⟩ := qai (qak Z0.out g2.out); obtain ⟨y0, y1, y2, y3, y4, y5⟩ := qai (qak Z1.out g2.out); obtain ⟨u0, u1, u2, u3, u4, u5⟩ := qai (qak Z2.out g2.out))
    | (go_at_call 13; refine (H1.out.at_ (Below.refl _ _)).mono ?_; rintro en w1 ⟨rfl, h1⟩; have g1 := Aside0.mk h1; clear h1 x0 x1 x2 x3 x4 x5 y0 y1 y2 y3 y4 y5 u0 u1 u2 u3 u4 u5; obtain ⟨x0, x1, x2, x3, x4, x5⟩ := qai (qak Z0.out g1.out); obtain ⟨y0, y1, y2, y3, y4, y5⟩ := qai (qak Z1.out g1.out); obtain ⟨u0, u1, u2, u3, u4, u5⟩ := qai (qak Z2.out g1.out)))
  go_ret
  exact ⟨rfl, HB.out.trans (g8.out.mono HB.out.size)⟩
theorem less_y1 {w : World} (hG : GL w) {a b c : E6} {p q r : EA} (ha : EC w a p) (hb : EC w b q) (hc : EC w c r) (hsa : smallV6 a = true) (hsb : smallV6 b = true) (hsc : smallV6 c = true) (lab : lessE a b = false) (lba : lessE b a = true) (laa : lessE a a = false) (he : a.f0.toList = b.f0.toList) (hn : ¬ a.f1.toList = b.f1.toList) (hq : (a.f1.toList == b.f1.toList) = false) : LawLess w a b c p q r := by
  obtain ⟨z0, z1, z2⟩ := three_boxes w a b c p q r 25
  obtain ⟨W, hW⟩ : ∃ W, ((w.alloc (.cells (ecs a p) 25)).alloc (.cells (ecs b q) 25)).alloc (.cells (ecs c r) 25) = W := ⟨_, rfl⟩
  have hbW : Below w.heap.size w W := by rw [← hW]; exact qab (qab (qab (Below.refl _ _) _) _) _
  rw [hW] at z0 z1 z2
  have hGW := hG.below hbW
  have H1 := Aside0.mk (show QB W 13 #[] (.bool true) from fun W' hb => shown_calls (hGW.below hb))
  have H2 := qb_small hGW (ha.below hbW)
  have H3 := qb_small hGW (hb.below hbW)
  have H4 := qb_small hGW (hc.below hbW)
  rw [hsa] at H2
  have H2 := Aside0.mk H2
  rw [hsb] at H3
  have H3 := Aside0.mk H3
  rw [hsc] at H4
  have H4 := Aside0.mk H4
  have H5 := qb_less hGW a b p q
  rw [lab] at H5
  have H5 := Aside0.mk H5
  have H6 := qb_less hGW b a q p
  rw [lba] at H6
  have H6 := Aside0.mk H6
  have H7 := qb_less hGW a a p p
  rw [laa] at H7
  have H7 := Aside0.mk H7
  obtain ⟨x0, x1, x2, x3, x4, x5⟩ := qai z0
  obtain ⟨y0, y1, y2, y3, y4, y5⟩ := qai z1
  obtain ⟨u0, u1, u2, u3, u4, u5⟩ := qai z2
  have Z0 := Aside0.mk z0
  have Z1 := Aside0.mk z1
  have Z2 := Aside0.mk z2
  have HB := Aside0.mk hbW
  clear z0 z1 z2 hbW hGW hG ha hb hc hsa hsb hsc lab lba laa
  go_enter Tryz.func4, Tryz.ntmps4
  go_wp2_with (first
    | (go_at_call 19; refine (H7.out.at_ g6.out).mono ?_; rintro en w7 ⟨rfl, h7⟩; have g7 := Aside0.mk h7; clear h7 x0 x1 x2 x3 x4 x5 y0 y1 y2 y3 y4 y5 u0 u1 u2 u3 u4 u5; obtain ⟨x0, x1, x2, x3, x4, x5⟩ := qai (qak Z0.out g7.out); obtain ⟨y0, y1, y2, y3, y4, y5⟩ := qai (qak Z1.out g7.out); obtain ⟨u0, u1, u2, u3, u4, u5⟩ := qai (qak Z2.out g7.out))
    | (go_at_call 19; refine (H6.out.at_ g5.out).mono ?_; rintro en w6 ⟨rfl, h6⟩; have g6 := Aside0.mk h6; clear h6 x0 x1 x2 x3 x4 x5 y0 y1 y2 y3 y4 y5 u0 u1 u2 u3 u4 u5; obtain ⟨x0, x1, x2, x3, x4, x5⟩ := qai (qak Z0.out g6.out); obtain ⟨y0, y1, y2, y3, y4, y5⟩ := qai (qak Z1.out g6.out); obtain ⟨u0, u1, u2, u3, u4, u5⟩ := qai (qak Z2.out g6.out))
    | (go_at_call 19; refine (H5.out.at_ g4.out).mono ?_; rintro en w5 ⟨rfl, h5⟩; have g5 := Aside0.mk h5; clear h5 x0 x1 x2 x3 x4 x5 y0 y1 y2 y3 y4 y5 u0 u1 u2 u3 u4 u5; obtain ⟨x0, x1, x2, x3, x4, x5⟩ := qai (qak Z0.out g5.out); obtain ⟨y0, y1, y2, y3, y4, y5⟩ := qai (qak Z1.out g5.out); obtain ⟨u0, u1, u2, u3, u4, u5⟩ := qai (qak Z2.out g5.out))
    | (go_at_call 14; refine (H4.out.at_ g3.out).mono ?_; rintro en w4 ⟨rfl, h4⟩; have g4 := Aside0.mk h4; clear h4 x0 x1 x2 x3 x4 x5 y0 y1 y2 y3 y4 y5 u0 u1 u2 u3 u4 u5; obtain ⟨x0, x1, x2, x3, x4, x5⟩ := qai (qak Z0.out g4.out); obtain ⟨y0, y1, y2, y3, y4, y5⟩ := qai (qak Z1.out g4.out); obtain ⟨u0, u1, u2, u3, u4, u5⟩ := qai (qak Z2.out g4.out))
    | (go_at_call 14; refine (H3.out.at_ g2.out).mono ?_; rintro en w3 ⟨rfl, h3⟩; have g3 := Aside0.mk h3; clear h3 x0 x1 x2 x3 x4 x5 y0 y1 y2 y3 y4 y5 u0 u1 u2 u3 u4 u5; obtain ⟨x0, x1, x2, x3, x4, x5⟩ := qai (qak Z0.out g3.out); obtain ⟨y0, y1, y2, y3, y4, y5⟩ := qai (qak Z1.out g3.out); obtain ⟨u0, u1, u2, u3, u4, u5⟩ := qai (qak Z2.out g3.out))
    | (go_at_call 14; refine (H2.out.at_ g1.out).mono ?_; rintro en w2 ⟨rfl, h2⟩; have g2 := Aside0.mk h2; clear h2 x0 x1 x2 x3 x4 x5 y0 y1 y2 y3 y4 y5 u0 u1 u2 u3 u4 u5; obtain ⟨x0, x1, x2, x3, x4, x5⟩ := qai (qak Z0.out g2.out); obtain ⟨y0, y1, y2, y3, y4, y5⟩ := qai (qak Z1.out g2.out); obtain ⟨u0, u1, u2, u3, u4, u5⟩ := qai (qak Z2.out g2.out))
    | (go_at_call 13; refine (H1.out.at_ (Below.refl _ _)).mono ?_; rintro en w1 ⟨rfl, h1⟩; have g1 := Aside0.mk h1; clear h1 x0 x1 x2 x3 x4 x5 y0 y1 y2 y3 y4 y5 u0 u1 u2 u3 u4 u5; obtain ⟨x0, x1, x2, x3, x4, x5⟩ := qai (qak Z0.out g1.out); obtain ⟨y0, y1, y2, y3, y4, y5⟩ := qai (qak Z1.out g1.out); obtain ⟨u0, u1, u2, u3, u4, u5⟩ := qai (qak Z2.out g1.out)))
  go_ret
  exact ⟨rfl, HB.out.trans (g7.out.mono HB.out.size)⟩
theorem less_e {w : World} (hG : GL w) {a b c : E6} {p q r : EA} (ha : EC w a p) (hb : EC w b q) (hc : EC w c r) (hsa : smallV6 a = true) (hsb : smallV6 b = true) (hsc : smallV6 c = true) (lab : lessE a b = false) (lba : lessE b a = false) (laa : lessE a a = false) (he : a.f0.toList = b.f0.toList) (hf : a.f1.toList = b.f1.toList) : LawLess w a b c p q r := by
  obtain ⟨z0, z1, z2⟩ := three_boxes w a b c p q r 25
  obtain ⟨W, hW⟩ : ∃ W, ((w.alloc (.cells (ecs a p) 25)).alloc (.cells (ecs b q) 25)).alloc (.cells (ecs c r) 25) = W := ⟨_, rfl⟩
  have hbW : Below w.heap.size w W := by rw [← hW]; exact qab (qab (qab (Below.refl _ _) _) _) _
  rw [hW] at z0 z1 z2
  have hGW := hG.below hbW
  have H1 := Aside0.mk (show QB W 13 #[] (.bool true) from fun W' hb => shown_calls (hGW.below hb))
  have H2 := qb_small hGW (ha.below hbW)
  have H3 := qb_small hGW (hb.below hbW)
  have H4 := qb_small hGW (hc.below hbW)
  rw [hsa] at H2
  have H2 := Aside0.mk H2
  rw [hsb] at H3
  have H3 := Aside0.mk H3
  rw [hsc] at H4
  have H4 := Aside0.mk H4
  have H5 := qb_less hGW a b p q
  rw [lab] at H5
  have H5 := Aside0.mk H5
  have H6 := qb_less hGW b a q p
  rw [lba] at H6
  have H6 := Aside0.mk H6
  have H7 := qb_less hGW a a p p
  rw [laa] at H7
  have H7 := Aside0.mk H7
  obtain ⟨x0, x1, x2, x3, x4, x5⟩ := qai z0
  obtain ⟨y0, y1, y2, y3, y4, y5⟩ := qai z1
  obtain ⟨u0, u1, u2, u3, u4, u5⟩ := qai z2
  have Z0 := Aside0.mk z0
  have Z1 := Aside0.mk z1
  have Z2 := Aside0.mk z2
  have HB := Aside0.mk hbW
  clear z0 z1 z2 hbW hGW hG ha hb hc hsa hsb hsc lab lba laa
  go_enter Tryz.func4, Tryz.ntmps4
  go_wp2_with (first
    | (go_at_call 19; refine (H7.out.at_ g6.out).mono ?_; rintro en w7 ⟨rfl, h7⟩; have g7 := Aside0.mk h7; clear h7 x0 x1 x2 x3 x4 x5 y0 y1 y2 y3 y4 y5 u0 u1 u2 u3 u4 u5; obtain ⟨x0, x1, x2, x3, x4, x5⟩ := qai (qak Z0.out g7.out); obtain ⟨y0, y1, y2, y3, y4, y5⟩ := qai (qak Z1.out g7.out); obtain ⟨u0, u1, u2, u3, u4, u5⟩ := qai (qak Z2.out g7.out))
    | (go_at_call 19; refine (H6.out.at_ g5.out).mono ?_; rintro en w6 ⟨rfl, h6⟩; have g6 := Aside0.mk h6; clear h6 x0 x1 x2 x3 x4 x5 y0 y1 y2 y3 y4 y5 u0 u1 u2 u3 u4 u5; obtain ⟨x0, x1, x2, x3, x4, x5⟩ := qai (qak Z0.out g6.out); obtain ⟨y0, y1, y2, y3, y4, y5⟩ := qai (qak Z1.out g6.out); obtain ⟨u0, u1, u2, u3, u4, u5⟩ := qai (qak Z2.out g6.out))
    | (go_at_call 19; refine (H5.out.at_ g4.out).mono ?_; rintro en w5 ⟨rfl, h5⟩; have g5 := Aside0.mk h5; clear h5 x0 x1 x2 x3 x4 x5 y0 y1 y2 y3 y4 y5 u0 u1 u2 u3 u4 u5; obtain ⟨x0, x1, x2, x3, x4, x5⟩ := qai (qak Z0.out g5.out); obtain ⟨y0, y1, y2, y3, y4, y5⟩ := qai (qak Z1.out g5.out); obtain ⟨u0, u1, u2, u3, u4, u5⟩ := qai (qak Z2.out g5.out))
    | (go_at_call 14; refine (H4.out.at_ g3.out).mono ?_; rintro en w4 ⟨rfl, h4⟩; have g4 := Aside0.mk h4; clear h4 x0 x1 x2 x3 x4 x5 y0 y1 y2 y3 y4 y5 u0 u1 u2 u3 u4 u5; obtain ⟨x0, x1, x2, x3, x4, x5⟩ := qai (qak Z0.out g4.out); obtain ⟨y0, y1, y2, y3, y4, y5⟩ := qai (qak Z1.out g4.out); obtain ⟨u0, u1, u2, u3, u4, u5⟩ := qai (qak Z2.out g4.out))
    | (go_at_call 14; refine (H3.out.at_ g2.out).mono ?_; rintro en w3 ⟨rfl, h3⟩; have g3 := Aside0.mk h3; clear h3 x0 x1 x2 x3 x4 x5 y0 y1 y2 y3 y4 y5 u0 u1 u2 u3 u4 u5; obtain ⟨x0, x1, x2, x3, x4, x5⟩ := qai (qak Z0.out g3.out); obtain ⟨y0, y1, y2, y3, y4, y5⟩ := qai (qak Z1.out g3.out); obtain ⟨u0, u1, u2, u3, u4, u5⟩ := qai (qak Z2.out g3.out))
    | (go_at_call 14; refine (H2.out.at_ g1.out).mono ?_; rintro en w2 ⟨rfl, h2⟩; have g2 := Aside0.mk h2; clear h2 x0 x1 x2 x3 x4 x5 y0 y1 y2 y3 y4 y5 u0 u1 u2 u3 u4 u5; obtain ⟨x0, x1, x2, x3, x4, x5⟩ := qai (qak Z0.out g2.out); obtain ⟨y0, y1, y2, y3, y4, y5⟩ := qai (qak Z1.out g2.out); obtain ⟨u0, u1, u2, u3, u4, u5⟩ := qai (qak Z2.out g2.out))
    | (go_at_call 13; refine (H1.out.at_ (Below.refl _ _)).mono ?_; rintro en w1 ⟨rfl, h1⟩; have g1 := Aside0.mk h1; clear h1 x0 x1 x2 x3 x4 x5 y0 y1 y2 y3 y4 y5 u0 u1 u2 u3 u4 u5; obtain ⟨x0, x1, x2, x3, x4, x5⟩ := qai (qak Z0.out g1.out); obtain ⟨y0, y1, y2, y3, y4, y5⟩ := qai (qak Z1.out g1.out); obtain ⟨u0, u1, u2, u3, u4, u5⟩ := qai (qak Z2.out g1.out)))
  go_ret
  exact ⟨rfl, HB.out.trans (g7.out.mono HB.out.size)⟩
theorem law_less {w : World} (hG : GL w) {a b c : E6} {p q r : EA} (ha : EC w a p) (hb : EC w b q) (hc : EC w c r) : LawLess w a b c p q r := by
  cases hsa : smallV6 a with
  | false => exact less_f hG ha hb hc hsa
  | true =>
  cases hsb : smallV6 b with
  | false => exact less_tf hG ha hb hc hsa hsb
  | true =>
  cases hsc : smallV6 c with
  | false => exact less_ttf hG ha hb hc hsa hsb hsc
  | true =>
  obtain ⟨laa, h3, ht⟩ := less_law a b c
  have hd : sameV a b = false → (¬ a.f0.toList = b.f0.toList) ∨ (a.f0.toList = b.f0.toList ∧ ¬ a.f1.toList = b.f1.toList) := fun h => by
    by_cases h0 : a.f0.toList = b.f0.toList
    · refine .inr ⟨h0, fun h1 => ?_⟩
      unfold sameV at h
      rw [h0, h1] at h
      simp at h
    · exact .inl h0
  rcases h3 with ⟨lab, lba, hs⟩ | ⟨lab, lba, hs⟩ | ⟨lab, lba, hs⟩
  · cases lbc : lessE b c with
    | true =>
      have lac := ht lab lbc
      rcases hd hs with h | ⟨h0, h⟩
      · exact less_x0_t hG ha hb hc hsa hsb hsc lab lba lbc lac laa h (beq_eq_false_iff_ne.2 h)
      · exact less_x1_t hG ha hb hc hsa hsb hsc lab lba lbc lac laa h0 h (beq_eq_false_iff_ne.2 h)
    | false =>
      rcases hd hs with h | ⟨h0, h⟩
      · exact less_x0_f hG ha hb hc hsa hsb hsc lab lba lbc laa h (beq_eq_false_iff_ne.2 h)
      · exact less_x1_f hG ha hb hc hsa hsb hsc lab lba lbc laa h0 h (beq_eq_false_iff_ne.2 h)
  · rcases hd hs with h | ⟨h0, h⟩
    · exact less_y0 hG ha hb hc hsa hsb hsc lab lba laa h (beq_eq_false_iff_ne.2 h)
    · exact less_y1 hG ha hb hc hsa hsb hsc lab lba laa h0 h (beq_eq_false_iff_ne.2 h)
  · unfold sameV at hs
    rw [Bool.and_eq_true, beq_iff_eq, beq_iff_eq] at hs
    exact less_e hG ha hb hc hsa hsb hsc lab lba laa hs.1 hs.2
end Go.Proofs.YtooomjcdlfdnmaaGreatDoor.Ent
