import Derived.Test.YtooomjcdlfdnmaaGreatDoorEntGives
namespace Go.Proofs.YtooomjcdlfdnmaaGreatDoor.Ent
open Go Go.RowKit Go.Shelf Go.Proofs.YtooomjcdlfdnmaaGreatDoorW.PrintWords Go.Proofs.YtooomjcdlfdnmaaGreatDoor.PA Go.Proofs.YtooomjcdlfdnmaaGreatDoor.Pure
set_option linter.unusedVariables false
theorem ecs_keep {W W' : World} {D : Nat} {T : TypeId} {e : E6} {a : EA} (h : W.heap[D]? = some (.cells (ecs e a) T (0, 0))) (hb : Below W.heap.size W W') : W'.heap[D]? = some (.cells (ecs e a) T (0, 0)) :=
  (hb.block _ (Array.getElem?_eq_some_iff.1 h).1).trans h
theorem two_boxes (w : World) (a b : E6) (p q : EA) (T : TypeId) : ((w.alloc (.cells (ecs a p) T)).alloc (.cells (ecs b q) T)).heap[w.heap.size]? = some (.cells (ecs a p) T (0, 0)) ∧ ((w.alloc (.cells (ecs a p) T)).alloc (.cells (ecs b q) T)).heap[w.heap.size + 1]? = some (.cells (ecs b q) T (0, 0)) := by
  have e1 : (w.alloc (.cells (ecs a p) T)).heap.size = w.heap.size + 1 := by simp
  refine ⟨(Below.heap_alloc _ _ _ (by rw [e1]; omega)).trans (World.alloc_heap_new w _), ?_⟩
  have := World.alloc_heap_new (w.alloc (.cells (ecs a p) T)) (.cells (ecs b q) T)
  rwa [e1] at this
theorem qb_against {w : World} (hG : GL w) {a b : E6} {p q : EA} (ha : EC w a p) (hb : EC w b q) (la : a.f4.length ≤ 100000000) (lb : b.f5.length ≤ 100000000) : QB w 54 #[.agg (ecs a p), .agg (ecs b q)] (.bool (againstE a b)) :=
  fun W h => against_calls (hG.below h) (ha.below h) (hb.below h) la lb
def fightsE (a b : E6) : Bool := (a.f0.toList != b.f0.toList) && (againstE a b || againstE b a)
set_option maxRecDepth 100000 in
theorem fights_calls {w : World} (hG : GL w) {a b : E6} {p q : EA} (ha : EC w a p) (hb : EC w b q) (la : a.f4.length ≤ 100000000) (lb : b.f5.length ≤ 100000000) (la5 : a.f5.length ≤ 100000000) (lb4 : b.f4.length ≤ 100000000) :
    Calls Tryz.prog 18 #[.agg (ecs a p), .agg (ecs b q)] w fun en w' => en = .returned (.bool (fightsE a b)) ∧ Below w.heap.size w w' := by
  obtain ⟨z0, z1⟩ := two_boxes w a b p q 25
  obtain ⟨W, hW⟩ : ∃ W, (w.alloc (.cells (ecs a p) 25)).alloc (.cells (ecs b q) 25) = W := ⟨_, rfl⟩
  have hbW : Below w.heap.size w W := by rw [← hW]; exact qab (qab (Below.refl _ _) _) _
  rw [hW] at z0 z1
  have H1 := Aside0.mk (qb_against (hG.below hbW) (ha.below hbW) (hb.below hbW) la lb)
  have H2 := Aside0.mk (qb_against (hG.below hbW) (hb.below hbW) (ha.below hbW) lb4 la5)
  obtain ⟨x0, x1, x2, x3, x4, x5⟩ := qap z0
  obtain ⟨y0, y1, y2, y3, y4, y5⟩ := qap z1
  have Z0 := Aside0.mk z0
  have Z1 := Aside0.mk z1
  have HB := Aside0.mk hbW
  unfold fightsE
  obtain ⟨s, hs⟩ : ∃ s, againstE a b = s := ⟨_, rfl⟩
  obtain ⟨t, ht⟩ : ∃ t, againstE b a = t := ⟨_, rfl⟩
  rw [hs, ht]
  rw [hs] at H1
  rw [ht] at H2
  clear hs ht ha hb la lb la5 lb4 z0 z1 hbW
  by_cases hn : a.f0.toList = b.f0.toList
  case' pos => rw [show (a.f0.toList != b.f0.toList) = false by simp [hn], Bool.false_and]
  case' neg => have hq : (a.f0.toList == b.f0.toList) = false := beq_eq_false_iff_ne.2 hn; rw [show (a.f0.toList != b.f0.toList) = true by simp [hn], Bool.true_and]; cases s
  all_goals
    go_enter Tryz.func18, Tryz.ntmps18
    go_wp2_with (first
      | (go_at_call 54; refine (H2.out.at_ HB1.out).mono ?_; rintro en w2 ⟨rfl, hb2⟩; have HB2 := Aside0.mk hb2; clear hb2)
      | (go_at_call 54; refine (H1.out.at_ (Below.refl _ _)).mono ?_; rintro en w1 ⟨rfl, hb1⟩; have HB1 := Aside0.mk hb1; clear x0 x1 x2 x3 x4 x5 y0 y1 y2 y3 y4 y5; obtain ⟨x0, x1, x2, x3, x4, x5⟩ := qap (ecs_keep Z0.out hb1); obtain ⟨y0, y1, y2, y3, y4, y5⟩ := qap (ecs_keep Z1.out hb1); clear hb1))
    go_ret
    first
      | exact ⟨rfl, HB.out.trans (HB2.out.mono HB.out.size)⟩
      | exact ⟨rfl, HB.out.trans (HB1.out.mono HB.out.size)⟩
      | exact ⟨rfl, HB.out⟩
theorem every1_pred {w : World} (q : S27 → Bool) (g : Nat) (eg : ∀ args w, (callFunc g args).run Tryz.prog w = .ok (.enter g args) w) (l : List S27) (hso : ∀ x ∈ l, QB w g #[.agg #[.string x.f0, .int .i64 x.f1, .string x.f2]] (.bool (q x))) (D : Nat) (hD : w.cell? ⟨D, 0, none⟩ = some (.func (.func g) #[] #[])) :
    PredP KA (fun x => !q x) 123 #[.pointer (some ⟨D, 0, none⟩)] w l := by
  intro W x cs hb hm hK
  obtain rfl := k27_open hK
  have gD := (hb.cell (World.block_lt_of_cell? _ _ hD)).trans hD
  have hDW : D < W.heap.size := World.block_lt_of_cell? _ _ gD
  have hne : D ≠ W.heap.size := by omega
  have HS := Aside0.mk (hso x hm)
  clear hK hD hso hm
  show Calls Tryz.prog 123 #[.agg #[.string x.f0, .int .i64 x.f1, .string x.f2], .pointer (some ⟨D, 0, none⟩)] W _
  go_enter Tryz.func123, Tryz.ntmps123
  go_wp2_with (go_at_fn g; refine (HS.out.at_ (qab hb _)).mono ?_; rintro e w' ⟨rfl, hb'⟩)
  go_ret
  exact ⟨rfl, hb'⟩
theorem every_calls {w : World} (q : S27 → Bool) (g : Nat) (eg : ∀ args w, (callFunc g args).run Tryz.prog w = .ok (.enter g args) w) (A : Option Addr) (c : Nat) (l : List S27) (hso : ∀ x ∈ l, QB w g #[.agg #[.string x.f0, .int .i64 x.f1, .string x.f2]] (.bool (q x))) (hr : Kd.C KA w A l.length l) (hl : l.length < 1000000000000) :
    Calls Tryz.prog 61 #[.slice A l.length c, .func (.func g) #[] #[]] w fun e w' => e = .returned (.bool (l.all q)) ∧ Below w.heap.size w w' := by
  obtain ⟨W, hW⟩ : ∃ W, w.alloc (.cells #[.func (.func g) #[] #[]] 83) = W := ⟨_, rfl⟩
  have hb : Below w.heap.size w W := by rw [← hW]; exact qab (Below.refl _ _) _
  have hD : W.cell? ⟨w.heap.size, 0, none⟩ = some (.func (.func g) #[] #[]) := by rw [← hW, World.cell?_alloc_new]; rfl
  have hI := containsAtom (fun x => !q x) 123 #[.pointer (some ⟨w.heap.size, 0, none⟩)] (enters_of Tryz.func123 (by kernel_rfl) rfl) W A c l (every1_pred q g eg l (fun x hx => (hso x hx).later hb) w.heap.size hD) (Kd.C_below hr hb) hl
  have ea : l.all q = !(l.any fun x => !q x) := by rw [List.not_any_eq_all_not]; congr 1; funext x; simp
  rw [ea]
  have HI := Aside0.mk hI
  have HB := Aside0.mk hb
  clear hI hr hl hD hb hso ea
  go_enter Tryz.func61, Tryz.ntmps61
  go_wp2_with (go_at_call 110; refine HI.out.mono ?_; rintro e w' ⟨rfl, hb'⟩)
  go_ret
  exact ⟨rfl, HB.out.trans (hb'.mono HB.out.size)⟩
end Go.Proofs.YtooomjcdlfdnmaaGreatDoor.Ent

namespace Go.Proofs.YtooomjcdlfdnmaaGreatDoor.Ent
open Go Go.RowKit Go.Shelf Go.Proofs.YtooomjcdlfdnmaaGreatDoorW.PrintWords Go.Proofs.YtooomjcdlfdnmaaGreatDoor.PA Go.Proofs.YtooomjcdlfdnmaaGreatDoor.Pure
set_option linter.unusedVariables false
def rightE (e : E6) : Bool := nameV (bs e.f0) && (plainV (bs e.f1) && (rightL e.f2 && (rightL e.f3 && (decide ((e.f4.length : Int) ≤ 12) && (e.f4.all rightS && (decide ((e.f5.length : Int) ≤ 8) && (e.f5.all rightS && e.f5.all givenB)))))))
theorem one_box (w : World) (a : E6) (p : EA) (T : TypeId) : (w.alloc (.cells (ecs a p) T)).heap[w.heap.size]? = some (.cells (ecs a p) T (0, 0)) := World.alloc_heap_new w _
theorem qb_every {w : World} (q : S27 → Bool) (g : Nat) (eg : ∀ args w, (callFunc g args).run Tryz.prog w = .ok (.enter g args) w) (A : Option Addr) (c : Nat) (l : List S27) (hso : ∀ x ∈ l, QB w g #[.agg #[.string x.f0, .int .i64 x.f1, .string x.f2]] (.bool (q x))) (hr : Kd.C KA w A l.length l) (hl : l.length < 1000000000000) :
    QB w 61 #[.slice A l.length c, .func (.func g) #[] #[]] (.bool (l.all q)) := fun W hb => every_calls q g eg A c l (fun x hx => (hso x hx).later hb) (Kd.C_below hr hb) hl
set_option maxRecDepth 100000 in
set_option maxHeartbeats 4000000 in
theorem right_calls {w : World} (hG : GL w) {e : E6} {a : EA} (h : EC w e a) (s : SmE e) :
    Calls Tryz.prog 21 #[.agg (ecs e a)] w fun en w' => en = .returned (.bool (rightE e)) ∧ Below w.heap.size w w' := by
  have z0 := one_box w e a 25
  obtain ⟨W, hW⟩ : ∃ W, w.alloc (.cells (ecs e a) 25) = W := ⟨_, rfl⟩
  have hbW : Below w.heap.size w W := by rw [← hW]; exact qab (Below.refl _ _) _
  rw [hW] at z0
  have hGW := hG.below hbW
  have hW' := h.below hbW
  have H1 := Aside0.mk (qb_name hGW e.f0 (by have := s.s0; omega))
  have H2 := Aside0.mk (qb_plain hGW e.f1)
  have H3 := Aside0.mk (qb_dright hGW a.A2 a.c2 e.f2 s.s2 hW'.r2 hW'.k2)
  have H4 := Aside0.mk (qb_dright hGW a.A3 a.c3 e.f3 s.s3 hW'.r3 hW'.k3)
  have H5 := Aside0.mk (qb_every rightS 62 (enters_of Tryz.func62 (by kernel_rfl) rfl) a.A4 a.c4 e.f4 (fun x hx => qb_rright hGW x (s.s4 x hx)) hW'.r4 (by have := s.l4; omega))
  have H6 := Aside0.mk (qb_every rightS 62 (enters_of Tryz.func62 (by kernel_rfl) rfl) a.A5 a.c5 e.f5 (fun x hx => qb_rright hGW x (s.s5 x hx)) hW'.r5 (by have := s.l5; omega))
  have H7 := Aside0.mk (qb_every givenB 63 (enters_of Tryz.func63 (by kernel_rfl) rfl) a.A5 a.c5 e.f5 (fun x hx => qb_given hGW x) hW'.r5 (by have := s.l5; omega))
  obtain ⟨x0, x1, x2, x3, x4, x5⟩ := qap z0
  have Z0 := Aside0.mk z0
  have HB := Aside0.mk hbW
  unfold rightE
  obtain ⟨b1, h1⟩ : ∃ b, nameV (bs e.f0) = b := ⟨_, rfl⟩
  obtain ⟨b2, h2⟩ : ∃ b, plainV (bs e.f1) = b := ⟨_, rfl⟩
  obtain ⟨b3, h3⟩ : ∃ b, rightL e.f2 = b := ⟨_, rfl⟩
  obtain ⟨b4, h4⟩ : ∃ b, rightL e.f3 = b := ⟨_, rfl⟩
  obtain ⟨b5, h5⟩ : ∃ b, e.f4.all rightS = b := ⟨_, rfl⟩
  obtain ⟨b6, h6⟩ : ∃ b, e.f5.all rightS = b := ⟨_, rfl⟩
  obtain ⟨b7, h7⟩ : ∃ b, e.f5.all givenB = b := ⟨_, rfl⟩
  obtain ⟨c5, q12⟩ : ∃ b, decide ((e.f4.length : Int) ≤ 12) = b := ⟨_, rfl⟩
  obtain ⟨c6, q8⟩ : ∃ b, decide ((e.f5.length : Int) ≤ 8) = b := ⟨_, rfl⟩
  rw [q12, q8]
  rw [h1] at H1 ⊢
  rw [h2] at H2 ⊢
  rw [h3] at H3 ⊢
  rw [h4] at H4 ⊢
  rw [h5] at H5 ⊢
  rw [h6] at H6 ⊢
  rw [h7] at H7 ⊢
  clear h1 h2 h3 h4 h5 h6 h7 z0 hbW hW' hGW h s hG
  cases b1
  case' true => cases b2
  case' true.true => cases b3
  case' true.true.true => cases b4
  case' true.true.true.true => cases c5
  case' true.true.true.true.true => cases b5
  case' true.true.true.true.true.true => cases c6
  case' true.true.true.true.true.true.true => cases b6
  all_goals
    go_enter Tryz.func21, Tryz.ntmps21
    go_wp2_with (first
      | (go_at_call 61; refine (H7.out.at_ h6).mono ?_; rintro en w7 ⟨rfl, h7⟩)
      | (go_at_call 61; refine (H6.out.at_ h5).mono ?_; rintro en w6 ⟨rfl, h6⟩; clear x0 x1 x2 x3 x4 x5; obtain ⟨x0, x1, x2, x3, x4, x5⟩ := qap (ecs_keep Z0.out h6))
      | (go_at_call 61; refine (H5.out.at_ h4).mono ?_; rintro en w5 ⟨rfl, h5⟩; clear x0 x1 x2 x3 x4 x5; obtain ⟨x0, x1, x2, x3, x4, x5⟩ := qap (ecs_keep Z0.out h5))
      | (go_at_call 60; refine (H4.out.at_ h3).mono ?_; rintro en w4 ⟨rfl, h4⟩; clear x0 x1 x2 x3 x4 x5; obtain ⟨x0, x1, x2, x3, x4, x5⟩ := qap (ecs_keep Z0.out h4))
      | (go_at_call 60; refine (H3.out.at_ h2).mono ?_; rintro en w3 ⟨rfl, h3⟩; clear x0 x1 x2 x3 x4 x5; obtain ⟨x0, x1, x2, x3, x4, x5⟩ := qap (ecs_keep Z0.out h3))
      | (go_at_call 59; refine (H2.out.at_ h1).mono ?_; rintro en w2 ⟨rfl, h2⟩; clear x0 x1 x2 x3 x4 x5; obtain ⟨x0, x1, x2, x3, x4, x5⟩ := qap (ecs_keep Z0.out h2))
      | (go_at_call 58; refine (H1.out.at_ (Below.refl _ _)).mono ?_; rintro en w1 ⟨rfl, h1⟩; clear x0 x1 x2 x3 x4 x5; obtain ⟨x0, x1, x2, x3, x4, x5⟩ := qap (ecs_keep Z0.out h1)))
    go_ret
    refine ⟨rfl, HB.out.trans (Below.mono ?_ HB.out.size)⟩
    assumption
end Go.Proofs.YtooomjcdlfdnmaaGreatDoor.Ent

