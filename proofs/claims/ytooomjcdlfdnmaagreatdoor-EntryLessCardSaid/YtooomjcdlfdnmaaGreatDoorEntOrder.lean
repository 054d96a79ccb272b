import Derived.Test.YtooomjcdlfdnmaaGreatDoorEntRight
import Derived.Test.YtooomjcdlfdnmaaGreatDoorEntRead3
namespace Go.Proofs.YtooomjcdlfdnmaaGreatDoor.Ent
open Go Go.RowKit Go.Shelf Go.Proofs.YtooomjcdlfdnmaaGreatDoorW.PrintWords Go.Proofs.YtooomjcdlfdnmaaGreatDoorW.PrintLast Go.Proofs.YtooomjcdlfdnmaaGreatDoor.PA Go.Proofs.YtooomjcdlfdnmaaGreatDoor.Pure
set_option linter.unusedVariables false
def or3 (x y z : Int) : Int := if x = 0 then (if y = 0 then z else y) else x
theorem or3_f (x y z : Int) : cmp_Or_int.f 5 [x, y, z] = some (or3 x y z) := by
  unfold or3
  by_cases hx : x = 0
  · by_cases hy : y = 0
    · by_cases hz : z = 0 <;> simp [cmp_Or_int.f, cmp_Or_int.l0, rd, wrap64, hx, hy, hz]
    · simp [cmp_Or_int.f, cmp_Or_int.l0, rd, wrap64, hx, hy]
  · simp [cmp_Or_int.f, cmp_Or_int.l0, rd, wrap64, hx]
theorem C_ints3 {W : World} {b : Nat} {ty : TypeId} {x y z : Int} (hb : W.heap[b]? = some (.cells #[.int .i64 x, .int .i64 y, .int .i64 z] ty (0, 0))) : (Kd.int .i64).C W (some ⟨b, 0, none⟩) 3 [x, y, z] := by
  refine ⟨rfl, by omega, fun _ => ⟨⟨b, 0, none⟩, rfl, fun j p hj => ?_⟩⟩
  have one : ∀ (v : Int) (i : Nat) (u : Value), [Value.int .i64 v][i]? = some u → i = 0 ∧ u = .int .i64 v := fun v i u hi => by
    have hi' := (List.getElem?_eq_some_iff.1 hi).1
    have h0 : i = 0 := by simpa using hi'
    subst h0
    exact ⟨rfl, by simpa using hi.symm⟩
  refine ⟨[.int .i64 p], rfl, rfl, fun i u hi => ?_⟩
  obtain ⟨rfl, rfl⟩ := one p i u hi
  rw [Addr.add_lit]
  match j, hj with
  | 0, hj => obtain rfl : x = p := by simpa using hj
             simp [World.cell?, hb]
  | 1, hj => obtain rfl : y = p := by simpa using hj
             simp [World.cell?, hb, show (Kd.int IntKind.i64).sz = 1 from rfl]
  | 2, hj => obtain rfl : z = p := by simpa using hj
             simp [World.cell?, hb, show (Kd.int IntKind.i64).sz = 1 from rfl]
theorem or3_calls {W : World} (hG : GL W) {b : Nat} {ty : TypeId} {x y z : Int} (hb : W.heap[b]? = some (.cells #[.int .i64 x, .int .i64 y, .int .i64 z] ty (0, 0))) :
    Calls Tryz.prog 55 #[.slice (some ⟨b, 0, none⟩) 3 3] W fun e w' => e = .returned (.int .i64 (or3 x y z)) ∧ Below W.heap.size W w' :=
  (cmp_Or_int.calls 5 (some ⟨b, 0, none⟩) 3 [x, y, z] (or3 x y z) W hG (C_ints3 hb) (Nat.le_refl 3) (or3_f x y z)).mono fun e w' ⟨h1, h2⟩ => ⟨h1, h2.below⟩
def lessI (a b : E6) : Int := or3 (Lib.compareBytes (bs a.f0) (bs b.f0)) (orderV (bs a.f1) (bs b.f1)) (Lib.compareBytes (bs a.f1) (bs b.f1))
def lessE (a b : E6) : Bool := decide (lessI a b < 0)
theorem lessS {w W : World} {a b : E6} {p q : EA} {T : TypeId} (z0 : W.heap[w.heap.size]? = some (.cells (ecs a p) T (0, 0))) (z1 : W.heap[w.heap.size + 1]? = some (.cells (ecs b q) T (0, 0))) :
    W.cell? ⟨w.heap.size, 0, none⟩ = some (.string a.f0) ∧ W.cell? ⟨w.heap.size, 1, none⟩ = some (.string a.f1) ∧ W.cell? ⟨w.heap.size + 1, 0, none⟩ = some (.string b.f0) ∧ W.cell? ⟨w.heap.size + 1, 1, none⟩ = some (.string b.f1) :=
  ⟨(qai z0).1, (qai z0).2.1, (qai z1).1, (qai z1).2.1⟩
def less1.T : Bool × List (List Nat × List Nat) := (true, [([], []), ([0], [0]), ([], []), ([2], [2]), ([1, 3], [1, 3]), ([], []), ([5], [5]), ([], []), ([7], [7]), ([6, 8, 4], [6, 8]), ([], []), ([10], [10]), ([], []), ([12], [12]), ([11, 13, 9], [11, 13]), ([4, 9, 14], [4, 9, 14]), ([15, 14], [15]), ([16], [16]), ([17, 16, 0, 1, 2, 3, 4, 5, 6, 7, 8, 9, 10, 11, 12, 13, 14, 15, 16, 17], [17])])
def less1.B : List Nat := [0, 1, 0, 4, 15, 0, 32, 0, 128, 511, 0, 1024, 0, 4096, 16383, 32767, 65535, 131071, 262143]
theorem less1.tab : rtab .any (opsOf Tryz.f19 1) = less1.T := by kernel_rfl
theorem less1.bits : waitsOk less1.T.2 less1.B = true := by kernel_rfl
set_option maxRecDepth 100000 in
set_option maxHeartbeats 4000000 in
theorem less_calls {w : World} (hG : GL w) (a b : E6) (p q : EA) :
    Calls Tryz.prog 19 #[.agg (ecs a p), .agg (ecs b q)] w fun en w' => en = .returned (.bool (lessE a b)) ∧ Below w.heap.size w w' := by
  obtain ⟨z0, z1⟩ := two_boxes w a b p q 25
  have Y0 := Aside0.mk (show ((w.alloc (.cells (ecs a p) 25)).alloc (.cells (ecs b q) 25)).drew.heap[w.heap.size]? = some (.cells (ecs a p) 25 (0, 0)) by rw [heap_drew']; exact z0)
  have Z0 := Aside0.mk (show ((w.alloc (.cells (ecs a p) 25)).alloc (.cells (ecs b q) 25)).drew.heap[w.heap.size + 1]? = some (.cells (ecs b q) 25 (0, 0)) by rw [heap_drew']; exact z1)
  have HB0 := Aside0.mk (show Below w.heap.size w ((w.alloc (.cells (ecs a p) 25)).alloc (.cells (ecs b q) 25)).drew from below_drew (qab (qab (Below.refl _ _) _) _))
  have HG := Aside0.mk hG
  clear z0 z1 hG
  go_enter Tryz.func19, Tryz.ntmps19
  go_wp2
  refine start_ (n := 19) (S := fun w' => w'.cell? ⟨w.heap.size, 0, none⟩ = some (.string a.f0) ∧ w'.cell? ⟨w.heap.size, 1, none⟩ = some (.string a.f1) ∧ w'.cell? ⟨w.heap.size + 1, 0, none⟩ = some (.string b.f0) ∧ w'.cell? ⟨w.heap.size + 1, 1, none⟩ = some (.string b.f1)) (ds := []) #[false, false, false, false, false, false, false, false, false, false, false, false, false, false, false, false, false, false, false] (by kernel_rfl) rfl rfl (lessS (w := w) Y0.out Z0.out) (fun hHeld => ?_); refine with_tabW less1.tab less1.bits (fun HT_ HW_ => ?_)
  refine pure_ (i := 0) (N := some 5) (v := ?_) (a' := ?_) #[true, false, false, false, false, false, false, false, false, false, false, false, false, false, false, false, false, false, false] rfl rfl (any_of HT_.out (by kernel_rfl)) (fun _ _ _ h => h) (Or.inl ⟨by rfl, ?_⟩) ?_ ?_
  rotate_left
  · intro w'
    go_simp
    (try with_reducible rfl)
  rotate_left
  · simp only [Act.put, List.setIfInBounds_toArray, List.set_cons_zero, List.set_cons_succ, i64_w, i32_w]
    rfl
  refine pure_ (i := 2) (N := some 7) (v := ?_) (a' := ?_) #[true, false, true, false, false, false, false, false, false, false, false, false, false, false, false, false, false, false, false] rfl rfl (any_of HT_.out (by kernel_rfl)) (fun _ _ _ h => h) (Or.inl ⟨by rfl, ?_⟩) ?_ ?_
  rotate_left
  · intro w'
    go_simp
    (try with_reducible rfl)
  rotate_left
  · simp only [Act.put, List.setIfInBounds_toArray, List.set_cons_zero, List.set_cons_succ, i64_w, i32_w]
    rfl
  refine pure_ (i := 5) (N := some 10) (v := ?_) (a' := ?_) #[true, false, true, false, false, true, false, false, false, false, false, false, false, false, false, false, false, false, false] rfl rfl (any_of HT_.out (by kernel_rfl)) (fun _ _ _ h => h) (Or.inl ⟨by rfl, ?_⟩) ?_ ?_
  rotate_left
  · intro w'
    go_simp
    (try with_reducible rfl)
  rotate_left
  · simp only [Act.put, List.setIfInBounds_toArray, List.set_cons_zero, List.set_cons_succ, i64_w, i32_w]
    rfl
  refine pure_ (i := 7) (N := some 12) (v := ?_) (a' := ?_) #[true, false, true, false, false, true, false, true, false, false, false, false, false, false, false, false, false, false, false] rfl rfl (any_of HT_.out (by kernel_rfl)) (fun _ _ _ h => h) (Or.inl ⟨by rfl, ?_⟩) ?_ ?_
  rotate_left
  · intro w'
    go_simp
    (try with_reducible rfl)
  rotate_left
  · simp only [Act.put, List.setIfInBounds_toArray, List.set_cons_zero, List.set_cons_succ, i64_w, i32_w]
    rfl
  refine pure_ (i := 10) (N := some 15) (v := ?_) (a' := ?_) #[true, false, true, false, false, true, false, true, false, false, true, false, false, false, false, false, false, false, false] rfl rfl (any_of HT_.out (by kernel_rfl)) (fun _ _ _ h => h) (Or.inl ⟨by rfl, ?_⟩) ?_ ?_
  rotate_left
  · intro w'
    go_simp
    (try with_reducible rfl)
  rotate_left
  · simp only [Act.put, List.setIfInBounds_toArray, List.set_cons_zero, List.set_cons_succ, i64_w, i32_w]
    rfl
  refine pure_ (i := 12) (N := some 17) (v := ?_) (a' := ?_) #[true, false, true, false, false, true, false, true, false, false, true, false, true, false, false, false, false, false, false] rfl rfl (any_of HT_.out (by kernel_rfl)) (fun _ _ _ h => h) (Or.inl ⟨by rfl, ?_⟩) ?_ ?_
  rotate_left
  · intro w'
    go_simp
    (try with_reducible rfl)
  rotate_left
  · simp only [Act.put, List.setIfInBounds_toArray, List.set_cons_zero, List.set_cons_succ, i64_w, i32_w]
    rfl
  refine take_ (i := 1) (N := some 6) (v := ?_) (a' := ?_) #[true, true, true, false, false, true, false, true, false, false, true, false, true, false, false, false, false, false, false] rfl rfl (take_ofW HT_.out HW_.out (by kernel_rfl)) (fun _ _ _ h => h) (Or.inl ⟨by rfl, ?_⟩) hHeld ?_ ?_
  rotate_left
  · rintro w' ⟨s0, s1, s2, s3⟩
    go_simp
    (try with_reducible rfl)
  rotate_left
  · simp only [Act.put, List.setIfInBounds_toArray, List.set_cons_zero, List.set_cons_succ, i64_w, i32_w]
    rfl
  refine take_ (i := 3) (N := some 8) (v := ?_) (a' := ?_) #[true, true, true, true, false, true, false, true, false, false, true, false, true, false, false, false, false, false, false] rfl rfl (take_ofW HT_.out HW_.out (by kernel_rfl)) (fun _ _ _ h => h) (Or.inl ⟨by rfl, ?_⟩) hHeld ?_ ?_
  rotate_left
  · rintro w' ⟨s0, s1, s2, s3⟩
    go_simp
    (try with_reducible rfl)
  rotate_left
  · simp only [Act.put, List.setIfInBounds_toArray, List.set_cons_zero, List.set_cons_succ, i64_w, i32_w]
    rfl
  refine take_ (i := 6) (N := some 11) (v := ?_) (a' := ?_) #[true, true, true, true, false, true, true, true, false, false, true, false, true, false, false, false, false, false, false] rfl rfl (take_ofW HT_.out HW_.out (by kernel_rfl)) (fun _ _ _ h => h) (Or.inl ⟨by rfl, ?_⟩) hHeld ?_ ?_
  rotate_left
  · rintro w' ⟨s0, s1, s2, s3⟩
    go_simp
    (try with_reducible rfl)
  rotate_left
  · simp only [Act.put, List.setIfInBounds_toArray, List.set_cons_zero, List.set_cons_succ, i64_w, i32_w]
    rfl
  refine take_ (i := 8) (N := some 13) (v := ?_) (a' := ?_) #[true, true, true, true, false, true, true, true, true, false, true, false, true, false, false, false, false, false, false] rfl rfl (take_ofW HT_.out HW_.out (by kernel_rfl)) (fun _ _ _ h => h) (Or.inl ⟨by rfl, ?_⟩) hHeld ?_ ?_
  rotate_left
  · rintro w' ⟨s0, s1, s2, s3⟩
    go_simp
    (try with_reducible rfl)
  rotate_left
  · simp only [Act.put, List.setIfInBounds_toArray, List.set_cons_zero, List.set_cons_succ, i64_w, i32_w]
    rfl
  refine take_ (i := 11) (N := some 16) (v := ?_) (a' := ?_) #[true, true, true, true, false, true, true, true, true, false, true, true, true, false, false, false, false, false, false] rfl rfl (take_ofW HT_.out HW_.out (by kernel_rfl)) (fun _ _ _ h => h) (Or.inl ⟨by rfl, ?_⟩) hHeld ?_ ?_
  rotate_left
  · rintro w' ⟨s0, s1, s2, s3⟩
    go_simp
    (try with_reducible rfl)
  rotate_left
  · simp only [Act.put, List.setIfInBounds_toArray, List.set_cons_zero, List.set_cons_succ, i64_w, i32_w]
    rfl
  refine take_ (i := 13) (N := some 18) (v := ?_) (a' := ?_) #[true, true, true, true, false, true, true, true, true, false, true, true, true, true, false, false, false, false, false] rfl rfl (take_ofW HT_.out HW_.out (by kernel_rfl)) (fun _ _ _ h => h) (Or.inl ⟨by rfl, ?_⟩) hHeld ?_ ?_
  rotate_left
  · rintro w' ⟨s0, s1, s2, s3⟩
    go_simp
    (try with_reducible rfl)
  rotate_left
  · simp only [Act.put, List.setIfInBounds_toArray, List.set_cons_zero, List.set_cons_succ, i64_w, i32_w]
    rfl
  refine one_ (i := 4) (N := some 9) #[true, true, true, true, true, true, true, true, true, false, true, true, true, true, false, false, false, false, false] rfl rfl (one_of HT_.out (by kernel_rfl)) (by decide) (fun K hK => ?_)
  refine goes_ Tryz.func56 (by kernel_rfl) rfl #[.string a.f0, .string b.f0] (by rfl) rfl rfl (by (try simp only [List.map_toArray, List.map_cons, List.map_nil]); first | done | rfl) ?_
  refine (qb_compare (w := w) a.f0 b.f0 _ HB0.out).mono ?_
  rintro e w1 ⟨rfl, hb⟩
  have HB1 := Aside0.mk (HB0.out.trans (hb.mono HB0.out.size))
  have Y1 := Aside0.mk (qak Y0.out hb)
  have Z1 := Aside0.mk (qak Z0.out hb)
  clear hb
  refine ⟨_, rfl, ?_⟩
  refine hK.out _ _ (lessS Y1.out Z1.out) (fun hHeld => ?_)
  clear hK K
  refine norm_ (a' := ?_) ?_ ?_
  rotate_left
  · first | (show Act.put _ (some 9) _ = _; simp only [Act.put, List.setIfInBounds_toArray, List.set_cons_zero, List.set_cons_succ, i64_w, i32_w]; rfl) | rfl
  refine one_ (i := 9) (N := some 14) #[true, true, true, true, true, true, true, true, true, true, true, true, true, true, false, false, false, false, false] rfl rfl (one_of HT_.out (by kernel_rfl)) (by decide) (fun K hK => ?_)
  refine goes_ Tryz.func57 (by kernel_rfl) rfl #[.string a.f1, .string b.f1] (by rfl) rfl rfl (by (try simp only [List.map_toArray, List.map_cons, List.map_nil]); first | done | rfl) ?_
  refine (qb_order HG.out a.f1 b.f1 _ HB1.out).mono ?_
  rintro e w2 ⟨rfl, hb⟩
  have HB2 := Aside0.mk (HB1.out.trans (hb.mono HB1.out.size))
  have Y2 := Aside0.mk (qak Y1.out hb)
  have Z2 := Aside0.mk (qak Z1.out hb)
  clear hb
  refine ⟨_, rfl, ?_⟩
  refine hK.out _ _ (lessS Y2.out Z2.out) (fun hHeld => ?_)
  clear hK K
  refine norm_ (a' := ?_) ?_ ?_
  rotate_left
  · first | (show Act.put _ (some 14) _ = _; simp only [Act.put, List.setIfInBounds_toArray, List.set_cons_zero, List.set_cons_succ, i64_w, i32_w]; rfl) | rfl
  refine one_ (i := 14) (N := some 19) #[true, true, true, true, true, true, true, true, true, true, true, true, true, true, true, false, false, false, false] rfl rfl (one_of HT_.out (by kernel_rfl)) (by decide) (fun K hK => ?_)
  refine goes_ Tryz.func56 (by kernel_rfl) rfl #[.string a.f1, .string b.f1] (by rfl) rfl rfl (by (try simp only [List.map_toArray, List.map_cons, List.map_nil]); first | done | rfl) ?_
  refine (qb_compare (w := w) a.f1 b.f1 _ HB2.out).mono ?_
  rintro e w3 ⟨rfl, hb⟩
  have HB3 := Aside0.mk (HB2.out.trans (hb.mono HB2.out.size))
  have Y3 := Aside0.mk (qak Y2.out hb)
  have Z3 := Aside0.mk (qak Z2.out hb)
  clear hb
  refine ⟨_, rfl, ?_⟩
  refine hK.out _ _ (lessS Y3.out Z3.out) (fun hHeld => ?_)
  clear hK K
  refine norm_ (a' := ?_) ?_ ?_
  rotate_left
  · first | (show Act.put _ (some 19) _ = _; simp only [Act.put, List.setIfInBounds_toArray, List.set_cons_zero, List.set_cons_succ, i64_w, i32_w]; rfl) | rfl
  refine one_ (i := 15) (N := some 20) #[true, true, true, true, true, true, true, true, true, true, true, true, true, true, true, true, false, false, false] rfl rfl (one_of HT_.out (by kernel_rfl)) (by decide) (fun K hK => ?_)
  rw [if_pos (by rfl)]
  go_simp
  have Y4 := Aside0.mk (qak Y3.out (qab (Below.refl _ _) (.cells #[.int .i64 (Lib.compareBytes (bs a.f0) (bs b.f0)), .int .i64 (orderV (bs a.f1) (bs b.f1)), .int .i64 (Lib.compareBytes (bs a.f1) (bs b.f1))] 3)))
  have Z4 := Aside0.mk (qak Z3.out (qab (Below.refl _ _) (.cells #[.int .i64 (Lib.compareBytes (bs a.f0) (bs b.f0)), .int .i64 (orderV (bs a.f1) (bs b.f1)), .int .i64 (Lib.compareBytes (bs a.f1) (bs b.f1))] 3)))
  have HB4 := Aside0.mk (qab HB3.out (.cells #[.int .i64 (Lib.compareBytes (bs a.f0) (bs b.f0)), .int .i64 (orderV (bs a.f1) (bs b.f1)), .int .i64 (Lib.compareBytes (bs a.f1) (bs b.f1))] 3))
  refine hK.out _ _ (lessS Y4.out Z4.out) (fun hHeld => ?_)
  clear hK K
  refine norm_ (a' := ?_) ?_ ?_
  rotate_left
  · first | (show Act.put _ (some 20) _ = _; simp only [Act.put, List.setIfInBounds_toArray, List.set_cons_zero, List.set_cons_succ, i64_w, i32_w]; rfl) | rfl
  refine one_ (i := 16) (N := some 21) #[true, true, true, true, true, true, true, true, true, true, true, true, true, true, true, true, true, false, false] rfl rfl (one_of HT_.out (by kernel_rfl)) (by decide) (fun K hK => ?_)
  refine goes_ Tryz.func55 (by kernel_rfl) rfl #[.slice (some ⟨w3.heap.size, 0, none⟩) 3 3] (by rfl) rfl rfl (by (try simp only [List.map_toArray, List.map_cons, List.map_nil]); first | done | rfl) ?_
  refine (or3_calls (HG.out.below HB4.out) (World.alloc_heap_new _ _)).mono ?_
  rintro e w5 ⟨rfl, hb⟩
  have HB5 := Aside0.mk (HB4.out.trans (hb.mono HB4.out.size))
  have Y5 := Aside0.mk (qak Y4.out hb)
  have Z5 := Aside0.mk (qak Z4.out hb)
  clear hb
  refine ⟨_, rfl, ?_⟩
  refine hK.out _ _ (lessS Y5.out Z5.out) (fun hHeld => ?_)
  clear hK K
  refine norm_ (a' := ?_) ?_ ?_
  rotate_left
  · first | (show Act.put _ (some 21) _ = _; simp only [Act.put, List.setIfInBounds_toArray, List.set_cons_zero, List.set_cons_succ, i64_w, i32_w]; rfl) | rfl
  refine pure_ (i := 17) (N := some 22) (v := ?_) (a' := ?_) #[true, true, true, true, true, true, true, true, true, true, true, true, true, true, true, true, true, true, false] rfl rfl (any_of HT_.out (by kernel_rfl)) (fun _ _ _ h => h) (Or.inl ⟨by rfl, ?_⟩) ?_ ?_
  rotate_left
  · intro w'
    go_simp
    (try with_reducible rfl)
  rotate_left
  · simp only [Act.put, List.setIfInBounds_toArray, List.set_cons_zero, List.set_cons_succ, i64_w, i32_w]
    rfl
  refine pure_ (i := 18) (N := some 4) (v := ?_) (a' := ?_) #[true, true, true, true, true, true, true, true, true, true, true, true, true, true, true, true, true, true, true] rfl rfl (any_of HT_.out (by kernel_rfl)) (fun _ _ _ h => h) (Or.inl ⟨by rfl, ?_⟩) ?_ ?_
  rotate_left
  · intro w'
    go_simp
    (try with_reducible rfl)
  rotate_left
  · simp only [Act.put, List.setIfInBounds_toArray, List.set_cons_zero, List.set_cons_succ, i64_w, i32_w]
    rfl
  refine done_ (done_of HT_.out (by kernel_rfl)) ?_
  go_wp2
  go_ret
  exact ⟨rfl, HB5.out⟩
end Go.Proofs.YtooomjcdlfdnmaaGreatDoor.Ent

namespace Go.Proofs.YtooomjcdlfdnmaaGreatDoor.Ent
open Go Go.RowKit Go.Shelf Go.Proofs.YtooomjcdlfdnmaaGreatDoorW.PrintWords Go.Proofs.YtooomjcdlfdnmaaGreatDoor.PA Go.Proofs.YtooomjcdlfdnmaaGreatDoor.Pure
structure Ord3 {α : Type} (c : α → α → Int) : Prop where
  rng : ∀ a b, -1 ≤ c a b ∧ c a b ≤ 1
  flip : ∀ a b, c a b = -c b a
  trans : ∀ x y z, c x y ≤ 0 → c y z ≤ 0 → c x z ≤ 0
theorem Ord3.self {α : Type} {c : α → α → Int} (h : Ord3 c) (a : α) : c a a = 0 := by have := h.flip a a; omega
theorem Ord3.comap {α β : Type} {c : α → α → Int} (h : Ord3 c) (f : β → α) : Ord3 (fun x y => c (f x) (f y)) := ⟨fun a b => h.rng _ _, fun a b => h.flip _ _, fun x y z => h.trans _ _ _⟩
theorem Ord3.then {α : Type} {c d : α → α → Int} (hc : Ord3 c) (hd : Ord3 d) : Ord3 (fun x y => if c x y = 0 then d x y else c x y) := by
  refine ⟨fun a b => ?_, fun a b => ?_, fun x y z => ?_⟩
  · have := hc.rng a b
    have := hd.rng a b
    show -1 ≤ (if c a b = 0 then d a b else c a b) ∧ (if c a b = 0 then d a b else c a b) ≤ 1
    split <;> omega
  · have := hc.flip a b
    have := hd.flip a b
    show (if c a b = 0 then d a b else c a b) = -(if c b a = 0 then d b a else c b a)
    (repeat' split) <;> omega
  · show (if c x y = 0 then d x y else c x y) ≤ 0 → (if c y z = 0 then d y z else c y z) ≤ 0 → (if c x z = 0 then d x z else c x z) ≤ 0
    have t1 := hc.trans x y z
    have t2 := hc.trans y z x
    have t3 := hc.trans z x y
    have f1 := hc.flip x y
    have f2 := hc.flip y z
    have f3 := hc.flip x z
    have u1 := hd.trans x y z
    intro h1 h2
    (repeat' split at h1) <;> (repeat' split at h2) <;> (repeat' split) <;> omega
theorem ord_cmpI : Ord3 cmpI := ⟨fun a b => by rcases cmpI_range a b with h | h | h <;> omega, cmpI_flip, fun x y z h1 h2 => by unfold cmpI at *; (repeat' split at h1) <;> (repeat' split at h2) <;> (repeat' split) <;> omega⟩
theorem ord_cmpT : Ord3 cmpT := by
  have rg : ∀ a b, cmpT a b = -1 ∨ cmpT a b = 0 ∨ cmpT a b = 1 := fun a b => lex_range _ _
  refine ⟨fun a b => by rcases rg a b with h | h | h <;> omega, cmpT_flip, fun x y z h1 h2 => ?_⟩
  rcases rg x y with h | h | h
  · rcases rg y z with k | k | k
    · have : cmpT x z = -1 := lex_trans h k
      omega
    · have : cmpT x y = cmpT x z := lex_zero_r _ k
      omega
    · omega
  · have : cmpT x z = cmpT y z := lex_zero_l _ h
    omega
  · omega
theorem ord_bytes : Ord3 Lib.compareBytes := by
  have fl : ∀ a b, Lib.compareBytes a b = -Lib.compareBytes b a := by
    intro a
    induction a with
    | nil => intro b; cases b <;> simp [Lib.compareBytes]
    | cons x xs ih =>
      intro b
      cases b with
      | nil => simp [Lib.compareBytes]
      | cons y ys =>
        simp only [Lib.compareBytes, UInt8.lt_iff_toNat_lt]
        have := ih ys
        (repeat' split) <;> omega
  have rg : ∀ a b, -1 ≤ Lib.compareBytes a b ∧ Lib.compareBytes a b ≤ 1 := by
    intro a
    induction a with
    | nil => intro b; cases b <;> simp [Lib.compareBytes]
    | cons x xs ih =>
      intro b
      cases b with
      | nil => simp [Lib.compareBytes]
      | cons y ys =>
        simp only [Lib.compareBytes]
        have := ih ys
        (repeat' split) <;> omega
  refine ⟨rg, fl, ?_⟩
  intro a
  induction a with
  | nil => intro b c _ _; cases c <;> simp [Lib.compareBytes]
  | cons x xs ih =>
    intro b c
    cases b with
    | nil => intro h; simp [Lib.compareBytes] at h
    | cons y ys =>
      cases c with
      | nil => intro _ h; simp [Lib.compareBytes] at h
      | cons z zs =>
        simp only [Lib.compareBytes, UInt8.lt_iff_toNat_lt]
        have := ih ys zs
        intro h1 h2
        (repeat' split at h1) <;> (repeat' split at h2) <;> (repeat' split) <;> omega
theorem bytes_zero : ∀ a b : List UInt8, Lib.compareBytes a b = 0 ↔ a = b := by
  intro a
  induction a with
  | nil => intro b; cases b <;> simp [Lib.compareBytes]
  | cons x xs ih =>
    intro b
    cases b with
    | nil => simp [Lib.compareBytes]
    | cons y ys =>
      simp only [Lib.compareBytes, List.cons.injEq]
      by_cases h1 : x < y
      · rw [if_pos h1]
        refine ⟨fun h => by omega, fun h => ?_⟩
        rw [h.1, UInt8.lt_iff_toNat_lt] at h1
        omega
      · rw [if_neg h1]
        by_cases h2 : y < x
        · rw [if_pos h2]
          refine ⟨fun h => by omega, fun h => ?_⟩
          rw [h.1, UInt8.lt_iff_toNat_lt] at h2
          omega
        · rw [if_neg h2, ih ys]
          rw [UInt8.lt_iff_toNat_lt] at h1 h2
          have he : x = y := UInt8.toNat_inj.1 (by omega)
          exact ⟨fun h => ⟨he, h⟩, fun h => h.2⟩
def verC (p q : Int × Bs × Bs × Int) : Int := compareV p.1 p.2.1 p.2.2.1 q.1 q.2.1 q.2.2.1
theorem ord_ver : Ord3 verC := by
  have h := (ord_cmpI.comap (fun p : Int × Bs × Bs × Int => p.1)).then ((ord_cmpT.comap (fun p : Int × Bs × Bs × Int => p.2.1)).then (ord_cmpT.comap (fun p : Int × Bs × Bs × Int => p.2.2.1)))
  have e : (fun x y : Int × Bs × Bs × Int => if cmpI x.1 y.1 = 0 then (if cmpT x.2.1 y.2.1 = 0 then cmpT x.2.2.1 y.2.2.1 else cmpT x.2.1 y.2.1) else cmpI x.1 y.1) = verC := by
    funext x y
    unfold verC compareV
    simp only [orI]
    (repeat' split) <;> simp_all
  rw [← e]
  exact h
theorem ord_order : Ord3 orderV := by
  refine ⟨fun a b => ?_, orderV_flip, fun x y z => ?_⟩
  · have := ord_ver.rng (parseV a) (parseV b)
    unfold verC at this
    unfold orderV
    (repeat' split) <;> omega
  · have := ord_ver.trans (parseV x) (parseV y) (parseV z)
    unfold verC at this
    unfold orderV
    intro h1 h2
    (repeat' split at h1) <;> (repeat' split at h2) <;> (repeat' split) <;> omega
theorem ord_less : Ord3 lessI := by
  have h := (ord_bytes.comap (fun e : E6 => bs e.f0)).then ((ord_order.comap (fun e : E6 => bs e.f1)).then (ord_bytes.comap (fun e : E6 => bs e.f1)))
  exact h
def sameV (a b : E6) : Bool := (a.f0.toList == b.f0.toList) && (a.f1.toList == b.f1.toList)
theorem less_zero (a b : E6) : lessI a b = 0 ↔ sameV a b = true := by
  have z0 := bytes_zero (bs a.f0) (bs b.f0)
  have z1 := bytes_zero (bs a.f1) (bs b.f1)
  have e0 : a.f0.toList = bs a.f0 := toList_data _
  have e1 : b.f0.toList = bs b.f0 := toList_data _
  have e2 : a.f1.toList = bs a.f1 := toList_data _
  have e3 : b.f1.toList = bs b.f1 := toList_data _
  unfold sameV lessI or3
  rw [e0, e1, e2, e3, Bool.and_eq_true, beq_iff_eq, beq_iff_eq, ← z0, ← z1]
  refine ⟨fun h => ?_, fun h => ?_⟩
  · split at h
    · split at h
      · exact ⟨by assumption, h⟩
      · contradiction
    · contradiction
  · rw [if_pos h.1]
    have := z1.1 h.2
    rw [this, ord_order.self, if_pos rfl, ord_bytes.self]
theorem less_law (a b c : E6) : lessE a a = false ∧ ((lessE a b = true ∧ lessE b a = false ∧ sameV a b = false) ∨ (lessE a b = false ∧ lessE b a = true ∧ sameV a b = false) ∨ (lessE a b = false ∧ lessE b a = false ∧ sameV a b = true)) ∧ (lessE a b = true → lessE b c = true → lessE a c = true) := by
  have h0 := ord_less.self a
  have f1 := ord_less.flip a b
  have f2 := ord_less.flip b c
  have f3 := ord_less.flip a c
  have t1 := ord_less.trans a b c
  have t2 := ord_less.trans c a b
  have t3 := ord_less.trans b c a
  have z := less_zero a b
  unfold lessE
  refine ⟨decide_eq_false (by omega), ?_, fun h1 h2 => ?_⟩
  · rcases Int.lt_trichotomy (lessI a b) 0 with h | h | h
    · refine .inl ⟨decide_eq_true h, decide_eq_false (by omega), ?_⟩
      cases hs : sameV a b with
      | false => rfl
      | true => have := z.2 hs; omega
    · exact .inr (.inr ⟨decide_eq_false (by omega), decide_eq_false (by omega), z.1 h⟩)
    · refine .inr (.inl ⟨decide_eq_false (by omega), decide_eq_true (by omega), ?_⟩)
      cases hs : sameV a b with
      | false => rfl
      | true => have := z.2 hs; omega
  · have h1 := of_decide_eq_true h1
    have h2 := of_decide_eq_true h2
    exact decide_eq_true (by omega)
end Go.Proofs.YtooomjcdlfdnmaaGreatDoor.Ent

