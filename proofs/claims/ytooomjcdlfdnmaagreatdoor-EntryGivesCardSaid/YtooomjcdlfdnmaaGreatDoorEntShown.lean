import Derived.Test.YtooomjcdlfdnmaaGreatDoorEntWrite
import Derived.Test.YtooomjcdlfdnmaaGreatDoorEntRead4
import Derived.Test.YtooomjcdlfdnmaaGreatDoorEntOrder
import Derived.Test.YtooomjcdlfdnmaaGreatDoorPAx11
import Derived.Test.YtooomjcdlfdnmaaGreatDoorPAx7
namespace Go.Proofs.YtooomjcdlfdnmaaGreatDoor.Ent
open Go Go.RowKit Go.Shelf Go.Proofs.YtooomjcdlfdnmaaGreatDoorW.PrintWords Go.Proofs.YtooomjcdlfdnmaaGreatDoor.PA Go.Proofs.YtooomjcdlfdnmaaGreatDoor.Pure
abbrev tAb : ByteArray := ⟨#[97, 98]⟩
abbrev tCd : ByteArray := ⟨#[99, 100]⟩
abbrev tVv : ByteArray := ⟨#[118, 118]⟩
abbrev t1 : ByteArray := ⟨#[49]⟩
def stL : List S49 := [⟨sPkg, tAb⟩, ⟨sVer, t1⟩, ⟨sDep, tCd⟩, ⟨⟨#[88]⟩, ⟨#[121]⟩⟩]
def shA : E6 := ⟨tAb, t1, [[⟨tCd, 0, ⟨#[]⟩⟩]], [], [], []⟩
def shB : E6 := ⟨tAb, t1, [], [], [⟨tVv, 0, ⟨#[]⟩⟩], []⟩
def shC : E6 := ⟨tCd, t1, [], [], [], [⟨tVv, 0, ⟨#[]⟩⟩]⟩
theorem read_st : readE stL = (shA, 0) := by kernel_rfl
theorem right_shA : rightE shA = true := by kernel_rfl
theorem write_shA : [⟨sPkg, shA.f0⟩, ⟨sVer, shA.f1⟩] ++ (fsE shA).filter hasF = stL.take 3 := by kernel_rfl
theorem fights_bc : fightsE shB shC = true := by kernel_rfl
theorem fights_cb : fightsE shC shB = true := by kernel_rfl
theorem fights_bb : fightsE shB shB = false := by kernel_rfl
theorem same_shA : keelsonlaw6_same.f 20 shA.f0 shA.f1 shA.f2 shA.f3 shA.f4 shA.f5 shA.f0 shA.f1 shA.f2 shA.f3 shA.f4 shA.f5 = some true := by kernel_rfl
theorem sameF_st : keelsonlaw6_sameFields.f 20 (stL.take 3) (stL.take 3) = some true := by kernel_rfl
end Go.Proofs.YtooomjcdlfdnmaaGreatDoor.Ent

namespace Go.Proofs.YtooomjcdlfdnmaaGreatDoor.Ent
open Go Go.RowKit Go.Shelf Go.Proofs.YtooomjcdlfdnmaaGreatDoorW.PrintWords Go.Proofs.YtooomjcdlfdnmaaGreatDoorW.PrintLast Go.Proofs.YtooomjcdlfdnmaaGreatDoor.PA Go.Proofs.YtooomjcdlfdnmaaGreatDoor.Pure
set_option linter.unusedVariables false
theorem C_one {α : Type} (d : Kd α) {W : World} {b : Nat} {cs : List Value} {ty : TypeId} {x : α} (hb : W.heap[b]? = some (.cells cs.toArray ty (0, 0))) (hx : d.K W x cs) : d.C W (some ⟨b, 0, none⟩) 1 [x] := by
  refine ⟨rfl, by omega, fun _ => ⟨⟨b, 0, none⟩, rfl, fun j p hj => ?_⟩⟩
  match j, hj with
  | 0, hj =>
    obtain rfl : x = p := by simpa using hj
    refine ⟨cs, d.K_len hx, hx, fun i u hi => ?_⟩
    rw [Addr.add_lit, Nat.zero_mul, Nat.zero_add, Nat.zero_add]
    simp [World.cell?, hb, hi]
theorem C_st {W : World} {b : Nat} {T : TypeId} {a0 b0 a1 b1 a2 b2 a3 b3 : ByteArray} (h : W.heap[b]? = some (.cells #[.string a0, .string b0, .string a1, .string b1, .string a2, .string b2, .string a3, .string b3] T (0, 0))) : KF.C W (some ⟨b, 0, none⟩) 4 [⟨a0, b0⟩, ⟨a1, b1⟩, ⟨a2, b2⟩, ⟨a3, b3⟩] := by
  have key : ∀ (p : S49) (j : Nat), W.cell? ⟨b, j * 2, none⟩ = some (.string p.f0) → W.cell? ⟨b, j * 2 + 1, none⟩ = some (.string p.f1) → ∃ c : List Value, c.length = KF.sz ∧ KF.K W p c ∧ ∀ i u, c[i]? = some u → W.cell? ((⟨b, 0, none⟩ : Addr).add (j * KF.sz + i)) = some u := fun p j h0 h1 => by
    refine ⟨[.string p.f0, .string p.f1], rfl, k49_mk W p, fun i u hi => ?_⟩
    rw [Addr.add_lit, Nat.zero_add]
    have hi' := (List.getElem?_eq_some_iff.1 hi).1
    match i, hi, hi' with
    | 0, hi, _ => obtain rfl : Value.string p.f0 = u := by simpa using hi
                  exact h0
    | 1, hi, _ => obtain rfl : Value.string p.f1 = u := by simpa using hi
                  exact h1
  refine ⟨rfl, by omega, fun _ => ⟨⟨b, 0, none⟩, rfl, fun j p hj => ?_⟩⟩
  match j, hj with
  | 0, hj => obtain rfl : (⟨a0, b0⟩ : S49) = p := by simpa using hj
             exact key _ 0 (by simp [World.cell?, h]) (by simp [World.cell?, h])
  | 1, hj => obtain rfl : (⟨a1, b1⟩ : S49) = p := by simpa using hj
             exact key _ 1 (by simp [World.cell?, h]) (by simp [World.cell?, h])
  | 2, hj => obtain rfl : (⟨a2, b2⟩ : S49) = p := by simpa using hj
             exact key _ 2 (by simp [World.cell?, h]) (by simp [World.cell?, h])
  | 3, hj => obtain rfl : (⟨a3, b3⟩ : S49) = p := by simpa using hj
             exact key _ 3 (by simp [World.cell?, h]) (by simp [World.cell?, h])
abbrev stO : Obj := .cells #[.string sPkg, .string tAb, .string sVer, .string t1, .string sDep, .string tCd, .string ⟨#[88]⟩, .string ⟨#[121]⟩] 49 (0, 0)
abbrev cdO : Obj := .cells #[.string tCd, .int .i64 0, .string ⟨#[]⟩] 27 (0, 0)
abbrev vvO : Obj := .cells #[.string tVv, .int .i64 0, .string ⟨#[]⟩] 27 (0, 0)
theorem smS_small (x : S27) (h : x.f0.size ≤ 100 ∧ x.f2.size ≤ 100) : smS x := ⟨by omega, by omega⟩
theorem SmL_nil : SmL ([] : List (List S27)) := ⟨by simp, fun g hg => (nomatch hg), fun g hg => (nomatch hg)⟩
theorem sm_shA : SmE shA := ⟨by decide, by decide, ⟨by decide, by decide, fun g hg x hx => by
  obtain rfl : g = [⟨tCd, 0, ⟨#[]⟩⟩] := by simpa [shA] using hg
  obtain rfl : x = ⟨tCd, 0, ⟨#[]⟩⟩ := by simpa using hx
  exact smS_small _ (by decide)⟩, SmL_nil, by decide, fun x hx => (nomatch hx), by decide, fun x hx => (nomatch hx)⟩
abbrev aB (n : Nat) : EA := ⟨none, 0, none, 0, some ⟨n, 0, none⟩, 1, none, 0⟩
abbrev aC (n : Nat) : EA := ⟨none, 0, none, 0, none, 0, some ⟨n, 0, none⟩, 1⟩
structure Fin2 (w W : World) : Prop where
  zB : W.heap[w.heap.size + 1]? = some (.cells (ecs shB (aB w.heap.size)) 25 (0, 0))
  zC : W.heap[w.heap.size + 1 + 1 + 1]? = some (.cells (ecs shC (aC (w.heap.size + 1 + 1))) 25 (0, 0))
  eB : EC W shB (aB w.heap.size)
  eC : EC W shC (aC (w.heap.size + 1 + 1))
  below : Below w.heap.size w W
theorem fin2_of (w : World) : Fin2 w ((((w.alloc vvO).alloc (.cells (ecs shB (aB w.heap.size)) 25)).alloc vvO).alloc (.cells (ecs shC (aC (w.heap.size + 1 + 1))) 25)) := by
  have e1 : (w.alloc vvO).heap.size = w.heap.size + 1 := by simp
  have e2 : ((w.alloc vvO).alloc (.cells (ecs shB (aB w.heap.size)) 25)).heap.size = w.heap.size + 1 + 1 := by simp
  have e3 : (((w.alloc vvO).alloc (.cells (ecs shB (aB w.heap.size)) 25)).alloc vvO).heap.size = w.heap.size + 1 + 1 + 1 := by simp
  have n0 := World.alloc_heap_new w vvO
  have n1 := World.alloc_heap_new (w.alloc vvO) (.cells (ecs shB (aB w.heap.size)) 25)
  have n2 := World.alloc_heap_new ((w.alloc vvO).alloc (.cells (ecs shB (aB w.heap.size)) 25)) vvO
  have n3 := World.alloc_heap_new (((w.alloc vvO).alloc (.cells (ecs shB (aB w.heap.size)) 25)).alloc vvO) (.cells (ecs shC (aC (w.heap.size + 1 + 1))) 25)
  rw [e1] at n1
  rw [e2] at n2
  rw [e3] at n3
  have k1 := (Below.heap_alloc _ (.cells (ecs shC (aC (w.heap.size + 1 + 1))) 25) _ (by rw [e3]; omega)).trans n2
  have k2 := (Below.heap_alloc _ (.cells (ecs shC (aC (w.heap.size + 1 + 1))) 25) (w.heap.size + 1) (by rw [e3]; omega)).trans ((Below.heap_alloc _ vvO _ (by rw [e2]; omega)).trans n1)
  have k3 := (Below.heap_alloc _ (.cells (ecs shC (aC (w.heap.size + 1 + 1))) 25) w.heap.size (by rw [e3]; omega)).trans ((Below.heap_alloc _ vvO _ (by rw [e2]; omega)).trans ((Below.heap_alloc _ (.cells (ecs shB (aB w.heap.size)) 25) _ (by rw [e1]; omega)).trans n0))
  refine ⟨k2, n3, ⟨Kd.C_nil _ _, Nat.le_refl _, Kd.C_nil _ _, Nat.le_refl _, ?_, Nat.le_refl _, Kd.C_nil _ _, Nat.le_refl _⟩, ⟨Kd.C_nil _ _, Nat.le_refl _, Kd.C_nil _ _, Nat.le_refl _, Kd.C_nil _ _, Nat.le_refl _, ?_, Nat.le_refl _⟩, qab (qab (qab (qab (Below.refl _ _) _) _) _) _⟩
  · exact C_one KA (cs := [.string tVv, .int .i64 0, .string ⟨#[]⟩]) k3 (k27_mk _ ⟨tVv, 0, ⟨#[]⟩⟩)
  · exact C_one KA (cs := [.string tVv, .int .i64 0, .string ⟨#[]⟩]) k1 (k27_mk _ ⟨tVv, 0, ⟨#[]⟩⟩)
theorem qb_fights {w : World} (hG : GL w) {a b : E6} {p q : EA} (ha : EC w a p) (hb : EC w b q) (la : a.f4.length ≤ 100000000) (lb : b.f5.length ≤ 100000000) (la5 : a.f5.length ≤ 100000000) (lb4 : b.f4.length ≤ 100000000) : QB w 18 #[.agg (ecs a p), .agg (ecs b q)] (.bool (fightsE a b)) :=
  fun W h => fights_calls (hG.below h) (ha.below h) (hb.below h) la lb la5 lb4
theorem same6 {w W : World} (hG : GL w) (hb : Below w.heap.size w W) {a1 : EA} (h : EC W shA a1) {b : Nat} (hg : KG.C W (some ⟨b, 0, none⟩) shA.f2.length shA.f2) :
    Calls Tryz.prog 29 #[.agg (ecs shA a1), .agg (ecs shA ⟨some ⟨b, 0, none⟩, 1, none, 0, none, 0, none, 0⟩)] W fun e w' => e = .returned (.bool true) ∧ Below W.heap.size W w' :=
  keelsonlaw6_same.calls 20 shA.f0 shA.f1 a1.A2 a1.c2 shA.f2 a1.A3 a1.c3 shA.f3 a1.A4 a1.c4 shA.f4 a1.A5 a1.c5 shA.f5 shA.f0 shA.f1 (some ⟨b, 0, none⟩) 1 shA.f2 none 0 shA.f3 none 0 shA.f4 none 0 shA.f5 true W (hG.below hb) h.r2 h.k2 h.r3 h.k3 h.r4 h.k4 h.r5 h.k5 hg (Nat.le_refl 1) (Kd.C_nil _ _) (Nat.le_refl _) (Kd.C_nil _ _) (Nat.le_refl _) (Kd.C_nil _ _) (Nat.le_refl _) same_shA
theorem sameF6 {w W : World} (hG : GL w) (hb : Below w.heap.size w W) {Aw : Option Addr} {cw b : Nat} (hC : KF.C W Aw (stL.take 3).length (stL.take 3)) (hc : (stL.take 3).length ≤ cw) (hs : W.heap[b]? = some stO) :
    Calls Tryz.prog 23 #[.slice Aw (stL.take 3).length cw, .slice (some ⟨b, 0, none⟩) (stL.take 3).length 4] W fun e w' => e = .returned (.bool true) ∧ Below W.heap.size W w' :=
  (keelsonlaw6_sameFields.calls 20 Aw cw (stL.take 3) (some ⟨b, 0, none⟩) 4 (stL.take 3) true W (hG.below hb) hC hc (Kd.C_take (C_st hs) (by decide)) (by decide) sameF_st).mono fun e w' ⟨h1, h2⟩ => ⟨h1, h2.below⟩
def shown3_.T : Bool × List (List Nat × List Nat) := (true, [([], []), ([], []), ([1], [1]), ([2], [2]), ([3], [3]), ([0, 4], [0, 4]), ([5, 5], [5]), ([6], [6]), ([7, 6], [6, 7]), ([6, 8], [6, 8]), ([9, 6], [9]), ([10], [10]), ([11, 10, 10], [10, 11]), ([10], [10]), ([13, 10], [10, 13]), ([12, 14, 12, 10], [10, 12, 14]), ([10, 15], [10, 15]), ([16, 15, 0, 1, 2, 3, 4, 5, 6, 7, 8, 9, 10, 11, 12, 13, 14, 15, 16], [16])])
def shown3_.B : List Nat := [0, 0, 2, 6, 14, 31, 63, 127, 255, 511, 1023, 2047, 4095, 2047, 10239, 32767, 65535, 131071]
theorem shown3_.tab : rtab .any (opsOf Tryz.f13 3) = shown3_.T := by kernel_rfl
theorem shown3_.bits : waitsOk shown3_.T.2 shown3_.B = true := by kernel_rfl
set_option maxRecDepth 100000 in
set_option maxHeartbeats 8000000 in
theorem shown_calls {w : World} (hG : GL w) : Calls Tryz.prog 13 #[] w fun en w' => en = .returned (.bool true) ∧ Below w.heap.size w w' := by
  have hb0 := qab (Below.refl w.heap.size w) stO
  have hs0 := World.alloc_heap_new w stO
  have hrd := read_calls (c := 4) (hG.below hb0) (C_st hs0) (by decide) (fun x hx => by
    have : x.f1.size < 2000 := List.all_eq_true.1 (show stL.all (fun x => decide (x.f1.size < 2000)) = true by decide) x hx |> of_decide_eq_true
    exact this)
  rw [show readE [⟨sPkg, tAb⟩, ⟨sVer, t1⟩, ⟨sDep, tCd⟩, ⟨⟨#[88]⟩, ⟨#[121]⟩⟩] = (shA, 0) from read_st] at hrd
  have HRD := Aside0.mk hrd
  have HG := Aside0.mk hG
  have HB0 := Aside0.mk hb0
  have ST0 := Aside0.mk hs0
  clear hrd hb0 hs0 hG
  go_enter Tryz.func13, Tryz.ntmps13
  go_wp2_with (go_at_call 28; refine HRD.out.mono ?_; rintro en w1 ⟨a1, rfl, hE, hb⟩; have EC1 := Aside0.mk hE; have HB1 := Aside0.mk (HB0.out.trans (hb.mono HB0.out.size)); have ST1 := Aside0.mk ((hb.block _ (Array.getElem?_eq_some_iff.1 ST0.out).1).trans ST0.out); clear hE hb)
  have hba := below_drew (qab (Below.refl w1.heap.size w1) (.cells (ecs shA a1) 25))
  have HB2 := Aside0.mk (HB1.out.trans (hba.mono HB1.out.size))
  have ST2 := Aside0.mk ((hba.block _ (Array.getElem?_eq_some_iff.1 ST1.out).1).trans ST1.out)
  have EC2 := Aside0.mk (EC1.out.below hba)
  have Y2 := Aside0.mk (show (w1.alloc (.cells (ecs shA a1) 25)).drew.heap[w1.heap.size]? = some (.cells (ecs shA a1) 25 (0, 0)) by rw [heap_drew']; exact World.alloc_heap_new _ _)
  clear hba
  refine start_ (n := 18) (S := fun w' => w'.cell? ⟨w1.heap.size, 0, none⟩ = some (.string shA.f0) ∧ w'.cell? ⟨w1.heap.size, 1, none⟩ = some (.string shA.f1) ∧ w'.cell? ⟨w1.heap.size, 2, none⟩ = some (.slice a1.A2 shA.f2.length a1.c2) ∧ w'.cell? ⟨w1.heap.size, 3, none⟩ = some (.slice a1.A3 shA.f3.length a1.c3) ∧ w'.cell? ⟨w1.heap.size, 4, none⟩ = some (.slice a1.A4 shA.f4.length a1.c4) ∧ w'.cell? ⟨w1.heap.size, 5, none⟩ = some (.slice a1.A5 shA.f5.length a1.c5)) (ds := []) #[false, false, false, false, false, false, false, false, false, false, false, false, false, false, false, false, false, false] (by kernel_rfl) rfl rfl (qap Y2.out) (fun hHeld => ?_); refine with_tabW shown3_.tab shown3_.bits (fun HT_ HW_ => ?_)
  generalize (w1.alloc (.cells (ecs shA a1) 25)).drew = w2 at HB2 ST2 EC2 Y2 hHeld ⊢
  refine pure_ (i := 1) (N := some 18) (v := ?_) (a' := ?_) #[false, true, false, false, false, false, false, false, false, false, false, false, false, false, false, false, false, false] rfl rfl (any_of HT_.out (by kernel_rfl)) (fun _ _ _ h => h) (Or.inl ⟨by rfl, ?_⟩) ?_ ?_
  rotate_left
  · intro w'
    go_simp
    (try with_reducible rfl)
  rotate_left
  · simp only [Act.put, List.setIfInBounds_toArray, List.set_cons_zero, List.set_cons_succ, i64_w, i32_w]
    rfl
  refine take_ (i := 0) (N := some 17) (v := ?_) (a' := ?_) #[true, true, false, false, false, false, false, false, false, false, false, false, false, false, false, false, false, false] rfl rfl (take_ofW HT_.out HW_.out (by kernel_rfl)) (fun _ _ _ h => h) (Or.inl ⟨by rfl, ?_⟩) hHeld ?_ ?_
  rotate_left
  · rintro w' ⟨s0, s1, s2, s3, s4, s5⟩
    go_simp
    (try with_reducible rfl)
  rotate_left
  · simp only [Act.put, List.setIfInBounds_toArray, List.set_cons_zero, List.set_cons_succ, i64_w, i32_w]
    rfl
  refine one_ (i := 2) (N := some 19) #[true, true, true, false, false, false, false, false, false, false, false, false, false, false, false, false, false, false] rfl rfl (one_of HT_.out (by kernel_rfl)) (by decide) (fun K hK => ?_)
  rw [if_pos (by rfl)]
  go_simp
  have hb := qab (Below.refl w2.heap.size w2) (cdO)
  have HB3 := Aside0.mk (HB2.out.trans (hb.mono HB2.out.size))
  have Y3 := Aside0.mk (ecs_keep Y2.out hb)
  have ST3 := Aside0.mk ((hb.block _ (Array.getElem?_eq_some_iff.1 ST2.out).1).trans ST2.out)
  have EC3 := Aside0.mk (EC2.out.below hb)
  have N3 := Aside0.mk (World.alloc_heap_new w2 (cdO))
  refine hK.out _ _ (qap Y3.out) (fun hHeld => ?_)
  clear hb
  show wpAnyLast _ _ _ _ _ _ _ _ _ (w2.alloc (cdO))
  generalize w2.alloc (cdO) = w3 at HB3 Y3 ST3 EC3 N3 hHeld ⊢
  clear hK K
  refine norm_ (a' := ?_) ?_ ?_
  rotate_left
  · first | (show Act.put _ (some 19) _ = _; simp only [Act.put, List.setIfInBounds_toArray, List.set_cons_zero, List.set_cons_succ, i64_w, i32_w]; rfl) | rfl
  refine one_ (i := 3) (N := some 20) #[true, true, true, true, false, false, false, false, false, false, false, false, false, false, false, false, false, false] rfl rfl (one_of HT_.out (by kernel_rfl)) (by decide) (fun K hK => ?_)
  rw [if_pos (by rfl)]
  go_simp
  have hb := qab (Below.refl w3.heap.size w3) (.cells #[.slice (some ⟨w2.heap.size, 0, none⟩) 1 1] 77 (0, 0))
  have HB4 := Aside0.mk (HB3.out.trans (hb.mono HB3.out.size))
  have Y4 := Aside0.mk (ecs_keep Y3.out hb)
  have ST4 := Aside0.mk ((hb.block _ (Array.getElem?_eq_some_iff.1 ST3.out).1).trans ST3.out)
  have EC4 := Aside0.mk (EC3.out.below hb)
  have N4 := Aside0.mk (World.alloc_heap_new w3 (.cells #[.slice (some ⟨w2.heap.size, 0, none⟩) 1 1] 77 (0, 0)))
  have N34 := Aside0.mk ((hb.block _ (Array.getElem?_eq_some_iff.1 N3.out).1).trans N3.out)
  refine hK.out _ _ (qap Y4.out) (fun hHeld => ?_)
  clear hb
  show wpAnyLast _ _ _ _ _ _ _ _ _ (w3.alloc (.cells #[.slice (some ⟨w2.heap.size, 0, none⟩) 1 1] 77))
  generalize w3.alloc (.cells #[.slice (some ⟨w2.heap.size, 0, none⟩) 1 1] 77) = w4 at HB4 Y4 ST4 EC4 N4 N34 hHeld ⊢
  have G4 := Aside0.mk (show KG.C w4 (some ⟨w3.heap.size, 0, none⟩) shA.f2.length shA.f2 from C_one KG (cs := [.slice (some ⟨w2.heap.size, 0, none⟩) 1 1]) N4.out ⟨some ⟨w2.heap.size, 0, none⟩, 1, rfl, Nat.le_refl 1, C_one KA (cs := [.string tCd, .int .i64 0, .string ⟨#[]⟩]) N34.out (k27_mk w4 ⟨tCd, 0, ⟨#[]⟩⟩)⟩)
  clear hK K
  refine norm_ (a' := ?_) ?_ ?_
  rotate_left
  · first | (show Act.put _ (some 20) _ = _; simp only [Act.put, List.setIfInBounds_toArray, List.set_cons_zero, List.set_cons_succ, i64_w, i32_w]; rfl) | rfl
  refine pure_ (i := 4) (N := some 21) (v := ?_) (a' := ?_) #[true, true, true, true, true, false, false, false, false, false, false, false, false, false, false, false, false, false] rfl rfl (any_of HT_.out (by kernel_rfl)) (fun _ _ _ h => h) (Or.inl ⟨by rfl, ?_⟩) ?_ ?_
  rotate_left
  · intro w'
    go_simp
    (try with_reducible rfl)
  rotate_left
  · simp only [Act.put, List.setIfInBounds_toArray, List.set_cons_zero, List.set_cons_succ, i64_w, i32_w]
    rfl
  refine one_ (i := 5) (N := some 22) #[true, true, true, true, true, true, false, false, false, false, false, false, false, false, false, false, false, false] rfl rfl (one_of HT_.out (by kernel_rfl)) (by decide) (fun K hK => ?_)
  refine goes_ Tryz.func29 (by kernel_rfl) rfl #[.agg (ecs shA a1), .agg (ecs shA ⟨some ⟨w3.heap.size, 0, none⟩, 1, none, 0, none, 0, none, 0⟩)] (by rfl) rfl rfl (by (try simp only [List.map_toArray, List.map_cons, List.map_nil]); first | done | rfl) ?_
  refine (same6 HG.out HB4.out EC4.out G4.out).mono ?_
  rintro en w5 ⟨rfl, hb⟩
  have HB5 := Aside0.mk (HB4.out.trans (hb.mono HB4.out.size))
  have Y5 := Aside0.mk (ecs_keep Y4.out hb)
  have ST5 := Aside0.mk ((hb.block _ (Array.getElem?_eq_some_iff.1 ST4.out).1).trans ST4.out)
  have EC5 := Aside0.mk (EC4.out.below hb)
  refine ⟨_, rfl, ?_⟩
  refine hK.out _ _ (qap Y5.out) (fun hHeld => ?_)
  clear hK K
  refine norm_ (a' := ?_) ?_ ?_
  rotate_left
  · first | (show Act.put _ (some 22) _ = _; simp only [Act.put, List.setIfInBounds_toArray, List.set_cons_zero, List.set_cons_succ, i64_w, i32_w]; rfl) | rfl
  refine pure_ (i := 6) (N := some 23) (v := ?_) (a' := ?_) #[true, true, true, true, true, true, true, false, false, false, false, false, false, false, false, false, false, false] rfl rfl (any_of HT_.out (by kernel_rfl)) (fun _ _ _ h => h) (Or.inl ⟨by rfl, ?_⟩) ?_ ?_
  rotate_left
  · intro w'
    go_simp
    (try with_reducible rfl)
  rotate_left
  · simp only [Act.put, List.setIfInBounds_toArray, List.set_cons_zero, List.set_cons_succ, i64_w, i32_w]
    rfl
  refine pure_ (i := 7) (N := some 24) (v := ?_) (a' := ?_) #[true, true, true, true, true, true, true, true, false, false, false, false, false, false, false, false, false, false] rfl rfl (any_of HT_.out (by kernel_rfl)) (fun _ _ _ h => h) (Or.inl ⟨by rfl, ?_⟩) ?_ ?_
  rotate_left
  · intro w'
    go_simp
    (try with_reducible rfl)
  rotate_left
  · simp only [Act.put, List.setIfInBounds_toArray, List.set_cons_zero, List.set_cons_succ, i64_w, i32_w]
    rfl
  refine pure_ (i := 8) (N := some 25) (v := ?_) (a' := ?_) #[true, true, true, true, true, true, true, true, true, false, false, false, false, false, false, false, false, false] rfl rfl (any_of HT_.out (by kernel_rfl)) (fun _ _ _ h => h) (Or.inl ⟨by rfl, ?_⟩) ?_ ?_
  rotate_left
  · intro w'
    go_simp
    (try with_reducible rfl)
  rotate_left
  · simp only [Act.put, List.setIfInBounds_toArray, List.set_cons_zero, List.set_cons_succ, i64_w, i32_w]
    rfl
  refine pure_ (i := 9) (N := some 26) (v := ?_) (a' := ?_) #[true, true, true, true, true, true, true, true, true, true, false, false, false, false, false, false, false, false] rfl rfl (any_of HT_.out (by kernel_rfl)) (fun _ _ _ h => h) (Or.inl ⟨by rfl, ?_⟩) ?_ ?_
  rotate_left
  · intro w'
    go_simp
    (try with_reducible rfl)
  rotate_left
  · simp only [Act.put, List.setIfInBounds_toArray, List.set_cons_zero, List.set_cons_succ, i64_w, i32_w]
    rfl
  refine pure_ (i := 10) (N := some 27) (v := ?_) (a' := ?_) #[true, true, true, true, true, true, true, true, true, true, true, false, false, false, false, false, false, false] rfl rfl (any_of HT_.out (by kernel_rfl)) (fun _ _ _ h => h) (Or.inl ⟨by rfl, ?_⟩) ?_ ?_
  rotate_left
  · intro w'
    go_simp
    (try with_reducible rfl)
  rotate_left
  · simp only [Act.put, List.setIfInBounds_toArray, List.set_cons_zero, List.set_cons_succ, i64_w, i32_w]
    rfl
  refine pure_ (i := 13) (N := some 30) (v := ?_) (a' := ?_) #[true, true, true, true, true, true, true, true, true, true, true, false, false, true, false, false, false, false] rfl rfl (any_of HT_.out (by kernel_rfl)) (fun _ _ _ h => h) (Or.inl ⟨by rfl, ?_⟩) ?_ ?_
  rotate_left
  · intro w'
    go_simp
    (try with_reducible rfl)
  rotate_left
  · simp only [Act.put, List.setIfInBounds_toArray, List.set_cons_zero, List.set_cons_succ, i64_w, i32_w]
    rfl
  refine pure_ (i := 14) (N := some 31) (v := ?_) (a' := ?_) #[true, true, true, true, true, true, true, true, true, true, true, false, false, true, true, false, false, false] rfl rfl (any_of HT_.out (by kernel_rfl)) (fun _ _ _ h => h) (Or.inl ⟨by rfl, ?_⟩) ?_ ?_
  rotate_left
  · intro w'
    go_simp
    (try with_reducible rfl)
  rotate_left
  · simp only [Act.put, List.setIfInBounds_toArray, List.set_cons_zero, List.set_cons_succ, i64_w, i32_w]
    rfl
  refine take_ (i := 11) (N := some 28) (v := ?_) (a' := ?_) #[true, true, true, true, true, true, true, true, true, true, true, true, false, true, true, false, false, false] rfl rfl (take_ofW HT_.out HW_.out (by kernel_rfl)) (fun _ _ _ h => h) (Or.inl ⟨by rfl, ?_⟩) hHeld ?_ ?_
  rotate_left
  · rintro w' ⟨s0, s1, s2, s3, s4, s5⟩
    go_simp
    (try with_reducible rfl)
  rotate_left
  · simp only [Act.put, List.setIfInBounds_toArray, List.set_cons_zero, List.set_cons_succ, i64_w, i32_w]
    rfl
  refine one_ (i := 12) (N := some 29) #[true, true, true, true, true, true, true, true, true, true, true, true, true, true, true, false, false, false] rfl rfl (one_of HT_.out (by kernel_rfl)) (by decide) (fun K hK => ?_)
  refine goes_ Tryz.func24 (by kernel_rfl) rfl #[.agg (ecs shA a1)] (by rfl) rfl rfl (by (try simp only [List.map_toArray, List.map_cons, List.map_nil]); first | done | rfl) ?_
  refine (write_yes (HG.out.below HB5.out) EC5.out sm_shA right_shA).mono ?_
  rintro en w6 ⟨v, rfl, hR, hb⟩
  have HB6 := Aside0.mk (HB5.out.trans (hb.mono HB5.out.size))
  have Y6 := Aside0.mk (ecs_keep Y5.out hb)
  have ST6 := Aside0.mk ((hb.block _ (Array.getElem?_eq_some_iff.1 ST5.out).1).trans ST5.out)
  have EC6 := Aside0.mk (EC5.out.below hb)
  refine ⟨_, rfl, ?_⟩
  rw [write_shA] at hR
  obtain ⟨Aw, cw, rfl, hcw, hCw⟩ := Kd.R_reads hR
  have CW := Aside0.mk hCw
  have KW := Aside0.mk hcw
  clear hR hCw hcw hb
  refine hK.out _ _ (qap Y6.out) (fun hHeld => ?_)
  clear hK K
  refine norm_ (a' := ?_) ?_ ?_
  rotate_left
  · first | (show Act.put _ (some 29) _ = _; simp only [Act.put, List.setIfInBounds_toArray, List.set_cons_zero, List.set_cons_succ, i64_w, i32_w]; rfl) | rfl
  refine one_ (i := 15) (N := some 32) #[true, true, true, true, true, true, true, true, true, true, true, true, true, true, true, true, false, false] rfl rfl (one_of HT_.out (by kernel_rfl)) (by decide) (fun K hK => ?_)
  refine goes_ Tryz.func23 (by kernel_rfl) rfl #[.slice Aw 3 cw, .slice (some ⟨w.heap.size, 0, none⟩) 3 4] (by rfl) rfl rfl (by (try simp only [List.map_toArray, List.map_cons, List.map_nil]); first | done | rfl) ?_
  refine (sameF6 HG.out HB6.out CW.out KW.out ST6.out).mono ?_
  rintro en w7 ⟨rfl, hb⟩
  have HB7 := Aside0.mk (HB6.out.trans (hb.mono HB6.out.size))
  have Y7 := Aside0.mk (ecs_keep Y6.out hb)
  have ST7 := Aside0.mk ((hb.block _ (Array.getElem?_eq_some_iff.1 ST6.out).1).trans ST6.out)
  have EC7 := Aside0.mk (EC6.out.below hb)
  refine ⟨_, rfl, ?_⟩
  refine hK.out _ _ (qap Y7.out) (fun hHeld => ?_)
  clear hK K
  refine norm_ (a' := ?_) ?_ ?_
  rotate_left
  · first | (show Act.put _ (some 32) _ = _; simp only [Act.put, List.setIfInBounds_toArray, List.set_cons_zero, List.set_cons_succ, i64_w, i32_w]; rfl) | rfl
  refine pure_ (i := 16) (N := some 33) (v := ?_) (a' := ?_) #[true, true, true, true, true, true, true, true, true, true, true, true, true, true, true, true, true, false] rfl rfl (any_of HT_.out (by kernel_rfl)) (fun _ _ _ h => h) (Or.inl ⟨by rfl, ?_⟩) ?_ ?_
  rotate_left
  · intro w'
    go_simp
    (try with_reducible rfl)
  rotate_left
  · simp only [Act.put, List.setIfInBounds_toArray, List.set_cons_zero, List.set_cons_succ, i64_w, i32_w]
    rfl
  refine pure_ (i := 17) (N := some 4) (v := ?_) (a' := ?_) #[true, true, true, true, true, true, true, true, true, true, true, true, true, true, true, true, true, true] rfl rfl (any_of HT_.out (by kernel_rfl)) (fun _ _ _ h => h) (Or.inl ⟨by rfl, ?_⟩) ?_ ?_
  rotate_left
  · intro w'
    go_simp
    (try with_reducible rfl)
  rotate_left
  · simp only [Act.put, List.setIfInBounds_toArray, List.set_cons_zero, List.set_cons_succ, i64_w, i32_w]
    rfl
  refine done_ (done_of HT_.out (by kernel_rfl)) ?_
  have hF := fin2_of w7
  have hGF := HG.out.below (HB7.out.trans (hF.below.mono HB7.out.size))
  have q1 := qb_fights hGF hF.eB hF.eC (by decide) (by decide) (by decide) (by decide)
  have q2 := qb_fights hGF hF.eC hF.eB (by decide) (by decide) (by decide) (by decide)
  have q3 := qb_fights hGF hF.eB hF.eB (by decide) (by decide) (by decide) (by decide)
  rw [fights_bc] at q1
  rw [fights_cb] at q2
  rw [fights_bb] at q3
  have Q1 := Aside0.mk q1
  have Q2 := Aside0.mk q2
  have Q3 := Aside0.mk q3
  have HF := Aside0.mk hF
  clear q1 q2 q3 hF hGF
  go_wp2_with (first
    | (go_at_call 18; refine (Q3.out _ R9.out).mono ?_; rintro en w10 ⟨rfl, hb⟩; have R10 := Aside0.mk (R9.out.trans (hb.mono R9.out.size)); clear hb)
    | (go_at_call 18; refine (Q2.out _ R8.out).mono ?_; rintro en w9 ⟨rfl, hb⟩; have R9 := Aside0.mk (R8.out.trans (hb.mono R8.out.size)); clear hb x0 x1 x2 x3 x4 x5 y0 y1 y2 y3 y4 y5; obtain ⟨x0, x1, x2, x3, x4, x5⟩ := qap (ecs_keep HF.out.zB R9.out); obtain ⟨y0, y1, y2, y3, y4, y5⟩ := qap (ecs_keep HF.out.zC R9.out))
    | (go_at_call 18; refine (Q1.out _ (Below.refl _ _)).mono ?_; rintro en w8 ⟨rfl, hb⟩; have R8 := Aside0.mk hb; clear hb; obtain ⟨x0, x1, x2, x3, x4, x5⟩ := qap (ecs_keep HF.out.zB R8.out); obtain ⟨y0, y1, y2, y3, y4, y5⟩ := qap (ecs_keep HF.out.zC R8.out)))
  go_ret
  exact ⟨rfl, HB7.out.trans ((HF.out.below.trans (R10.out.mono HF.out.below.size)).mono HB7.out.size)⟩
end Go.Proofs.YtooomjcdlfdnmaaGreatDoor.Ent

