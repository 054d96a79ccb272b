import Derived.Test.YtiidmjmkgjfaeaaGreatDoorEntRight
import Derived.Test.YtiidmjmkgjfaeaaGreatDoorStPrint
namespace Go.Proofs.YtiidmjmkgjfaeaaGreatDoor.Ent
open Go
abbrev sPkg : ByteArray := (⟨#[80,97,99,107,97,103,101]⟩ : ByteArray)
abbrev sVer : ByteArray := (⟨#[86,101,114,115,105,111,110]⟩ : ByteArray)
abbrev sDep : ByteArray := (⟨#[68,101,112,101,110,100,115]⟩ : ByteArray)
abbrev sRec : ByteArray := (⟨#[82,101,99,111,109,109,101,110,100,115]⟩ : ByteArray)
abbrev sCon : ByteArray := (⟨#[67,111,110,102,108,105,99,116,115]⟩ : ByteArray)
abbrev sPro : ByteArray := (⟨#[80,114,111,118,105,100,101,115]⟩ : ByteArray)
theorem heap_drew' (W : World) : W.drew.heap = W.heap := rfl
end Go.Proofs.YtiidmjmkgjfaeaaGreatDoor.Ent

namespace Go.Proofs.YtiidmjmkgjfaeaaGreatDoor.Ent
open Go Go.RowKit Go.Shelf Go.Proofs.YtiidmjmkgjfaeaaGreatDoorW.PrintWords Go.Proofs.YtiidmjmkgjfaeaaGreatDoorW.PrintLast Go.Proofs.YtiidmjmkgjfaeaaGreatDoor.PA Go.Proofs.YtiidmjmkgjfaeaaGreatDoor.Pure
set_option linter.unusedVariables false
set_option linter.unusedSimpArgs false
theorem infoF : (Tryz.prog.info? 92).map (fun i => (i.zero,i.size,i.bytes)) = some (some (.agg #[.string ⟨#[]⟩,.string ⟨#[]⟩]),2,32) := by kernel_rfl
def txD (e : E6) : ByteArray := mk (printL e.f2)
def txR (e : E6) : ByteArray := mk (printL e.f3)
def txC (e : E6) : ByteArray := mk (printL (ones e.f4))
def txP (e : E6) : ByteArray := mk (printL (ones e.f5))
def fsE (e : E6) : List S92 := [⟨sDep,txD e⟩,⟨sRec,txR e⟩,⟨sCon,txC e⟩,⟨sPro,txP e⟩]
def hasF (f : S92) : Bool := !f.f1.toList.isEmpty
theorem qb_right {w : World} (hG : GL w) {e : E6} {a : EA} (h : EC w e a) (s : SmE e) : QB w 61 #[.agg (ecs e a)] (.bool (rightE e)) := fun W hb => right_calls (hG.below hb) (h.below hb) s
abbrev fsO (e : E6) : Obj := .cells #[.string sDep,.string (txD e),.string sRec,.string (txR e),.string sCon,.string (txC e),.string sPro,.string (txP e)] 92 (0,0)
theorem fs_at {W : World} {B : Nat} {e : E6} (h : W.heap[B]? = some (fsO e)) (i : Nat) (hi : i < 4) : ∃ x,(fsE e)[i]? = some x ∧ W.cell? ⟨B,i * 2,none⟩ = some (.string x.f0) ∧ W.cell? ⟨B,i * 2 + 1,none⟩ = some (.string x.f1) := by
 match i,hi with
 | 0,_ => exact ⟨_,rfl,by simp [World.cell?,h],by simp [World.cell?,h]⟩
 | 1,_ => exact ⟨_,rfl,by simp [World.cell?,h],by simp [World.cell?,h]⟩
 | 2,_ => exact ⟨_,rfl,by simp [World.cell?,h],by simp [World.cell?,h]⟩
 | 3,_ => exact ⟨_,rfl,by simp [World.cell?,h],by simp [World.cell?,h]⟩
theorem take_filter {l : List S92} {i : Nat} {x : S92} (h : l[i]? = some x) : (l.take (i + 1)).filter hasF = (l.take i).filter hasF ++ (if hasF x = true then [x] else []) := by
 obtain ⟨hi,rfl⟩ := List.getElem?_eq_some_iff.1 h
 rw [List.take_succ_eq_append_getElem hi,List.filter_append]
 congr 1
 cases hx : hasF l[i] <;> simp [hx]
theorem litF {W : World} (base : Nat) (hb : base ≤ W.heap.size) (a b c d : ByteArray) (ok : Nat → Prop) (hok : ok W.heap.size) :
  KF.R 92 (W.alloc (.cells #[.string a,.string b,.string c,.string d] 92)) base ok (.slice (some ⟨W.heap.size,0,none⟩) 2 2) [⟨a,b⟩,⟨c,d⟩] := by
 refine ⟨fun k hk => ?_,[.string a,.string b,.string c,.string d],?_,?_⟩
 ·have : W.heap.size = k := by simpa [Value.ownBlock] using hk
  subst this
  exact hok
 ·have h2 := World.ownsRow_lit (base := base) (e := 92) (size := KF.sz) W #[.string a,.string b,.string c,.string d] 2 hb (by simp [maxLen]) (by rfl)
  simpa using h2
 ·refine ⟨rfl,fun j p hj => ?_⟩
  match j,hj with
  | 0,hj =>
   obtain rfl : (⟨a,b⟩ : S92) = p := by simpa using hj
   exact k92_mkM _ _ _ ⟨a,b⟩
  | 1,hj =>
   obtain rfl : (⟨c,d⟩ : S92) = p := by simpa using hj
   exact k92_mkM _ _ _ ⟨c,d⟩
def WInv (w : World) (B : Nat) (e : E6) (i : Nat) (v : Value) (wr : World) : Prop := KF.R 92 wr w.heap.size (fun k => k ≠ B) v ([⟨sPkg,e.f0⟩,⟨sVer,e.f1⟩] ++ ((fsE e).take i).filter hasF) ∧ wr.heap[B]? = some (fsO e) ∧ Below w.heap.size w wr
def write4.T : Bool × List (List Nat × List Nat) := (true,[([],[]),([0],[0]),([1],[1]),([2],[2]),([],[]),([4],[4]),([5,2],[5]),([6],[6]),([],[]),([8],[8]),([9,6],[9]),([10],[10]),([],[]),([12],[12]),([13,10],[13]),([14],[14]),([3,7,11,15],[3,7,11,15]),([16],[16]),([],[])])
def write4.B : List Nat := [0,1,3,7,0,16,55,119,0,256,887,1911,0,4096,14199,30583,65535,131071,0]
theorem write4.tab : rtab .any (opsOf Tryz.f62 4) = write4.T := by kernel_rfl
theorem write4.bits : waitsOk write4.T.2 write4.B = true := by kernel_rfl
set_option maxRecDepth 100000 in
set_option maxHeartbeats 4000000 in
theorem write_yes {w : World} (hG : GL w) {e : E6} {a : EA} (h : EC w e a) (s : SmE e) (hr : rightE e = true) :
  Calls Tryz.prog 62 #[.agg (ecs e a)] w fun en w' => ∃ v,en = .returned v ∧ KF.R 92 w' w.heap.size (fun _ => True) v ([⟨sPkg,e.f0⟩,⟨sVer,e.f1⟩] ++ (fsE e).filter hasF) ∧ Below w.heap.size w w' := by
 have z0 := one_box w e a 37
 have HR := Aside0.mk (qb_right hG h s)
 rw [hr] at HR
 have P2 := Aside0.mk (qb_dprint hG a.A2 a.c2 e.f2 s.s2 h.r2 h.k2)
 have P3 := Aside0.mk (qb_dprint hG a.A3 a.c3 e.f3 s.s3 h.r3 h.k3)
 have P4 := Aside0.mk (qb_djoin hG a.A4 a.c4 e.f4 s.l4 s.s4 h.r4 h.k4)
 have P5 := Aside0.mk (qb_djoin hG a.A5 a.c5 e.f5 s.l5 s.s5 h.r5 h.k5)
 have Y0 := Aside0.mk z0
 have HG := Aside0.mk hG
 clear h s hr z0 hG
 go_enter Tryz.func62,Tryz.ntmps62
 go_wp2_with (go_at_call 61;refine (HR.out _ (qab (Below.refl _ _) _)).mono ?_;rintro en w1 ⟨rfl,hb1⟩;have HB1 := Aside0.mk ((qab (Below.refl w.heap.size w) (.cells (ecs e a) 37)).trans (hb1.mono (by simp)));have h1 := ecs_keep Y0.out hb1;obtain ⟨x0,x1,x2,x3,x4,x5⟩ := ecs_cells h1;have Y1 := Aside0.mk h1;clear hb1 h1)
 have y2 : (w1.alloc (.cells #[.string sPkg,.string e.f0,.string sVer,.string e.f1] 92)).drew.heap[w.heap.size]? = some (.cells (ecs e a) 37 (0,0)) := by rw [heap_drew'];exact (Below.heap_alloc _ _ _ (Array.getElem?_eq_some_iff.1 Y1.out).1).trans Y1.out
 have Y2 := Aside0.mk y2
 have HB2 := Aside0.mk (show Below w.heap.size w (w1.alloc (.cells #[.string sPkg,.string e.f0,.string sVer,.string e.f1] 92)).drew from below_drew (qab HB1.out _))
 have RB2 := Aside0.mk (Below.refl (w1.alloc (.cells #[.string sPkg,.string e.f0,.string sVer,.string e.f1] 92)).drew.heap.size (w1.alloc (.cells #[.string sPkg,.string e.f0,.string sVer,.string e.f1] 92)).drew)
 clear y2 x0 x1 x2 x3 x4 x5
 refine start_ (n := 19) (S := fun w' => w'.cell? ⟨w.heap.size,0,none⟩ = some (.string e.f0) ∧ w'.cell? ⟨w.heap.size,1,none⟩ = some (.string e.f1) ∧ w'.cell? ⟨w.heap.size,2,none⟩ = some (.slice a.A2 e.f2.length a.c2) ∧ w'.cell? ⟨w.heap.size,3,none⟩ = some (.slice a.A3 e.f3.length a.c3) ∧ w'.cell? ⟨w.heap.size,4,none⟩ = some (.slice a.A4 e.f4.length a.c4) ∧ w'.cell? ⟨w.heap.size,5,none⟩ = some (.slice a.A5 e.f5.length a.c5)) (ds := []) (mb 19 0) (by kernel_rfl) rfl rfl (ecs_cells Y2.out) (fun hHeld => ?_);refine with_tabW write4.tab write4.bits (fun HT_ HW_ => ?_)
 refine pure_ (i := 0) (N := some 16) (v := ?_) (a' := ?_) (mb 19 1) rfl rfl (any_of HT_.out (by kernel_rfl)) (fun _ _ _ h => h) (Or.inl ⟨by rfl,?_⟩) ?_ ?_
 rotate_left
 ·intro w'
  go_simp
  (try with_reducible rfl)
 rotate_left
 ·simp only [Act.put,List.setIfInBounds_toArray,List.set_cons_zero,List.set_cons_succ,i64_w,i32_w]
  rfl
 refine pure_ (i := 4) (N := some 20) (v := ?_) (a' := ?_) (mb 19 17) rfl rfl (any_of HT_.out (by kernel_rfl)) (fun _ _ _ h => h) (Or.inl ⟨by rfl,?_⟩) ?_ ?_
 rotate_left
 ·intro w'
  go_simp
  (try with_reducible rfl)
 rotate_left
 ·simp only [Act.put,List.setIfInBounds_toArray,List.set_cons_zero,List.set_cons_succ,i64_w,i32_w]
  rfl
 refine pure_ (i := 8) (N := some 24) (v := ?_) (a' := ?_) (mb 19 273) rfl rfl (any_of HT_.out (by kernel_rfl)) (fun _ _ _ h => h) (Or.inl ⟨by rfl,?_⟩) ?_ ?_
 rotate_left
 ·intro w'
  go_simp
  (try with_reducible rfl)
 rotate_left
 ·simp only [Act.put,List.setIfInBounds_toArray,List.set_cons_zero,List.set_cons_succ,i64_w,i32_w]
  rfl
 refine pure_ (i := 12) (N := some 28) (v := ?_) (a' := ?_) (mb 19 4369) rfl rfl (any_of HT_.out (by kernel_rfl)) (fun _ _ _ h => h) (Or.inl ⟨by rfl,?_⟩) ?_ ?_
 rotate_left
 ·intro w'
  go_simp
  (try with_reducible rfl)
 rotate_left
 ·simp only [Act.put,List.setIfInBounds_toArray,List.set_cons_zero,List.set_cons_succ,i64_w,i32_w]
  rfl
 refine pure_ (i := 18) (N := some 34) (v := ?_) (a' := ?_) (mb 19 266513) rfl rfl (any_of HT_.out (by kernel_rfl)) (fun _ _ _ h => h) (Or.inl ⟨by rfl,?_⟩) ?_ ?_
 rotate_left
 ·intro w'
  go_simp
  (try with_reducible rfl)
 rotate_left
 ·simp only [Act.put,List.setIfInBounds_toArray,List.set_cons_zero,List.set_cons_succ,i64_w,i32_w]
  rfl
 refine take_ (i := 1) (N := some 17) (v := ?_) (a' := ?_) (mb 19 266515) rfl rfl (take_ofW HT_.out HW_.out (by kernel_rfl)) (fun _ _ _ h => h) (Or.inl ⟨by rfl,?_⟩) hHeld ?_ ?_
 rotate_left
 ·rintro w' ⟨s0,s1,s2,s3,s4,s5⟩
  go_simp
  (try with_reducible rfl)
 rotate_left
 ·simp only [Act.put,List.setIfInBounds_toArray,List.set_cons_zero,List.set_cons_succ,i64_w,i32_w]
  rfl
 refine take_ (i := 5) (N := some 21) (v := ?_) (a' := ?_) (mb 19 266547) rfl rfl (take_ofW HT_.out HW_.out (by kernel_rfl)) (fun _ _ _ h => h) (Or.inl ⟨by rfl,?_⟩) hHeld ?_ ?_
 rotate_left
 ·rintro w' ⟨s0,s1,s2,s3,s4,s5⟩
  go_simp
  (try with_reducible rfl)
 rotate_left
 ·simp only [Act.put,List.setIfInBounds_toArray,List.set_cons_zero,List.set_cons_succ,i64_w,i32_w]
  rfl
 refine take_ (i := 9) (N := some 25) (v := ?_) (a' := ?_) (mb 19 267059) rfl rfl (take_ofW HT_.out HW_.out (by kernel_rfl)) (fun _ _ _ h => h) (Or.inl ⟨by rfl,?_⟩) hHeld ?_ ?_
 rotate_left
 ·rintro w' ⟨s0,s1,s2,s3,s4,s5⟩
  go_simp
  (try with_reducible rfl)
 rotate_left
 ·simp only [Act.put,List.setIfInBounds_toArray,List.set_cons_zero,List.set_cons_succ,i64_w,i32_w]
  rfl
 refine take_ (i := 13) (N := some 29) (v := ?_) (a' := ?_) (mb 19 275251) rfl rfl (take_ofW HT_.out HW_.out (by kernel_rfl)) (fun _ _ _ h => h) (Or.inl ⟨by rfl,?_⟩) hHeld ?_ ?_
 rotate_left
 ·rintro w' ⟨s0,s1,s2,s3,s4,s5⟩
  go_simp
  (try with_reducible rfl)
 rotate_left
 ·simp only [Act.put,List.setIfInBounds_toArray,List.set_cons_zero,List.set_cons_succ,i64_w,i32_w]
  rfl
 refine one_ (i := 2) (N := some 18) (mb 19 275255) rfl rfl (one_of HT_.out (by kernel_rfl)) (by decide) (fun K hK => ?_)
 refine goes_ Tryz.func82 (by kernel_rfl) rfl #[.slice a.A2 e.f2.length a.c2] (by rfl) rfl rfl (by (try simp only [List.map_toArray,List.map_cons,List.map_nil]);first | done | rfl) ?_
 refine (P2.out _ HB2.out).mono ?_
 rintro en w3 ⟨rfl,hb⟩
 have HB3 := Aside0.mk (HB2.out.trans (hb.mono HB2.out.size))
 have Y3 := Aside0.mk (ecs_keep Y2.out hb)
 have RB3 := Aside0.mk (qan RB2.out hb)
 clear hb
 refine ⟨_,rfl,?_⟩
 refine hK.out _ _ (ecs_cells Y3.out) (fun hHeld => ?_)
 clear hK K
 refine norm_ (a' := ?_) ?_ ?_
 rotate_left
 ·first | (show Act.put _ (some 18) _ = _;simp only [Act.put,List.setIfInBounds_toArray,List.set_cons_zero,List.set_cons_succ,i64_w,i32_w];rfl) | rfl
 refine pure_ (i := 3) (N := some 19) (v := ?_) (a' := ?_) (mb 19 275263) rfl rfl (any_of HT_.out (by kernel_rfl)) (fun _ _ _ h => h) (Or.inl ⟨by rfl,?_⟩) ?_ ?_
 rotate_left
 ·intro w'
  go_simp
  (try with_reducible rfl)
 rotate_left
 ·simp only [Act.put,List.setIfInBounds_toArray,List.set_cons_zero,List.set_cons_succ,i64_w,i32_w]
  rfl
 refine one_ (i := 6) (N := some 22) (mb 19 275327) rfl rfl (one_of HT_.out (by kernel_rfl)) (by decide) (fun K hK => ?_)
 refine goes_ Tryz.func82 (by kernel_rfl) rfl #[.slice a.A3 e.f3.length a.c3] (by rfl) rfl rfl (by (try simp only [List.map_toArray,List.map_cons,List.map_nil]);first | done | rfl) ?_
 refine (P3.out _ HB3.out).mono ?_
 rintro en w4 ⟨rfl,hb⟩
 have HB4 := Aside0.mk (HB3.out.trans (hb.mono HB3.out.size))
 have Y4 := Aside0.mk (ecs_keep Y3.out hb)
 have RB4 := Aside0.mk (qan RB3.out hb)
 clear hb
 refine ⟨_,rfl,?_⟩
 refine hK.out _ _ (ecs_cells Y4.out) (fun hHeld => ?_)
 clear hK K
 refine norm_ (a' := ?_) ?_ ?_
 rotate_left
 ·first | (show Act.put _ (some 22) _ = _;simp only [Act.put,List.setIfInBounds_toArray,List.set_cons_zero,List.set_cons_succ,i64_w,i32_w];rfl) | rfl
 refine pure_ (i := 7) (N := some 23) (v := ?_) (a' := ?_) (mb 19 275455) rfl rfl (any_of HT_.out (by kernel_rfl)) (fun _ _ _ h => h) (Or.inl ⟨by rfl,?_⟩) ?_ ?_
 rotate_left
 ·intro w'
  go_simp
  (try with_reducible rfl)
 rotate_left
 ·simp only [Act.put,List.setIfInBounds_toArray,List.set_cons_zero,List.set_cons_succ,i64_w,i32_w]
  rfl
 refine one_ (i := 10) (N := some 26) (mb 19 276479) rfl rfl (one_of HT_.out (by kernel_rfl)) (by decide) (fun K hK => ?_)
 refine goes_ Tryz.func83 (by kernel_rfl) rfl #[.slice a.A4 e.f4.length a.c4] (by rfl) rfl rfl (by (try simp only [List.map_toArray,List.map_cons,List.map_nil]);first | done | rfl) ?_
 refine (P4.out _ HB4.out).mono ?_
 rintro en w5 ⟨rfl,hb⟩
 have HB5 := Aside0.mk (HB4.out.trans (hb.mono HB4.out.size))
 have Y5 := Aside0.mk (ecs_keep Y4.out hb)
 have RB5 := Aside0.mk (qan RB4.out hb)
 clear hb
 refine ⟨_,rfl,?_⟩
 refine hK.out _ _ (ecs_cells Y5.out) (fun hHeld => ?_)
 clear hK K
 refine norm_ (a' := ?_) ?_ ?_
 rotate_left
 ·first | (show Act.put _ (some 26) _ = _;simp only [Act.put,List.setIfInBounds_toArray,List.set_cons_zero,List.set_cons_succ,i64_w,i32_w];rfl) | rfl
 refine pure_ (i := 11) (N := some 27) (v := ?_) (a' := ?_) (mb 19 278527) rfl rfl (any_of HT_.out (by kernel_rfl)) (fun _ _ _ h => h) (Or.inl ⟨by rfl,?_⟩) ?_ ?_
 rotate_left
 ·intro w'
  go_simp
  (try with_reducible rfl)
 rotate_left
 ·simp only [Act.put,List.setIfInBounds_toArray,List.set_cons_zero,List.set_cons_succ,i64_w,i32_w]
  rfl
 refine one_ (i := 14) (N := some 30) (mb 19 294911) rfl rfl (one_of HT_.out (by kernel_rfl)) (by decide) (fun K hK => ?_)
 refine goes_ Tryz.func83 (by kernel_rfl) rfl #[.slice a.A5 e.f5.length a.c5] (by rfl) rfl rfl (by (try simp only [List.map_toArray,List.map_cons,List.map_nil]);first | done | rfl) ?_
 refine (P5.out _ HB5.out).mono ?_
 rintro en w6 ⟨rfl,hb⟩
 have HB6 := Aside0.mk (HB5.out.trans (hb.mono HB5.out.size))
 have Y6 := Aside0.mk (ecs_keep Y5.out hb)
 have RB6 := Aside0.mk (qan RB5.out hb)
 clear hb
 refine ⟨_,rfl,?_⟩
 refine hK.out _ _ (ecs_cells Y6.out) (fun hHeld => ?_)
 clear hK K
 refine norm_ (a' := ?_) ?_ ?_
 rotate_left
 ·first | (show Act.put _ (some 30) _ = _;simp only [Act.put,List.setIfInBounds_toArray,List.set_cons_zero,List.set_cons_succ,i64_w,i32_w];rfl) | rfl
 refine pure_ (i := 15) (N := some 31) (v := ?_) (a' := ?_) (mb 19 327679) rfl rfl (any_of HT_.out (by kernel_rfl)) (fun _ _ _ h => h) (Or.inl ⟨by rfl,?_⟩) ?_ ?_
 rotate_left
 ·intro w'
  go_simp
  (try with_reducible rfl)
 rotate_left
 ·simp only [Act.put,List.setIfInBounds_toArray,List.set_cons_zero,List.set_cons_succ,i64_w,i32_w]
  rfl
 refine one_ (i := 16) (N := some 32) (mb 19 393215) rfl rfl (one_of HT_.out (by kernel_rfl)) (by decide) (fun K hK => ?_)
 rw [if_pos (by rfl)]
 go_simp
 have Y7 := Aside0.mk (ecs_keep Y6.out (qab (Below.refl _ _) (fsO e)))
 have HB7 := Aside0.mk (qab HB6.out (fsO e))
 have RB7 := Aside0.mk (qab RB6.out (fsO e))
 have F7 := Aside0.mk (World.alloc_heap_new w6 (fsO e))
 refine hK.out _ _ (ecs_cells Y7.out) (fun hHeld => ?_)
 clear hK K
 refine norm_ (a' := ?_) ?_ ?_
 rotate_left
 ·first | (show Act.put _ (some 32) _ = _;simp only [Act.put,List.setIfInBounds_toArray,List.set_cons_zero,List.set_cons_succ,i64_w,i32_w];rfl) | rfl
 refine pure_ (i := 17) (N := some 33) (v := ?_) (a' := ?_) (mb 19 524287) rfl rfl (any_of HT_.out (by kernel_rfl)) (fun _ _ _ h => h) (Or.inl ⟨by rfl,?_⟩) ?_ ?_
 rotate_left
 ·intro w'
  go_simp
  (try with_reducible rfl)
 rotate_left
 ·simp only [Act.put,List.setIfInBounds_toArray,List.set_cons_zero,List.set_cons_succ,i64_w,i32_w]
  rfl
 refine done_ (done_of HT_.out (by kernel_rfl)) ?_
 have hI : WInv w w6.heap.size e 0 (.slice (some ⟨w1.heap.size,0,none⟩) 2 2) (w6.alloc (fsO e)) := by
  have hlt : w1.heap.size < w6.heap.size := by have := RB6.out.size;rw [heap_drew'] at this;simp at this;omega
  refine ⟨?_,F7.out,HB7.out⟩
  have hR := litF (W := w1) w.heap.size HB1.out.size sPkg e.f0 sVer e.f1 (fun k => k ≠ w6.heap.size) (by omega)
  exact Kd.R_below hR (show Below _ _ _ from (by have := RB7.out;exact (below_drew (Below.refl _ _)).trans this))
 have HI := Aside0.mk hI
 clear hI
 go_wp2
 obtain ⟨B,hB⟩ : ∃ B,w6.heap.size = B := ⟨_,rfl⟩
 rw [hB] at HI
 simp only [hB]
 go_loopg [3,34] 4 (fun gg v3 v34 wr => ∃ i : Nat,i ≤ 4 ∧ 4 - i ≤ gg ∧ v34 = .int .i64 (i : Int) ∧ Aside0 (WInv w B e i v3 wr))
 case atStart => exact ⟨0,by omega,by omega,rfl,HI⟩
 case round =>
  clear HI
  obtain ⟨i,hi,hg,rfl,HJ⟩ := hrel
  by_cases hlt : i < 4
  ·have b2 : decide ((i : Int) < 4) = true := decide_eq_true (by omega)
   have p0 : (0 : Int) ≤ (i : Int) := by omega
   have p1 : (i : Int) < 4 := by omega
   obtain ⟨x,hx,f0,f1⟩ := fs_at HJ.out.2.1 i hlt
   have bw : wrap64 ((i : Int) + 1) = ((i + 1 : Nat) : Int) := by unfold wrap64;omega
   have ht := take_filter hx
   have HT := Aside0.mk ht
   have HLT := Aside0.mk hlt
   have HGG := Aside0.mk hg
   clear hx ht hi hg hlt
   obtain ⟨s0,s1⟩ := x
   by_cases hs : s1.toList = []
   ·have hs2 : s1.toList.isEmpty = true := by rw [hs];rfl
    have he : hasF ⟨s0,s1⟩ = false := by unfold hasF;simp [hs2]
    rw [he] at HT
    clear he
    go_wp2
    go_roundg (4 - (i + 1))
    case measure => have := HGG.out;have := HLT.out;omega
    case rel => exact ⟨i + 1,HLT.out,Nat.le_refl _,(by first | rw [bw] | go_num),⟨by
     obtain ⟨h1,h2,h3⟩ := HJ.out
     refine ⟨?_,(Below.heap_alloc _ _ _ (Array.getElem?_eq_some_iff.1 h2).1).trans h2,qab h3 _⟩
     rw [HT.out]
     simp only [Bool.false_eq_true,if_false,List.append_nil]
     exact Kd.R_alloc h1 _⟩⟩
   ·have hs2 : s1.toList.isEmpty = false := by cases h : s1.toList <;> simp_all
    have he : hasF ⟨s0,s1⟩ = true := by unfold hasF;simp [hs2]
    rw [he] at HT
    clear he
    go_wp2_with (at_builtin;go_loud (refine Kd.R_append KF (w0 := w) w.heap.size rfl _ _ 80 92 _ 32 rfl Tryz.underlying80 infoF rfl (by decide) (by omega) _ _ (⟨s0,s1⟩ : S92) [.string s0,.string s1] (fun k => k ≠ B) (fun _ => False) rfl (by first | rfl | (simp;done) | (go_simp;done) | (simp [Act.eval];done)) (k92_mkM _ _ _ ⟨s0,s1⟩) (fun _ hk => hk.elim) (fun k hk => by have := (Array.getElem?_eq_some_iff.1 HJ.out.2.1).1;simp at hk;omega) (Kd.R_alloc HJ.out.1 _) (qab HJ.out.2.2 _) (by have := HJ.out.2.2.size;simp;omega) (by have := List.length_filter_le hasF ((fsE e).take i);have h4 : ((fsE e).take i).length ≤ 4 := (by rw [List.length_take];exact Nat.min_le_right _ _);simp only [List.length_append,List.length_cons,List.length_nil];omega) ?_;intro v1 w3 hR hB1 hg1 _;have HR1 := Aside0.mk hR;have HB1' := Aside0.mk hB1;have HG1 := Aside0.mk hg1;clear hR hB1 hg1))
    go_roundg (4 - (i + 1))
    case measure => have := HGG.out;have := HLT.out;omega
    case rel => exact ⟨i + 1,HLT.out,Nat.le_refl _,(by first | rw [bw] | go_num),⟨by
     obtain ⟨h1,h2,h3⟩ := HJ.out
     refine ⟨?_,?_,HB1'.out⟩
     ·rw [HT.out]
      simp only [if_true]
      rw [← List.append_assoc]
      exact HR1.out
     ·have hlt2 := (Array.getElem?_eq_some_iff.1 h2).1
      refine (HG1.out.block B (by simp;omega) (fun he => ?_)).trans ((Below.heap_alloc _ _ _ hlt2).trans h2)
      exact (h1.1 B he.symm) rfl⟩⟩
  ·have b2 : decide ((i : Int) < 4) = false := decide_eq_false (by omega)
   go_wp2
   go_ret
   obtain ⟨h1,h2,h3⟩ := HJ.out
   rw [List.take_of_length_le (show (fsE e).length ≤ i by show 4 ≤ i;omega)] at h1
   exact ⟨_,rfl,Kd.R_mono h1 (fun _ _ => trivial),h3⟩
end Go.Proofs.YtiidmjmkgjfaeaaGreatDoor.Ent

