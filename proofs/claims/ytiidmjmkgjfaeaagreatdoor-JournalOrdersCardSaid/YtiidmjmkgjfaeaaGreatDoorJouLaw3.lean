import Derived.Test.YtiidmjmkgjfaeaaGreatDoorJouLaw1
namespace Go.Proofs.YtiidmjmkgjfaeaaGreatDoor.Ent
open Go Go.RowKit Go.Shelf Go.Proofs.YtiidmjmkgjfaeaaGreatDoorW.PrintWords Go.Proofs.YtiidmjmkgjfaeaaGreatDoorW.PrintLast Go.Proofs.YtiidmjmkgjfaeaaGreatDoor.PA Go.Proofs.YtiidmjmkgjfaeaaGreatDoor.Pure
set_option linter.unusedVariables false
set_option linter.unusedSimpArgs false
abbrev St3 := S31
def findD (l : List H8) (n : ByteArray) : H8 := (findH l n).getD zH
def bindOf (back : Bool) (a b : E6) : Bool := if back = true then needsE b a else needsE a b
def bindsF (l : List H8) (back : Bool) (dk : Int) (k : Nat) (a : E6) : Nat → List St3 → Bool
  | _,[] => false
  | n,s :: r => if s.f0 = dk then (!decide (n = k) && bindOf back a (findD l s.f1).f0) || bindsF l back dk k a (n + 1) r else false
def zP : St3 := z31
def bindsV (P : List St3) (l : List H8) (back : Bool) (frm k : Nat) : Bool := bindsF l back (P.getD k zP).f0 k (findD l (P.getD k zP).f1).f0 frm (P.drop frm)
theorem sm_zE : SmE zH.f0 := ⟨Nat.zero_le _,Nat.zero_le _,⟨Nat.zero_le _,fun g hg => (nomatch hg),fun g hg => (nomatch hg)⟩,⟨Nat.zero_le _,fun g hg => (nomatch hg),fun g hg => (nomatch hg)⟩,Nat.zero_le _,fun x hx => (nomatch hx),Nat.zero_le _,fun x hx => (nomatch hx)⟩
theorem EC_z (w : World) : EC w zH.f0 aZ := ⟨Kd.C_nil _ _,Nat.le_refl _,Kd.C_nil _ _,Nat.le_refl _,Kd.C_nil _ _,Nat.le_refl _,Kd.C_nil _ _,Nat.le_refl _⟩
theorem findD_sm {l : List H8} (hs : ∀ h ∈ l,SmE h.f0) (n : ByteArray) : SmE (findD l n).f0 := by
  unfold findD
  cases h : findH l n with
  | none => exact sm_zE
  | some x => exact hs x (List.mem_of_find?_eq_some h)
theorem find_any {w : World} (A : Option Addr) (c : Nat) (l : List H8) (n : ByteArray) (hr : KH.C w A l.length l) (hl : l.length < 1000000000000) :
    Calls Tryz.prog 13 #[.slice A l.length c,.string n] w fun e w' => ∃ a : EA,e = .returned (.tuple #[.agg (hcs (findD l n) a),.bool (findH l n).isSome]) ∧ EC w' (findD l n).f0 a ∧ Below w.heap.size w w' := by
  unfold findD
  cases h : findH l n with
  | none =>
    refine (find_no A c l n hr hl h).mono ?_
    rintro e w' ⟨rfl,hb⟩
    exact ⟨aZ,rfl,EC_z w',hb⟩
  | some x =>
    refine (find_yes A c l n x hr hl h).mono ?_
    rintro e w' ⟨a,rfl,he,hb⟩
    exact ⟨a,rfl,he.below hb,hb⟩
theorem step_at {w W : World} {A : Option Addr} {P : List St3} (h : KP.C w A P.length P) (hb : Below w.heap.size w W) (k : Nat) (hk : k < P.length) : ∃ ad,A = some ad ∧ W.cell? (ad.add (k * 3)) = some (.int .i64 (P.getD k zP).f0) ∧ W.cell? ⟨(ad.add (k * 3)).block,(ad.add (k * 3)).off + 1,none⟩ = some (.string (P.getD k zP).f1) ∧ W.cell? ⟨(ad.add (k * 3)).block,(ad.add (k * 3)).off + 2,none⟩ = some (.string (P.getD k zP).f2) := by
  obtain ⟨ad,cs,rfl,hcl,hK,hcc⟩ := Kd.C_get h zP (k : Int) (by omega) (by omega)
  rw [Int.toNat_natCast] at hK hcc
  obtain rfl := k31_open hK
  have g : ∀ i u,[Value.int .i64 (P.getD k zP).f0,.string (P.getD k zP).f1,.string (P.getD k zP).f2][i]? = some u → W.cell? (ad.add (k * 3 + i)) = some u := fun i u hu => (hb.cell (World.block_lt_of_cell? _ _ (hcc i u hu))).trans (hcc i u hu)
  refine ⟨ad,rfl,g 0 _ rfl,?_,?_⟩
  · rw [← add_field _ _ 1 (by omega)];exact g 1 _ rfl
  · rw [← add_field _ _ 2 (by omega)];exact g 2 _ rfl
def binds3.T : Bool × List (List Nat × List Nat) := (true,[([],[]),([],[]),([1],[1]),([0,2],[0,2]),([3],[3]),([4],[4]),([4],[4]),([5,6,4],[4,5,6]),([7,4],[4,7]),([8,4],[4,8]),([4],[4]),([4],[4]),([10,11,4],[4,10,11]),([12,4],[4,12]),([13,4],[4,13]),([9,14,4],[4,9,14]),([4,15],[4,15])])
def binds3.B : List Nat := [0,0,2,7,15,31,31,127,255,511,31,31,3103,7199,15391,32767,65535]
theorem binds3.tab : rtab .any (opsOf Tryz.f27 3) = binds3.T := by kernel_rfl
theorem binds3.bits : waitsOk binds3.T.2 binds3.B = true := by kernel_rfl
set_option maxRecDepth 100000 in
set_option maxHeartbeats 16000000 in
theorem binds_calls {w : World} (hG : GL w) (Ap : Option Addr) (cp : Nat) (P : List St3) (hP : KP.C w Ap P.length P) (hPl : P.length ≤ 1000000) (frm k : Nat) (hk : k < P.length) (hf : frm ≤ P.length) (A : Option Addr) (c : Nat) (l : List H8) (hr : KH.C w A l.length l) (hl : l.length ≤ 1000000) (hs : ∀ h ∈ l,SmE h.f0) (back : Bool) :
    Calls Tryz.prog 27 #[.slice Ap P.length cp,.int .i64 (frm : Int),.int .i64 (k : Int),.slice A l.length c,.bool back] w fun e w' => e = .returned (.bool (bindsV P l back frm k)) ∧ Below w.heap.size w w' := by
  obtain ⟨ad,rfl,gk0,gk1,_⟩ := step_at hP (Below.refl _ _) k hk
  obtain ⟨r,hr0⟩ : ∃ r,bindsV P l back frm k = r := ⟨_,rfl⟩
  rw [hr0]
  unfold bindsV at hr0
  obtain ⟨sk,hsk⟩ : ∃ s,P.getD k zP = s := ⟨_,rfl⟩
  rw [hsk] at gk0 gk1 hr0
  obtain ⟨dk,hdk⟩ : ∃ d,sk.f0 = d := ⟨_,rfl⟩
  rw [hdk] at gk0 hr0
  have HFA := Aside0.mk (show ∀ W,Below w.heap.size w W → _ from fun W hb => find_any A c l sk.f1 (Kd.C_below hr hb) (by omega))
  have SA := Aside0.mk (findD_sm hs sk.f1)
  have HRR := Aside0.mk hr0
  have HP := Aside0.mk hP
  have HPL := Aside0.mk hPl
  have HR := Aside0.mk hr
  have HL := Aside0.mk hl
  have HS := Aside0.mk hs
  have HG0 := Aside0.mk hG
  have HK := Aside0.mk hk
  have HF := Aside0.mk hf
  have GK := Aside0.mk gk0
  have q0 : (0 : Int) ≤ (k : Int) := by omega
  have q1 : (k : Int) < (P.length : Int) := by omega
  clear hr0 hP hr hl hs hG hf hdk hsk hPl
  go_enter Tryz.func27,Tryz.ntmps27
  go_wp2_with (go_at_call 13;refine (HFA.out _ (Below.refl _ _)).mono ?_;rintro en w1 ⟨aa,rfl,hE,hb⟩;have EA1 := Aside0.mk hE;have HB1 := Aside0.mk hb;clear hE hb)
  go_wp2
  have ZA := Aside0.mk (World.alloc_heap_new w1 (.cells (hcs (findD l sk.f1) aa) 39))
  have HBA := Aside0.mk (qab HB1.out (.cells (hcs (findD l sk.f1) aa) 39))
  have HS1 := Aside0.mk (show (w1.alloc (.cells (hcs (findD l sk.f1) aa) 39)).heap.size = w1.heap.size + 1 by simp)
  clear gk0 gk1
  go_loopg [13] P.length (fun gg v13 wr => ∃ n : Nat,n ≤ P.length ∧ P.length - n ≤ gg ∧ v13 = .int .i64 (n : Int) ∧ Aside0 (bindsF l back dk k (findD l sk.f1).f0 n (P.drop n) = r) ∧ Aside0 (Below (w1.alloc (.cells (hcs (findD l sk.f1) aa) 39)).heap.size (w1.alloc (.cells (hcs (findD l sk.f1) aa) 39)) wr))
  case atStart => exact ⟨frm,HF.out,by omega,rfl,HRR,⟨Below.refl _ _⟩⟩
  case round =>
    obtain ⟨n,hn,hg,rfl,HD,HWA⟩ := hrel
    have HW := Aside0.mk (HBA.out.trans (HWA.out.mono HBA.out.size))
    have bw : wrap64 ((n : Int) + 1) = ((n + 1 : Nat) : Int) := by have := HPL.out;unfold wrap64;omega
    by_cases hlt : n < P.length
    · obtain ⟨_,had,gn,gn1,_⟩ := step_at HP.out (below_drew HW.out) n hlt
      cases had
      have gk := (HW.out.cell (World.block_lt_of_cell? _ _ GK.out)).trans GK.out
      obtain ⟨s,hs⟩ : ∃ s,P.getD n zP = s := ⟨_,rfl⟩
      rw [hs] at gn gn1
      have GN1 := Aside0.mk gn1
      have HDR := Aside0.mk (show P.drop n = s :: P.drop (n + 1) by rw [List.drop_eq_getElem_cons hlt,← hs,List.getD_eq_getElem?_getD,List.getElem?_eq_getElem hlt];rfl)
      have b2 : decide ((n : Int) < (P.length : Int)) = true := decide_eq_true (by omega)
      have b3 : decide (n < P.length) = true := decide_eq_true hlt
      have p0 : (0 : Int) ≤ (n : Int) := by omega
      have p1 : (n : Int) < (P.length : Int) := by omega
      have HLT := Aside0.mk hlt
      have HGG := Aside0.mk hg
      clear hs hg hn gn1
      by_cases heq : s.f0 = dk
      · have b4 : decide (s.f0 = dk) = true := decide_eq_true heq
        have b5 : (s.f0 == dk) = true := beq_iff_eq.2 heq
        have HEQ := Aside0.mk heq
        go_wp2
        refine start_ (n := 17) (S := fun w' => w'.cell? (ad.add (n * 3)) = some (.int .i64 s.f0) ∧ w'.cell? (ad.add (k * 3)) = some (.int .i64 dk)) (ds := []) (mb 17 0) (by kernel_rfl) rfl rfl ⟨gn,gk⟩ (fun hHeld => ?_);refine with_tabW binds3.tab binds3.bits (fun HT_ HW_ => ?_)
        refine pure_ (i := 0) (N := some 27) (v := ?_) (a' := ?_) (mb 17 1) rfl rfl (any_of HT_.out (by kernel_rfl)) (fun _ _ _ h => h) (Or.inl ⟨by rfl,?_⟩) ?_ ?_
        rotate_left
        · intro w'
          go_simp
          (try with_reducible rfl)
        rotate_left
        · simp only [Act.put,List.setIfInBounds_toArray,List.set_cons_zero,List.set_cons_succ,i64_w,i32_w]
          rfl
        refine pure_ (i := 1) (N := some 28) (v := ?_) (a' := ?_) (mb 17 3) rfl rfl (any_of HT_.out (by kernel_rfl)) (fun _ _ _ h => h) (Or.inl ⟨by rfl,?_⟩) ?_ ?_
        rotate_left
        · intro w'
          go_simp
          (try with_reducible rfl)
        rotate_left
        · simp only [Act.put,List.setIfInBounds_toArray,List.set_cons_zero,List.set_cons_succ,i64_w,i32_w]
          rfl
        refine pure_ (i := 2) (N := some 29) (v := ?_) (a' := ?_) (mb 17 7) rfl rfl (any_of HT_.out (by kernel_rfl)) (fun _ _ _ h => h) (Or.inl ⟨by rfl,?_⟩) ?_ ?_
        rotate_left
        · intro w'
          go_simp
          (try with_reducible rfl)
        rotate_left
        · simp only [Act.put,List.setIfInBounds_toArray,List.set_cons_zero,List.set_cons_succ,i64_w,i32_w]
          rfl
        refine pure_ (i := 3) (N := some 30) (v := ?_) (a' := ?_) (mb 17 15) rfl rfl (any_of HT_.out (by kernel_rfl)) (fun _ _ _ h => h) (Or.inl ⟨by rfl,?_⟩) ?_ ?_
        rotate_left
        · intro w'
          go_simp
          (try with_reducible rfl)
        rotate_left
        · simp only [Act.put,List.setIfInBounds_toArray,List.set_cons_zero,List.set_cons_succ,i64_w,i32_w]
          rfl
        refine pure_ (i := 4) (N := some 31) (v := ?_) (a' := ?_) (mb 17 31) rfl rfl (any_of HT_.out (by kernel_rfl)) (fun _ _ _ h => h) (Or.inl ⟨by rfl,?_⟩) ?_ ?_
        rotate_left
        · intro w'
          go_simp
          (try with_reducible rfl)
        rotate_left
        · simp only [Act.put,List.setIfInBounds_toArray,List.set_cons_zero,List.set_cons_succ,i64_w,i32_w]
          rfl
        refine pure_ (i := 5) (N := some 32) (v := ?_) (a' := ?_) (mb 17 63) rfl rfl (any_of HT_.out (by kernel_rfl)) (fun _ _ _ h => h) (Or.inl ⟨by rfl,?_⟩) ?_ ?_
        rotate_left
        · intro w'
          go_simp
          (try with_reducible rfl)
        rotate_left
        · simp only [Act.put,List.setIfInBounds_toArray,List.set_cons_zero,List.set_cons_succ,i64_w,i32_w]
          rfl
        refine pure_ (i := 6) (N := some 33) (v := ?_) (a' := ?_) (mb 17 127) rfl rfl (any_of HT_.out (by kernel_rfl)) (fun _ _ _ h => h) (Or.inl ⟨by rfl,?_⟩) ?_ ?_
        rotate_left
        · intro w'
          go_simp
          (try with_reducible rfl)
        rotate_left
        · simp only [Act.put,List.setIfInBounds_toArray,List.set_cons_zero,List.set_cons_succ,i64_w,i32_w]
          rfl
        refine pure_ (i := 10) (N := some 37) (v := ?_) (a' := ?_) (mb 17 1151) rfl rfl (any_of HT_.out (by kernel_rfl)) (fun _ _ _ h => h) (Or.inl ⟨by rfl,?_⟩) ?_ ?_
        rotate_left
        · intro w'
          go_simp
          (try with_reducible rfl)
        rotate_left
        · simp only [Act.put,List.setIfInBounds_toArray,List.set_cons_zero,List.set_cons_succ,i64_w,i32_w]
          rfl
        refine pure_ (i := 11) (N := some 38) (v := ?_) (a' := ?_) (mb 17 3199) rfl rfl (any_of HT_.out (by kernel_rfl)) (fun _ _ _ h => h) (Or.inl ⟨by rfl,?_⟩) ?_ ?_
        rotate_left
        · intro w'
          go_simp
          (try with_reducible rfl)
        rotate_left
        · simp only [Act.put,List.setIfInBounds_toArray,List.set_cons_zero,List.set_cons_succ,i64_w,i32_w]
          rfl
        refine take_ (i := 7) (N := some 34) (v := ?_) (a' := ?_) (mb 17 3327) rfl rfl (take_ofW HT_.out HW_.out (by kernel_rfl)) (fun _ _ _ h => h) (Or.inl ⟨by rfl,?_⟩) hHeld ?_ ?_
        rotate_left
        · rintro w' ⟨s0,s1⟩
          go_simp
          (try with_reducible rfl)
        rotate_left
        · simp only [Act.put,List.setIfInBounds_toArray,List.set_cons_zero,List.set_cons_succ,i64_w,i32_w]
          rfl
        refine pure_ (i := 8) (N := some 35) (v := ?_) (a' := ?_) (mb 17 3583) rfl rfl (any_of HT_.out (by kernel_rfl)) (fun _ _ _ h => h) (Or.inl ⟨by rfl,?_⟩) ?_ ?_
        rotate_left
        · intro w'
          go_simp
          (try with_reducible rfl)
        rotate_left
        · simp only [Act.put,List.setIfInBounds_toArray,List.set_cons_zero,List.set_cons_succ,i64_w,i32_w]
          rfl
        refine take_ (i := 9) (N := some 36) (v := ?_) (a' := ?_) (mb 17 4095) rfl rfl (take_ofW HT_.out HW_.out (by kernel_rfl)) (fun _ _ _ h => h) (Or.inl ⟨by rfl,?_⟩) hHeld ?_ ?_
        rotate_left
        · rintro w' ⟨s0,s1⟩
          go_simp
          (try with_reducible rfl)
        rotate_left
        · simp only [Act.put,List.setIfInBounds_toArray,List.set_cons_zero,List.set_cons_succ,i64_w,i32_w]
          rfl
        refine take_ (i := 12) (N := some 39) (v := ?_) (a' := ?_) (mb 17 8191) rfl rfl (take_ofW HT_.out HW_.out (by kernel_rfl)) (fun _ _ _ h => h) (Or.inl ⟨by rfl,?_⟩) hHeld ?_ ?_
        rotate_left
        · rintro w' ⟨s0,s1⟩
          go_simp
          (try with_reducible rfl)
        rotate_left
        · simp only [Act.put,List.setIfInBounds_toArray,List.set_cons_zero,List.set_cons_succ,i64_w,i32_w]
          rfl
        refine pure_ (i := 13) (N := some 40) (v := ?_) (a' := ?_) (mb 17 16383) rfl rfl (any_of HT_.out (by kernel_rfl)) (fun _ _ _ h => h) (Or.inl ⟨by rfl,?_⟩) ?_ ?_
        rotate_left
        · intro w'
          go_simp
          (try with_reducible rfl)
        rotate_left
        · simp only [Act.put,List.setIfInBounds_toArray,List.set_cons_zero,List.set_cons_succ,i64_w,i32_w]
          rfl
        refine take_ (i := 14) (N := some 41) (v := ?_) (a' := ?_) (mb 17 32767) rfl rfl (take_ofW HT_.out HW_.out (by kernel_rfl)) (fun _ _ _ h => h) (Or.inl ⟨by rfl,?_⟩) hHeld ?_ ?_
        rotate_left
        · rintro w' ⟨s0,s1⟩
          go_simp
          (try with_reducible rfl)
        rotate_left
        · simp only [Act.put,List.setIfInBounds_toArray,List.set_cons_zero,List.set_cons_succ,i64_w,i32_w]
          rfl
        refine pure_ (i := 15) (N := some 42) (v := ?_) (a' := ?_) (mb 17 65535) rfl rfl (any_of HT_.out (by kernel_rfl)) (fun _ _ _ h => h) (Or.inl ⟨by rfl,?_⟩) ?_ ?_
        rotate_left
        · intro w'
          go_simp
          (try with_reducible rfl)
        rotate_left
        · simp only [Act.put,List.setIfInBounds_toArray,List.set_cons_zero,List.set_cons_succ,i64_w,i32_w]
          rfl
        refine pure_ (i := 16) (N := some 43) (v := ?_) (a' := ?_) (mb 17 131071) rfl rfl (any_of HT_.out (by kernel_rfl)) (fun _ _ _ h => h) (Or.inl ⟨by rfl,?_⟩) ?_ ?_
        rotate_left
        · intro w'
          go_simp
          (try with_reducible rfl)
        rotate_left
        · simp only [Act.put,List.setIfInBounds_toArray,List.set_cons_zero,List.set_cons_succ,i64_w,i32_w]
          rfl
        refine done_ (done_of HT_.out (by kernel_rfl)) ?_
        have HW := Aside0.mk (show Below w.heap.size w wr.drew from below_drew HW.out)
        have HFB := Aside0.mk (show ∀ W,Below w.heap.size w W → _ from fun W hb => find_any A c l s.f1 (Kd.C_below HR.out hb) (by have := HL.out;omega))
        have SB := Aside0.mk (findD_sm HS.out s.f1)
        have ZR := Aside0.mk (show wr.drew.heap[w1.heap.size]? = _ from (HWA.out.block _ (by have := HS1.out;omega)).trans ZA.out)
        have HWQ := Aside0.mk (show Below w1.heap.size w1 wr.drew from below_drew ((qab (Below.refl w1.heap.size w1) _).trans (HWA.out.mono (by have := HS1.out;omega))))
        have HQA := Aside0.mk (show Below (w1.alloc (.cells (hcs (findD l sk.f1) aa) 39)).heap.size (w1.alloc (.cells (hcs (findD l sk.f1) aa) 39)) wr.drew from below_drew HWA.out)
        have gn1 := GN1.out
        clear gn gk b4 b5 heq
        by_cases hnk : n = k
        · subst hnk
          go_wp2_with (first
            | (go_at_call 13;refine (HFB.out _ HW.out).mono ?_;rintro en w5 ⟨ab,rfl,hE,hb⟩;have hz := (hb.block _ (Array.getElem?_eq_some_iff.1 ZR.out).1).trans ZR.out;have HQ5 := Aside0.mk hb;have EB5 := Aside0.mk hE;have EA5 := Aside0.mk (EA1.out.below (HWQ.out.trans (hb.mono HWQ.out.size)));obtain ⟨x0,x1,x2,x3,x4,x5,x6,x7⟩ := hcs_cells hz;have hDW : w1.heap.size < w5.heap.size := (Array.getElem?_eq_some_iff.1 hz).1;have hne : w1.heap.size ≠ w5.heap.size := (by omega);clear hb hE hz))
          go_roundg (P.length - (n + 1))
          case measure => have := HGG.out;have := HLT.out;omega
          case rel => exact ⟨n + 1,HLT.out,Nat.le_refl _,by first | rw [bw] | go_num,⟨by have h9 := HD.out;rw [HDR.out,bindsF,if_pos HEQ.out,decide_eq_true rfl] at h9;simpa using h9⟩,⟨qab (HQA.out.trans (HQ5.out.mono HQA.out.size)) _⟩⟩
        · have b6 : ((n : Int) == (k : Int)) = false := beq_eq_false_iff_ne.2 (by omega)
          have b7 : decide ((n : Int) = (k : Int)) = false := decide_eq_false (by omega)
          have HNK := Aside0.mk hnk
          cases back with
          | true =>
            obtain ⟨t,ht⟩ : ∃ t,needsE (findD l s.f1).f0 (findD l sk.f1).f0 = t := ⟨_,rfl⟩
            have HT := Aside0.mk ht
            clear ht
            cases t
            case true =>
              go_wp2_with (first
                | (go_at_call 56;rw [HT.out] at HN;refine (HN.out _ (qab (Below.refl _ _) _)).mono ?_;rintro en w6 ⟨rfl,hb⟩;have HQ6 := Aside0.mk hb;clear hb)
                | (go_at_call 13;refine (HFB.out _ HW.out).mono ?_;rintro en w5 ⟨ab,rfl,hE,hb⟩;have hz := (hb.block _ (Array.getElem?_eq_some_iff.1 ZR.out).1).trans ZR.out;have HQ5 := Aside0.mk hb;have EB5 := Aside0.mk hE;have EA5 := Aside0.mk (EA1.out.below (HWQ.out.trans (hb.mono HWQ.out.size)));obtain ⟨x0,x1,x2,x3,x4,x5,x6,x7⟩ := hcs_cells hz;have hDW : w1.heap.size < w5.heap.size := (Array.getElem?_eq_some_iff.1 hz).1;have hne : w1.heap.size ≠ w5.heap.size := (by omega);have HN := Aside0.mk (qb_lneeds (HG0.out.below (HW.out.trans (hb.mono HW.out.size))) EB5.out EA5.out SB.out SA.out);clear hb hE hz))
              go_ret
              exact ⟨by have h9 := HD.out;rw [HDR.out,bindsF,if_pos HEQ.out,decide_eq_false HNK.out,show bindOf true (findD l sk.f1).f0 (findD l s.f1).f0 = true from HT.out] at h9;rw [← h9];rfl,(HW.out.trans ((HQ5.out.trans (((qab (Below.refl w5.heap.size w5) _).trans (HQ6.out.mono (by simp))).mono HQ5.out.size)).mono HW.out.size))⟩
            case false =>
              go_wp2_with (first
                | (go_at_call 56;rw [HT.out] at HN;refine (HN.out _ (qab (Below.refl _ _) _)).mono ?_;rintro en w6 ⟨rfl,hb⟩;have HQ6 := Aside0.mk hb;clear hb)
                | (go_at_call 13;refine (HFB.out _ HW.out).mono ?_;rintro en w5 ⟨ab,rfl,hE,hb⟩;have hz := (hb.block _ (Array.getElem?_eq_some_iff.1 ZR.out).1).trans ZR.out;have HQ5 := Aside0.mk hb;have EB5 := Aside0.mk hE;have EA5 := Aside0.mk (EA1.out.below (HWQ.out.trans (hb.mono HWQ.out.size)));obtain ⟨x0,x1,x2,x3,x4,x5,x6,x7⟩ := hcs_cells hz;have hDW : w1.heap.size < w5.heap.size := (Array.getElem?_eq_some_iff.1 hz).1;have hne : w1.heap.size ≠ w5.heap.size := (by omega);have HN := Aside0.mk (qb_lneeds (HG0.out.below (HW.out.trans (hb.mono HW.out.size))) EB5.out EA5.out SB.out SA.out);clear hb hE hz))
              go_roundg (P.length - (n + 1))
              case measure => have := HGG.out;have := HLT.out;omega
              case rel => exact ⟨n + 1,HLT.out,Nat.le_refl _,by first | rw [bw] | go_num,⟨by have h9 := HD.out;rw [HDR.out,bindsF,if_pos HEQ.out,decide_eq_false HNK.out,show bindOf true (findD l sk.f1).f0 (findD l s.f1).f0 = false from HT.out] at h9;simpa using h9⟩,⟨HQA.out.trans ((HQ5.out.trans (((qab (Below.refl w5.heap.size w5) _).trans (HQ6.out.mono (by simp))).mono HQ5.out.size)).mono HQA.out.size)⟩⟩
          | false =>
            obtain ⟨t,ht⟩ : ∃ t,needsE (findD l sk.f1).f0 (findD l s.f1).f0 = t := ⟨_,rfl⟩
            have HT := Aside0.mk ht
            clear ht
            cases t
            case true =>
              go_wp2_with (first
                | (go_at_call 56;rw [HT.out] at HN;refine (HN.out _ (qab (Below.refl _ _) _)).mono ?_;rintro en w6 ⟨rfl,hb⟩;have HQ6 := Aside0.mk hb;clear hb)
                | (go_at_call 13;refine (HFB.out _ HW.out).mono ?_;rintro en w5 ⟨ab,rfl,hE,hb⟩;have hz := (hb.block _ (Array.getElem?_eq_some_iff.1 ZR.out).1).trans ZR.out;have HQ5 := Aside0.mk hb;have EB5 := Aside0.mk hE;have EA5 := Aside0.mk (EA1.out.below (HWQ.out.trans (hb.mono HWQ.out.size)));obtain ⟨x0,x1,x2,x3,x4,x5,x6,x7⟩ := hcs_cells hz;have hDW : w1.heap.size < w5.heap.size := (Array.getElem?_eq_some_iff.1 hz).1;have hne : w1.heap.size ≠ w5.heap.size := (by omega);have HN := Aside0.mk (qb_lneeds (HG0.out.below (HW.out.trans (hb.mono HW.out.size))) EA5.out EB5.out SA.out SB.out);clear hb hE hz))
              go_ret
              exact ⟨by have h9 := HD.out;rw [HDR.out,bindsF,if_pos HEQ.out,decide_eq_false HNK.out,show bindOf false (findD l sk.f1).f0 (findD l s.f1).f0 = true from HT.out] at h9;rw [← h9];rfl,(HW.out.trans ((HQ5.out.trans (((qab (Below.refl w5.heap.size w5) _).trans (HQ6.out.mono (by simp))).mono HQ5.out.size)).mono HW.out.size))⟩
            case false =>
              go_wp2_with (first
                | (go_at_call 56;rw [HT.out] at HN;refine (HN.out _ (qab (Below.refl _ _) _)).mono ?_;rintro en w6 ⟨rfl,hb⟩;have HQ6 := Aside0.mk hb;clear hb)
                | (go_at_call 13;refine (HFB.out _ HW.out).mono ?_;rintro en w5 ⟨ab,rfl,hE,hb⟩;have hz := (hb.block _ (Array.getElem?_eq_some_iff.1 ZR.out).1).trans ZR.out;have HQ5 := Aside0.mk hb;have EB5 := Aside0.mk hE;have EA5 := Aside0.mk (EA1.out.below (HWQ.out.trans (hb.mono HWQ.out.size)));obtain ⟨x0,x1,x2,x3,x4,x5,x6,x7⟩ := hcs_cells hz;have hDW : w1.heap.size < w5.heap.size := (Array.getElem?_eq_some_iff.1 hz).1;have hne : w1.heap.size ≠ w5.heap.size := (by omega);have HN := Aside0.mk (qb_lneeds (HG0.out.below (HW.out.trans (hb.mono HW.out.size))) EA5.out EB5.out SA.out SB.out);clear hb hE hz))
              go_roundg (P.length - (n + 1))
              case measure => have := HGG.out;have := HLT.out;omega
              case rel => exact ⟨n + 1,HLT.out,Nat.le_refl _,by first | rw [bw] | go_num,⟨by have h9 := HD.out;rw [HDR.out,bindsF,if_pos HEQ.out,decide_eq_false HNK.out,show bindOf false (findD l sk.f1).f0 (findD l s.f1).f0 = false from HT.out] at h9;simpa using h9⟩,⟨HQA.out.trans ((HQ5.out.trans (((qab (Below.refl w5.heap.size w5) _).trans (HQ6.out.mono (by simp))).mono HQ5.out.size)).mono HQA.out.size)⟩⟩
      · have b4 : decide (s.f0 = dk) = false := decide_eq_false heq
        have b5 : (s.f0 == dk) = false := beq_eq_false_iff_ne.2 heq
        have HNE := Aside0.mk heq
        go_wp2
        refine start_ (n := 17) (S := fun w' => w'.cell? (ad.add (n * 3)) = some (.int .i64 s.f0) ∧ w'.cell? (ad.add (k * 3)) = some (.int .i64 dk)) (ds := []) (mb 17 0) (by kernel_rfl) rfl rfl ⟨gn,gk⟩ (fun hHeld => ?_);refine with_tabW binds3.tab binds3.bits (fun HT_ HW_ => ?_)
        refine pure_ (i := 0) (N := some 27) (v := ?_) (a' := ?_) (mb 17 1) rfl rfl (any_of HT_.out (by kernel_rfl)) (fun _ _ _ h => h) (Or.inl ⟨by rfl,?_⟩) ?_ ?_
        rotate_left
        · intro w'
          go_simp
          (try with_reducible rfl)
        rotate_left
        · simp only [Act.put,List.setIfInBounds_toArray,List.set_cons_zero,List.set_cons_succ,i64_w,i32_w]
          rfl
        refine pure_ (i := 1) (N := some 28) (v := ?_) (a' := ?_) (mb 17 3) rfl rfl (any_of HT_.out (by kernel_rfl)) (fun _ _ _ h => h) (Or.inl ⟨by rfl,?_⟩) ?_ ?_
        rotate_left
        · intro w'
          go_simp
          (try with_reducible rfl)
        rotate_left
        · simp only [Act.put,List.setIfInBounds_toArray,List.set_cons_zero,List.set_cons_succ,i64_w,i32_w]
          rfl
        refine pure_ (i := 2) (N := some 29) (v := ?_) (a' := ?_) (mb 17 7) rfl rfl (any_of HT_.out (by kernel_rfl)) (fun _ _ _ h => h) (Or.inl ⟨by rfl,?_⟩) ?_ ?_
        rotate_left
        · intro w'
          go_simp
          (try with_reducible rfl)
        rotate_left
        · simp only [Act.put,List.setIfInBounds_toArray,List.set_cons_zero,List.set_cons_succ,i64_w,i32_w]
          rfl
        refine pure_ (i := 3) (N := some 30) (v := ?_) (a' := ?_) (mb 17 15) rfl rfl (any_of HT_.out (by kernel_rfl)) (fun _ _ _ h => h) (Or.inl ⟨by rfl,?_⟩) ?_ ?_
        rotate_left
        · intro w'
          go_simp
          (try with_reducible rfl)
        rotate_left
        · simp only [Act.put,List.setIfInBounds_toArray,List.set_cons_zero,List.set_cons_succ,i64_w,i32_w]
          rfl
        refine pure_ (i := 4) (N := some 31) (v := ?_) (a' := ?_) (mb 17 31) rfl rfl (any_of HT_.out (by kernel_rfl)) (fun _ _ _ h => h) (Or.inl ⟨by rfl,?_⟩) ?_ ?_
        rotate_left
        · intro w'
          go_simp
          (try with_reducible rfl)
        rotate_left
        · simp only [Act.put,List.setIfInBounds_toArray,List.set_cons_zero,List.set_cons_succ,i64_w,i32_w]
          rfl
        refine pure_ (i := 5) (N := some 32) (v := ?_) (a' := ?_) (mb 17 63) rfl rfl (any_of HT_.out (by kernel_rfl)) (fun _ _ _ h => h) (Or.inl ⟨by rfl,?_⟩) ?_ ?_
        rotate_left
        · intro w'
          go_simp
          (try with_reducible rfl)
        rotate_left
        · simp only [Act.put,List.setIfInBounds_toArray,List.set_cons_zero,List.set_cons_succ,i64_w,i32_w]
          rfl
        refine pure_ (i := 6) (N := some 33) (v := ?_) (a' := ?_) (mb 17 127) rfl rfl (any_of HT_.out (by kernel_rfl)) (fun _ _ _ h => h) (Or.inl ⟨by rfl,?_⟩) ?_ ?_
        rotate_left
        · intro w'
          go_simp
          (try with_reducible rfl)
        rotate_left
        · simp only [Act.put,List.setIfInBounds_toArray,List.set_cons_zero,List.set_cons_succ,i64_w,i32_w]
          rfl
        refine pure_ (i := 10) (N := some 37) (v := ?_) (a' := ?_) (mb 17 1151) rfl rfl (any_of HT_.out (by kernel_rfl)) (fun _ _ _ h => h) (Or.inl ⟨by rfl,?_⟩) ?_ ?_
        rotate_left
        · intro w'
          go_simp
          (try with_reducible rfl)
        rotate_left
        · simp only [Act.put,List.setIfInBounds_toArray,List.set_cons_zero,List.set_cons_succ,i64_w,i32_w]
          rfl
        refine pure_ (i := 11) (N := some 38) (v := ?_) (a' := ?_) (mb 17 3199) rfl rfl (any_of HT_.out (by kernel_rfl)) (fun _ _ _ h => h) (Or.inl ⟨by rfl,?_⟩) ?_ ?_
        rotate_left
        · intro w'
          go_simp
          (try with_reducible rfl)
        rotate_left
        · simp only [Act.put,List.setIfInBounds_toArray,List.set_cons_zero,List.set_cons_succ,i64_w,i32_w]
          rfl
        refine take_ (i := 7) (N := some 34) (v := ?_) (a' := ?_) (mb 17 3327) rfl rfl (take_ofW HT_.out HW_.out (by kernel_rfl)) (fun _ _ _ h => h) (Or.inl ⟨by rfl,?_⟩) hHeld ?_ ?_
        rotate_left
        · rintro w' ⟨s0,s1⟩
          go_simp
          (try with_reducible rfl)
        rotate_left
        · simp only [Act.put,List.setIfInBounds_toArray,List.set_cons_zero,List.set_cons_succ,i64_w,i32_w]
          rfl
        refine pure_ (i := 8) (N := some 35) (v := ?_) (a' := ?_) (mb 17 3583) rfl rfl (any_of HT_.out (by kernel_rfl)) (fun _ _ _ h => h) (Or.inl ⟨by rfl,?_⟩) ?_ ?_
        rotate_left
        · intro w'
          go_simp
          (try with_reducible rfl)
        rotate_left
        · simp only [Act.put,List.setIfInBounds_toArray,List.set_cons_zero,List.set_cons_succ,i64_w,i32_w]
          rfl
        refine take_ (i := 9) (N := some 36) (v := ?_) (a' := ?_) (mb 17 4095) rfl rfl (take_ofW HT_.out HW_.out (by kernel_rfl)) (fun _ _ _ h => h) (Or.inl ⟨by rfl,?_⟩) hHeld ?_ ?_
        rotate_left
        · rintro w' ⟨s0,s1⟩
          go_simp
          (try with_reducible rfl)
        rotate_left
        · simp only [Act.put,List.setIfInBounds_toArray,List.set_cons_zero,List.set_cons_succ,i64_w,i32_w]
          rfl
        refine take_ (i := 12) (N := some 39) (v := ?_) (a' := ?_) (mb 17 8191) rfl rfl (take_ofW HT_.out HW_.out (by kernel_rfl)) (fun _ _ _ h => h) (Or.inl ⟨by rfl,?_⟩) hHeld ?_ ?_
        rotate_left
        · rintro w' ⟨s0,s1⟩
          go_simp
          (try with_reducible rfl)
        rotate_left
        · simp only [Act.put,List.setIfInBounds_toArray,List.set_cons_zero,List.set_cons_succ,i64_w,i32_w]
          rfl
        refine pure_ (i := 13) (N := some 40) (v := ?_) (a' := ?_) (mb 17 16383) rfl rfl (any_of HT_.out (by kernel_rfl)) (fun _ _ _ h => h) (Or.inl ⟨by rfl,?_⟩) ?_ ?_
        rotate_left
        · intro w'
          go_simp
          (try with_reducible rfl)
        rotate_left
        · simp only [Act.put,List.setIfInBounds_toArray,List.set_cons_zero,List.set_cons_succ,i64_w,i32_w]
          rfl
        refine take_ (i := 14) (N := some 41) (v := ?_) (a' := ?_) (mb 17 32767) rfl rfl (take_ofW HT_.out HW_.out (by kernel_rfl)) (fun _ _ _ h => h) (Or.inl ⟨by rfl,?_⟩) hHeld ?_ ?_
        rotate_left
        · rintro w' ⟨s0,s1⟩
          go_simp
          (try with_reducible rfl)
        rotate_left
        · simp only [Act.put,List.setIfInBounds_toArray,List.set_cons_zero,List.set_cons_succ,i64_w,i32_w]
          rfl
        refine pure_ (i := 15) (N := some 42) (v := ?_) (a' := ?_) (mb 17 65535) rfl rfl (any_of HT_.out (by kernel_rfl)) (fun _ _ _ h => h) (Or.inl ⟨by rfl,?_⟩) ?_ ?_
        rotate_left
        · intro w'
          go_simp
          (try with_reducible rfl)
        rotate_left
        · simp only [Act.put,List.setIfInBounds_toArray,List.set_cons_zero,List.set_cons_succ,i64_w,i32_w]
          rfl
        refine pure_ (i := 16) (N := some 43) (v := ?_) (a' := ?_) (mb 17 131071) rfl rfl (any_of HT_.out (by kernel_rfl)) (fun _ _ _ h => h) (Or.inl ⟨by rfl,?_⟩) ?_ ?_
        rotate_left
        · intro w'
          go_simp
          (try with_reducible rfl)
        rotate_left
        · simp only [Act.put,List.setIfInBounds_toArray,List.set_cons_zero,List.set_cons_succ,i64_w,i32_w]
          rfl
        refine done_ (done_of HT_.out (by kernel_rfl)) ?_
        go_wp2
        go_ret
        exact ⟨by have h9 := HD.out;rw [HDR.out,bindsF,if_neg HNE.out] at h9;rw [← h9];rfl,below_drew HW.out⟩
    · have b2 : decide ((n : Int) < (P.length : Int)) = false := decide_eq_false (by omega)
      have b3 : decide (n < P.length) = false := decide_eq_false hlt
      have hD := HD.out
      rw [List.drop_of_length_le (by omega)] at hD
      have HDD := Aside0.mk hD
      clear hD hg hn
      go_wp2
      refine start_ (n := 17) (S := fun _ => True) (ds := []) (mb 17 0) (by kernel_rfl) rfl rfl trivial (fun hHeld => ?_);refine with_tabW binds3.tab binds3.bits (fun HT_ HW_ => ?_)
      refine pure_ (i := 0) (N := some 27) (v := ?_) (a' := ?_) (mb 17 1) rfl rfl (any_of HT_.out (by kernel_rfl)) (fun _ _ _ h => h) (Or.inl ⟨by rfl,?_⟩) ?_ ?_
      rotate_left
      · intro w'
        go_simp
        (try with_reducible rfl)
      rotate_left
      · simp only [Act.put,List.setIfInBounds_toArray,List.set_cons_zero,List.set_cons_succ,i64_w,i32_w]
        rfl
      refine pure_ (i := 1) (N := some 28) (v := ?_) (a' := ?_) (mb 17 3) rfl rfl (any_of HT_.out (by kernel_rfl)) (fun _ _ _ h => h) (Or.inl ⟨by rfl,?_⟩) ?_ ?_
      rotate_left
      · intro w'
        go_simp
        (try with_reducible rfl)
      rotate_left
      · simp only [Act.put,List.setIfInBounds_toArray,List.set_cons_zero,List.set_cons_succ,i64_w,i32_w]
        rfl
      refine pure_ (i := 2) (N := some 29) (v := ?_) (a' := ?_) (mb 17 7) rfl rfl (any_of HT_.out (by kernel_rfl)) (fun _ _ _ h => h) (Or.inl ⟨by rfl,?_⟩) ?_ ?_
      rotate_left
      · intro w'
        go_simp
        (try with_reducible rfl)
      rotate_left
      · simp only [Act.put,List.setIfInBounds_toArray,List.set_cons_zero,List.set_cons_succ,i64_w,i32_w]
        rfl
      refine pure_ (i := 3) (N := some 30) (v := ?_) (a' := ?_) (mb 17 15) rfl rfl (any_of HT_.out (by kernel_rfl)) (fun _ _ _ h => h) (Or.inl ⟨by rfl,?_⟩) ?_ ?_
      rotate_left
      · intro w'
        go_simp
        (try with_reducible rfl)
      rotate_left
      · simp only [Act.put,List.setIfInBounds_toArray,List.set_cons_zero,List.set_cons_succ,i64_w,i32_w]
        rfl
      refine pure_ (i := 4) (N := some 31) (v := ?_) (a' := ?_) (mb 17 31) rfl rfl (any_of HT_.out (by kernel_rfl)) (fun _ _ _ h => h) (Or.inl ⟨by rfl,?_⟩) ?_ ?_
      rotate_left
      · intro w'
        go_simp
        (try with_reducible rfl)
      rotate_left
      · simp only [Act.put,List.setIfInBounds_toArray,List.set_cons_zero,List.set_cons_succ,i64_w,i32_w]
        rfl
      refine pure_ (i := 5) (N := some 32) (v := undef) (a' := ?_) (mb 17 63) rfl rfl (any_of HT_.out (by kernel_rfl)) (fun _ _ _ h => h) (Or.inr ⟨by rfl,rfl⟩) ?_ ?_
      rotate_left
      · simp only [Act.put,List.setIfInBounds_toArray,List.set_cons_zero,List.set_cons_succ,i64_w,i32_w]
        rfl
      refine pure_ (i := 6) (N := some 33) (v := undef) (a' := ?_) (mb 17 127) rfl rfl (any_of HT_.out (by kernel_rfl)) (fun _ _ _ h => h) (Or.inr ⟨by rfl,rfl⟩) ?_ ?_
      rotate_left
      · simp only [Act.put,List.setIfInBounds_toArray,List.set_cons_zero,List.set_cons_succ,i64_w,i32_w]
        rfl
      refine pure_ (i := 7) (N := some 34) (v := undef) (a' := ?_) (mb 17 255) rfl rfl (any_of HT_.out (by kernel_rfl)) (fun _ _ _ h => h) (Or.inr ⟨by rfl,rfl⟩) ?_ ?_
      rotate_left
      · simp only [Act.put,List.setIfInBounds_toArray,List.set_cons_zero,List.set_cons_succ,i64_w,i32_w]
        rfl
      refine pure_ (i := 8) (N := some 35) (v := undef) (a' := ?_) (mb 17 511) rfl rfl (any_of HT_.out (by kernel_rfl)) (fun _ _ _ h => h) (Or.inr ⟨by rfl,rfl⟩) ?_ ?_
      rotate_left
      · simp only [Act.put,List.setIfInBounds_toArray,List.set_cons_zero,List.set_cons_succ,i64_w,i32_w]
        rfl
      refine pure_ (i := 9) (N := some 36) (v := undef) (a' := ?_) (mb 17 1023) rfl rfl (any_of HT_.out (by kernel_rfl)) (fun _ _ _ h => h) (Or.inr ⟨by rfl,rfl⟩) ?_ ?_
      rotate_left
      · simp only [Act.put,List.setIfInBounds_toArray,List.set_cons_zero,List.set_cons_succ,i64_w,i32_w]
        rfl
      refine pure_ (i := 10) (N := some 37) (v := undef) (a' := ?_) (mb 17 2047) rfl rfl (any_of HT_.out (by kernel_rfl)) (fun _ _ _ h => h) (Or.inr ⟨by rfl,rfl⟩) ?_ ?_
      rotate_left
      · simp only [Act.put,List.setIfInBounds_toArray,List.set_cons_zero,List.set_cons_succ,i64_w,i32_w]
        rfl
      refine pure_ (i := 11) (N := some 38) (v := undef) (a' := ?_) (mb 17 4095) rfl rfl (any_of HT_.out (by kernel_rfl)) (fun _ _ _ h => h) (Or.inr ⟨by rfl,rfl⟩) ?_ ?_
      rotate_left
      · simp only [Act.put,List.setIfInBounds_toArray,List.set_cons_zero,List.set_cons_succ,i64_w,i32_w]
        rfl
      refine pure_ (i := 12) (N := some 39) (v := undef) (a' := ?_) (mb 17 8191) rfl rfl (any_of HT_.out (by kernel_rfl)) (fun _ _ _ h => h) (Or.inr ⟨by rfl,rfl⟩) ?_ ?_
      rotate_left
      · simp only [Act.put,List.setIfInBounds_toArray,List.set_cons_zero,List.set_cons_succ,i64_w,i32_w]
        rfl
      refine pure_ (i := 13) (N := some 40) (v := undef) (a' := ?_) (mb 17 16383) rfl rfl (any_of HT_.out (by kernel_rfl)) (fun _ _ _ h => h) (Or.inr ⟨by rfl,rfl⟩) ?_ ?_
      rotate_left
      · simp only [Act.put,List.setIfInBounds_toArray,List.set_cons_zero,List.set_cons_succ,i64_w,i32_w]
        rfl
      refine pure_ (i := 14) (N := some 41) (v := undef) (a' := ?_) (mb 17 32767) rfl rfl (any_of HT_.out (by kernel_rfl)) (fun _ _ _ h => h) (Or.inr ⟨by rfl,rfl⟩) ?_ ?_
      rotate_left
      · simp only [Act.put,List.setIfInBounds_toArray,List.set_cons_zero,List.set_cons_succ,i64_w,i32_w]
        rfl
      refine pure_ (i := 15) (N := some 42) (v := undef) (a' := ?_) (mb 17 65535) rfl rfl (any_of HT_.out (by kernel_rfl)) (fun _ _ _ h => h) (Or.inr ⟨by rfl,rfl⟩) ?_ ?_
      rotate_left
      · simp only [Act.put,List.setIfInBounds_toArray,List.set_cons_zero,List.set_cons_succ,i64_w,i32_w]
        rfl
      refine pure_ (i := 16) (N := some 43) (v := ?_) (a' := ?_) (mb 17 131071) rfl rfl (any_of HT_.out (by kernel_rfl)) (fun _ _ _ h => h) (Or.inl ⟨by rfl,?_⟩) ?_ ?_
      rotate_left
      · intro w'
        go_simp
        (try with_reducible rfl)
      rotate_left
      · simp only [Act.put,List.setIfInBounds_toArray,List.set_cons_zero,List.set_cons_succ,i64_w,i32_w]
        rfl
      refine done_ (done_of HT_.out (by kernel_rfl)) ?_
      go_wp2
      go_ret
      exact ⟨by rw [← HDD.out];rfl,below_drew HW.out⟩
end Go.Proofs.YtiidmjmkgjfaeaaGreatDoor.Ent

namespace Go.Proofs.YtiidmjmkgjfaeaaGreatDoor.Ent
open Go Go.RowKit Go.Shelf Go.Proofs.YtiidmjmkgjfaeaaGreatDoorW.PrintWords Go.Proofs.YtiidmjmkgjfaeaaGreatDoorW.PrintLast Go.Proofs.YtiidmjmkgjfaeaaGreatDoor.PA Go.Proofs.YtiidmjmkgjfaeaaGreatDoor.Pure
set_option linter.unusedVariables false
set_option linter.unusedSimpArgs false
def stuckF (f : Nat → Bool) (dk : Int) : Nat → List St3 → Bool
  | _,[] => true
  | k,s :: r => if s.f0 = dk then f k && stuckF f dk (k + 1) r else true
def stuckV (P : List St3) (l : List H8) (back : Bool) (k : Nat) : Bool := stuckF (bindsV P l back k) (P.getD k zP).f0 k (P.drop k)
structure PArgs (w : World) (Ap : Option Addr) (cp : Nat) (P : List St3) (A : Option Addr) (c : Nat) (l : List H8) : Prop where
  hG : GL w
  hP : KP.C w Ap P.length P
  hPl : P.length ≤ 1000000
  hr : KH.C w A l.length l
  hl : l.length ≤ 1000000
  hs : ∀ h ∈ l,SmE h.f0
theorem PArgs.below {w W : World} {Ap A : Option Addr} {cp c : Nat} {P : List St3} {l : List H8} (h : PArgs w Ap cp P A c l) (hb : Below w.heap.size w W) : PArgs W Ap cp P A c l := ⟨h.hG.below hb,Kd.C_below h.hP hb,h.hPl,Kd.C_below h.hr hb,h.hl,h.hs⟩
theorem qb_binds {w : World} {Ap A : Option Addr} {cp c : Nat} {P : List St3} {l : List H8} (h : PArgs w Ap cp P A c l) (frm k : Nat) (hk : k < P.length) (hf : frm ≤ P.length) (back : Bool) :
    QB w 27 #[.slice Ap P.length cp,.int .i64 (frm : Int),.int .i64 (k : Int),.slice A l.length c,.bool back] (.bool (bindsV P l back frm k)) := fun W hb =>
  have h := h.below hb
  binds_calls h.hG Ap cp P h.hP h.hPl frm k hk hf A c l h.hr h.hl h.hs back
set_option maxRecDepth 100000 in
theorem qb_bound {w : World} {Ap A : Option Addr} {cp c : Nat} {P : List St3} {l : List H8} (h : PArgs w Ap cp P A c l) (k : Nat) (hk : k < P.length) (back : Bool) :
    QB w 11 #[.slice Ap P.length cp,.int .i64 (k : Int),.slice A l.length c,.bool back] (.bool (bindsV P l back k k)) := fun W hb => by
  have HB := Aside0.mk (qb_binds h k k hk (by omega) back W hb)
  clear h hk hb
  go_enter Tryz.func11,Tryz.ntmps11
  go_wp2_with (go_at_call 27;refine HB.out.mono ?_;rintro e w' ⟨rfl,hb'⟩)
  go_ret
  exact ⟨rfl,hb'⟩
def stuck2.T : Bool × List (List Nat × List Nat) := (true,[([],[]),([],[]),([1],[1]),([0,2],[0,2]),([3],[3]),([4],[4]),([4],[4]),([5,6,4],[4,5,6]),([7,4],[4,7]),([8,4],[4,8]),([4],[4]),([4],[4]),([10,11,4],[4,10,11]),([12,4],[4,12]),([13,4],[4,13]),([9,14,4],[4,9,14]),([4,15],[4,15])])
def stuck2.B : List Nat := [0,0,2,7,15,31,31,127,255,511,31,31,3103,7199,15391,32767,65535]
theorem stuck2.tab : rtab .any (opsOf Tryz.f12 2) = stuck2.T := by kernel_rfl
theorem stuck2.bits : waitsOk stuck2.T.2 stuck2.B = true := by kernel_rfl
set_option maxRecDepth 100000 in
set_option maxHeartbeats 16000000 in
theorem stuck_calls {w : World} {Ap A : Option Addr} {cp c : Nat} {P : List St3} {l : List H8} (h : PArgs w Ap cp P A c l) (k : Nat) (hk : k < P.length) (back : Bool) :
    Calls Tryz.prog 12 #[.slice Ap P.length cp,.int .i64 (k : Int),.slice A l.length c,.bool back] w fun e w' => e = .returned (.bool (stuckV P l back k)) ∧ Below w.heap.size w w' := by
  obtain ⟨ad,rfl,gk0,_,_⟩ := step_at h.hP (Below.refl _ _) k hk
  obtain ⟨r,hr0⟩ : ∃ r,stuckV P l back k = r := ⟨_,rfl⟩
  rw [hr0]
  unfold stuckV at hr0
  obtain ⟨dk,hdk⟩ : ∃ d,(P.getD k zP).f0 = d := ⟨_,rfl⟩
  rw [hdk] at gk0 hr0
  have HRR := Aside0.mk hr0
  have H := Aside0.mk h
  have HPL := Aside0.mk h.hPl
  have HK := Aside0.mk hk
  have GK := Aside0.mk gk0
  have q0 : (0 : Int) ≤ (k : Int) := by omega
  have q1 : (k : Int) < (P.length : Int) := by omega
  clear hr0 h hdk
  go_enter Tryz.func12,Tryz.ntmps12
  go_wp2
  clear gk0
  go_loopg [9] P.length (fun gg v9 wr => ∃ n : Nat,n ≤ P.length ∧ P.length - n ≤ gg ∧ v9 = .int .i64 (n : Int) ∧ Aside0 (stuckF (bindsV P l back k) dk n (P.drop n) = r) ∧ Aside0 (Below w.heap.size w wr))
  case atStart => exact ⟨k,by omega,by omega,rfl,HRR,⟨Below.refl _ _⟩⟩
  case round =>
    obtain ⟨n,hn,hg,rfl,HD,HW⟩ := hrel
    have bw : wrap64 ((n : Int) + 1) = ((n + 1 : Nat) : Int) := by have := HPL.out;unfold wrap64;omega
    by_cases hlt : n < P.length
    · obtain ⟨_,had,gn,_,_⟩ := step_at H.out.hP (below_drew HW.out) n hlt
      cases had
      have gk := (HW.out.cell (World.block_lt_of_cell? _ _ GK.out)).trans GK.out
      obtain ⟨s,hs⟩ : ∃ s,P.getD n zP = s := ⟨_,rfl⟩
      rw [hs] at gn
      have HDR := Aside0.mk (show P.drop n = s :: P.drop (n + 1) by rw [List.drop_eq_getElem_cons hlt,← hs,List.getD_eq_getElem?_getD,List.getElem?_eq_getElem hlt];rfl)
      have b2 : decide ((n : Int) < (P.length : Int)) = true := decide_eq_true (by omega)
      have b3 : decide (n < P.length) = true := decide_eq_true hlt
      have p0 : (0 : Int) ≤ (n : Int) := by omega
      have p1 : (n : Int) < (P.length : Int) := by omega
      have HLT := Aside0.mk hlt
      have HGG := Aside0.mk hg
      clear hs hg hn
      by_cases heq : s.f0 = dk
      · have b4 : decide (s.f0 = dk) = true := decide_eq_true heq
        have b5 : (s.f0 == dk) = true := beq_iff_eq.2 heq
        have HEQ := Aside0.mk heq
        go_wp2
        refine start_ (n := 17) (S := fun w' => w'.cell? (ad.add (n * 3)) = some (.int .i64 s.f0) ∧ w'.cell? (ad.add (k * 3)) = some (.int .i64 dk)) (ds := []) (mb 17 0) (by kernel_rfl) rfl rfl ⟨gn,gk⟩ (fun hHeld => ?_);refine with_tabW stuck2.tab stuck2.bits (fun HT_ HW_ => ?_)
        refine pure_ (i := 0) (N := some 11) (v := ?_) (a' := ?_) (mb 17 1) rfl rfl (any_of HT_.out (by kernel_rfl)) (fun _ _ _ h => h) (Or.inl ⟨by rfl,?_⟩) ?_ ?_
        rotate_left
        · intro w'
          go_simp
          (try with_reducible rfl)
        rotate_left
        · simp only [Act.put,List.setIfInBounds_toArray,List.set_cons_zero,List.set_cons_succ,i64_w,i32_w]
          rfl
        refine pure_ (i := 1) (N := some 12) (v := ?_) (a' := ?_) (mb 17 3) rfl rfl (any_of HT_.out (by kernel_rfl)) (fun _ _ _ h => h) (Or.inl ⟨by rfl,?_⟩) ?_ ?_
        rotate_left
        · intro w'
          go_simp
          (try with_reducible rfl)
        rotate_left
        · simp only [Act.put,List.setIfInBounds_toArray,List.set_cons_zero,List.set_cons_succ,i64_w,i32_w]
          rfl
        refine pure_ (i := 2) (N := some 13) (v := ?_) (a' := ?_) (mb 17 7) rfl rfl (any_of HT_.out (by kernel_rfl)) (fun _ _ _ h => h) (Or.inl ⟨by rfl,?_⟩) ?_ ?_
        rotate_left
        · intro w'
          go_simp
          (try with_reducible rfl)
        rotate_left
        · simp only [Act.put,List.setIfInBounds_toArray,List.set_cons_zero,List.set_cons_succ,i64_w,i32_w]
          rfl
        refine pure_ (i := 3) (N := some 14) (v := ?_) (a' := ?_) (mb 17 15) rfl rfl (any_of HT_.out (by kernel_rfl)) (fun _ _ _ h => h) (Or.inl ⟨by rfl,?_⟩) ?_ ?_
        rotate_left
        · intro w'
          go_simp
          (try with_reducible rfl)
        rotate_left
        · simp only [Act.put,List.setIfInBounds_toArray,List.set_cons_zero,List.set_cons_succ,i64_w,i32_w]
          rfl
        refine pure_ (i := 4) (N := some 15) (v := ?_) (a' := ?_) (mb 17 31) rfl rfl (any_of HT_.out (by kernel_rfl)) (fun _ _ _ h => h) (Or.inl ⟨by rfl,?_⟩) ?_ ?_
        rotate_left
        · intro w'
          go_simp
          (try with_reducible rfl)
        rotate_left
        · simp only [Act.put,List.setIfInBounds_toArray,List.set_cons_zero,List.set_cons_succ,i64_w,i32_w]
          rfl
        refine pure_ (i := 5) (N := some 16) (v := ?_) (a' := ?_) (mb 17 63) rfl rfl (any_of HT_.out (by kernel_rfl)) (fun _ _ _ h => h) (Or.inl ⟨by rfl,?_⟩) ?_ ?_
        rotate_left
        · intro w'
          go_simp
          (try with_reducible rfl)
        rotate_left
        · simp only [Act.put,List.setIfInBounds_toArray,List.set_cons_zero,List.set_cons_succ,i64_w,i32_w]
          rfl
        refine pure_ (i := 6) (N := some 17) (v := ?_) (a' := ?_) (mb 17 127) rfl rfl (any_of HT_.out (by kernel_rfl)) (fun _ _ _ h => h) (Or.inl ⟨by rfl,?_⟩) ?_ ?_
        rotate_left
        · intro w'
          go_simp
          (try with_reducible rfl)
        rotate_left
        · simp only [Act.put,List.setIfInBounds_toArray,List.set_cons_zero,List.set_cons_succ,i64_w,i32_w]
          rfl
        refine pure_ (i := 10) (N := some 21) (v := ?_) (a' := ?_) (mb 17 1151) rfl rfl (any_of HT_.out (by kernel_rfl)) (fun _ _ _ h => h) (Or.inl ⟨by rfl,?_⟩) ?_ ?_
        rotate_left
        · intro w'
          go_simp
          (try with_reducible rfl)
        rotate_left
        · simp only [Act.put,List.setIfInBounds_toArray,List.set_cons_zero,List.set_cons_succ,i64_w,i32_w]
          rfl
        refine pure_ (i := 11) (N := some 22) (v := ?_) (a' := ?_) (mb 17 3199) rfl rfl (any_of HT_.out (by kernel_rfl)) (fun _ _ _ h => h) (Or.inl ⟨by rfl,?_⟩) ?_ ?_
        rotate_left
        · intro w'
          go_simp
          (try with_reducible rfl)
        rotate_left
        · simp only [Act.put,List.setIfInBounds_toArray,List.set_cons_zero,List.set_cons_succ,i64_w,i32_w]
          rfl
        refine take_ (i := 7) (N := some 18) (v := ?_) (a' := ?_) (mb 17 3327) rfl rfl (take_ofW HT_.out HW_.out (by kernel_rfl)) (fun _ _ _ h => h) (Or.inl ⟨by rfl,?_⟩) hHeld ?_ ?_
        rotate_left
        · rintro w' ⟨s0,s1⟩
          go_simp
          (try with_reducible rfl)
        rotate_left
        · simp only [Act.put,List.setIfInBounds_toArray,List.set_cons_zero,List.set_cons_succ,i64_w,i32_w]
          rfl
        refine pure_ (i := 8) (N := some 19) (v := ?_) (a' := ?_) (mb 17 3583) rfl rfl (any_of HT_.out (by kernel_rfl)) (fun _ _ _ h => h) (Or.inl ⟨by rfl,?_⟩) ?_ ?_
        rotate_left
        · intro w'
          go_simp
          (try with_reducible rfl)
        rotate_left
        · simp only [Act.put,List.setIfInBounds_toArray,List.set_cons_zero,List.set_cons_succ,i64_w,i32_w]
          rfl
        refine take_ (i := 9) (N := some 20) (v := ?_) (a' := ?_) (mb 17 4095) rfl rfl (take_ofW HT_.out HW_.out (by kernel_rfl)) (fun _ _ _ h => h) (Or.inl ⟨by rfl,?_⟩) hHeld ?_ ?_
        rotate_left
        · rintro w' ⟨s0,s1⟩
          go_simp
          (try with_reducible rfl)
        rotate_left
        · simp only [Act.put,List.setIfInBounds_toArray,List.set_cons_zero,List.set_cons_succ,i64_w,i32_w]
          rfl
        refine take_ (i := 12) (N := some 23) (v := ?_) (a' := ?_) (mb 17 8191) rfl rfl (take_ofW HT_.out HW_.out (by kernel_rfl)) (fun _ _ _ h => h) (Or.inl ⟨by rfl,?_⟩) hHeld ?_ ?_
        rotate_left
        · rintro w' ⟨s0,s1⟩
          go_simp
          (try with_reducible rfl)
        rotate_left
        · simp only [Act.put,List.setIfInBounds_toArray,List.set_cons_zero,List.set_cons_succ,i64_w,i32_w]
          rfl
        refine pure_ (i := 13) (N := some 24) (v := ?_) (a' := ?_) (mb 17 16383) rfl rfl (any_of HT_.out (by kernel_rfl)) (fun _ _ _ h => h) (Or.inl ⟨by rfl,?_⟩) ?_ ?_
        rotate_left
        · intro w'
          go_simp
          (try with_reducible rfl)
        rotate_left
        · simp only [Act.put,List.setIfInBounds_toArray,List.set_cons_zero,List.set_cons_succ,i64_w,i32_w]
          rfl
        refine take_ (i := 14) (N := some 25) (v := ?_) (a' := ?_) (mb 17 32767) rfl rfl (take_ofW HT_.out HW_.out (by kernel_rfl)) (fun _ _ _ h => h) (Or.inl ⟨by rfl,?_⟩) hHeld ?_ ?_
        rotate_left
        · rintro w' ⟨s0,s1⟩
          go_simp
          (try with_reducible rfl)
        rotate_left
        · simp only [Act.put,List.setIfInBounds_toArray,List.set_cons_zero,List.set_cons_succ,i64_w,i32_w]
          rfl
        refine pure_ (i := 15) (N := some 26) (v := ?_) (a' := ?_) (mb 17 65535) rfl rfl (any_of HT_.out (by kernel_rfl)) (fun _ _ _ h => h) (Or.inl ⟨by rfl,?_⟩) ?_ ?_
        rotate_left
        · intro w'
          go_simp
          (try with_reducible rfl)
        rotate_left
        · simp only [Act.put,List.setIfInBounds_toArray,List.set_cons_zero,List.set_cons_succ,i64_w,i32_w]
          rfl
        refine pure_ (i := 16) (N := some 27) (v := ?_) (a' := ?_) (mb 17 131071) rfl rfl (any_of HT_.out (by kernel_rfl)) (fun _ _ _ h => h) (Or.inl ⟨by rfl,?_⟩) ?_ ?_
        rotate_left
        · intro w'
          go_simp
          (try with_reducible rfl)
        rotate_left
        · simp only [Act.put,List.setIfInBounds_toArray,List.set_cons_zero,List.set_cons_succ,i64_w,i32_w]
          rfl
        refine done_ (done_of HT_.out (by kernel_rfl)) ?_
        have HBI := qb_binds H.out k n HLT.out (by have := HK.out;omega) back
        obtain ⟨t,ht⟩ : ∃ t,bindsV P l back k n = t := ⟨_,rfl⟩
        rw [ht] at HBI
        have HT := Aside0.mk ht
        have HBI := Aside0.mk HBI
        clear gn gk b4 b5 heq ht
        cases t
        case true =>
          go_wp2_with (go_at_call 27;refine (HBI.out.at_ (below_drew HW.out)).mono ?_;rintro e w6 ⟨rfl,hb6⟩;have HB6 := Aside0.mk hb6;clear hb6)
          go_roundg (P.length - (n + 1))
          case measure => have := HGG.out;have := HLT.out;omega
          case rel => exact ⟨n + 1,HLT.out,Nat.le_refl _,by first | rw [bw] | go_num,⟨by have h9 := HD.out;rw [HDR.out,stuckF,if_pos HEQ.out,HT.out] at h9;simpa using h9⟩,HB6⟩
        case false =>
          go_wp2_with (go_at_call 27;refine (HBI.out.at_ (below_drew HW.out)).mono ?_;rintro e w6 ⟨rfl,hb6⟩;have HB6 := Aside0.mk hb6;clear hb6)
          go_ret
          exact ⟨by have h9 := HD.out;rw [HDR.out,stuckF,if_pos HEQ.out,HT.out] at h9;rw [← h9];rfl,HB6.out⟩
      · have b4 : decide (s.f0 = dk) = false := decide_eq_false heq
        have b5 : (s.f0 == dk) = false := beq_eq_false_iff_ne.2 heq
        have HNE := Aside0.mk heq
        go_wp2
        refine start_ (n := 17) (S := fun w' => w'.cell? (ad.add (n * 3)) = some (.int .i64 s.f0) ∧ w'.cell? (ad.add (k * 3)) = some (.int .i64 dk)) (ds := []) (mb 17 0) (by kernel_rfl) rfl rfl ⟨gn,gk⟩ (fun hHeld => ?_);refine with_tabW stuck2.tab stuck2.bits (fun HT_ HW_ => ?_)
        refine pure_ (i := 0) (N := some 11) (v := ?_) (a' := ?_) (mb 17 1) rfl rfl (any_of HT_.out (by kernel_rfl)) (fun _ _ _ h => h) (Or.inl ⟨by rfl,?_⟩) ?_ ?_
        rotate_left
        · intro w'
          go_simp
          (try with_reducible rfl)
        rotate_left
        · simp only [Act.put,List.setIfInBounds_toArray,List.set_cons_zero,List.set_cons_succ,i64_w,i32_w]
          rfl
        refine pure_ (i := 1) (N := some 12) (v := ?_) (a' := ?_) (mb 17 3) rfl rfl (any_of HT_.out (by kernel_rfl)) (fun _ _ _ h => h) (Or.inl ⟨by rfl,?_⟩) ?_ ?_
        rotate_left
        · intro w'
          go_simp
          (try with_reducible rfl)
        rotate_left
        · simp only [Act.put,List.setIfInBounds_toArray,List.set_cons_zero,List.set_cons_succ,i64_w,i32_w]
          rfl
        refine pure_ (i := 2) (N := some 13) (v := ?_) (a' := ?_) (mb 17 7) rfl rfl (any_of HT_.out (by kernel_rfl)) (fun _ _ _ h => h) (Or.inl ⟨by rfl,?_⟩) ?_ ?_
        rotate_left
        · intro w'
          go_simp
          (try with_reducible rfl)
        rotate_left
        · simp only [Act.put,List.setIfInBounds_toArray,List.set_cons_zero,List.set_cons_succ,i64_w,i32_w]
          rfl
        refine pure_ (i := 3) (N := some 14) (v := ?_) (a' := ?_) (mb 17 15) rfl rfl (any_of HT_.out (by kernel_rfl)) (fun _ _ _ h => h) (Or.inl ⟨by rfl,?_⟩) ?_ ?_
        rotate_left
        · intro w'
          go_simp
          (try with_reducible rfl)
        rotate_left
        · simp only [Act.put,List.setIfInBounds_toArray,List.set_cons_zero,List.set_cons_succ,i64_w,i32_w]
          rfl
        refine pure_ (i := 4) (N := some 15) (v := ?_) (a' := ?_) (mb 17 31) rfl rfl (any_of HT_.out (by kernel_rfl)) (fun _ _ _ h => h) (Or.inl ⟨by rfl,?_⟩) ?_ ?_
        rotate_left
        · intro w'
          go_simp
          (try with_reducible rfl)
        rotate_left
        · simp only [Act.put,List.setIfInBounds_toArray,List.set_cons_zero,List.set_cons_succ,i64_w,i32_w]
          rfl
        refine pure_ (i := 5) (N := some 16) (v := ?_) (a' := ?_) (mb 17 63) rfl rfl (any_of HT_.out (by kernel_rfl)) (fun _ _ _ h => h) (Or.inl ⟨by rfl,?_⟩) ?_ ?_
        rotate_left
        · intro w'
          go_simp
          (try with_reducible rfl)
        rotate_left
        · simp only [Act.put,List.setIfInBounds_toArray,List.set_cons_zero,List.set_cons_succ,i64_w,i32_w]
          rfl
        refine pure_ (i := 6) (N := some 17) (v := ?_) (a' := ?_) (mb 17 127) rfl rfl (any_of HT_.out (by kernel_rfl)) (fun _ _ _ h => h) (Or.inl ⟨by rfl,?_⟩) ?_ ?_
        rotate_left
        · intro w'
          go_simp
          (try with_reducible rfl)
        rotate_left
        · simp only [Act.put,List.setIfInBounds_toArray,List.set_cons_zero,List.set_cons_succ,i64_w,i32_w]
          rfl
        refine pure_ (i := 10) (N := some 21) (v := ?_) (a' := ?_) (mb 17 1151) rfl rfl (any_of HT_.out (by kernel_rfl)) (fun _ _ _ h => h) (Or.inl ⟨by rfl,?_⟩) ?_ ?_
        rotate_left
        · intro w'
          go_simp
          (try with_reducible rfl)
        rotate_left
        · simp only [Act.put,List.setIfInBounds_toArray,List.set_cons_zero,List.set_cons_succ,i64_w,i32_w]
          rfl
        refine pure_ (i := 11) (N := some 22) (v := ?_) (a' := ?_) (mb 17 3199) rfl rfl (any_of HT_.out (by kernel_rfl)) (fun _ _ _ h => h) (Or.inl ⟨by rfl,?_⟩) ?_ ?_
        rotate_left
        · intro w'
          go_simp
          (try with_reducible rfl)
        rotate_left
        · simp only [Act.put,List.setIfInBounds_toArray,List.set_cons_zero,List.set_cons_succ,i64_w,i32_w]
          rfl
        refine take_ (i := 7) (N := some 18) (v := ?_) (a' := ?_) (mb 17 3327) rfl rfl (take_ofW HT_.out HW_.out (by kernel_rfl)) (fun _ _ _ h => h) (Or.inl ⟨by rfl,?_⟩) hHeld ?_ ?_
        rotate_left
        · rintro w' ⟨s0,s1⟩
          go_simp
          (try with_reducible rfl)
        rotate_left
        · simp only [Act.put,List.setIfInBounds_toArray,List.set_cons_zero,List.set_cons_succ,i64_w,i32_w]
          rfl
        refine pure_ (i := 8) (N := some 19) (v := ?_) (a' := ?_) (mb 17 3583) rfl rfl (any_of HT_.out (by kernel_rfl)) (fun _ _ _ h => h) (Or.inl ⟨by rfl,?_⟩) ?_ ?_
        rotate_left
        · intro w'
          go_simp
          (try with_reducible rfl)
        rotate_left
        · simp only [Act.put,List.setIfInBounds_toArray,List.set_cons_zero,List.set_cons_succ,i64_w,i32_w]
          rfl
        refine take_ (i := 9) (N := some 20) (v := ?_) (a' := ?_) (mb 17 4095) rfl rfl (take_ofW HT_.out HW_.out (by kernel_rfl)) (fun _ _ _ h => h) (Or.inl ⟨by rfl,?_⟩) hHeld ?_ ?_
        rotate_left
        · rintro w' ⟨s0,s1⟩
          go_simp
          (try with_reducible rfl)
        rotate_left
        · simp only [Act.put,List.setIfInBounds_toArray,List.set_cons_zero,List.set_cons_succ,i64_w,i32_w]
          rfl
        refine take_ (i := 12) (N := some 23) (v := ?_) (a' := ?_) (mb 17 8191) rfl rfl (take_ofW HT_.out HW_.out (by kernel_rfl)) (fun _ _ _ h => h) (Or.inl ⟨by rfl,?_⟩) hHeld ?_ ?_
        rotate_left
        · rintro w' ⟨s0,s1⟩
          go_simp
          (try with_reducible rfl)
        rotate_left
        · simp only [Act.put,List.setIfInBounds_toArray,List.set_cons_zero,List.set_cons_succ,i64_w,i32_w]
          rfl
        refine pure_ (i := 13) (N := some 24) (v := ?_) (a' := ?_) (mb 17 16383) rfl rfl (any_of HT_.out (by kernel_rfl)) (fun _ _ _ h => h) (Or.inl ⟨by rfl,?_⟩) ?_ ?_
        rotate_left
        · intro w'
          go_simp
          (try with_reducible rfl)
        rotate_left
        · simp only [Act.put,List.setIfInBounds_toArray,List.set_cons_zero,List.set_cons_succ,i64_w,i32_w]
          rfl
        refine take_ (i := 14) (N := some 25) (v := ?_) (a' := ?_) (mb 17 32767) rfl rfl (take_ofW HT_.out HW_.out (by kernel_rfl)) (fun _ _ _ h => h) (Or.inl ⟨by rfl,?_⟩) hHeld ?_ ?_
        rotate_left
        · rintro w' ⟨s0,s1⟩
          go_simp
          (try with_reducible rfl)
        rotate_left
        · simp only [Act.put,List.setIfInBounds_toArray,List.set_cons_zero,List.set_cons_succ,i64_w,i32_w]
          rfl
        refine pure_ (i := 15) (N := some 26) (v := ?_) (a' := ?_) (mb 17 65535) rfl rfl (any_of HT_.out (by kernel_rfl)) (fun _ _ _ h => h) (Or.inl ⟨by rfl,?_⟩) ?_ ?_
        rotate_left
        · intro w'
          go_simp
          (try with_reducible rfl)
        rotate_left
        · simp only [Act.put,List.setIfInBounds_toArray,List.set_cons_zero,List.set_cons_succ,i64_w,i32_w]
          rfl
        refine pure_ (i := 16) (N := some 27) (v := ?_) (a' := ?_) (mb 17 131071) rfl rfl (any_of HT_.out (by kernel_rfl)) (fun _ _ _ h => h) (Or.inl ⟨by rfl,?_⟩) ?_ ?_
        rotate_left
        · intro w'
          go_simp
          (try with_reducible rfl)
        rotate_left
        · simp only [Act.put,List.setIfInBounds_toArray,List.set_cons_zero,List.set_cons_succ,i64_w,i32_w]
          rfl
        refine done_ (done_of HT_.out (by kernel_rfl)) ?_
        go_wp2
        go_ret
        exact ⟨by have h9 := HD.out;rw [HDR.out,stuckF,if_neg HNE.out] at h9;rw [← h9];rfl,below_drew HW.out⟩
    · have b2 : decide ((n : Int) < (P.length : Int)) = false := decide_eq_false (by omega)
      have b3 : decide (n < P.length) = false := decide_eq_false hlt
      have hD := HD.out
      rw [List.drop_of_length_le (by omega)] at hD
      have HDD := Aside0.mk hD
      clear hD hg hn
      go_wp2
      refine start_ (n := 17) (S := fun _ => True) (ds := []) (mb 17 0) (by kernel_rfl) rfl rfl trivial (fun hHeld => ?_);refine with_tabW stuck2.tab stuck2.bits (fun HT_ HW_ => ?_)
      refine pure_ (i := 0) (N := some 11) (v := ?_) (a' := ?_) (mb 17 1) rfl rfl (any_of HT_.out (by kernel_rfl)) (fun _ _ _ h => h) (Or.inl ⟨by rfl,?_⟩) ?_ ?_
      rotate_left
      · intro w'
        go_simp
        (try with_reducible rfl)
      rotate_left
      · simp only [Act.put,List.setIfInBounds_toArray,List.set_cons_zero,List.set_cons_succ,i64_w,i32_w]
        rfl
      refine pure_ (i := 1) (N := some 12) (v := ?_) (a' := ?_) (mb 17 3) rfl rfl (any_of HT_.out (by kernel_rfl)) (fun _ _ _ h => h) (Or.inl ⟨by rfl,?_⟩) ?_ ?_
      rotate_left
      · intro w'
        go_simp
        (try with_reducible rfl)
      rotate_left
      · simp only [Act.put,List.setIfInBounds_toArray,List.set_cons_zero,List.set_cons_succ,i64_w,i32_w]
        rfl
      refine pure_ (i := 2) (N := some 13) (v := ?_) (a' := ?_) (mb 17 7) rfl rfl (any_of HT_.out (by kernel_rfl)) (fun _ _ _ h => h) (Or.inl ⟨by rfl,?_⟩) ?_ ?_
      rotate_left
      · intro w'
        go_simp
        (try with_reducible rfl)
      rotate_left
      · simp only [Act.put,List.setIfInBounds_toArray,List.set_cons_zero,List.set_cons_succ,i64_w,i32_w]
        rfl
      refine pure_ (i := 3) (N := some 14) (v := ?_) (a' := ?_) (mb 17 15) rfl rfl (any_of HT_.out (by kernel_rfl)) (fun _ _ _ h => h) (Or.inl ⟨by rfl,?_⟩) ?_ ?_
      rotate_left
      · intro w'
        go_simp
        (try with_reducible rfl)
      rotate_left
      · simp only [Act.put,List.setIfInBounds_toArray,List.set_cons_zero,List.set_cons_succ,i64_w,i32_w]
        rfl
      refine pure_ (i := 4) (N := some 15) (v := ?_) (a' := ?_) (mb 17 31) rfl rfl (any_of HT_.out (by kernel_rfl)) (fun _ _ _ h => h) (Or.inl ⟨by rfl,?_⟩) ?_ ?_
      rotate_left
      · intro w'
        go_simp
        (try with_reducible rfl)
      rotate_left
      · simp only [Act.put,List.setIfInBounds_toArray,List.set_cons_zero,List.set_cons_succ,i64_w,i32_w]
        rfl
      refine pure_ (i := 5) (N := some 16) (v := undef) (a' := ?_) (mb 17 63) rfl rfl (any_of HT_.out (by kernel_rfl)) (fun _ _ _ h => h) (Or.inr ⟨by rfl,rfl⟩) ?_ ?_
      rotate_left
      · simp only [Act.put,List.setIfInBounds_toArray,List.set_cons_zero,List.set_cons_succ,i64_w,i32_w]
        rfl
      refine pure_ (i := 6) (N := some 17) (v := undef) (a' := ?_) (mb 17 127) rfl rfl (any_of HT_.out (by kernel_rfl)) (fun _ _ _ h => h) (Or.inr ⟨by rfl,rfl⟩) ?_ ?_
      rotate_left
      · simp only [Act.put,List.setIfInBounds_toArray,List.set_cons_zero,List.set_cons_succ,i64_w,i32_w]
        rfl
      refine pure_ (i := 7) (N := some 18) (v := undef) (a' := ?_) (mb 17 255) rfl rfl (any_of HT_.out (by kernel_rfl)) (fun _ _ _ h => h) (Or.inr ⟨by rfl,rfl⟩) ?_ ?_
      rotate_left
      · simp only [Act.put,List.setIfInBounds_toArray,List.set_cons_zero,List.set_cons_succ,i64_w,i32_w]
        rfl
      refine pure_ (i := 8) (N := some 19) (v := undef) (a' := ?_) (mb 17 511) rfl rfl (any_of HT_.out (by kernel_rfl)) (fun _ _ _ h => h) (Or.inr ⟨by rfl,rfl⟩) ?_ ?_
      rotate_left
      · simp only [Act.put,List.setIfInBounds_toArray,List.set_cons_zero,List.set_cons_succ,i64_w,i32_w]
        rfl
      refine pure_ (i := 9) (N := some 20) (v := undef) (a' := ?_) (mb 17 1023) rfl rfl (any_of HT_.out (by kernel_rfl)) (fun _ _ _ h => h) (Or.inr ⟨by rfl,rfl⟩) ?_ ?_
      rotate_left
      · simp only [Act.put,List.setIfInBounds_toArray,List.set_cons_zero,List.set_cons_succ,i64_w,i32_w]
        rfl
      refine pure_ (i := 10) (N := some 21) (v := undef) (a' := ?_) (mb 17 2047) rfl rfl (any_of HT_.out (by kernel_rfl)) (fun _ _ _ h => h) (Or.inr ⟨by rfl,rfl⟩) ?_ ?_
      rotate_left
      · simp only [Act.put,List.setIfInBounds_toArray,List.set_cons_zero,List.set_cons_succ,i64_w,i32_w]
        rfl
      refine pure_ (i := 11) (N := some 22) (v := undef) (a' := ?_) (mb 17 4095) rfl rfl (any_of HT_.out (by kernel_rfl)) (fun _ _ _ h => h) (Or.inr ⟨by rfl,rfl⟩) ?_ ?_
      rotate_left
      · simp only [Act.put,List.setIfInBounds_toArray,List.set_cons_zero,List.set_cons_succ,i64_w,i32_w]
        rfl
      refine pure_ (i := 12) (N := some 23) (v := undef) (a' := ?_) (mb 17 8191) rfl rfl (any_of HT_.out (by kernel_rfl)) (fun _ _ _ h => h) (Or.inr ⟨by rfl,rfl⟩) ?_ ?_
      rotate_left
      · simp only [Act.put,List.setIfInBounds_toArray,List.set_cons_zero,List.set_cons_succ,i64_w,i32_w]
        rfl
      refine pure_ (i := 13) (N := some 24) (v := undef) (a' := ?_) (mb 17 16383) rfl rfl (any_of HT_.out (by kernel_rfl)) (fun _ _ _ h => h) (Or.inr ⟨by rfl,rfl⟩) ?_ ?_
      rotate_left
      · simp only [Act.put,List.setIfInBounds_toArray,List.set_cons_zero,List.set_cons_succ,i64_w,i32_w]
        rfl
      refine pure_ (i := 14) (N := some 25) (v := undef) (a' := ?_) (mb 17 32767) rfl rfl (any_of HT_.out (by kernel_rfl)) (fun _ _ _ h => h) (Or.inr ⟨by rfl,rfl⟩) ?_ ?_
      rotate_left
      · simp only [Act.put,List.setIfInBounds_toArray,List.set_cons_zero,List.set_cons_succ,i64_w,i32_w]
        rfl
      refine pure_ (i := 15) (N := some 26) (v := undef) (a' := ?_) (mb 17 65535) rfl rfl (any_of HT_.out (by kernel_rfl)) (fun _ _ _ h => h) (Or.inr ⟨by rfl,rfl⟩) ?_ ?_
      rotate_left
      · simp only [Act.put,List.setIfInBounds_toArray,List.set_cons_zero,List.set_cons_succ,i64_w,i32_w]
        rfl
      refine pure_ (i := 16) (N := some 27) (v := ?_) (a' := ?_) (mb 17 131071) rfl rfl (any_of HT_.out (by kernel_rfl)) (fun _ _ _ h => h) (Or.inl ⟨by rfl,?_⟩) ?_ ?_
      rotate_left
      · intro w'
        go_simp
        (try with_reducible rfl)
      rotate_left
      · simp only [Act.put,List.setIfInBounds_toArray,List.set_cons_zero,List.set_cons_succ,i64_w,i32_w]
        rfl
      refine done_ (done_of HT_.out (by kernel_rfl)) ?_
      go_wp2
      go_ret
      exact ⟨by rw [← HDD.out];rfl,below_drew HW.out⟩
theorem qb_stuck {w : World} {Ap A : Option Addr} {cp c : Nat} {P : List St3} {l : List H8} (h : PArgs w Ap cp P A c l) (k : Nat) (hk : k < P.length) (back : Bool) :
    QB w 12 #[.slice Ap P.length cp,.int .i64 (k : Int),.slice A l.length c,.bool back] (.bool (stuckV P l back k)) := fun W hb => stuck_calls (h.below hb) k hk back
end Go.Proofs.YtiidmjmkgjfaeaaGreatDoor.Ent

