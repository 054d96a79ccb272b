import GoSem.Op.String
import Derived.Test.YtiidmjmkgjfaeaaGreatDoorJouLaw3
import Derived.Test.YtiidmjmkgjfaeaaGreatDoorPAx9
namespace Jou
set_option linter.unusedSectionVars false
structure Sig (α β κ ν : Type) where
  nm : α → κ
  vs : α → ν
  ent : β → α
  lt : κ → κ → Prop
  irr : ∀ a,¬ lt a a
  tr : ∀ a b c,lt a b → lt b c → lt a c
  tri : ∀ a b,a = b ∨ lt a b ∨ lt b a
variable {α β κ ν : Type} [DecidableEq κ] [DecidableEq ν] (S : Sig α β κ ν) [DecidableRel S.lt]
def Sig.key (h : β) : κ := S.nm (S.ent h)
def findV (l : List β) (n : κ) : Option β := l.find? fun h => decide (S.key h = n)
def Rising (l : List β) : Prop := l.Pairwise fun a b => S.lt (S.key a) (S.key b)
variable {S}
theorem Rising.nodup {l : List β} (h : Rising S l) : (l.map S.key).Nodup := by
  rw [List.Nodup,List.pairwise_map]
  exact List.Pairwise.imp (fun {a b} (hab : S.lt (S.key a) (S.key b)) (e : S.key a = S.key b) => by rw [e] at hab;exact S.irr _ hab) h
theorem find_of_mem : ∀ {l : List β} (_ : (l.map S.key).Nodup) {h : β} (_ : h ∈ l),findV S l (S.key h) = some h
  | x :: l,hn,h,hm => by
    rw [List.map_cons,List.nodup_cons] at hn
    unfold findV
    rw [List.find?_cons]
    rcases List.mem_cons.1 hm with rfl | hm
    · simp
    · have hne : S.key x ≠ S.key h := fun e => hn.1 (e ▸ List.mem_map_of_mem hm)
      simp only [hne,decide_false]
      exact find_of_mem hn.2 hm
end Jou

namespace JouT
open Go
theorem less_irr : ∀ a : List UInt8,Op.bytesLess a a = false
  | [] => rfl
  | x :: a => by simp [Op.bytesLess,less_irr a]
theorem less_tri : ∀ a b : List UInt8,a = b ∨ Op.bytesLess a b = true ∨ Op.bytesLess b a = true
  | [],[] => .inl rfl
  | [],_ :: _ => .inr (.inl (by simp [Op.bytesLess]))
  | _ :: _,[] => .inr (.inr (by simp [Op.bytesLess]))
  | x :: a,y :: b => by
    simp only [Op.bytesLess]
    rcases less_tri a b with h | h | h
    · subst h
      by_cases h1 : x < y
      · exact .inr (.inl (by simp [h1]))
      · by_cases h2 : y < x
        · exact .inr (.inr (by simp [h2]))
        · have : x = y := UInt8.toNat_inj.mp (by simp [UInt8.lt_iff_toNat_lt] at *;omega)
          exact .inl (by rw [this])
    · by_cases h1 : x < y
      · exact .inr (.inl (by simp [h1]))
      · by_cases h2 : y < x
        · exact .inr (.inr (by simp [h2]))
        · have : x = y := UInt8.toNat_inj.mp (by simp [UInt8.lt_iff_toNat_lt] at *;omega)
          exact .inr (.inl (by simp [this,h]))
    · by_cases h1 : x < y
      · exact .inr (.inl (by simp [h1]))
      · by_cases h2 : y < x
        · exact .inr (.inr (by simp [h2]))
        · have : x = y := UInt8.toNat_inj.mp (by simp [UInt8.lt_iff_toNat_lt] at *;omega)
          exact .inr (.inr (by simp [this,h]))
theorem less_tr : ∀ a b c : List UInt8,Op.bytesLess a b = true → Op.bytesLess b c = true → Op.bytesLess a c = true
  | [],_,[],_,h => by cases ‹List UInt8› <;> simp [Op.bytesLess] at h
  | [],_,_ :: _,_,_ => by simp [Op.bytesLess]
  | _ :: _,[],_,h,_ => by simp [Op.bytesLess] at h
  | _ :: _,_ :: _,[],_,h => by simp [Op.bytesLess] at h
  | x :: a,y :: b,z :: c,h1,h2 => by
    simp only [Op.bytesLess] at *
    by_cases xy : x < y
    · by_cases yz : y < z
      · have : x < z := by simp [UInt8.lt_iff_toNat_lt] at *;omega
        simp [this]
      · by_cases zy : z < y
        · have : ¬ y = z := by rintro rfl;exact yz zy
          simp [yz,this] at h2
        · have : y = z := UInt8.toNat_inj.mp (by simp [UInt8.lt_iff_toNat_lt] at *;omega)
          subst this
          simp [xy]
    · by_cases yx : y < x
      · have : ¬ x = y := by rintro rfl;exact xy yx
        simp [xy,this] at h1
      · have : x = y := UInt8.toNat_inj.mp (by simp [UInt8.lt_iff_toNat_lt] at *;omega)
        subst this
        by_cases xz : x < z
        · simp [xz]
        · simp [xy] at h1
          simp [xz] at h2
          obtain ⟨rfl,h2⟩ := h2
          simp [less_tr a b c h1 h2]
end JouT

namespace Go.Proofs.YtiidmjmkgjfaeaaGreatDoor.Ent
open Go Go.RowKit Go.Shelf Go.Proofs.YtiidmjmkgjfaeaaGreatDoorW.PrintWords Go.Proofs.YtiidmjmkgjfaeaaGreatDoor.PA Go.Proofs.YtiidmjmkgjfaeaaGreatDoor.Pure
set_option linter.unusedVariables false
set_option linter.unusedSimpArgs false
def sigE : Jou.Sig E6 H8 (List UInt8) (List UInt8) := ⟨nmE,fun e => e.f1.toList,fun h => h.f0,fun a b => Op.bytesLess a b = true,fun a h => (by rw [JouT.less_irr] at h;cases h),JouT.less_tr,JouT.less_tri⟩
instance : DecidableRel sigE.lt := fun a b => inferInstanceAs (Decidable (Op.bytesLess a b = true))
theorem find_sig (l : List H8) (n : ByteArray) : findH l n = Jou.findV sigE l n.toList := by
  unfold findH Jou.findV
  congr 1
  funext h
  show (h.f0.f0.toList == n.toList) = decide (h.f0.f0.toList = n.toList)
  by_cases e : h.f0.f0.toList = n.toList <;> simp [e]
theorem rises_rising : ∀ (l : List H8) (p : Option H8),risesFrom p l = true → (∀ q,p = some q → ∀ h ∈ l,sigE.lt (sigE.key q) (sigE.key h)) ∧ Jou.Rising sigE l
  | [],_,_ => ⟨fun _ _ h hh => (nomatch hh),List.Pairwise.nil⟩
  | x :: r,p,h => by
    have hx : risesFrom (some x) r = true := by
      cases p <;> simp only [risesFrom,Bool.and_eq_true] at h
      · exact h.2
      · exact h.2
    obtain ⟨h1,h2⟩ := rises_rising r (some x) hx
    refine ⟨fun q hq y hy => ?_,List.pairwise_cons.2 ⟨h1 x rfl,h2⟩⟩
    subst hq
    simp only [risesFrom,Bool.and_eq_true] at h
    have hqx : sigE.lt (sigE.key q) (sigE.key x) := h.1.2
    rcases List.mem_cons.1 hy with rfl | hy
    · exact hqx
    · exact sigE.tr _ _ _ hqx (h1 x rfl y hy)
theorem right_rising {l : List H8} (h : rightH l = true) : Jou.Rising sigE l := by
  unfold rightH at h
  rw [Bool.and_eq_true] at h
  exact (rises_rising l none h.1).2
theorem fits_right {l : List H8} (h : fitsH l = true) : rightH l = true := by
  unfold fitsH at h
  rw [Bool.and_eq_true] at h
  exact h.1
theorem found {l : List H8} (h : rightH l = true) (m : List H8) : ∀ e ∈ changedE l m,(findD l e.f0).f0 = e := fun e he => by
  unfold changedE at he
  obtain ⟨x,hx,rfl⟩ := List.mem_map.1 he
  have hf := Jou.find_of_mem (S := sigE) (right_rising h).nodup (List.mem_filter.1 hx).1
  unfold findD
  rw [find_sig,show x.f0.f0.toList = sigE.key x from rfl,hf]
  rfl
theorem names_nodup {l : List H8} (h : rightH l = true) (m : List H8) : ((changedE l m).map nmE).Nodup := by
  unfold changedE
  rw [List.map_map]
  exact (List.filter_sublist.map _).nodup (right_rising h).nodup
section
variable {l : List H8} {back : Bool} {d : Int} {k : Nat} {a : E6}
theorem bindsF_iff {T : List St3} (hT : ∀ s ∈ T.head?,s.f0 ≠ d) : ∀ (L : List E6) (n : Nat) (_ : ∀ e ∈ L,(findD l e.f0).f0 = e),bindsF l back d k a n (L.map (stepE d) ++ T) = true ↔ ∃ j x,L[j]? = some x ∧ n + j ≠ k ∧ bindOf back a x = true
  | [],n,_ => by
    rw [List.map_nil,List.nil_append]
    cases T with
    | nil => simp [bindsF]
    | cons s r =>
      rw [bindsF,if_neg (hT s rfl)]
      simp
  | e :: L,n,hf => by
    rw [List.map_cons,List.cons_append,bindsF,if_pos (show (stepE d e).f0 = d from rfl),Bool.or_eq_true,Bool.and_eq_true,bindsF_iff hT L (n + 1) (fun x hx => hf x (List.mem_cons_of_mem _ hx))]
    rw [show (findD l (stepE d e).f1).f0 = e from hf e List.mem_cons_self]
    constructor
    · rintro (⟨h1,h2⟩ | ⟨j,x,h1,h2,h3⟩)
      · exact ⟨0,e,rfl,by simpa using h1,h2⟩
      · exact ⟨j + 1,x,h1,by omega,h3⟩
    · rintro ⟨j,x,h1,h2,h3⟩
      cases j with
      | zero =>
        obtain rfl : e = x := by simpa using h1
        exact .inl ⟨by simpa using h2,h3⟩
      | succ j => exact .inr ⟨j,x,h1,by omega,h3⟩
theorem stuckF_iff {f : Nat → Bool} {T : List St3} (hT : ∀ s ∈ T.head?,s.f0 ≠ d) : ∀ (L : List E6) (n : Nat),stuckF f d n (L.map (stepE d) ++ T) = true ↔ ∀ j,j < L.length → f (n + j) = true
  | [],n => by
    rw [List.map_nil,List.nil_append]
    cases T with
    | nil => simp [stuckF]
    | cons s r =>
      rw [stuckF,if_neg (hT s rfl)]
      simp
  | e :: L,n => by
    rw [List.map_cons,List.cons_append,stuckF,if_pos (show (stepE d e).f0 = d from rfl),Bool.and_eq_true,stuckF_iff hT L (n + 1)]
    constructor
    · rintro ⟨h1,h2⟩ j hj
      cases j with
      | zero => exact h1
      | succ j =>
        have := h2 j (by simpa using hj)
        rwa [show n + 1 + j = n + (j + 1) by omega] at this
    · intro h
      refine ⟨h 0 (by simp),fun j hj => ?_⟩
      have := h (j + 1) (by simpa using hj)
      rwa [show n + (j + 1) = n + 1 + j by omega] at this
end
theorem drop_get {P : List St3} {i : Nat} {L : List E6} {d : Int} {T : List St3} (h : P.drop i = L.map (stepE d) ++ T) {j : Nat} (hj : j < L.length) : P.getD (i + j) zP = stepE d L[j] := by
  have h1 : (P.drop i)[j]? = some (stepE d L[j]) := by
    rw [h,List.getElem?_append_left (by rw [List.length_map];exact hj),List.getElem?_map,List.getElem?_eq_getElem hj]
    rfl
  rw [List.getElem?_drop] at h1
  rw [List.getD_eq_getElem?_getD,h1]
  rfl
def bindR (back : Bool) (x e : E6) : Bool := bindOf back e x
theorem binds_bnd {P : List St3} {l : List H8} {back : Bool} {i : Nat} {L : List E6} {d : Int} {T : List St3} (h : P.drop i = L.map (stepE d) ++ T) (hT : ∀ s ∈ T.head?,s.f0 ≠ d) (hf : ∀ e ∈ L,(findD l e.f0).f0 = e) (hn : (L.map nmE).Nodup) {q : Nat} (hq : q < L.length) :
    bindsV P l back i (i + q) = Jou.bnd nmE (bindR back) L L[q] := by
  unfold bindsV
  rw [drop_get h hq,h]
  show bindsF l back d (i + q) (findD l L[q].f0).f0 i _ = _
  rw [hf _ (List.getElem_mem hq),Bool.eq_iff_iff,bindsF_iff hT L i hf]
  unfold Jou.bnd
  rw [List.any_eq_true]
  have inj : ∀ {j : Nat} (hj : j < L.length),nmE L[j] = nmE L[q] → j = q := fun {j} hj e => by
    have h1 : (L.map nmE)[j]'(by rw [List.length_map];exact hj) = (L.map nmE)[q]'(by rw [List.length_map];exact hq) := by rw [List.getElem_map,List.getElem_map];exact e
    exact (List.getElem_inj hn).1 h1
  constructor
  · rintro ⟨j,x,h1,h2,h3⟩
    obtain ⟨hj,rfl⟩ := List.getElem?_eq_some_iff.1 h1
    refine ⟨_,List.getElem_mem hj,?_⟩
    rw [Bool.and_eq_true]
    refine ⟨?_,h3⟩
    have : nmE L[j] ≠ nmE L[q] := fun e => h2 (by rw [inj hj e])
    simp [this]
  · rintro ⟨x,hx,h3⟩
    rw [Bool.and_eq_true] at h3
    obtain ⟨j,hj,rfl⟩ := List.getElem_of_mem hx
    refine ⟨j,_,List.getElem?_eq_getElem hj,fun e => ?_,h3.2⟩
    have : j = q := by omega
    subst this
    have := h3.1
    simp at this
theorem ok_suffix {binds : E6 → E6 → Bool} : ∀ (R : List E6) (i : Nat),Jou.okRow nmE binds R = true → Jou.okRow nmE binds (R.drop i) = true
  | R,0,h => h
  | [],i + 1,_ => rfl
  | e :: R,i + 1,h => by
    rw [List.drop_succ_cons]
    unfold Jou.okRow at h
    rw [Bool.and_eq_true] at h
    exact ok_suffix R i h.2
theorem bound_stuck {P : List St3} {l : List H8} {back : Bool} {i : Nat} {e : E6} {L : List E6} {d : Int} {T : List St3} (h : P.drop i = (e :: L).map (stepE d) ++ T) (hT : ∀ s ∈ T.head?,s.f0 ≠ d) (hf : ∀ x ∈ e :: L,(findD l x.f0).f0 = x) (hn : ((e :: L).map nmE).Nodup)
    (hok : Jou.okRow nmE (bindR back) (e :: L) = true) (hb : bindsV P l back i i = true) : stuckV P l back i = true := by
  have h0 := binds_bnd (back := back) h hT hf hn (q := 0) (by simp)
  rw [Nat.add_zero,hb] at h0
  unfold stuckV
  have hg := drop_get h (j := 0) (by simp)
  rw [Nat.add_zero] at hg
  rw [hg,h]
  show stuckF _ d i _ = true
  rw [stuckF_iff hT (e :: L) i]
  intro j hj
  rw [binds_bnd h hT hf hn hj]
  unfold Jou.okRow at hok
  rw [Bool.and_eq_true,Bool.or_eq_true] at hok
  rcases hok.1 with h1 | h1
  · have h2 : Jou.bnd nmE (bindR back) (e :: L) e = true := h0.symm
    rw [h2] at h1
    cases h1
  · exact List.all_eq_true.1 h1 _ (List.getElem_mem hj)
theorem order_perm' (binds : E6 → E6 → Bool) (l : List E6) : (orderE binds l).Perm l := Jou.order_perm l.length l rfl
theorem order_found {binds : E6 → E6 → Bool} {l m : List H8} (h : rightH l = true) (i : Nat) : ∀ e ∈ (orderE binds (changedE l m)).drop i,(findD l e.f0).f0 = e := fun e he =>
  found h m e ((order_perm' binds _).mem_iff.1 (List.mem_of_mem_drop he))
theorem order_nodup {binds : E6 → E6 → Bool} {l m : List H8} (h : rightH l = true) (i : Nat) : (((orderE binds (changedE l m)).drop i).map nmE).Nodup :=
  (((List.drop_sublist _ _).map nmE).nodup (((order_perm' binds (changedE l m)).map nmE).nodup_iff.2 (names_nodup h m)))
theorem bindR_true : bindR true = needsE := rfl
theorem bindR_false : bindR false = fun a b => needsE b a := rfl
theorem steps_sorted (l m : List H8) : (stepsH l m).Pairwise fun a b => a.f0 ≤ b.f0 := by
  unfold stepsH
  have hm : ∀ (d : Int) (L : List E6),(L.map (stepE d)).Pairwise fun a b => a.f0 ≤ b.f0 := fun d L => by
    rw [List.pairwise_map]
    exact List.pairwise_of_forall (fun a b => Int.le_refl d)
  rw [List.pairwise_append,List.pairwise_append]
  refine ⟨⟨hm _ _,hm _ _,fun a ha b hb => ?_⟩,hm _ _,fun a ha b hb => ?_⟩
  · obtain ⟨_,_,rfl⟩ := List.mem_map.1 ha
    obtain ⟨_,_,rfl⟩ := List.mem_map.1 hb
    show (1 : Int) ≤ 2
    decide
  · obtain ⟨_,_,rfl⟩ := List.mem_map.1 hb
    rcases List.mem_append.1 ha with ha | ha
    · obtain ⟨_,_,rfl⟩ := List.mem_map.1 ha
      show (1 : Int) ≤ 3
      decide
    · obtain ⟨_,_,rfl⟩ := List.mem_map.1 ha
      show (2 : Int) ≤ 3
      decide
theorem steps_rise (l m : List H8) (i : Nat) (h0 : 0 < i) (hi : i < (stepsH l m).length) : ¬ ((stepsH l m).getD i zP).f0 < ((stepsH l m).getD (i - 1) zP).f0 := by
  have h := List.pairwise_iff_getElem.1 (steps_sorted l m) (i - 1) i (by omega) hi (by omega)
  rw [List.getD_eq_getElem?_getD,List.getD_eq_getElem?_getD,List.getElem?_eq_getElem hi,List.getElem?_eq_getElem (by omega)]
  simp only [Option.getD_some]
  omega
theorem removes_ok {l m : List H8} (hl : rightH l = true) (i : Nat) (hi : i < (stepsH l m).length) (h1 : ((stepsH l m).getD i zP).f0 = 1) (hb : bindsV (stepsH l m) l true i i = true) : stuckV (stepsH l m) l true i = true := by
  obtain ⟨R,hR⟩ : ∃ R,orderE needsE (changedE l m) = R := ⟨_,rfl⟩
  obtain ⟨T,hT⟩ : ∃ T,(changedE m l).map (stepE 2) ++ (orderE (fun a b => needsE b a) (changedE m l)).map (stepE 3) = T := ⟨_,rfl⟩
  have hP : stepsH l m = R.map (stepE 1) ++ T := by unfold stepsH;rw [hR,List.append_assoc,hT]
  have hTk : ∀ s ∈ T,s.f0 ≠ 1 := fun s hs => by
    rw [← hT] at hs
    rcases List.mem_append.1 hs with hs | hs
    · obtain ⟨_,_,rfl⟩ := List.mem_map.1 hs;show ¬ (2 : Int) = 1;decide
    · obtain ⟨_,_,rfl⟩ := List.mem_map.1 hs;show ¬ (3 : Int) = 1;decide
  have hiR : i < R.length := by
    rcases Nat.lt_or_ge i R.length with h | h
    · exact h
    · exfalso
      rw [hP,List.getD_eq_getElem?_getD,List.getElem?_append_right (by rw [List.length_map];exact h),List.length_map] at h1
      rw [hP,List.length_append,List.length_map] at hi
      rw [List.getElem?_eq_getElem (by omega)] at h1
      exact hTk _ (List.getElem_mem _) h1
  have hd : (stepsH l m).drop i = (R[i] :: R.drop (i + 1)).map (stepE 1) ++ T := by
    rw [hP,List.drop_append_of_le_length (by rw [List.length_map];omega),← List.map_drop,← List.drop_eq_getElem_cons hiR]
  have he : R[i] :: R.drop (i + 1) = R.drop i := (List.drop_eq_getElem_cons hiR).symm
  refine bound_stuck hd (fun s hs => hTk s (List.mem_of_mem_head? hs)) ?_ ?_ ?_ hb
  · rw [he,← hR];exact order_found hl i
  · rw [he,← hR];exact order_nodup hl i
  · rw [he,← hR,bindR_true];exact ok_suffix _ i (Jou.order_ok _ _ rfl)
theorem configures_ok {l m : List H8} (hm : rightH m = true) (i : Nat) (hi : i < (stepsH l m).length) (h1 : ((stepsH l m).getD i zP).f0 = 3) (hb : bindsV (stepsH l m) m false i i = true) : stuckV (stepsH l m) m false i = true := by
  obtain ⟨C,hC⟩ : ∃ C,orderE (fun a b => needsE b a) (changedE m l) = C := ⟨_,rfl⟩
  obtain ⟨T,hT⟩ : ∃ T,(orderE needsE (changedE l m)).map (stepE 1) ++ (changedE m l).map (stepE 2) = T := ⟨_,rfl⟩
  have hP : stepsH l m = T ++ C.map (stepE 3) := by unfold stepsH;rw [hC,hT]
  have hTk : ∀ s ∈ T,s.f0 ≠ 3 := fun s hs => by
    rw [← hT] at hs
    rcases List.mem_append.1 hs with hs | hs
    · obtain ⟨_,_,rfl⟩ := List.mem_map.1 hs;show ¬ (1 : Int) = 3;decide
    · obtain ⟨_,_,rfl⟩ := List.mem_map.1 hs;show ¬ (2 : Int) = 3;decide
  have hiT : T.length ≤ i := by
    rcases Nat.lt_or_ge i T.length with h | h
    · exfalso
      rw [hP,List.getD_eq_getElem?_getD,List.getElem?_append_left h,List.getElem?_eq_getElem h] at h1
      exact hTk _ (List.getElem_mem _) h1
    · exact h
  rw [hP,List.length_append,List.length_map] at hi
  have hiC : i - T.length < C.length := by omega
  have hd : (stepsH l m).drop i = (C[i - T.length] :: C.drop (i - T.length + 1)).map (stepE 3) ++ [] := by
    rw [hP,List.drop_append,List.drop_of_length_le hiT,List.nil_append,List.append_nil,← List.map_drop,← List.drop_eq_getElem_cons hiC]
  have he : C[i - T.length] :: C.drop (i - T.length + 1) = C.drop (i - T.length) := (List.drop_eq_getElem_cons hiC).symm
  refine bound_stuck hd (fun s hs => by cases hs) ?_ ?_ ?_ hb
  · rw [he,← hC];exact order_found hm _
  · rw [he,← hC];exact order_nodup hm _
  · rw [he,← hC,bindR_false];exact ok_suffix _ _ (Jou.order_ok _ _ rfl)
end Go.Proofs.YtiidmjmkgjfaeaaGreatDoor.Ent

namespace Go.Proofs.YtiidmjmkgjfaeaaGreatDoor.Ent
open Go Go.RowKit Go.Shelf Go.Proofs.YtiidmjmkgjfaeaaGreatDoorW.PrintWords Go.Proofs.YtiidmjmkgjfaeaaGreatDoor.PA Go.Proofs.YtiidmjmkgjfaeaaGreatDoor.Pure
abbrev nAb : ByteArray := ⟨#[97,98]⟩
abbrev nCd : ByteArray := ⟨#[99,100]⟩
abbrev nEf : ByteArray := ⟨#[101,102]⟩
abbrev n1 : ByteArray := ⟨#[49]⟩
abbrev n2 : ByteArray := ⟨#[50]⟩
def hAb : H8 := ⟨⟨nAb,n1,[[⟨nCd,0,⟨#[]⟩⟩]],[],[],[]⟩,false,false⟩
def hTwo : H8 := ⟨⟨nAb,n2,[[⟨nEf,0,⟨#[]⟩⟩]],[],[],[]⟩,false,false⟩
def hCd : H8 := ⟨⟨nCd,n1,[],[],[],[]⟩,false,false⟩
def hEf : H8 := ⟨⟨nEf,n1,[],[],[],[]⟩,false,false⟩
def wantL : List St3 := [⟨1,nAb,n1⟩,⟨1,nCd,n1⟩,⟨2,nAb,n2⟩,⟨2,nEf,n1⟩,⟨3,nEf,n1⟩,⟨3,nAb,n2⟩]
theorem fits_from : fitsH [hAb,hCd] = true := by kernel_rfl
theorem fits_to : fitsH [hTwo,hEf] = true := by kernel_rfl
theorem steps_want : stepsH [hAb,hCd] [hTwo,hEf] = wantL := by kernel_rfl
theorem same_want : keelsonlaw22_sameSteps.f 20 wantL wantL = some true := by kernel_rfl
end Go.Proofs.YtiidmjmkgjfaeaaGreatDoor.Ent

namespace Go.Proofs.YtiidmjmkgjfaeaaGreatDoor.Ent
open Go Go.RowKit Go.Shelf Go.Proofs.YtiidmjmkgjfaeaaGreatDoorW.PrintWords Go.Proofs.YtiidmjmkgjfaeaaGreatDoorW.PrintLast Go.Proofs.YtiidmjmkgjfaeaaGreatDoor.PA Go.Proofs.YtiidmjmkgjfaeaaGreatDoor.Pure
set_option linter.unusedVariables false
set_option linter.unusedSimpArgs false
theorem C_two {α : Type} (d : Kd α) {W : World} {b : Nat} {ty : TypeId} {x y : α} {cx cy : List Value} (hb : W.heap[b]? = some (.cells (cx ++ cy).toArray ty (0,0))) (hx : d.K W x cx) (hy : d.K W y cy) : d.C W (some ⟨b,0,none⟩) 2 [x,y] := by
  have lx := d.K_len hx
  refine ⟨rfl,by omega,fun _ => ⟨⟨b,0,none⟩,rfl,fun j p hj => ?_⟩⟩
  match j,hj with
  | 0,hj =>
    obtain rfl : x = p := by simpa using hj
    refine ⟨cx,lx,hx,fun i u hi => ?_⟩
    rw [Addr.add_lit,Nat.zero_mul,Nat.zero_add,Nat.zero_add]
    have hlt := (List.getElem?_eq_some_iff.1 hi).1
    simp only [World.cell?,hb,List.getElem?_toArray]
    rw [List.getElem?_append_left hlt]
    exact hi
  | 1,hj =>
    obtain rfl : y = p := by simpa using hj
    refine ⟨cy,d.K_len hy,hy,fun i u hi => ?_⟩
    rw [Addr.add_lit,Nat.one_mul,Nat.zero_add]
    simp only [World.cell?,hb,List.getElem?_toArray]
    rw [List.getElem?_append_right (by omega),lx,Nat.add_sub_cancel_left]
    exact hi
theorem flat_get {α : Type} (f : α → List Value) (sz : Nat) : ∀ (xs : List α) (j i : Nat) (p : α),(∀ x ∈ xs,(f x).length = sz) → xs[j]? = some p → i < sz → ((xs.map f).flatten)[j * sz + i]? = (f p)[i]?
  | [],j,i,p,_,h,_ => by simp at h
  | x :: r,0,i,p,hl,h,hi => by
    obtain rfl : x = p := by simpa using h
    rw [List.map_cons,List.flatten_cons,Nat.zero_mul,Nat.zero_add,List.getElem?_append_left (by rw [hl x List.mem_cons_self];exact hi)]
  | x :: r,j + 1,i,p,hl,h,hi => by
    have hx := hl x List.mem_cons_self
    rw [List.map_cons,List.flatten_cons,Nat.succ_mul,List.getElem?_append_right (by rw [hx];omega),hx,show j * sz + sz + i - sz = j * sz + i by omega]
    exact flat_get f sz r j i p (fun y hy => hl y (List.mem_cons_of_mem _ hy)) (by simpa using h) hi
theorem C_row {α : Type} (d : Kd α) (f : α → List Value) {W : World} {b : Nat} {ty : TypeId} {xs : List α} {n : Nat} (hn : xs.length = n) (hm : n ≤ maxLen) (hb : W.heap[b]? = some (.cells ((xs.map f).flatten).toArray ty (0,0))) (hf : ∀ x ∈ xs,d.K W x (f x)) : d.C W (some ⟨b,0,none⟩) n xs := by
  refine ⟨hn,by first | exact hm | omega,fun _ => ⟨⟨b,0,none⟩,rfl,fun j p hj => ?_⟩⟩
  have hp := hf p (List.mem_of_getElem? hj)
  refine ⟨f p,d.K_len hp,hp,fun i u hi => ?_⟩
  rw [Addr.add_lit,Nat.zero_add]
  have hlt := (List.getElem?_eq_some_iff.1 hi).1
  rw [d.K_len hp] at hlt
  simp only [World.cell?,hb,List.getElem?_toArray]
  rw [flat_get f d.sz xs j i p (fun x hx => d.K_len (hf x hx)) hj hlt]
  exact hi
abbrev gA (n : Nat) : EA := ⟨some ⟨n,0,none⟩,1,none,0,none,0,none,0⟩
abbrev oAt (s : ByteArray) : Obj := .cells #[.string s,.int .i64 0,.string ⟨#[]⟩] 46 (0,0)
abbrev oGr (n : Nat) : Obj := .cells #[.slice (some ⟨n,0,none⟩) 1 1] 47 (0,0)
abbrev oHe (h : H8) (a : EA) : Obj := .cells (hcs h a) 39 (0,0)
abbrev oRow (h g : H8) (a b : EA) : Obj := .cells ((hcs h a).toList ++ (hcs g b).toList).toArray 39 (0,0)
abbrev objs (n : Nat) : List Obj := [oAt nCd,oGr n,oHe hAb (gA (n + 1)),oAt nEf,oGr (n + 3),oHe hTwo (gA (n + 4)),oHe hCd aZ,oHe hEf aZ,oRow hAb hCd (gA (n + 1)) aZ,oRow hTwo hEf (gA (n + 4)) aZ]
def shW (w : World) : World := (objs w.heap.size).foldl (fun W o => W.alloc o) w
theorem fold_heap : ∀ (l : List Obj) (w : World),(l.foldl (fun W o => W.alloc o) w).heap.toList = w.heap.toList ++ l
  | [],w => by simp
  | o :: r,w => by
    rw [List.foldl_cons,fold_heap r (w.alloc o)]
    show (w.heap.push o).toList ++ r = _
    rw [Array.toList_push,List.append_assoc]
    rfl
theorem fold_below : ∀ (l : List Obj) (w W : World),Below w.heap.size w W → Below w.heap.size w (l.foldl (fun W o => W.alloc o) W)
  | [],_,_,h => h
  | o :: r,w,W,h => fold_below r w (W.alloc o) (qab h o)
theorem sh_block (w : World) (k : Nat) (o : Obj) (h : (objs w.heap.size)[k]? = some o) : (shW w).heap[w.heap.size + k]? = some o := by
  rw [← Array.getElem?_toList]
  unfold shW
  rw [fold_heap,List.getElem?_append_right (by rw [Array.length_toList];omega),Array.length_toList,Nat.add_sub_cancel_left]
  exact h
theorem sm_val (s v x : ByteArray) (hs : s.size ≤ 2000) (hv : v.size ≤ 2000) (hx : x.size ≤ 2000) : SmE ⟨s,v,[[⟨x,0,⟨#[]⟩⟩]],[],[],[]⟩ := by
  refine ⟨hs,hv,⟨by simp,fun g hg => ?_,fun g hg y hy => ?_⟩,sm_zE.s3,sm_zE.l4,sm_zE.s4,sm_zE.l5,sm_zE.s5⟩
  · obtain rfl := List.mem_singleton.1 hg;simp
  · obtain rfl := List.mem_singleton.1 hg
    obtain rfl := List.mem_singleton.1 hy
    exact ⟨hx,by show (0 : Nat) ≤ 2000;omega⟩
theorem sm_val0 (s v : ByteArray) (hs : s.size ≤ 2000) (hv : v.size ≤ 2000) : SmE ⟨s,v,[],[],[],[]⟩ := ⟨hs,hv,sm_zE.s2,sm_zE.s3,sm_zE.l4,sm_zE.s4,sm_zE.l5,sm_zE.s5⟩
theorem EC_dep (w : World) (n : Nat) (s v x : ByteArray) (h0 : (shW w).heap[n]? = some (oAt x)) (h1 : (shW w).heap[n + 1]? = some (oGr n)) : EC (shW w) ⟨s,v,[[⟨x,0,⟨#[]⟩⟩]],[],[],[]⟩ (gA (n + 1)) :=
  ⟨C_one KG (cs := [.slice (some ⟨n,0,none⟩) 1 1]) h1 ⟨_,1,rfl,Nat.le_refl _,C_one KA (cs := [.string x,.int .i64 0,.string ⟨#[]⟩]) h0 (k46_mk _ ⟨x,0,⟨#[]⟩⟩)⟩,Nat.le_refl _,Kd.C_nil _ _,Nat.le_refl _,Kd.C_nil _ _,Nat.le_refl _,Kd.C_nil _ _,Nat.le_refl _⟩
theorem EC_no (w : World) (s v : ByteArray) : EC w ⟨s,v,[],[],[],[]⟩ aZ := ⟨Kd.C_nil _ _,Nat.le_refl _,Kd.C_nil _ _,Nat.le_refl _,Kd.C_nil _ _,Nat.le_refl _,Kd.C_nil _ _,Nat.le_refl _⟩
theorem sh_from (w : World) : KH.C (shW w) (some ⟨w.heap.size + 8,0,none⟩) [hAb,hCd].length [hAb,hCd] :=
  C_two KH (sh_block w 8 _ rfl) (here_mk (h := hAb) (EC_dep w w.heap.size nAb n1 nCd (sh_block w 0 _ rfl) (sh_block w 1 _ rfl))) (here_mk (h := hCd) (EC_no _ _ _))
theorem sh_to (w : World) : KH.C (shW w) (some ⟨w.heap.size + 9,0,none⟩) [hTwo,hEf].length [hTwo,hEf] :=
  C_two KH (sh_block w 9 _ rfl) (here_mk (h := hTwo) (EC_dep w (w.heap.size + 3) nAb n2 nEf (sh_block w 3 _ rfl) (sh_block w 4 _ rfl))) (here_mk (h := hEf) (EC_no _ _ _))
theorem sh_plan {w : World} (hG : GL w) : Calls Tryz.prog 8 #[.slice (some ⟨w.heap.size + 8,0,none⟩) 2 2,.slice (some ⟨w.heap.size + 9,0,none⟩) 2 2] (shW w) fun e w' => ∃ v,e = .returned (.tuple #[v,.int .i64 0]) ∧ KP.R 31 w' w.heap.size (fun _ => True) v wantL ∧ Below w.heap.size w w' := by
  have hb : Below w.heap.size w (shW w) := fold_below _ w w (Below.refl _ _)
  have s1 : ∀ h ∈ [hAb,hCd],SmE h.f0 := fun h hh => by
    simp only [List.mem_cons,List.not_mem_nil,or_false] at hh
    rcases hh with rfl | rfl
    · exact sm_val _ _ _ (by decide) (by decide) (by decide)
    · exact sm_val0 _ _ (by decide) (by decide)
  have s2 : ∀ h ∈ [hTwo,hEf],SmE h.f0 := fun h hh => by
    simp only [List.mem_cons,List.not_mem_nil,or_false] at hh
    rcases hh with rfl | rfl
    · exact sm_val _ _ _ (by decide) (by decide) (by decide)
    · exact sm_val0 _ _ (by decide) (by decide)
  have h := plan_yes (hG.below hb) (some ⟨w.heap.size + 8,0,none⟩) 2 [hAb,hCd] (some ⟨w.heap.size + 9,0,none⟩) 2 [hTwo,hEf] (sh_from w) (sh_to w) (by simp) (by simp) s1 s2 (by rw [fits_from,fits_to];rfl)
  rw [steps_want] at h
  refine h.mono ?_
  rintro e w' ⟨v,rfl,hR,hb'⟩
  exact ⟨v,rfl,Kd.R_lower hR hb.size,hb.trans (hb'.mono hb.size)⟩
abbrev wantC : Array Value := #[.int .i64 1,.string nAb,.string n1,.int .i64 1,.string nCd,.string n1,.int .i64 2,.string nAb,.string n2,.int .i64 2,.string nEf,.string n1,.int .i64 3,.string nEf,.string n1,.int .i64 3,.string nAb,.string n2]
theorem sh_same {w W : World} (hG : GL w) (hb : Below w.heap.size w W) {v : Value} (hR : KP.R 31 W w.heap.size (fun _ => True) v wantL) : ∃ A c,v = .slice A wantL.length c ∧ Calls Tryz.prog 10 #[.slice A 6 c,.slice (some ⟨W.heap.size,0,none⟩) 6 6] (W.alloc (.cells wantC 31 (0,0))) fun e w' => e = .returned (.bool true) ∧ Below w.heap.size w w' := by
  obtain ⟨A,c,rfl,hc,hC⟩ := Kd.R_reads hR
  have hb1 := qab (Below.refl W.heap.size W) (.cells wantC 31 (0,0))
  have hw : KP.C (W.alloc (.cells wantC 31 (0,0))) (some ⟨W.heap.size,0,none⟩) wantL.length wantL := C_row KP (fun x => [.int .i64 x.f0,.string x.f1,.string x.f2]) rfl (by decide) (World.alloc_heap_new W (.cells wantC 31 (0,0))) (fun x _ => k31_mk _ x)
  refine ⟨A,c,rfl,?_⟩
  have hbw := hb.trans (hb1.mono hb.size)
  exact (keelsonlaw22_sameSteps.calls 20 A c wantL (some ⟨W.heap.size,0,none⟩) 6 wantL true _ (hG.below hbw) (Kd.C_below hC hb1) hc hw (Nat.le_refl 6) same_want).mono fun e w' ⟨h1,h2⟩ => ⟨h1,hbw.trans (h2.below.mono hbw.size)⟩
set_option maxRecDepth 100000 in
set_option maxHeartbeats 8000000 in
theorem shown_calls {w : World} (hG : GL w) : Calls Tryz.prog 6 #[] w fun en w' => en = .returned (.bool true) ∧ Below w.heap.size w w' := by
  have HP := Aside0.mk (sh_plan hG)
  have HG0 := Aside0.mk hG
  clear hG
  go_enter Tryz.func6,Tryz.ntmps6
  go_wp2_with (first
    | (go_at_call 10;refine HSM.out.mono ?_;rintro en w4 ⟨rfl,hb4⟩)
    | (go_at_call 8;go_loud (refine HP.out.mono ?_);rintro en w3 ⟨v,rfl,hR,hb3⟩;obtain ⟨A3,c3,rfl,hS⟩ := sh_same HG0.out hb3 hR;have HSM := Aside0.mk hS;clear hR hb3 hS))
  go_ret
  exact ⟨rfl,hb4⟩
end Go.Proofs.YtiidmjmkgjfaeaaGreatDoor.Ent

namespace Go.Proofs.YtiidmjmkgjfaeaaGreatDoor.Ent
open Go Go.RowKit Go.Shelf Go.Proofs.YtiidmjmkgjfaeaaGreatDoorW.PrintWords Go.Proofs.YtiidmjmkgjfaeaaGreatDoorW.PrintLast Go.Proofs.YtiidmjmkgjfaeaaGreatDoor.PA Go.Proofs.YtiidmjmkgjfaeaaGreatDoor.Pure
set_option linter.unusedVariables false
set_option linter.unusedSimpArgs false
abbrev LawO (w : World) (A : Option Addr) (c : Nat) (l : List H8) (B : Option Addr) (d : Nat) (m : List H8) : Prop := Calls Tryz.prog 4 #[.slice A l.length c,.slice B m.length d] w fun en w' => en = .returned (.bool true) ∧ Below w.heap.size w w'
theorem steps_len (l m : List H8) : (stepsH l m).length ≤ l.length + 2 * m.length := by
  unfold stepsH
  simp only [List.length_append,List.length_map,order_len]
  have := changed_le l m
  have := changed_le m l
  omega
set_option maxRecDepth 100000 in
theorem orders_big {w : World} (hG : GL w) (A : Option Addr) (c : Nat) (l : List H8) (B : Option Addr) (d : Nat) (m : List H8) (hr : KH.C w A l.length l) (hc : l.length ≤ c) (hm : KH.C w B m.length m) (hd : m.length ≤ d) (hf : fewH l m = false) : LawO w A c l B d m := by
  have H1 := Aside0.mk (show QB w 6 #[] (.bool true) from fun W hb => shown_calls (hG.below hb))
  have h2 := qb_few hG A c l B d m hr hc hm hd
  rw [hf] at h2
  have H2 := Aside0.mk h2
  clear hG hr hc hm hd hf h2
  go_enter Tryz.func4,Tryz.ntmps4
  go_wp2_with (first
    | (go_at_call 7;refine (H2.out.at_ HB1.out).mono ?_;rintro en w2 ⟨rfl,hb2⟩)
    | (go_at_call 6;refine (H1.out _ (Below.refl _ _)).mono ?_;rintro en w1 ⟨rfl,hb1⟩;have HB1 := Aside0.mk hb1;clear hb1))
  go_ret
  exact ⟨rfl,hb2⟩
set_option maxRecDepth 100000 in
theorem orders_no {w : World} (hG : GL w) (A : Option Addr) (c : Nat) (l : List H8) (B : Option Addr) (d : Nat) (m : List H8) (hr : KH.C w A l.length l) (hc : l.length ≤ c) (hm : KH.C w B m.length m) (hd : m.length ≤ d) (hf : fewH l m = true) (hp : (fitsH l && fitsH m) = false) : LawO w A c l B d m := by
  have hf' := hf
  unfold fewH at hf'
  rw [Bool.and_eq_true] at hf'
  obtain ⟨ll,sl⟩ := smallH_true hf'.1
  obtain ⟨lm,sm⟩ := smallH_true hf'.2
  have H1 := Aside0.mk (show QB w 6 #[] (.bool true) from fun W hb => shown_calls (hG.below hb))
  have h2 := qb_few hG A c l B d m hr hc hm hd
  rw [hf] at h2
  have H2 := Aside0.mk h2
  have H3 := Aside0.mk (show ∀ W,Below w.heap.size w W → _ from fun W hb => plan_no (hG.below hb) A c l B d m (Kd.C_below hr hb) (Kd.C_below hm hb) (by omega) (by omega) sl sm hp)
  clear hG hr hc hm hd hf h2 hf' ll sl lm sm hp
  go_enter Tryz.func4,Tryz.ntmps4
  go_wp2_with (first
    | (go_at_call 8;refine (H3.out _ HB2.out).mono ?_;rintro en w3 ⟨rfl,hb3⟩;have HB3 := Aside0.mk (HB2.out.trans (hb3.mono HB2.out.size));clear hb3)
    | (go_at_call 7;refine (H2.out.at_ HB1.out).mono ?_;rintro en w2 ⟨rfl,hb2⟩;have HB2 := Aside0.mk hb2;clear hb2)
    | (go_at_call 6;refine (H1.out _ (Below.refl _ _)).mono ?_;rintro en w1 ⟨rfl,hb1⟩;have HB1 := Aside0.mk hb1;clear hb1))
  go_ret
  exact ⟨rfl,HB3.out⟩
def law11.T : Bool × List (List Nat × List Nat) := (true,[([],[]),([0],[0]),([1],[1]),([2],[2]),([2],[2]),([3,4,2],[2,3,4]),([5,2],[2,5]),([6,2],[2,6]),([2],[2]),([2],[2]),([9,2],[2,9]),([8,10,2],[2,8,10]),([11,2],[2,11]),([12,2],[2,12]),([7,13,2],[2,7,13]),([2,14],[2,14])])
def law11.B : List Nat := [0,1,3,7,7,31,63,127,7,7,519,1799,3847,7943,16383,32767]
theorem law11.tab : rtab .any (opsOf Tryz.f4 11) = law11.T := by kernel_rfl
theorem law11.bits : waitsOk law11.T.2 law11.B = true := by kernel_rfl
set_option maxRecDepth 100000 in
set_option maxHeartbeats 16000000 in
theorem orders_yes {w : World} (hG : GL w) (A : Option Addr) (c : Nat) (l : List H8) (B : Option Addr) (d : Nat) (m : List H8) (hr : KH.C w A l.length l) (hc : l.length ≤ c) (hm : KH.C w B m.length m) (hd : m.length ≤ d) (hf : fewH l m = true) (hp : (fitsH l && fitsH m) = true) : LawO w A c l B d m := by
  have hf' := hf
  unfold fewH at hf'
  rw [Bool.and_eq_true] at hf'
  obtain ⟨ll,sl⟩ := smallH_true hf'.1
  obtain ⟨lm,sm⟩ := smallH_true hf'.2
  have hp' := hp
  rw [Bool.and_eq_true] at hp'
  have HREM0 := Aside0.mk (fun i h1 h2 h3 => removes_ok (m := m) (fits_right hp'.1) i h1 h2 h3)
  have HCON0 := Aside0.mk (fun i h1 h2 h3 => configures_ok (l := l) (fits_right hp'.2) i h1 h2 h3)
  have HRIS0 := Aside0.mk (steps_rise l m)
  have H1 := Aside0.mk (show QB w 6 #[] (.bool true) from fun W hb => shown_calls (hG.below hb))
  have h2 := qb_few hG A c l B d m hr hc hm hd
  rw [hf] at h2
  have H2 := Aside0.mk h2
  have h3 := (show ∀ W,Below w.heap.size w W → _ from fun W hb => plan_yes (hG.below hb) A c l B d m (Kd.C_below hr hb) (Kd.C_below hm hb) (by omega) (by omega) sl sm hp)
  have hpl : (stepsH l m).length ≤ 100 := by have := steps_len l m;omega
  obtain ⟨P,hP⟩ : ∃ P,stepsH l m = P := ⟨_,rfl⟩
  simp only [hP] at h3
  rw [hP] at hpl
  have HREM := Aside0.mk (show ∀ i,i < P.length → (P.getD i zP).f0 = 1 → bindsV P l true i i = true → stuckV P l true i = true by rw [← hP];exact HREM0.out)
  have HCON := Aside0.mk (show ∀ i,i < P.length → (P.getD i zP).f0 = 3 → bindsV P m false i i = true → stuckV P m false i = true by rw [← hP];exact HCON0.out)
  have HRIS := Aside0.mk (show ∀ i,0 < i → i < P.length → ¬ (P.getD i zP).f0 < (P.getD (i - 1) zP).f0 by rw [← hP];exact HRIS0.out)
  have H3 := Aside0.mk h3
  have HPL := Aside0.mk hpl
  have HLA := Aside0.mk (show (∀ W,Below w.heap.size w W → KH.C W A l.length l ∧ KH.C W B m.length m ∧ GL W) ∧ l.length ≤ 1000000 ∧ m.length ≤ 1000000 ∧ (∀ h ∈ l,SmE h.f0) ∧ (∀ h ∈ m,SmE h.f0) from ⟨fun W hb => ⟨Kd.C_below hr hb,Kd.C_below hm hb,hG.below hb⟩,by omega,by omega,sl,sm⟩)
  clear hG hr hc hm hd hf h2 h3 hf' ll sl lm sm hp hp' HREM0 HCON0 HRIS0 hP hpl
  go_enter Tryz.func4,Tryz.ntmps4
  go_wp2_with (first
    | (go_at_call 8;refine (H3.out _ HB2.out).mono ?_;rintro en w3 ⟨v3,rfl,hR,hb3⟩;have HB3 := Aside0.mk (HB2.out.trans (hb3.mono HB2.out.size));obtain ⟨Ap,cp,rfl,hcp,hC⟩ := Kd.R_reads hR;have HC := Aside0.mk hC;clear hb3 hR hcp hC)
    | (go_at_call 7;refine (H2.out.at_ HB1.out).mono ?_;rintro en w2 ⟨rfl,hb2⟩;have HB2 := Aside0.mk hb2;clear hb2)
    | (go_at_call 6;refine (H1.out _ (Below.refl _ _)).mono ?_;rintro en w1 ⟨rfl,hb1⟩;have HB1 := Aside0.mk hb1;clear hb1))
  go_wp2
  have HPA := Aside0.mk (show PArgs w3 Ap cp P A c l from ⟨(HLA.out.1 _ HB3.out).2.2,HC.out,by have := HPL.out;omega,(HLA.out.1 _ HB3.out).1,HLA.out.2.1,HLA.out.2.2.2.1⟩)
  have HPB := Aside0.mk (show PArgs w3 Ap cp P B d m from ⟨(HLA.out.1 _ HB3.out).2.2,HC.out,by have := HPL.out;omega,(HLA.out.1 _ HB3.out).2.1,HLA.out.2.2.1,HLA.out.2.2.2.2⟩)
  go_loopg [9] P.length (fun gg v9 wr => ∃ i : Nat,i ≤ P.length ∧ P.length - i ≤ gg ∧ v9 = .int .i64 (i : Int) ∧ Aside0 (Below w3.heap.size w3 wr))
  case atStart => exact ⟨0,Nat.zero_le _,by omega,rfl,⟨Below.refl _ _⟩⟩
  case round =>
    obtain ⟨i,hi,hg,rfl,HW⟩ := hrel
    by_cases hlt : i < P.length
    · obtain ⟨ad,had,gi,_,_⟩ := step_at HC.out (below_drew HW.out) i hlt
      subst had
      obtain ⟨_,had,g0,_,_⟩ := step_at HC.out (Below.refl _ _) i hlt
      cases had
      obtain ⟨s,hs⟩ : ∃ s,P.getD i zP = s := ⟨_,rfl⟩
      rw [hs] at gi g0
      have HSI := Aside0.mk hs
      have GI := Aside0.mk g0
      have HW2 := Aside0.mk (show Below w3.heap.size w3 wr.drew from below_drew HW.out)
      have b2 : decide ((i : Int) < (P.length : Int)) = true := decide_eq_true (by omega)
      have b3 : decide (i < P.length) = true := decide_eq_true hlt
      have p0 : (0 : Int) ≤ (i : Int) := by omega
      have p1 : (i : Int) < (P.length : Int) := by omega
      have HLT := Aside0.mk hlt
      have HGG := Aside0.mk hg
      by_cases h0 : i = 0
      · have e0 : decide ((0 : Int) < (i : Int)) = false := decide_eq_false (by omega)
        have e1 : decide (0 < i) = false := decide_eq_false (by omega)
        have bw : wrap64 ((i : Int) + 1) = ((i + 1 : Nat) : Int) := by have := HPL.out;unfold wrap64;omega
        have e2 : ¬ 0 < i := by omega
        clear hs hg hi g0 h0
        go_wp2
        refine start_ (n := 16) (S := fun _ => True) (ds := []) (mb 16 0) (by kernel_rfl) rfl rfl trivial (fun hHeld => ?_);refine with_tabW law11.tab law11.bits (fun HT_ HW_ => ?_)
        refine pure_ (i := 0) (N := some 38) (v := ?_) (a' := ?_) (mb 16 1) rfl rfl (any_of HT_.out (by kernel_rfl)) (fun _ _ _ h => h) (Or.inl ⟨by rfl,?_⟩) ?_ ?_
        rotate_left
        · intro w'
          go_simp
          (try with_reducible rfl)
        rotate_left
        · simp only [Act.put,List.setIfInBounds_toArray,List.set_cons_zero,List.set_cons_succ,i64_w,i32_w]
          rfl
        refine pure_ (i := 1) (N := some 39) (v := ?_) (a' := ?_) (mb 16 3) rfl rfl (any_of HT_.out (by kernel_rfl)) (fun _ _ _ h => h) (Or.inl ⟨by rfl,?_⟩) ?_ ?_
        rotate_left
        · intro w'
          go_simp
          (try with_reducible rfl)
        rotate_left
        · simp only [Act.put,List.setIfInBounds_toArray,List.set_cons_zero,List.set_cons_succ,i64_w,i32_w]
          rfl
        refine pure_ (i := 2) (N := some 40) (v := ?_) (a' := ?_) (mb 16 7) rfl rfl (any_of HT_.out (by kernel_rfl)) (fun _ _ _ h => h) (Or.inl ⟨by rfl,?_⟩) ?_ ?_
        rotate_left
        · intro w'
          go_simp
          (try with_reducible rfl)
        rotate_left
        · simp only [Act.put,List.setIfInBounds_toArray,List.set_cons_zero,List.set_cons_succ,i64_w,i32_w]
          rfl
        refine pure_ (i := 3) (N := some 41) (v := undef) (a' := ?_) (mb 16 15) rfl rfl (any_of HT_.out (by kernel_rfl)) (fun _ _ _ h => h) (Or.inr ⟨by rfl,rfl⟩) ?_ ?_
        rotate_left
        · simp only [Act.put,List.setIfInBounds_toArray,List.set_cons_zero,List.set_cons_succ,i64_w,i32_w]
          rfl
        refine pure_ (i := 4) (N := some 42) (v := undef) (a' := ?_) (mb 16 31) rfl rfl (any_of HT_.out (by kernel_rfl)) (fun _ _ _ h => h) (Or.inr ⟨by rfl,rfl⟩) ?_ ?_
        rotate_left
        · simp only [Act.put,List.setIfInBounds_toArray,List.set_cons_zero,List.set_cons_succ,i64_w,i32_w]
          rfl
        refine pure_ (i := 5) (N := some 43) (v := undef) (a' := ?_) (mb 16 63) rfl rfl (any_of HT_.out (by kernel_rfl)) (fun _ _ _ h => h) (Or.inr ⟨by rfl,rfl⟩) ?_ ?_
        rotate_left
        · simp only [Act.put,List.setIfInBounds_toArray,List.set_cons_zero,List.set_cons_succ,i64_w,i32_w]
          rfl
        refine pure_ (i := 6) (N := some 44) (v := undef) (a' := ?_) (mb 16 127) rfl rfl (any_of HT_.out (by kernel_rfl)) (fun _ _ _ h => h) (Or.inr ⟨by rfl,rfl⟩) ?_ ?_
        rotate_left
        · simp only [Act.put,List.setIfInBounds_toArray,List.set_cons_zero,List.set_cons_succ,i64_w,i32_w]
          rfl
        refine pure_ (i := 7) (N := some 45) (v := undef) (a' := ?_) (mb 16 255) rfl rfl (any_of HT_.out (by kernel_rfl)) (fun _ _ _ h => h) (Or.inr ⟨by rfl,rfl⟩) ?_ ?_
        rotate_left
        · simp only [Act.put,List.setIfInBounds_toArray,List.set_cons_zero,List.set_cons_succ,i64_w,i32_w]
          rfl
        refine pure_ (i := 8) (N := some 46) (v := undef) (a' := ?_) (mb 16 511) rfl rfl (any_of HT_.out (by kernel_rfl)) (fun _ _ _ h => h) (Or.inr ⟨by rfl,rfl⟩) ?_ ?_
        rotate_left
        · simp only [Act.put,List.setIfInBounds_toArray,List.set_cons_zero,List.set_cons_succ,i64_w,i32_w]
          rfl
        refine pure_ (i := 9) (N := some 47) (v := undef) (a' := ?_) (mb 16 1023) rfl rfl (any_of HT_.out (by kernel_rfl)) (fun _ _ _ h => h) (Or.inr ⟨by rfl,rfl⟩) ?_ ?_
        rotate_left
        · simp only [Act.put,List.setIfInBounds_toArray,List.set_cons_zero,List.set_cons_succ,i64_w,i32_w]
          rfl
        refine pure_ (i := 10) (N := some 48) (v := undef) (a' := ?_) (mb 16 2047) rfl rfl (any_of HT_.out (by kernel_rfl)) (fun _ _ _ h => h) (Or.inr ⟨by rfl,rfl⟩) ?_ ?_
        rotate_left
        · simp only [Act.put,List.setIfInBounds_toArray,List.set_cons_zero,List.set_cons_succ,i64_w,i32_w]
          rfl
        refine pure_ (i := 11) (N := some 49) (v := undef) (a' := ?_) (mb 16 4095) rfl rfl (any_of HT_.out (by kernel_rfl)) (fun _ _ _ h => h) (Or.inr ⟨by rfl,rfl⟩) ?_ ?_
        rotate_left
        · simp only [Act.put,List.setIfInBounds_toArray,List.set_cons_zero,List.set_cons_succ,i64_w,i32_w]
          rfl
        refine pure_ (i := 12) (N := some 50) (v := undef) (a' := ?_) (mb 16 8191) rfl rfl (any_of HT_.out (by kernel_rfl)) (fun _ _ _ h => h) (Or.inr ⟨by rfl,rfl⟩) ?_ ?_
        rotate_left
        · simp only [Act.put,List.setIfInBounds_toArray,List.set_cons_zero,List.set_cons_succ,i64_w,i32_w]
          rfl
        refine pure_ (i := 13) (N := some 51) (v := undef) (a' := ?_) (mb 16 16383) rfl rfl (any_of HT_.out (by kernel_rfl)) (fun _ _ _ h => h) (Or.inr ⟨by rfl,rfl⟩) ?_ ?_
        rotate_left
        · simp only [Act.put,List.setIfInBounds_toArray,List.set_cons_zero,List.set_cons_succ,i64_w,i32_w]
          rfl
        refine pure_ (i := 14) (N := some 52) (v := undef) (a' := ?_) (mb 16 32767) rfl rfl (any_of HT_.out (by kernel_rfl)) (fun _ _ _ h => h) (Or.inr ⟨by rfl,rfl⟩) ?_ ?_
        rotate_left
        · simp only [Act.put,List.setIfInBounds_toArray,List.set_cons_zero,List.set_cons_succ,i64_w,i32_w]
          rfl
        refine pure_ (i := 15) (N := some 53) (v := ?_) (a' := ?_) (mb 16 65535) rfl rfl (any_of HT_.out (by kernel_rfl)) (fun _ _ _ h => h) (Or.inl ⟨by rfl,?_⟩) ?_ ?_
        rotate_left
        · intro w'
          go_simp
          (try with_reducible rfl)
        rotate_left
        · simp only [Act.put,List.setIfInBounds_toArray,List.set_cons_zero,List.set_cons_succ,i64_w,i32_w]
          rfl
        refine done_ (done_of HT_.out (by kernel_rfl)) ?_
        by_cases k1 : s.f0 = 1
        · have q1 : decide (s.f0 = 1) = true := decide_eq_true k1
          have q1' : (s.f0 == 1) = true := beq_iff_eq.2 k1
          have q3 : decide (s.f0 = 3) = false := decide_eq_false (by omega)
          have q3' : (s.f0 == 3) = false := beq_eq_false_iff_ne.2 (by omega)
          have hbo := qb_bound HPA.out i HLT.out true
          have hst := qb_stuck HPA.out i HLT.out true
          have hok := HREM.out i HLT.out (by rw [HSI.out];exact k1)
          obtain ⟨b,hb⟩ : ∃ b,bindsV P l true i i = b := ⟨_,rfl⟩
          rw [hb] at hbo hok
          have HBO := Aside0.mk hbo
          clear hbo hb
          cases b
          case false =>
            clear hok hst
            go_wp2_with (first
              | (go_at_call 11;refine (HBO.out _ HW2.out).mono ?_;rintro en w3 ⟨rfl,hb⟩;have HW3 := Aside0.mk (HW2.out.trans (hb.mono HW2.out.size));have g3 := (HW3.out.cell (World.block_lt_of_cell? _ _ GI.out)).trans GI.out;clear hb))
            go_roundg (P.length - (i + 1))
            case measure => have := HGG.out;have := HLT.out;omega
            case rel => exact ⟨i + 1,HLT.out,Nat.le_refl _,by first | rw [bw] | go_num,HW3⟩
          case true =>
            rw [hok rfl] at hst
            have HST := Aside0.mk hst
            clear hok hst
            go_wp2_with (first
              | (go_at_call 12;refine (HST.out _ HW3.out).mono ?_;rintro en w4 ⟨rfl,hb⟩;have HW4 := Aside0.mk (HW3.out.trans (hb.mono HW3.out.size));have g4 := (HW4.out.cell (World.block_lt_of_cell? _ _ GI.out)).trans GI.out;clear hb)
              | (go_at_call 11;refine (HBO.out _ HW2.out).mono ?_;rintro en w3 ⟨rfl,hb⟩;have HW3 := Aside0.mk (HW2.out.trans (hb.mono HW2.out.size));have g3 := (HW3.out.cell (World.block_lt_of_cell? _ _ GI.out)).trans GI.out;clear hb))
            go_roundg (P.length - (i + 1))
            case measure => have := HGG.out;have := HLT.out;omega
            case rel => exact ⟨i + 1,HLT.out,Nat.le_refl _,by first | rw [bw] | go_num,HW4⟩
        · have q1 : decide (s.f0 = 1) = false := decide_eq_false k1
          have q1' : (s.f0 == 1) = false := beq_eq_false_iff_ne.2 k1
          by_cases k3 : s.f0 = 3
          · have q3 : decide (s.f0 = 3) = true := decide_eq_true k3
            have q3' : (s.f0 == 3) = true := beq_iff_eq.2 k3
            have hbo := qb_bound HPB.out i HLT.out false
            have hst := qb_stuck HPB.out i HLT.out false
            have hok := HCON.out i HLT.out (by rw [HSI.out];exact k3)
            obtain ⟨b,hb⟩ : ∃ b,bindsV P m false i i = b := ⟨_,rfl⟩
            rw [hb] at hbo hok
            have HBO := Aside0.mk hbo
            clear hbo hb
            cases b
            case false =>
              clear hok hst
              go_wp2_with (first
                | (go_at_call 11;refine (HBO.out _ HW2.out).mono ?_;rintro en w3 ⟨rfl,hb⟩;have HW3 := Aside0.mk (HW2.out.trans (hb.mono HW2.out.size));have g3 := (HW3.out.cell (World.block_lt_of_cell? _ _ GI.out)).trans GI.out;clear hb))
              go_roundg (P.length - (i + 1))
              case measure => have := HGG.out;have := HLT.out;omega
              case rel => exact ⟨i + 1,HLT.out,Nat.le_refl _,by first | rw [bw] | go_num,HW3⟩
            case true =>
              rw [hok rfl] at hst
              have HST := Aside0.mk hst
              clear hok hst
              go_wp2_with (first
                | (go_at_call 12;refine (HST.out _ HW3.out).mono ?_;rintro en w4 ⟨rfl,hb⟩;have HW4 := Aside0.mk (HW3.out.trans (hb.mono HW3.out.size));have g4 := (HW4.out.cell (World.block_lt_of_cell? _ _ GI.out)).trans GI.out;clear hb)
                | (go_at_call 11;refine (HBO.out _ HW2.out).mono ?_;rintro en w3 ⟨rfl,hb⟩;have HW3 := Aside0.mk (HW2.out.trans (hb.mono HW2.out.size));have g3 := (HW3.out.cell (World.block_lt_of_cell? _ _ GI.out)).trans GI.out;clear hb))
              go_roundg (P.length - (i + 1))
              case measure => have := HGG.out;have := HLT.out;omega
              case rel => exact ⟨i + 1,HLT.out,Nat.le_refl _,by first | rw [bw] | go_num,HW4⟩
          · have q3 : decide (s.f0 = 3) = false := decide_eq_false k3
            have q3' : (s.f0 == 3) = false := beq_eq_false_iff_ne.2 k3
            go_wp2
            go_roundg (P.length - (i + 1))
            case measure => have := HGG.out;have := HLT.out;omega
            case rel => exact ⟨i + 1,HLT.out,Nat.le_refl _,by first | rw [bw] | go_num,HW2⟩
      · obtain ⟨j,hj⟩ : ∃ j,i = j + 1 := ⟨i - 1,by omega⟩
        obtain ⟨_,had,gj,_,_⟩ := step_at HC.out (below_drew HW.out) j (by omega)
        cases had
        obtain ⟨s0,hs0⟩ : ∃ s,P.getD j zP = s := ⟨_,rfl⟩
        rw [hs0] at gj
        have e0 : decide ((0 : Int) < (i : Int)) = true := decide_eq_true (by omega)
        have e1 : decide (0 < i) = true := decide_eq_true (by omega)
        have e2 : 0 < i := by omega
        have r0 : ¬ s.f0 < s0.f0 := by have h9 := HRIS.out i e2 hlt;have e9 : i - 1 = j := (by omega);rw [e9,hs,hs0] at h9;omega
        have r1 : decide (s.f0 < s0.f0) = false := decide_eq_false r0
        have p2 : (0 : Int) ≤ (j : Int) := by omega
        have p3 : (j : Int) < (P.length : Int) := by omega
        have hi2 : i ≤ 100 := by have := HPL.out;omega
        have bw : wrap64 ((i : Int) + 1) = ((i + 1 : Nat) : Int) := by unfold wrap64;omega
        have w2' : wrap64 ((i : Int) - 1) = (j : Int) := by clear bw;unfold wrap64;omega
        have w1' : IntKind.i64.wrap ((i : Int) - 1) = (j : Int) := by clear bw w2';rw [IntWalk.i64_in _ (by omega)];omega
        clear hs hg hi g0 h0 hj hs0 hi2
        go_wp2
        refine start_ (n := 16) (S := fun w' => w'.cell? (ad.add (i * 3)) = some (.int .i64 s.f0) ∧ w'.cell? (ad.add (j * 3)) = some (.int .i64 s0.f0)) (ds := []) (mb 16 0) (by kernel_rfl) rfl rfl ⟨gi,gj⟩ (fun hHeld => ?_);refine with_tabW law11.tab law11.bits (fun HT_ HW_ => ?_)
        refine pure_ (i := 0) (N := some 38) (v := ?_) (a' := ?_) (mb 16 1) rfl rfl (any_of HT_.out (by kernel_rfl)) (fun _ _ _ h => h) (Or.inl ⟨by rfl,?_⟩) ?_ ?_
        rotate_left
        · intro w'
          go_simp
          (try with_reducible rfl)
        rotate_left
        · simp only [Act.put,List.setIfInBounds_toArray,List.set_cons_zero,List.set_cons_succ,i64_w,i32_w]
          rfl
        refine pure_ (i := 1) (N := some 39) (v := ?_) (a' := ?_) (mb 16 3) rfl rfl (any_of HT_.out (by kernel_rfl)) (fun _ _ _ h => h) (Or.inl ⟨by rfl,?_⟩) ?_ ?_
        rotate_left
        · intro w'
          go_simp
          (try with_reducible rfl)
        rotate_left
        · simp only [Act.put,List.setIfInBounds_toArray,List.set_cons_zero,List.set_cons_succ,i64_w,i32_w]
          rfl
        refine pure_ (i := 2) (N := some 40) (v := ?_) (a' := ?_) (mb 16 7) rfl rfl (any_of HT_.out (by kernel_rfl)) (fun _ _ _ h => h) (Or.inl ⟨by rfl,?_⟩) ?_ ?_
        rotate_left
        · intro w'
          go_simp
          (try with_reducible rfl)
        rotate_left
        · simp only [Act.put,List.setIfInBounds_toArray,List.set_cons_zero,List.set_cons_succ,i64_w,i32_w]
          rfl
        refine pure_ (i := 3) (N := some 41) (v := ?_) (a' := ?_) (mb 16 15) rfl rfl (any_of HT_.out (by kernel_rfl)) (fun _ _ _ h => h) (Or.inl ⟨by rfl,?_⟩) ?_ ?_
        rotate_left
        · intro w'
          go_simp
          (try with_reducible rfl)
        rotate_left
        · simp only [Act.put,List.setIfInBounds_toArray,List.set_cons_zero,List.set_cons_succ,i64_w,i32_w]
          rfl
        refine pure_ (i := 4) (N := some 42) (v := ?_) (a' := ?_) (mb 16 31) rfl rfl (any_of HT_.out (by kernel_rfl)) (fun _ _ _ h => h) (Or.inl ⟨by rfl,?_⟩) ?_ ?_
        rotate_left
        · intro w'
          go_simp
          (try with_reducible rfl)
        rotate_left
        · simp only [Act.put,List.setIfInBounds_toArray,List.set_cons_zero,List.set_cons_succ,i64_w,i32_w]
          rfl
        refine pure_ (i := 8) (N := some 46) (v := ?_) (a' := ?_) (mb 16 287) rfl rfl (any_of HT_.out (by kernel_rfl)) (fun _ _ _ h => h) (Or.inl ⟨by rfl,?_⟩) ?_ ?_
        rotate_left
        · intro w'
          go_simp
          (try with_reducible rfl)
        rotate_left
        · simp only [Act.put,List.setIfInBounds_toArray,List.set_cons_zero,List.set_cons_succ,i64_w,i32_w]
          rfl
        refine pure_ (i := 9) (N := some 47) (v := ?_) (a' := ?_) (mb 16 799) rfl rfl (any_of HT_.out (by kernel_rfl)) (fun _ _ _ h => h) (Or.inl ⟨by rfl,?_⟩) ?_ ?_
        rotate_left
        · intro w'
          go_simp
          (try with_reducible rfl)
        rotate_left
        · simp only [Act.put,List.setIfInBounds_toArray,List.set_cons_zero,List.set_cons_succ,i64_w,i32_w]
          rfl
        refine pure_ (i := 10) (N := some 48) (v := ?_) (a' := ?_) (mb 16 1823) rfl rfl (any_of HT_.out (by kernel_rfl)) (fun _ _ _ h => h) (Or.inl ⟨by rfl,?_⟩) ?_ ?_
        rotate_left
        · intro w'
          go_simp
          (try with_reducible rfl)
        rotate_left
        · simp only [Act.put,List.setIfInBounds_toArray,List.set_cons_zero,List.set_cons_succ,i64_w,i32_w]
          rfl
        refine take_ (i := 5) (N := some 43) (v := ?_) (a' := ?_) (mb 16 1855) rfl rfl (take_ofW HT_.out HW_.out (by kernel_rfl)) (fun _ _ _ h => h) (Or.inl ⟨by rfl,?_⟩) hHeld ?_ ?_
        rotate_left
        · rintro w' ⟨c0,c1⟩
          go_simp
          (try with_reducible rfl)
        rotate_left
        · simp only [Act.put,List.setIfInBounds_toArray,List.set_cons_zero,List.set_cons_succ,i64_w,i32_w]
          rfl
        refine pure_ (i := 6) (N := some 44) (v := ?_) (a' := ?_) (mb 16 1919) rfl rfl (any_of HT_.out (by kernel_rfl)) (fun _ _ _ h => h) (Or.inl ⟨by rfl,?_⟩) ?_ ?_
        rotate_left
        · intro w'
          go_simp
          (try with_reducible rfl)
        rotate_left
        · simp only [Act.put,List.setIfInBounds_toArray,List.set_cons_zero,List.set_cons_succ,i64_w,i32_w]
          rfl
        refine take_ (i := 7) (N := some 45) (v := ?_) (a' := ?_) (mb 16 2047) rfl rfl (take_ofW HT_.out HW_.out (by kernel_rfl)) (fun _ _ _ h => h) (Or.inl ⟨by rfl,?_⟩) hHeld ?_ ?_
        rotate_left
        · rintro w' ⟨c0,c1⟩
          go_simp
          (try with_reducible rfl)
        rotate_left
        · simp only [Act.put,List.setIfInBounds_toArray,List.set_cons_zero,List.set_cons_succ,i64_w,i32_w]
          rfl
        refine take_ (i := 11) (N := some 49) (v := ?_) (a' := ?_) (mb 16 4095) rfl rfl (take_ofW HT_.out HW_.out (by kernel_rfl)) (fun _ _ _ h => h) (Or.inl ⟨by rfl,?_⟩) hHeld ?_ ?_
        rotate_left
        · rintro w' ⟨c0,c1⟩
          go_simp
          (try with_reducible rfl)
        rotate_left
        · simp only [Act.put,List.setIfInBounds_toArray,List.set_cons_zero,List.set_cons_succ,i64_w,i32_w]
          rfl
        refine pure_ (i := 12) (N := some 50) (v := ?_) (a' := ?_) (mb 16 8191) rfl rfl (any_of HT_.out (by kernel_rfl)) (fun _ _ _ h => h) (Or.inl ⟨by rfl,?_⟩) ?_ ?_
        rotate_left
        · intro w'
          go_simp
          (try with_reducible rfl)
        rotate_left
        · simp only [Act.put,List.setIfInBounds_toArray,List.set_cons_zero,List.set_cons_succ,i64_w,i32_w]
          rfl
        refine take_ (i := 13) (N := some 51) (v := ?_) (a' := ?_) (mb 16 16383) rfl rfl (take_ofW HT_.out HW_.out (by kernel_rfl)) (fun _ _ _ h => h) (Or.inl ⟨by rfl,?_⟩) hHeld ?_ ?_
        rotate_left
        · rintro w' ⟨c0,c1⟩
          go_simp
          (try with_reducible rfl)
        rotate_left
        · simp only [Act.put,List.setIfInBounds_toArray,List.set_cons_zero,List.set_cons_succ,i64_w,i32_w]
          rfl
        refine pure_ (i := 14) (N := some 52) (v := ?_) (a' := ?_) (mb 16 32767) rfl rfl (any_of HT_.out (by kernel_rfl)) (fun _ _ _ h => h) (Or.inl ⟨by rfl,?_⟩) ?_ ?_
        rotate_left
        · intro w'
          go_simp
          (try with_reducible rfl)
        rotate_left
        · simp only [Act.put,List.setIfInBounds_toArray,List.set_cons_zero,List.set_cons_succ,i64_w,i32_w]
          rfl
        refine pure_ (i := 15) (N := some 53) (v := ?_) (a' := ?_) (mb 16 65535) rfl rfl (any_of HT_.out (by kernel_rfl)) (fun _ _ _ h => h) (Or.inl ⟨by rfl,?_⟩) ?_ ?_
        rotate_left
        · intro w'
          go_simp
          (try with_reducible rfl)
        rotate_left
        · simp only [Act.put,List.setIfInBounds_toArray,List.set_cons_zero,List.set_cons_succ,i64_w,i32_w]
          rfl
        refine done_ (done_of HT_.out (by kernel_rfl)) ?_
        by_cases k1 : s.f0 = 1
        · have q1 : decide (s.f0 = 1) = true := decide_eq_true k1
          have q1' : (s.f0 == 1) = true := beq_iff_eq.2 k1
          have q3 : decide (s.f0 = 3) = false := decide_eq_false (by omega)
          have q3' : (s.f0 == 3) = false := beq_eq_false_iff_ne.2 (by omega)
          have hbo := qb_bound HPA.out i HLT.out true
          have hst := qb_stuck HPA.out i HLT.out true
          have hok := HREM.out i HLT.out (by rw [HSI.out];exact k1)
          obtain ⟨b,hb⟩ : ∃ b,bindsV P l true i i = b := ⟨_,rfl⟩
          rw [hb] at hbo hok
          have HBO := Aside0.mk hbo
          clear hbo hb
          cases b
          case false =>
            clear hok hst
            go_wp2_with (first
              | (go_at_call 11;refine (HBO.out _ HW2.out).mono ?_;rintro en w3 ⟨rfl,hb⟩;have HW3 := Aside0.mk (HW2.out.trans (hb.mono HW2.out.size));have g3 := (HW3.out.cell (World.block_lt_of_cell? _ _ GI.out)).trans GI.out;clear hb))
            go_roundg (P.length - (i + 1))
            case measure => have := HGG.out;have := HLT.out;omega
            case rel => exact ⟨i + 1,HLT.out,Nat.le_refl _,by first | rw [bw] | go_num,HW3⟩
          case true =>
            rw [hok rfl] at hst
            have HST := Aside0.mk hst
            clear hok hst
            go_wp2_with (first
              | (go_at_call 12;refine (HST.out _ HW3.out).mono ?_;rintro en w4 ⟨rfl,hb⟩;have HW4 := Aside0.mk (HW3.out.trans (hb.mono HW3.out.size));have g4 := (HW4.out.cell (World.block_lt_of_cell? _ _ GI.out)).trans GI.out;clear hb)
              | (go_at_call 11;refine (HBO.out _ HW2.out).mono ?_;rintro en w3 ⟨rfl,hb⟩;have HW3 := Aside0.mk (HW2.out.trans (hb.mono HW2.out.size));have g3 := (HW3.out.cell (World.block_lt_of_cell? _ _ GI.out)).trans GI.out;clear hb))
            go_roundg (P.length - (i + 1))
            case measure => have := HGG.out;have := HLT.out;omega
            case rel => exact ⟨i + 1,HLT.out,Nat.le_refl _,by first | rw [bw] | go_num,HW4⟩
        · have q1 : decide (s.f0 = 1) = false := decide_eq_false k1
          have q1' : (s.f0 == 1) = false := beq_eq_false_iff_ne.2 k1
          by_cases k3 : s.f0 = 3
          · have q3 : decide (s.f0 = 3) = true := decide_eq_true k3
            have q3' : (s.f0 == 3) = true := beq_iff_eq.2 k3
            have hbo := qb_bound HPB.out i HLT.out false
            have hst := qb_stuck HPB.out i HLT.out false
            have hok := HCON.out i HLT.out (by rw [HSI.out];exact k3)
            obtain ⟨b,hb⟩ : ∃ b,bindsV P m false i i = b := ⟨_,rfl⟩
            rw [hb] at hbo hok
            have HBO := Aside0.mk hbo
            clear hbo hb
            cases b
            case false =>
              clear hok hst
              go_wp2_with (first
                | (go_at_call 11;refine (HBO.out _ HW2.out).mono ?_;rintro en w3 ⟨rfl,hb⟩;have HW3 := Aside0.mk (HW2.out.trans (hb.mono HW2.out.size));have g3 := (HW3.out.cell (World.block_lt_of_cell? _ _ GI.out)).trans GI.out;clear hb))
              go_roundg (P.length - (i + 1))
              case measure => have := HGG.out;have := HLT.out;omega
              case rel => exact ⟨i + 1,HLT.out,Nat.le_refl _,by first | rw [bw] | go_num,HW3⟩
            case true =>
              rw [hok rfl] at hst
              have HST := Aside0.mk hst
              clear hok hst
              go_wp2_with (first
                | (go_at_call 12;refine (HST.out _ HW3.out).mono ?_;rintro en w4 ⟨rfl,hb⟩;have HW4 := Aside0.mk (HW3.out.trans (hb.mono HW3.out.size));have g4 := (HW4.out.cell (World.block_lt_of_cell? _ _ GI.out)).trans GI.out;clear hb)
                | (go_at_call 11;refine (HBO.out _ HW2.out).mono ?_;rintro en w3 ⟨rfl,hb⟩;have HW3 := Aside0.mk (HW2.out.trans (hb.mono HW2.out.size));have g3 := (HW3.out.cell (World.block_lt_of_cell? _ _ GI.out)).trans GI.out;clear hb))
              go_roundg (P.length - (i + 1))
              case measure => have := HGG.out;have := HLT.out;omega
              case rel => exact ⟨i + 1,HLT.out,Nat.le_refl _,by first | rw [bw] | go_num,HW4⟩
          · have q3 : decide (s.f0 = 3) = false := decide_eq_false k3
            have q3' : (s.f0 == 3) = false := beq_eq_false_iff_ne.2 k3
            go_wp2
            go_roundg (P.length - (i + 1))
            case measure => have := HGG.out;have := HLT.out;omega
            case rel => exact ⟨i + 1,HLT.out,Nat.le_refl _,by first | rw [bw] | go_num,HW2⟩
    · have b2 : decide ((i : Int) < (P.length : Int)) = false := decide_eq_false (by omega)
      have b3 : decide (i < P.length) = false := decide_eq_false hlt
      go_wp2
      go_ret
      exact ⟨rfl,HB3.out.trans (HW.out.mono HB3.out.size)⟩
theorem law_orders {w : World} (hG : GL w) {A : Option Addr} {c : Nat} {l : List H8} {B : Option Addr} {d : Nat} {m : List H8} (hr : KH.C w A l.length l) (hc : l.length ≤ c) (hm : KH.C w B m.length m) (hd : m.length ≤ d) : LawO w A c l B d m := by
  by_cases hf : fewH l m = true
  · by_cases hp : (fitsH l && fitsH m) = true
    · exact orders_yes hG A c l B d m hr hc hm hd hf hp
    · exact orders_no hG A c l B d m hr hc hm hd hf (by simpa using hp)
  · exact orders_big hG A c l B d m hr hc hm hd (by simpa using hf)
end Go.Proofs.YtiidmjmkgjfaeaaGreatDoor.Ent

