import Derived.Test.YtiidmjmkgjfaeaaGreatDoorPAx9
import Derived.Test.YtiidmjmkgjfaeaaGreatDoorPAx5
namespace Go.Proofs.YtiidmjmkgjfaeaaGreatDoor.PA
open Go Go.RowKit Go.Shelf Go.Proofs.YtiidmjmkgjfaeaaGreatDoorW.PrintWords
set_option linter.unusedVariables false
set_option linter.unusedSimpArgs false
def mb (n m : Nat) : Array Bool := ((List.range n).map fun i => m.testBit i).toArray
def idxP {α : Type} (p : α → Bool) : List α → Nat → Int
 | [],_ => -1
 | x :: r,i => if p x = true then (i : Int) else idxP p r (i + 1)
theorem idxP_any {α : Type} (p : α → Bool) : ∀ (l : List α) (i : Nat),decide (idxP p l i ≥ 0) = l.any p
 | [],i => rfl
 | x :: r,i => by
  rw [idxP,List.any_cons]
  cases h : p x with
  | true => rw [if_pos rfl,Bool.true_or];exact decide_eq_true (by omega)
  | false => rw [if_neg (by simp),Bool.false_or];exact idxP_any p r (i + 1)
def PredP {α : Type} (d : Kd α) (p : α → Bool) (g : Nat) (lb : Array Value) (w : World) (l : List α) : Prop :=
 ∀ (W : World) (x : α) (cs : List Value),Below w.heap.size w W → x ∈ l → d.K W x cs → Calls Tryz.prog g (#[.agg cs.toArray] ++ lb) W fun e w' => e = .returned (.bool (p x)) ∧ Below w.heap.size w w'
set_option maxRecDepth 100000 in
set_option maxHeartbeats 8000000 in
theorem indexField (p : S92 → Bool) (g : Nat) (lb : Array Value) (eg : ∀ args w,(callFunc g args).run Tryz.prog w = .ok (.enter g args) w) (w : World)
  (A0 : Option Addr) (c0 : Nat) (l0 : List S92) (hp : PredP k92 p g lb w l0) (hr0 : Kd.C k92 w A0 l0.length l0) (hl : l0.length < 1000000000000) :
  Calls Tryz.prog 114 #[.slice A0 l0.length c0,.func (.func g) #[] lb] w fun e w' => e = .returned (.int .i64 (idxP p l0 0)) ∧ Below w.heap.size w w' := by
 have HR0 := Aside0.mk hr0
 have HL := Aside0.mk hl
 have HP := Aside0.mk hp
 obtain ⟨r,hr⟩ : ∃ r,idxP p l0 0 = r := ⟨_,rfl⟩
 rw [hr]
 have HH := Aside0.mk hr
 clear hr0 hl hp hr
 go_enter Tryz.func114,Tryz.ntmps114
 go_wp2
 go_loopg [5,8] l0.length (fun gg v5 v8 wr => ∃ i : Nat,i ≤ l0.length ∧ l0.length - i ≤ gg ∧ v8 = .int .i64 (i : Int) ∧ Aside0 (idxP p (l0.drop i) i = r) ∧ Aside0 (Below w.heap.size w wr))
 case atStart => exact ⟨0,Nat.zero_le _,by omega,rfl,HH,⟨Below.refl _ _⟩⟩
 case round =>
  clear HH
  obtain ⟨i,hi,hg,rfl,HA,HB⟩ := hrel
  by_cases hlt : i < l0.length
  ·have b2 : decide ((i : Int) < (l0.length : Int)) = true := decide_eq_true (by omega)
   have p0 : (0 : Int) ≤ (i : Int) := by omega
   have p1 : (i : Int) < (l0.length : Int) := by omega
   obtain ⟨ad,c,rfl,hcl,hK,hc⟩ := Kd.C_get (Kd.C_below HR0.out HB.out) z92 (i : Int) p0 p1
   have hc0 : ∀ j u,c[j]? = some u → wr.cell? (ad.add ((i : Int).toNat * 2 + j)) = some u := hc
   clear hc
   obtain ⟨x,hx,hm,hrest⟩ : ∃ x,l0.getD (i : Int).toNat z92 = x ∧ x ∈ l0 ∧ l0.drop i = x :: l0.drop (i + 1) := ⟨_,rfl,by
    rw [Int.toNat_natCast,List.getD_eq_getElem?_getD,List.getElem?_eq_getElem hlt]
    exact List.getElem_mem hlt,by
    rw [List.drop_eq_getElem_cons hlt]
    congr 1
    rw [Int.toNat_natCast,List.getD_eq_getElem?_getD,List.getElem?_eq_getElem hlt]
    rfl⟩
   rw [hx] at hK
   have hcl : c.length = 2 := hcl
   obtain ⟨u0,u1,rfl⟩ : ∃ u0 u1,c = [u0,u1] := by
    match c,hcl with
    | [u0,u1],_ => exact ⟨u0,u1,rfl⟩
   have hx0 : wr.cell? (ad.add ((i : Int).toNat * 2)) = some u0 := by exact hc0 0 _ rfl
   have hx1 : wr.cell? ⟨(ad.add ((i : Int).toNat * 2)).block,(ad.add ((i : Int).toNat * 2)).off + 1,none⟩ = some u1 := by rw [← add_field _ _ 1 (by omega)];exact hc0 1 _ rfl
   clear hc0 hcl
   have hA := HA.out
   rw [hrest,idxP] at hA
   have hcall := HP.out wr x [u0,u1] HB.out hm hK
   have hcall : Calls Tryz.prog g (#[.agg #[u0,u1]] ++ lb) wr (fun e w' => e = .returned (.bool (p x)) ∧ Below w.heap.size w w') := hcall
   have bw : wrap64 ((i : Int) + 1) = ((i + 1 : Nat) : Int) := by have := HL.out;unfold wrap64;omega
   have HI := Aside0.mk hi
   have HG := Aside0.mk hg
   have HLT := Aside0.mk hlt
   have HT := Aside0.mk hA
   clear hA hrest hx hm hK hi hg hlt HA HP HL
   simp only [Int.toNat_natCast] at hx0 hx1
   cases hpx : p x with
   | true =>
    rw [hpx] at hcall HT
    clear hpx
    go_wp2_with (go_at_fn g;refine hcall.mono ?_;rintro e w' ⟨rfl,hb'⟩)
    go_ret
    have hr := HT.out
    rw [if_pos trivial] at hr
    subst hr
    exact ⟨rfl,hb'⟩
   | false =>
    rw [hpx] at hcall HT
    clear hpx
    go_wp2_with (go_at_fn g;refine hcall.mono ?_;rintro e w' ⟨rfl,hb'⟩)
    go_roundg (l0.length - (i + 1))
    case measure => have := HG.out;have := HLT.out;omega
    case rel => exact ⟨i + 1,HLT.out,Nat.le_refl _,by rw [bw],⟨by have hr := HT.out;rw [if_neg (by decide)] at hr;exact hr⟩,⟨hb'⟩⟩
  ·have b2 : decide ((i : Int) < (l0.length : Int)) = false := decide_eq_false (by omega)
   have hA := HA.out
   rw [List.drop_of_length_le (by omega)] at hA
   obtain rfl : (-1 : Int) = r := by simpa [idxP] using hA
   go_wp2
   go_ret
   exact ⟨rfl,HB.out⟩
set_option maxRecDepth 100000 in
set_option maxHeartbeats 8000000 in
theorem indexAtom (p : S46 → Bool) (g : Nat) (lb : Array Value) (eg : ∀ args w,(callFunc g args).run Tryz.prog w = .ok (.enter g args) w) (w : World)
  (A0 : Option Addr) (c0 : Nat) (l0 : List S46) (hp : PredP k46 p g lb w l0) (hr0 : Kd.C k46 w A0 l0.length l0) (hl : l0.length < 1000000000000) :
  Calls Tryz.prog 68 #[.slice A0 l0.length c0,.func (.func g) #[] lb] w fun e w' => e = .returned (.int .i64 (idxP p l0 0)) ∧ Below w.heap.size w w' := by
 have HR0 := Aside0.mk hr0
 have HL := Aside0.mk hl
 have HP := Aside0.mk hp
 obtain ⟨r,hr⟩ : ∃ r,idxP p l0 0 = r := ⟨_,rfl⟩
 rw [hr]
 have HH := Aside0.mk hr
 clear hr0 hl hp hr
 go_enter Tryz.func68,Tryz.ntmps68
 go_wp2
 go_loopg [5,8] l0.length (fun gg v5 v8 wr => ∃ i : Nat,i ≤ l0.length ∧ l0.length - i ≤ gg ∧ v8 = .int .i64 (i : Int) ∧ Aside0 (idxP p (l0.drop i) i = r) ∧ Aside0 (Below w.heap.size w wr))
 case atStart => exact ⟨0,Nat.zero_le _,by omega,rfl,HH,⟨Below.refl _ _⟩⟩
 case round =>
  clear HH
  obtain ⟨i,hi,hg,rfl,HA,HB⟩ := hrel
  by_cases hlt : i < l0.length
  ·have b2 : decide ((i : Int) < (l0.length : Int)) = true := decide_eq_true (by omega)
   have p0 : (0 : Int) ≤ (i : Int) := by omega
   have p1 : (i : Int) < (l0.length : Int) := by omega
   obtain ⟨ad,c,rfl,hcl,hK,hc⟩ := Kd.C_get (Kd.C_below HR0.out HB.out) z46 (i : Int) p0 p1
   have hc0 : ∀ j u,c[j]? = some u → wr.cell? (ad.add ((i : Int).toNat * 3 + j)) = some u := hc
   clear hc
   obtain ⟨x,hx,hm,hrest⟩ : ∃ x,l0.getD (i : Int).toNat z46 = x ∧ x ∈ l0 ∧ l0.drop i = x :: l0.drop (i + 1) := ⟨_,rfl,by
    rw [Int.toNat_natCast,List.getD_eq_getElem?_getD,List.getElem?_eq_getElem hlt]
    exact List.getElem_mem hlt,by
    rw [List.drop_eq_getElem_cons hlt]
    congr 1
    rw [Int.toNat_natCast,List.getD_eq_getElem?_getD,List.getElem?_eq_getElem hlt]
    rfl⟩
   rw [hx] at hK
   have hcl : c.length = 3 := hcl
   obtain ⟨u0,u1,u2,rfl⟩ : ∃ u0 u1 u2,c = [u0,u1,u2] := by
    match c,hcl with
    | [u0,u1,u2],_ => exact ⟨u0,u1,u2,rfl⟩
   have hx0 : wr.cell? (ad.add ((i : Int).toNat * 3)) = some u0 := by exact hc0 0 _ rfl
   have hx1 : wr.cell? ⟨(ad.add ((i : Int).toNat * 3)).block,(ad.add ((i : Int).toNat * 3)).off + 1,none⟩ = some u1 := by rw [← add_field _ _ 1 (by omega)];exact hc0 1 _ rfl
   have hx2 : wr.cell? ⟨(ad.add ((i : Int).toNat * 3)).block,(ad.add ((i : Int).toNat * 3)).off + 2,none⟩ = some u2 := by rw [← add_field _ _ 2 (by omega)];exact hc0 2 _ rfl
   clear hc0 hcl
   have hA := HA.out
   rw [hrest,idxP] at hA
   have hcall := HP.out wr x [u0,u1,u2] HB.out hm hK
   have hcall : Calls Tryz.prog g (#[.agg #[u0,u1,u2]] ++ lb) wr (fun e w' => e = .returned (.bool (p x)) ∧ Below w.heap.size w w') := hcall
   have bw : wrap64 ((i : Int) + 1) = ((i + 1 : Nat) : Int) := by have := HL.out;unfold wrap64;omega
   have HI := Aside0.mk hi
   have HG := Aside0.mk hg
   have HLT := Aside0.mk hlt
   have HT := Aside0.mk hA
   clear hA hrest hx hm hK hi hg hlt HA HP HL
   simp only [Int.toNat_natCast] at hx0 hx1 hx2
   cases hpx : p x with
   | true =>
    rw [hpx] at hcall HT
    clear hpx
    go_wp2_with (go_at_fn g;refine hcall.mono ?_;rintro e w' ⟨rfl,hb'⟩)
    go_ret
    have hr := HT.out
    rw [if_pos trivial] at hr
    subst hr
    exact ⟨rfl,hb'⟩
   | false =>
    rw [hpx] at hcall HT
    clear hpx
    go_wp2_with (go_at_fn g;refine hcall.mono ?_;rintro e w' ⟨rfl,hb'⟩)
    go_roundg (l0.length - (i + 1))
    case measure => have := HG.out;have := HLT.out;omega
    case rel => exact ⟨i + 1,HLT.out,Nat.le_refl _,by rw [bw],⟨by have hr := HT.out;rw [if_neg (by decide)] at hr;exact hr⟩,⟨hb'⟩⟩
  ·have b2 : decide ((i : Int) < (l0.length : Int)) = false := decide_eq_false (by omega)
   have hA := HA.out
   rw [List.drop_of_length_le (by omega)] at hA
   obtain rfl : (-1 : Int) = r := by simpa [idxP] using hA
   go_wp2
   go_ret
   exact ⟨rfl,HB.out⟩
set_option maxRecDepth 100000 in
set_option maxHeartbeats 8000000 in
theorem containsAtom (p : S46 → Bool) (g : Nat) (lb : Array Value) (eg : ∀ args w,(callFunc g args).run Tryz.prog w = .ok (.enter g args) w) (w : World)
  (A0 : Option Addr) (c0 : Nat) (l0 : List S46) (hp : PredP k46 p g lb w l0) (hr0 : Kd.C k46 w A0 l0.length l0) (hl : l0.length < 1000000000000) :
  Calls Tryz.prog 49 #[.slice A0 l0.length c0,.func (.func g) #[] lb] w fun e w' => e = .returned (.bool (l0.any p)) ∧ Below w.heap.size w w' := by
 have HI := Aside0.mk (indexAtom p g lb eg w A0 c0 l0 hp hr0 hl)
 rw [← idxP_any p l0 0]
 clear hr0 hl hp
 go_enter Tryz.func49,Tryz.ntmps49
 go_wp2_with (go_at_call 68;refine HI.out.mono ?_;rintro e w' ⟨rfl,hb'⟩)
 go_ret
 exact ⟨rfl,hb'⟩
end Go.Proofs.YtiidmjmkgjfaeaaGreatDoor.PA

namespace Go.Proofs.YtiidmjmkgjfaeaaGreatDoor.PA
open Go Go.RowKit Go.Shelf Go.Proofs.YtiidmjmkgjfaeaaGreatDoorW.PrintWords
set_option linter.unusedVariables false
set_option linter.unusedSimpArgs false
def PredC {α : Type} (d : Kd α) (p : α → Bool) (g : Nat) (lb : Array Value) (w : World) (l : List α) : Prop :=
 ∀ (W : World) (x : α) (cs : List Value),Below w.heap.size w W → x ∈ l → d.K W x cs → Calls Tryz.prog g (cs.toArray ++ lb) W fun e w' => e = .returned (.bool (p x)) ∧ Below w.heap.size w w'
set_option maxRecDepth 100000 in
set_option maxHeartbeats 8000000 in
theorem indexByte (p : Int → Bool) (g : Nat) (lb : Array Value) (eg : ∀ args w,(callFunc g args).run Tryz.prog w = .ok (.enter g args) w) (w : World)
  (A0 : Option Addr) (c0 : Nat) (l0 : List Int) (hp : PredC (Kd.int .u8) p g lb w l0) (hr0 : Kd.C (Kd.int .u8) w A0 l0.length l0) (hl : l0.length < 1000000000000) :
  Calls Tryz.prog 141 #[.slice A0 l0.length c0,.func (.func g) #[] lb] w fun e w' => e = .returned (.int .i64 (idxP p l0 0)) ∧ Below w.heap.size w w' := by
 have HR0 := Aside0.mk hr0
 have HL := Aside0.mk hl
 have HP := Aside0.mk hp
 obtain ⟨r,hr⟩ : ∃ r,idxP p l0 0 = r := ⟨_,rfl⟩
 rw [hr]
 have HH := Aside0.mk hr
 clear hr0 hl hp hr
 go_enter Tryz.func141,Tryz.ntmps141
 go_wp2
 go_loopg [5,8] l0.length (fun gg v5 v8 wr => ∃ i : Nat,i ≤ l0.length ∧ l0.length - i ≤ gg ∧ v8 = .int .i64 (i : Int) ∧ Aside0 (idxP p (l0.drop i) i = r) ∧ Aside0 (Below w.heap.size w wr))
 case atStart => exact ⟨0,Nat.zero_le _,by omega,rfl,HH,⟨Below.refl _ _⟩⟩
 case round =>
  clear HH
  obtain ⟨i,hi,hg,rfl,HA,HB⟩ := hrel
  by_cases hlt : i < l0.length
  ·have b2 : decide ((i : Int) < (l0.length : Int)) = true := decide_eq_true (by omega)
   have p0 : (0 : Int) ≤ (i : Int) := by omega
   have p1 : (i : Int) < (l0.length : Int) := by omega
   obtain ⟨ad,c,rfl,hcl,hK,hc⟩ := Kd.C_get (Kd.C_below HR0.out HB.out) (0 : Int) (i : Int) p0 p1
   have hc0 : ∀ j u,c[j]? = some u → wr.cell? (ad.add ((i : Int).toNat * 1 + j)) = some u := hc
   clear hc
   obtain ⟨x,hx,hm,hrest⟩ : ∃ x,l0.getD (i : Int).toNat (0 : Int) = x ∧ x ∈ l0 ∧ l0.drop i = x :: l0.drop (i + 1) := ⟨_,rfl,by
    rw [Int.toNat_natCast,List.getD_eq_getElem?_getD,List.getElem?_eq_getElem hlt]
    exact List.getElem_mem hlt,by
    rw [List.drop_eq_getElem_cons hlt]
    congr 1
    rw [Int.toNat_natCast,List.getD_eq_getElem?_getD,List.getElem?_eq_getElem hlt]
    rfl⟩
   rw [hx] at hK
   have hcl : c.length = 1 := hcl
   obtain ⟨u0,rfl⟩ : ∃ u0,c = [u0] := by
    match c,hcl with
    | [u0],_ => exact ⟨u0,rfl⟩
   have hx0 : wr.cell? (ad.add (i : Int).toNat) = some u0 := by have := hc0 0 _ rfl;rwa [Nat.mul_one,Nat.add_zero] at this
   clear hc0 hcl
   have hA := HA.out
   rw [hrest,idxP] at hA
   have hcall := HP.out wr x [u0] HB.out hm hK
   have hcall : Calls Tryz.prog g (#[u0] ++ lb) wr (fun e w' => e = .returned (.bool (p x)) ∧ Below w.heap.size w w') := hcall
   have bw : wrap64 ((i : Int) + 1) = ((i + 1 : Nat) : Int) := by have := HL.out;unfold wrap64;omega
   have HI := Aside0.mk hi
   have HG := Aside0.mk hg
   have HLT := Aside0.mk hlt
   have HT := Aside0.mk hA
   clear hA hrest hx hm hK hi hg hlt HA HP HL
   simp only [Int.toNat_natCast] at hx0
   cases hpx : p x with
   | true =>
    rw [hpx] at hcall HT
    clear hpx
    go_wp2_with (go_at_fn g;refine hcall.mono ?_;rintro e w' ⟨rfl,hb'⟩)
    go_ret
    have hr := HT.out
    rw [if_pos trivial] at hr
    subst hr
    exact ⟨rfl,hb'⟩
   | false =>
    rw [hpx] at hcall HT
    clear hpx
    go_wp2_with (go_at_fn g;refine hcall.mono ?_;rintro e w' ⟨rfl,hb'⟩)
    go_roundg (l0.length - (i + 1))
    case measure => have := HG.out;have := HLT.out;omega
    case rel => exact ⟨i + 1,HLT.out,Nat.le_refl _,by rw [bw],⟨by have hr := HT.out;rw [if_neg (by decide)] at hr;exact hr⟩,⟨hb'⟩⟩
  ·have b2 : decide ((i : Int) < (l0.length : Int)) = false := decide_eq_false (by omega)
   have hA := HA.out
   rw [List.drop_of_length_le (by omega)] at hA
   obtain rfl : (-1 : Int) = r := by simpa [idxP] using hA
   go_wp2
   go_ret
   exact ⟨rfl,HB.out⟩
set_option maxRecDepth 100000 in
set_option maxHeartbeats 8000000 in
theorem containsByte (p : Int → Bool) (g : Nat) (lb : Array Value) (eg : ∀ args w,(callFunc g args).run Tryz.prog w = .ok (.enter g args) w) (w : World)
  (A0 : Option Addr) (c0 : Nat) (l0 : List Int) (hp : PredC (Kd.int .u8) p g lb w l0) (hr0 : Kd.C (Kd.int .u8) w A0 l0.length l0) (hl : l0.length < 1000000000000) :
  Calls Tryz.prog 106 #[.slice A0 l0.length c0,.func (.func g) #[] lb] w fun e w' => e = .returned (.bool (l0.any p)) ∧ Below w.heap.size w w' := by
 have HI := Aside0.mk (indexByte p g lb eg w A0 c0 l0 hp hr0 hl)
 rw [← idxP_any p l0 0]
 clear hr0 hl hp
 go_enter Tryz.func106,Tryz.ntmps106
 go_wp2_with (go_at_call 141;refine HI.out.mono ?_;rintro e w' ⟨rfl,hb'⟩)
 go_ret
 exact ⟨rfl,hb'⟩
set_option maxRecDepth 100000 in
set_option maxHeartbeats 8000000 in
theorem indexStr (p : ByteArray → Bool) (g : Nat) (lb : Array Value) (eg : ∀ args w,(callFunc g args).run Tryz.prog w = .ok (.enter g args) w) (w : World)
  (A0 : Option Addr) (c0 : Nat) (l0 : List ByteArray) (hp : PredC Kd.string p g lb w l0) (hr0 : Kd.C Kd.string w A0 l0.length l0) (hl : l0.length < 1000000000000) :
  Calls Tryz.prog 205 #[.slice A0 l0.length c0,.func (.func g) #[] lb] w fun e w' => e = .returned (.int .i64 (idxP p l0 0)) ∧ Below w.heap.size w w' := by
 have HR0 := Aside0.mk hr0
 have HL := Aside0.mk hl
 have HP := Aside0.mk hp
 obtain ⟨r,hr⟩ : ∃ r,idxP p l0 0 = r := ⟨_,rfl⟩
 rw [hr]
 have HH := Aside0.mk hr
 clear hr0 hl hp hr
 go_enter Tryz.func205,Tryz.ntmps205
 go_wp2
 go_loopg [5,8] l0.length (fun gg v5 v8 wr => ∃ i : Nat,i ≤ l0.length ∧ l0.length - i ≤ gg ∧ v8 = .int .i64 (i : Int) ∧ Aside0 (idxP p (l0.drop i) i = r) ∧ Aside0 (Below w.heap.size w wr))
 case atStart => exact ⟨0,Nat.zero_le _,by omega,rfl,HH,⟨Below.refl _ _⟩⟩
 case round =>
  clear HH
  obtain ⟨i,hi,hg,rfl,HA,HB⟩ := hrel
  by_cases hlt : i < l0.length
  ·have b2 : decide ((i : Int) < (l0.length : Int)) = true := decide_eq_true (by omega)
   have p0 : (0 : Int) ≤ (i : Int) := by omega
   have p1 : (i : Int) < (l0.length : Int) := by omega
   obtain ⟨ad,c,rfl,hcl,hK,hc⟩ := Kd.C_get (Kd.C_below HR0.out HB.out) ByteArray.empty (i : Int) p0 p1
   have hc0 : ∀ j u,c[j]? = some u → wr.cell? (ad.add ((i : Int).toNat * 1 + j)) = some u := hc
   clear hc
   obtain ⟨x,hx,hm,hrest⟩ : ∃ x,l0.getD (i : Int).toNat ByteArray.empty = x ∧ x ∈ l0 ∧ l0.drop i = x :: l0.drop (i + 1) := ⟨_,rfl,by
    rw [Int.toNat_natCast,List.getD_eq_getElem?_getD,List.getElem?_eq_getElem hlt]
    exact List.getElem_mem hlt,by
    rw [List.drop_eq_getElem_cons hlt]
    congr 1
    rw [Int.toNat_natCast,List.getD_eq_getElem?_getD,List.getElem?_eq_getElem hlt]
    rfl⟩
   rw [hx] at hK
   have hcl : c.length = 1 := hcl
   obtain ⟨u0,rfl⟩ : ∃ u0,c = [u0] := by
    match c,hcl with
    | [u0],_ => exact ⟨u0,rfl⟩
   have hx0 : wr.cell? (ad.add (i : Int).toNat) = some u0 := by have := hc0 0 _ rfl;rwa [Nat.mul_one,Nat.add_zero] at this
   clear hc0 hcl
   have hA := HA.out
   rw [hrest,idxP] at hA
   have hcall := HP.out wr x [u0] HB.out hm hK
   have hcall : Calls Tryz.prog g (#[u0] ++ lb) wr (fun e w' => e = .returned (.bool (p x)) ∧ Below w.heap.size w w') := hcall
   have bw : wrap64 ((i : Int) + 1) = ((i + 1 : Nat) : Int) := by have := HL.out;unfold wrap64;omega
   have HI := Aside0.mk hi
   have HG := Aside0.mk hg
   have HLT := Aside0.mk hlt
   have HT := Aside0.mk hA
   clear hA hrest hx hm hK hi hg hlt HA HP HL
   simp only [Int.toNat_natCast] at hx0
   cases hpx : p x with
   | true =>
    rw [hpx] at hcall HT
    clear hpx
    go_wp2_with (go_at_fn g;refine hcall.mono ?_;rintro e w' ⟨rfl,hb'⟩)
    go_ret
    have hr := HT.out
    rw [if_pos trivial] at hr
    subst hr
    exact ⟨rfl,hb'⟩
   | false =>
    rw [hpx] at hcall HT
    clear hpx
    go_wp2_with (go_at_fn g;refine hcall.mono ?_;rintro e w' ⟨rfl,hb'⟩)
    go_roundg (l0.length - (i + 1))
    case measure => have := HG.out;have := HLT.out;omega
    case rel => exact ⟨i + 1,HLT.out,Nat.le_refl _,by rw [bw],⟨by have hr := HT.out;rw [if_neg (by decide)] at hr;exact hr⟩,⟨hb'⟩⟩
  ·have b2 : decide ((i : Int) < (l0.length : Int)) = false := decide_eq_false (by omega)
   have hA := HA.out
   rw [List.drop_of_length_le (by omega)] at hA
   obtain rfl : (-1 : Int) = r := by simpa [idxP] using hA
   go_wp2
   go_ret
   exact ⟨rfl,HB.out⟩
set_option maxRecDepth 100000 in
set_option maxHeartbeats 8000000 in
theorem containsStr (p : ByteArray → Bool) (g : Nat) (lb : Array Value) (eg : ∀ args w,(callFunc g args).run Tryz.prog w = .ok (.enter g args) w) (w : World)
  (A0 : Option Addr) (c0 : Nat) (l0 : List ByteArray) (hp : PredC Kd.string p g lb w l0) (hr0 : Kd.C Kd.string w A0 l0.length l0) (hl : l0.length < 1000000000000) :
  Calls Tryz.prog 179 #[.slice A0 l0.length c0,.func (.func g) #[] lb] w fun e w' => e = .returned (.bool (l0.any p)) ∧ Below w.heap.size w w' := by
 have HI := Aside0.mk (indexStr p g lb eg w A0 c0 l0 hp hr0 hl)
 rw [← idxP_any p l0 0]
 clear hr0 hl hp
 go_enter Tryz.func179,Tryz.ntmps179
 go_wp2_with (go_at_call 205;refine HI.out.mono ?_;rintro e w' ⟨rfl,hb'⟩)
 go_ret
 exact ⟨rfl,hb'⟩
set_option maxRecDepth 100000 in
set_option maxHeartbeats 8000000 in
theorem indexSt (p : (List S92) → Bool) (g : Nat) (lb : Array Value) (eg : ∀ args w,(callFunc g args).run Tryz.prog w = .ok (.enter g args) w) (w : World)
  (A0 : Option Addr) (c0 : Nat) (l0 : List (List S92)) (hp : PredC (Kd.slice 92 k92) p g lb w l0) (hr0 : Kd.C (Kd.slice 92 k92) w A0 l0.length l0) (hl : l0.length < 1000000000000) :
  Calls Tryz.prog 145 #[.slice A0 l0.length c0,.func (.func g) #[] lb] w fun e w' => e = .returned (.int .i64 (idxP p l0 0)) ∧ Below w.heap.size w w' := by
 have HR0 := Aside0.mk hr0
 have HL := Aside0.mk hl
 have HP := Aside0.mk hp
 obtain ⟨r,hr⟩ : ∃ r,idxP p l0 0 = r := ⟨_,rfl⟩
 rw [hr]
 have HH := Aside0.mk hr
 clear hr0 hl hp hr
 go_enter Tryz.func145,Tryz.ntmps145
 go_wp2
 go_loopg [5,8] l0.length (fun gg v5 v8 wr => ∃ i : Nat,i ≤ l0.length ∧ l0.length - i ≤ gg ∧ v8 = .int .i64 (i : Int) ∧ Aside0 (idxP p (l0.drop i) i = r) ∧ Aside0 (Below w.heap.size w wr))
 case atStart => exact ⟨0,Nat.zero_le _,by omega,rfl,HH,⟨Below.refl _ _⟩⟩
 case round =>
  clear HH
  obtain ⟨i,hi,hg,rfl,HA,HB⟩ := hrel
  by_cases hlt : i < l0.length
  ·have b2 : decide ((i : Int) < (l0.length : Int)) = true := decide_eq_true (by omega)
   have p0 : (0 : Int) ≤ (i : Int) := by omega
   have p1 : (i : Int) < (l0.length : Int) := by omega
   obtain ⟨ad,c,rfl,hcl,hK,hc⟩ := Kd.C_get (Kd.C_below HR0.out HB.out) ([] : List S92) (i : Int) p0 p1
   have hc0 : ∀ j u,c[j]? = some u → wr.cell? (ad.add ((i : Int).toNat * 1 + j)) = some u := hc
   clear hc
   obtain ⟨x,hx,hm,hrest⟩ : ∃ x,l0.getD (i : Int).toNat ([] : List S92) = x ∧ x ∈ l0 ∧ l0.drop i = x :: l0.drop (i + 1) := ⟨_,rfl,by
    rw [Int.toNat_natCast,List.getD_eq_getElem?_getD,List.getElem?_eq_getElem hlt]
    exact List.getElem_mem hlt,by
    rw [List.drop_eq_getElem_cons hlt]
    congr 1
    rw [Int.toNat_natCast,List.getD_eq_getElem?_getD,List.getElem?_eq_getElem hlt]
    rfl⟩
   rw [hx] at hK
   have hcl : c.length = 1 := hcl
   obtain ⟨u0,rfl⟩ : ∃ u0,c = [u0] := by
    match c,hcl with
    | [u0],_ => exact ⟨u0,rfl⟩
   have hx0 : wr.cell? (ad.add (i : Int).toNat) = some u0 := by have := hc0 0 _ rfl;rwa [Nat.mul_one,Nat.add_zero] at this
   clear hc0 hcl
   have hA := HA.out
   rw [hrest,idxP] at hA
   have hcall := HP.out wr x [u0] HB.out hm hK
   have hcall : Calls Tryz.prog g (#[u0] ++ lb) wr (fun e w' => e = .returned (.bool (p x)) ∧ Below w.heap.size w w') := hcall
   have bw : wrap64 ((i : Int) + 1) = ((i + 1 : Nat) : Int) := by have := HL.out;unfold wrap64;omega
   have HI := Aside0.mk hi
   have HG := Aside0.mk hg
   have HLT := Aside0.mk hlt
   have HT := Aside0.mk hA
   clear hA hrest hx hm hK hi hg hlt HA HP HL
   simp only [Int.toNat_natCast] at hx0
   cases hpx : p x with
   | true =>
    rw [hpx] at hcall HT
    clear hpx
    go_wp2_with (go_at_fn g;refine hcall.mono ?_;rintro e w' ⟨rfl,hb'⟩)
    go_ret
    have hr := HT.out
    rw [if_pos trivial] at hr
    subst hr
    exact ⟨rfl,hb'⟩
   | false =>
    rw [hpx] at hcall HT
    clear hpx
    go_wp2_with (go_at_fn g;refine hcall.mono ?_;rintro e w' ⟨rfl,hb'⟩)
    go_roundg (l0.length - (i + 1))
    case measure => have := HG.out;have := HLT.out;omega
    case rel => exact ⟨i + 1,HLT.out,Nat.le_refl _,by rw [bw],⟨by have hr := HT.out;rw [if_neg (by decide)] at hr;exact hr⟩,⟨hb'⟩⟩
  ·have b2 : decide ((i : Int) < (l0.length : Int)) = false := decide_eq_false (by omega)
   have hA := HA.out
   rw [List.drop_of_length_le (by omega)] at hA
   obtain rfl : (-1 : Int) = r := by simpa [idxP] using hA
   go_wp2
   go_ret
   exact ⟨rfl,HB.out⟩
set_option maxRecDepth 100000 in
set_option maxHeartbeats 8000000 in
theorem containsSt (p : (List S92) → Bool) (g : Nat) (lb : Array Value) (eg : ∀ args w,(callFunc g args).run Tryz.prog w = .ok (.enter g args) w) (w : World)
  (A0 : Option Addr) (c0 : Nat) (l0 : List (List S92)) (hp : PredC (Kd.slice 92 k92) p g lb w l0) (hr0 : Kd.C (Kd.slice 92 k92) w A0 l0.length l0) (hl : l0.length < 1000000000000) :
  Calls Tryz.prog 116 #[.slice A0 l0.length c0,.func (.func g) #[] lb] w fun e w' => e = .returned (.bool (l0.any p)) ∧ Below w.heap.size w w' := by
 have HI := Aside0.mk (indexSt p g lb eg w A0 c0 l0 hp hr0 hl)
 rw [← idxP_any p l0 0]
 clear hr0 hl hp
 go_enter Tryz.func116,Tryz.ntmps116
 go_wp2_with (go_at_call 145;refine HI.out.mono ?_;rintro e w' ⟨rfl,hb'⟩)
 go_ret
 exact ⟨rfl,hb'⟩
set_option maxRecDepth 100000 in
set_option maxHeartbeats 8000000 in
theorem indexGAtom (p : S46 → Bool) (g : Nat) (lb : Array Value) (eg : ∀ args w,(callFunc g args).run Tryz.prog w = .ok (.enter g args) w) (w : World)
  (A0 : Option Addr) (c0 : Nat) (l0 : List S46) (hp : PredP k46 p g lb w l0) (hr0 : Kd.C k46 w A0 l0.length l0) (hl : l0.length < 1000000000000) :
  Calls Tryz.prog 67 #[.slice A0 l0.length c0,.func (.func g) #[] lb] w fun e w' => e = .returned (.int .i64 (idxP p l0 0)) ∧ Below w.heap.size w w' := by
 have HR0 := Aside0.mk hr0
 have HL := Aside0.mk hl
 have HP := Aside0.mk hp
 obtain ⟨r,hr⟩ : ∃ r,idxP p l0 0 = r := ⟨_,rfl⟩
 rw [hr]
 have HH := Aside0.mk hr
 clear hr0 hl hp hr
 go_enter Tryz.func67,Tryz.ntmps67
 go_wp2
 go_loopg [5,8] l0.length (fun gg v5 v8 wr => ∃ i : Nat,i ≤ l0.length ∧ l0.length - i ≤ gg ∧ v8 = .int .i64 (i : Int) ∧ Aside0 (idxP p (l0.drop i) i = r) ∧ Aside0 (Below w.heap.size w wr))
 case atStart => exact ⟨0,Nat.zero_le _,by omega,rfl,HH,⟨Below.refl _ _⟩⟩
 case round =>
  clear HH
  obtain ⟨i,hi,hg,rfl,HA,HB⟩ := hrel
  by_cases hlt : i < l0.length
  ·have b2 : decide ((i : Int) < (l0.length : Int)) = true := decide_eq_true (by omega)
   have p0 : (0 : Int) ≤ (i : Int) := by omega
   have p1 : (i : Int) < (l0.length : Int) := by omega
   obtain ⟨ad,c,rfl,hcl,hK,hc⟩ := Kd.C_get (Kd.C_below HR0.out HB.out) z46 (i : Int) p0 p1
   have hc0 : ∀ j u,c[j]? = some u → wr.cell? (ad.add ((i : Int).toNat * 3 + j)) = some u := hc
   clear hc
   obtain ⟨x,hx,hm,hrest⟩ : ∃ x,l0.getD (i : Int).toNat z46 = x ∧ x ∈ l0 ∧ l0.drop i = x :: l0.drop (i + 1) := ⟨_,rfl,by
    rw [Int.toNat_natCast,List.getD_eq_getElem?_getD,List.getElem?_eq_getElem hlt]
    exact List.getElem_mem hlt,by
    rw [List.drop_eq_getElem_cons hlt]
    congr 1
    rw [Int.toNat_natCast,List.getD_eq_getElem?_getD,List.getElem?_eq_getElem hlt]
    rfl⟩
   rw [hx] at hK
   have hcl : c.length = 3 := hcl
   obtain ⟨u0,u1,u2,rfl⟩ : ∃ u0 u1 u2,c = [u0,u1,u2] := by
    match c,hcl with
    | [u0,u1,u2],_ => exact ⟨u0,u1,u2,rfl⟩
   have hx0 : wr.cell? (ad.add ((i : Int).toNat * 3)) = some u0 := by exact hc0 0 _ rfl
   have hx1 : wr.cell? ⟨(ad.add ((i : Int).toNat * 3)).block,(ad.add ((i : Int).toNat * 3)).off + 1,none⟩ = some u1 := by rw [← add_field _ _ 1 (by omega)];exact hc0 1 _ rfl
   have hx2 : wr.cell? ⟨(ad.add ((i : Int).toNat * 3)).block,(ad.add ((i : Int).toNat * 3)).off + 2,none⟩ = some u2 := by rw [← add_field _ _ 2 (by omega)];exact hc0 2 _ rfl
   clear hc0 hcl
   have hA := HA.out
   rw [hrest,idxP] at hA
   have hcall := HP.out wr x [u0,u1,u2] HB.out hm hK
   have hcall : Calls Tryz.prog g (#[.agg #[u0,u1,u2]] ++ lb) wr (fun e w' => e = .returned (.bool (p x)) ∧ Below w.heap.size w w') := hcall
   have bw : wrap64 ((i : Int) + 1) = ((i + 1 : Nat) : Int) := by have := HL.out;unfold wrap64;omega
   have HI := Aside0.mk hi
   have HG := Aside0.mk hg
   have HLT := Aside0.mk hlt
   have HT := Aside0.mk hA
   clear hA hrest hx hm hK hi hg hlt HA HP HL
   simp only [Int.toNat_natCast] at hx0 hx1 hx2
   cases hpx : p x with
   | true =>
    rw [hpx] at hcall HT
    clear hpx
    go_wp2_with (go_at_fn g;refine hcall.mono ?_;rintro e w' ⟨rfl,hb'⟩)
    go_ret
    have hr := HT.out
    rw [if_pos trivial] at hr
    subst hr
    exact ⟨rfl,hb'⟩
   | false =>
    rw [hpx] at hcall HT
    clear hpx
    go_wp2_with (go_at_fn g;refine hcall.mono ?_;rintro e w' ⟨rfl,hb'⟩)
    go_roundg (l0.length - (i + 1))
    case measure => have := HG.out;have := HLT.out;omega
    case rel => exact ⟨i + 1,HLT.out,Nat.le_refl _,by rw [bw],⟨by have hr := HT.out;rw [if_neg (by decide)] at hr;exact hr⟩,⟨hb'⟩⟩
  ·have b2 : decide ((i : Int) < (l0.length : Int)) = false := decide_eq_false (by omega)
   have hA := HA.out
   rw [List.drop_of_length_le (by omega)] at hA
   obtain rfl : (-1 : Int) = r := by simpa [idxP] using hA
   go_wp2
   go_ret
   exact ⟨rfl,HB.out⟩
set_option maxRecDepth 100000 in
set_option maxHeartbeats 8000000 in
theorem containsGAtom (p : S46 → Bool) (g : Nat) (lb : Array Value) (eg : ∀ args w,(callFunc g args).run Tryz.prog w = .ok (.enter g args) w) (w : World)
  (A0 : Option Addr) (c0 : Nat) (l0 : List S46) (hp : PredP k46 p g lb w l0) (hr0 : Kd.C k46 w A0 l0.length l0) (hl : l0.length < 1000000000000) :
  Calls Tryz.prog 47 #[.slice A0 l0.length c0,.func (.func g) #[] lb] w fun e w' => e = .returned (.bool (l0.any p)) ∧ Below w.heap.size w w' := by
 have HI := Aside0.mk (indexGAtom p g lb eg w A0 c0 l0 hp hr0 hl)
 rw [← idxP_any p l0 0]
 clear hr0 hl hp
 go_enter Tryz.func47,Tryz.ntmps47
 go_wp2_with (go_at_call 67;refine HI.out.mono ?_;rintro e w' ⟨rfl,hb'⟩)
 go_ret
 exact ⟨rfl,hb'⟩
set_option maxRecDepth 100000 in
set_option maxHeartbeats 8000000 in
theorem indexGrp (p : (List S46) → Bool) (g : Nat) (lb : Array Value) (eg : ∀ args w,(callFunc g args).run Tryz.prog w = .ok (.enter g args) w) (w : World)
  (A0 : Option Addr) (c0 : Nat) (l0 : List (List S46)) (hp : PredC (Kd.slice 46 k46) p g lb w l0) (hr0 : Kd.C (Kd.slice 46 k46) w A0 l0.length l0) (hl : l0.length < 1000000000000) :
  Calls Tryz.prog 66 #[.slice A0 l0.length c0,.func (.func g) #[] lb] w fun e w' => e = .returned (.int .i64 (idxP p l0 0)) ∧ Below w.heap.size w w' := by
 have HR0 := Aside0.mk hr0
 have HL := Aside0.mk hl
 have HP := Aside0.mk hp
 obtain ⟨r,hr⟩ : ∃ r,idxP p l0 0 = r := ⟨_,rfl⟩
 rw [hr]
 have HH := Aside0.mk hr
 clear hr0 hl hp hr
 go_enter Tryz.func66,Tryz.ntmps66
 go_wp2
 go_loopg [5,8] l0.length (fun gg v5 v8 wr => ∃ i : Nat,i ≤ l0.length ∧ l0.length - i ≤ gg ∧ v8 = .int .i64 (i : Int) ∧ Aside0 (idxP p (l0.drop i) i = r) ∧ Aside0 (Below w.heap.size w wr))
 case atStart => exact ⟨0,Nat.zero_le _,by omega,rfl,HH,⟨Below.refl _ _⟩⟩
 case round =>
  clear HH
  obtain ⟨i,hi,hg,rfl,HA,HB⟩ := hrel
  by_cases hlt : i < l0.length
  ·have b2 : decide ((i : Int) < (l0.length : Int)) = true := decide_eq_true (by omega)
   have p0 : (0 : Int) ≤ (i : Int) := by omega
   have p1 : (i : Int) < (l0.length : Int) := by omega
   obtain ⟨ad,c,rfl,hcl,hK,hc⟩ := Kd.C_get (Kd.C_below HR0.out HB.out) ([] : List S46) (i : Int) p0 p1
   have hc0 : ∀ j u,c[j]? = some u → wr.cell? (ad.add ((i : Int).toNat * 1 + j)) = some u := hc
   clear hc
   obtain ⟨x,hx,hm,hrest⟩ : ∃ x,l0.getD (i : Int).toNat ([] : List S46) = x ∧ x ∈ l0 ∧ l0.drop i = x :: l0.drop (i + 1) := ⟨_,rfl,by
    rw [Int.toNat_natCast,List.getD_eq_getElem?_getD,List.getElem?_eq_getElem hlt]
    exact List.getElem_mem hlt,by
    rw [List.drop_eq_getElem_cons hlt]
    congr 1
    rw [Int.toNat_natCast,List.getD_eq_getElem?_getD,List.getElem?_eq_getElem hlt]
    rfl⟩
   rw [hx] at hK
   have hcl : c.length = 1 := hcl
   obtain ⟨u0,rfl⟩ : ∃ u0,c = [u0] := by
    match c,hcl with
    | [u0],_ => exact ⟨u0,rfl⟩
   have hx0 : wr.cell? (ad.add (i : Int).toNat) = some u0 := by have := hc0 0 _ rfl;rwa [Nat.mul_one,Nat.add_zero] at this
   clear hc0 hcl
   have hA := HA.out
   rw [hrest,idxP] at hA
   have hcall := HP.out wr x [u0] HB.out hm hK
   have hcall : Calls Tryz.prog g (#[u0] ++ lb) wr (fun e w' => e = .returned (.bool (p x)) ∧ Below w.heap.size w w') := hcall
   have bw : wrap64 ((i : Int) + 1) = ((i + 1 : Nat) : Int) := by have := HL.out;unfold wrap64;omega
   have HI := Aside0.mk hi
   have HG := Aside0.mk hg
   have HLT := Aside0.mk hlt
   have HT := Aside0.mk hA
   clear hA hrest hx hm hK hi hg hlt HA HP HL
   simp only [Int.toNat_natCast] at hx0
   cases hpx : p x with
   | true =>
    rw [hpx] at hcall HT
    clear hpx
    go_wp2_with (go_at_fn g;refine hcall.mono ?_;rintro e w' ⟨rfl,hb'⟩)
    go_ret
    have hr := HT.out
    rw [if_pos trivial] at hr
    subst hr
    exact ⟨rfl,hb'⟩
   | false =>
    rw [hpx] at hcall HT
    clear hpx
    go_wp2_with (go_at_fn g;refine hcall.mono ?_;rintro e w' ⟨rfl,hb'⟩)
    go_roundg (l0.length - (i + 1))
    case measure => have := HG.out;have := HLT.out;omega
    case rel => exact ⟨i + 1,HLT.out,Nat.le_refl _,by rw [bw],⟨by have hr := HT.out;rw [if_neg (by decide)] at hr;exact hr⟩,⟨hb'⟩⟩
  ·have b2 : decide ((i : Int) < (l0.length : Int)) = false := decide_eq_false (by omega)
   have hA := HA.out
   rw [List.drop_of_length_le (by omega)] at hA
   obtain rfl : (-1 : Int) = r := by simpa [idxP] using hA
   go_wp2
   go_ret
   exact ⟨rfl,HB.out⟩
set_option maxRecDepth 100000 in
set_option maxHeartbeats 8000000 in
theorem containsGrp (p : (List S46) → Bool) (g : Nat) (lb : Array Value) (eg : ∀ args w,(callFunc g args).run Tryz.prog w = .ok (.enter g args) w) (w : World)
  (A0 : Option Addr) (c0 : Nat) (l0 : List (List S46)) (hp : PredC (Kd.slice 46 k46) p g lb w l0) (hr0 : Kd.C (Kd.slice 46 k46) w A0 l0.length l0) (hl : l0.length < 1000000000000) :
  Calls Tryz.prog 45 #[.slice A0 l0.length c0,.func (.func g) #[] lb] w fun e w' => e = .returned (.bool (l0.any p)) ∧ Below w.heap.size w w' := by
 have HI := Aside0.mk (indexGrp p g lb eg w A0 c0 l0 hp hr0 hl)
 rw [← idxP_any p l0 0]
 clear hr0 hl hp
 go_enter Tryz.func45,Tryz.ntmps45
 go_wp2_with (go_at_call 66;refine HI.out.mono ?_;rintro e w' ⟨rfl,hb'⟩)
 go_ret
 exact ⟨rfl,hb'⟩
end Go.Proofs.YtiidmjmkgjfaeaaGreatDoor.PA

namespace Go.Proofs.YtiidmjmkgjfaeaaGreatDoor.PA
open Go Go.RowKit Go.Shelf Go.Proofs.YtiidmjmkgjfaeaaGreatDoorW.PrintWords
set_option linter.unusedVariables false
set_option linter.unusedSimpArgs false
set_option maxRecDepth 100000 in
set_option maxHeartbeats 8000000 in
theorem indexHere (p : S39 → Bool) (g : Nat) (lb : Array Value) (eg : ∀ args w,(callFunc g args).run Tryz.prog w = .ok (.enter g args) w) (w : World)
  (A0 : Option Addr) (c0 : Nat) (l0 : List S39) (hp : PredP k39 p g lb w l0) (hr0 : Kd.C k39 w A0 l0.length l0) (hl : l0.length < 1000000000000) :
  Calls Tryz.prog 32 #[.slice A0 l0.length c0,.func (.func g) #[] lb] w fun e w' => e = .returned (.int .i64 (idxP p l0 0)) ∧ Below w.heap.size w w' := by
 have HR0 := Aside0.mk hr0
 have HL := Aside0.mk hl
 have HP := Aside0.mk hp
 obtain ⟨r,hr⟩ : ∃ r,idxP p l0 0 = r := ⟨_,rfl⟩
 rw [hr]
 have HH := Aside0.mk hr
 clear hr0 hl hp hr
 go_enter Tryz.func32,Tryz.ntmps32
 go_wp2
 go_loopg [5,8] l0.length (fun gg v5 v8 wr => ∃ i : Nat,i ≤ l0.length ∧ l0.length - i ≤ gg ∧ v8 = .int .i64 (i : Int) ∧ Aside0 (idxP p (l0.drop i) i = r) ∧ Aside0 (Below w.heap.size w wr))
 case atStart => exact ⟨0,Nat.zero_le _,by omega,rfl,HH,⟨Below.refl _ _⟩⟩
 case round =>
  clear HH
  obtain ⟨i,hi,hg,rfl,HA,HB⟩ := hrel
  by_cases hlt : i < l0.length
  ·have b2 : decide ((i : Int) < (l0.length : Int)) = true := decide_eq_true (by omega)
   have p0 : (0 : Int) ≤ (i : Int) := by omega
   have p1 : (i : Int) < (l0.length : Int) := by omega
   obtain ⟨ad,c,rfl,hcl,hK,hc⟩ := Kd.C_get (Kd.C_below HR0.out HB.out) z39 (i : Int) p0 p1
   have hc0 : ∀ j u,c[j]? = some u → wr.cell? (ad.add ((i : Int).toNat * 8 + j)) = some u := hc
   clear hc
   obtain ⟨x,hx,hm,hrest⟩ : ∃ x,l0.getD (i : Int).toNat z39 = x ∧ x ∈ l0 ∧ l0.drop i = x :: l0.drop (i + 1) := ⟨_,rfl,by
    rw [Int.toNat_natCast,List.getD_eq_getElem?_getD,List.getElem?_eq_getElem hlt]
    exact List.getElem_mem hlt,by
    rw [List.drop_eq_getElem_cons hlt]
    congr 1
    rw [Int.toNat_natCast,List.getD_eq_getElem?_getD,List.getElem?_eq_getElem hlt]
    rfl⟩
   rw [hx] at hK
   have hcl : c.length = 8 := hcl
   obtain ⟨u0,u1,u2,u3,u4,u5,u6,u7,rfl⟩ : ∃ u0 u1 u2 u3 u4 u5 u6 u7,c = [u0,u1,u2,u3,u4,u5,u6,u7] := by
    match c,hcl with
    | [u0,u1,u2,u3,u4,u5,u6,u7],_ => exact ⟨u0,u1,u2,u3,u4,u5,u6,u7,rfl⟩
   have hx0 : wr.cell? (ad.add ((i : Int).toNat * 8)) = some u0 := by exact hc0 0 _ rfl
   have hx1 : wr.cell? ⟨(ad.add ((i : Int).toNat * 8)).block,(ad.add ((i : Int).toNat * 8)).off + 1,none⟩ = some u1 := by rw [← add_field _ _ 1 (by omega)];exact hc0 1 _ rfl
   have hx2 : wr.cell? ⟨(ad.add ((i : Int).toNat * 8)).block,(ad.add ((i : Int).toNat * 8)).off + 2,none⟩ = some u2 := by rw [← add_field _ _ 2 (by omega)];exact hc0 2 _ rfl
   have hx3 : wr.cell? ⟨(ad.add ((i : Int).toNat * 8)).block,(ad.add ((i : Int).toNat * 8)).off + 3,none⟩ = some u3 := by rw [← add_field _ _ 3 (by omega)];exact hc0 3 _ rfl
   have hx4 : wr.cell? ⟨(ad.add ((i : Int).toNat * 8)).block,(ad.add ((i : Int).toNat * 8)).off + 4,none⟩ = some u4 := by rw [← add_field _ _ 4 (by omega)];exact hc0 4 _ rfl
   have hx5 : wr.cell? ⟨(ad.add ((i : Int).toNat * 8)).block,(ad.add ((i : Int).toNat * 8)).off + 5,none⟩ = some u5 := by rw [← add_field _ _ 5 (by omega)];exact hc0 5 _ rfl
   have hx6 : wr.cell? ⟨(ad.add ((i : Int).toNat * 8)).block,(ad.add ((i : Int).toNat * 8)).off + 6,none⟩ = some u6 := by rw [← add_field _ _ 6 (by omega)];exact hc0 6 _ rfl
   have hx7 : wr.cell? ⟨(ad.add ((i : Int).toNat * 8)).block,(ad.add ((i : Int).toNat * 8)).off + 7,none⟩ = some u7 := by rw [← add_field _ _ 7 (by omega)];exact hc0 7 _ rfl
   clear hc0 hcl
   have hA := HA.out
   rw [hrest,idxP] at hA
   have hcall := HP.out wr x [u0,u1,u2,u3,u4,u5,u6,u7] HB.out hm hK
   have hcall : Calls Tryz.prog g (#[.agg #[u0,u1,u2,u3,u4,u5,u6,u7]] ++ lb) wr (fun e w' => e = .returned (.bool (p x)) ∧ Below w.heap.size w w') := hcall
   have bw : wrap64 ((i : Int) + 1) = ((i + 1 : Nat) : Int) := by have := HL.out;unfold wrap64;omega
   have HI := Aside0.mk hi
   have HG := Aside0.mk hg
   have HLT := Aside0.mk hlt
   have HT := Aside0.mk hA
   clear hA hrest hx hm hK hi hg hlt HA HP HL
   simp only [Int.toNat_natCast] at hx0 hx1 hx2 hx3 hx4 hx5 hx6 hx7
   cases hpx : p x with
   | true =>
    rw [hpx] at hcall HT
    clear hpx
    go_wp2_with (go_at_fn g;refine hcall.mono ?_;rintro e w' ⟨rfl,hb'⟩)
    go_ret
    have hr := HT.out
    rw [if_pos trivial] at hr
    subst hr
    exact ⟨rfl,hb'⟩
   | false =>
    rw [hpx] at hcall HT
    clear hpx
    go_wp2_with (go_at_fn g;refine hcall.mono ?_;rintro e w' ⟨rfl,hb'⟩)
    go_roundg (l0.length - (i + 1))
    case measure => have := HG.out;have := HLT.out;omega
    case rel => exact ⟨i + 1,HLT.out,Nat.le_refl _,by rw [bw],⟨by have hr := HT.out;rw [if_neg (by decide)] at hr;exact hr⟩,⟨hb'⟩⟩
  ·have b2 : decide ((i : Int) < (l0.length : Int)) = false := decide_eq_false (by omega)
   have hA := HA.out
   rw [List.drop_of_length_le (by omega)] at hA
   obtain rfl : (-1 : Int) = r := by simpa [idxP] using hA
   go_wp2
   go_ret
   exact ⟨rfl,HB.out⟩
set_option maxRecDepth 100000 in
set_option maxHeartbeats 8000000 in
theorem indexEnt (p : S37 → Bool) (g : Nat) (lb : Array Value) (eg : ∀ args w,(callFunc g args).run Tryz.prog w = .ok (.enter g args) w) (w : World)
  (A0 : Option Addr) (c0 : Nat) (l0 : List S37) (hp : PredP k37 p g lb w l0) (hr0 : Kd.C k37 w A0 l0.length l0) (hl : l0.length < 1000000000000) :
  Calls Tryz.prog 39 #[.slice A0 l0.length c0,.func (.func g) #[] lb] w fun e w' => e = .returned (.int .i64 (idxP p l0 0)) ∧ Below w.heap.size w w' := by
 have HR0 := Aside0.mk hr0
 have HL := Aside0.mk hl
 have HP := Aside0.mk hp
 obtain ⟨r,hr⟩ : ∃ r,idxP p l0 0 = r := ⟨_,rfl⟩
 rw [hr]
 have HH := Aside0.mk hr
 clear hr0 hl hp hr
 go_enter Tryz.func39,Tryz.ntmps39
 go_wp2
 go_loopg [5,8] l0.length (fun gg v5 v8 wr => ∃ i : Nat,i ≤ l0.length ∧ l0.length - i ≤ gg ∧ v8 = .int .i64 (i : Int) ∧ Aside0 (idxP p (l0.drop i) i = r) ∧ Aside0 (Below w.heap.size w wr))
 case atStart => exact ⟨0,Nat.zero_le _,by omega,rfl,HH,⟨Below.refl _ _⟩⟩
 case round =>
  clear HH
  obtain ⟨i,hi,hg,rfl,HA,HB⟩ := hrel
  by_cases hlt : i < l0.length
  ·have b2 : decide ((i : Int) < (l0.length : Int)) = true := decide_eq_true (by omega)
   have p0 : (0 : Int) ≤ (i : Int) := by omega
   have p1 : (i : Int) < (l0.length : Int) := by omega
   obtain ⟨ad,c,rfl,hcl,hK,hc⟩ := Kd.C_get (Kd.C_below HR0.out HB.out) z37 (i : Int) p0 p1
   have hc0 : ∀ j u,c[j]? = some u → wr.cell? (ad.add ((i : Int).toNat * 6 + j)) = some u := hc
   clear hc
   obtain ⟨x,hx,hm,hrest⟩ : ∃ x,l0.getD (i : Int).toNat z37 = x ∧ x ∈ l0 ∧ l0.drop i = x :: l0.drop (i + 1) := ⟨_,rfl,by
    rw [Int.toNat_natCast,List.getD_eq_getElem?_getD,List.getElem?_eq_getElem hlt]
    exact List.getElem_mem hlt,by
    rw [List.drop_eq_getElem_cons hlt]
    congr 1
    rw [Int.toNat_natCast,List.getD_eq_getElem?_getD,List.getElem?_eq_getElem hlt]
    rfl⟩
   rw [hx] at hK
   have hcl : c.length = 6 := hcl
   obtain ⟨u0,u1,u2,u3,u4,u5,rfl⟩ : ∃ u0 u1 u2 u3 u4 u5,c = [u0,u1,u2,u3,u4,u5] := by
    match c,hcl with
    | [u0,u1,u2,u3,u4,u5],_ => exact ⟨u0,u1,u2,u3,u4,u5,rfl⟩
   have hx0 : wr.cell? (ad.add ((i : Int).toNat * 6)) = some u0 := by exact hc0 0 _ rfl
   have hx1 : wr.cell? ⟨(ad.add ((i : Int).toNat * 6)).block,(ad.add ((i : Int).toNat * 6)).off + 1,none⟩ = some u1 := by rw [← add_field _ _ 1 (by omega)];exact hc0 1 _ rfl
   have hx2 : wr.cell? ⟨(ad.add ((i : Int).toNat * 6)).block,(ad.add ((i : Int).toNat * 6)).off + 2,none⟩ = some u2 := by rw [← add_field _ _ 2 (by omega)];exact hc0 2 _ rfl
   have hx3 : wr.cell? ⟨(ad.add ((i : Int).toNat * 6)).block,(ad.add ((i : Int).toNat * 6)).off + 3,none⟩ = some u3 := by rw [← add_field _ _ 3 (by omega)];exact hc0 3 _ rfl
   have hx4 : wr.cell? ⟨(ad.add ((i : Int).toNat * 6)).block,(ad.add ((i : Int).toNat * 6)).off + 4,none⟩ = some u4 := by rw [← add_field _ _ 4 (by omega)];exact hc0 4 _ rfl
   have hx5 : wr.cell? ⟨(ad.add ((i : Int).toNat * 6)).block,(ad.add ((i : Int).toNat * 6)).off + 5,none⟩ = some u5 := by rw [← add_field _ _ 5 (by omega)];exact hc0 5 _ rfl
   clear hc0 hcl
   have hA := HA.out
   rw [hrest,idxP] at hA
   have hcall := HP.out wr x [u0,u1,u2,u3,u4,u5] HB.out hm hK
   have hcall : Calls Tryz.prog g (#[.agg #[u0,u1,u2,u3,u4,u5]] ++ lb) wr (fun e w' => e = .returned (.bool (p x)) ∧ Below w.heap.size w w') := hcall
   have bw : wrap64 ((i : Int) + 1) = ((i + 1 : Nat) : Int) := by have := HL.out;unfold wrap64;omega
   have HI := Aside0.mk hi
   have HG := Aside0.mk hg
   have HLT := Aside0.mk hlt
   have HT := Aside0.mk hA
   clear hA hrest hx hm hK hi hg hlt HA HP HL
   simp only [Int.toNat_natCast] at hx0 hx1 hx2 hx3 hx4 hx5
   cases hpx : p x with
   | true =>
    rw [hpx] at hcall HT
    clear hpx
    go_wp2_with (go_at_fn g;refine hcall.mono ?_;rintro e w' ⟨rfl,hb'⟩)
    go_ret
    have hr := HT.out
    rw [if_pos trivial] at hr
    subst hr
    exact ⟨rfl,hb'⟩
   | false =>
    rw [hpx] at hcall HT
    clear hpx
    go_wp2_with (go_at_fn g;refine hcall.mono ?_;rintro e w' ⟨rfl,hb'⟩)
    go_roundg (l0.length - (i + 1))
    case measure => have := HG.out;have := HLT.out;omega
    case rel => exact ⟨i + 1,HLT.out,Nat.le_refl _,by rw [bw],⟨by have hr := HT.out;rw [if_neg (by decide)] at hr;exact hr⟩,⟨hb'⟩⟩
  ·have b2 : decide ((i : Int) < (l0.length : Int)) = false := decide_eq_false (by omega)
   have hA := HA.out
   rw [List.drop_of_length_le (by omega)] at hA
   obtain rfl : (-1 : Int) = r := by simpa [idxP] using hA
   go_wp2
   go_ret
   exact ⟨rfl,HB.out⟩
set_option maxRecDepth 100000 in
set_option maxHeartbeats 8000000 in
theorem containsEnt (p : S37 → Bool) (g : Nat) (lb : Array Value) (eg : ∀ args w,(callFunc g args).run Tryz.prog w = .ok (.enter g args) w) (w : World)
  (A0 : Option Addr) (c0 : Nat) (l0 : List S37) (hp : PredP k37 p g lb w l0) (hr0 : Kd.C k37 w A0 l0.length l0) (hl : l0.length < 1000000000000) :
  Calls Tryz.prog 41 #[.slice A0 l0.length c0,.func (.func g) #[] lb] w fun e w' => e = .returned (.bool (l0.any p)) ∧ Below w.heap.size w w' := by
 have HI := Aside0.mk (indexEnt p g lb eg w A0 c0 l0 hp hr0 hl)
 rw [← idxP_any p l0 0]
 clear hr0 hl hp
 go_enter Tryz.func41,Tryz.ntmps41
 go_wp2_with (go_at_call 39;refine HI.out.mono ?_;rintro e w' ⟨rfl,hb'⟩)
 go_ret
 exact ⟨rfl,hb'⟩
end Go.Proofs.YtiidmjmkgjfaeaaGreatDoor.PA

