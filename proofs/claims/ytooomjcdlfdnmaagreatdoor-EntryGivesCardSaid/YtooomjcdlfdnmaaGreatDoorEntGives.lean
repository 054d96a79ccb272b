import Derived.Test.YtooomjcdlfdnmaaGreatDoorDepAppend2
import Derived.Test.YtooomjcdlfdnmaaGreatDoorPAx6
import Derived.Test.YtooomjcdlfdnmaaGreatDoorPAx8
import Derived.Test.YtooomjcdlfdnmaaGreatDoorWZeros
import Derived.Test.YtooomjcdlfdnmaaGreatDoorPureDepJoin
import Derived.Test.YtooomjcdlfdnmaaGreatDoorPureRelParse
import Derived.Test.YtooomjcdlfdnmaaGreatDoorProg
import Derived.Test.YtooomjcdlfdnmaaGreatDoorShelf
import Derived.Test.YtooomjcdlfdnmaaGreatDoorPAx7
import Derived.Test.YtooomjcdlfdnmaaGreatDoorPAx4
import Derived.Test.YtooomjcdlfdnmaaGreatDoorPAx0
namespace Go.Proofs.YtooomjcdlfdnmaaGreatDoor.PA
open Go Go.RowKit Go.Shelf Go.Proofs.YtooomjcdlfdnmaaGreatDoorW.PrintWords
set_option linter.unusedVariables false
def idxP {α : Type} (p : α → Bool) : List α → Nat → Int
  | [], _ => -1
  | x :: r, i => if p x = true then (i : Int) else idxP p r (i + 1)
theorem idxP_any {α : Type} (p : α → Bool) : ∀ (l : List α) (i : Nat), decide (idxP p l i ≥ 0) = l.any p
  | [], i => rfl
  | x :: r, i => by
    rw [idxP, List.any_cons]
    cases h : p x with
    | true => rw [if_pos rfl, Bool.true_or]; exact decide_eq_true (by omega)
    | false => rw [if_neg (by simp), Bool.false_or]; exact idxP_any p r (i + 1)
def PredP {α : Type} (d : Kd α) (p : α → Bool) (g : Nat) (lb : Array Value) (w : World) (l : List α) : Prop :=
  ∀ (W : World) (x : α) (cs : List Value), Below w.heap.size w W → x ∈ l → d.K W x cs → Calls Tryz.prog g (#[.agg cs.toArray] ++ lb) W fun e w' => e = .returned (.bool (p x)) ∧ Below w.heap.size w w'
set_option maxRecDepth 100000 in
set_option maxHeartbeats 8000000 in
theorem indexField (p : S49 → Bool) (g : Nat) (lb : Array Value) (eg : ∀ args w, (callFunc g args).run Tryz.prog w = .ok (.enter g args) w) (w : World)
    (A0 : Option Addr) (c0 : Nat) (l0 : List S49) (hp : PredP k49 p g lb w l0) (hr0 : Kd.C k49 w A0 l0.length l0) (hl : l0.length < 1000000000000) :
    Calls Tryz.prog 197 #[.slice A0 l0.length c0, .func (.func g) #[] lb] w fun e w' => e = .returned (.int .i64 (idxP p l0 0)) ∧ Below w.heap.size w w' := by
  have HR0 := Aside0.mk hr0
  have HL := Aside0.mk hl
  have HP := Aside0.mk hp
  obtain ⟨r, hr⟩ : ∃ r, idxP p l0 0 = r := ⟨_, rfl⟩
  rw [hr]
  have HH := Aside0.mk hr
  clear hr0 hl hp hr
  go_enter Tryz.func197, Tryz.ntmps197
  go_wp2
  go_loopg [5, 8] l0.length (fun gg v5 v8 wr => ∃ i : Nat, i ≤ l0.length ∧ l0.length - i ≤ gg ∧ v8 = .int .i64 (i : Int) ∧ Aside0 (idxP p (l0.drop i) i = r) ∧ Aside0 (Below w.heap.size w wr))
  case atStart => exact ⟨0, Nat.zero_le _, by omega, rfl, HH, ⟨Below.refl _ _⟩⟩
  case round =>
    clear HH
    obtain ⟨i, hi, hg, rfl, HA, HB⟩ := hrel
    by_cases hlt : i < l0.length
    · have b2 : decide ((i : Int) < (l0.length : Int)) = true := decide_eq_true (by omega)
      have p0 : (0 : Int) ≤ (i : Int) := by omega
      have p1 : (i : Int) < (l0.length : Int) := by omega
      obtain ⟨ad, c, rfl, hcl, hK, hc⟩ := Kd.C_get (Kd.C_below HR0.out HB.out) z49 (i : Int) p0 p1
      have hc0 : ∀ j u, c[j]? = some u → wr.cell? (ad.add ((i : Int).toNat * 2 + j)) = some u := hc
      clear hc
      obtain ⟨x, hx, hm, hrest⟩ : ∃ x, l0.getD (i : Int).toNat z49 = x ∧ x ∈ l0 ∧ l0.drop i = x :: l0.drop (i + 1) := ⟨_, rfl, by
        rw [Int.toNat_natCast, List.getD_eq_getElem?_getD, List.getElem?_eq_getElem hlt]
        exact List.getElem_mem hlt, by
        rw [List.drop_eq_getElem_cons hlt]
        congr 1
        rw [Int.toNat_natCast, List.getD_eq_getElem?_getD, List.getElem?_eq_getElem hlt]
        rfl⟩
      rw [hx] at hK
      have hcl : c.length = 2 := hcl
      obtain ⟨u0, u1, rfl⟩ : ∃ u0 u1, c = [u0, u1] := by
        match c, hcl with
        | [u0, u1], _ => exact ⟨u0, u1, rfl⟩
      have hx0 : wr.cell? (ad.add ((i : Int).toNat * 2)) = some u0 := by exact hc0 0 _ rfl
      have hx1 : wr.cell? ⟨(ad.add ((i : Int).toNat * 2)).block, (ad.add ((i : Int).toNat * 2)).off + 1, none⟩ = some u1 := by rw [← add_field _ _ 1 (by omega)]; exact hc0 1 _ rfl
      clear hc0 hcl
      have hA := HA.out
      rw [hrest, idxP] at hA
      have hcall := HP.out wr x [u0, u1] HB.out hm hK
      have hcall : Calls Tryz.prog g (#[.agg #[u0, u1]] ++ lb) wr (fun e w' => e = .returned (.bool (p x)) ∧ Below w.heap.size w w') := hcall
      have bw : wrap64 ((i : Int) + 1) = ((i + 1 : Nat) : Int) := by have := HL.out; unfold wrap64; omega
      have HI := Aside0.mk hi
      have HG := Aside0.mk hg
      have HLT := Aside0.mk hlt
      have HT := Aside0.mk hA
      clear hA hrest hx hm hK hi hg hlt HA HP HL
      simp only [Int.toNat_natCast] at hx0 hx1
      cases hpx : p x with
      | true =>
        rw [hpx] at hcall HT
        clear hpx
        go_wp2_with (go_at_fn g; refine hcall.mono ?_; rintro e w' ⟨rfl, hb'⟩)
        go_ret
        have hr := HT.out
        rw [if_pos trivial] at hr
        subst hr
        exact ⟨rfl, hb'⟩
      | false =>
        rw [hpx] at hcall HT
        clear hpx
        go_wp2_with (go_at_fn g; refine hcall.mono ?_; rintro e w' ⟨rfl, hb'⟩)
        go_roundg (l0.length - (i + 1))
        case measure => have := HG.out; have := HLT.out; omega
        case rel => exact ⟨i + 1, HLT.out, Nat.le_refl _, by rw [bw], ⟨by have hr := HT.out; rw [if_neg (by decide)] at hr; exact hr⟩, ⟨hb'⟩⟩
    · have b2 : decide ((i : Int) < (l0.length : Int)) = false := decide_eq_false (by omega)
      have hA := HA.out
      rw [List.drop_of_length_le (by omega)] at hA
      obtain rfl : (-1 : Int) = r := by simpa [idxP] using hA
      go_wp2
      go_ret
      exact ⟨rfl, HB.out⟩
set_option maxRecDepth 100000 in
set_option maxHeartbeats 8000000 in
theorem indexAtom (p : S27 → Bool) (g : Nat) (lb : Array Value) (eg : ∀ args w, (callFunc g args).run Tryz.prog w = .ok (.enter g args) w) (w : World)
    (A0 : Option Addr) (c0 : Nat) (l0 : List S27) (hp : PredP k27 p g lb w l0) (hr0 : Kd.C k27 w A0 l0.length l0) (hl : l0.length < 1000000000000) :
    Calls Tryz.prog 166 #[.slice A0 l0.length c0, .func (.func g) #[] lb] w fun e w' => e = .returned (.int .i64 (idxP p l0 0)) ∧ Below w.heap.size w w' := by
  have HR0 := Aside0.mk hr0
  have HL := Aside0.mk hl
  have HP := Aside0.mk hp
  obtain ⟨r, hr⟩ : ∃ r, idxP p l0 0 = r := ⟨_, rfl⟩
  rw [hr]
  have HH := Aside0.mk hr
  clear hr0 hl hp hr
  go_enter Tryz.func166, Tryz.ntmps166
  go_wp2
  go_loopg [5, 8] l0.length (fun gg v5 v8 wr => ∃ i : Nat, i ≤ l0.length ∧ l0.length - i ≤ gg ∧ v8 = .int .i64 (i : Int) ∧ Aside0 (idxP p (l0.drop i) i = r) ∧ Aside0 (Below w.heap.size w wr))
  case atStart => exact ⟨0, Nat.zero_le _, by omega, rfl, HH, ⟨Below.refl _ _⟩⟩
  case round =>
    clear HH
    obtain ⟨i, hi, hg, rfl, HA, HB⟩ := hrel
    by_cases hlt : i < l0.length
    · have b2 : decide ((i : Int) < (l0.length : Int)) = true := decide_eq_true (by omega)
      have p0 : (0 : Int) ≤ (i : Int) := by omega
      have p1 : (i : Int) < (l0.length : Int) := by omega
      obtain ⟨ad, c, rfl, hcl, hK, hc⟩ := Kd.C_get (Kd.C_below HR0.out HB.out) z27 (i : Int) p0 p1
      have hc0 : ∀ j u, c[j]? = some u → wr.cell? (ad.add ((i : Int).toNat * 3 + j)) = some u := hc
      clear hc
      obtain ⟨x, hx, hm, hrest⟩ : ∃ x, l0.getD (i : Int).toNat z27 = x ∧ x ∈ l0 ∧ l0.drop i = x :: l0.drop (i + 1) := ⟨_, rfl, by
        rw [Int.toNat_natCast, List.getD_eq_getElem?_getD, List.getElem?_eq_getElem hlt]
        exact List.getElem_mem hlt, by
        rw [List.drop_eq_getElem_cons hlt]
        congr 1
        rw [Int.toNat_natCast, List.getD_eq_getElem?_getD, List.getElem?_eq_getElem hlt]
        rfl⟩
      rw [hx] at hK
      have hcl : c.length = 3 := hcl
      obtain ⟨u0, u1, u2, rfl⟩ : ∃ u0 u1 u2, c = [u0, u1, u2] := by
        match c, hcl with
        | [u0, u1, u2], _ => exact ⟨u0, u1, u2, rfl⟩
      have hx0 : wr.cell? (ad.add ((i : Int).toNat * 3)) = some u0 := by exact hc0 0 _ rfl
      have hx1 : wr.cell? ⟨(ad.add ((i : Int).toNat * 3)).block, (ad.add ((i : Int).toNat * 3)).off + 1, none⟩ = some u1 := by rw [← add_field _ _ 1 (by omega)]; exact hc0 1 _ rfl
      have hx2 : wr.cell? ⟨(ad.add ((i : Int).toNat * 3)).block, (ad.add ((i : Int).toNat * 3)).off + 2, none⟩ = some u2 := by rw [← add_field _ _ 2 (by omega)]; exact hc0 2 _ rfl
      clear hc0 hcl
      have hA := HA.out
      rw [hrest, idxP] at hA
      have hcall := HP.out wr x [u0, u1, u2] HB.out hm hK
      have hcall : Calls Tryz.prog g (#[.agg #[u0, u1, u2]] ++ lb) wr (fun e w' => e = .returned (.bool (p x)) ∧ Below w.heap.size w w') := hcall
      have bw : wrap64 ((i : Int) + 1) = ((i + 1 : Nat) : Int) := by have := HL.out; unfold wrap64; omega
      have HI := Aside0.mk hi
      have HG := Aside0.mk hg
      have HLT := Aside0.mk hlt
      have HT := Aside0.mk hA
      clear hA hrest hx hm hK hi hg hlt HA HP HL
      simp only [Int.toNat_natCast] at hx0 hx1 hx2
      cases hpx : p x with
      | true =>
        rw [hpx] at hcall HT
        clear hpx
        go_wp2_with (go_at_fn g; refine hcall.mono ?_; rintro e w' ⟨rfl, hb'⟩)
        go_ret
        have hr := HT.out
        rw [if_pos trivial] at hr
        subst hr
        exact ⟨rfl, hb'⟩
      | false =>
        rw [hpx] at hcall HT
        clear hpx
        go_wp2_with (go_at_fn g; refine hcall.mono ?_; rintro e w' ⟨rfl, hb'⟩)
        go_roundg (l0.length - (i + 1))
        case measure => have := HG.out; have := HLT.out; omega
        case rel => exact ⟨i + 1, HLT.out, Nat.le_refl _, by rw [bw], ⟨by have hr := HT.out; rw [if_neg (by decide)] at hr; exact hr⟩, ⟨hb'⟩⟩
    · have b2 : decide ((i : Int) < (l0.length : Int)) = false := decide_eq_false (by omega)
      have hA := HA.out
      rw [List.drop_of_length_le (by omega)] at hA
      obtain rfl : (-1 : Int) = r := by simpa [idxP] using hA
      go_wp2
      go_ret
      exact ⟨rfl, HB.out⟩
set_option maxRecDepth 100000 in
set_option maxHeartbeats 8000000 in
theorem containsAtom (p : S27 → Bool) (g : Nat) (lb : Array Value) (eg : ∀ args w, (callFunc g args).run Tryz.prog w = .ok (.enter g args) w) (w : World)
    (A0 : Option Addr) (c0 : Nat) (l0 : List S27) (hp : PredP k27 p g lb w l0) (hr0 : Kd.C k27 w A0 l0.length l0) (hl : l0.length < 1000000000000) :
    Calls Tryz.prog 110 #[.slice A0 l0.length c0, .func (.func g) #[] lb] w fun e w' => e = .returned (.bool (l0.any p)) ∧ Below w.heap.size w w' := by
  have HI := Aside0.mk (indexAtom p g lb eg w A0 c0 l0 hp hr0 hl)
  rw [← idxP_any p l0 0]
  clear hr0 hl hp
  go_enter Tryz.func110, Tryz.ntmps110
  go_wp2_with (go_at_call 166; refine HI.out.mono ?_; rintro e w' ⟨rfl, hb'⟩)
  go_ret
  exact ⟨rfl, hb'⟩
end Go.Proofs.YtooomjcdlfdnmaaGreatDoor.PA

namespace Go.Proofs.YtooomjcdlfdnmaaGreatDoor.PA
open Go Go.RowKit Go.Shelf Go.Proofs.YtooomjcdlfdnmaaGreatDoorW.PrintWords
set_option linter.unusedVariables false
def isF (n : ByteArray) (x : S49) : Bool := x.f0.toList == n.toList
def getV (n : ByteArray) (l : List S49) : ByteArray × Bool := if idxP (isF n) l 0 < 0 then (⟨#[]⟩, false) else ((rd_T49 l (idxP (isF n) l 0)).f1, true)
theorem idxP_rng {α : Type} (p : α → Bool) : ∀ (l : List α) (i : Nat), idxP p l i < 0 ∨ ((i : Int) ≤ idxP p l i ∧ idxP p l i < i + l.length)
  | [], i => .inl (by rw [idxP]; omega)
  | x :: r, i => by
    rw [idxP]
    split
    · exact .inr ⟨by omega, by simp; omega⟩
    · rcases idxP_rng p r (i + 1) with h | h
      · exact .inl h
      · refine .inr ⟨by omega, ?_⟩
        rw [List.length_cons]
        omega
set_option maxRecDepth 100000 in
theorem place1_pred (n : ByteArray) (D : Nat) (w : World) (hD : w.cell? ⟨D, 0, none⟩ = some (.string n)) (l : List S49) : PredP k49 (isF n) 198 #[.pointer (some ⟨D, 0, none⟩)] w l := by
  intro W x cs hb _ hK
  obtain rfl := k49_open hK
  have gD := (hb.cell (World.block_lt_of_cell? _ _ hD)).trans hD
  have hDW : D < W.heap.size := World.block_lt_of_cell? _ _ gD
  have hne : D ≠ W.heap.size := by omega
  have HB := Aside0.mk hb
  clear hb hD hK
  show Calls Tryz.prog 198 #[.agg #[.string x.f0, .string x.f1], .pointer (some ⟨D, 0, none⟩)] W _
  unfold isF
  go_enter Tryz.func198, Tryz.ntmps198
  go_wp2
  go_ret
  exact ⟨rfl, HB.out.alloc HB.out.size _⟩
set_option maxRecDepth 100000 in
theorem stanza_place_calls (A0 : Option Addr) (c0 : Nat) (l : List S49) (n : ByteArray) (w : World) (hr : Kd.C k49 w A0 l.length l) (hl : l.length < 1000000000000) :
    Calls Tryz.prog 138 #[.slice A0 l.length c0, .string n] w fun e w' => e = .returned (.int .i64 (idxP (isF n) l 0)) ∧ Below w.heap.size w w' := by
  obtain ⟨W, hW⟩ : ∃ W, w.alloc (.cells #[.string n] 9) = W := ⟨_, rfl⟩
  have hb : Below w.heap.size w W := by rw [← hW]; exact (Below.refl _ w).alloc (Nat.le_refl _) _
  have hD : W.cell? ⟨w.heap.size, 0, none⟩ = some (.string n) := by rw [← hW, World.cell?_alloc_new]; rfl
  have HI := Aside0.mk (indexField (isF n) 198 #[.pointer (some ⟨w.heap.size, 0, none⟩)] (enters_of Tryz.func198 (by kernel_rfl) rfl) W A0 c0 l (place1_pred n w.heap.size W hD l) (Kd.C_below hr hb) hl)
  have HB := Aside0.mk hb
  clear hr hl hD hb
  go_enter Tryz.func138, Tryz.ntmps138
  go_wp2_with (go_at_call 197; (refine HI.out.mono ?_; rintro e w' ⟨rfl, hb'⟩))
  go_ret
  exact ⟨rfl, HB.out.trans (hb'.mono HB.out.size)⟩
set_option maxRecDepth 100000 in
theorem stanza_Get_calls (A0 : Option Addr) (c0 : Nat) (l : List S49) (n : ByteArray) (w : World) (hr : Kd.C k49 w A0 l.length l) (hl : l.length < 1000000000000) :
    Calls Tryz.prog 79 #[.slice A0 l.length c0, .string n] w fun e w' => e = .returned (.tuple #[.string (getV n l).1, .bool (getV n l).2]) ∧ Below w.heap.size w w' := by
  have HP := Aside0.mk (stanza_place_calls A0 c0 l n w hr hl)
  have HR := Aside0.mk hr
  have hrng := idxP_rng (isF n) l 0
  unfold getV
  obtain ⟨j, hj⟩ : ∃ j, idxP (isF n) l 0 = j := ⟨_, rfl⟩
  rw [hj] at HP hrng ⊢
  clear hr hl hj
  by_cases h0 : j < 0
  · rw [if_pos h0]
    have b1 : decide (j < 0) = true := decide_eq_true h0
    clear hrng h0
    go_enter Tryz.func79, Tryz.ntmps79
    go_wp2_with (go_at_call 138; refine HP.out.mono ?_; rintro e w' ⟨rfl, hb'⟩)
    go_ret2
    exact ⟨rfl, hb'⟩
  · rw [if_neg h0]
    have b1 : decide (j < 0) = false := decide_eq_false h0
    obtain ⟨j, rfl⟩ : ∃ m : Nat, j = (m : Int) := ⟨j.toNat, by omega⟩
    have p0 : (0 : Int) ≤ (j : Int) := by omega
    have p1 : (j : Int) < (l.length : Int) := by omega
    obtain ⟨ad, rfl, _, _⟩ := at_T49 HR.out (j : Int) p0 p1
    clear hrng h0
    go_enter Tryz.func79, Tryz.ntmps79
    go_wp2_with (go_at_call 138; refine HP.out.mono ?_; rintro e w' ⟨rfl, hb'⟩; obtain ⟨ad2, had, hx0, hx1⟩ := at_T49 (Kd.C_below HR.out hb') (j : Int) p0 p1; obtain rfl := Option.some.inj had; simp only [Int.toNat_natCast] at hx0 hx1; have HBB := Aside0.mk hb'; clear hb' had)
    go_ret2
    exact ⟨rfl, HBB.out⟩
end Go.Proofs.YtooomjcdlfdnmaaGreatDoor.PA

namespace Go.Proofs.YtooomjcdlfdnmaaGreatDoor.PA
open Go Go.RowKit Go.Shelf Go.Proofs.YtooomjcdlfdnmaaGreatDoorW.PrintWords
set_option linter.unusedVariables false
set_option maxRecDepth 100000 in
theorem growAtom (n : Int) (h0 : 0 ≤ n) (hn : n ≤ 1000000000) (w : World) :
    Calls Tryz.prog 109 #[.slice none 0 0, .int .i64 n] w fun e w' => ∃ v, e = .returned v ∧ Kd.R k27 27 w' w.heap.size (fun _ => True) v [] ∧ Below w.heap.size w w' := by
  have b1 : decide (n < 0) = false := decide_eq_false (by omega)
  by_cases hz : n = 0
  · subst hz
    go_enter Tryz.func109, Tryz.ntmps109
    go_wp2
    go_ret
    exact ⟨_, rfl, Kd.R_nil _ _ _ _ _, Below.refl _ _⟩
  · have b2 : decide (0 < n) = true := decide_eq_true (by omega)
    go_enter Tryz.func109, Tryz.ntmps109
    go_wp2_with (at_builtin; refine Kd.R_append_zeros k27 (w0 := w) w.heap.size rfl _ _ 23 3 27 _ 40 rfl Tryz.underlying23 Tryz.underlying3 info27 rfl (by decide) (by omega) _ [] z27 n (fun _ => True) rfl rfl (k27_mkM _ _ _ z27) (fun _ _ => trivial) (Kd.R_nil _ _ _ _ _) h0 (Below.refl _ _) (Nat.le_refl _) (by simp; omega) ?_; intro v1 w1 hR hB _ _; obtain ⟨A1, c1, rfl, hc1, _⟩ := Kd.R_reads hR; have HR := Aside0.mk hR; have HB := Aside0.mk hB; clear hR hB)
    go_ret
    exact ⟨_, rfl, Kd.R_take HR.out (m := 0) (Nat.zero_le _), HB.out⟩
set_option maxRecDepth 100000 in
set_option maxHeartbeats 4000000 in
theorem concatAtom (A0 : Option Addr) (c0 : Nat) (l0 : List S27) (A1 : Option Addr) (c1 : Nat) (l1 : List S27) (B : Nat) (w : World)
    (hB0 : w.cell? ⟨B, 0, none⟩ = some (.slice A0 l0.length c0)) (hB1 : w.cell? ⟨B, 1, none⟩ = some (.slice A1 l1.length c1)) (h0 : Kd.C k27 w A0 l0.length l0) (h1 : Kd.C k27 w A1 l1.length l1) (hl0 : l0.length ≤ 100000000) (hl1 : l1.length ≤ 100000000) :
    Calls Tryz.prog 53 #[.slice (some ⟨B, 0, none⟩) 2 2] w fun e w' => ∃ v, e = .returned v ∧ Kd.R k27 27 w' w.heap.size (fun _ => True) v (l0 ++ l1) ∧ Below w.heap.size w w' := by
  have n1 : decide (((l0.length : Nat) : Int) < 0) = false := decide_eq_false (by omega)
  have n2 : decide (((l0.length : Nat) : Int) + ((l1.length : Nat) : Int) < 0) = false := decide_eq_false (by omega)
  have q0 : (0 : Int) ≤ (l0.length : Int) := by omega
  have q1 : (l0.length : Int) ≤ 100000000 := by omega
  have q2 : (0 : Int) ≤ (l1.length : Int) := by omega
  have q3 : (l1.length : Int) ≤ 100000000 := by omega
  have H0 := Aside0.mk h0
  have H1 := Aside0.mk h1
  have L0 := Aside0.mk hl0
  have L1 := Aside0.mk hl1
  have C0 := Aside0.mk hB0
  have C1 := Aside0.mk hB1
  clear h0 h1 hl0 hl1
  go_enter Tryz.func53, Tryz.ntmps53
  go_wp2
  (refine wp_loop_rounds 3 ?_; repeat any_goals (rw [rounds_succ]; go_wp2_with (go_at_call 109; refine (growAtom _ (by omega) (by omega) _).mono ?_; rintro e w1 ⟨v1, rfl, hR, hb⟩; have HR1 := Aside0.mk hR; have HB1 := Aside0.mk hb; have g0 := (hb.cell (World.block_lt_of_cell? _ _ hB0)).trans hB0; have g1 := (hb.cell (World.block_lt_of_cell? _ _ hB1)).trans hB1; clear hR hb)))
  (refine wp_loop_rounds 3 ?_; repeat any_goals (rw [rounds_succ]; go_wp2_with (first
    | (at_builtin; refine Kd.R_append_rows k27 (w0 := w) w.heap.size rfl _ _ 23 27 _ 40 rfl Tryz.underlying23 info27 rfl (by decide) (by omega) v2 l0 l1 A1 l1.length c1 (fun _ => True) (fun _ => False) rfl rfl HR2.out (Kd.C_below H1.out HB2.out) (fun _ _ h => h) (fun _ h => h.elim) (fun _ _ => trivial) HB2.out HB2.out.size (by have := L0.out; have := L1.out; omega) ?_; intro v3 w3 hR hB _ _; have HR3 := Aside0.mk hR; have HB3 := Aside0.mk hB; clear hR hB)
    | (at_builtin; refine Kd.R_append_rows k27 (w0 := w) w.heap.size rfl _ _ 23 27 _ 40 rfl Tryz.underlying23 info27 rfl (by decide) (by omega) v1 [] l0 A0 l0.length c0 (fun _ => True) (fun _ => False) rfl rfl HR1.out (Kd.C_below H0.out HB1.out) (fun _ _ h => h) (fun _ h => h.elim) (fun _ _ => trivial) HB1.out HB1.out.size (by have := L0.out; simp; omega) ?_; intro v2 w2 hR hB _ _; rw [List.nil_append] at hR; have HR2 := Aside0.mk hR; have HB2 := Aside0.mk hB; have k0 := (hB.cell (World.block_lt_of_cell? _ _ hB0)).trans hB0; have k1 := (hB.cell (World.block_lt_of_cell? _ _ hB1)).trans hB1; clear hR hB))))
  go_ret
  exact ⟨_, rfl, HR3.out, HB3.out⟩
end Go.Proofs.YtooomjcdlfdnmaaGreatDoor.PA

namespace Go.Proofs.YtooomjcdlfdnmaaGreatDoor.Ent
open Go Go.RowKit Go.Shelf Go.Proofs.YtooomjcdlfdnmaaGreatDoorW.PrintWords Go.Proofs.YtooomjcdlfdnmaaGreatDoor.PA Go.Proofs.YtooomjcdlfdnmaaGreatDoor.Pure
set_option linter.unusedVariables false
def QB (w : World) (f : Nat) (args : Array Value) (r : Value) : Prop := ∀ W, Below w.heap.size w W → Calls Tryz.prog f args W fun e w' => e = .returned r ∧ Below W.heap.size W w'
theorem QB.at_ {w W : World} {f : Nat} {args : Array Value} {r : Value} (h : QB w f args r) (hb : Below w.heap.size w W) : Calls Tryz.prog f args W fun e w' => e = .returned r ∧ Below w.heap.size w w' :=
  (h W hb).mono (fun e w' ⟨h1, h2⟩ => ⟨h1, hb.trans (h2.mono hb.size)⟩)
theorem QB.later {w W : World} {f : Nat} {args : Array Value} {r : Value} (h : QB w f args r) (hb : Below w.heap.size w W) : QB W f args r := fun W2 hb2 => h W2 (hb.trans (hb2.mono hb.size))
abbrev KA : Kd S27 := k27
abbrev KG : Kd (List S27) := Kd.slice 27 k27
variable {w : World} (hG : GL w)
include hG
theorem qb_name (s : ByteArray) (hs : s.size ≤ 1000000) : QB w 58 #[.string s] (.bool (nameV (bs s))) := fun W hb => by
  obtain ⟨k, hk⟩ := Name_f (bs s) (by rw [bs_len]; omega)
  have := hk k (Nat.le_refl _)
  rw [mk_bs] at this
  exact relation_Name.calls k s _ W (hG.below hb) this
omit hG in
theorem eplain_f (s : Bs) : Ev (fun k => entry_plain.f k (mk s)) (plainV s) := by
  have h := plain_f s
  simp only [relation_plain.f] at h
  simp only [entry_plain.f]
  exact h
theorem qb_plain (s : ByteArray) : QB w 59 #[.string s] (.bool (plainV (bs s))) := fun W hb => by
  obtain ⟨k, hk⟩ := eplain_f (bs s)
  have := hk k (Nat.le_refl _)
  rw [mk_bs] at this
  exact entry_plain.calls k s _ W (hG.below hb) this
theorem qb_dright (A : Option Addr) (c : Nat) (l : List (List S27)) (h : SmL l) (hr : Kd.C KG w A l.length l) (hc : l.length ≤ c) : QB w 60 #[.slice A l.length c] (.bool (rightL l)) := fun W hb => by
  obtain ⟨k, hk⟩ := h.right
  exact depends_Right.calls k A c l _ W (hG.below hb) (Kd.C_below hr hb) hc (hk k (Nat.le_refl _))
theorem qb_dprint (A : Option Addr) (c : Nat) (l : List (List S27)) (h : SmL l) (hr : Kd.C KG w A l.length l) (hc : l.length ≤ c) : QB w 69 #[.slice A l.length c] (.string (mk (printL l))) := fun W hb => by
  obtain ⟨k, hk⟩ := h.print
  exact depends_Print.calls k A c l _ W (hG.below hb) (Kd.C_below hr hb) hc (hk k (Nat.le_refl _))
theorem qb_djoin (A : Option Addr) (c : Nat) (l : List S27) (hl : l.length ≤ 40) (hs : ∀ x ∈ l, smS x) (hr : Kd.C KA w A l.length l) (hc : l.length ≤ c) : QB w 70 #[.slice A l.length c] (.string (mk (printL (ones l)))) := fun W hb => by
  obtain ⟨k, hk⟩ := DJoin_f l hl hs
  exact depends_Join.calls k A c l _ W (hG.below hb) (Kd.C_below hr hb) hc (hk k (Nat.le_refl _))
omit hG in
def givesS (x y : S27) : Bool := givesV (bs x.f0) x.f1 (bs x.f2) (bs y.f0) y.f1 (bs y.f2)
theorem qb_prov (x y : S27) : QB w 113 #[.agg #[.string x.f0, .int .i64 x.f1, .string x.f2], .agg #[.string y.f0, .int .i64 y.f1, .string y.f2]] (.bool (givesS x y)) := fun W hb => by
  obtain ⟨k, hk⟩ := Provides_f (bs x.f0) x.f1 (bs x.f2) (bs y.f0) y.f1 (bs y.f2)
  have := hk k (Nat.le_refl _)
  simp only [mk_bs] at this
  exact relation_Provides.calls k x.f0 x.f1 x.f2 y.f0 y.f1 y.f2 _ W (hG.below hb) this
theorem qb_rright (x : S27) (h : smS x) : QB w 62 #[.agg #[.string x.f0, .int .i64 x.f1, .string x.f2]] (.bool (rightS x)) := fun W hb => by
  obtain ⟨k, hk⟩ := RightS_f x h
  exact relation_Right.calls k x.f0 x.f1 x.f2 _ W (hG.below hb) (hk k (Nat.le_refl _))
omit hG in
def givenB (x : S27) : Bool := decide (x.f1 = 0) || decide (x.f1 = 3)
theorem qb_given (x : S27) : QB w 63 #[.agg #[.string x.f0, .int .i64 x.f1, .string x.f2]] (.bool (givenB x)) := fun W hb => by
  refine entry_given.calls x.f0 x.f1 x.f2 _ W (hG.below hb) ?_
  unfold entry_given.f givenB
  by_cases h : x.f1 = 0
  · rw [if_pos h, decide_eq_true h, Bool.true_or]
  · rw [if_neg h, decide_eq_false h, Bool.false_or]
    rfl
omit hG in
theorem qb_get (A : Option Addr) (c : Nat) (l : List S49) (n : ByteArray) (hr : Kd.C k49 w A l.length l) (hl : l.length < 1000000000000) : QB w 79 #[.slice A l.length c, .string n] (.tuple #[.string (getV n l).1, .bool (getV n l).2]) := fun W hb =>
  stanza_Get_calls A c l n W (Kd.C_below hr hb) hl
end Go.Proofs.YtooomjcdlfdnmaaGreatDoor.Ent

namespace Go.Proofs.YtooomjcdlfdnmaaGreatDoor.Ent
open Go Go.RowKit Go.Shelf Go.Proofs.YtooomjcdlfdnmaaGreatDoorW.PrintWords Go.Proofs.YtooomjcdlfdnmaaGreatDoor.PA Go.Proofs.YtooomjcdlfdnmaaGreatDoor.Pure
set_option linter.unusedVariables false
structure E6 where
  f0 : ByteArray
  f1 : ByteArray
  f2 : List (List S27)
  f3 : List (List S27)
  f4 : List S27
  f5 : List S27
structure EA where
  A2 : Option Addr
  c2 : Nat
  A3 : Option Addr
  c3 : Nat
  A4 : Option Addr
  c4 : Nat
  A5 : Option Addr
  c5 : Nat
abbrev ecs (e : E6) (a : EA) : Array Value := #[.string e.f0, .string e.f1, .slice a.A2 e.f2.length a.c2, .slice a.A3 e.f3.length a.c3, .slice a.A4 e.f4.length a.c4, .slice a.A5 e.f5.length a.c5]
structure EC (w : World) (e : E6) (a : EA) : Prop where
  r2 : Kd.C KG w a.A2 e.f2.length e.f2
  k2 : e.f2.length ≤ a.c2
  r3 : Kd.C KG w a.A3 e.f3.length e.f3
  k3 : e.f3.length ≤ a.c3
  r4 : Kd.C KA w a.A4 e.f4.length e.f4
  k4 : e.f4.length ≤ a.c4
  r5 : Kd.C KA w a.A5 e.f5.length e.f5
  k5 : e.f5.length ≤ a.c5
theorem EC.below {w W : World} {e : E6} {a : EA} (h : EC w e a) (hb : Below w.heap.size w W) : EC W e a :=
  ⟨Kd.C_below h.r2 hb, h.k2, Kd.C_below h.r3 hb, h.k3, Kd.C_below h.r4 hb, h.k4, Kd.C_below h.r5 hb, h.k5⟩
structure SmE (e : E6) : Prop where
  s0 : e.f0.size ≤ 2000
  s1 : e.f1.size ≤ 2000
  s2 : SmL e.f2
  s3 : SmL e.f3
  l4 : e.f4.length ≤ 40
  s4 : ∀ x ∈ e.f4, smS x
  l5 : e.f5.length ≤ 40
  s5 : ∀ x ∈ e.f5, smS x
theorem qap {W : World} {D : Nat} {T : TypeId} {e : E6} {a : EA} (h : W.heap[D]? = some (.cells (ecs e a) T (0, 0))) :
    W.cell? ⟨D, 0, none⟩ = some (.string e.f0) ∧ W.cell? ⟨D, 1, none⟩ = some (.string e.f1) ∧ W.cell? ⟨D, 2, none⟩ = some (.slice a.A2 e.f2.length a.c2) ∧ W.cell? ⟨D, 3, none⟩ = some (.slice a.A3 e.f3.length a.c3) ∧ W.cell? ⟨D, 4, none⟩ = some (.slice a.A4 e.f4.length a.c4) ∧ W.cell? ⟨D, 5, none⟩ = some (.slice a.A5 e.f5.length a.c5) := by
  refine ⟨?_, ?_, ?_, ?_, ?_, ?_⟩ <;> simp [World.cell?, h]
def givesE (e : E6) : List S27 := ⟨e.f0, 3, e.f1⟩ :: e.f5
theorem C_single {W : World} {b : Nat} {ty : TypeId} {x : S27} (hb : W.heap[b]? = some (.cells #[.string x.f0, .int .i64 x.f1, .string x.f2] ty (0, 0))) : KA.C W (some ⟨b, 0, none⟩) 1 [x] := by
  refine ⟨rfl, by omega, fun _ => ⟨⟨b, 0, none⟩, rfl, fun j p hj => ?_⟩⟩
  match j, hj with
  | 0, hj =>
    obtain rfl : x = p := by simpa using hj
    refine ⟨_, rfl, k27_mk W x, fun i u hi => ?_⟩
    rw [Addr.add_lit, Nat.zero_mul, Nat.zero_add, Nat.zero_add]
    have hi : #[Value.string x.f0, .int .i64 x.f1, .string x.f2][i]? = some u := by simpa using hi
    simp only [World.cell?, hb]
    exact hi
set_option maxRecDepth 100000 in
theorem gives_calls {w : World} {e : E6} {a : EA} (h : EC w e a) (hl : e.f5.length ≤ 100000000) :
    Calls Tryz.prog 16 #[.agg (ecs e a)] w fun en w' => ∃ v, en = .returned v ∧ Kd.R KA 27 w' w.heap.size (fun _ => True) v (givesE e) ∧ Below w.heap.size w w' := by
  obtain ⟨W, hW⟩ : ∃ W, ((w.alloc (.cells (ecs e a) 25)).alloc (.cells #[.string e.f0, .int .i64 3, .string e.f1] 27)).alloc (.cells #[.slice (some ⟨w.heap.size + 1, 0, none⟩) 1 1, .slice a.A5 e.f5.length a.c5] 23) = W := ⟨_, rfl⟩
  have hb : Below w.heap.size w W := by rw [← hW]; exact qab (qab (qab (Below.refl _ _) _) _) _
  have e1 : (w.alloc (.cells (ecs e a) 25)).heap.size = w.heap.size + 1 := by simp
  have e2 : ((w.alloc (.cells (ecs e a) 25)).alloc (.cells #[.string e.f0, .int .i64 3, .string e.f1] 27)).heap.size = w.heap.size + 2 := by simp
  have g1 : W.heap[w.heap.size + 1]? = some (.cells #[.string e.f0, .int .i64 3, .string e.f1] 27 (0, 0)) := by
    rw [← hW]
    refine (Below.heap_alloc _ _ _ (by rw [e2]; omega)).trans ?_
    have := World.alloc_heap_new (w.alloc (.cells (ecs e a) 25)) (.cells #[.string e.f0, .int .i64 3, .string e.f1] 27)
    rwa [e1] at this
  have g2 : W.heap[w.heap.size + 2]? = some (.cells #[.slice (some ⟨w.heap.size + 1, 0, none⟩) 1 1, .slice a.A5 e.f5.length a.c5] 23 (0, 0)) := by
    rw [← hW]
    have := World.alloc_heap_new ((w.alloc (.cells (ecs e a) 25)).alloc (.cells #[.string e.f0, .int .i64 3, .string e.f1] 27)) (.cells #[.slice (some ⟨w.heap.size + 1, 0, none⟩) 1 1, .slice a.A5 e.f5.length a.c5] 23)
    rwa [e2] at this
  have hc := concatAtom (some ⟨w.heap.size + 1, 0, none⟩) 1 [⟨e.f0, 3, e.f1⟩] a.A5 a.c5 e.f5 (w.heap.size + 2) W (by simp [World.cell?, g2]) (by simp [World.cell?, g2]) (C_single (x := ⟨e.f0, 3, e.f1⟩) g1) (Kd.C_below h.r5 hb) (by simp) hl
  have HC := Aside0.mk hc
  have HB := Aside0.mk hb
  clear h hl hb e1 e2 g1 g2 hc
  go_enter Tryz.func16, Tryz.ntmps16
  go_wp2_with (go_at_call 53; refine HC.out.mono ?_; rintro en w' ⟨v, rfl, hR, hb'⟩)
  go_ret
  exact ⟨_, rfl, Kd.R_lower hR HB.out.size, HB.out.trans (hb'.mono HB.out.size)⟩
theorem against11_pred {w : World} (hG : GL w) (x : S27) (D : Nat) (h0 : w.cell? ⟨D, 0, none⟩ = some (.string x.f0)) (h1 : w.cell? ⟨D, 1, none⟩ = some (.int .i64 x.f1)) (h2 : w.cell? ⟨D, 2, none⟩ = some (.string x.f2)) (l : List S27) :
    PredP KA (givesS x) 112 #[.pointer (some ⟨D, 0, none⟩)] w l := by
  intro W y cs hb _ hK
  obtain rfl := k27_open hK
  have g0 := (hb.cell (World.block_lt_of_cell? _ _ h0)).trans h0
  have g1 := (hb.cell (World.block_lt_of_cell? _ _ h1)).trans h1
  have g2 := (hb.cell (World.block_lt_of_cell? _ _ h2)).trans h2
  have hDW : D < W.heap.size := World.block_lt_of_cell? _ _ g0
  have hne : D ≠ W.heap.size := by omega
  have HP := Aside0.mk (qb_prov hG x y)
  clear hK h0 h1 h2
  show Calls Tryz.prog 112 #[.agg #[.string y.f0, .int .i64 y.f1, .string y.f2], .pointer (some ⟨D, 0, none⟩)] W _
  go_enter Tryz.func112, Tryz.ntmps112
  go_wp2_with (go_at_call 113; refine (HP.out.at_ (qab hb _)).mono ?_; rintro e w' ⟨rfl, hb'⟩)
  go_ret
  exact ⟨rfl, hb'⟩
theorem against1_pred {w : World} (hG : GL w) (A1 : Option Addr) (c1 : Nat) (g : List S27) (D : Nat) (hD : w.cell? ⟨D, 0, none⟩ = some (.slice A1 g.length c1)) (hC : Kd.C KA w A1 g.length g) (hl : g.length < 1000000000000) (l : List S27) :
    PredP KA (fun x => g.any (givesS x)) 111 #[.pointer (some ⟨D, 0, none⟩)] w l := by
  intro W x cs hb _ hK
  obtain rfl := k27_open hK
  have gD := (hb.cell (World.block_lt_of_cell? _ _ hD)).trans hD
  have hDW : D < W.heap.size := World.block_lt_of_cell? _ _ gD
  have hne : D ≠ W.heap.size := by omega
  obtain ⟨W1, hW1⟩ : ∃ W1, W.alloc (.cells #[.string x.f0, .int .i64 x.f1, .string x.f2] 27) = W1 := ⟨_, rfl⟩
  have hb1 : Below w.heap.size w W1 := by rw [← hW1]; exact qab hb _
  have hbW : Below W.heap.size W W1 := by rw [← hW1]; exact qab (Below.refl _ _) _
  have x0 : W1.cell? ⟨W.heap.size, 0, none⟩ = some (.string x.f0) := by rw [← hW1, World.cell?_alloc_new]; rfl
  have x1 : W1.cell? ⟨W.heap.size, 1, none⟩ = some (.int .i64 x.f1) := by rw [← hW1, World.cell?_alloc_new]; rfl
  have x2 : W1.cell? ⟨W.heap.size, 2, none⟩ = some (.string x.f2) := by rw [← hW1, World.cell?_alloc_new]; rfl
  have gD1 : W1.cell? ⟨D, 0, none⟩ = some (.slice A1 g.length c1) := (hbW.cell hDW).trans gD
  have HC := Aside0.mk (containsAtom (givesS x) 112 #[.pointer (some ⟨W.heap.size, 0, none⟩)] (enters_of Tryz.func112 (by kernel_rfl) rfl) W1 A1 c1 g (against11_pred (hG.below hb1) x W.heap.size x0 x1 x2 g) (Kd.C_below hC hb1) hl)
  have HB := Aside0.mk hb1
  have HBW := Aside0.mk hbW
  clear hK hC x0 x1 x2 hD gD hb hb1 hbW
  show Calls Tryz.prog 111 #[.agg #[.string x.f0, .int .i64 x.f1, .string x.f2], .pointer (some ⟨D, 0, none⟩)] W _
  go_enter Tryz.func111, Tryz.ntmps111
  go_wp2_with (go_at_call 110; refine HC.out.mono ?_; rintro e w' ⟨rfl, hb'⟩)
  go_ret
  exact ⟨rfl, HB.out.trans (hb'.mono HB.out.size)⟩
def againstE (a b : E6) : Bool := a.f4.any (fun x => (givesE b).any (givesS x))
theorem against_step {w W w1 W2 : World} (hG : GL w) {a b : E6} {p : EA} (z0 : W.heap[w.heap.size]? = some (.cells (ecs a p) 25 (0, 0))) (hBW : Below w.heap.size w W) (ha : EC w a p) (la : a.f4.length ≤ 100000000) (lb : b.f5.length ≤ 100000000)
    {A1 : Option Addr} {c1 : Nat} (hC1 : KA.C w1 A1 (givesE b).length (givesE b)) (hb1 : Below W.heap.size W w1) (hW2 : w1.alloc (.cells #[.slice A1 (givesE b).length c1] 23) = W2) :
    W2.cell? ⟨w.heap.size, 4, none⟩ = some (.slice p.A4 a.f4.length p.c4) ∧ Calls Tryz.prog 110 #[.slice p.A4 a.f4.length p.c4, .func (.func 111) #[] #[.pointer (some ⟨w1.heap.size, 0, none⟩)]] W2 fun e w' => e = .returned (.bool (againstE a b)) ∧ Below w.heap.size w w' := by
  have hbw1 : Below w.heap.size w w1 := hBW.trans (hb1.mono hBW.size)
  have hb12 : Below w1.heap.size w1 W2 := by rw [← hW2]; exact qab (Below.refl _ _) _
  have hbw2 : Below w.heap.size w W2 := hbw1.trans (hb12.mono hbw1.size)
  have z1 : W2.heap[w.heap.size]? = some (.cells (ecs a p) 25 (0, 0)) := by
    have hlt := (Array.getElem?_eq_some_iff.1 z0).1
    exact ((hb12.block _ (Nat.lt_of_lt_of_le hlt hb1.size)).trans (hb1.block _ hlt)).trans z0
  have hD : W2.cell? ⟨w1.heap.size, 0, none⟩ = some (.slice A1 (givesE b).length c1) := by rw [← hW2, World.cell?_alloc_new]; rfl
  have hl : (givesE b).length < 1000000000000 := by unfold givesE; rw [List.length_cons]; omega
  refine ⟨(qap z1).2.2.2.2.1, (containsAtom (fun x => (givesE b).any (givesS x)) 111 #[.pointer (some ⟨w1.heap.size, 0, none⟩)] (enters_of Tryz.func111 (by kernel_rfl) rfl) W2 p.A4 p.c4 a.f4
    (against1_pred (hG.below hbw2) A1 c1 (givesE b) w1.heap.size hD (Kd.C_below hC1 hb12) hl a.f4) (Kd.C_below ha.r4 hbw2) (by omega)).mono ?_⟩
  exact fun e w' ⟨h1, h2⟩ => ⟨h1, hbw2.trans (h2.mono hbw2.size)⟩
set_option maxRecDepth 100000 in
theorem against_calls {w : World} (hG : GL w) {a b : E6} {p q : EA} (ha : EC w a p) (hb : EC w b q) (la : a.f4.length ≤ 100000000) (lb : b.f5.length ≤ 100000000) :
    Calls Tryz.prog 54 #[.agg (ecs a p), .agg (ecs b q)] w fun en w' => en = .returned (.bool (againstE a b)) ∧ Below w.heap.size w w' := by
  obtain ⟨W, hW⟩ : ∃ W, (w.alloc (.cells (ecs a p) 25)).alloc (.cells (ecs b q) 25) = W := ⟨_, rfl⟩
  have hbW : Below w.heap.size w W := by rw [← hW]; exact qab (qab (Below.refl _ _) _) _
  have HE := Aside0.mk (gives_calls (hb.below hbW) lb)
  have HBW := Aside0.mk hbW
  have HA := Aside0.mk ha
  have LA := Aside0.mk la
  have LB := Aside0.mk lb
  have e1 : (w.alloc (.cells (ecs a p) 25)).heap.size = w.heap.size + 1 := by simp
  have z0 : W.heap[w.heap.size]? = some (.cells (ecs a p) 25 (0, 0)) := by rw [← hW]; exact (Below.heap_alloc _ _ _ (by rw [e1]; omega)).trans (World.alloc_heap_new w _)
  have z1 : W.heap[w.heap.size + 1]? = some (.cells (ecs b q) 25 (0, 0)) := by
    rw [← hW]
    have := World.alloc_heap_new (w.alloc (.cells (ecs a p) 25)) (.cells (ecs b q) 25)
    rwa [e1] at this
  obtain ⟨y0, y1, y2, y3, y4, y5⟩ := qap z1
  have hz1 : W.heap.size = w.heap.size + 2 := by rw [← hW]; simp
  have Z0 := Aside0.mk z0
  have HZ1 := Aside0.mk hz1
  clear ha hb la lb hbW e1 z0 z1 hz1
  go_enter Tryz.func54, Tryz.ntmps54
  go_wp2_with (first
    | (go_at_call 110; refine HS.out.mono ?_; rintro en w3 ⟨rfl, hb3⟩)
    | (go_at_call 16; refine HE.out.mono ?_; rintro en w1 ⟨v, rfl, hR, hb1⟩; obtain ⟨A1, c1, rfl, hc1, hC1⟩ := Kd.R_reads hR; obtain ⟨W2, hW2⟩ : ∃ W2, w1.alloc (.cells #[.slice A1 (givesE b).length c1] 23) = W2 := ⟨_, rfl⟩; obtain ⟨x4, hS⟩ := against_step hG Z0.out HBW.out HA.out LA.out LB.out hC1 hb1 hW2; have HS := Aside0.mk hS; clear hR hb1 hc1 hC1 y0 y1 y2 y3 y4 y5 hS))
  go_ret
  exact ⟨rfl, hb3⟩
end Go.Proofs.YtooomjcdlfdnmaaGreatDoor.Ent

