import Derived.Test.YtiidmjmkgjfaeaaGreatDoorShelf
import Derived.Test.YtiidmjmkgjfaeaaGreatDoorWWords
import Derived.Below
import Derived.Lib.AppendIntMem
import Derived.Handy
namespace Go.Proofs
open Go.RowKit Go.Proofs.YtiidmjmkgjfaeaaGreatDoorW.PrintWords
structure GL (w : World) : Prop where
  size : 6 ≤ w.heap.size
  maxLen : ∃ m, w.cell? ⟨0, 0, none⟩ = some (.int .i64 m)
  pow10 : Lib.TabIs Tryz.prog w "internal/strconv.uint64pow10" .u64 Lib.pow10Tab
  errSyntax : ∃ tp p, w.var? Tryz.prog "strconv.ErrSyntax" = some #[.iface tp p]
  errRange : ∃ tp p, w.var? Tryz.prog "strconv.ErrRange" = some #[.iface tp p]
theorem GL.pow10_named : Tryz.prog.globalNamed "internal/strconv.uint64pow10" = some 5 := by kernel_rfl
theorem GL.errSyntax_named : Tryz.prog.globalNamed "strconv.ErrSyntax" = some 1 := by kernel_rfl
theorem GL.errRange_named : Tryz.prog.globalNamed "strconv.ErrRange" = some 2 := by kernel_rfl
theorem var_below {P : Program} {w w' : World} {name : String} {g : Nat} {B : Nat} (hb : Below B w w') (hn : P.globalNamed name = some g) (hg : g < B) :
    w'.var? P name = w.var? P name := by
  unfold World.var?
  rw [hn]
  simp only [Option.bind_some]
  rw [hb.block g hg]
theorem GL.below' {w w' : World} {B : Nat} (h : GL w) (hB : 6 ≤ B) (hb : Below B w w') : GL w' := by
  refine ⟨Nat.le_trans h.size hb.size, ?_, ?_, ?_, ?_⟩
  · obtain ⟨m, hm⟩ := h.maxLen
    exact ⟨m, (hb.cell (p := ⟨0, 0, none⟩) (Nat.lt_of_lt_of_le (by decide) hB)).trans hm⟩
  · have := h.pow10
    unfold Lib.TabIs at *
    rw [var_below hb GL.pow10_named (Nat.lt_of_lt_of_le (by decide) hB)]
    exact this
  · rw [var_below hb GL.errSyntax_named (Nat.lt_of_lt_of_le (by decide) hB)]
    exact h.errSyntax
  · rw [var_below hb GL.errRange_named (Nat.lt_of_lt_of_le (by decide) hB)]
    exact h.errRange
theorem GL.below {w w' : World} (h : GL w) (hb : Below w.heap.size w w') : GL w' := h.below' h.size hb
theorem GL.drewN {w : World} (h : GL w) (n : Nat) : GL (w.drewN n) := h.below (Drawn0.below ⟨⟨n, rfl⟩⟩)
theorem GL.drew {w : World} (h : GL w) : GL w.drew := h.drewN 1
theorem bytesLess_flip : ∀ a b : List UInt8, (!(Op.bytesLess a b || a == b)) = Op.bytesLess b a
  | [], [] => by simp [Op.bytesLess]
  | [], _ :: _ => by simp [Op.bytesLess]
  | _ :: _, [] => by simp [Op.bytesLess]
  | x :: a, y :: b => by
    have ih := bytesLess_flip a b
    simp only [Op.bytesLess]
    by_cases h1 : x < y
    · have h2 : ¬ y < x := by simp [UInt8.lt_iff_toNat_lt] at *; omega
      have h3 : (y == x) = false := by simp; rintro rfl; exact h2 h1
      simp [h1, h2, h3]
    · by_cases h2 : y < x
      · have h3 : (x == y) = false := by simp; rintro rfl; exact h1 h2
        simp [h1, h2, h3]
      · have h3 : x = y := UInt8.toNat_inj.mp (by simp [UInt8.lt_iff_toNat_lt] at *; omega)
        subst h3
        simp [h1, ← ih]
theorem str_gtr (t : TypeId) (a b : ByteArray) : binOp .gtr t (.string a) (.string b) = pure (.bool (Op.bytesLess b.toList a.toList)) := by
  rw [← bytesLess_flip]; rfl
theorem str_leq (t : TypeId) (a b : ByteArray) : binOp .leq t (.string a) (.string b) = pure (.bool !(Op.bytesLess b.toList a.toList)) := by
  rw [← bytesLess_flip]; simp [binOp, Op.stringOp]
theorem str_geq (t : TypeId) (a b : ByteArray) : binOp .geq t (.string a) (.string b) = pure (.bool !(Op.bytesLess a.toList b.toList)) := rfl
attribute [go_sem] str_gtr str_leq str_geq
theorem size_of_lit (a : Array UInt8) : (ByteArray.mk a).size = a.size := rfl
theorem qam (l : List UInt8) : l.isEmpty = !(l != []) := by cases l <;> rfl
namespace YtiidmjmkgjfaeaaGreatDoor.PA
def strings_IndexByte.f (a0 : ByteArray) (a1 : Int) : Option Int := some (Lib.indexByte a0.data.toList a1.toNat.toUInt8)
theorem strings_IndexByte.calls (a0 : ByteArray) (a1 : Int) (r : Int) (w : World) (_hG : GL w) (h : strings_IndexByte.f a0 a1 = some r) :
    Calls Tryz.prog 105 #[.string a0, .int .u8 a1] w fun e w' => e = .returned (.int .i64 r) ∧ Drawn0 w w' := by
  refine (Tryz.strings_IndexByte a0 a1 w).mono ?_
  rintro e w' ⟨rfl, rfl⟩
  refine ⟨?_, Drawn0.refl _⟩
  rw [← Option.some.inj h]
def strings_LastIndexByte.f (a0 : ByteArray) (a1 : Int) : Option Int := if a0.size < 4611686018427387904 then some (Lib.lastIndexByte a0 a1) else none
theorem strings_LastIndexByte.calls (a0 : ByteArray) (a1 : Int) (r : Int) (w : World) (_hG : GL w) (h : strings_LastIndexByte.f a0 a1 = some r) :
    Calls Tryz.prog 126 #[.string a0, .int .u8 a1] w fun e w' => e = .returned (.int .i64 r) ∧ Drawn0 w w' := by
  unfold strings_LastIndexByte.f at h
  split at h
  · rename_i hs
    refine (Tryz.strings_LastIndexByte a0 a1 hs w).mono ?_
    rintro e w' ⟨rfl, rfl⟩
    refine ⟨?_, Drawn0.refl _⟩
    rw [← Option.some.inj h]
  · exact absurd h (by simp)
def strings_TrimLeft.f (a0 : ByteArray) (a1 : ByteArray) : Option ByteArray :=
  match a1.data.toList with
  | [c] => if c.toNat < 128 then some ⟨(Lib.trimLeftB a0.data.toList c).toArray⟩ else none
  | _ => none
theorem strings_TrimLeft.calls (a0 : ByteArray) (a1 : ByteArray) (r : ByteArray) (w : World) (_hG : GL w) (h : strings_TrimLeft.f a0 a1 = some r) :
    Calls Tryz.prog 194 #[.string a0, .string a1] w fun e w' => e = .returned (.string r) ∧ Drawn0 w w' := by
  unfold strings_TrimLeft.f at h
  split at h
  · rename_i c hc
    split at h
    · rename_i h1
      have ha : a1 = ⟨#[c]⟩ := by
        cases a1 with
        | mk d => exact congrArg ByteArray.mk (Array.toList_inj.mp hc)
      rw [ha]
      refine (Tryz.strings_TrimLeft_one a0 c h1 w).mono ?_
      rintro e w' ⟨rfl, rfl⟩
      refine ⟨?_, Drawn0.refl _⟩
      rw [← Option.some.inj h]
    · exact absurd h (by simp)
  · exact absurd h (by simp)
def strings_Cut.f (a0 : ByteArray) (a1 : ByteArray) : Option (ByteArray × ByteArray × Bool) :=
  if a0.size < 4294967281 then some (⟨(Lib.cut a0.data.toList a1.data.toList).1.toArray⟩, ⟨(Lib.cut a0.data.toList a1.data.toList).2.1.toArray⟩, (Lib.cut a0.data.toList a1.data.toList).2.2) else none
theorem strings_Cut.calls (a0 : ByteArray) (a1 : ByteArray) (r1 : ByteArray) (r2 : ByteArray) (r3 : Bool) (w : World) (hG : GL w) (h : strings_Cut.f a0 a1 = some (r1, r2, r3)) :
    Calls Tryz.prog 123 #[.string a0, .string a1] w fun e w' => e = .returned (.tuple #[.string r1, .string r2, .bool r3]) ∧ Drawn0 w w' := by
  unfold strings_Cut.f at h
  split at h
  · rename_i hs
    obtain ⟨m, hm⟩ := hG.maxLen
    refine (Tryz.strings_Cut a0 a1 m w hs hm).mono ?_
    rintro e w' ⟨rfl, n, rfl⟩
    have h := Option.some.inj h
    simp only [Prod.mk.injEq] at h
    obtain ⟨h1, h2, h3⟩ := h
    exact ⟨by rw [h1, h2, h3], ⟨n, rfl⟩⟩
  · exact absurd h (by simp)
def strconv_Itoa.f (a0 : Int) : Option ByteArray := if -9223372036854775808 ≤ a0 ∧ a0 ≤ 9223372036854775807 then some ⟨(Lib.itoa a0).toArray⟩ else none
theorem strconv_Itoa.calls (a0 : Int) (r : ByteArray) (w : World) (hG : GL w) (h : strconv_Itoa.f a0 = some r) :
    Calls Tryz.prog 125 #[.int .i64 a0] w fun e w' => e = .returned (.string r) ∧ Below w.heap.size w w' := by
  unfold strconv_Itoa.f at h
  split at h
  · rename_i hs
    refine (Tryz.strconv_Itoa a0 hs.1 hs.2 w hG.pow10).mono ?_
    rintro e w' ⟨rfl, n, os, rfl⟩
    refine ⟨by rw [← Option.some.inj h], ?_⟩
    exact Lib.below_grow _ w (Nat.le_refl _) n os
  · exact absurd h (by simp)
theorem relation_signs (w : World) : Calls Tryz.prog 173 #[] w fun e w' =>
    e = .returned (.agg #[.string ⟨#[]⟩, .string ⟨#[60, 60]⟩, .string ⟨#[60, 61]⟩, .string ⟨#[61]⟩, .string ⟨#[62, 61]⟩, .string ⟨#[62, 62]⟩]) ∧ Below w.heap.size w w' := by
  go_enter Tryz.func173, Tryz.ntmps173
  go_wp2
  exact bodyPost_ret (v := .agg #[.string ⟨#[]⟩, .string ⟨#[60, 60]⟩, .string ⟨#[60, 61]⟩, .string ⟨#[61]⟩, .string ⟨#[62, 61]⟩, .string ⟨#[62, 62]⟩]) (by simp [results, Tryz.results173, go_sem]) rfl ⟨rfl, (Below.refl _ _).alloc (Nat.le_refl _) _⟩
theorem sign_at0 (w : World) : (Instr.index 158 (.agg #[.string ⟨#[]⟩, .string ⟨#[60, 60]⟩, .string ⟨#[60, 61]⟩, .string ⟨#[61]⟩, .string ⟨#[62, 61]⟩, .string ⟨#[62, 62]⟩]) (.int .i64 0)).run Tryz.prog w = .ok (.string ⟨#[]⟩) w := by kernel_rfl
theorem sign_at1 (w : World) : (Instr.index 158 (.agg #[.string ⟨#[]⟩, .string ⟨#[60, 60]⟩, .string ⟨#[60, 61]⟩, .string ⟨#[61]⟩, .string ⟨#[62, 61]⟩, .string ⟨#[62, 62]⟩]) (.int .i64 1)).run Tryz.prog w = .ok (.string ⟨#[60, 60]⟩) w := by kernel_rfl
theorem sign_at2 (w : World) : (Instr.index 158 (.agg #[.string ⟨#[]⟩, .string ⟨#[60, 60]⟩, .string ⟨#[60, 61]⟩, .string ⟨#[61]⟩, .string ⟨#[62, 61]⟩, .string ⟨#[62, 62]⟩]) (.int .i64 2)).run Tryz.prog w = .ok (.string ⟨#[60, 61]⟩) w := by kernel_rfl
theorem sign_at3 (w : World) : (Instr.index 158 (.agg #[.string ⟨#[]⟩, .string ⟨#[60, 60]⟩, .string ⟨#[60, 61]⟩, .string ⟨#[61]⟩, .string ⟨#[62, 61]⟩, .string ⟨#[62, 62]⟩]) (.int .i64 3)).run Tryz.prog w = .ok (.string ⟨#[61]⟩) w := by kernel_rfl
theorem sign_at4 (w : World) : (Instr.index 158 (.agg #[.string ⟨#[]⟩, .string ⟨#[60, 60]⟩, .string ⟨#[60, 61]⟩, .string ⟨#[61]⟩, .string ⟨#[62, 61]⟩, .string ⟨#[62, 62]⟩]) (.int .i64 4)).run Tryz.prog w = .ok (.string ⟨#[62, 61]⟩) w := by kernel_rfl
theorem sign_at5 (w : World) : (Instr.index 158 (.agg #[.string ⟨#[]⟩, .string ⟨#[60, 60]⟩, .string ⟨#[60, 61]⟩, .string ⟨#[61]⟩, .string ⟨#[62, 61]⟩, .string ⟨#[62, 62]⟩]) (.int .i64 5)).run Tryz.prog w = .ok (.string ⟨#[62, 62]⟩) w := by kernel_rfl
def signAt (a0 : Int) : ByteArray := if a0 = 1 then ⟨#[60, 60]⟩ else if a0 = 2 then ⟨#[60, 61]⟩ else if a0 = 3 then ⟨#[61]⟩ else if a0 = 4 then ⟨#[62, 61]⟩ else if a0 = 5 then ⟨#[62, 62]⟩ else ⟨#[]⟩
def relation_Sign.f (a0 : Int) : Option ByteArray := some (signAt a0)
set_option maxRecDepth 100000 in
theorem relation_Sign.calls (a0 : Int) (r : ByteArray) (w : World) (_hG : GL w) (h : relation_Sign.f a0 = some r) :
    Calls Tryz.prog 143 #[.int .i64 a0] w fun e w' => e = .returned (.string r) ∧ Below w.heap.size w w' := by
  have h := Option.some.inj h
  by_cases h0 : a0 < 0
  · have hr : r = ⟨#[]⟩ := by rw [← h]; unfold signAt; (repeat' split) <;> first | omega | rfl
    subst hr
    clear h
    have h0b : decide (a0 < 0) = true := by simpa using h0
    go_enter Tryz.func143, Tryz.ntmps143
    go_wp2
    go_ret
    exact ⟨rfl, Below.refl _ _⟩
  · have h0b : decide (a0 < 0) = false := by simpa using h0
    by_cases h5 : 5 < a0
    · have hr : r = ⟨#[]⟩ := by rw [← h]; unfold signAt; (repeat' split) <;> first | omega | rfl
      subst hr
      clear h
      have h5b : decide (5 < a0) = true := by simpa using h5
      go_enter Tryz.func143, Tryz.ntmps143
      go_wp2
      go_ret
      exact ⟨rfl, Below.refl _ _⟩
    · have hc : a0 = 0 ∨ a0 = 1 ∨ a0 = 2 ∨ a0 = 3 ∨ a0 = 4 ∨ a0 = 5 := by omega
      clear h0b h0 h5
      subst h
      have i0 := sign_at0
      have i1 := sign_at1
      have i2 := sign_at2
      have i3 := sign_at3
      have i4 := sign_at4
      have i5 := sign_at5
      rcases hc with rfl | rfl | rfl | rfl | rfl | rfl
      all_goals
        go_enter Tryz.func143, Tryz.ntmps143
        go_wp2_with (go_at_call 173; refine (relation_signs _).mono ?_; rintro e w1 ⟨rfl, hb⟩)
        go_ret
        exact ⟨rfl, by assumption⟩
def errE : Option Int → Value
  | none => .nilIface
  | some c => .iface 171 (.pointer (some ⟨c.toNat, 0, none⟩))
theorem errE_none : errE none = .nilIface := rfl
theorem errE_some (c : Int) : errE (some c) = .iface 171 (.pointer (some ⟨c.toNat, 0, none⟩)) := rfl
def strconv_Atoi.f (a0 : ByteArray) : Option (Int × Option Int) :=
  if a0.size ≤ 281474976710656 then
    match Lib.atoiAll a0.data.toList with
    | .ok v => some (v, none)
    | .range => some (Lib.atoiSat a0.data.toList, some 0)
    | _ => some (0, some 0)
  else none
theorem strconv_Atoi.calls (a0 : ByteArray) (r1 : Int) (r2 : Option Int) (w : World) (hG : GL w) (h : strconv_Atoi.f a0 = some (r1, r2)) :
    Calls Tryz.prog 124 #[.string a0] w fun e w' => ∃ c_ : Int, e = .returned (.tuple #[.int .i64 r1, errE (r2.map fun _ => c_)]) ∧ Below w.heap.size w w' := by
  unfold strconv_Atoi.f at h
  split at h
  · rename_i hs
    rcases hv : Lib.atoiAll a0.data.toList with v | _ | _
    · rw [hv] at h
      have h := Option.some.inj h
      simp only [Prod.mk.injEq] at h
      obtain ⟨rfl, rfl⟩ := h
      refine (Any.strconv_Atoi_ok Tryz.laysC172 a0 (by omega) v hv w).mono ?_
      rintro e w' ⟨rfl, hw⟩
      refine ⟨0, rfl, ?_⟩
      rcases hw with rfl | ⟨t, rfl⟩
      · exact Below.refl _ _
      · exact Lib.bytesWorld_below _ _ _
    · rw [hv] at h
      have h := Option.some.inj h
      simp only [Prod.mk.injEq] at h
      obtain ⟨rfl, rfl⟩ := h
      obtain ⟨tp, p, hp⟩ := hG.errSyntax
      refine (Any.strconv_Atoi_syntax_var Tryz.laysC172 a0 hs hv tp p w hp).mono ?_
      rintro e w' ⟨N, rfl, _, _, hb⟩
      exact ⟨N, rfl, hb⟩
    · rw [hv] at h
      have h := Option.some.inj h
      simp only [Prod.mk.injEq] at h
      obtain ⟨rfl, rfl⟩ := h
      obtain ⟨tp, p, hp⟩ := hG.errRange
      refine (Any.strconv_Atoi_range_var Tryz.laysC172 a0 hs hv tp p w hp).mono ?_
      rintro e w' ⟨N, rfl, _, _, hb⟩
      exact ⟨N, rfl, hb⟩
  · exact absurd h (by simp)
def strings_Join.f (l0 : List ByteArray) (a1 : ByteArray) : Option ByteArray :=
  if (Lib.join (l0.map (·.data.toList)) a1.data.toList).length ≤ 140737488355328 then if l0.length ≤ 140737488355328 then some ⟨(Lib.join (l0.map (·.data.toList)) a1.data.toList).toArray⟩ else none else none
theorem strings_Join.calls (A0 : Option Addr) (c0 : Nat) (l0 : List ByteArray) (a1 : ByteArray) (r : ByteArray) (w : World) (_hG : GL w) (hr0 : Kd.C Kd.string w A0 l0.length l0) (hc0 : l0.length ≤ c0) (h : strings_Join.f l0 a1 = some r) :
    Calls Tryz.prog 113 #[.slice A0 l0.length c0, .string a1] w fun e w' => e = .returned (.string r) ∧ Below w.heap.size w w' := by
  unfold strings_Join.f at h
  split at h
  · rename_i h1
    split at h
    · rename_i h2
      rw [← Option.some.inj h]
      by_cases h0 : 0 < l0.length
      · obtain ⟨ad, rfl, hc⟩ := hr0.2.2 h0
        have hcell : ∀ j x, l0[j]? = some x → w.cell? (ad.add j) = some (.string x) := fun j x hj => by
          obtain ⟨c, _, hK, hcc⟩ := hc j x hj
          have hK : c = [.string x] := hK
          subst hK
          have := hcc 0 _ rfl
          have e : j * Kd.string.sz + 0 = j := Nat.mul_one j
          rwa [e] at this
        obtain ⟨x0, hx0⟩ : ∃ x, l0[0]? = some x := ⟨_, List.getElem?_eq_getElem h0⟩
        have hblk := World.block_lt_of_cell? w _ (hcell 0 x0 hx0)
        have hz : (ad.add 0) = ad := by unfold Addr.add; rw [if_pos rfl]
        rw [hz] at hblk
        obtain ⟨bk, o, pa⟩ := ad
        have hsp : pa = none := by
          have := hcell 0 x0 hx0
          rw [hz] at this
          cases pa with
          | none => rfl
          | some q =>
            unfold World.cell? at this
            split at this
            · simp at this
            · cases this
        subst hsp
        exact Tryz.strings_Join bk o c0 l0 a1 w (fun j x hj => by
          have := hcell j x hj
          rwa [show (Addr.add ⟨bk, o, none⟩ j) = ⟨bk, o + j, none⟩ by unfold Addr.add; split <;> simp_all] at this) hblk h2 hc0 h1
      · have h0' : l0.length = 0 := by omega
        obtain rfl := List.length_eq_zero_iff.1 h0'
        refine (Tryz.strings_Join_none A0 c0 a1 w).mono ?_
        rintro e w' ⟨rfl, rfl⟩
        exact ⟨rfl, Below.refl _ _⟩
    · exact absurd h (by simp)
  · exact absurd h (by simp)
end YtiidmjmkgjfaeaaGreatDoor.PA
end Go.Proofs
