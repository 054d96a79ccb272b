import Derived.Test.YtpjhaaifgiicoaaDoorShelf
import Derived.Test.YtpjhaaifgiicoaaDoorWWords
import Derived.Below
import Derived.Lib.AppendIntMem
namespace Go.Proofs
open Go.RowKit Go.Proofs.YtpjhaaifgiicoaaDoorW.PrintWords
structure GL (w : World) : Prop where
  size : 4 ≤ w.heap.size
  maxLen : ∃ m, w.cell? ⟨0, 0, none⟩ = some (.int .i64 m)
  pow10 : Lib.TabIs Tryd.prog w "internal/strconv.uint64pow10" .u64 Lib.pow10Tab
  errSyntax : ∃ tp p, w.var? Tryd.prog "strconv.ErrSyntax" = some #[.iface tp p]
  errRange : ∃ tp p, w.var? Tryd.prog "strconv.ErrRange" = some #[.iface tp p]
theorem GL.pow10_named : Tryd.prog.globalNamed "internal/strconv.uint64pow10" = some 3 := by kernel_rfl
theorem GL.errSyntax_named : Tryd.prog.globalNamed "strconv.ErrSyntax" = some 1 := by kernel_rfl
theorem GL.errRange_named : Tryd.prog.globalNamed "strconv.ErrRange" = some 2 := by kernel_rfl
theorem var_below {P : Program} {w w' : World} {name : String} {g : Nat} {B : Nat} (hb : Below B w w') (hn : P.globalNamed name = some g) (hg : g < B) :
    w'.var? P name = w.var? P name := by
  unfold World.var?
  rw [hn]
  simp only [Option.bind_some]
  rw [hb.block g hg]
theorem GL.below' {w w' : World} {B : Nat} (h : GL w) (hB : 4 ≤ B) (hb : Below B w w') : GL w' := by
  refine ⟨Nat.le_trans h.size hb.size, ?_, ?_, ?_, ?_⟩
  · obtain ⟨m, hm⟩ := h.maxLen
    exact ⟨m, (hb.cell (p := ⟨0, 0, none⟩) (Nat.lt_of_lt_of_le (by decide) hB)).trans hm⟩
  · have := h.pow10
    unfold Lib.TabIs at *
    rw [var_below hb GL.pow10_named (Nat.lt_of_lt_of_le (by decide) hB)]
    exact this
  · rw [var_below hb GL.errSyntax_named (Nat.lt_of_lt_of_le (by decide) hB)]
    exact h.errSyntax
  · rw [var_below hb GL.errRange_named (Nat.lt_of_lt_of_le (by decide) hB)]
    exact h.errRange
theorem GL.below {w w' : World} (h : GL w) (hb : Below w.heap.size w w') : GL w' := h.below' h.size hb
theorem GL.drewN {w : World} (h : GL w) (n : Nat) : GL (w.drewN n) := h.below (Drawn0.below ⟨⟨n, rfl⟩⟩)
theorem GL.drew {w : World} (h : GL w) : GL w.drew := h.drewN 1
theorem bytesLess_flip : ∀ a b : List UInt8, (!(Op.bytesLess a b || a == b)) = Op.bytesLess b a
  | [], [] => by simp [Op.bytesLess]
  | [], _ :: _ => by simp [Op.bytesLess]
  | _ :: _, [] => by simp [Op.bytesLess]
  | x :: a, y :: b => by
    have ih := bytesLess_flip a b
    simp only [Op.bytesLess]
    by_cases h1 : x < y
    · have h2 : ¬ y < x := by simp [UInt8.lt_iff_toNat_lt] at *; omega
      have h3 : (y == x) = false := by simp; rintro rfl; exact h2 h1
      simp [h1, h2, h3]
    · by_cases h2 : y < x
      · have h3 : (x == y) = false := by simp; rintro rfl; exact h1 h2
        simp [h1, h2, h3]
      · have h3 : x = y := UInt8.toNat_inj.mp (by simp [UInt8.lt_iff_toNat_lt] at *; omega)
        subst h3
        simp [h1, ← ih]
theorem str_gtr (t : TypeId) (a b : ByteArray) : binOp .gtr t (.string a) (.string b) = pure (.bool (Op.bytesLess b.toList a.toList)) := by
  rw [← bytesLess_flip]; rfl
theorem str_leq (t : TypeId) (a b : ByteArray) : binOp .leq t (.string a) (.string b) = pure (.bool !(Op.bytesLess b.toList a.toList)) := by
  rw [← bytesLess_flip]; simp [binOp, Op.stringOp]
theorem str_geq (t : TypeId) (a b : ByteArray) : binOp .geq t (.string a) (.string b) = pure (.bool !(Op.bytesLess a.toList b.toList)) := rfl
attribute [go_sem] str_gtr str_leq str_geq
theorem size_of_lit (a : Array UInt8) : (ByteArray.mk a).size = a.size := rfl
theorem isEmpty_bne (l : List UInt8) : l.isEmpty = !(l != []) := by cases l <;> rfl
namespace YtpjhaaifgiicoaaDoor.PA
def strings_IndexByte.f (a0 : ByteArray) (a1 : Int) : Option Int := some (Lib.indexByte a0.data.toList a1.toNat.toUInt8)
theorem strings_IndexByte.calls (a0 : ByteArray) (a1 : Int) (r : Int) (w : World) (_hG : GL w) (h : strings_IndexByte.f a0 a1 = some r) :
    Calls Tryd.prog 32 #[.string a0, .int .u8 a1] w fun e w' => e = .returned (.int .i64 r) ∧ Drawn0 w w' := by
  refine (Tryd.strings_IndexByte a0 a1 w).mono ?_
  rintro e w' ⟨rfl, rfl⟩
  refine ⟨?_, Drawn0.refl _⟩
  rw [← Option.some.inj h]
def strings_LastIndexByte.f (a0 : ByteArray) (a1 : Int) : Option Int := if a0.size < 4611686018427387904 then some (Lib.lastIndexByte a0 a1) else none
theorem strings_LastIndexByte.calls (a0 : ByteArray) (a1 : Int) (r : Int) (w : World) (_hG : GL w) (h : strings_LastIndexByte.f a0 a1 = some r) :
    Calls Tryd.prog 29 #[.string a0, .int .u8 a1] w fun e w' => e = .returned (.int .i64 r) ∧ Drawn0 w w' := by
  unfold strings_LastIndexByte.f at h
  split at h
  · rename_i hs
    refine (Tryd.strings_LastIndexByte a0 a1 hs w).mono ?_
    rintro e w' ⟨rfl, rfl⟩
    refine ⟨?_, Drawn0.refl _⟩
    rw [← Option.some.inj h]
  · exact absurd h (by simp)
def strings_TrimLeft.f (a0 : ByteArray) (a1 : ByteArray) : Option ByteArray :=
  match a1.data.toList with
  | [c] => if c.toNat < 128 then some ⟨(Lib.trimLeftB a0.data.toList c).toArray⟩ else none
  | _ => none
theorem strings_TrimLeft.calls (a0 : ByteArray) (a1 : ByteArray) (r : ByteArray) (w : World) (_hG : GL w) (h : strings_TrimLeft.f a0 a1 = some r) :
    Calls Tryd.prog 42 #[.string a0, .string a1] w fun e w' => e = .returned (.string r) ∧ Drawn0 w w' := by
  unfold strings_TrimLeft.f at h
  split at h
  · rename_i c hc
    split at h
    · rename_i h1
      have ha : a1 = ⟨#[c]⟩ := by
        cases a1 with
        | mk d => exact congrArg ByteArray.mk (Array.toList_inj.mp hc)
      rw [ha]
      refine (Tryd.strings_TrimLeft_one a0 c h1 w).mono ?_
      rintro e w' ⟨rfl, rfl⟩
      refine ⟨?_, Drawn0.refl _⟩
      rw [← Option.some.inj h]
    · exact absurd h (by simp)
  · exact absurd h (by simp)
def strings_Cut.f (a0 : ByteArray) (a1 : ByteArray) : Option (ByteArray × ByteArray × Bool) :=
  if a0.size < 4294967281 then some (⟨(Lib.cut a0.data.toList a1.data.toList).1.toArray⟩, ⟨(Lib.cut a0.data.toList a1.data.toList).2.1.toArray⟩, (Lib.cut a0.data.toList a1.data.toList).2.2) else none
theorem strings_Cut.calls (a0 : ByteArray) (a1 : ByteArray) (r1 : ByteArray) (r2 : ByteArray) (r3 : Bool) (w : World) (hG : GL w) (h : strings_Cut.f a0 a1 = some (r1, r2, r3)) :
    Calls Tryd.prog 26 #[.string a0, .string a1] w fun e w' => e = .returned (.tuple #[.string r1, .string r2, .bool r3]) ∧ Drawn0 w w' := by
  unfold strings_Cut.f at h
  split at h
  · rename_i hs
    obtain ⟨m, hm⟩ := hG.maxLen
    refine (Tryd.strings_Cut a0 a1 m w hs hm).mono ?_
    rintro e w' ⟨rfl, n, rfl⟩
    have h := Option.some.inj h
    simp only [Prod.mk.injEq] at h
    obtain ⟨h1, h2, h3⟩ := h
    exact ⟨by rw [h1, h2, h3], ⟨n, rfl⟩⟩
  · exact absurd h (by simp)
def strconv_Itoa.f (a0 : Int) : Option ByteArray := if -9223372036854775808 ≤ a0 ∧ a0 ≤ 9223372036854775807 then some ⟨(Lib.itoa a0).toArray⟩ else none
theorem strconv_Itoa.calls (a0 : Int) (r : ByteArray) (w : World) (hG : GL w) (h : strconv_Itoa.f a0 = some r) :
    Calls Tryd.prog 28 #[.int .i64 a0] w fun e w' => e = .returned (.string r) ∧ Below w.heap.size w w' := by
  unfold strconv_Itoa.f at h
  split at h
  · rename_i hs
    refine (Tryd.strconv_Itoa a0 hs.1 hs.2 w hG.pow10).mono ?_
    rintro e w' ⟨rfl, n, os, rfl⟩
    refine ⟨by rw [← Option.some.inj h], ?_⟩
    exact Lib.below_grow _ w (Nat.le_refl _) n os
  · exact absurd h (by simp)
def errE : Option Int → Value
  | none => .nilIface
  | some c => .iface 71 (.pointer (some ⟨c.toNat, 0, none⟩))
theorem errE_none : errE none = .nilIface := rfl
theorem errE_some (c : Int) : errE (some c) = .iface 71 (.pointer (some ⟨c.toNat, 0, none⟩)) := rfl
def strconv_Atoi.f (a0 : ByteArray) : Option (Int × Option Int) :=
  if a0.size ≤ 281474976710656 then
    match Lib.atoiAll a0.data.toList with
    | .ok v => some (v, none)
    | .range => some (Lib.atoiSat a0.data.toList, some 0)
    | _ => some (0, some 0)
  else none
theorem strconv_Atoi.calls (a0 : ByteArray) (r1 : Int) (r2 : Option Int) (w : World) (hG : GL w) (h : strconv_Atoi.f a0 = some (r1, r2)) :
    Calls Tryd.prog 27 #[.string a0] w fun e w' => ∃ c_ : Int, e = .returned (.tuple #[.int .i64 r1, errE (r2.map fun _ => c_)]) ∧ Below w.heap.size w w' := by
  unfold strconv_Atoi.f at h
  split at h
  · rename_i hs
    rcases hv : Lib.atoiAll a0.data.toList with v | _ | _
    · rw [hv] at h
      have h := Option.some.inj h
      simp only [Prod.mk.injEq] at h
      obtain ⟨rfl, rfl⟩ := h
      refine (Any.strconv_Atoi_ok Tryd.laysC172 a0 (by omega) v hv w).mono ?_
      rintro e w' ⟨rfl, hw⟩
      refine ⟨0, rfl, ?_⟩
      rcases hw with rfl | ⟨t, rfl⟩
      · exact Below.refl _ _
      · exact Lib.bytesWorld_below _ _ _
    · rw [hv] at h
      have h := Option.some.inj h
      simp only [Prod.mk.injEq] at h
      obtain ⟨rfl, rfl⟩ := h
      obtain ⟨tp, p, hp⟩ := hG.errSyntax
      refine (Any.strconv_Atoi_syntax_var Tryd.laysC172 a0 hs hv tp p w hp).mono ?_
      rintro e w' ⟨N, rfl, _, _, hb⟩
      exact ⟨N, rfl, hb⟩
    · rw [hv] at h
      have h := Option.some.inj h
      simp only [Prod.mk.injEq] at h
      obtain ⟨rfl, rfl⟩ := h
      obtain ⟨tp, p, hp⟩ := hG.errRange
      refine (Any.strconv_Atoi_range_var Tryd.laysC172 a0 hs hv tp p w hp).mono ?_
      rintro e w' ⟨N, rfl, _, _, hb⟩
      exact ⟨N, rfl, hb⟩
  · exact absurd h (by simp)
end YtpjhaaifgiicoaaDoor.PA
end Go.Proofs
