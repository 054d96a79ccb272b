import Derived.Test.YtdkmdicmipcifaaShelf
import Derived.Test.YtdkmdicmipcifaaWWords
import Derived.Below
import Derived.Lib.AppendIntMem
import Derived.Handy
namespace Go.Proofs
open Go.RowKit Go.Proofs.YtdkmdicmipcifaaW.PrintWords
structure GL (w : World) : Prop where
  size : 1 ≤ w.heap.size
theorem GL.below' {w w' : World} {B : Nat} (h : GL w) (_hB : 1 ≤ B) (hb : Below B w w') : GL w' := ⟨Nat.le_trans h.size hb.size⟩
theorem GL.below {w w' : World} (h : GL w) (hb : Below w.heap.size w w') : GL w' := h.below' h.size hb
theorem GL.drewN {w : World} (h : GL w) (n : Nat) : GL (w.drewN n) := h.below (Drawn0.below ⟨⟨n, rfl⟩⟩)
theorem GL.drew {w : World} (h : GL w) : GL w.drew := h.drewN 1
theorem bytesLess_flip : ∀ a b : List UInt8, (!(Op.bytesLess a b || a == b)) = Op.bytesLess b a
  | [], [] => by simp [Op.bytesLess]
  | [], _ :: _ => by simp [Op.bytesLess]
  | _ :: _, [] => by simp [Op.bytesLess]
  | x :: a, y :: b => by
    have ih := bytesLess_flip a b
    simp only [Op.bytesLess]
    by_cases h1 : x < y
    · have h2 : ¬ y < x := by simp [UInt8.lt_iff_toNat_lt] at *; omega
      have h3 : (y == x) = false := by simp; rintro rfl; exact h2 h1
      simp [h1, h2, h3]
    · by_cases h2 : y < x
      · have h3 : (x == y) = false := by simp; rintro rfl; exact h1 h2
        simp [h1, h2, h3]
      · have h3 : x = y := UInt8.toNat_inj.mp (by simp [UInt8.lt_iff_toNat_lt] at *; omega)
        subst h3
        simp [h1, ← ih]
theorem str_gtr (t : TypeId) (a b : ByteArray) : binOp .gtr t (.string a) (.string b) = pure (.bool (Op.bytesLess b.toList a.toList)) := by
  rw [← bytesLess_flip]; rfl
theorem str_leq (t : TypeId) (a b : ByteArray) : binOp .leq t (.string a) (.string b) = pure (.bool !(Op.bytesLess b.toList a.toList)) := by
  rw [← bytesLess_flip]; simp [binOp, Op.stringOp]
theorem str_geq (t : TypeId) (a b : ByteArray) : binOp .geq t (.string a) (.string b) = pure (.bool !(Op.bytesLess a.toList b.toList)) := rfl
attribute [go_sem] str_gtr str_leq str_geq
theorem isEmpty_bne (l : List UInt8) : l.isEmpty = !(l != []) := by cases l <;> rfl
namespace Ytdkmdicmipcifaa.PA
def strings_IndexByte.f (a0 : ByteArray) (a1 : Int) : Option Int := some (Lib.indexByte a0.data.toList a1.toNat.toUInt8)
theorem strings_IndexByte.calls (a0 : ByteArray) (a1 : Int) (r : Int) (w : World) (_hG : GL w) (h : strings_IndexByte.f a0 a1 = some r) :
    Calls Try.prog 50 #[.string a0, .int .u8 a1] w fun e w' => e = .returned (.int .i64 r) ∧ Drawn0 w w' := by
  refine (Try.strings_IndexByte a0 a1 w).mono ?_
  rintro e w' ⟨rfl, rfl⟩
  refine ⟨?_, Drawn0.refl _⟩
  rw [← Option.some.inj h]
end Ytdkmdicmipcifaa.PA
end Go.Proofs
