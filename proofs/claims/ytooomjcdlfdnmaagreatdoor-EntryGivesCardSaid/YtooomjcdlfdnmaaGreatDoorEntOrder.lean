import Derived.Test.YtooomjcdlfdnmaaGreatDoorEntRight
import Derived.Test.YtooomjcdlfdnmaaGreatDoorEntRead3
namespace Go.Proofs.YtooomjcdlfdnmaaGreatDoor.Ent
open Go Go.RowKit Go.Shelf Go.Proofs.YtooomjcdlfdnmaaGreatDoorW.PrintWords Go.Proofs.YtooomjcdlfdnmaaGreatDoorW.PrintLast Go.Proofs.YtooomjcdlfdnmaaGreatDoor.PA Go.Proofs.YtooomjcdlfdnmaaGreatDoor.Pure
set_option linter.unusedVariables false
def less1.T : Bool × List (List Nat × List Nat) := (true, [([], []), ([0], [0]), ([], []), ([2], [2]), ([1, 3], [1, 3]), ([], []), ([5], [5]), ([], []), ([7], [7]), ([6, 8, 4], [6, 8]), ([], []), ([10], [10]), ([], []), ([12], [12]), ([11, 13, 9], [11, 13]), ([4, 9, 14], [4, 9, 14]), ([15, 14], [15]), ([16], [16]), ([17, 16, 0, 1, 2, 3, 4, 5, 6, 7, 8, 9, 10, 11, 12, 13, 14, 15, 16, 17], [17])])
def less1.B : List Nat := [0, 1, 0, 4, 15, 0, 32, 0, 128, 511, 0, 1024, 0, 4096, 16383, 32767, 65535, 131071, 262143]
theorem less1.tab : rtab .any (opsOf Tryz.f19 1) = less1.T := by kernel_rfl
theorem less1.bits : waitsOk less1.T.2 less1.B = true := by kernel_rfl
end Go.Proofs.YtooomjcdlfdnmaaGreatDoor.Ent

namespace Go.Proofs.YtooomjcdlfdnmaaGreatDoor.Ent
open Go Go.RowKit Go.Shelf Go.Proofs.YtooomjcdlfdnmaaGreatDoorW.PrintWords Go.Proofs.YtooomjcdlfdnmaaGreatDoor.PA Go.Proofs.YtooomjcdlfdnmaaGreatDoor.Pure
structure Ord3 {α : Type} (c : α → α → Int) : Prop where
  rng : ∀ a b, -1 ≤ c a b ∧ c a b ≤ 1
  flip : ∀ a b, c a b = -c b a
  trans : ∀ x y z, c x y ≤ 0 → c y z ≤ 0 → c x z ≤ 0
theorem Ord3.then {α : Type} {c d : α → α → Int} (hc : Ord3 c) (hd : Ord3 d) : Ord3 (fun x y => if c x y = 0 then d x y else c x y) := by
  refine ⟨fun a b => ?_, fun a b => ?_, fun x y z => ?_⟩
  · have := hc.rng a b
    have := hd.rng a b
    show -1 ≤ (if c a b = 0 then d a b else c a b) ∧ (if c a b = 0 then d a b else c a b) ≤ 1
    split <;> omega
  · have := hc.flip a b
    have := hd.flip a b
    show (if c a b = 0 then d a b else c a b) = -(if c b a = 0 then d b a else c b a)
    (repeat' split) <;> omega
  · show (if c x y = 0 then d x y else c x y) ≤ 0 → (if c y z = 0 then d y z else c y z) ≤ 0 → (if c x z = 0 then d x z else c x z) ≤ 0
    have t1 := hc.trans x y z
    have t2 := hc.trans y z x
    have t3 := hc.trans z x y
    have f1 := hc.flip x y
    have f2 := hc.flip y z
    have f3 := hc.flip x z
    have u1 := hd.trans x y z
    intro h1 h2
    (repeat' split at h1) <;> (repeat' split at h2) <;> (repeat' split) <;> omega
end Go.Proofs.YtooomjcdlfdnmaaGreatDoor.Ent

