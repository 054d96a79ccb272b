import Derived.Test.YtohijjobmmibcaaGreatDoorPureKit
namespace Go.Proofs.YtohijjobmmibcaaGreatDoor.Pure
def hd : List Int → Int
  | [] => 0
  | a :: _ => a
def dg (c : UInt8) : Bool := decide (48 ≤ c.toNat ∧ c.toNat ≤ 57)
def nd (c : UInt8) : Bool := !dg c
def lt (c : UInt8) : Bool := decide (97 ≤ c.toNat ∧ c.toNat ≤ 122 ∨ 65 ≤ c.toNat ∧ c.toNat ≤ 90)
def dv (c : UInt8) : Nat := c.toNat - 48
def val (n : Nat) (l : Bs) : Nat := l.foldl (fun a c => 10 * a + dv c) n
theorem val_c (n : Nat) (c : UInt8) (t : Bs) : val n (c :: t) = val (10 * n + dv c) t := by unfold val; rw [List.foldl_cons]
end Go.Proofs.YtohijjobmmibcaaGreatDoor.Pure
