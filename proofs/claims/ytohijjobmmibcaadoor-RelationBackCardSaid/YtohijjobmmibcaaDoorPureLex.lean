import Derived.Test.YtohijjobmmibcaaDoorPureKit
namespace Go.Proofs.YtohijjobmmibcaaDoor.Pure
def hd : List Int → Int
  | [] => 0
  | a :: _ => a
def dg (c : UInt8) : Bool := decide (48 ≤ c.toNat ∧ c.toNat ≤ 57)
def nd (c : UInt8) : Bool := !dg c
def lt (c : UInt8) : Bool := decide (97 ≤ c.toNat ∧ c.toNat ≤ 122 ∨ 65 ≤ c.toNat ∧ c.toNat ≤ 90)
end Go.Proofs.YtohijjobmmibcaaDoor.Pure
