import Derived.Test.YtdkmdicmipcifaaDiskGood
namespace Go.Proofs.Ytdkmdicmipcifaa.Disk
open Go
structure Act' where
  op : Int
  n : Int
  name : Bs
  other : Bs
  s : Bs
  left : List Int
def pickV (c n : Int) : Int := Int.tmod (if c < 0 then -(c + 1) else c) n
end Go.Proofs.Ytdkmdicmipcifaa.Disk
