import Derived.Test.YtdkmdicmipcifaaDiskGood
namespace Go.Proofs.Ytdkmdicmipcifaa.Disk
open Go
structure Act' where
  op : Int
  n : Int
  name : Bs
  other : Bs
  s : Bs
  left : List Int
def pickV (c n : Int) : Int := Int.tmod (if c < 0 then -(c + 1) else c) n
def doesV (d : Dk) (a : Act') : Dk × Int :=
  if pickV a.op 12 = 4 ∨ pickV a.op 12 = 5 then sync d a.name else if pickV a.op 12 = 6 then rename d a.name a.other else if pickV a.op 12 = 7 then remove d a.name
  else if pickV a.op 12 = 8 ∨ pickV a.op 12 = 9 then save d a.name a.s else if pickV a.op 12 = 10 then (limit d a.n, 0) else if pickV a.op 12 = 11 then (crash d a.left, 0) else append d a.name a.s
theorem good_does {d : Dk} (g : Good d) (a : Act') (h : a.n ≤ 9223372036854775807) : Good (doesV d a).1 := by
  unfold doesV
  split; · exact good_sync g _
  split; · exact good_rename g _ _
  split; · exact good_remove g _
  split; · exact good_save g _ _
  split; · exact good_limit g h
  split; · exact good_crash g _
  exact good_append g _ _
end Go.Proofs.Ytdkmdicmipcifaa.Disk
