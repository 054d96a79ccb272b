import Derived.Test.YtdkmdicmipcifaaDiskLaws
namespace Go.Proofs.Ytdkmdicmipcifaa.Disk
open Go
structure Act' where
  op : Int
  n : Int
  name : Bs
  other : Bs
  s : Bs
  left : List Int
def pickV (c n : Int) : Int := Int.tmod (if c < 0 then -(c + 1) else c) n
def doesV (d : Dk) (a : Act') : Dk × Int :=
  if pickV a.op 12 = 4 ∨ pickV a.op 12 = 5 then sync d a.name else if pickV a.op 12 = 6 then rename d a.name a.other else if pickV a.op 12 = 7 then remove d a.name
  else if pickV a.op 12 = 8 ∨ pickV a.op 12 = 9 then save d a.name a.s else if pickV a.op 12 = 10 then (limit d a.n, 0) else if pickV a.op 12 = 11 then (crash d a.left, 0) else append d a.name a.s
theorem good_does {d : Dk} (g : Good d) (a : Act') (h : a.n ≤ 9223372036854775807) : Good (doesV d a).1 := by
  unfold doesV
  split; · exact good_sync g _
  split; · exact good_rename g _ _
  split; · exact good_remove g _
  split; · exact good_save g _ _
  split; · exact good_limit g h
  split; · exact good_crash g _
  exact good_append g _ _
def begunV (d : Dk) (l : List Act') : Dk := l.foldl (fun d a => (doesV d a).1) d
theorem good_begun : ∀ {l : List Act'} {d : Dk}, Good d → (∀ a ∈ l, a.n ≤ 9223372036854775807) → Good (begunV d l)
  | [], _, g, _ => g
  | a :: r, d, g, h => by
    show Good (begunV (doesV d a).1 r)
    exact good_begun (good_does g a (h a List.mem_cons_self)) (fun x hx => h x (List.mem_cons_of_mem _ hx))
theorem law_others {d : Dk} (c : Clean d) (a : Act') (h9 : pickV a.op 12 ≤ 9) (m : Bs) (h1 : m ≠ a.name) (h2 : m ≠ a.name ++ [45]) (h3 : pickV a.op 12 = 6 → m ≠ a.other) : read (doesV d a).1 m = read d m := by
  have o := c.isOn
  unfold doesV
  split; · exact read_on o (on_sync o _) ((sync_get? c.toGood _).1 m h1)
  split
  · rename_i h; exact read_on o (on_rename o _ _) ((rename_get? c.toGood _ _).1 m h1 (h3 h))
  split; · exact read_on o (on_remove o _) ((remove_get? c.toGood _).1 m h1)
  split; · exact read_on o (on_save o _ _) ((save_get? c.toGood _ _).1 m h1 h2)
  split; · omega
  split; · omega
  exact read_on o (on_append o _ _) ((append_get? c.toGood _ _).1 m h1)
end Go.Proofs.Ytdkmdicmipcifaa.Disk
