import Derived.Maps.OwnSet
import Derived.Sort.KeysCollected
namespace Go.Proofs.Ytdkmdicmipcifaa.Disk
open Go
abbrev Bs := List UInt8
abbrev File := Bs × Int
abbrev FL := List (Bs × File)
def ins (x : Bs × File) : FL → FL
  | [] => [x]
  | y :: r => if bytesBefore x.1 y.1 then x :: y :: r else y :: ins x r
def del (n : Bs) (l : FL) : FL := l.filter fun y => !(y.1 == n)
def put (n : Bs) (f : File) (l : FL) : FL := ins (n, f) (del n l)
def get? (n : Bs) (l : FL) : Option File := (l.find? fun y => y.1 == n).map (·.2)
def get (n : Bs) (l : FL) : File := (get? n l).getD ([], 0)
def has (n : Bs) (l : FL) : Bool := l.any fun y => y.1 == n
def total (l : FL) : Int := (l.map fun y => (y.2.1.length : Int)).sum
def sgnc (c : UInt8) : Bool := (decide (97 ≤ c.toNat) && decide (c.toNat ≤ 122)) || (decide (48 ≤ c.toNat) && decide (c.toNat ≤ 57)) || decide (c.toNat = 46 ∨ c.toNat = 43 ∨ c.toNat = 45 ∨ c.toNat = 95)
def nameOk (s : Bs) : Bool := !s.isEmpty && decide (s.length ≤ 60) && s.all sgnc
structure Dk where
  L : FL
  used : Int
  room : Int
  turns : Int
  gone : Bool
def new (room : Int) : Dk := ⟨[], 0, room, -1, false⟩
def turn (d : Dk) : Dk × Int := if d.turns = 0 then ({ d with gone := true }, 11) else ({ d with turns := max (d.turns - 1) (-1) }, 0)
def putD (d : Dk) (n : Bs) (f : File) : Dk := { d with used := d.used + (f.1.length - (get n d.L).1.length), L := put n f d.L }
def outD (d : Dk) (n : Bs) : Dk := { d with used := d.used - (get n d.L).1.length, L := del n d.L }
def append (d : Dk) (n s : Bs) : Dk × Int :=
  if d.gone = true then (d, 11) else if nameOk n = false then (d, 3) else if has n d.L = false ∧ d.L.length = 200 then (d, 8) else if d.used + s.length > d.room then (d, 12)
  else if (turn d).2 ≠ 0 then turn d else (putD (turn d).1 n ((get n d.L).1 ++ s, (get n d.L).2), 0)
def there (d : Dk) (n : Bs) (t : Bool) : File × Dk × Int :=
  if d.gone = true then (([], 0), d, 11) else if has n d.L = false then (([], 0), d, 6) else if t = true then (get n d.L, turn d) else (get n d.L, d, 0)
def sync (d : Dk) (n : Bs) : Dk × Int :=
  if (there d n true).2.2 = 0 then (putD (there d n true).2.1 n ((there d n true).1.1, (there d n true).1.1.length), 0) else (there d n true).2
def rename (d : Dk) (a b : Bs) : Dk × Int :=
  if (there d a false).2.2 ≠ 0 then (d, (there d a false).2.2) else if nameOk b = false then (d, 3)
  else if (there d a true).2.2 = 0 then (putD (outD (there d a true).2.1 a) b (there d a true).1, 0) else (there d a true).2
def remove (d : Dk) (n : Bs) : Dk × Int :=
  if (there d n true).2.2 = 0 then (outD (there d n true).2.1 n, 0) else (there d n true).2
def read (d : Dk) (n : Bs) : Bs × Int := ((there d n false).1.1, (there d n false).2.2)
def save3 (d : Dk) (n s : Bs) : Dk × Int :=
  if (append d (n ++ [45]) s).2 ≠ 0 then append d (n ++ [45]) s
  else if (sync (append d (n ++ [45]) s).1 (n ++ [45])).2 ≠ 0 then sync (append d (n ++ [45]) s).1 (n ++ [45])
  else rename (sync (append d (n ++ [45]) s).1 (n ++ [45])).1 (n ++ [45]) n
def save (d : Dk) (n s : Bs) : Dk × Int :=
  if d.gone = true then (d, 11) else if nameOk n = false ∨ nameOk (n ++ [45]) = false then (d, 3)
  else if has (n ++ [45]) d.L = true then (if (remove d (n ++ [45])).2 ≠ 0 then remove d (n ++ [45]) else save3 (remove d (n ++ [45])).1 n s) else save3 d n s
def limit (d : Dk) (t : Int) : Dk := { d with turns := max t (-1) }
def cut (left : List Int) (f : File) : File :=
  let n := min (max (left.headD 0) 0) (f.1.length - f.2)
  (f.1.take (f.2 + n).toNat, f.2 + n)
def crashL : List Int → FL → FL
  | _, [] => []
  | left, y :: r => if (y.2.1.length : Int) - y.2.2 = 0 then y :: crashL left r else (y.1, cut left y.2) :: crashL left.tail r
def crash (d : Dk) (left : List Int) : Dk := { d with L := crashL left d.L, used := total (crashL left d.L), gone := false, turns := -1 }
def Sorted (l : FL) : Prop := l.Pairwise fun a b => bytesBefore a.1 b.1 = true
structure Good (d : Dk) : Prop where
  sorted : Sorted d.L
  names : ∀ y ∈ d.L, nameOk y.1 = true
  safe : ∀ y ∈ d.L, 0 ≤ y.2.2 ∧ y.2.2 ≤ y.2.1.length
  used : d.used = total d.L
  fits : d.used ≤ d.room
  room : d.room ≤ 10000000
  many : d.L.length ≤ 200
  turns : -1 ≤ d.turns ∧ d.turns ≤ 9223372036854775807
theorem before_irrefl (a : Bs) : bytesBefore a a = false := WideAt.bytes_irrefl a
theorem before_ne {a b : Bs} (h : bytesBefore a b = true) : a ≠ b := by
  rintro rfl; rw [before_irrefl] at h; cases h
theorem before_asymm {a b : Bs} (h : bytesBefore a b = true) : bytesBefore b a = false := by
  cases h2 : bytesBefore b a
  · rfl
  · have := WideShapes.bytes_trans _ _ _ h h2
    rw [before_irrefl] at this; cases this
theorem mem_ins {x y : Bs × File} : ∀ {l : FL}, y ∈ ins x l ↔ y = x ∨ y ∈ l
  | [] => by simp [ins]
  | z :: r => by
    unfold ins
    split
    · simp
    · simp [mem_ins (l := r)]; constructor
      · rintro (h | h | h) <;> simp [h]
      · rintro (h | h | h) <;> simp [h]
theorem mem_del {n : Bs} {y : Bs × File} {l : FL} : y ∈ del n l ↔ y ∈ l ∧ y.1 ≠ n := by simp [del]
theorem sorted_ins {x : Bs × File} : ∀ {l : FL}, Sorted l → (∀ y ∈ l, y.1 ≠ x.1) → Sorted (ins x l)
  | [], _, _ => by simp [ins, Sorted]
  | y :: r, h, hn => by
    obtain ⟨h1, h2⟩ := List.pairwise_cons.1 h
    unfold ins
    by_cases hb : bytesBefore x.1 y.1 = true
    · rw [if_pos hb]
      refine List.pairwise_cons.2 ⟨fun z hz => ?_, h⟩
      rcases List.mem_cons.1 hz with rfl | hz
      · exact hb
      · exact WideShapes.bytes_trans _ _ _ hb (h1 z hz)
    · rw [if_neg hb]
      refine List.pairwise_cons.2 ⟨fun z hz => ?_, sorted_ins h2 (fun z hz => hn z (by simp [hz]))⟩
      rcases mem_ins.1 hz with rfl | hz
      · rcases WideAt.bytes_total y.1 z.1 (hn y (by simp)) with h | h
        · exact h
        · exact absurd h hb
      · exact h1 z hz
theorem sorted_del {n : Bs} {l : FL} (h : Sorted l) : Sorted (del n l) := h.filter _
theorem sorted_put {n : Bs} {f : File} {l : FL} (h : Sorted l) : Sorted (put n f l) := sorted_ins (sorted_del h) (fun y hy => (mem_del.1 hy).2)
theorem mem_put {n : Bs} {f : File} {l : FL} {y : Bs × File} : y ∈ put n f l ↔ y = (n, f) ∨ (y ∈ l ∧ y.1 ≠ n) := by unfold put; rw [mem_ins, mem_del]
theorem get?_hit {n : Bs} {y : Bs × File} (r : FL) (h : y.1 = n) : get? n (y :: r) = some y.2 := by
  unfold get?
  have hb : (fun z : Bs × File => z.1 == n) y = true := by simpa using h
  rw [List.find?_cons_of_pos (p := fun z : Bs × File => z.1 == n) hb]; rfl
theorem get?_miss {n : Bs} {y : Bs × File} (r : FL) (h : y.1 ≠ n) : get? n (y :: r) = get? n r := by
  unfold get?
  have hb : ¬ (fun z : Bs × File => z.1 == n) y = true := by simpa using h
  rw [List.find?_cons_of_neg (p := fun z : Bs × File => z.1 == n) hb]
theorem get?_mem {n : Bs} {f : File} : ∀ {l : FL}, Sorted l → (get? n l = some f ↔ (n, f) ∈ l)
  | [], _ => by simp [get?]
  | y :: r, h => by
    obtain ⟨h1, h2⟩ := List.pairwise_cons.1 h
    have ih := get?_mem (n := n) (f := f) h2
    by_cases hy : y.1 = n
    · rw [get?_hit r hy]
      constructor
      · intro e
        simp at e
        subst e; subst hy
        exact List.mem_cons_self
      · intro hm
        rcases List.mem_cons.1 hm with e | hm
        · rw [← e]
        · exact absurd hy (before_ne (h1 _ hm))
    · rw [get?_miss r hy, ih]
      constructor
      · intro hm; exact List.mem_cons_of_mem _ hm
      · intro hm
        rcases List.mem_cons.1 hm with e | hm
        · rw [← e] at hy; exact absurd rfl hy
        · exact hm
theorem has_get? (n : Bs) : ∀ l : FL, has n l = (get? n l).isSome
  | [] => rfl
  | y :: r => by
    have ih := has_get? n r
    by_cases hy : y.1 = n
    · rw [get?_hit r hy]
      unfold has; rw [List.any_cons, hy]; simp
    · rw [get?_miss r hy, ← ih]
      unfold has; rw [List.any_cons]; simp [hy]
theorem get_some {n : Bs} {l : FL} {f : File} (h : get? n l = some f) : get n l = f := by unfold get; rw [h]; rfl
theorem get_none {n : Bs} {l : FL} (h : get? n l = none) : get n l = ([], 0) := by unfold get; rw [h]; rfl
theorem total_cons (y : Bs × File) (r : FL) : total (y :: r) = y.2.1.length + total r := by simp [total]
theorem total_ins (x : Bs × File) : ∀ l : FL, total (ins x l) = x.2.1.length + total l
  | [] => by simp [ins, total]
  | y :: r => by
    have ih := total_ins x r
    unfold ins
    split
    · simp [total]
    · rw [total_cons, total_cons, ih]; omega
theorem length_ins (x : Bs × File) : ∀ l : FL, (ins x l).length = l.length + 1
  | [] => rfl
  | y :: r => by
    unfold ins
    split
    · rfl
    · simp [length_ins x r]
theorem del_hit {n : Bs} {y : Bs × File} (r : FL) (h : y.1 = n) : del n (y :: r) = del n r := by
  unfold del; rw [List.filter_cons_of_neg (by simpa using h)]
theorem del_miss {n : Bs} {y : Bs × File} (r : FL) (h : y.1 ≠ n) : del n (y :: r) = y :: del n r := by
  unfold del; rw [List.filter_cons_of_pos (by simpa using h)]
theorem del_none {n : Bs} : ∀ {l : FL}, get? n l = none → del n l = l
  | [], _ => rfl
  | y :: r, h => by
    by_cases hy : y.1 = n
    · rw [get?_hit r hy] at h; cases h
    · rw [get?_miss r hy] at h
      rw [del_miss r hy, del_none h]
theorem del_split {n : Bs} {f : File} : ∀ {l : FL}, Sorted l → get? n l = some f → total (del n l) + f.1.length = total l ∧ (del n l).length + 1 = l.length
  | [], _, h => by simp [get?] at h
  | y :: r, hs, h => by
    obtain ⟨h1, h2⟩ := List.pairwise_cons.1 hs
    by_cases hy : y.1 = n
    · have e : y.2 = f := by rw [get?_hit r hy] at h; exact Option.some.inj h
      have hr : get? n r = none := by
        cases hg : get? n r with
        | none => rfl
        | some g => exact absurd hy (before_ne (h1 _ ((get?_mem h2).1 hg)))
      rw [del_hit r hy, del_none hr, ← e, total_cons, List.length_cons]
      omega
    · have h' : get? n r = some f := by rw [get?_miss r hy] at h; exact h
      obtain ⟨i1, i2⟩ := del_split h2 h'
      rw [del_miss r hy, total_cons, total_cons, List.length_cons, List.length_cons]
      omega
theorem total_nonneg : ∀ l : FL, 0 ≤ total l
  | [] => by simp [total]
  | y :: r => by
    have := total_nonneg r
    rw [total_cons]; omega
theorem total_mem : ∀ {l : FL} {y : Bs × File}, y ∈ l → (y.2.1.length : Int) ≤ total l
  | x :: r, y, h => by
    have h0 := total_nonneg r
    rcases List.mem_cons.1 h with rfl | h
    · rw [total_cons]; omega
    · have := total_mem h
      rw [total_cons]; omega
theorem total_put {n : Bs} {f : File} {l : FL} (h : Sorted l) : total (put n f l) = total l + (f.1.length - (get n l).1.length) ∧ (put n f l).length = (if has n l then l.length else l.length + 1) := by
  unfold put
  rw [total_ins, length_ins, has_get?]
  cases e : get? n l with
  | none => rw [del_none e, get_none e]; simp; omega
  | some g =>
    obtain ⟨h1, h2⟩ := del_split h e
    rw [get_some e]; simp; omega
theorem total_del {n : Bs} {l : FL} (h : Sorted l) : total (del n l) = total l - (get n l).1.length ∧ (del n l).length ≤ l.length := by
  cases e : get? n l with
  | none => rw [del_none e, get_none e]; simp
  | some g =>
    obtain ⟨h1, h2⟩ := del_split h e
    rw [get_some e]; omega
end Go.Proofs.Ytdkmdicmipcifaa.Disk
