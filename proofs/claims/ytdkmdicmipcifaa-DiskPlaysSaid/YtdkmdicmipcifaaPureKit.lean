import Derived.Test.YtdkmdicmipcifaaWWords
namespace Go.Proofs.Ytdkmdicmipcifaa.Pure
open Go.RowKit Go.Proofs.YtdkmdicmipcifaaW.PrintWords
abbrev Bs := List UInt8
def mk (l : Bs) : ByteArray := ⟨l.toArray⟩
theorem mk_data (s : ByteArray) : mk s.data.toList = s := by cases s; simp [mk]
theorem mk_size (l : Bs) : (mk l).size = l.length := by simp [mk, ByteArray.size]
theorem toList_loop (s : ByteArray) : ∀ (n i : Nat) (r : List UInt8), s.size - i = n → ByteArray.toList.loop s i r = r.reverse ++ s.data.toList.drop i := by
  intro n
  induction n with
  | zero =>
    intro i r h
    unfold ByteArray.toList.loop
    rw [if_neg (by omega), List.drop_eq_nil_of_le (by simp; omega)]
    simp
  | succ n ih =>
    intro i r h
    unfold ByteArray.toList.loop
    have hi : i < s.size := by omega
    rw [if_pos hi, ih (i + 1) _ (by omega)]
    have h2 : i < s.data.toList.length := by simpa using hi
    have h3 : i < s.data.size := hi
    rw [List.drop_eq_getElem_cons h2]
    simp [ByteArray.get!]
    exact getElem!_pos s.data i h3
theorem toList_data (s : ByteArray) : s.toList = s.data.toList := by
  unfold ByteArray.toList
  rw [toList_loop s _ 0 [] rfl]
  simp
theorem mk_toList (l : Bs) : (mk l).toList = l := by rw [toList_data]; simp [mk]
theorem mk_dataList (l : Bs) : (mk l).data.toList = l := by simp [mk]
theorem mk_app (a b : Bs) : mk a ++ mk b = mk (a ++ b) := by
  have h : (mk a ++ mk b).data = (mk a).data ++ (mk b).data := ByteArray.data_append
  have : (mk a ++ mk b) = ⟨(mk a ++ mk b).data⟩ := rfl
  rw [this, h]
  simp [mk]
theorem mk_ext (l : Bs) (a b : Nat) : (mk l).extract a b = mk ((l.take b).drop a) := by
  have h : ((mk l).extract a b).data = (mk l).data.extract a b := ByteArray.data_extract
  have : (mk l).extract a b = ⟨((mk l).extract a b).data⟩ := rfl
  rw [this, h]
  simp only [mk, List.extract_toArray, List.extract_eq_take_drop]
  rw [List.drop_take]
theorem mk_ext_from (l : Bs) (b : Nat) : (mk l).extract 0 b = mk (l.take b) := by rw [mk_ext, List.drop_zero]
theorem mk_bt (l : Bs) (i : Nat) : bt (mk l) (i : Int) = ((l.getD i 0).toNat : Int) := by
  unfold bt
  split
  · rename_i h
    have h2 : i < l.length := by rw [mk_size] at h; simpa using h
    rw [List.getD_eq_getElem?_getD, List.getElem?_eq_getElem h2]
    simp [mk, ByteArray.getElem_eq_getElem_data]
  · rename_i h
    have h2 : ¬ i < l.length := by rw [mk_size] at h; simpa using h
    rw [List.getD_eq_getElem?_getD, List.getElem?_eq_none (by omega)]
    rfl
theorem mk_bt_at (p : Bs) (c : UInt8) (t : Bs) : bt (mk (p ++ c :: t)) (p.length : Int) = (c.toNat : Int) := by rw [mk_bt]; simp
section
variable {α β : Type} {c : Prop} [Decidable c] {g f : Nat → Option α} {r : α}
theorem Ev.pos (h : c) (hg : Ev g r) : Ev (fun k => if c then g k else f k) r := Ev.congr (fun _ => if_pos h) hg
theorem Ev.neg (h : ¬ c) (hf : Ev f r) : Ev (fun k => if c then g k else f k) r := Ev.congr (fun _ => if_neg h) hf
theorem Ev.some_ (r : α) : Ev (fun _ => some r) r := Ev.now r
theorem Ev.eq_ {r' : α} (h : r' = r) : Ev (fun _ => some r') r := h ▸ Ev.now r'
theorem Ev.bindc {x : Option β} {a : β} {f : Nat → β → Option α} (h : x = some a) (k : Ev (fun n => f n a) r) : Ev (fun n => x.bind (f n)) r := Ev.congr (fun n => by rw [h]; rfl) k
theorem Ev.shift (h : Ev (fun k => g (k + 1)) r) : Ev g r := by
  obtain ⟨K, hK⟩ := h
  exact ⟨K + 1, fun k hk => by obtain ⟨j, rfl⟩ : ∃ j, k = j + 1 := ⟨k - 1, by omega⟩; exact hK j (by omega)⟩
end
theorem wrap_succ (n : Nat) (h : n + 1 < 9223372036854775808) : wrap64 ((n : Int) + 1) = ((n + 1 : Nat) : Int) := by unfold wrap64; omega
theorem wrap_in (i : Int) (h0 : -9223372036854775808 ≤ i) (h1 : i < 9223372036854775808) : wrap64 i = i := by unfold wrap64; omega
theorem byte_all {P : UInt8 → Prop} (h : ∀ n, n < 256 → P (UInt8.ofNat n)) (c : UInt8) : P c := by
  have := h c.toNat c.toNat_lt
  rwa [UInt8.ofNat_toNat] at this
end Go.Proofs.Ytdkmdicmipcifaa.Pure
