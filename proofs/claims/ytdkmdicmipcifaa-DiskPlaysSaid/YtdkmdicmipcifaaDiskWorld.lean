import Derived.Test.YtdkmdicmipcifaaDiskData
import Derived.Below
import Derived.WalkKit
namespace Go.Proofs.Ytdkmdicmipcifaa.Disk
open Go Go.RowKit Go.Maps
structure Two (p b : Nat) (w w' : World) : Prop where
  os : w'.os = w.os
  tape : w'.tape = w.tape
  output : w'.output = w.output
  size : w.heap.size ≤ w'.heap.size
  block : ∀ k, k < w.heap.size → k ≠ p → k ≠ b → w'.heap[k]? = w.heap[k]?
theorem Two.refl (p b : Nat) (w : World) : Two p b w w := ⟨rfl, rfl, rfl, Nat.le_refl _, fun _ _ _ _ => rfl⟩
theorem Two.trans {p b : Nat} {x y z : World} (h : Two p b x y) (k : Two p b y z) : Two p b x z :=
  ⟨k.os.trans h.os, k.tape.trans h.tape, k.output.trans h.output, Nat.le_trans h.size k.size, fun i hi h1 h2 => (k.block i (Nat.lt_of_lt_of_le hi h.size) h1 h2).trans (h.block i hi h1 h2)⟩
theorem Two.below {p b : Nat} {w w' : World} (h : Below w.heap.size w w') : Two p b w w' := ⟨h.os, h.tape, h.output, h.size, fun k hk _ _ => h.block k hk⟩
theorem Two.drew {p b : Nat} {x w : World} (h : Two p b x w) : Two p b x w.drew := ⟨h.os, h.tape, h.output, h.size, h.block⟩
theorem Two.alloc {p b : Nat} {x w : World} (h : Two p b x w) (o : Obj) : Two p b x (w.alloc o) := h.trans (Two.below ((Below.refl _ w).alloc (Nat.le_refl _) o))
theorem Two.set {p b : Nat} {x w : World} (h : Two p b x w) (i : Nat) (v : Value) : Two p b x (w.setCell ⟨p, i, none⟩ v) :=
  h.trans ⟨rfl, rfl, rfl, by simp, fun k _ h1 _ => Below.heap_setCell _ _ _ _ h1⟩
theorem Two.setNew {p b : Nat} {x w : World} (h : Two p b x w) {a : Addr} (ha : x.heap.size ≤ a.block) (v : Value) : Two p b x (w.setCell a v) :=
  ⟨h.os, h.tape, h.output, by simpa using h.size, fun k hk h1 h2 => (Below.heap_setCell _ _ _ _ (by omega)).trans (h.block k hk h1 h2)⟩
theorem Two.turned {p b : Nat} {x w w' : World} (h : Two p b x w) (k : w.mapTurned w' b) : Two p b x w' :=
  h.trans ⟨k.grown.os, k.grown.tape, k.grown.output, k.grown.size, fun i hi _ h2 => k.grown.block i hi (fun e => h2 (Option.some.inj e))⟩
theorem Two.under {p b B : Nat} {w w' : World} (h : Two p b w w') (hw : B ≤ w.heap.size) (hp : B ≤ p) (hb : B ≤ b) : Below B w w' :=
  ⟨h.os, h.tape, h.output, h.size, fun k hk => h.block k (by omega) (by omega) (by omega)⟩
theorem Two.cell {p b : Nat} {w w' : World} (h : Two p b w w') {a : Addr} {v : Value} (hc : w.cell? a = some v) (h1 : a.block ≠ p) (h2 : a.block ≠ b) : w'.cell? a = some v :=
  (World.cell?_of_block (h.block a.block (World.block_lt_of_cell? w a hc) h1 h2)).trans hc
theorem Two.row {p b : Nat} {w w' : World} (h : Two p b w w') {k : Nat} {o : Obj} (hk : w.heap[k]? = some o) (h1 : k ≠ p) (h2 : k ≠ b) : w'.heap[k]? = some o :=
  (h.block k (Array.getElem?_eq_some_iff.1 hk).1 h1 h2).trans hk
theorem row2 {w : World} {k : Nat} {x y : Value} {t : TypeId} (hk : w.heap[k]? = some (.cells #[x, y] t (0, 0))) :
    w.cell? ⟨k, 0, none⟩ = some x ∧ w.cell? ⟨k, 1, none⟩ = some y ∧ w.frozen? ⟨k, 0, none⟩ = false ∧ w.frozen? ⟨k, 1, none⟩ = false := by
  simp [World.cell?, World.frozen?, hk]
theorem new_row (w : World) (o : Obj) : (w.alloc o).heap[w.heap.size]? = some o := by
  show (w.heap.push o)[w.heap.size]? = _
  simp
theorem old_row {w : World} {o : Obj} {k : Nat} {x : Obj} (h : w.heap[k]? = some x) : (w.alloc o).heap[k]? = some x := by
  have hk := (Array.getElem?_eq_some_iff.1 h).1
  exact (Below.heap_alloc w o k hk).trans h
structure DiskAt (P : Program) (KS TD : TypeId) (w : World) (p b : Nat) (d : Dk) : Prop where
  cells : w.heap[p]? = some (.cells #[.map (some b), .int .i64 d.used, .int .i64 d.room, .int .i64 d.turns, .bool d.gone] TD (0, 0))
  own : w.ownsMap P KS fileR b d.L.length (Dd d.L)
  ne : p ≠ b
namespace DiskAt
variable {P : Program} {KS TD : TypeId} {w w' : World} {p b : Nat} {d : Dk}
theorem lt (h : DiskAt P KS TD w p b d) : p < w.heap.size := (Array.getElem?_eq_some_iff.1 h.cells).1
theorem ltb (h : DiskAt P KS TD w p b d) : b < w.heap.size := h.own.lt
theorem c0 (h : DiskAt P KS TD w p b d) : w.cell? ⟨p, 0, none⟩ = some (.map (some b)) := by simp [World.cell?, h.cells]
theorem c1 (h : DiskAt P KS TD w p b d) : w.cell? ⟨p, 1, none⟩ = some (.int .i64 d.used) := by simp [World.cell?, h.cells]
theorem c2 (h : DiskAt P KS TD w p b d) : w.cell? ⟨p, 2, none⟩ = some (.int .i64 d.room) := by simp [World.cell?, h.cells]
theorem c3 (h : DiskAt P KS TD w p b d) : w.cell? ⟨p, 3, none⟩ = some (.int .i64 d.turns) := by simp [World.cell?, h.cells]
theorem c4 (h : DiskAt P KS TD w p b d) : w.cell? ⟨p, 4, none⟩ = some (.bool d.gone) := by simp [World.cell?, h.cells]
theorem fz (h : DiskAt P KS TD w p b d) (i : Nat) : w.frozen? ⟨p, i, none⟩ = false := by simp [World.frozen?, h.cells]
theorem keep (h : DiskAt P KS TD w p b d) (hs : w.heap.size ≤ w'.heap.size) (hp : w'.heap[p]? = w.heap[p]?) (hb : w'.heap[b]? = w.heap[b]?) : DiskAt P KS TD w' p b d := by
  obtain ⟨es, clock, hb', r⟩ := h.own
  exact ⟨hp.trans h.cells, ⟨es, clock, hb.trans hb', r⟩, h.ne⟩
theorem below (h : DiskAt P KS TD w p b d) (hb : Below w.heap.size w w') : DiskAt P KS TD w' p b d := h.keep hb.size (hb.block _ h.lt) (hb.block _ h.ltb)
theorem drew (h : DiskAt P KS TD w p b d) : DiskAt P KS TD w.drew p b d := ⟨h.cells, h.own, h.ne⟩
theorem alloc (h : DiskAt P KS TD w p b d) (o : Obj) : DiskAt P KS TD (w.alloc o) p b d := h.below ((Below.refl _ w).alloc (Nat.le_refl _) o)
theorem setOther (h : DiskAt P KS TD w p b d) {a : Addr} (h1 : a.block ≠ p) (h2 : a.block ≠ b) (v : Value) : DiskAt P KS TD (w.setCell a v) p b d :=
  h.keep (by simp) (Below.heap_setCell _ _ _ _ (Ne.symm h1)) (Below.heap_setCell _ _ _ _ (Ne.symm h2))
theorem set1 (h : DiskAt P KS TD w p b d) (v : Int) : DiskAt P KS TD (w.setCell ⟨p, 1, none⟩ (.int .i64 v)) p b { d with used := v } :=
  ⟨by simp [World.setCell, Array.getElem?_modify, h.cells], h.own.setCell (Ne.symm h.ne) _, h.ne⟩
theorem set3 (h : DiskAt P KS TD w p b d) (v : Int) : DiskAt P KS TD (w.setCell ⟨p, 3, none⟩ (.int .i64 v)) p b { d with turns := v } :=
  ⟨by simp [World.setCell, Array.getElem?_modify, h.cells], h.own.setCell (Ne.symm h.ne) _, h.ne⟩
theorem set4 (h : DiskAt P KS TD w p b d) (v : Bool) : DiskAt P KS TD (w.setCell ⟨p, 4, none⟩ (.bool v)) p b { d with gone := v } :=
  ⟨by simp [World.setCell, Array.getElem?_modify, h.cells], h.own.setCell (Ne.symm h.ne) _, h.ne⟩
theorem map (h : DiskAt P KS TD w p b d) {n : Nat} {l : FL} (ho : w'.ownsMap P KS fileR b n (Dd l)) (ht : w.mapTurned w' b) (hl : l.length ≤ n) : DiskAt P KS TD w' p b { d with L := l } := by
  refine ⟨(ht.grown.block p h.lt (fun e => h.ne (Option.some.inj e))).trans h.cells, ?_, h.ne⟩
  have hz := Dd_size l
  obtain ⟨es, clock, hb, F, hs, hD⟩ := ho
  refine ⟨es, clock, hb, F, ?_, hD⟩
  have e1 : Maps.size (Dd l) = es.size := by rw [hD]; simp [Maps.size, length_sorted]
  show es.size ≤ l.length
  omega
end DiskAt
end Go.Proofs.Ytdkmdicmipcifaa.Disk
