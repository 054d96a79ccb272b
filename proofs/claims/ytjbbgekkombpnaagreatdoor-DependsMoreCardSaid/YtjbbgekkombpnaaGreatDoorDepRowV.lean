import Derived.Test.YtjbbgekkombpnaaGreatDoorDepRow
import Derived.Test.YtjbbgekkombpnaaGreatDoorWFoot
import Derived.Test.YtjbbgekkombpnaaGreatDoorWMore
import Derived.SizedLaws
namespace Go.Proofs.YtjbbgekkombpnaaGreatDoor
open Go Go.RowKit Go.ChangeShapes Go.WideShapes Go.Proofs.YtjbbgekkombpnaaGreatDoorW.PrintWords
theorem V_of {α : Type} {d : Kd α} (hd : Kd.Heap d) {W : World} {A : Option Addr} {xs : List α} (h : d.C W A xs.length xs) {c : Nat} (hc : xs.length ≤ c) (e base : Nat) : Kd.V d e W base (fun k => k < W.heap.size) (.slice A xs.length c) xs :=
  ⟨A, c, rfl, hc, fun _ h' => hd.C (fun k hk => h' k hk hk) h⟩
theorem heap_atom : Kd.Heap PA.k39 := ⟨fun _ h => h⟩
theorem heap_group : Kd.Heap (Kd.slice 39 PA.k39) := Kd.heap_slice _ heap_atom
theorem slice_sized {H : Type} {enc : TypeId × Value → H} {P : Program} {W : World} {base : Nat} {sp : Nat → Bool} {held : Bool} {t e : TypeId} {A : Option Addr} {n c : Nat} {d : DataW H} {ps : List MemPlace} {ts : List TypeId} {ds : List (DataW H)} {j : Nat}
    (hsz : (DataW.weightsEach P ts ds).all (· ≤ reachBytes) = true) (ht : ts[j]? = some t) (hd : ds[j]? = some d) (hu : P.underlying t = some (.slice e)) {B : Nat} (hB : P.bytesOf e = B)
    (h : DataW.Trod enc P W base sp held t (.slice A n c) d ps) : n * B ≤ 140737488351232 := by
  obtain ⟨fuel, hf⟩ := h
  rcases DataW.trod_slice hu hf with ⟨hcs, _⟩ | ⟨a, len, cap, elems, rest, m, _, hcs, hx, _, _, _, hlen, _⟩
  · simp [Value.cells] at hcs
    obtain ⟨rfl, rfl, rfl⟩ := hcs
    simp
  · simp [Value.cells] at hcs
    obtain ⟨rfl, rfl, rfl⟩ := hcs
    obtain ⟨hx, _⟩ := Prod.mk.inj hx
    subst hx
    have z := sized_slice hsz ht hd hu
    rw [hB, List.length_map, List.length_map] at z
    have hr : reachBytes = 140737488351232 := by decide
    rw [hr] at z
    exact Nat.le_trans (Nat.mul_le_mul_right _ (by omega)) z
end Go.Proofs.YtjbbgekkombpnaaGreatDoor
