import Derived.Test.YtooomjcdlfdnmaaGreatDoorEntReadG
namespace Go.Proofs.YtooomjcdlfdnmaaGreatDoor.Ent
open Go Go.RowKit Go.Shelf Go.Proofs.YtooomjcdlfdnmaaGreatDoorW.PrintWords Go.Proofs.YtooomjcdlfdnmaaGreatDoor.PA Go.Proofs.YtooomjcdlfdnmaaGreatDoor.Pure
theorem read_calls {w : World} (hG : GL w) {A : Option Addr} {c : Nat} {l : List S49} (hr : Kd.C k49 w A l.length l) (hl : l.length < 1000000000000) (hs : ∀ x ∈ l, x.f1.size < 2000) :
    Calls Tryz.prog 28 #[.slice A l.length c] w fun en w' => ∃ a, en = .returned (.tuple #[.agg (ecs (readE l).1 a), .int .i64 (readE l).2]) ∧ EC w' (readE l).1 a ∧ Below w.heap.size w w' := by
  have hS : ∀ n, (getV n l).1.size < 2000 := fun n => getV_size (n := n) (l := l) (N := 2000) (by omega) hs
  have hN := qb_name hG (getV sPkg l).1 (by have := hS sPkg; omega)
  have hP := qb_plain hG (getV sVer l).1
  obtain ⟨k1, hk1⟩ : ∃ k, (if (getV sPkg l).2 = true then 0 else or2 0 6) = k := ⟨_, rfl⟩
  unfold readE
  by_cases c1 : ((getV sPkg l).2 && (getV sVer l).2) = false
  · rw [if_pos c1]
    refine read_A ⟨hG⟩ ⟨hr⟩ ⟨hl⟩ ⟨hS⟩ ⟨hk1⟩ ⟨?_⟩
    rw [← hk1]
    cases h1 : (getV sPkg l).2 <;> cases h2 : (getV sVer l).2 <;> simp [h1, h2, or2] at c1 ⊢
  rw [if_neg c1]
  have hK2 : (if (getV sVer l).2 = true then k1 else or2 k1 6) = 0 := by
    rw [← hk1]
    cases h1 : (getV sPkg l).2 <;> cases h2 : (getV sVer l).2 <;> simp [h1, h2, or2] at c1 ⊢
  by_cases c2 : nameV (bs (getV sPkg l).1) = false
  · rw [if_pos c2]
    rw [c2] at hN
    exact read_B ⟨hG⟩ ⟨hr⟩ ⟨hl⟩ ⟨hS⟩ ⟨hk1⟩ ⟨hK2⟩ ⟨hN⟩
  rw [if_neg c2]
  rw [Bool.not_eq_false] at c2
  rw [c2] at hN
  by_cases c3 : plainV (bs (getV sVer l).1) = false
  · rw [if_pos c3]
    rw [c3] at hP
    exact read_C ⟨hG⟩ ⟨hr⟩ ⟨hl⟩ ⟨hS⟩ ⟨hk1⟩ ⟨hK2⟩ ⟨hN⟩ ⟨hP⟩
  rw [if_neg c3]
  rw [Bool.not_eq_false] at c3
  rw [c3] at hP
  by_cases c4 : errE_ l ≠ 0
  · rw [if_pos c4]
    obtain ⟨E, hE⟩ : ∃ E, errE_ l = E := ⟨_, rfl⟩
    rw [hE] at c4 ⊢
    exact read_D ⟨hG⟩ ⟨hr⟩ ⟨hl⟩ ⟨hS⟩ ⟨hk1⟩ ⟨hK2⟩ ⟨hN⟩ ⟨hP⟩ ⟨hE⟩ (by simpa using c4) (by simpa using c4)
  rw [if_neg c4]
  have hE := Decidable.not_not.1 c4
  by_cases c5 : 8 < ((datV (bs (getV sPro l).1)).1.length : Int)
  · rw [if_pos c5]
    exact read_E ⟨hG⟩ ⟨hr⟩ ⟨hl⟩ ⟨hS⟩ ⟨hk1⟩ ⟨hK2⟩ ⟨hN⟩ ⟨hP⟩ ⟨hE⟩ (decide_eq_true c5)
  rw [if_neg c5]
  by_cases c6 : (datV (bs (getV sPro l).1)).1.all givenB = false
  · rw [if_pos c6]
    exact read_F ⟨hG⟩ ⟨hr⟩ ⟨hl⟩ ⟨hS⟩ ⟨hk1⟩ ⟨hK2⟩ ⟨hN⟩ ⟨hP⟩ ⟨hE⟩ ⟨c5⟩ (decide_eq_false c5) ⟨c6⟩
  · rw [if_neg c6]
    rw [Bool.not_eq_false] at c6
    exact read_G ⟨hG⟩ ⟨hr⟩ ⟨hl⟩ ⟨hS⟩ ⟨hk1⟩ ⟨hK2⟩ ⟨hN⟩ ⟨hP⟩ ⟨hE⟩ ⟨c5⟩ (decide_eq_false c5) ⟨c6⟩
end Go.Proofs.YtooomjcdlfdnmaaGreatDoor.Ent
