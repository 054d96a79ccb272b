import Derived.Test.YtdkmdicmipcifaaRefName
import Derived.Test.YtdkmdicmipcifaaDiskWalk1
namespace Go.Proofs.Ytdkmdicmipcifaa.Disk
open Go Go.RowKit Go.Maps Go.Proofs.YtdkmdicmipcifaaW.PrintWords Go.Proofs.YtdkmdicmipcifaaW.PrintLast Go.Proofs.YtdkmdicmipcifaaW.PrintMore
open Go.Proofs.Ytdkmdicmipcifaa.Pure (mk mk_size mk_app mk_toList mk_dataList wrap_in)
attribute [local go_sem] mk_size mk_app mk_toList
theorem bl : ∀ a b : Bs, Op.bytesLess a b = bytesBefore a b
  | [], [] => rfl
  | [], _ :: _ => rfl
  | _ :: _, [] => rfl
  | a :: r, b :: s => by
    show (decide (a < b) || (a == b && Op.bytesLess r s)) = (decide (a < b) || (a == b && bytesBefore r s))
    rw [bl r s]
set_option maxHeartbeats 4000000 in
set_option maxRecDepth 100000 in
theorem rturn_calls {w : World} {q c : Nat} {A : Option Addr} {d : Dk} (hD : RAt w q A c d) (g : Good d) :
    Calls Try.prog 52 #[.pointer (some ⟨q, 0, none⟩)] w fun e w' => e = .returned (.int .i64 (turn d).2) ∧ RAt w' q A c (turn d).1 ∧ RT q A A w w' := by
  have c2 := hD.c2
  have c3 := hD.c3
  have f2 := hD.fz 2
  have f3 := hD.fz 3
  have HT := g.turns
  have HD := Aside0.mk hD
  by_cases h : d.turns = 0
  · have e : turn d = ({ d with gone := true }, 11) := by unfold turn; rw [if_pos h]
    have b1 : (d.turns == 0) = true := by rw [h]; rfl
    have b1' : decide (d.turns = 0) = true := decide_eq_true h
    rw [e]
    clear hD h g HT
    go_enter Try.func52, Try.ntmps52
    go_wp2
    go_ret
    exact ⟨rfl, HD.out.set3 true, RT.refl.set _ _⟩
  · have e := turn_ok h
    have b1 : (d.turns == 0) = false := by simpa using h
    rw [e]
    by_cases h1 : d.turns > 0
    · have b2 : decide (d.turns > 0) = true := decide_eq_true h1
      have b3 : wrap64 (d.turns - 1) = d.turns - 1 := w64 (by omega) (by omega)
      have b4 : max (d.turns - 1) (-1) = d.turns - 1 := by omega
      rw [b4]
      clear hD h g HT e h1 b4
      go_enter Try.func52, Try.ntmps52
      go_wp2
      go_ret
      exact ⟨rfl, HD.out.set2 _, RT.refl.set _ _⟩
    · have b2 : decide (d.turns > 0) = false := decide_eq_false h1
      have b4 : max (d.turns - 1) (-1) = d.turns := by omega
      rw [b4]
      clear hD h g HT e h1 b4
      go_enter Try.func52, Try.ntmps52
      go_wp2
      go_ret
      exact ⟨rfl, HD.out, RT.refl⟩
set_option maxHeartbeats 4000000 in
set_option maxRecDepth 100000 in
theorem find_calls {w : World} {q c : Nat} {A : Option Addr} {d : Dk} (hD : RAt w q A c d) (g : Good d) (n : Bs) :
    Calls Try.prog 56 #[.pointer (some ⟨q, 0, none⟩), .string (mk n)] w fun e w' => e = .returned (.tuple #[.int .i64 (pos n d.L : Nat), .bool (has n d.L)]) ∧ RAt w' q A c d ∧ Below w.heap.size w w' := by
  have c0 := hD.c0
  have HD := Aside0.mk hD
  have hm := g.many
  have HS := Aside0.mk g.sorted
  clear hD g
  go_enter Try.func56, Try.ntmps56
  go_wp2
  go_loopw [6] (fun v6 wr => ∃ (i : Nat), v6 = .int .i64 i ∧ Aside0 (i ≤ pos n d.L) ∧ wr = w) (fun i _ => d.L.length - (intOf i).toNat)
  case atStart => exact ⟨0, rfl, ⟨Nat.zero_le _⟩, rfl⟩
  case round =>
    obtain ⟨i, rfl, HI, rfl⟩ := hrel
    by_cases hi : i < d.L.length
    · have b1 : decide ((i : Int) < (d.L.length : Int)) = true := decide_eq_true (by omega)
      have bw : wrap64 ((i : Int) + 1) = ((i + 1 : Nat) : Int) := by rw [w64 (by omega) (by omega)]; rfl
      have q0 : (0 : Int) ≤ (i : Int) := by omega
      have q1 : (i : Int) < (d.L.length : Int) := by omega
      obtain ⟨r, off, y, rfl, hy, hrq, hrl, k0, k1, k2, fz⟩ := HD.out.at_ i hi
      have HY := Aside0.mk hy
      by_cases hb : bytesBefore y.1 n = true
      · have HB := Aside0.mk (pos_go HI.out hy hb)
        have hlt : Op.bytesLess y.1 n = true := by rw [bl]; exact hb
        clear hy hb hm
        go_wp2
        exact ⟨⟨i + 1, by rw [bw], HB, trivial⟩, by rw [bw]; simp only [intOf]; omega⟩
      · have hb' : bytesBefore y.1 n = false := by simpa using hb
        have hlt : Op.bytesLess y.1 n = false := by rw [bl]; exact hb'
        obtain rfl := pos_stop HI.out hy hb'
        have hh := has_pos (n := n) HS.out
        rw [hy] at hh
        have HH := Aside0.mk hh
        clear hy hb hm hb' hh
        go_wp2
        go_region
        go_wp2
        go_ret2
        exact ⟨by rw [HH.out]; rfl, HD.out.drew, (Below.refl _ wr).drew⟩
    · have b1 : decide ((i : Int) < (d.L.length : Int)) = false := decide_eq_false (by omega)
      obtain rfl := pos_end HI.out (by omega)
      have hh := has_pos (n := n) HS.out
      rw [List.getElem?_eq_none (by omega)] at hh
      have HH := Aside0.mk hh
      clear hm hh
      go_wp2
      go_region
      go_wp2
      go_ret2
      exact ⟨by rw [HH.out]; rfl, HD.out.drew, (Below.refl _ wr).drew⟩
end Go.Proofs.Ytdkmdicmipcifaa.Disk
