import Derived.Test.YtdkmdicmipcifaaDiskOps
import Derived.Test.YtdkmdicmipcifaaPAx1
import Derived.Maps.RangeWalk
import Derived.RegionTactic
import Derived.ChangeAlike
import Derived.BigQuiet
namespace Go.Proofs.Ytdkmdicmipcifaa.Disk
open Go Go.RowKit Go.Maps Go.Proofs.YtdkmdicmipcifaaW.PrintWords Go.Proofs.YtdkmdicmipcifaaW.PrintLast Go.Proofs.YtdkmdicmipcifaaW.PrintMore
open Go.Proofs.Ytdkmdicmipcifaa.Pure (mk mk_size mk_app mk_toList mk_dataList wrap_in)
attribute [local go_sem] mk_size mk_app field0 field1
theorem w64 {i : Int} (h0 : -9223372036854775808 ≤ i) (h1 : i < 9223372036854775808) : wrap64 i = i := wrap_in i h0 h1
theorem turn_calls {w : World} {p b : Nat} {d : Dk} (hD : At w p b d) (g : Good d) :
    Calls Try.prog 34 #[.pointer (some ⟨p, 0, none⟩)] w fun e w' => e = .returned (.int .i64 (turn d).2) ∧ At w' p b (turn d).1 ∧ Two p b w w' := by
  have c3 := hD.c3
  have c4 := hD.c4
  have f3 := hD.fz 3
  have f4 := hD.fz 4
  have ht := Aside0.mk g.turns
  by_cases h : d.turns = 0
  · have e : turn d = ({ d with gone := true }, 11) := by unfold turn; rw [if_pos h]
    have b1 : (d.turns == 0) = true := by rw [h]; rfl
    have b1' : decide (d.turns = 0) = true := decide_eq_true h
    rw [e]
    have HD := Aside0.mk hD
    clear hD h g
    go_enter Try.func34, Try.ntmps34
    go_wp2
    go_ret
    exact ⟨rfl, HD.out.set4 true, (Two.refl p b w).set _ _⟩
  · have e := turn_ok h
    have b1 : (d.turns == 0) = false := by simpa using h
    have b1' : decide (d.turns = 0) = false := decide_eq_false h
    rw [e]
    have b2 : wrap64 (d.turns - 1) = d.turns - 1 := by have := g.turns; exact w64 (by omega) (by omega)
    have HD := Aside0.mk hD
    clear hD h g
    go_enter Try.func34, Try.ntmps34
    go_wp2
    go_ret
    exact ⟨rfl, HD.out.set3 _, (Two.refl p b w).set _ _⟩
theorem out_calls {w : World} {p b : Nat} {d : Dk} (hD : At w p b d) (g : Good d) (n : Bs) (hn : n.length ≤ maxLen) :
    Calls Try.prog 44 #[.pointer (some ⟨p, 0, none⟩), .string (mk n)] w fun e w' => e = .returned (.tuple #[]) ∧ At w' p b (outD d n) ∧ Two p b w w' := by
  have c0 := hD.c0
  have c1 := hD.c1
  have f1 := hD.fz 1
  have b1 : wrap64 (d.used - ((get n d.L).1.length : Int)) = d.used - (get n d.L).1.length := by
    have := g.nonneg; have := g.fits; have := g.room; have := get_safe (n := n) g
    exact w64 (by omega) (by omega)
  have hl := look_run hD.drew n hn
  have HG := Aside0.mk g
  have HN := Aside0.mk hn
  have HD := Aside0.mk hD
  clear hD g hn
  have hu := Try.underlying56
  go_enter Try.func44, Try.ntmps44
  go_wp2
  go_region
  go_wp2_with (first
    | (at_delete; refine op_del rfl _ _ rfl (HD.out.set1 _).drew rfl n rfl HN.out HG.out.sorted ?_; intro w1 hD1 ht1)
    | go_in)
  (try go_frame)
  go_end0
  exact ⟨rfl, hD1, ((Two.refl p b w).set _ _).drew.turned ht1⟩
theorem put_calls {w : World} {p b : Nat} {d : Dk} (hD : At w p b d) (g : Good d) (n : Bs) (hn : n.length ≤ maxLen) (f : File) (hf : f.1.length ≤ 1000000000000000) :
    Calls Try.prog 33 #[.pointer (some ⟨p, 0, none⟩), .string (mk n), fv f] w fun e w' => e = .returned (.tuple #[]) ∧ At w' p b (putD d n f) ∧ Two p b w w' := by
  have gs := get_safe (n := n) g
  have b0 : wrap64 ((f.1.length : Int) - ((get n d.L).1.length : Int)) = (f.1.length : Int) - (get n d.L).1.length := by
    have := g.nonneg; have := g.fits; have := g.room
    exact w64 (by omega) (by omega)
  have b1 : wrap64 (d.used + ((f.1.length : Int) - ((get n d.L).1.length : Int))) = d.used + ((f.1.length : Int) - (get n d.L).1.length) := by
    have := g.nonneg; have := g.fits; have := g.room
    exact w64 (by omega) (by omega)
  have hA := hD.alloc (.cells #[.string (mk f.1), .int .i64 f.2] 56)
  have c0 := hA.c0
  have c1 := hA.c1
  have f1 := hA.fz 1
  have c0b := (hA.set1 (d.used + ((f.1.length : Int) - ((get n d.L).1.length : Int)))).c0
  have hl := look_run hA.drew n hn
  obtain ⟨wz, hz, hD1, ht1⟩ := put_run (hA.set1 (d.used + ((f.1.length : Int) - ((get n d.L).1.length : Int)))).drew.drew n hn f g.sorted (by have := g.many; unfold maxLen; show d.L.length < _; omega)
  have HD1 := Aside0.mk hD1
  have HT1 := Aside0.mk ht1
  unfold fv at hz
  clear hA hD1 ht1
  have hne : p ≠ w.heap.size := by have := hD.lt; omega
  have HG := Aside0.mk g
  have HN := Aside0.mk hn
  have HD := Aside0.mk hD
  clear hD g hn gs hf
  unfold fv
  go_enter Try.func33, Try.ntmps33
  go_wp2
  go_region
  go_wp2
  go_region
  (try go_frame)
  go_end0
  exact ⟨rfl, HD1.out, (((Two.refl p b w).alloc _).set _ _).drew.drew.turned HT1.out⟩
end Go.Proofs.Ytdkmdicmipcifaa.Disk
