import Derived.Test.YtdkmdicmipcifaaDiskWalk2
import Derived.Test.YtdkmdicmipcifaaDiskName
namespace Go.Proofs.Ytdkmdicmipcifaa.Disk
open Go Go.RowKit Go.Maps Go.Proofs.YtdkmdicmipcifaaW.PrintWords Go.Proofs.YtdkmdicmipcifaaW.PrintLast Go.Proofs.YtdkmdicmipcifaaW.PrintMore
open Go.Proofs.Ytdkmdicmipcifaa.Pure (mk mk_size mk_app mk_toList mk_dataList wrap_in)
attribute [local go_sem] mk_size mk_app
theorem used_calls {w : World} {p b : Nat} {d : Dk} (hD : At w p b d) :
    Calls Try.prog 26 #[.pointer (some ⟨p, 0, none⟩)] w fun e w' => e = .returned (.int .i64 d.used) ∧ w' = w := by
  have c1 := hD.c1
  clear hD
  go_enter Try.func26, Try.ntmps26
  go_wp2
  go_ret
  exact ⟨rfl, rfl⟩
theorem dead_calls {w : World} {p b : Nat} {d : Dk} (hD : At w p b d) :
    Calls Try.prog 25 #[.pointer (some ⟨p, 0, none⟩)] w fun e w' => e = .returned (.bool d.gone) ∧ w' = w := by
  have c4 := hD.c4
  clear hD
  go_enter Try.func25, Try.ntmps25
  go_wp2
  go_ret
  exact ⟨rfl, rfl⟩
theorem limit_calls {w : World} {p b : Nat} {d : Dk} (hD : At w p b d) (t : Int) :
    Calls Try.prog 14 #[.pointer (some ⟨p, 0, none⟩), .int .i64 t] w fun e w' => e = .returned (.tuple #[]) ∧ At w' p b (limit d t) ∧ Two p b w w' := by
  have c3 := hD.c3
  have f3 := hD.fz 3
  have HD := Aside0.mk hD
  clear hD
  go_enter Try.func14, Try.ntmps14
  go_wp2
  go_end0
  exact ⟨rfl, HD.out.set3 _, (Two.refl p b w).set _ _⟩
set_option maxHeartbeats 4000000 in
set_option maxRecDepth 100000 in
theorem read_calls {w : World} {p b : Nat} {d : Dk} (hD : At w p b d) (g : Good d) (n : Bs) (hn : n.length ≤ maxLen) :
    Calls Try.prog 12 #[.pointer (some ⟨p, 0, none⟩), .string (mk n)] w fun e w' => e = .returned (.tuple #[.string (mk (read d n).1), .int .i64 (read d n).2]) ∧ At w' p b d ∧ Two p b w w' := by
  have e : read d n = ((there d n false).1.1, (there d n false).2.2) := rfl
  have e1 := there_file d n
  rw [e]
  have hu := Try.underlying56
  have HE := Aside0.mk e1
  have HG := Aside0.mk g
  have HN := Aside0.mk hn
  have HD := Aside0.mk hD
  clear hD g hn e e1
  go_enter Try.func12, Try.ntmps12
  go_wp2_with (first
    | (go_at_call 28; refine (there_calls HD.out HG.out n HN.out false).mono ?_; rintro e w1 ⟨rfl, hD1, ht1⟩; unfold fv)
    | go_in)
  go_ret2
  rw [HE.out] at hD1
  exact ⟨rfl, hD1.alloc _, ht1.alloc _⟩
set_option maxHeartbeats 4000000 in
set_option maxRecDepth 100000 in
theorem remove_calls {w : World} {p b : Nat} {d : Dk} (hD : At w p b d) (g : Good d) (n : Bs) (hn : n.length ≤ maxLen) :
    Calls Try.prog 32 #[.pointer (some ⟨p, 0, none⟩), .string (mk n)] w fun e w' => e = .returned (.int .i64 (remove d n).2) ∧ At w' p b (remove d n).1 ∧ Two p b w w' := by
  have hu := Try.underlying56
  have HG1 := Aside0.mk (there_good g n true)
  have HG := Aside0.mk g
  have HN := Aside0.mk hn
  have HD := Aside0.mk hD
  by_cases h : (there d n true).2.2 = 0
  · have e : remove d n = (outD (there d n true).2.1 n, 0) := by unfold remove; rw [if_pos h]
    rw [e]
    clear hD g hn e
    go_enter Try.func32, Try.ntmps32
    go_wp2_with (first
      | (go_at_call 28; refine (there_calls HD.out HG.out n HN.out true).mono ?_; rintro e w1 ⟨rfl, hD1, ht1⟩; rw [h]; have HD1 := Aside0.mk hD1; have HT1 := Aside0.mk ht1; clear hD1 ht1; unfold fv)
      | (go_at_call 44; refine (out_calls (HD1.out.alloc _) HG1.out n HN.out).mono ?_; rintro e w2 ⟨rfl, hD2, ht2⟩)
      | go_in)
    go_ret
    exact ⟨rfl, hD2, (HT1.out.alloc _).trans ht2⟩
  · have e : remove d n = (there d n true).2 := by unfold remove; rw [if_neg h]
    have b0 : ((there d n true).2.2 == 0) = false := by simpa using h
    rw [e]
    clear hD g hn e
    go_enter Try.func32, Try.ntmps32
    go_wp2_with (first
      | (go_at_call 28; refine (there_calls HD.out HG.out n HN.out true).mono ?_; rintro e w1 ⟨rfl, hD1, ht1⟩; unfold fv)
      | go_in)
    go_ret
    exact ⟨rfl, hD1.alloc _, ht1.alloc _⟩
end Go.Proofs.Ytdkmdicmipcifaa.Disk
