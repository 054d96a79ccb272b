import Derived.Test.YtjbbgekkombpnaaGreatDoorPureDepRef2
import Derived.Test.YtjbbgekkombpnaaGreatDoorPAx11
namespace Go.Proofs.YtjbbgekkombpnaaGreatDoor.Pure
open Go.RowKit Go.Proofs.YtjbbgekkombpnaaGreatDoor.PA Go.Proofs.YtjbbgekkombpnaaGreatDoorW.PrintWords Go.Proofs.YtjbbgekkombpnaaGreatDoorW.PrintLast Go.Proofs.YtjbbgekkombpnaaGreatDoorW.PrintMore
theorem shL1_a : depV [97, 98, 32, 40, 62, 61, 32, 49, 41, 32, 124, 32, 99, 100, 32, 44, 32, 101, 102] = (shL1, 0) := by kernel_rfl
theorem shL1_b : depV [97, 98, 44] = ([], 3) := by kernel_rfl
theorem shL1_d : datV [97, 98, 44, 32, 99, 100, 32, 40, 61, 32, 49, 41] = (shL2, 0) := by kernel_rfl
theorem shL1_e : datV [97, 98, 32, 124, 32, 99, 100] = ([], 5) := by kernel_rfl
theorem shL1_g : depends_Print.f 300 shL1 = some (⟨#[97, 98, 32, 40, 62, 61, 32, 49, 41, 32, 124, 32, 99, 100, 44, 32, 101, 102]⟩ : ByteArray) := by decide +kernel
theorem shL1_i : depends_Open.f 300 shL1 [⟨⟨#[99, 100]⟩, 0, ⟨#[]⟩⟩] = some [1] := by decide +kernel
theorem shL1_j : keelsonlaw4_sameInts.f 300 [1] [1] = some true := by decide +kernel
theorem shown4_ev : Ev (fun k => keelsonlaw4_shown.f k) true := by
  obtain ⟨Ka, ha⟩ := DParse_f [97, 98, 32, 40, 62, 61, 32, 49, 41, 32, 124, 32, 99, 100, 32, 44, 32, 101, 102] (by decide)
  obtain ⟨Kb, hb⟩ := DParse_f [97, 98, 44] (by decide)
  obtain ⟨Kc, hc⟩ := DParse_f [] (by decide)
  obtain ⟨Kd, hd⟩ := DAtoms_f [97, 98, 44, 32, 99, 100, 32, 40, 61, 32, 49, 41] (by decide)
  obtain ⟨Ke, he⟩ := DAtoms_f [97, 98, 32, 124, 32, 99, 100] (by decide)
  obtain ⟨Kf, hf⟩ := same_f shL1 (by decide) (by decide)
  obtain ⟨Kg, hg⟩ : Ev (fun k => depends_Print.f k shL1) _ := Ev.of (fun k => depends_Print.mono _ k) shL1_g
  obtain ⟨Kh, hh⟩ := sameAtoms_f shL2 (by decide)
  obtain ⟨Ki, hi⟩ : Ev (fun k => depends_Open.f k shL1 [⟨⟨#[99, 100]⟩, 0, ⟨#[]⟩⟩]) _ := Ev.of (fun k => depends_Open.mono k _ _) shL1_i
  obtain ⟨Kj, hj⟩ : Ev (fun k => keelsonlaw4_sameInts.f k [1] [1]) _ := Ev.of (fun k => keelsonlaw4_sameInts.mono _ _ k) shL1_j
  rw [shL1_a] at ha
  rw [shL1_b] at hb
  rw [shL1_d] at hd
  rw [shL1_e] at he
  refine ⟨Ka + Kb + Kc + Kd + Ke + Kf + Kg + Kh + Ki + Kj, fun k hk => ?_⟩
  show keelsonlaw4_shown.f k = some true
  unfold keelsonlaw4_shown.f
  rw [if_pos ⟨ha k (by omega), hb k (by omega), hc k (by omega), hd k (by omega), he k (by omega), hf k (by omega), hg k (by omega), hh k (by omega), hi k (by omega), hj k (by omega)⟩]
end Go.Proofs.YtjbbgekkombpnaaGreatDoor.Pure
