import Derived.Test.YtjbbgekkombpnaaGreatDoorPureDep
import Derived.Test.YtjbbgekkombpnaaGreatDoorPureRelRef
import Derived.Test.YtjbbgekkombpnaaGreatDoorPAx0
import Derived.Test.YtjbbgekkombpnaaGreatDoorPAx11
import Derived.Test.YtjbbgekkombpnaaGreatDoorPAx16
import Derived.Test.YtjbbgekkombpnaaGreatDoorPAx18
import Derived.Test.YtjbbgekkombpnaaGreatDoorPAx7
namespace Go.Proofs.YtjbbgekkombpnaaGreatDoor.Pure
open Go.RowKit Go.Proofs.YtjbbgekkombpnaaGreatDoor.PA Go.Proofs.YtjbbgekkombpnaaGreatDoorW.PrintWords Go.Proofs.YtjbbgekkombpnaaGreatDoorW.PrintLast Go.Proofs.YtjbbgekkombpnaaGreatDoorW.PrintMore
open Dep (pcs splitB trimS)
theorem sameAtoms_l0 (l : List S3) (hl : l.length < 1000000) : ∀ (n i : Nat), n + i = l.length → Ev (fun k => keelsonlaw4_sameAtoms.l0 k l l (i : Int)) true
  | 0, i, hn => by
    refine Ev.shift ?_
    simp only [keelsonlaw4_sameAtoms.l0]
    exact Ev.neg (by omega) (Ev.some_ _)
  | n + 1, i, hn => by
    refine Ev.shift ?_
    simp only [keelsonlaw4_sameAtoms.l0]
    refine Ev.pos (by omega) (Ev.pos (by omega) (Ev.pos (by omega) (Ev.neg (by simp) ?_)))
    rw [wrap_succ i (by omega)]
    exact sameAtoms_l0 l hl n (i + 1) (by omega)
theorem sameAtoms_f (l : List S3) (hl : l.length < 1000000) : Ev (fun k => keelsonlaw4_sameAtoms.f k l l) true := by
  simp only [keelsonlaw4_sameAtoms.f]
  exact Ev.pos trivial (sameAtoms_l0 l hl l.length 0 (by omega))
theorem same_l0 (l : List (List S3)) (hl : l.length < 1000000) (hg : ∀ g ∈ l, g.length < 1000000) : ∀ (n i : Nat), n + i = l.length → Ev (fun k => keelsonlaw4_same.l0 k l l (i : Int)) true
  | 0, i, hn => by
    refine Ev.shift ?_
    simp only [keelsonlaw4_same.l0]
    exact Ev.neg (by omega) (Ev.some_ _)
  | n + 1, i, hn => by
    have hi : i < l.length := by omega
    have hrd : rd_L4 l (i : Int) = l[i] := by
      unfold rd_L4
      rw [Int.toNat_natCast, List.getD_eq_getElem?_getD, List.getElem?_eq_getElem hi]
      rfl
    refine Ev.shift ?_
    simp only [keelsonlaw4_same.l0, hrd]
    refine Ev.pos (by omega) (Ev.pos (by omega) (Ev.pos (by omega) (Ev.bind (sameAtoms_f _ (hg _ (List.getElem_mem hi))) (Ev.pos rfl ?_))))
    rw [wrap_succ i (by omega)]
    exact same_l0 l hl hg n (i + 1) (by omega)
theorem same_f (l : List (List S3)) (hl : l.length < 1000000) (hg : ∀ g ∈ l, g.length < 1000000) : Ev (fun k => keelsonlaw4_same.f k l l) true := by
  simp only [keelsonlaw4_same.f]
  exact Ev.pos trivial (same_l0 l hl hg l.length 0 (by omega))
end Go.Proofs.YtjbbgekkombpnaaGreatDoor.Pure

