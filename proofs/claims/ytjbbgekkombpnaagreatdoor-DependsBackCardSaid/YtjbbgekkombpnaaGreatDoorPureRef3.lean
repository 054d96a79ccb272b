import Derived.Test.YtjbbgekkombpnaaGreatDoorPureRel
import Derived.Test.YtjbbgekkombpnaaGreatDoorPureDec
import Derived.Test.YtjbbgekkombpnaaGreatDoorPAx0
import Derived.Test.YtjbbgekkombpnaaGreatDoorPAx11
namespace Go.Proofs.YtjbbgekkombpnaaGreatDoor.Pure
open Go.RowKit Go.Proofs.YtjbbgekkombpnaaGreatDoor.PA Go.Proofs.YtjbbgekkombpnaaGreatDoorW.PrintWords Go.Proofs.YtjbbgekkombpnaaGreatDoorW.PrintLast Go.Proofs.YtjbbgekkombpnaaGreatDoorW.PrintMore
theorem dec_all (n : Nat) : ∀ c ∈ Lib.decDigits n, dg c = true := (decDigits_dg n n (Nat.le_refl _)).1
theorem itoa_nat (n : Nat) : Lib.itoa (n : Int) = Lib.decDigits n := by unfold Lib.itoa; rw [if_neg (by omega)]; simp
end Go.Proofs.YtjbbgekkombpnaaGreatDoor.Pure
