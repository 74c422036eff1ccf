/- Part of a proof over this seat: a library of my own, and what it says of this seat. No statement is proved here. -/
import Derived.Test.YtmpoakdpdflfgaaGreatDoorPartBG
import Derived.Test.YtmpoakdpdflfgaaGreatDoorPartAX
import Derived.Test.YtmpoakdpdflfgaaGreatDoorPartBQ
import Derived.Test.YtmpoakdpdflfgaaGreatDoorPartBO
namespace Go.Dec
open Go.Proofs
def Yi:List (Int × Nat):=[(113,99)]
theorem zNr:Hands Tryz.prog 54 Yi:=⟨by kernel_rfl,fun p hp=>by
 simp only [Yi,List.mem_cons,List.not_mem_nil,or_false] at hp
 rcases hp with rfl
 ·exact zFs (b:=113) (by kernel_rfl) (fun lo A=>Tryz.Bd.d113 lo A _ rfl)⟩
end Go.Dec
