/- Part of a proof over this seat: a library of my own, and what it says of this seat. No statement is proved here. -/
import Derived.Test.YtmpoakdpdflfgaaGreatDoorSwBG
import Derived.Test.YtmpoakdpdflfgaaGreatDoorSwAX
import Derived.Test.YtmpoakdpdflfgaaGreatDoorSwBQ
import Derived.Test.YtmpoakdpdflfgaaGreatDoorSwBO
namespace Go.Dec
open Go.Proofs
def doesTab:List (Int × Nat):=[(119,101)]
theorem does_hands:Hands Tryz.prog 54 doesTab:=⟨by kernel_rfl,fun p hp=>by
 simp only [doesTab,List.mem_cons,List.not_mem_nil,or_false] at hp
 rcases hp with rfl
 ·exact pure_of_hand (b:=119) (by kernel_rfl) (fun lo A=>Tryz.Bd.d119 lo A _ rfl)⟩
end Go.Dec
