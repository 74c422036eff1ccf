/- Part of a proof over this seat: a library of my own, and what it says of this seat. No statement is proved here. -/
import Derived.Test.YtfpipcafiocdoaaGreatDoorPartBG
import Derived.Test.YtfpipcafiocdoaaGreatDoorPartAX
namespace Go.Dec
open Go.Proofs
def Ka:List (Int × Nat):=[(97,65),(114,77)]
theorem Qz:Hands Tryz.prog 39 Ka:=⟨by kernel_rfl,fun p hp=>by
 simp only [Ka,List.mem_cons,List.not_mem_nil,or_false] at hp
 rcases hp with rfl | rfl
 ·exact Ij (b:=97) (by kernel_rfl) (fun lo A=>Tryz.Bd.d97 lo A _ rfl)
 ·exact Ij (b:=114) (by kernel_rfl) (fun lo A=>Tryz.Bd.d114 lo A _ rfl)⟩
end Go.Dec
