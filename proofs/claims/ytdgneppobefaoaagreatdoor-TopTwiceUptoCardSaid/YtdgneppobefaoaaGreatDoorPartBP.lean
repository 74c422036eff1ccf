/- Part of a proof over this seat: a library of my own, and what it says of this seat. No statement is proved here. -/
import Derived.Test.YtdgneppobefaoaaGreatDoorPartBG
import Derived.Test.YtdgneppobefaoaaGreatDoorPartAX
namespace Go.Dec
open Go.Proofs
def zEr:List (Int × Nat):=[(112,261)]
theorem zUy:Hands Tryz.prog 206 zEr:=⟨by kernel_rfl,fun p hp=>by
 simp only [zEr,List.mem_cons,List.not_mem_nil,or_false] at hp
 rcases hp with rfl
 ·exact zLv (b:=112) (by kernel_rfl) (fun lo A=>Tryz.Bd.d112 lo A _ rfl)⟩
end Go.Dec
