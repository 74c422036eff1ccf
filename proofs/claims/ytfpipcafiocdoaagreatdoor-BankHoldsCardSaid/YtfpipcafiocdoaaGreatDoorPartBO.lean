/- Part of a proof over this seat: a library of my own, and what it says of this seat. No statement is proved here. -/
import Derived.Test.YtfpipcafiocdoaaGreatDoorPartBG
import Derived.Test.YtfpipcafiocdoaaGreatDoorPartAX
namespace Go.Dec
open Go.Proofs
def nE:List (Int × Nat):=[(123,63),(100,70),(103,71),(71,71),(104,71),(72,71),(120,71)]
theorem Gh:Hands Tryz.prog 39 nE:=⟨by kernel_rfl,fun p hp=>by
 simp only [nE,List.mem_cons,List.not_mem_nil,or_false] at hp
 rcases hp with rfl | rfl | rfl | rfl | rfl | rfl | rfl
 ·exact jK (b:=123) (by kernel_rfl) (fun lo A=>Tryz.Bd.d123 lo A _ rfl)
 ·exact jK (b:=100) (by kernel_rfl) (fun lo A=>Tryz.Bd.d100 lo A _ rfl)
 ·exact jK (b:=103) (by kernel_rfl) (fun lo A=>Tryz.Bd.d103 lo A _ rfl)
 ·exact jK (b:=71) (by kernel_rfl) (fun lo A=>Tryz.Bd.d71 lo A _ rfl)
 ·exact jK (b:=104) (by kernel_rfl) (fun lo A=>Tryz.Bd.d104 lo A _ rfl)
 ·exact jK (b:=72) (by kernel_rfl) (fun lo A=>Tryz.Bd.d72 lo A _ rfl)
 ·exact jK (b:=120) (by kernel_rfl) (fun lo A=>Tryz.Bd.d120 lo A _ rfl)⟩
end Go.Dec
