/- Part of a proof over this seat: a library of my own, and what it says of this seat. No statement is proved here. -/
import Derived.Test.YtfpipcafiocdoaaGreatDoorPartBJ
import Derived.Test.YtfpipcafiocdoaaGreatDoorPartBI
namespace Go.Dec
open Go.Proofs
abbrev zBq:List Ty:=[]
abbrev zBr:List Ty:=[.bool]
theorem zBs (n:Nat):Pure Tryz.prog 15 zBq zBr (shown15 n):=Tryz.shown15
end Go.Dec
