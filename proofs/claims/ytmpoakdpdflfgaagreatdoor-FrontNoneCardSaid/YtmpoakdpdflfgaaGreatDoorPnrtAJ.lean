/- Part of a proof over this seat: a library of my own, and what it says of this seat. No statement is proved here. -/
import Derived.Test.YtmpoakdpdflfgaaGreatDoorPnrtAI
import Derived.WalkKit
import Derived.OwnWalkIn
import Derived.TacticsInMore
import Derived.Lib.SliceRun
namespace Go.Dec
open Go.RowKit
section
variable {P:Program} {f:FuncId} {fn:Func} {t tb e:TypeId} {p0 p1 p2 p3 p4 p5 p6 p7:String}
end
end Go.Dec
namespace Go.Dec
section
variable {C:Ctx} {β:Nat->Pl} {w w1:World} {h:List Ob} {σ:St} {a:Act}
end
end Go.Dec
