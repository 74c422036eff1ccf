/- Part of a proof over this seat: a library of my own, and what it says of this seat. No statement is proved here. -/
import Derived.Test.YtclpnkdjjhclnaaGreatDoorPartAM
namespace Go.Dec
section
variable {C : Ctx} {β : Nat -> Pl} {w w1 : World} {h : List Ob} {σ : St} {a : Act}
end
end Go.Dec
