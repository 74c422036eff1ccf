/- Part of a proof over this seat: a library of my own, and what it says of this seat. No statement is proved here. -/
import Derived.Test.YtmpoakdpdflfgaaGreatDoorSwAI
import Derived.Test.YtmpoakdpdflfgaaGreatDoorSwAD
import Derived.Test.YtmpoakdpdflfgaaGreatDoorSwAL
namespace Go.Dec
end Go.Dec
namespace Go.Dec
theorem chk_of {ρ:Type} {b:Bool} (h:b=true) (x:Option ρ):chk b x=x:=by subst h; rfl
theorem br_of {ρ:Type} {b:Bool} (h:b=true) (x y:Option ρ):br b x y=x:=by subst h; rfl
theorem br_not {ρ:Type} {b:Bool} (h:b=false) (x y:Option ρ):br b x y=y:=by subst h; rfl
theorem getAt_mid {α:Type} {d:α} {s pre r:List α} {c:α} (h:s=pre++c :: r):getAt d s (pre.length:Int)=c:=by
 subst h
 simp [getAt,List.getD_eq_getElem?_getD]
end Go.Dec
