/- Part of a proof over this seat: a library of my own, and what it says of this seat. No statement is proved here. -/
import Derived.Test.YtdgneppobefaoaaGreatDoorPartAK
import Derived.Test.YtdgneppobefaoaaGreatDoorPartAE
import Derived.Test.YtdgneppobefaoaaGreatDoorPartAM
namespace Go.Dec
end Go.Dec
namespace Go.Dec
theorem jK {ρ:Type} {b:Bool} (h:b=true) (x:Option ρ):chk b x=x:=by subst h; rfl
theorem mP {ρ:Type} {b:Bool} (h:b=true) (x y:Option ρ):br b x y=x:=by subst h; rfl
theorem dM {ρ:Type} {b:Bool} (h:b=false) (x y:Option ρ):br b x y=y:=by subst h; rfl
end Go.Dec
