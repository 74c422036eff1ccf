/- Part of a proof over this seat: a library of my own, and what it says of this seat. No statement is proved here. -/
import Derived.Test.YthhbdkdofhhoeaaGreatDoorPartBL
import Derived.Test.YthhbdkdofhhoeaaGreatDoorPartBC
import Derived.Test.YthhbdkdofhhoeaaGreatDoorPartBM
namespace Go.Dec
section
variable {n:Nat}{s r:List UInt8}{b:Nat}{l:List Nd}
end
end Go.Dec
namespace Go.Dec
section
variable {n:Nat}{s r:List UInt8}{b:Nat}{l:List Nd}{rows:List UInt8->Nat->jA (List (List Pt))}
end
end Go.Dec
namespace Go.Dec
section
variable {n:Nat}{s:List UInt8}{l:List Nd}
end
end Go.Dec
namespace Go.Dec
end Go.Dec
