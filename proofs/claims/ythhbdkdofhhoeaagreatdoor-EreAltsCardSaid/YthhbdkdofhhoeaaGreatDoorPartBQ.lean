/- Part of a proof over this seat: a library of my own, and what it says of this seat. No statement is proved here. -/
import Derived.Test.YthhbdkdofhhoeaaGreatDoorPartBP
namespace Go.Dec
def gM:Pt->Pt->Prop
 |.empty,.empty=>True
 |.bol,.bol=>True
 |.eol,.eol=>True
 |.bytes p,.bytes q=>rR p=rR q
 |.cat a b,.cat c d=>gM a c/\gM b d
 |.alt a b,.alt c d=>gM a c/\gM b d
 |.times a lo hi,.times c lo' hi'=>gM a c/\lo=lo'/\hi=hi'
 |.group a _,.group c _=>gM a c
 |.ref m,.ref m'=>m=m'
 |_,_=>False
end Go.Dec
