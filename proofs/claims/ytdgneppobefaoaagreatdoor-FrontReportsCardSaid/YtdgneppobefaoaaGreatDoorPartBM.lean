/- Part of a proof over this seat: a library of my own, and what it says of this seat. No statement is proved here. -/
import Derived.Test.YtdgneppobefaoaaGreatDoorPartBK
import Derived.Test.YtdgneppobefaoaaGreatDoorPartBL
import Derived.KernelRfl
namespace Go.Dec
open Go.Proofs Go.RowKit Go.Sort Go.Lib
theorem zHj {w w':World} (h:Below w.heap.size w w'):Keep (fun _ _=>False) w w':=Keep.mG (M:=fun _=>False) h.size (fun b hb _=>h.block b hb) (fun _ _ h=>h)
end Go.Dec
