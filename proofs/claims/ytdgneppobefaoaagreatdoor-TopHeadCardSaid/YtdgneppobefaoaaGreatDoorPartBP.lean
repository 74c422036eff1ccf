/- Part of a proof over this seat: a library of my own, and what it says of this seat. No statement is proved here. -/
import Derived.Test.YtdgneppobefaoaaGreatDoorPartBO
namespace Go.Dec
open Go.Proofs Go.Ce
theorem yQz (a:Bool):lS Tryz.E 63 bK bR 20000 [a] (mM 1,[])=some ([zT 1],0,0):=by cases a <;> kernel_rfl
theorem yRa (a:Bool):lS Tryz.E 63 bK bR 20000 [a] (mM 2,[])=some ([zT 2],0,0):=by cases a <;> kernel_rfl
theorem yRb (a:Bool):lS Tryz.E 63 bK bR 20000 [a] (mM 3,[])=some ([zT 3],0,0):=by cases a <;> kernel_rfl
theorem yRc (a:Bool):lS Tryz.E 63 bK bR 20000 [a] (mM 4,[])=some ([zT 4],0,0):=by cases a <;> kernel_rfl
theorem yRd (a:Bool):lS Tryz.E 63 bK bR 20000 [a] (mM 5,[])=some ([zT 5],0,0):=by cases a <;> kernel_rfl
theorem yRe (a:Bool):lS Tryz.E 63 bK bR 20000 [a] (mM 6,[])=some ([zT 6],0,0):=by cases a <;> kernel_rfl
theorem yRf (a:Bool):lS Tryz.E 63 bK bR 20000 [a] (mM 7,[])=some ([zT 7],0,0):=by cases a <;> kernel_rfl
theorem yRg (a:Bool):lS Tryz.E 63 bK bR 20000 [a] (mM 8,[])=some ([zT 8],0,0):=by cases a <;> kernel_rfl
theorem yRh (a:Bool):lS Tryz.E 63 bK bR 20000 [a] (mM 9,[])=some ([zT 9],0,0):=by cases a <;> kernel_rfl
end Go.Dec
namespace Go.Dec
open Go.Proofs Go.Ce
theorem yRi (a:Bool):lS Tryz.E 63 bK bR 20000 [a] (kM 1,[])=some ([zU 1],0,0):=by cases a <;> kernel_rfl
theorem yRj (a:Bool):lS Tryz.E 63 bK bR 20000 [a] (kM 2,[])=some ([zU 2],0,0):=by cases a <;> kernel_rfl
theorem yRk (a:Bool):lS Tryz.E 63 bK bR 20000 [a] (kM 3,[])=some ([zU 3],0,0):=by cases a <;> kernel_rfl
theorem yRl (a:Bool):lS Tryz.E 63 bK bR 20000 [a] (kM 4,[])=some ([zU 4],0,0):=by cases a <;> kernel_rfl
theorem yRm (a:Bool):lS Tryz.E 63 bK bR 20000 [a] (kM 5,[])=some ([zU 5],0,0):=by cases a <;> kernel_rfl
end Go.Dec
