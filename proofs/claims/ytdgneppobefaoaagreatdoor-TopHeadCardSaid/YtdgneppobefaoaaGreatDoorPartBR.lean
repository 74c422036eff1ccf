/- Part of a proof over this seat: a library of my own, and what it says of this seat. No statement is proved here. -/
import Derived.Test.YtdgneppobefaoaaGreatDoorPartBG
import Derived.Test.YtdgneppobefaoaaGreatDoorPartAX
import Derived.Test.YtdgneppobefaoaaGreatDoorPartBJ
import Derived.Test.YtdgneppobefaoaaGreatDoorPartBL
import Derived.Test.YtdgneppobefaoaaGreatDoorPartBM
import Derived.Test.YtdgneppobefaoaaGreatDoorPartBN
import Derived.Test.YtdgneppobefaoaaGreatDoorPartBQ
import Derived.Test.YtdgneppobefaoaaGreatDoorPartBI
namespace Go.Dec
open Go.Proofs
def Ik:List (Int × Nat):=[(112,261),(100,257),(113,263),(123,250)]
theorem Hr:Hands Tryz.prog 206 Ik:=⟨by kernel_rfl,fun p hp=>by
 simp only [Ik,List.mem_cons,List.not_mem_nil,or_false] at hp
 rcases hp with rfl | rfl | rfl | rfl
 ·exact zP (b:=112) (by kernel_rfl) (fun lo A=>Tryz.Bd.d112 lo A _ rfl)
 ·exact zP (b:=100) (by kernel_rfl) (fun lo A=>Tryz.Bd.d100 lo A _ rfl)
 ·exact zP (b:=113) (by kernel_rfl) (fun lo A=>Tryz.Bd.d113 lo A _ rfl)
 ·exact zP (b:=123) (by kernel_rfl) (fun lo A=>Tryz.Bd.d123 lo A _ rfl)⟩
end Go.Dec
namespace Go.Dec
def zV (_n:Nat) (_x:((Bool × List (List (Int × List (Int) × Int × Int × Int × Int × Int × Unit) × Bool × Unit) × List (((Int × Int × Int × Unit) × (Int × Int × Int × Unit) × Bool × Unit) × Int × List UInt8 × List UInt8 × Int × Int × Int × List (List UInt8 × Int × Unit) × Bool × Bool × Unit) × Unit) × Bool × List (List UInt8) × Bool × Unit) × ((Bool × List (List (Int × List (Int) × Int × Int × Int × Int × Int × Unit) × Bool × Unit) × List (((Int × Int × Int × Unit) × (Int × Int × Int × Unit) × Bool × Unit) × Int × List UInt8 × List UInt8 × Int × Int × Int × List (List UInt8 × Int × Unit) × Bool × Bool × Unit) × Unit) × Bool × List (List UInt8) × Bool × Unit)):Option ((Bool)):=none
end Go.Dec
namespace Go.Dec
open Go.Proofs
abbrev zJq:List Ty:=[]
abbrev zJr:List Ty:=[.bool]
theorem zKh (n:Nat):Pure Tryz.prog 10 zJq zJr (showntop n):=Tryz.showntop
end Go.Dec
namespace Go.Dec
open Go.Proofs
theorem yCc {P:Program} {f:FuncId} {ts rs:List Ty} {F:bW ts->Option (bW rs)} (h:gK P f=true) (hF:∀ x,F x=none):Pure P f ts rs F:=⟨h,fun x y e=>by rw [hF] at e; cases e⟩
abbrev Jp:List Ty:=[(.pair (.pair .bool (.pair (.slice (.pair (.slice (.pair (.int .i64) (.pair (.arr 4 (.int .u64)) (.pair (.int .i64) (.pair (.int .i64) (.pair (.int .i64) (.pair (.int .i64) (.pair (.int .i64) .unit)))))))) (.pair .bool .unit))) (.pair (.slice (.pair (.pair (.pair (.int .i64) (.pair (.int .i64) (.pair (.int .i64) .unit))) (.pair (.pair (.int .i64) (.pair (.int .i64) (.pair (.int .i64) .unit))) (.pair .bool .unit))) (.pair (.int .u8) (.pair .str (.pair .str (.pair (.int .i64) (.pair (.int .i64) (.pair (.int .i64) (.pair (.slice (.pair .str (.pair (.int .i64) .unit))) (.pair .bool (.pair .bool .unit))))))))))) .unit))) (.pair .bool (.pair (.slice .str) (.pair .bool .unit)))),(.pair (.pair .bool (.pair (.slice (.pair (.slice (.pair (.int .i64) (.pair (.arr 4 (.int .u64)) (.pair (.int .i64) (.pair (.int .i64) (.pair (.int .i64) (.pair (.int .i64) (.pair (.int .i64) .unit)))))))) (.pair .bool .unit))) (.pair (.slice (.pair (.pair (.pair (.int .i64) (.pair (.int .i64) (.pair (.int .i64) .unit))) (.pair (.pair (.int .i64) (.pair (.int .i64) (.pair (.int .i64) .unit))) (.pair .bool .unit))) (.pair (.int .u8) (.pair .str (.pair .str (.pair (.int .i64) (.pair (.int .i64) (.pair (.int .i64) (.pair (.slice (.pair .str (.pair (.int .i64) .unit))) (.pair .bool (.pair .bool .unit))))))))))) .unit))) (.pair .bool (.pair (.slice .str) (.pair .bool .unit))))]
abbrev Jq:List Ty:=[.bool]
theorem Sn (n:Nat):Pure Tryz.prog 101 Jp Jq (zV n):=yCc (by kernel_rfl) (fun _=>rfl)
end Go.Dec
