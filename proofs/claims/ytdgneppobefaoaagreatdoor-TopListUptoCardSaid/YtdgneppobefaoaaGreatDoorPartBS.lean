/- Part of a proof over this seat: a library of my own, and what it says of this seat. No statement is proved here. -/
import Derived.Test.YtdgneppobefaoaaGreatDoorPartBL
import Derived.Test.YtdgneppobefaoaaGreatDoorPartBM
import Derived.Test.YtdgneppobefaoaaGreatDoorPartBN
import Derived.Test.YtdgneppobefaoaaGreatDoorPartBO
import Derived.Test.YtdgneppobefaoaaGreatDoorPartBI
import Derived.Test.YtdgneppobefaoaaGreatDoorPartBP
import Derived.Test.YtdgneppobefaoaaGreatDoorPartBR
namespace Go.Dec
open Go.Proofs
abbrev zKe:List Ty:=[]
abbrev zKf:List Ty:=[.bool]
theorem zKz (n:Nat):Pure Tryz.prog 10 zKe zKf (showntop n):=Tryz.showntop
end Go.Dec
namespace Go.Dec
open Go.Proofs
theorem yCi {P:Program} {f:FuncId} {ts rs:List Ty} {F:bP ts->Option (bP rs)} (h:gF P f=true) (hF:∀ x,F x=none):Pure P f ts rs F:=⟨h,fun x y e=>by rw [hF] at e; cases e⟩
abbrev Gt:List Ty:=[(.pair (.pair .bool (.pair (.slice (.pair (.slice (.pair (.int .i64) (.pair (.arr 4 (.int .u64)) (.pair (.int .i64) (.pair (.int .i64) (.pair (.int .i64) (.pair (.int .i64) (.pair (.int .i64) .unit)))))))) (.pair .bool .unit))) (.pair (.slice (.pair (.pair (.pair (.int .i64) (.pair (.int .i64) (.pair (.int .i64) .unit))) (.pair (.pair (.int .i64) (.pair (.int .i64) (.pair (.int .i64) .unit))) (.pair .bool .unit))) (.pair (.int .u8) (.pair .str (.pair .str (.pair (.int .i64) (.pair (.int .i64) (.pair (.int .i64) (.pair (.slice (.pair .str (.pair (.int .i64) .unit))) (.pair .bool (.pair .bool .unit))))))))))) .unit))) (.pair .bool (.pair (.slice .str) (.pair .bool .unit)))),(.pair (.pair .bool (.pair (.slice (.pair (.slice (.pair (.int .i64) (.pair (.arr 4 (.int .u64)) (.pair (.int .i64) (.pair (.int .i64) (.pair (.int .i64) (.pair (.int .i64) (.pair (.int .i64) .unit)))))))) (.pair .bool .unit))) (.pair (.slice (.pair (.pair (.pair (.int .i64) (.pair (.int .i64) (.pair (.int .i64) .unit))) (.pair (.pair (.int .i64) (.pair (.int .i64) (.pair (.int .i64) .unit))) (.pair .bool .unit))) (.pair (.int .u8) (.pair .str (.pair .str (.pair (.int .i64) (.pair (.int .i64) (.pair (.int .i64) (.pair (.slice (.pair .str (.pair (.int .i64) .unit))) (.pair .bool (.pair .bool .unit))))))))))) .unit))) (.pair .bool (.pair (.slice .str) (.pair .bool .unit))))]
abbrev Gu:List Ty:=[.bool]
theorem Qw (n:Nat):Pure Tryz.prog 101 Gt Gu (xV n):=yCi (by kernel_rfl) (fun _=>rfl)
end Go.Dec
