/- Part of a proof over this seat: a library of my own, and what it says of this seat. No statement is proved here. -/
import Derived.Test.YtlimifngdjkogaaGreatDoorProg
import Derived.Test.YtlimifngdjkogaaGreatDoorPartBT
import Derived.Test.YtlimifngdjkogaaGreatDoorPartBU
import Derived.KernelRfl
namespace Go.Dec
open Go.Proofs
set_option linter.unusedVariables false
def tab : Tab := [(3, ⟨.int .i64, 1, 8, [.val (.int .i64) 0], some (.int .i64), false⟩),
 (4, ⟨.bool, 1, 1, [.val .bool false], some .bool, false⟩),
 (5, ⟨.int .u8, 1, 1, [.val (.int .u8) 0], some (.int .u8), false⟩),
 (9, ⟨.str, 1, 16, [.val .str []], some .str, false⟩),
 (22, ⟨.slice 25, 1, 24, [.bK], some (.slice cZ), false⟩),
 (25, ⟨.struct [(0, 9), (1, 4)], 2, 24, [.val .str [], .val .bool false], some cZ, true⟩),
 (28, ⟨.slice 106, 1, 24, [.bK], some (.slice cZ), false⟩),
 (97, ⟨.ptr 100, 1, 8, [.gD], none, false⟩),
 (98, ⟨.slice 5, 1, 24, [.bK], some (.slice (.int .u8)), false⟩),
 (100, ⟨.struct [(0, 97), (1, 98)], 2, 32, [.gD, .bK], none, false⟩),
 (102, ⟨.iface false, 1, 16, [.val .err false], some .err, false⟩),
 (106, ⟨.struct [(0, 9), (1, 4)], 2, 24, [.val .str [], .val .bool false], some cZ, true⟩)]
theorem zX : aR Tryz.prog tab := Ny (by kernel_rfl)
theorem mixed : Tryz.prog.follows .mixedOrders = true := by kernel_rfl
abbrev jB : Sh := ⟨2, [⟨0, false, [.ptr 0 0]⟩, ⟨1, false, [.v .str]⟩], [.box 100 [.aX 0 0, .own 1], .row 5 (.int .u8)]⟩
abbrev fC : Sh := ⟨2, [⟨0, false, [.v (.int .i64)]⟩, ⟨1, false, [.v .err]⟩], [.box 100 [.aX 0 0, .own 1], .row 5 (.int .u8)]⟩
abbrev Br : List Ty := [.slice cZ]
abbrev uT : List Ty := [.str]
abbrev zY : List Ty := [.slice cZ]
abbrev sS : List Ty := [.slice cZ]
abbrev zZ : List Ty := [.slice cZ]
abbrev sU : List Ty := [.str]
abbrev Dx : List Ty := [.slice cZ]
abbrev sV : List Ty := [.bool]
def nM (n : Nat) : An (fC.X) := .nil
theorem lH (n : Nat) : Er Tryz.prog 32 jB fC (bD n) :=
 zCg (Γ := Ct _ [(55, peM oK oL (lS n))] []) (an := nM n) (co := [.gc [0, 1]]) Tryz.func32 rfl (by kernel_rfl) zX (vF (all_cons (Pq (yG n)) (all_nil)) (vG)) mixed (nZ _ _ rfl) (by kernel_rfl) (by kernel_rfl) (fun x => by kernel_rfl)
def Sg (n : Nat) : An (dL uT) := (.mk .nil (.mk .nil (.mk .nil (.mk (.mk .nil (.mk (.loop ⟨23, [⟨3, false, [.ptr 0 0]⟩, ⟨4, false, [.v .str]⟩, ⟨7, false, [.v (.slice cZ)]⟩, ⟨8, false, [.v (.int .i64)]⟩, ⟨9, false, [.v (.int .i64)]⟩], [.box 100 [.aX 0 0, .own 1], .row 5 (.int .u8)]⟩ [.keep [false, false, false, true, true, false, false, true, true, true], .gcA 0, .ownB 0 1 98, .orn 0 0 0 0, .gcA 0] [.keep [false, false, false, true, true, false, false, true, true, true], .gcA 0, .gcA 0] n .nil) .nil []) []) .nil []) []) []) [])
theorem Hg (n : Nat) : Pure Tryz.prog 10 Br uT (nJ n) :=
 Ah (Γ := Ct _ [(32, peM jB fC (bD n)), (33, peM nI jX (Builder_String n))] []) (an := Sg n) Tryz.func10 rfl (by kernel_rfl) zX (vF (all_cons (Pq (lH n)) (all_cons (Pq (xV n)) (all_nil))) (vG)) mixed (nZ _ _ rfl) (fun x => by kernel_rfl)
def Mk (n : Nat) : An (dL sS) := (.mk .nil (.mk .nil (.mk (.mk .nil (.mk (.loop ⟨20, [⟨0, false, [.v (.slice cZ)]⟩, ⟨3, false, [.own 0]⟩, ⟨4, false, [.v (.int .i64)]⟩], [.row 106 cZ]⟩ [.keep [true, false, false, true, true], .gcA 0, .zBp 3 28, .gcA 0] [.keep [true, false, false, true, true], .gcA 0, .gcA 0] n .nil) .nil []) []) .nil []) []) [])
theorem Dy (n : Nat) : Pure Tryz.prog 12 zY sS (iQ n) :=
 Ah (Γ := Ct _ [] []) (an := Mk n) Tryz.func12 rfl (by kernel_rfl) zX (vF (all_nil) (vG)) mixed (nZ _ _ rfl) (fun x => by kernel_rfl)
def Ml (n : Nat) : An (dL sU) := (.mk .nil (.mk .nil (.mk (.mk .nil (.mk (.loop ⟨39, [⟨0, false, [.v (.slice cZ)]⟩, ⟨3, false, [.v .str]⟩, ⟨4, false, [.v (.int .i64)]⟩], []⟩ [.keep [true, false, false, true, true, false, false, false, false, false, false, false, false, false, false, false, false, false, false, false, false], .gcA 0, .gcA 0] [.keep [true, false, false, true, true, false, false, false, false, false, false, false, false, false, false, false, false, false, false, false, false], .gcA 0, .gcA 0] n .nil) .nil []) []) .nil []) []) [])
theorem Dz (n : Nat) : Pure Tryz.prog 11 zZ sU (iR n) :=
 Ah (Γ := Ct _ [] []) (an := Ml n) Tryz.func11 rfl (by kernel_rfl) zX (vF (all_nil) (vG)) mixed (nZ _ _ rfl) (fun x => by kernel_rfl)
def Aw (n : Nat) : An (dL sV) := (.mk .nil (.mk .nil (.mk .nil (.mk (.mk .nil (.mk (.loop ⟨65, [⟨0, false, [.v (.slice cZ)]⟩, ⟨3, false, [.v (.int .i64)]⟩, ⟨4, false, [.v (.int .i64)]⟩], []⟩ [.keep [true, false, false, true, true, false, false, false, false, false, false, false, false, false, false, false, false, false, false, false, false, false, false, false, false, false, false, false, false, false, false, false, false, false, false, false, false, false, false, false, false, false, false, false, false, false, false, false, false, false, false, false, false, false, false, false, false, false, false, false, false, false, false, false], .gcA 0, .gcA 0] [.keep [true, false, false, true, true, false, false, false, false, false, false, false, false, false, false, false, false, false, false, false, false, false, false, false, false, false, false, false, false, false, false, false, false, false, false, false, false, false, false, false, false, false, false, false, false, false, false, false, false, false, false, false, false, false, false, false, false, false, false, false, false, false, false, false], .gcA 0, .gcA 0] n .nil) .nil []) []) .nil []) []) []) [])
theorem vT (n : Nat) : Pure Tryz.prog 3 Dx sV (nK n) :=
 Ah (Γ := Ct _ [(9, Cn Rz Sb (shown15 n)), (10, Cn Br uT (nJ n)), (12, Cn zY sS (iQ n)), (11, Cn zZ sU (iR n))] []) (an := Aw n) Tryz.func3 rfl (by kernel_rfl) zX (vF (all_cons (Ai (Sc n)) (all_cons (Ai (Hg n)) (all_cons (Ai (Dy n)) (all_cons (Ai (Dz n)) (all_nil))))) (vG)) mixed (nZ _ _ rfl) (fun x => by kernel_rfl)
end Go.Dec
