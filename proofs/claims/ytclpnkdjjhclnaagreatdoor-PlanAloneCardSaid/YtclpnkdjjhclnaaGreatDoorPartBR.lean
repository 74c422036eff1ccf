/- Part of a proof over this seat: a library of my own, and what it says of this seat. No statement is proved here. -/
import Derived.Test.YtclpnkdjjhclnaaGreatDoorPartBQ
import Derived.Test.YtclpnkdjjhclnaaGreatDoorPartBF
namespace Go.Proofs
open Go.Ce
def Tryz.parseA0 : List AV := [(.st [119, 32, 97, 10, 114, 32, 97]), (.bo false)]
def Tryz.parseV0 : AV := (.tu [(.ag [(.bo false), .ns, (.sl 0 0 2 2 16 false)]), (.it .i64 (.ofNat 0)), (.it .i64 (.ofNat 0))])
def Tryz.parseR0 : List (List AV) := [[(.it .i64 (.ofNat 0)), (.it .i64 (.ofNat 0)), (.it .i64 (.ofNat 0)), (.it .i64 (.ofNat 0)), (.it .i64 (.ofNat 0)), (.it .i64 (.ofNat 0)), (.bo false), (.it .u8 (.ofNat 119)), (.st [97]), (.st []), (.it .i64 (.ofNat 0)), (.it .i64 (.ofNat 0)), (.it .i64 (.negSucc 0)), .ns, (.bo false), (.bo false), (.it .i64 (.ofNat 0)), (.it .i64 (.ofNat 0)), (.it .i64 (.ofNat 0)), (.it .i64 (.ofNat 0)), (.it .i64 (.ofNat 0)), (.it .i64 (.ofNat 0)), (.bo false), (.it .u8 (.ofNat 114)), (.st [97]), (.st []), (.it .i64 (.ofNat 0)), (.it .i64 (.ofNat 0)), (.it .i64 (.negSucc 0)), .ns, (.bo false), (.bo false)]]
theorem Tryz.parse0 : bX (aP Tryz.E (run Tryz.E 4000) 0 9 Tryz.parseA0 ⟨.nil, 0⟩) = some (1, Tryz.parseV0, Tryz.parseR0) := by kernel_rfl
def Tryz.parseA1 : List AV := [(.st [119, 32, 98, 10, 114, 32, 98]), (.bo false)]
def Tryz.parseV1 : AV := (.tu [(.ag [(.bo false), .ns, (.sl 0 0 2 2 16 false)]), (.it .i64 (.ofNat 0)), (.it .i64 (.ofNat 0))])
def Tryz.parseR1 : List (List AV) := [[(.it .i64 (.ofNat 0)), (.it .i64 (.ofNat 0)), (.it .i64 (.ofNat 0)), (.it .i64 (.ofNat 0)), (.it .i64 (.ofNat 0)), (.it .i64 (.ofNat 0)), (.bo false), (.it .u8 (.ofNat 119)), (.st [98]), (.st []), (.it .i64 (.ofNat 0)), (.it .i64 (.ofNat 0)), (.it .i64 (.negSucc 0)), .ns, (.bo false), (.bo false), (.it .i64 (.ofNat 0)), (.it .i64 (.ofNat 0)), (.it .i64 (.ofNat 0)), (.it .i64 (.ofNat 0)), (.it .i64 (.ofNat 0)), (.it .i64 (.ofNat 0)), (.bo false), (.it .u8 (.ofNat 114)), (.st [98]), (.st []), (.it .i64 (.ofNat 0)), (.it .i64 (.ofNat 0)), (.it .i64 (.negSucc 0)), .ns, (.bo false), (.bo false)]]
theorem Tryz.parse1 : bX (aP Tryz.E (run Tryz.E 4000) 0 9 Tryz.parseA1 ⟨.nil, 0⟩) = some (1, Tryz.parseV1, Tryz.parseR1) := by kernel_rfl
def Tryz.parseA2 : List AV := [(.st [119, 32, 99, 10, 114, 32, 99]), (.bo false)]
def Tryz.parseV2 : AV := (.tu [(.ag [(.bo false), .ns, (.sl 0 0 2 2 16 false)]), (.it .i64 (.ofNat 0)), (.it .i64 (.ofNat 0))])
def Tryz.parseR2 : List (List AV) := [[(.it .i64 (.ofNat 0)), (.it .i64 (.ofNat 0)), (.it .i64 (.ofNat 0)), (.it .i64 (.ofNat 0)), (.it .i64 (.ofNat 0)), (.it .i64 (.ofNat 0)), (.bo false), (.it .u8 (.ofNat 119)), (.st [99]), (.st []), (.it .i64 (.ofNat 0)), (.it .i64 (.ofNat 0)), (.it .i64 (.negSucc 0)), .ns, (.bo false), (.bo false), (.it .i64 (.ofNat 0)), (.it .i64 (.ofNat 0)), (.it .i64 (.ofNat 0)), (.it .i64 (.ofNat 0)), (.it .i64 (.ofNat 0)), (.it .i64 (.ofNat 0)), (.bo false), (.it .u8 (.ofNat 114)), (.st [99]), (.st []), (.it .i64 (.ofNat 0)), (.it .i64 (.ofNat 0)), (.it .i64 (.negSucc 0)), .ns, (.bo false), (.bo false)]]
theorem Tryz.parse2 : bX (aP Tryz.E (run Tryz.E 4000) 0 9 Tryz.parseA2 ⟨.nil, 0⟩) = some (1, Tryz.parseV2, Tryz.parseR2) := by kernel_rfl
def Tryz.parseA3 : List AV := [(.st [119, 32, 100, 10, 114, 32, 100]), (.bo false)]
def Tryz.parseV3 : AV := (.tu [(.ag [(.bo false), .ns, (.sl 0 0 2 2 16 false)]), (.it .i64 (.ofNat 0)), (.it .i64 (.ofNat 0))])
def Tryz.parseR3 : List (List AV) := [[(.it .i64 (.ofNat 0)), (.it .i64 (.ofNat 0)), (.it .i64 (.ofNat 0)), (.it .i64 (.ofNat 0)), (.it .i64 (.ofNat 0)), (.it .i64 (.ofNat 0)), (.bo false), (.it .u8 (.ofNat 119)), (.st [100]), (.st []), (.it .i64 (.ofNat 0)), (.it .i64 (.ofNat 0)), (.it .i64 (.negSucc 0)), .ns, (.bo false), (.bo false), (.it .i64 (.ofNat 0)), (.it .i64 (.ofNat 0)), (.it .i64 (.ofNat 0)), (.it .i64 (.ofNat 0)), (.it .i64 (.ofNat 0)), (.it .i64 (.ofNat 0)), (.bo false), (.it .u8 (.ofNat 114)), (.st [100]), (.st []), (.it .i64 (.ofNat 0)), (.it .i64 (.ofNat 0)), (.it .i64 (.negSucc 0)), .ns, (.bo false), (.bo false)]]
theorem Tryz.parse3 : bX (aP Tryz.E (run Tryz.E 4000) 0 9 Tryz.parseA3 ⟨.nil, 0⟩) = some (1, Tryz.parseV3, Tryz.parseR3) := by kernel_rfl
def Tryz.parseA4 : List AV := [(.st [119, 32, 101, 10, 114, 32, 101]), (.bo false)]
def Tryz.parseV4 : AV := (.tu [(.ag [(.bo false), .ns, (.sl 0 0 2 2 16 false)]), (.it .i64 (.ofNat 0)), (.it .i64 (.ofNat 0))])
def Tryz.parseR4 : List (List AV) := [[(.it .i64 (.ofNat 0)), (.it .i64 (.ofNat 0)), (.it .i64 (.ofNat 0)), (.it .i64 (.ofNat 0)), (.it .i64 (.ofNat 0)), (.it .i64 (.ofNat 0)), (.bo false), (.it .u8 (.ofNat 119)), (.st [101]), (.st []), (.it .i64 (.ofNat 0)), (.it .i64 (.ofNat 0)), (.it .i64 (.negSucc 0)), .ns, (.bo false), (.bo false), (.it .i64 (.ofNat 0)), (.it .i64 (.ofNat 0)), (.it .i64 (.ofNat 0)), (.it .i64 (.ofNat 0)), (.it .i64 (.ofNat 0)), (.it .i64 (.ofNat 0)), (.bo false), (.it .u8 (.ofNat 114)), (.st [101]), (.st []), (.it .i64 (.ofNat 0)), (.it .i64 (.ofNat 0)), (.it .i64 (.negSucc 0)), .ns, (.bo false), (.bo false)]]
theorem Tryz.parse4 : bX (aP Tryz.E (run Tryz.E 4000) 0 9 Tryz.parseA4 ⟨.nil, 0⟩) = some (1, Tryz.parseV4, Tryz.parseR4) := by kernel_rfl
def Tryz.parseA5 : List AV := [(.st [119, 32, 102, 10, 114, 32, 102]), (.bo false)]
def Tryz.parseV5 : AV := (.tu [(.ag [(.bo false), .ns, (.sl 0 0 2 2 16 false)]), (.it .i64 (.ofNat 0)), (.it .i64 (.ofNat 0))])
def Tryz.parseR5 : List (List AV) := [[(.it .i64 (.ofNat 0)), (.it .i64 (.ofNat 0)), (.it .i64 (.ofNat 0)), (.it .i64 (.ofNat 0)), (.it .i64 (.ofNat 0)), (.it .i64 (.ofNat 0)), (.bo false), (.it .u8 (.ofNat 119)), (.st [102]), (.st []), (.it .i64 (.ofNat 0)), (.it .i64 (.ofNat 0)), (.it .i64 (.negSucc 0)), .ns, (.bo false), (.bo false), (.it .i64 (.ofNat 0)), (.it .i64 (.ofNat 0)), (.it .i64 (.ofNat 0)), (.it .i64 (.ofNat 0)), (.it .i64 (.ofNat 0)), (.it .i64 (.ofNat 0)), (.bo false), (.it .u8 (.ofNat 114)), (.st [102]), (.st []), (.it .i64 (.ofNat 0)), (.it .i64 (.ofNat 0)), (.it .i64 (.negSucc 0)), .ns, (.bo false), (.bo false)]]
theorem Tryz.parse5 : bX (aP Tryz.E (run Tryz.E 4000) 0 9 Tryz.parseA5 ⟨.nil, 0⟩) = some (1, Tryz.parseV5, Tryz.parseR5) := by kernel_rfl
def Tryz.parseA6 : List AV := [(.st [119, 32, 103, 10, 114, 32, 103]), (.bo false)]
def Tryz.parseV6 : AV := (.tu [(.ag [(.bo false), .ns, (.sl 0 0 2 2 16 false)]), (.it .i64 (.ofNat 0)), (.it .i64 (.ofNat 0))])
def Tryz.parseR6 : List (List AV) := [[(.it .i64 (.ofNat 0)), (.it .i64 (.ofNat 0)), (.it .i64 (.ofNat 0)), (.it .i64 (.ofNat 0)), (.it .i64 (.ofNat 0)), (.it .i64 (.ofNat 0)), (.bo false), (.it .u8 (.ofNat 119)), (.st [103]), (.st []), (.it .i64 (.ofNat 0)), (.it .i64 (.ofNat 0)), (.it .i64 (.negSucc 0)), .ns, (.bo false), (.bo false), (.it .i64 (.ofNat 0)), (.it .i64 (.ofNat 0)), (.it .i64 (.ofNat 0)), (.it .i64 (.ofNat 0)), (.it .i64 (.ofNat 0)), (.it .i64 (.ofNat 0)), (.bo false), (.it .u8 (.ofNat 114)), (.st [103]), (.st []), (.it .i64 (.ofNat 0)), (.it .i64 (.ofNat 0)), (.it .i64 (.negSucc 0)), .ns, (.bo false), (.bo false)]]
theorem Tryz.parse6 : bX (aP Tryz.E (run Tryz.E 4000) 0 9 Tryz.parseA6 ⟨.nil, 0⟩) = some (1, Tryz.parseV6, Tryz.parseR6) := by kernel_rfl
def Tryz.parseA7 : List AV := [(.st [119, 32, 104, 10, 114, 32, 104]), (.bo false)]
def Tryz.parseV7 : AV := (.tu [(.ag [(.bo false), .ns, (.sl 0 0 2 2 16 false)]), (.it .i64 (.ofNat 0)), (.it .i64 (.ofNat 0))])
def Tryz.parseR7 : List (List AV) := [[(.it .i64 (.ofNat 0)), (.it .i64 (.ofNat 0)), (.it .i64 (.ofNat 0)), (.it .i64 (.ofNat 0)), (.it .i64 (.ofNat 0)), (.it .i64 (.ofNat 0)), (.bo false), (.it .u8 (.ofNat 119)), (.st [104]), (.st []), (.it .i64 (.ofNat 0)), (.it .i64 (.ofNat 0)), (.it .i64 (.negSucc 0)), .ns, (.bo false), (.bo false), (.it .i64 (.ofNat 0)), (.it .i64 (.ofNat 0)), (.it .i64 (.ofNat 0)), (.it .i64 (.ofNat 0)), (.it .i64 (.ofNat 0)), (.it .i64 (.ofNat 0)), (.bo false), (.it .u8 (.ofNat 114)), (.st [104]), (.st []), (.it .i64 (.ofNat 0)), (.it .i64 (.ofNat 0)), (.it .i64 (.negSucc 0)), .ns, (.bo false), (.bo false)]]
theorem Tryz.parse7 : bX (aP Tryz.E (run Tryz.E 4000) 0 9 Tryz.parseA7 ⟨.nil, 0⟩) = some (1, Tryz.parseV7, Tryz.parseR7) := by kernel_rfl
noncomputable def Tryz.parseG : Gv := vE [bW Tryz.parseA0 1 Tryz.parseV0 Tryz.parseR0, bW Tryz.parseA1 1 Tryz.parseV1 Tryz.parseR1, bW Tryz.parseA2 1 Tryz.parseV2 Tryz.parseR2, bW Tryz.parseA3 1 Tryz.parseV3 Tryz.parseR3, bW Tryz.parseA4 1 Tryz.parseV4 Tryz.parseR4, bW Tryz.parseA5 1 Tryz.parseV5 Tryz.parseR5, bW Tryz.parseA6 1 Tryz.parseV6 Tryz.parseR6, bW Tryz.parseA7 1 Tryz.parseV7 Tryz.parseR7]
theorem Tryz.parseG_ok (lo : Nat) (A : W) (args : List AV) (v : AV) (A' : W) (h : Tryz.parseG lo A args = some (v, A')) : aR Tryz.prog lo 9 args A (.ret v) A' := by
 refine wQ (gs := [bW Tryz.parseA0 1 Tryz.parseV0 Tryz.parseR0, bW Tryz.parseA1 1 Tryz.parseV1 Tryz.parseR1, bW Tryz.parseA2 1 Tryz.parseV2 Tryz.parseR2, bW Tryz.parseA3 1 Tryz.parseV3 Tryz.parseR3, bW Tryz.parseA4 1 Tryz.parseV4 Tryz.parseR4, bW Tryz.parseA5 1 Tryz.parseV5 Tryz.parseR5, bW Tryz.parseA6 1 Tryz.parseV6 Tryz.parseR6, bW Tryz.parseA7 1 Tryz.parseV7 Tryz.parseR7]) (fun g hg => ?_) lo A args v A' h
 simp only [List.mem_cons, List.not_mem_nil, or_false] at hg
 rcases hg with rfl | rfl | rfl | rfl | rfl | rfl | rfl | rfl
 ·exact dY Tryz.E_ok (by kernel_rfl) Tryz.parse0
 ·exact dY Tryz.E_ok (by kernel_rfl) Tryz.parse1
 ·exact dY Tryz.E_ok (by kernel_rfl) Tryz.parse2
 ·exact dY Tryz.E_ok (by kernel_rfl) Tryz.parse3
 ·exact dY Tryz.E_ok (by kernel_rfl) Tryz.parse4
 ·exact dY Tryz.E_ok (by kernel_rfl) Tryz.parse5
 ·exact dY Tryz.E_ok (by kernel_rfl) Tryz.parse6
 ·exact dY Tryz.E_ok (by kernel_rfl) Tryz.parse7
end Go.Proofs
