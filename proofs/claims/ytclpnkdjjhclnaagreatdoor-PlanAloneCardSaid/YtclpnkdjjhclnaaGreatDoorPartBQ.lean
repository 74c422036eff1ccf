/- Part of a proof over this seat: a library of my own, and what it says of this seat. No statement is proved here. -/
import Derived.Test.YtclpnkdjjhclnaaGreatDoorPartBL
import Derived.Test.YtclpnkdjjhclnaaGreatDoorPartBN
import Derived.Test.YtclpnkdjjhclnaaGreatDoorPartBO
import Derived.Test.YtclpnkdjjhclnaaGreatDoorPartBP
import Derived.Test.YtclpnkdjjhclnaaGreatDoorPartBE
namespace Go.Proofs
open Go.Ce
noncomputable def Tryz.givs : List (Nat × Gv) := [(81, Jq), (118, Jr), (116, Fq 5), (79, gCC 101), (52, Fv 101 5), (90, yG 126 9), (42, Fz Tryz.Sd.ds Tryz.Sd.all)]
noncomputable def Tryz.tris : List (Nat × TypeId × AV) := [(23, 28, .it .i64 (.ofNat 0)), (167, 220, .ag [.it .i64 (.ofNat 0), .it .i64 (.ofNat 0)])]
noncomputable def Tryz.E : Env := { P := Tryz.prog, I := Tryz.I, F := Tryz.F, giv := fun f => lkG f Tryz.givs, tri := fun f => lkT f Tryz.tris }
theorem Tryz.E_ok : aV Tryz.E where
 I := Tryz.I_ok
 F := Tryz.F_ok
 mixed := by kernel_rfl
 giv := fun f g h => by
  have hm := Cn h
  simp only [Tryz.givs, List.mem_cons, Prod.mk.injEq, List.not_mem_nil, or_false] at hm
  rcases hm with ⟨rfl, rfl⟩ | ⟨rfl, rfl⟩ | ⟨rfl, rfl⟩ | ⟨rfl, rfl⟩ | ⟨rfl, rfl⟩ | ⟨rfl, rfl⟩ | ⟨rfl, rfl⟩
  ·exact fun lo A args v A' h => Lp Tryz.func81 (by kernel_rfl) (by kernel_rfl) (by kernel_rfl) (by kernel_rfl) lo A args v A' h
  ·exact fun lo A args v A' h => Lr Tryz.func118 (by kernel_rfl) (by kernel_rfl) (by kernel_rfl) (by kernel_rfl) lo A args v A' h
  ·exact Tryz.mnz_ok
  ·exact Tryz.check_ok
  ·exact Tryz.str_ok
  ·exact Tryz.sort_ok
  ·exact Ju fun lo A h => Tryz.does_ok (E := Tryz.E0) rfl lo A h
 tri := fun f t z h => by
  have hm := Cq h
  simp only [Tryz.tris, List.mem_cons, Prod.mk.injEq, List.not_mem_nil, or_false] at hm
  rcases hm with ⟨rfl, rfl, rfl⟩ | ⟨rfl, rfl, rfl⟩
  ·exact fun lo g fs cs A out A' h1 h2 => by cases out <;> exact Tryz.tried_ok h1 h2
  ·exact fun lo g fs cs A out A' h1 h2 => by cases out <;> exact Tryz.btried_ok h1 h2
end Go.Proofs
