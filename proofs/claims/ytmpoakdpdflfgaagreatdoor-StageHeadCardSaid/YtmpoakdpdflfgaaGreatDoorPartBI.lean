/- Part of a proof over this seat: a library of my own, and what it says of this seat. No statement is proved here. -/
import Derived.Test.YtmpoakdpdflfgaaGreatDoorPartBC
import Derived.Test.YtmpoakdpdflfgaaGreatDoorPartBD
import Derived.Test.YtmpoakdpdflfgaaGreatDoorPartBE
import Derived.Test.YtmpoakdpdflfgaaGreatDoorPartBF
import Derived.Test.YtmpoakdpdflfgaaGreatDoorPartBG
import Derived.Test.YtmpoakdpdflfgaaGreatDoorPartBH
import Derived.Test.YtmpoakdpdflfgaaGreatDoorPartAX
namespace Go.Proofs
open Go.Ce
noncomputable def Tryz.givs:List (Nat × Gv):=[(107,zMx),(323,zMy 5),(55,gCC 89),(29,zMz 89 5),(134,zCj 200 9),(67,zNa Tryz.Sd.ds Tryz.Sd.all),(12,Vi),(54,Vj Tryz.Bd.tab)]
noncomputable def Tryz.tris:List (Nat × TypeId × AV):=[(47,34,.it .i64 (.ofNat 0)),(292,363,.ag [.it .i64 (.ofNat 0),.it .i64 (.ofNat 0)])]
noncomputable def Tryz.E:Env:={ P:=Tryz.prog,I:=Tryz.I,F:=Tryz.F,giv:=fun f=>lkG f Tryz.givs,tri:=fun f=>lkT f Tryz.tris }
theorem Tryz.E_ok:dM Tryz.E where
 I:=Tryz.I_ok
 F:=Tryz.F_ok
 mixed:=by kernel_rfl
 giv:=fun f g h=>by
  have hm:=zJm h
  simp only [Tryz.givs,List.mem_cons,Prod.mk.injEq,List.not_mem_nil,or_false] at hm
  rcases hm with ⟨rfl,rfl⟩ | ⟨rfl,rfl⟩ | ⟨rfl,rfl⟩ | ⟨rfl,rfl⟩ | ⟨rfl,rfl⟩ | ⟨rfl,rfl⟩ | ⟨rfl,rfl⟩ | ⟨rfl,rfl⟩
  ·exact fun lo A args v A' h=>zJl Tryz.func107 (by kernel_rfl) (by kernel_rfl) (by kernel_rfl) (by kernel_rfl) lo A args v A' h
  ·exact Tryz.mnz_ok
  ·exact Tryz.check_ok
  ·exact Tryz.str_ok
  ·exact Tryz.sort_ok
  ·exact zUd fun lo A h=>Tryz.does_ok (E:=Tryz.E0) rfl lo A h
  ·exact Tryz.split_ok
  ·exact Tryz.bdoes_ok
 tri:=fun f t z h=>by
  have hm:=zJn h
  simp only [Tryz.tris,List.mem_cons,Prod.mk.injEq,List.not_mem_nil,or_false] at hm
  rcases hm with ⟨rfl,rfl,rfl⟩ | ⟨rfl,rfl,rfl⟩
  ·exact fun lo g fs cs A out A' h1 h2=>by cases out <;> exact Tryz.tried_ok h1 h2
  ·exact fun lo g fs cs A out A' h1 h2=>by cases out <;> exact Tryz.btried_ok h1 h2
end Go.Proofs
namespace Go.Proofs
open Go.Ce
theorem Tryz.shown16_run:zNb (vD Tryz.E (run Tryz.E 4000) 0 9 [] ⟨.nil,0⟩)=some true:=by kernel_rfl
theorem Tryz.shown16:Go.Dec.Pure Tryz.prog 9 [] [.bool] (fun _=>some true):=zIh Tryz.E_ok (by kernel_rfl) Tryz.shown16_run
end Go.Proofs
