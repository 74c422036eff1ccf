/- Part of a proof over this seat: a library of my own, and what it says of this seat. No statement is proved here. -/
import Derived.Test.YtmpoakdpdflfgaaGreatDoorPnrtBC
import Derived.Test.YtmpoakdpdflfgaaGreatDoorPnrtBD
import Derived.Test.YtmpoakdpdflfgaaGreatDoorPnrtBE
import Derived.Test.YtmpoakdpdflfgaaGreatDoorPnrtBF
import Derived.Test.YtmpoakdpdflfgaaGreatDoorPnrtBG
import Derived.Test.YtmpoakdpdflfgaaGreatDoorPnrtBH
import Derived.Test.YtmpoakdpdflfgaaGreatDoorPnrtAX
namespace Go.Proofs
open Go.Ce
noncomputable def Tryz.givs:List (Nat × Gv):=[(107,zLe),(323,zLf 5),(55,gCC 89),(29,zLg 89 5),(134,Zx 200 9),(67,zLh Tryz.Sd.ds Tryz.Sd.all),(12,Sn),(54,Sr Tryz.Bd.tab)]
noncomputable def Tryz.tris:List (Nat × TypeId × AV):=[(47,34,.it .i64 (.ofNat 0)),(292,363,.ag [.it .i64 (.ofNat 0),.it .i64 (.ofNat 0)])]
noncomputable def Tryz.E:Env:={ P:=Tryz.prog,I:=Tryz.I,F:=Tryz.F,giv:=fun f=>lkG f Tryz.givs,tri:=fun f=>lkT f Tryz.tris }
theorem Tryz.E_ok:dW Tryz.E where
 I:=Tryz.I_ok
 F:=Tryz.F_ok
 mixed:=by kernel_rfl
 giv:=fun f g h=>by
  have hm:=zHg h
  simp only [Tryz.givs,List.mem_cons,Prod.mk.injEq,List.not_mem_nil,or_false] at hm
  rcases hm with ⟨rfl,rfl⟩ | ⟨rfl,rfl⟩ | ⟨rfl,rfl⟩ | ⟨rfl,rfl⟩ | ⟨rfl,rfl⟩ | ⟨rfl,rfl⟩ | ⟨rfl,rfl⟩ | ⟨rfl,rfl⟩
  ·exact fun lo A args v A' h=>zHf Tryz.func107 (by kernel_rfl) (by kernel_rfl) (by kernel_rfl) (by kernel_rfl) lo A args v A' h
  ·exact Tryz.mnz_ok
  ·exact Tryz.check_ok
  ·exact Tryz.str_ok
  ·exact Tryz.sort_ok
  ·exact zRf fun lo A h=>Tryz.does_ok (E:=Tryz.E0) rfl lo A h
  ·exact Tryz.split_ok
  ·exact Tryz.bdoes_ok
 tri:=fun f t z h=>by
  have hm:=zHh h
  simp only [Tryz.tris,List.mem_cons,Prod.mk.injEq,List.not_mem_nil,or_false] at hm
  rcases hm with ⟨rfl,rfl,rfl⟩ | ⟨rfl,rfl,rfl⟩
  ·exact fun lo g fs cs A out A' h1 h2=>by cases out <;> exact Tryz.tried_ok h1 h2
  ·exact fun lo g fs cs A out A' h1 h2=>by cases out <;> exact Tryz.btried_ok h1 h2
end Go.Proofs
namespace Go.Proofs
open Go.Ce
theorem Tryz.shown22_run:zLi (wZ Tryz.E (run Tryz.E 4000) 0 15 [] ⟨.nil,0⟩)=some true:=by kernel_rfl
theorem Tryz.shown22:Go.Dec.Pure Tryz.prog 15 [] [.bool] (fun _=>some true):=zFy Tryz.E_ok (by kernel_rfl) Tryz.shown22_run
end Go.Proofs
