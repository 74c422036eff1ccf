/- Part of a proof over this seat: a library of my own, and what it says of this seat. No statement is proved here. -/
import Derived.Test.YtfpipcafiocdoaaGreatDoorPfrtBC
import Derived.Test.YtfpipcafiocdoaaGreatDoorPfrtBD
import Derived.Test.YtfpipcafiocdoaaGreatDoorPfrtBE
import Derived.Test.YtfpipcafiocdoaaGreatDoorPfrtBF
import Derived.Test.YtfpipcafiocdoaaGreatDoorPfrtBG
import Derived.Test.YtfpipcafiocdoaaGreatDoorPfrtBH
import Derived.Test.YtfpipcafiocdoaaGreatDoorPfrtAX
namespace Go.Proofs
open Go.Ce
noncomputable def Tryz.givs:List (Nat × Gv):=[(94,zLb),(149,zRr),(144,zLc 5),(81,gCC 101),(41,zLd 101 5),(241,Zd 284 9),(101,zLe Tryz.Sd.ds Tryz.Sd.all),(44,Te),(39,Tg Tryz.Bd.tab)]
noncomputable def Tryz.tris:List (Nat × TypeId × AV):=[(55,25,.it .i64 (.ofNat 0)),(297,356,.ag [.it .i64 (.ofNat 0),.it .i64 (.ofNat 0)])]
noncomputable def Tryz.E:Env:={ P:=Tryz.prog,I:=Tryz.I,F:=Tryz.F,giv:=fun f=>lkG f Tryz.givs,tri:=fun f=>lkT f Tryz.tris }
theorem Tryz.E_ok:dX Tryz.E where
 I:=Tryz.I_ok
 F:=Tryz.F_ok
 mixed:=by kernel_rfl
 giv:=fun f g h=>by
  have hm:=zHd h
  simp only [Tryz.givs,List.mem_cons,Prod.mk.injEq,List.not_mem_nil,or_false] at hm
  rcases hm with ⟨rfl,rfl⟩ | ⟨rfl,rfl⟩ | ⟨rfl,rfl⟩ | ⟨rfl,rfl⟩ | ⟨rfl,rfl⟩ | ⟨rfl,rfl⟩ | ⟨rfl,rfl⟩ | ⟨rfl,rfl⟩ | ⟨rfl,rfl⟩
  ·exact fun lo A args v A' h=>zHb Tryz.func94 (by kernel_rfl) (by kernel_rfl) (by kernel_rfl) (by kernel_rfl) lo A args v A' h
  ·exact fun lo A args v A' h=>zVb Tryz.func149 (by kernel_rfl) (by kernel_rfl) (by kernel_rfl) (by kernel_rfl) lo A args v A' h
  ·exact Tryz.mnz_ok
  ·exact Tryz.check_ok
  ·exact Tryz.str_ok
  ·exact Tryz.sort_ok
  ·exact zRv fun lo A h=>Tryz.does_ok (E:=Tryz.E0) rfl lo A h
  ·exact Tryz.split_ok
  ·exact Tryz.bdoes_ok
 tri:=fun f t z h=>by
  have hm:=zHe h
  simp only [Tryz.tris,List.mem_cons,Prod.mk.injEq,List.not_mem_nil,or_false] at hm
  rcases hm with ⟨rfl,rfl,rfl⟩ | ⟨rfl,rfl,rfl⟩
  ·exact fun lo g fs cs A out A' h1 h2=>by cases out <;> exact Tryz.tried_ok h1 h2
  ·exact fun lo g fs cs A out A' h1 h2=>by cases out <;> exact Tryz.btried_ok h1 h2
end Go.Proofs
namespace Go.Proofs
open Go.Ce
theorem Tryz.shown20_run:zLf (tT Tryz.E (run Tryz.E 4000) 0 21 [] ⟨.nil,0⟩)=some true:=by kernel_rfl
theorem Tryz.shown20:Go.Dec.Pure Tryz.prog 21 [] [.bool] (fun _=>some true):=zFs Tryz.E_ok (by kernel_rfl) Tryz.shown20_run
end Go.Proofs
