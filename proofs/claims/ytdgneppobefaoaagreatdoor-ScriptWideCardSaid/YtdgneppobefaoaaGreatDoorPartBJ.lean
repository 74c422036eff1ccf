/- Part of a proof over this seat: a library of my own, and what it says of this seat. No statement is proved here. -/
import Derived.Test.YtdgneppobefaoaaGreatDoorPartBD
import Derived.Test.YtdgneppobefaoaaGreatDoorPartBE
import Derived.Test.YtdgneppobefaoaaGreatDoorPartBF
import Derived.Test.YtdgneppobefaoaaGreatDoorPartBG
import Derived.Test.YtdgneppobefaoaaGreatDoorPartBH
import Derived.Test.YtdgneppobefaoaaGreatDoorPartBI
import Derived.Test.YtdgneppobefaoaaGreatDoorPartAY
namespace Go.Proofs
open Go.Ce
noncomputable def Tryz.givs:List (Nat × Gv):=[(87,zJz),(229,zKa 5),(54,gCC 78),(26,zKb 78 5),(231,Zo 301 9),(46,zKc Tryz.Sd.ds Tryz.Sd.all),(9,Tq),(206,Tt Tryz.Bd.tab)]
noncomputable def Tryz.tris:List (Nat × TypeId × AV):=[(23,36,.it .i64 (.ofNat 0)),(210,295,.ag [.it .i64 (.ofNat 0),.it .i64 (.ofNat 0)])]
noncomputable def Tryz.E:Env:={ P:=Tryz.prog,I:=Tryz.I,F:=Tryz.F,giv:=fun f=>lkG f Tryz.givs,tri:=fun f=>lkT f Tryz.tris }
theorem Tryz.E_ok:fA Tryz.E where
 I:=Tryz.I_ok
 F:=Tryz.F_ok
 mixed:=by kernel_rfl
 giv:=fun f g h=>by
  have hm:=zFu h
  simp only [Tryz.givs,List.mem_cons,aB,List.not_mem_nil,or_false] at hm
  rcases hm with ⟨rfl,rfl⟩ | ⟨rfl,rfl⟩ | ⟨rfl,rfl⟩ | ⟨rfl,rfl⟩ | ⟨rfl,rfl⟩ | ⟨rfl,rfl⟩ | ⟨rfl,rfl⟩ | ⟨rfl,rfl⟩
  ·exact fun lo A args v A' h=>zFt Tryz.func87 (by kernel_rfl) (by kernel_rfl) (by kernel_rfl) (by kernel_rfl) lo A args v A' h
  ·exact Tryz.mnz_ok
  ·exact Tryz.check_ok
  ·exact Tryz.str_ok
  ·exact Tryz.sort_ok
  ·exact zQo fun lo A h=>Tryz.does_ok (E:=Tryz.E0) rfl lo A h
  ·exact Tryz.split_ok
  ·exact Tryz.bdoes_ok
 tri:=fun f t z h=>by
  have hm:=zFv h
  simp only [Tryz.tris,List.mem_cons,aB,List.not_mem_nil,or_false] at hm
  rcases hm with ⟨rfl,rfl,rfl⟩ | ⟨rfl,rfl,rfl⟩
  ·exact fun lo g fs cs A out A' h1 h2=>by cases out <;> exact Tryz.tried_ok h1 h2
  ·exact fun lo g fs cs A out A' h1 h2=>by cases out <;> exact Tryz.btried_ok h1 h2
end Go.Proofs
namespace Go.Proofs
open Go.Ce
theorem Tryz.shown13_run:zKd (zH Tryz.E (run Tryz.E 4000) 0 13 [] ⟨.nil,0⟩)=some true:=by kernel_rfl
theorem Tryz.shown13:Go.Dec.Pure Tryz.prog 13 [] [.bool] (fun _=>some true):=zEu Tryz.E_ok (by kernel_rfl) Tryz.shown13_run
end Go.Proofs
