/- Part of a proof over this seat: a library of my own, and what it says of this seat. No statement is proved here. -/
import Derived.Test.YtlimifngdjkogaaGreatDoorPartBK
import Derived.Test.YtlimifngdjkogaaGreatDoorPartBM
import Derived.Test.YtlimifngdjkogaaGreatDoorPartBN
import Derived.Test.YtlimifngdjkogaaGreatDoorPartBO
import Derived.Test.YtlimifngdjkogaaGreatDoorPartBP
import Derived.Test.YtlimifngdjkogaaGreatDoorPartBQ
import Derived.Test.YtlimifngdjkogaaGreatDoorPartBE
namespace Go.Proofs
open Go.Ce
noncomputable def aA.givs : List (Nat × Gv) := [(201, Yk), (338, Yl 5), (55, gCC 100), (33, Ym 100 5), (85, Nl 136 9), (111, Yn aA.Sd.ds aA.Sd.all), (45, Gz), (38, Hf aA.Bd.tab)]
noncomputable def aA.tris : List (Nat × TypeId × AV) := [(57, 64, .it .i64 (.ofNat 0)), (318, 393, .ag [.it .i64 (.ofNat 0), .it .i64 (.ofNat 0)])]
noncomputable def aA.E : Env := { P := aA.prog, I := aA.I, F := aA.F, giv := fun f => lkG f aA.givs, tri := fun f => lkT f aA.tris }
theorem aA.E_ok : cZ aA.E where
 I := aA.I_ok
 F := aA.F_ok
 mixed := by kernel_rfl
 giv := fun f g h => by
  have hm := Uw h
  simp only [aA.givs, List.mem_cons, Prod.mk.injEq, List.not_mem_nil, or_false] at hm
  rcases hm with ⟨rfl, rfl⟩ | ⟨rfl, rfl⟩ | ⟨rfl, rfl⟩ | ⟨rfl, rfl⟩ | ⟨rfl, rfl⟩ | ⟨rfl, rfl⟩ | ⟨rfl, rfl⟩ | ⟨rfl, rfl⟩
  ·exact fun lo A args v A' h => Uv aA.func201 (by kernel_rfl) (by kernel_rfl) (by kernel_rfl) (by kernel_rfl) lo A args v A' h
  ·exact aA.mnz_ok
  ·exact aA.check_ok
  ·exact aA.str_ok
  ·exact aA.sort_ok
  ·exact zDi fun lo A h => aA.does_ok (E := aA.E0) rfl lo A h
  ·exact aA.split_ok
  ·exact aA.bdoes_ok
 tri := fun f t z h => by
  have hm := Ux h
  simp only [aA.tris, List.mem_cons, Prod.mk.injEq, List.not_mem_nil, or_false] at hm
  rcases hm with ⟨rfl, rfl, rfl⟩ | ⟨rfl, rfl, rfl⟩
  ·exact fun lo g fs cs A out A' h1 h2 => by cases out <;> exact aA.tried_ok h1 h2
  ·exact fun lo g fs cs A out A' h1 h2 => by cases out <;> exact aA.btried_ok h1 h2
end Go.Proofs
namespace Go.Proofs
open Go.Ce
theorem aA.shown15_run : Yo (rP aA.E (run aA.E 4000) 0 9 [] ⟨.nil, 0⟩) = some true := by kernel_rfl
theorem aA.shown15 : Go.Dec.Pure aA.prog 9 [] [.bool] (fun _ => some true) := Tv aA.E_ok (by kernel_rfl) aA.shown15_run
end Go.Proofs
