/- Part of a proof over this seat: a library of my own, and what it says of this seat. No statement is proved here. -/
import Derived.Test.YtdgneppobefaoaaGreatDoorPartBO
import Derived.Test.YtdgneppobefaoaaGreatDoorPartBI
import Derived.Test.YtdgneppobefaoaaGreatDoorPartAX
import Derived.KernelRfl
namespace Go.Dec
open Go.Proofs Go.Ce
set_option maxRecDepth 100000
def zHs (v:Nat):List UInt8:=[UInt8.ofNat (48+v / 64),UInt8.ofNat (48+v / 8 % 8),UInt8.ofNat (48+v % 8)]
noncomputable abbrev qE (v:Nat):Option (Int × Bool):=Qt Tryz.E 35 [.str,.int .i64,.int .i64] [.int .u64,.err] 2000 [] (zHs v,(8:Int),(8:Int))
theorem ySn:(List.range 16).map (fun v:Nat=>qE (0+v))=(List.range 16).map (fun v:Nat=>some (((0+v:Nat):Int),false)):=by kernel_rfl
theorem ySo:(List.range 16).map (fun v:Nat=>qE (16+v))=(List.range 16).map (fun v:Nat=>some (((16+v:Nat):Int),false)):=by kernel_rfl
theorem ySp:(List.range 16).map (fun v:Nat=>qE (32+v))=(List.range 16).map (fun v:Nat=>some (((32+v:Nat):Int),false)):=by kernel_rfl
theorem ySq:(List.range 16).map (fun v:Nat=>qE (48+v))=(List.range 16).map (fun v:Nat=>some (((48+v:Nat):Int),false)):=by kernel_rfl
theorem ySr:(List.range 16).map (fun v:Nat=>qE (64+v))=(List.range 16).map (fun v:Nat=>some (((64+v:Nat):Int),false)):=by kernel_rfl
theorem ySs:(List.range 16).map (fun v:Nat=>qE (80+v))=(List.range 16).map (fun v:Nat=>some (((80+v:Nat):Int),false)):=by kernel_rfl
theorem ySt:(List.range 16).map (fun v:Nat=>qE (96+v))=(List.range 16).map (fun v:Nat=>some (((96+v:Nat):Int),false)):=by kernel_rfl
theorem ySu:(List.range 16).map (fun v:Nat=>qE (112+v))=(List.range 16).map (fun v:Nat=>some (((112+v:Nat):Int),false)):=by kernel_rfl
end Go.Dec
namespace Go.Dec
open Go.Proofs Go.Ce
set_option maxRecDepth 100000
theorem ySv:(List.range 16).map (fun v:Nat=>qE (128+v))=(List.range 16).map (fun v:Nat=>some (((128+v:Nat):Int),false)):=by kernel_rfl
theorem ySw:(List.range 16).map (fun v:Nat=>qE (144+v))=(List.range 16).map (fun v:Nat=>some (((144+v:Nat):Int),false)):=by kernel_rfl
theorem yQa:(List.range 16).map (fun v:Nat=>qE (160+v))=(List.range 16).map (fun v:Nat=>some (((160+v:Nat):Int),false)):=by kernel_rfl
theorem yQb:(List.range 16).map (fun v:Nat=>qE (176+v))=(List.range 16).map (fun v:Nat=>some (((176+v:Nat):Int),false)):=by kernel_rfl
theorem yQc:(List.range 16).map (fun v:Nat=>qE (192+v))=(List.range 16).map (fun v:Nat=>some (((192+v:Nat):Int),false)):=by kernel_rfl
theorem yQd:(List.range 16).map (fun v:Nat=>qE (208+v))=(List.range 16).map (fun v:Nat=>some (((208+v:Nat):Int),false)):=by kernel_rfl
theorem yQe:(List.range 16).map (fun v:Nat=>qE (224+v))=(List.range 16).map (fun v:Nat=>some (((224+v:Nat):Int),false)):=by kernel_rfl
theorem yQf:(List.range 16).map (fun v:Nat=>qE (240+v))=(List.range 16).map (fun v:Nat=>some (((240+v:Nat):Int),false)):=by kernel_rfl
theorem oF {k:Nat} (h:(List.range 16).map (fun v:Nat=>qE (k+v))=(List.range 16).map (fun v:Nat=>some (((k+v:Nat):Int),false))) (v:Nat) (h1:k <= v) (h2:v < k+16):qE v=some ((v:Int),false):=by
 have:=congrArg (fun l=>l[v - k]?) h
 simp only [List.getElem?_map] at this
 rw [List.getElem?_range (by omega)] at this
 simp only [Option.map_some,aA] at this
 rwa [show k+(v - k)=v by omega] at this
theorem yNo (v:Nat) (h:v < 256):qE v=some ((v:Int),false):=by
 have hk:v / 16 < 16:=by omega
 by_cases c0:v < 16
 ·exact oF ySn v (by omega) (by omega)
 by_cases c1:v < 32
 ·exact oF ySo v (by omega) (by omega)
 by_cases c2:v < 48
 ·exact oF ySp v (by omega) (by omega)
 by_cases c3:v < 64
 ·exact oF ySq v (by omega) (by omega)
 by_cases c4:v < 80
 ·exact oF ySr v (by omega) (by omega)
 by_cases c5:v < 96
 ·exact oF ySs v (by omega) (by omega)
 by_cases c6:v < 112
 ·exact oF ySt v (by omega) (by omega)
 by_cases c7:v < 128
 ·exact oF ySu v (by omega) (by omega)
 by_cases c8:v < 144
 ·exact oF ySv v (by omega) (by omega)
 by_cases c9:v < 160
 ·exact oF ySw v (by omega) (by omega)
 by_cases c10:v < 176
 ·exact oF yQa v (by omega) (by omega)
 by_cases c11:v < 192
 ·exact oF yQb v (by omega) (by omega)
 by_cases c12:v < 208
 ·exact oF yQc v (by omega) (by omega)
 by_cases c13:v < 224
 ·exact oF yQd v (by omega) (by omega)
 by_cases c14:v < 240
 ·exact oF yQe v (by omega) (by omega)
 by_cases c15:v < 256
 ·exact oF yQf v (by omega) (by omega)
 omega
end Go.Dec
