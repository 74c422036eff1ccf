/- Part of a proof over this seat: a library of my own, and what it says of this seat. No statement is proved here. -/
import Derived.Test.YtfpipcafiocdoaaGreatDoorPfrtBT
import Derived.Test.YtfpipcafiocdoaaGreatDoorPfrtAK
namespace Go.Dec
abbrev FwX:Type:=List UInt8 × Int × Bool × Int × List aS × Unit
theorem zXq {inp:List UInt8} {n:Int} {cuts:Bool} {k:Nat} (hk:k < 20) (hn:Int.tmod (IntKind.wrap .i64 n) 20=k) (g g':FwX->Option Bool) (row:List aS) :
  aH 2000 g (inp,n,cuts,(k:Int),row,())=aH 2000 g' (inp,(k:Int),cuts,(k:Int),row,()):=by
 have h2:Int.tmod (IntKind.wrap .i64 (k:Int)) 20=k:=by
  rw [Lr (by omega) (by omega),Int.tmod_eq_emod_of_nonneg (by omega)]
  omega
 have hd:decide ((k:Int) < (k:Int))=false:=decide_eq_false (by omega)
 rw [aH,aH]
 simp only
 rw [hn,h2,nQ hd,nQ hd]
theorem k0 {inp:List UInt8} (h:inp.length <= 300) (cuts:Bool) (g:FwX->Option Bool):aH 2000 g (inp,0,cuts,0,[],())=some true:=by
 rw [aH]
 simp only
 rw [nP (by decide),nQ (show decide ((0:Int) < Int.tmod (IntKind.wrap .i64 0) 20)=false from by decide),yDr (by omega),Iz]
 rw [nQ (by rfl),zXp,Iz,nQ (by rfl),nQ (by rfl),nQ (by rfl),Mi (by rfl),zFz (by omega) (by omega),Iz,Mi (by simp)]
theorem k1 (inp:List UInt8) (cuts:Bool) (g:FwX->Option Bool):aH 2000 g (inp,1,cuts,1,iW 1,())=some true:=by cases cuts <;> kernel_rfl
theorem k2 (inp:List UInt8) (cuts:Bool) (g:FwX->Option Bool):aH 2000 g (inp,2,cuts,2,iW 2,())=some true:=by cases cuts <;> kernel_rfl
theorem k3 (inp:List UInt8) (cuts:Bool) (g:FwX->Option Bool):aH 2000 g (inp,3,cuts,3,iW 3,())=some true:=by cases cuts <;> kernel_rfl
theorem k4 (inp:List UInt8) (cuts:Bool) (g:FwX->Option Bool):aH 2000 g (inp,4,cuts,4,iW 4,())=some true:=by cases cuts <;> kernel_rfl
theorem k5 (inp:List UInt8) (cuts:Bool) (g:FwX->Option Bool):aH 2000 g (inp,5,cuts,5,iW 5,())=some true:=by cases cuts <;> kernel_rfl
theorem k6 (inp:List UInt8) (cuts:Bool) (g:FwX->Option Bool):aH 2000 g (inp,6,cuts,6,iW 6,())=some true:=by cases cuts <;> kernel_rfl
theorem k7 (inp:List UInt8) (cuts:Bool) (g:FwX->Option Bool):aH 2000 g (inp,7,cuts,7,iW 7,())=some true:=by cases cuts <;> kernel_rfl
theorem k8 (inp:List UInt8) (cuts:Bool) (g:FwX->Option Bool):aH 2000 g (inp,8,cuts,8,iW 8,())=some true:=by cases cuts <;> kernel_rfl
theorem k9 (inp:List UInt8) (cuts:Bool) (g:FwX->Option Bool):aH 2000 g (inp,9,cuts,9,iW 9,())=some true:=by cases cuts <;> kernel_rfl
theorem k10 (inp:List UInt8) (cuts:Bool) (g:FwX->Option Bool):aH 2000 g (inp,10,cuts,10,iW 10,())=some true:=by cases cuts <;> kernel_rfl
theorem k11 (inp:List UInt8) (cuts:Bool) (g:FwX->Option Bool):aH 2000 g (inp,11,cuts,11,iW 11,())=some true:=by cases cuts <;> kernel_rfl
theorem k12 (inp:List UInt8) (cuts:Bool) (g:FwX->Option Bool):aH 2000 g (inp,12,cuts,12,iW 12,())=some true:=by cases cuts <;> kernel_rfl
theorem k13 (inp:List UInt8) (cuts:Bool) (g:FwX->Option Bool):aH 2000 g (inp,13,cuts,13,iW 13,())=some true:=by cases cuts <;> kernel_rfl
theorem k14 (inp:List UInt8) (cuts:Bool) (g:FwX->Option Bool):aH 2000 g (inp,14,cuts,14,iW 14,())=some true:=by cases cuts <;> kernel_rfl
theorem k15 (inp:List UInt8) (cuts:Bool) (g:FwX->Option Bool):aH 2000 g (inp,15,cuts,15,iW 15,())=some true:=by cases cuts <;> kernel_rfl
theorem k16 (inp:List UInt8) (cuts:Bool) (g:FwX->Option Bool):aH 2000 g (inp,16,cuts,16,iW 16,())=some true:=by cases cuts <;> kernel_rfl
theorem k17 (inp:List UInt8) (cuts:Bool) (g:FwX->Option Bool):aH 2000 g (inp,17,cuts,17,iW 17,())=some true:=by cases cuts <;> kernel_rfl
theorem k18 (inp:List UInt8) (cuts:Bool) (g:FwX->Option Bool):aH 2000 g (inp,18,cuts,18,iW 18,())=some true:=by cases cuts <;> kernel_rfl
theorem k19 (inp:List UInt8) (cuts:Bool) (g:FwX->Option Bool):aH 2000 g (inp,19,cuts,19,iW 19,())=some true:=by cases cuts <;> kernel_rfl
theorem tails {inp:List UInt8} (h:inp.length <= 300) (cuts:Bool) (g:FwX->Option Bool):∀ k:Nat,k < 20->aH 2000 g (inp,(k:Int),cuts,(k:Int),iW k,())=some true
 | 0,_=>k0 h cuts g
 | 1,_=>k1 inp cuts g
 | 2,_=>k2 inp cuts g
 | 3,_=>k3 inp cuts g
 | 4,_=>k4 inp cuts g
 | 5,_=>k5 inp cuts g
 | 6,_=>k6 inp cuts g
 | 7,_=>k7 inp cuts g
 | 8,_=>k8 inp cuts g
 | 9,_=>k9 inp cuts g
 | 10,_=>k10 inp cuts g
 | 11,_=>k11 inp cuts g
 | 12,_=>k12 inp cuts g
 | 13,_=>k13 inp cuts g
 | 14,_=>k14 inp cuts g
 | 15,_=>k15 inp cuts g
 | 16,_=>k16 inp cuts g
 | 17,_=>k17 inp cuts g
 | 18,_=>k18 inp cuts g
 | 19,_=>k19 inp cuts g
 | k+20,hk=>absurd hk (by omega)
theorem Gs (x:List UInt8 × Int × Bool) (hx:0 <= x.2.1∧x.2.1 <= 255):oN 2000 x=some true:=by
 obtain ⟨inp,n,cuts⟩:=x
 obtain ⟨h0,h1⟩:=hx
 simp only at h0 h1
 unfold oN
 simp only
 by_cases h:300 < inp.length
 ·rw [Mi (decide_eq_true (by omega))]; rfl
 rw [nQ (decide_eq_false (by omega)),show shown20 2000 ()=some true from rfl,Iz,nQ (by rfl),nP (by decide)]
 obtain ⟨k,hk,hn⟩:∃ k:Nat,k < 20∧Int.tmod (IntKind.wrap .i64 n) 20=k:=⟨(n % 20).toNat,by omega,by
  rw [Lr (by omega) (by omega),Int.tmod_eq_emod_of_nonneg h0]
  omega⟩
 have:=zHu (inp:=inp) (cuts:=cuts) hk hn k 0 2000 (by omega) (by omega)
 refine (show fix (aH 2000) 2000 (inp,n,cuts,((0:Nat):Int),iW 0,())=some true from ?_)
 rw [this,xS (by omega),zXq hk hn _ (fun _=>none)]
 exact tails (by omega) cuts _ k hk
end Go.Dec
namespace Go.Dec
theorem Mk (x:bI [.str,.int .u8,.bool]) (hx:Rh [.str,.int .u8,.bool] x):oN 2000 x=some true :=
 Gs x ⟨hx.2.1.1,hx.2.1.2⟩
end Go.Dec
