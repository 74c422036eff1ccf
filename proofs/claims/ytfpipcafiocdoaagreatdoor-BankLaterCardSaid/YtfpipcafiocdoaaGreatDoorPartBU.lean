/- Part of a proof over this seat: a library of my own, and what it says of this seat. No statement is proved here. -/
import Derived.Test.YtfpipcafiocdoaaGreatDoorPartBQ
import Derived.Test.YtfpipcafiocdoaaGreatDoorPartBA
import Derived.KernelRfl
namespace Go.Dec
abbrev R3:List (Bool × Int × Unit):=List.replicate 3 (false,(0,()))
theorem Ru {α β:Type} {F G:α->Option β} {x:α} {y:β} (h:F x=some y):orF F G x=some y:=by unfold orF; rw [h]
theorem yCq {α β:Type} {F G:α->Option β} {x:α} (h:F x=none):orF F G x=G x:=by unfold orF; rw [h]
theorem zJo (n:Nat) (N:Int) (last:Bool):nM n (((0,(0,(0,()))),((0,(0,(0,()))),(false,()))),(false,(0,())),(N,(last,([],()))))=some (true,(false,0,())):=by
 unfold nM
 refine Ru ?_
 unfold zIy
 rw [if_pos ⟨rfl,rfl,rfl⟩]
abbrev LtQ:Type:=List (List UInt8 × Bool × Unit)
abbrev ltF (d:List UInt8):List (List UInt8 × List UInt8 × Unit):=[([102],(d,()))]
abbrev yL (op:Int) (t:List UInt8):dM:=(((0,(0,(0,()))),((0,(0,(0,()))),(false,()))),op,t,[],0,0,(-1),[],false,false,())
theorem zUf (op:Int) (t:List UInt8) (P:List UInt8) (Q:LtQ) (CS:List dM) (d:List UInt8) :
  bU 2000 (0,0,0,0,0,0,false,op,t,[],0,0,(-1),[],false,false,1,0,1,0,(-1),P,[],true,true,false,R3,Q,false,[],CS,false,ltF d,[],()) =
   some (true,1,0,1,0,(-1),P,[],true,true,false,Q,false,[],CS,false,ltF d,[],R3,()):=by
 have h:∀ m,bU (m+3) (0,0,0,0,0,0,false,op,t,[],0,0,(-1),[],false,false,1,0,1,0,(-1),P,[],true,true,false,R3,Q,false,[],CS,false,ltF d,[],()) =
   ob (nM (m+3) (((0,(0,(0,()))),((0,(0,(0,()))),(false,()))),(false,(0,())),(1,(true,([],()))))) fun y=>some (y.1,1,0,1,0,(-1),P,[],true,true,false,Q,false,[],CS,false,ltF d,[],R3.set 0 y.2,()):=fun _=>rfl
 rw [show (2000:Nat)=1997+3 from rfl,h,zJo]
 rfl
theorem zFb (op:Int) (t:List UInt8) (P:List UInt8) (Q:LtQ) (CS:List dM) (d:List UInt8) :
  bU 2000 (0,0,0,0,0,0,false,op,t,[],0,0,(-1),[],false,false,1,1,1,0,(-1),P,[],true,true,false,R3,Q,false,[],CS,false,ltF d,[],()) =
   some (true,1,1,1,0,(-1),P,[],true,true,false,Q,false,[],CS,false,ltF d,[],R3,()):=by
 have h:∀ m,bU (m+3) (0,0,0,0,0,0,false,op,t,[],0,0,(-1),[],false,false,1,1,1,0,(-1),P,[],true,true,false,R3,Q,false,[],CS,false,ltF d,[],()) =
   ob (nM (m+3) (((0,(0,(0,()))),((0,(0,(0,()))),(false,()))),(false,(0,())),(1,(true,([],()))))) fun y=>some (y.1,1,1,1,0,(-1),P,[],true,true,false,Q,false,[],CS,false,ltF d,[],R3.set 1 y.2,()):=fun _=>rfl
 rw [show (2000:Nat)=1997+3 from rfl,h,zJo]
 rfl
theorem zUg (op:Int) (t:List UInt8) (P:List UInt8) (Q:LtQ) (CS:List dM) (d:List UInt8) :
  bU 2000 (0,0,0,0,0,0,false,op,t,[],0,0,(-1),[],false,false,1,2,1,0,(-1),P,[],true,true,false,R3,Q,false,[],CS,false,ltF d,[],()) =
   some (true,1,2,1,0,(-1),P,[],true,true,false,Q,false,[],CS,false,ltF d,[],R3,()):=by
 have h:∀ m,bU (m+3) (0,0,0,0,0,0,false,op,t,[],0,0,(-1),[],false,false,1,2,1,0,(-1),P,[],true,true,false,R3,Q,false,[],CS,false,ltF d,[],()) =
   ob (nM (m+3) (((0,(0,(0,()))),((0,(0,(0,()))),(false,()))),(false,(0,())),(1,(true,([],()))))) fun y=>some (y.1,1,2,1,0,(-1),P,[],true,true,false,Q,false,[],CS,false,ltF d,[],R3.set 2 y.2,()):=fun _=>rfl
 rw [show (2000:Nat)=1997+3 from rfl,h,zJo]
 rfl
theorem Vw (n:Nat) (s:List UInt8) (h:s.length <= 1000):aU n (s++[10],[10])=some true:=by
 have hl:(s++[(10:UInt8)]).length=s.length+1:=by simp
 have h0:((s++[(10:UInt8)]).length:Int) - (([(10:UInt8)]).length:Int)=s.length:=by rw [hl]; simp only [List.length_cons,List.length_nil]; omega
 unfold aU
 simp only
 rw [kH (decide_eq_true (by rw [hl]; simp only [List.length_cons,List.length_nil]; omega)),h0,Cz (by omega) (by omega),dH (by rw [Bool.and_eq_true]; exact ⟨decide_eq_true (by omega),decide_eq_true (by rw [hl]; omega)⟩)]
 simp
theorem zFc (n:Nat) (s:List UInt8) (h:s.length <= 1000):strings_TrimSuffix n (s++[10],[10])=some s:=by
 have hl:(s++[(10:UInt8)]).length=s.length+1:=by simp
 have h0:((s++[(10:UInt8)]).length:Int) - (([(10:UInt8)]).length:Int)=s.length:=by rw [hl]; simp only [List.length_cons,List.length_nil]; omega
 unfold strings_TrimSuffix dI
 simp only
 rw [Vw n s h,jW,kH rfl,h0,Cz (by omega) (by omega),dH (by rw [Bool.and_eq_true]; exact ⟨decide_eq_true (by omega),decide_eq_true (by rw [hl]; omega)⟩)]
 simp [ob]
abbrev bkL (pc:Int) (P:List UInt8) (Q:LtQ):Int × Int × Int × Int × Int × List UInt8 × List UInt8 × Bool × Bool × Bool × List (Bool × Int × Unit) × LtQ × Unit:=(1,(pc,(1,(0,((-1),(P,([],(true,(true,(false,(R3,(Q,()))))))))))))
abbrev csL (t:List UInt8):List dM:=[yL 97 (t++[10]),yL 114 [102],yL 97 [122,10]]
theorem yAl (t P d:List UInt8) (h:t.length <= 60):fA 2000 ((false,([],(csL t,()))),false,bkL 0 P [],ltF d)=some (bkL 1 P [(t,(false,()))],ltF d,[]):=by
 unfold fA
 simp only
 rw [gN (by rfl),gN (by rfl),dH (by rfl),show dO (Ty.dflt aB) (csL t) 0=yL 97 (t++[10]) from rfl]
 simp only [yL]
 rw [zUf,jW,kH rfl,dH (show ((97:Int) == 97)=true from rfl)]
 unfold lD vK
 simp only
 rw [zFc 2000 t (by omega),jW,jW]
 rfl
theorem zUh (t P d:List UInt8) (Q:LtQ):fA 2000 ((false,([],(csL t,()))),false,bkL 1 P Q,ltF d)=none:=by
 unfold fA
 simp only
 rw [gN (by rfl),gN (by rfl),dH (by rfl),show dO (Ty.dflt aB) (csL t) 1=yL 114 [102] from rfl]
 simp only [yL]
 rw [zFb,jW]
 rfl
theorem yAm (t P d:List UInt8):uT 2000 ((false,([],(csL t,()))),false,bkL 1 P [(t,(false,()))],ltF d)=some (bkL 2 P [(t,(false,())),([102],(true,()))],ltF d,[]):=by
 unfold uT
 simp only
 rw [gN (by rfl),gN (by rfl),dH (by rfl),show dO (Ty.dflt aB) (csL t) 1=yL 114 [102] from rfl]
 simp only [yL]
 rw [zFb,jW]
 rfl
theorem yAn (t P d:List UInt8):fA 2000 ((false,([],(csL t,()))),false,bkL 2 P [(t,(false,())),([102],(true,()))],ltF d)=some (bkL 3 P [(t,(false,())),([102],(true,())),([122],(false,()))],ltF d,[]):=by
 unfold fA
 simp only
 rw [gN (by rfl),gN (by rfl),dH (by rfl),show dO (Ty.dflt aB) (csL t) 2=yL 97 [122,10] from rfl]
 simp only [yL]
 rw [zUg,jW,kH rfl,dH (show ((97:Int) == 97)=true from rfl)]
 unfold lD vK
 simp only
 rw [show strings_TrimSuffix 2000 ([122,10],[10])=some [122] from zFc 2000 [122] (by decide),jW,jW]
 rfl
end Go.Dec
namespace Go.Dec
abbrev zPr (P:List UInt8):Int × Int × Int × Int × Int × List UInt8 × List UInt8 × Bool × Bool × Bool × List (Bool × Int × Unit) × LtQ × Unit:=(0,(3,(1,(0,((-1),(P,([],(true,(true,(false,(R3,([],()))))))))))))
abbrev qL (t:List UInt8):LtQ:=[(t,(false,())),([102],(true,())),([122],(false,()))]
theorem zUi (t P:List UInt8):fA 2000 ((false,([],(csL t,()))),false,bkL 3 P (qL t),ltF [])=some (zPr P,ltF [],[(P,(true,())),(t,(true,())),([122],(true,()))]):=by kernel_rfl
theorem zUj (t P:List UInt8) (d:UInt8) (ds:List UInt8):kJ 2000 (1,3,1,0,(-1),P,[],true,true,false,R3,qL t,false,[],csL t,false,ltF (d :: ds),[(P,(true,()))],()) =
  ob (strings_CutSuffix 2000 (d :: ds,[10])) fun y=>some (1,3,1,0,(-1),P,[],true,true,false,R3,[],false,[],csL t,false,ltF (d :: ds),[(P,(true,())),(t,(true,())),(y.1,(y.2,())),([122],(true,()))],()):=by
 unfold kJ
 kernel_rfl
theorem zUk (t P:List UInt8) (d:UInt8) (ds:List UInt8) (c:List UInt8) (e:Bool) (h:strings_CutSuffix 2000 (d :: ds,[10])=some (c,e)) :
  fA 2000 ((false,([],(csL t,()))),false,bkL 3 P (qL t),ltF (d :: ds))=some (zPr P,ltF (d :: ds),[(P,(true,())),(t,(true,())),(c,(e,())),([122],(true,()))]):=by
 unfold fA
 simp only
 rw [gN (by rfl),kH (by rfl)]
 rw [show iJ 2000 (1,3,1,0,(-1),P,[],true,true,false,R3,qL t,false,[],csL t,false,ltF (d :: ds),[],())=some (1,3,1,0,(-1),P,[],true,true,false,R3,qL t,false,[],csL t,false,ltF (d :: ds),[(P,(true,()))],()) from by kernel_rfl,jW]
 unfold kD
 simp only
 rw [zUj,h]
 rfl
theorem zUl (n:Nat) (s:List UInt8) (h:s.length <= 1000):strings_CutSuffix n (s++[10],[10])=some (s,true):=by
 have hl:(s++[(10:UInt8)]).length=s.length+1:=by simp
 have h0:((s++[(10:UInt8)]).length:Int) - (([(10:UInt8)]).length:Int)=s.length:=by rw [hl]; simp only [List.length_cons,List.length_nil]; omega
 unfold strings_CutSuffix bT
 simp only
 rw [Vw n s h,jW,gN (show (!true)=false from rfl),h0,Cz (by omega) (by omega),dH (by rw [Bool.and_eq_true]; exact ⟨decide_eq_true (by omega),decide_eq_true (by rw [hl]; omega)⟩)]
 simp [ob]
theorem yAo (n:Nat) (s:List UInt8) (x:UInt8) (hx:x ≠ 10) (h:s.length <= 1000):strings_CutSuffix n (s++[x],[10])=some (s++[x],false):=by
 have hl:(s++[x]).length=s.length+1:=by simp
 have h0:((s++[x]).length:Int) - (([(10:UInt8)]).length:Int)=s.length:=by rw [hl]; simp only [List.length_cons,List.length_nil]; omega
 have hs:aU n (s++[x],[10])=some false:=by
  unfold aU
  simp only
  rw [kH (decide_eq_true (by rw [hl]; simp only [List.length_cons,List.length_nil]; omega)),h0,Cz (by omega) (by omega),dH (by rw [Bool.and_eq_true]; exact ⟨decide_eq_true (by omega),decide_eq_true (by rw [hl]; omega)⟩)]
  simp [hx]
 unfold strings_CutSuffix bT
 simp only
 rw [hs,jW,kH (show (!false)=true from rfl)]
 rfl
end Go.Dec
