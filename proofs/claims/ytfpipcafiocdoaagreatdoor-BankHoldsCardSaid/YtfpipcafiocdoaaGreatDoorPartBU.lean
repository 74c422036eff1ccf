/- Part of a proof over this seat: a library of my own, and what it says of this seat. No statement is proved here. -/
import Derived.Test.YtfpipcafiocdoaaGreatDoorPartBS
import Derived.Test.YtfpipcafiocdoaaGreatDoorPartBA
namespace Go.Dec
abbrev R10:List (Bool × Int × Unit):=List.replicate 10 (false,(0,()))
theorem uG {α β:Type} {F G:α->Option β} {x:α} {y:β} (h:F x=some y):orF F G x=some y:=by unfold orF; rw [h]
theorem dS {α β:Type} {F G:α->Option β} {x:α} (h:F x=none):orF F G x=G x:=by unfold orF; rw [h]
theorem Av (n:Nat) (N:Int) (last:Bool):dO n (((0,(0,(0,()))),((0,(0,(0,()))),(false,()))),(false,(0,())),(N,(last,([],()))))=some (true,(false,0,())):=by
 unfold dO
 refine uG ?_
 unfold Ua
 rw [if_pos ⟨rfl,rfl,rfl⟩]
theorem yCo (n:Nat) (last:Bool):dO n (((1,(1,(0,()))),((0,(0,(0,()))),(false,()))),(false,(0,())),(1,(last,([],()))))=some (true,(false,0,())):=by
 unfold dO
 refine (dS ?_).trans (uG ?_)
 ·unfold Ua
  rw [if_neg (by rintro ⟨h,_⟩; simp at h)]
 ·unfold zBt
  rw [if_pos ⟨rfl,rfl,rfl,rfl⟩]
theorem yCp (n:Nat) (last:Bool):dO n (((1,(1,(0,()))),((0,(0,(0,()))),(false,()))),(false,(0,())),(2,(last,([],()))))=some (false,(false,0,())):=by
 unfold dO
 refine (dS ?_).trans ((dS ?_).trans ?_)
 ·unfold Ua
  rw [if_neg (by rintro ⟨h,_⟩; simp at h)]
 ·unfold zBt
  rw [if_neg (by rintro ⟨_,_,h,_⟩; simp at h)]
 ·unfold zIl
  rw [if_pos ⟨rfl,rfl,rfl,rfl⟩]
theorem dF {n:Nat} {P:List UInt8} (h:P.length <= 60):∃ z,strings_Cut n (P,[10])=some z:=⟨_,by
 unfold strings_Cut
 exact aG (decide_eq_true (by simp only; omega)) _⟩
theorem Uj (op N:Int) (P H:List UInt8) (CS:List tK) :
  aO 2000 (0,0,0,0,0,0,false,op,[],[],0,0,(-1),[],false,false,1,1,N,0,(-1),P,H,true,false,false,R10,[],false,[],CS,false,[],[],()) =
   some (true,1,1,N,0,(-1),P,H,true,false,false,[],false,[],CS,false,[],[],R10,()):=by
 have h:∀ m,aO (m+3) (0,0,0,0,0,0,false,op,[],[],0,0,(-1),[],false,false,1,1,N,0,(-1),P,H,true,false,false,R10,[],false,[],CS,false,[],[],()) =
   ob (dO (m+3) (((0,(0,(0,()))),((0,(0,(0,()))),(false,()))),(false,(0,())),(N,(false,([],()))))) fun y=>some (y.1,1,1,N,0,(-1),P,H,true,false,false,[],false,[],CS,false,[],[],R10.set 1 y.2,()):=fun _=>rfl
 rw [show (2000:Nat)=1997+3 from rfl,h,Av]
 rfl
theorem zEz (op N:Int) (P H:List UInt8) (CS:List tK) :
  aO 2000 (0,0,0,0,0,0,false,op,[],[],0,0,(-1),[],false,false,1,2,N,0,(-1),P,H,true,false,false,R10,[],false,[],CS,false,[],[],()) =
   some (true,1,2,N,0,(-1),P,H,true,false,false,[],false,[],CS,false,[],[],R10,()):=by
 have h:∀ m,aO (m+3) (0,0,0,0,0,0,false,op,[],[],0,0,(-1),[],false,false,1,2,N,0,(-1),P,H,true,false,false,R10,[],false,[],CS,false,[],[],()) =
   ob (dO (m+3) (((0,(0,(0,()))),((0,(0,(0,()))),(false,()))),(false,(0,())),(N,(false,([],()))))) fun y=>some (y.1,1,2,N,0,(-1),P,H,true,false,false,[],false,[],CS,false,[],[],R10.set 2 y.2,()):=fun _=>rfl
 rw [show (2000:Nat)=1997+3 from rfl,h,Av]
 rfl
theorem Lh (op N:Int) (P H:List UInt8) (CS:List tK) :
  aO 2000 (0,0,0,0,0,0,false,op,[],[],0,0,(-1),[],false,false,1,4,N,0,(-1),P,H,true,false,false,R10,[],false,[],CS,false,[],[],()) =
   some (true,1,4,N,0,(-1),P,H,true,false,false,[],false,[],CS,false,[],[],R10,()):=by
 have h:∀ m,aO (m+3) (0,0,0,0,0,0,false,op,[],[],0,0,(-1),[],false,false,1,4,N,0,(-1),P,H,true,false,false,R10,[],false,[],CS,false,[],[],()) =
   ob (dO (m+3) (((0,(0,(0,()))),((0,(0,(0,()))),(false,()))),(false,(0,())),(N,(false,([],()))))) fun y=>some (y.1,1,4,N,0,(-1),P,H,true,false,false,[],false,[],CS,false,[],[],R10.set 4 y.2,()):=fun _=>rfl
 rw [show (2000:Nat)=1997+3 from rfl,h,Av]
 rfl
theorem Li (op N:Int) (P H:List UInt8) (CS:List tK) :
  aO 2000 (0,0,0,0,0,0,false,op,[],[],0,0,(-1),[],false,false,1,5,N,0,(-1),P,H,true,false,false,R10,[],false,[],CS,false,[],[],()) =
   some (true,1,5,N,0,(-1),P,H,true,false,false,[],false,[],CS,false,[],[],R10,()):=by
 have h:∀ m,aO (m+3) (0,0,0,0,0,0,false,op,[],[],0,0,(-1),[],false,false,1,5,N,0,(-1),P,H,true,false,false,R10,[],false,[],CS,false,[],[],()) =
   ob (dO (m+3) (((0,(0,(0,()))),((0,(0,(0,()))),(false,()))),(false,(0,())),(N,(false,([],()))))) fun y=>some (y.1,1,5,N,0,(-1),P,H,true,false,false,[],false,[],CS,false,[],[],R10.set 5 y.2,()):=fun _=>rfl
 rw [show (2000:Nat)=1997+3 from rfl,h,Av]
 rfl
theorem Uk (op N:Int) (P H:List UInt8) (CS:List tK) :
  aO 2000 (0,0,0,0,0,0,false,op,[],[],0,0,(-1),[],false,false,1,6,N,0,(-1),P,H,true,false,false,R10,[],false,[],CS,false,[],[],()) =
   some (true,1,6,N,0,(-1),P,H,true,false,false,[],false,[],CS,false,[],[],R10,()):=by
 have h:∀ m,aO (m+3) (0,0,0,0,0,0,false,op,[],[],0,0,(-1),[],false,false,1,6,N,0,(-1),P,H,true,false,false,R10,[],false,[],CS,false,[],[],()) =
   ob (dO (m+3) (((0,(0,(0,()))),((0,(0,(0,()))),(false,()))),(false,(0,())),(N,(false,([],()))))) fun y=>some (y.1,1,6,N,0,(-1),P,H,true,false,false,[],false,[],CS,false,[],[],R10.set 6 y.2,()):=fun _=>rfl
 rw [show (2000:Nat)=1997+3 from rfl,h,Av]
 rfl
theorem Dl (op N:Int) (P H:List UInt8) (CS:List tK) :
  aO 2000 (0,0,0,0,0,0,false,op,[],[],0,0,(-1),[],false,false,1,7,N,0,(-1),P,H,true,false,false,R10,[],false,[],CS,false,[],[],()) =
   some (true,1,7,N,0,(-1),P,H,true,false,false,[],false,[],CS,false,[],[],R10,()):=by
 have h:∀ m,aO (m+3) (0,0,0,0,0,0,false,op,[],[],0,0,(-1),[],false,false,1,7,N,0,(-1),P,H,true,false,false,R10,[],false,[],CS,false,[],[],()) =
   ob (dO (m+3) (((0,(0,(0,()))),((0,(0,(0,()))),(false,()))),(false,(0,())),(N,(false,([],()))))) fun y=>some (y.1,1,7,N,0,(-1),P,H,true,false,false,[],false,[],CS,false,[],[],R10.set 7 y.2,()):=fun _=>rfl
 rw [show (2000:Nat)=1997+3 from rfl,h,Av]
 rfl
theorem yP (op N:Int) (P H:List UInt8) (CS:List tK) :
  aO 2000 (0,0,0,0,0,0,false,op,[],[],0,0,(-1),[],false,false,1,8,N,0,(-1),P,H,true,false,false,R10,[],false,[],CS,false,[],[],()) =
   some (true,1,8,N,0,(-1),P,H,true,false,false,[],false,[],CS,false,[],[],R10,()):=by
 have h:∀ m,aO (m+3) (0,0,0,0,0,0,false,op,[],[],0,0,(-1),[],false,false,1,8,N,0,(-1),P,H,true,false,false,R10,[],false,[],CS,false,[],[],()) =
   ob (dO (m+3) (((0,(0,(0,()))),((0,(0,(0,()))),(false,()))),(false,(0,())),(N,(false,([],()))))) fun y=>some (y.1,1,8,N,0,(-1),P,H,true,false,false,[],false,[],CS,false,[],[],R10.set 8 y.2,()):=fun _=>rfl
 rw [show (2000:Nat)=1997+3 from rfl,h,Av]
 rfl
theorem vI (op N:Int) (P H:List UInt8) (CS:List tK) :
  aO 2000 (0,0,0,0,0,0,false,op,[],[],0,0,(-1),[],false,false,1,9,N,0,(-1),P,H,true,false,false,R10,[],false,[],CS,false,[],[],()) =
   some (true,1,9,N,0,(-1),P,H,true,false,false,[],false,[],CS,false,[],[],R10,()):=by
 have h:∀ m,aO (m+3) (0,0,0,0,0,0,false,op,[],[],0,0,(-1),[],false,false,1,9,N,0,(-1),P,H,true,false,false,R10,[],false,[],CS,false,[],[],()) =
   ob (dO (m+3) (((0,(0,(0,()))),((0,(0,(0,()))),(false,()))),(false,(0,())),(N,(false,([],()))))) fun y=>some (y.1,1,9,N,0,(-1),P,H,true,false,false,[],false,[],CS,false,[],[],R10.set 9 y.2,()):=fun _=>rfl
 rw [show (2000:Nat)=1997+3 from rfl,h,Av]
 rfl
theorem zLj (P H:List UInt8) (CS:List tK) :
  aO 2000 (1,1,0,0,0,0,false,123,[],[],0,3,(-1),[],false,false,1,0,1,0,(-1),P,H,true,false,false,R10,[],false,[],CS,false,[],[],()) =
   some (true,1,0,1,0,(-1),P,H,true,false,false,[],false,[],CS,false,[],[],R10,()):=by
 have h:∀ m,aO (m+3) (1,1,0,0,0,0,false,123,[],[],0,3,(-1),[],false,false,1,0,1,0,(-1),P,H,true,false,false,R10,[],false,[],CS,false,[],[],()) =
   ob (dO (m+3) (((1,(1,(0,()))),((0,(0,(0,()))),(false,()))),(false,(0,())),(1,(false,([],()))))) fun y=>some (y.1,1,0,1,0,(-1),P,H,true,false,false,[],false,[],CS,false,[],[],R10.set 0 y.2,()):=fun _=>rfl
 rw [show (2000:Nat)=1997+3 from rfl,h,yCo]
 rfl
theorem zLk (P H:List UInt8) (CS:List tK) :
  aO 2000 (1,1,0,0,0,0,false,123,[],[],0,3,(-1),[],false,false,1,0,2,0,(-1),P,H,true,false,false,R10,[],false,[],CS,false,[],[],()) =
   some (false,1,0,2,0,(-1),P,H,true,false,false,[],false,[],CS,false,[],[],R10,()):=by
 have h:∀ m,aO (m+3) (1,1,0,0,0,0,false,123,[],[],0,3,(-1),[],false,false,1,0,2,0,(-1),P,H,true,false,false,R10,[],false,[],CS,false,[],[],()) =
   ob (dO (m+3) (((1,(1,(0,()))),((0,(0,(0,()))),(false,()))),(false,(0,())),(2,(false,([],()))))) fun y=>some (y.1,1,0,2,0,(-1),P,H,true,false,false,[],false,[],CS,false,[],[],R10.set 0 y.2,()):=fun _=>rfl
 rw [show (2000:Nat)=1997+3 from rfl,h,yCp]
 rfl
theorem zZq (P H:List UInt8):bH 2000 ((false,([],(aD,()))),false,(1,(0,(1,(0,((-1),(P,(H,(true,(false,(false,(R10,([],())))))))))))),[])=some ((1,(1,(1,(0,((-1),(P,(H,(true,(false,(false,(R10,([],())))))))))))),[],[]):=by
 unfold bH
 simp only
 rw [aL (by rfl),aL (by rfl),aG (by rfl),show bC (Ty.dflt aA) aD 0=zCc from rfl]
 simp only [zCc]
 rw [zLj,bL]
 rfl
theorem yCq (P H:List UInt8):dX 2000 ((false,([],(aD,()))),false,(1,(0,(1,(0,((-1),(P,(H,(true,(false,(false,(R10,([],())))))))))))),[])=some ((1,(1,(1,(0,((-1),(P,(H,(true,(false,(false,(R10,([],())))))))))))),[],[]):=(uG (zZq P H))
theorem zZr (P H:List UInt8):bH 2000 ((false,([],(aD,()))),false,(1,(1,(1,(0,((-1),(P,(H,(true,(false,(false,(R10,([],())))))))))))),[])=none:=by
 unfold bH
 simp only
 rw [aL (by rfl),aL (by rfl),aG (by rfl),show bC (Ty.dflt aA) aD 1=aW 104 from rfl]
 simp only [aW]
 rw [Uj,bL]
 rfl
theorem zZs (P H:List UInt8):bR 2000 ((false,([],(aD,()))),false,(1,(1,(1,(0,((-1),(P,(H,(true,(false,(false,(R10,([],())))))))))))),[])=none:=by
 unfold bR
 simp only
 rw [aL (by rfl),aL (by rfl),aG (by rfl),show bC (Ty.dflt aA) aD 1=aW 104 from rfl]
 simp only [aW]
 rw [Uj,bL]
 rfl
theorem zZt (P H:List UInt8):aN 104 2000 ((false,([],(aD,()))),false,(1,(1,(1,(0,((-1),(P,(H,(true,(false,(false,(R10,([],())))))))))))),[])=some ((1,(2,(1,(0,((-1),(P,(P,(true,(false,(false,(R10,([],())))))))))))),[],[]):=by
 unfold aN
 simp only
 rw [aL (by rfl),aL (by rfl),aG (by rfl),show bC (Ty.dflt aA) aD 1=aW 104 from rfl]
 simp only [aW]
 rw [Uj,bL]
 rfl
theorem yCr (P H:List UInt8):dX 2000 ((false,([],(aD,()))),false,(1,(1,(1,(0,((-1),(P,(H,(true,(false,(false,(R10,([],())))))))))))),[])=some ((1,(2,(1,(0,((-1),(P,(P,(true,(false,(false,(R10,([],())))))))))))),[],[]):=((dS (zZr P H)).trans ((dS (zZs P H)).trans (uG (zZt P H))))
theorem zZu (P H:List UInt8):bH 2000 ((false,([],(aD,()))),false,(1,(2,(1,(0,((-1),(P,(H,(true,(false,(false,(R10,([],())))))))))))),[])=none:=by
 unfold bH
 simp only
 rw [aL (by rfl),aL (by rfl),aG (by rfl),show bC (Ty.dflt aA) aD 2=aW 100 from rfl]
 simp only [aW]
 rw [zEz,bL]
 rfl
theorem zZv (P H:List UInt8) (h:P.length <= 60):bR 2000 ((false,([],(aD,()))),false,(1,(2,(1,(0,((-1),(P,(H,(true,(false,(false,(R10,([],())))))))))))),[])=some ((0,(3,(1,(0,((-1),(P,(H,(true,(false,(false,(R10,([],())))))))))))),[],[]):=by
 unfold bR
 simp only
 rw [aL (by rfl),aL (by rfl),aG (by rfl),show bC (Ty.dflt aA) aD 2=aW 100 from rfl]
 simp only [aW]
 rw [zEz,bL]
 simp only
 rw [zNl,aG (by rfl)]
 unfold lF
 simp only
 obtain ⟨z,hz⟩:=dF (n:=2000) h
 rw [hz,bL,nO (by rfl)]
 rfl
theorem yCs (P H:List UInt8) (h:P.length <= 60):dX 2000 ((false,([],(aD,()))),false,(1,(2,(1,(0,((-1),(P,(H,(true,(false,(false,(R10,([],())))))))))))),[])=some ((0,(3,(1,(0,((-1),(P,(H,(true,(false,(false,(R10,([],())))))))))))),[],[]):=((dS (zZu P H)).trans (uG (zZv P H h)))
theorem zZw (P H:List UInt8):bH 2000 ((false,([],(aD,()))),false,(1,(0,(2,(0,((-1),(P,(H,(true,(false,(false,(R10,([],())))))))))))),[])=some ((1,(4,(2,(0,((-1),(P,(H,(true,(false,(false,(R10,([],())))))))))))),[],[]):=by
 unfold bH
 simp only
 rw [aL (by rfl),aL (by rfl),aG (by rfl),show bC (Ty.dflt aA) aD 0=zCc from rfl]
 simp only [zCc]
 rw [zLk,bL]
 rfl
theorem yCt (P H:List UInt8):dX 2000 ((false,([],(aD,()))),false,(1,(0,(2,(0,((-1),(P,(H,(true,(false,(false,(R10,([],())))))))))))),[])=some ((1,(4,(2,(0,((-1),(P,(H,(true,(false,(false,(R10,([],())))))))))))),[],[]):=(uG (zZw P H))
theorem zZx (P H:List UInt8):bH 2000 ((false,([],(aD,()))),false,(1,(4,(2,(0,((-1),(P,(H,(true,(false,(false,(R10,([],())))))))))))),[])=none:=by
 unfold bH
 simp only
 rw [aL (by rfl),aL (by rfl),aG (by rfl),show bC (Ty.dflt aA) aD 4=aW 120 from rfl]
 simp only [aW]
 rw [Lh,bL]
 rfl
theorem zZy (P H:List UInt8):bR 2000 ((false,([],(aD,()))),false,(1,(4,(2,(0,((-1),(P,(H,(true,(false,(false,(R10,([],())))))))))))),[])=none:=by
 unfold bR
 simp only
 rw [aL (by rfl),aL (by rfl),aG (by rfl),show bC (Ty.dflt aA) aD 4=aW 120 from rfl]
 simp only [aW]
 rw [Lh,bL]
 rfl
theorem zLl (P H:List UInt8):aN 104 2000 ((false,([],(aD,()))),false,(1,(4,(2,(0,((-1),(P,(H,(true,(false,(false,(R10,([],())))))))))))),[])=none:=by
 unfold aN
 simp only
 rw [aL (by rfl),aL (by rfl),aG (by rfl),show bC (Ty.dflt aA) aD 4=aW 120 from rfl]
 simp only [aW]
 rw [Lh,bL]
 rfl
theorem zZz (P H:List UInt8):aN 120 2000 ((false,([],(aD,()))),false,(1,(4,(2,(0,((-1),(P,(H,(true,(false,(false,(R10,([],())))))))))))),[])=some ((1,(5,(2,(0,((-1),(H,(P,(true,(false,(false,(R10,([],())))))))))))),[],[]):=by
 unfold aN
 simp only
 rw [aL (by rfl),aL (by rfl),aG (by rfl),show bC (Ty.dflt aA) aD 4=aW 120 from rfl]
 simp only [aW]
 rw [Lh,bL]
 rfl
theorem yCu (P H:List UInt8):dX 2000 ((false,([],(aD,()))),false,(1,(4,(2,(0,((-1),(P,(H,(true,(false,(false,(R10,([],())))))))))))),[])=some ((1,(5,(2,(0,((-1),(H,(P,(true,(false,(false,(R10,([],())))))))))))),[],[]):=((dS (zZx P H)).trans ((dS (zZy P H)).trans ((dS (zLl P H)).trans (uG (zZz P H)))))
theorem yAa (P H:List UInt8):bH 2000 ((false,([],(aD,()))),false,(1,(5,(2,(0,((-1),(P,(H,(true,(false,(false,(R10,([],())))))))))))),[])=none:=by
 unfold bH
 simp only
 rw [aL (by rfl),aL (by rfl),aG (by rfl),show bC (Ty.dflt aA) aD 5=aW 120 from rfl]
 simp only [aW]
 rw [Li,bL]
 rfl
theorem yAb (P H:List UInt8):bR 2000 ((false,([],(aD,()))),false,(1,(5,(2,(0,((-1),(P,(H,(true,(false,(false,(R10,([],())))))))))))),[])=none:=by
 unfold bR
 simp only
 rw [aL (by rfl),aL (by rfl),aG (by rfl),show bC (Ty.dflt aA) aD 5=aW 120 from rfl]
 simp only [aW]
 rw [Li,bL]
 rfl
theorem zLm (P H:List UInt8):aN 104 2000 ((false,([],(aD,()))),false,(1,(5,(2,(0,((-1),(P,(H,(true,(false,(false,(R10,([],())))))))))))),[])=none:=by
 unfold aN
 simp only
 rw [aL (by rfl),aL (by rfl),aG (by rfl),show bC (Ty.dflt aA) aD 5=aW 120 from rfl]
 simp only [aW]
 rw [Li,bL]
 rfl
theorem yAc (P H:List UInt8):aN 120 2000 ((false,([],(aD,()))),false,(1,(5,(2,(0,((-1),(P,(H,(true,(false,(false,(R10,([],())))))))))))),[])=some ((1,(6,(2,(0,((-1),(H,(P,(true,(false,(false,(R10,([],())))))))))))),[],[]):=by
 unfold aN
 simp only
 rw [aL (by rfl),aL (by rfl),aG (by rfl),show bC (Ty.dflt aA) aD 5=aW 120 from rfl]
 simp only [aW]
 rw [Li,bL]
 rfl
theorem yCv (P H:List UInt8):dX 2000 ((false,([],(aD,()))),false,(1,(5,(2,(0,((-1),(P,(H,(true,(false,(false,(R10,([],())))))))))))),[])=some ((1,(6,(2,(0,((-1),(H,(P,(true,(false,(false,(R10,([],())))))))))))),[],[]):=((dS (yAa P H)).trans ((dS (yAb P H)).trans ((dS (zLm P H)).trans (uG (yAc P H)))))
theorem yAd (P H:List UInt8):bH 2000 ((false,([],(aD,()))),false,(1,(6,(2,(0,((-1),(P,(H,(true,(false,(false,(R10,([],())))))))))))),[])=none:=by
 unfold bH
 simp only
 rw [aL (by rfl),aL (by rfl),aG (by rfl),show bC (Ty.dflt aA) aD 6=aW 104 from rfl]
 simp only [aW]
 rw [Uk,bL]
 rfl
theorem yAe (P H:List UInt8):bR 2000 ((false,([],(aD,()))),false,(1,(6,(2,(0,((-1),(P,(H,(true,(false,(false,(R10,([],())))))))))))),[])=none:=by
 unfold bR
 simp only
 rw [aL (by rfl),aL (by rfl),aG (by rfl),show bC (Ty.dflt aA) aD 6=aW 104 from rfl]
 simp only [aW]
 rw [Uk,bL]
 rfl
theorem yAf (P H:List UInt8):aN 104 2000 ((false,([],(aD,()))),false,(1,(6,(2,(0,((-1),(P,(H,(true,(false,(false,(R10,([],())))))))))))),[])=some ((1,(7,(2,(0,((-1),(P,(P,(true,(false,(false,(R10,([],())))))))))))),[],[]):=by
 unfold aN
 simp only
 rw [aL (by rfl),aL (by rfl),aG (by rfl),show bC (Ty.dflt aA) aD 6=aW 104 from rfl]
 simp only [aW]
 rw [Uk,bL]
 rfl
theorem yCw (P H:List UInt8):dX 2000 ((false,([],(aD,()))),false,(1,(6,(2,(0,((-1),(P,(H,(true,(false,(false,(R10,([],())))))))))))),[])=some ((1,(7,(2,(0,((-1),(P,(P,(true,(false,(false,(R10,([],())))))))))))),[],[]):=((dS (yAd P H)).trans ((dS (yAe P H)).trans (uG (yAf P H))))
theorem yAg (P H:List UInt8):bH 2000 ((false,([],(aD,()))),false,(1,(7,(2,(0,((-1),(P,(H,(true,(false,(false,(R10,([],())))))))))))),[])=none:=by
 unfold bH
 simp only
 rw [aL (by rfl),aL (by rfl),aG (by rfl),show bC (Ty.dflt aA) aD 7=aW 103 from rfl]
 simp only [aW]
 rw [Dl,bL]
 rfl
theorem yAh (P H:List UInt8):bR 2000 ((false,([],(aD,()))),false,(1,(7,(2,(0,((-1),(P,(H,(true,(false,(false,(R10,([],())))))))))))),[])=none:=by
 unfold bR
 simp only
 rw [aL (by rfl),aL (by rfl),aG (by rfl),show bC (Ty.dflt aA) aD 7=aW 103 from rfl]
 simp only [aW]
 rw [Dl,bL]
 rfl
theorem zLn (P H:List UInt8):aN 104 2000 ((false,([],(aD,()))),false,(1,(7,(2,(0,((-1),(P,(H,(true,(false,(false,(R10,([],())))))))))))),[])=none:=by
 unfold aN
 simp only
 rw [aL (by rfl),aL (by rfl),aG (by rfl),show bC (Ty.dflt aA) aD 7=aW 103 from rfl]
 simp only [aW]
 rw [Dl,bL]
 rfl
theorem zLo (P H:List UInt8):aN 120 2000 ((false,([],(aD,()))),false,(1,(7,(2,(0,((-1),(P,(H,(true,(false,(false,(R10,([],())))))))))))),[])=none:=by
 unfold aN
 simp only
 rw [aL (by rfl),aL (by rfl),aG (by rfl),show bC (Ty.dflt aA) aD 7=aW 103 from rfl]
 simp only [aW]
 rw [Dl,bL]
 rfl
theorem yAi (P H:List UInt8):aN 103 2000 ((false,([],(aD,()))),false,(1,(7,(2,(0,((-1),(P,(H,(true,(false,(false,(R10,([],())))))))))))),[])=some ((1,(8,(2,(0,((-1),(H,(H,(true,(false,(false,(R10,([],())))))))))))),[],[]):=by
 unfold aN
 simp only
 rw [aL (by rfl),aL (by rfl),aG (by rfl),show bC (Ty.dflt aA) aD 7=aW 103 from rfl]
 simp only [aW]
 rw [Dl,bL]
 rfl
theorem yCx (P H:List UInt8):dX 2000 ((false,([],(aD,()))),false,(1,(7,(2,(0,((-1),(P,(H,(true,(false,(false,(R10,([],())))))))))))),[])=some ((1,(8,(2,(0,((-1),(H,(H,(true,(false,(false,(R10,([],())))))))))))),[],[]):=((dS (yAg P H)).trans ((dS (yAh P H)).trans ((dS (zLn P H)).trans ((dS (zLo P H)).trans (uG (yAi P H))))))
theorem yAj (P H:List UInt8):bH 2000 ((false,([],(aD,()))),false,(1,(8,(2,(0,((-1),(P,(H,(true,(false,(false,(R10,([],())))))))))))),[])=none:=by
 unfold bH
 simp only
 rw [aL (by rfl),aL (by rfl),aG (by rfl),show bC (Ty.dflt aA) aD 8=aW 72 from rfl]
 simp only [aW]
 rw [yP,bL]
 rfl
theorem yAk (P H:List UInt8):bR 2000 ((false,([],(aD,()))),false,(1,(8,(2,(0,((-1),(P,(H,(true,(false,(false,(R10,([],())))))))))))),[])=none:=by
 unfold bR
 simp only
 rw [aL (by rfl),aL (by rfl),aG (by rfl),show bC (Ty.dflt aA) aD 8=aW 72 from rfl]
 simp only [aW]
 rw [yP,bL]
 rfl
theorem zLp (P H:List UInt8):aN 104 2000 ((false,([],(aD,()))),false,(1,(8,(2,(0,((-1),(P,(H,(true,(false,(false,(R10,([],())))))))))))),[])=none:=by
 unfold aN
 simp only
 rw [aL (by rfl),aL (by rfl),aG (by rfl),show bC (Ty.dflt aA) aD 8=aW 72 from rfl]
 simp only [aW]
 rw [yP,bL]
 rfl
theorem zLq (P H:List UInt8):aN 120 2000 ((false,([],(aD,()))),false,(1,(8,(2,(0,((-1),(P,(H,(true,(false,(false,(R10,([],())))))))))))),[])=none:=by
 unfold aN
 simp only
 rw [aL (by rfl),aL (by rfl),aG (by rfl),show bC (Ty.dflt aA) aD 8=aW 72 from rfl]
 simp only [aW]
 rw [yP,bL]
 rfl
theorem zLr (P H:List UInt8):aN 103 2000 ((false,([],(aD,()))),false,(1,(8,(2,(0,((-1),(P,(H,(true,(false,(false,(R10,([],())))))))))))),[])=none:=by
 unfold aN
 simp only
 rw [aL (by rfl),aL (by rfl),aG (by rfl),show bC (Ty.dflt aA) aD 8=aW 72 from rfl]
 simp only [aW]
 rw [yP,bL]
 rfl
theorem yAl (P H:List UInt8) (h:P.length+H.length <= 1000):aN 72 2000 ((false,([],(aD,()))),false,(1,(8,(2,(0,((-1),(P,(H,(true,(false,(false,(R10,([],())))))))))))),[])=some ((1,(9,(2,(0,((-1),(P,(H++([10]++P),(true,(false,(false,(R10,([],())))))))))))),[],[]):=by
 unfold aN
 simp only
 rw [aL (by rfl),aL (by rfl),aG (by rfl),show bC (Ty.dflt aA) aD 8=aW 72 from rfl]
 simp only [aW]
 rw [yP,bL]
 simp only
 rw [zNl,aG (by rfl)]
 unfold kS
 simp only
 rw [aL (by rfl),aL (by rfl),aL (by rfl),nO (by rfl),aG (decide_eq_true (by simp [eH]; omega)),aG (decide_eq_true (by simp [eH]; omega)),bL]
 rfl
theorem yCy (P H:List UInt8) (h:P.length+H.length <= 1000):dX 2000 ((false,([],(aD,()))),false,(1,(8,(2,(0,((-1),(P,(H,(true,(false,(false,(R10,([],())))))))))))),[])=some ((1,(9,(2,(0,((-1),(P,(H++([10]++P),(true,(false,(false,(R10,([],())))))))))))),[],[]):=((dS (yAj P H)).trans ((dS (yAk P H)).trans ((dS (zLp P H)).trans ((dS (zLq P H)).trans ((dS (zLr P H)).trans (uG (yAl P H h)))))))
theorem yAm (P H:List UInt8):bH 2000 ((false,([],(aD,()))),false,(1,(9,(2,(0,((-1),(P,(H,(true,(false,(false,(R10,([],())))))))))))),[])=none:=by
 unfold bH
 simp only
 rw [aL (by rfl),aL (by rfl),aG (by rfl),show bC (Ty.dflt aA) aD 9=aW 71 from rfl]
 simp only [aW]
 rw [vI,bL]
 rfl
theorem yAn (P H:List UInt8):bR 2000 ((false,([],(aD,()))),false,(1,(9,(2,(0,((-1),(P,(H,(true,(false,(false,(R10,([],())))))))))))),[])=none:=by
 unfold bR
 simp only
 rw [aL (by rfl),aL (by rfl),aG (by rfl),show bC (Ty.dflt aA) aD 9=aW 71 from rfl]
 simp only [aW]
 rw [vI,bL]
 rfl
theorem zLs (P H:List UInt8):aN 104 2000 ((false,([],(aD,()))),false,(1,(9,(2,(0,((-1),(P,(H,(true,(false,(false,(R10,([],())))))))))))),[])=none:=by
 unfold aN
 simp only
 rw [aL (by rfl),aL (by rfl),aG (by rfl),show bC (Ty.dflt aA) aD 9=aW 71 from rfl]
 simp only [aW]
 rw [vI,bL]
 rfl
theorem zLt (P H:List UInt8):aN 120 2000 ((false,([],(aD,()))),false,(1,(9,(2,(0,((-1),(P,(H,(true,(false,(false,(R10,([],())))))))))))),[])=none:=by
 unfold aN
 simp only
 rw [aL (by rfl),aL (by rfl),aG (by rfl),show bC (Ty.dflt aA) aD 9=aW 71 from rfl]
 simp only [aW]
 rw [vI,bL]
 rfl
theorem zLu (P H:List UInt8):aN 103 2000 ((false,([],(aD,()))),false,(1,(9,(2,(0,((-1),(P,(H,(true,(false,(false,(R10,([],())))))))))))),[])=none:=by
 unfold aN
 simp only
 rw [aL (by rfl),aL (by rfl),aG (by rfl),show bC (Ty.dflt aA) aD 9=aW 71 from rfl]
 simp only [aW]
 rw [vI,bL]
 rfl
theorem zPc (P H:List UInt8):aN 72 2000 ((false,([],(aD,()))),false,(1,(9,(2,(0,((-1),(P,(H,(true,(false,(false,(R10,([],())))))))))))),[])=none:=by
 unfold aN
 simp only
 rw [aL (by rfl),aL (by rfl),aG (by rfl),show bC (Ty.dflt aA) aD 9=aW 71 from rfl]
 simp only [aW]
 rw [vI,bL]
 rfl
theorem yAo (P H:List UInt8) (h:P.length+H.length <= 1000):aN 71 2000 ((false,([],(aD,()))),false,(1,(9,(2,(0,((-1),(P,(H,(true,(false,(false,(R10,([],())))))))))))),[])=some ((1,(10,(2,(0,((-1),(P++([10]++H),(H,(true,(false,(false,(R10,([],())))))))))))),[],[]):=by
 unfold aN
 simp only
 rw [aL (by rfl),aL (by rfl),aG (by rfl),show bC (Ty.dflt aA) aD 9=aW 71 from rfl]
 simp only [aW]
 rw [vI,bL]
 simp only
 rw [zNl,aG (by rfl)]
 unfold kS
 simp only
 rw [aL (by rfl),nO (by rfl),aG (decide_eq_true (by simp [eH]; omega)),aG (decide_eq_true (by simp [eH]; omega)),bL]
 rfl
theorem yCz (P H:List UInt8) (h:P.length+H.length <= 1000):dX 2000 ((false,([],(aD,()))),false,(1,(9,(2,(0,((-1),(P,(H,(true,(false,(false,(R10,([],())))))))))))),[])=some ((1,(10,(2,(0,((-1),(P++([10]++H),(H,(true,(false,(false,(R10,([],())))))))))))),[],[]):=((dS (yAm P H)).trans ((dS (yAn P H)).trans ((dS (zLs P H)).trans ((dS (zLt P H)).trans ((dS (zLu P H)).trans ((dS (zPc P H)).trans (yAo P H h)))))))
theorem maxS {k:Nat} (h:k <= 1000):decide (k <= eH)=true:=decide_eq_true (by unfold eH; omega)
theorem Br (x:List UInt8 × List UInt8):uF 2000 x=some true:=by
 obtain ⟨a,c⟩:=x
 unfold uF
 simp only
 by_cases h1:decide ((a.length:Int) > 60)=true
 ·rw [nO h1]; rfl
 ·rw [aL (by simpa using h1)]
  have h1:¬ (a.length:Int) > 60:=by simpa using h1
  by_cases h2:decide ((c.length:Int) > 60)=true
  ·rw [nO h2]; rfl
  ·rw [aL (by simpa using h2)]
   have h2:¬ (c.length:Int) > 60:=by simpa using h2
   rw [show shown15 2000 ()=some true from rfl,bL,aL (b:=!true) rfl,show oO 2000 [49,123,104,59,100,125,59,120,59,120,59,104,59,103,59,72,59,71]=some ((false,[],aD,()),true) from if_pos rfl,bL]
   simp only
   rw [aL (b:=!true) rfl,show Gp 2000 (false,[],aD,())=some (0,0,0,0,(-1),[],[],false,false,false,R10,[],()) from rfl,bL,show sK 2000 ((0,0,0,0,(-1),[],[],false,false,false,R10,[],()),(c,(true,())),false)=some (1,0,1,0,(-1),c,[],true,false,false,R10,[],()) from rfl,bL]
   simp only
   rw [lI (by omega),fJ]
   simp only
   rw [nO (by rfl),yCq c [],bL,xU (by omega) (by omega)]
   simp only
   rw [lI (by omega),fJ]
   simp only
   rw [nO (by rfl),yCr c [],bL,xU (by omega) (by omega)]
   simp only
   rw [lI (by omega),fJ]
   simp only
   rw [nO (by rfl),yCs c c (by omega),bL,xU (by omega) (by omega)]
   simp only
   rw [lI (by omega),fJ]
   simp only
   rw [aL (by rfl),show sK 2000 ((0,3,1,0,(-1),c,c,true,false,false,R10,[],()),(a,(true,())),false)=some (1,0,2,0,(-1),a,c,true,false,false,R10,[],()) from rfl,bL,yCt a c,bL]
   simp only
   rw [lI (by omega),bZ]
   simp only
   rw [nO (by rfl),yCu a c,bL,aG (maxS (by simp; omega)),aG (maxS (by simp; omega)),aG (maxS (by simp; omega)),aG (maxS (by simp; omega)),aG (by rfl),aG (by rfl),aG (maxS (by simp; omega)),aG (maxS (by simp; omega)),aG (maxS (by simp; omega)),aG (maxS (by simp; omega)),aG (by rfl),aG (by rfl)]
   refine (aL (show (!(c == c))=false by simp) _ _).trans ?_
   refine (aL (show (!(a == a))=false by simp) _ _).trans ?_
   rw [xU (by omega) (by omega)]
   simp only
   rw [lI (by omega),bZ]
   simp only
   rw [nO (by rfl),yCv c a,bL,aG (maxS (by simp; omega)),aG (maxS (by simp; omega)),aG (maxS (by simp; omega)),aG (maxS (by simp; omega)),aG (by rfl),aG (by rfl),aG (maxS (by simp; omega)),aG (maxS (by simp; omega)),aG (maxS (by simp; omega)),aG (maxS (by simp; omega)),aG (by rfl),aG (by rfl)]
   refine (aL (show (!(a == a))=false by simp) _ _).trans ?_
   refine (aL (show (!(c == c))=false by simp) _ _).trans ?_
   rw [xU (by omega) (by omega)]
   simp only
   rw [lI (by omega),bZ]
   simp only
   rw [nO (by rfl),yCw a c,bL,aG (maxS (by simp; omega)),aG (maxS (by simp; omega)),aG (maxS (by simp; omega)),aG (maxS (by simp; omega)),aG (by rfl),aG (by rfl),aG (maxS (by simp; omega)),aG (maxS (by simp; omega)),aG (maxS (by simp; omega)),aG (maxS (by simp; omega)),aG (by rfl),aG (by rfl)]
   refine (aL (show (!(a == a))=false by simp) _ _).trans ?_
   refine (aL (show (!(a == a))=false by simp) _ _).trans ?_
   rw [xU (by omega) (by omega)]
   simp only
   rw [lI (by omega),bZ]
   simp only
   rw [nO (by rfl),yCx a a,bL,aG (maxS (by simp; omega)),aG (maxS (by simp; omega)),aG (maxS (by simp; omega)),aG (maxS (by simp; omega)),aG (by rfl),aG (by rfl),aG (maxS (by simp; omega)),aG (maxS (by simp; omega)),aG (maxS (by simp; omega)),aG (maxS (by simp; omega)),aG (by rfl),aG (by rfl)]
   refine (aL (show (!(a == a))=false by simp) _ _).trans ?_
   refine (aL (show (!(a == a))=false by simp) _ _).trans ?_
   rw [xU (by omega) (by omega)]
   simp only
   rw [lI (by omega),bZ]
   simp only
   rw [nO (by rfl),yCy a a (by first | omega | (simp; omega)),bL,aG (maxS (by simp; omega)),aG (maxS (by simp; omega)),aG (maxS (by simp; omega)),aG (maxS (by simp; omega)),aG (by rfl),aG (by rfl),aG (maxS (by simp; omega)),aG (maxS (by simp; omega)),aG (maxS (by simp; omega)),aG (maxS (by simp; omega)),aG (by rfl),aG (by rfl)]
   refine (aL (show (!(a == a))=false by simp) _ _).trans ?_
   refine (aL (show (!((a++([10]++a)) == ((a++[10])++a)))=false by simp) _ _).trans ?_
   rw [xU (by omega) (by omega)]
   simp only
   rw [lI (by omega),bZ]
   simp only
   rw [nO (by rfl),yCz a (a++([10]++a)) (by first | omega | (simp; omega)),bL,aG (maxS (by simp; omega)),aG (maxS (by simp; omega)),aG (maxS (by simp; omega)),aG (maxS (by simp; omega)),aG (by rfl),aG (by rfl),aG (maxS (by simp; omega)),aG (maxS (by simp; omega)),aG (maxS (by simp; omega)),aG (maxS (by simp; omega)),aG (by rfl),aG (by rfl)]
   refine (aL (show (!((a++([10]++(a++([10]++a)))) == ((((a++[10])++a)++[10])++a)))=false by simp) _ _).trans ?_
   refine (aL (show (!((a++([10]++a)) == ((a++[10])++a)))=false by simp) _ _).trans ?_
   rw [xU (by omega) (by omega)]
   simp only
   rw [lI (by omega),bZ]
   simp only
   rw [aL (by rfl)]
   rfl
end Go.Dec
