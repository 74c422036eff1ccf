/- Part of a proof over this seat: a library of my own, and what it says of this seat. No statement is proved here. -/
import Derived.Test.YthhbdkdofhhoeaaGreatDoorPartBK
namespace Go.Dec
theorem zMj:∀ k u,(Bj k u).length<=k:=by
 intro k;induction k with
 | zero=>intro u;simp [Bj]
 | succ k ih=>intro u;unfold Bj;split;simp;have:=ih (u / 10);simp;omega
theorem Gp {n:Nat}{x:Int}(h1:-1<=x) (h2:x<1000000):strconv_Itoa n x=some (bX x):=by
 unfold strconv_Itoa;rw [aC (by simp;omega)]
theorem nC {x:Int}:(bX x).length<=21:=by
 unfold bX;have:=zMj 20 x.natAbs;have:=zMj 20 x.toNat;split<;>simp<;>omega
theorem yAc (p:Nat->Bool) (k:Nat):zAx k (Gg p k)=((List.range 64).filter fun j=>p (64*k+j)).map fun j=>UInt8.ofNat (64*k+j):=by
 unfold zAx;congr 1;apply List.filter_congr;intro j hj;rw [Bz];have:j<64:=by simpa using hj
 simp [this]
theorem zTl (p:Nat->Bool) (k:Nat):(((List.range 64).map fun j=>64*k+j).filter p).map UInt8.ofNat=((List.range 64).filter fun j=>p (64*k+j)).map fun j=>UInt8.ofNat (64*k+j):=by
 rw [List.filter_map,List.map_map];rfl
theorem zWk (p:Nat->Bool):nD (wd p)=bB p:=by
 have e:List.range 256=(List.range 64).map (fun j=>64*0+j)++(List.range 64).map (fun j=>64*1+j)++(List.range 64).map (fun j=>64*2+j)++(List.range 64).map (fun j=>64*3+j):=by decide +kernel
 unfold bB;rw [e];simp only [List.filter_append,List.map_append,zTl];unfold nD wd;simp only [Fq,word,Int.toNat_natCast,yAc,List.append_nil,List.append_assoc]
theorem Iq {n:Nat}(p:Nat->Bool):pX n (wd p)=some (bB p):=by
 unfold pX;have h:∀ k,0<=word p k∧word p k<18446744073709551616:=fun k=>by have:=qU p k;unfold word;omega
 rw [aC (by
  rw [aD,List.all_eq_true];refine ⟨rfl,fun w hw=>?_⟩;have:w=word p 0∨w=word p 1∨w=word p 2∨w=word p 3:=by simpa [wd] using hw
  rcases this with rfl|rfl|rfl|rfl<;>simp [h]),zWk]
def vE (l:List UInt8):List UInt8:=l.flatMap fun c=>[hexDigit (c.toNat / 16),hexDigit (c.toNat % 16)]
def dH:Pt->List UInt8 | .empty=>[101] | .bytes p=>[91]++vE (bB p)++[93] | .bol=>[94] | .eol=>[36] | .cat a b=>[38]++(dH a++dH b) | .alt a b=>[124]++(dH a++dH b) | .times a lo hi=>[42]++bX lo++[44]++bX hi++[59]++dH a | .group a _=>[40]++dH a++[41] | .ref m=>[92]++bX (m:Int)
theorem Zh (l:List UInt8):(vE l).length=2*l.length:=by
 induction l with
 | nil=>rfl
 | cons c l ih=>simp only [vE,List.flatMap_cons,List.length_append] at ih ⊢;rw [ih];simp;omega
theorem kV:∀ t:Pt,(dH t).length<=600*t.sz
 | .empty|.bol|.eol=>by simp [dH,Pt.sz]
 | .bytes p=>by have:=Oi p;simp [dH,Pt.sz,Zh];omega
 | .cat a b=>by have:=kV a;have:=kV b;simp [dH,Pt.sz];omega
 | .alt a b=>by have:=kV a;have:=kV b;simp [dH,Pt.sz];omega
 | .times a lo hi=>by have:=kV a;have:=@nC lo;have:=@nC hi;simp [dH,Pt.sz];omega
 | .group a _=>by have:=kV a;simp [dH,Pt.sz];omega
 | .ref m=>by have:=@nC (m:Int);simp [dH,Pt.sz];omega
section
variable {n:Nat}{l:List Nd}
theorem yBn {d:Nat}(hd:d<16):jT n ((d:Int),16)=some [hexDigit d]:=by
 unfold jT;simp only;rw [aC (by simp;omega),Int.toNat_natCast]
theorem zWl {bs:List UInt8}{i:Nat}(h:i<bs.length):vE (bs.take (i+1))=vE (bs.take i)++[hexDigit (bs[i].toNat / 16),hexDigit (bs[i].toNat % 16)]:=by
 have e:bs.take (i+1)=bs.take i++[bs[i]]:=by rw [List.take_add_one,List.getElem?_eq_getElem h];rfl
 rw [e];unfold vE;rw [List.flatMap_append];rfl
theorem yE (bs:List UInt8):(bF bs).length=bs.length:=by simp [bF]
theorem zMk {bs:List UInt8}{i:Nat}(h:i<bs.length) (d:Int):bJ d (bF bs) (i:Int)=(bs[i].toNat:Int):=by
 rw [kT (by rw [yE];exact h)];simp [bF]
theorem yAd {g0:List Nd × Int × Int × List (List UInt8) × Unit->Option (List UInt8)}{k:Int}{tl:List Nd}{t15 t16:Int}{row:List (List UInt8)}{bs:List UInt8}(hb:bs.length<=256):∀ (c i m:Nat),i+c=bs.length->c<m ->
  fix (xM n g0) m (k,[91]++vE (bs.take i),tl,t15,t16,bF bs,((bF bs).length:Int),(i:Int),row,()) =
   (chk ((decide (0<=k)&&decide (k<=(row.length:Int)))) (
    chk ((Nat.ble (k.toNat) row.length&&Nat.ble (((k.toNat)+1)*16) room)) (
     g0 (tl,t15,IntKind.wrap .i64 (t16+1),row.take (k.toNat)++[[91]++vE bs++[93]],())))):=by
 intro c;induction c with
 | zero =>
  intro i m hi hm;rw [cZ hm,xM];simp only;rw [aF (by rw [yE];simp;omega),List.take_of_length_le (by omega),aC (by have:=Zh bs;simp [aH];omega)];rfl
 | succ c ih =>
  intro i m hi hm;have hil:i<bs.length:=by omega
  have hc:=bs[i].toNat_lt;rw [cZ (by omega),xM];simp only;rw [aN (by rw [yE];simp;omega),aC (mK (by rw [yE];exact hil)),zMk hil,aC (by decide),IntWalk.u64_in (bs[i].toNat:Int) (by omega)];rw [show Int.tdiv (bs[i].toNat:Int) 16=((bs[i].toNat / 16:Nat):Int) from (Int.ofNat_tdiv _ 16).symm,show Int.tmod (bs[i].toNat:Int) 16=((bs[i].toNat % 16:Nat):Int) from (Int.ofNat_tmod _ 16).symm];rw [IntWalk.u64_in _ (by omega),yBn (by omega),aP,aC (by decide),yBn (by omega),aP];have hlen:=Zh (bs.take i);have htl:(bs.take i).length=i:=by rw [List.length_take];omega
  rw [aC (by simp [aH]),aC (by simp [aH];omega),dJ (by omega) (by omega),show (i:Int)+1=((i+1:Nat):Int) by omega];have:=ih (i+1) (m-1) (by omega) (by omega);rw [zWl hil] at this;simpa using this
def Oz (v:NV) (y:List UInt8):List UInt8 :=
 match v with
 | .empty=>[101]
 | .bytes p=>[91]++vE (bB p)++[93]
 | .bol=>[94]
 | .eol=>[36]
 | .cat _ _=>[38]++y
 | .alt _ _=>[124]++y
 | .times _ lo hi=>[42]++bX lo++[44]++bX hi++[59]++y
 | .group _ _=>[40]++y++[41]
 | .ref m=>[92]++bX (m:Int)
def NV.zCf:NV->Bool | .times _ lo hi=>decide (-1<=lo)&&decide (lo < 1000000)&&(decide (-1<=hi)&&decide (hi < 1000000)) | .ref m=>decide (m < 1000000) | _=>true
theorem join_eq {xs:List (List UInt8)}(h:xs.length<=2) (hl:xs.flatten.length<1000000):strings_Join n (xs,[])=some xs.flatten:=by
 match xs,h with
 | [],_=>rfl
 | [x],_ =>
  simp only [List.flatten_cons,List.flatten_nil,List.append_nil] at hl ⊢;unfold strings_Join;rw [aC (by simp [xH,room];omega)];rfl
 | [x,y],_ =>
  simp only [List.flatten_cons,List.flatten_nil,List.append_nil] at hl ⊢;rw [List.length_append] at hl;unfold strings_Join;rw [aC (by simp [xH,room];omega)];simp [xH]
theorem zGn {g : List Nd × Int × Int × List (List UInt8) × Unit -> Option (List UInt8)} {i : Nat} {v : NV} {pre xs : List (List UInt8)} (hn : 300 <= n) (hl : l.length < 1000000) (hv : l[i]? = some v.node) (hx : xs.length = v.parts) (hp : pre.length < 1000000) (hj : xs.flatten.length < 1000000) (zEn : v.zCf = true) :
    gY n g (l, (l.length : Int), (i : Int), pre ++ xs, ()) = g (l, (l.length : Int), ((i + 1 : Nat) : Int), pre ++ [Oz v xs.flatten], ()) := by
  have hi : i < l.length := (bG.1 hv).1;have hx2 : xs.length <= 2 := by rw [hx]; cases v <;> simp [NV.parts]
  have hget : ∀ d, bJ d l (i : Int) = v.node := by
    intro d;rw [kT hi];rw [List.getElem?_eq_getElem hi] at hv;exact Option.some.inj hv
  unfold gY;simp only;rw [aN (by simp; omega), aC (mK hi), hget, parts_eq, aP];have yJo : IntKind.wrap .i64 (((pre ++ xs).length : Int) - (v.parts : Int)) = (pre.length : Int) := by
    rw [List.length_append, hx, dJ (by omega) (by omega)]; omega
  rw [yJo, aC (by simp; omega), Int.toNat_natCast];have hdrop : ((pre ++ xs).drop (0 + pre.length)).take ((pre ++ xs).length - pre.length) = xs := by
    rw [Nat.zero_add, List.drop_left, List.take_of_length_le (by simp)]
  rw [aC (by simp), hdrop, join_eq hx2 hj, aP];have hput : ∀ y : List UInt8, chk ((decide ((0 : Int) <= (pre.length : Int)) && decide ((pre.length : Int) <= ((pre ++ xs).length : Int)))) (
        chk ((Nat.ble pre.length (pre ++ xs).length && Nat.ble ((pre.length + ([y] : List (List UInt8)).length) * 16) room)) (
          g (l, (l.length : Int), IntKind.wrap .i64 ((i : Int) + 1), (pre ++ xs).take pre.length ++ [y], ()))) = g (l, (l.length : Int), ((i + 1 : Nat) : Int), pre ++ [y], ()) := by
    intro y;rw [aC (by simp; omega), aC (by simp [room]; omega), dJ (by omega) (by omega), List.take_left]; rfl
  cases v with
  | empty => rw [aN (by rfl)]; exact hput [101]
  | bytes p =>
    simp only [NV.node, NV.parts, List.length_eq_zero_iff] at hx ⊢;subst hx;rw [aF (by rfl), aN (by rfl), Iq, aP];have hb := Oi p;rw [aC (by simp [room]; omega)];have := yAd (n := n) (g0 := g) (k := (pre.length : Int)) (tl := l) (t15 := (l.length : Int)) (t16 := (i : Int)) (row := pre ++ []) (bs := bB p) hb (bB p).length 0 n (by omega) (by omega);simp only [List.take_zero, vE, List.flatMap_nil, List.append_nil, Int.toNat_natCast] at this hput ⊢;rw [show ((0 : Nat) : Int) = 0 from rfl] at this;rw [this];exact hput _
  | bol => rw [aF (by rfl), aF (by rfl), aN (by rfl)]; exact hput [94]
  | eol => rw [aF (by rfl), aF (by rfl), aF (by rfl), aN (by rfl)]; exact hput [36]
  | cat a b =>
    rw [aF (by rfl), aF (by rfl), aF (by rfl), aF (by rfl), aN (by rfl), aC (by simp [aH]; simp at hj; omega)];exact hput _
  | alt a b =>
    rw [aF (by rfl), aF (by rfl), aF (by rfl), aF (by rfl), aF (by rfl), aN (by rfl), aC (by simp [aH]; simp at hj; omega)];exact hput _
  | times a lo hi =>
    simp only [NV.zCf, aD, decide_eq_true_eq] at zEn;have h1 := @nC lo;have h2 := @nC hi;simp only [NV.node];rw [aF (by rfl), aF (by rfl), aF (by rfl), aF (by rfl), aF (by rfl), aF (by rfl), aN (by rfl), Gp zEn.1.1 zEn.1.2, aP, aC (by simp [aH]; omega), aC (by simp [aH]; omega), Gp zEn.2.1 zEn.2.2, aP, aC (by simp [aH]; omega), aC (by simp [aH]; omega), aC (by simp [aH]; simp at hj; omega)];exact hput _
  | group a m =>
    rw [aF (by rfl), aF (by rfl), aF (by rfl), aF (by rfl), aF (by rfl), aF (by rfl), aF (by rfl), aN (by rfl), aC (by simp [aH]; simp at hj; omega), aC (by simp [aH]; simp at hj; omega)];exact hput _
  | ref m =>
    simp only [NV.zCf, decide_eq_true_eq] at zEn;have h1 := @nC (m : Int);simp only [NV.node];rw [aF (by rfl), aF (by rfl), aF (by rfl), aF (by rfl), aF (by rfl), aF (by rfl), aF (by rfl), aF (by rfl), aN (by rfl), Gp (by omega) (by omega), aP, aC (by simp [aH]; omega)];exact hput _
theorem zMl (t:Pt) (o:Nat) (h:bY t=true):(t.nv o).zCf=true:=by
 cases t<;>simp only [Pt.nv,NV.zCf]
 case times a lo hi =>
  simp only [bY,kQ,aD,Bool.or_eq_true,decide_eq_true_eq] at h;simp only [aD,decide_eq_true_eq];omega
 case ref m =>
  simp only [bY,aD,decide_eq_true_eq] at h;simp only [decide_eq_true_eq];omega
theorem zWm (hn:300<=n) (hl:l.length<1000):∀ (t:Pt) (o m:Nat) (row:List (List UInt8)),At l o t->bY t=true->t.sz<m->row.length<=o ->
  fix (gY n) m (l,(l.length:Int),(o:Int),row,())=fix (gY n) (m-t.sz) (l,(l.length:Int),((o+t.sz:Nat):Int),row++[dH t],()):=by
 have leaf:∀ (t:Pt),t.sz=1->(∀ o,(t.nv o).parts=0)->(∀ o,Oz (t.nv o) []=dH t)->∀ (o m:Nat) (row:List (List UInt8)),At l o t->bY t=true->t.sz<m->row.length<=o ->
   fix (gY n) m (l,(l.length:Int),(o:Int),row,())=fix (gY n) (m-t.sz) (l,(l.length:Int),((o+t.sz:Nat):Int),row++[dH t],()):=by
  intro t h1 h2 h3 o m row h hf hm hr;have hlen:=h.len;have hnd:=h.node;rw [h1] at hnd hm hlen ⊢;rw [Nat.add_sub_cancel] at hnd;rw [cZ (by omega)];have:=zGn (n:=n) (g:=fix (gY n) (m-1)) (pre:=row) (xs:=[]) hn (by omega) hnd (by rw [h2];rfl) (by omega) (by simp) (zMl t o hf);rw [List.append_nil] at this;rw [this,List.flatten_nil,h3]
 have fin:∀ (t:Pt) (o m k:Nat) (row xs:List (List UInt8)),At l o t->bY t=true->k+1=t.sz->t.sz<m->row.length<=o->xs.length=(t.nv o).parts->xs.flatten.length<1000000->Oz (t.nv o) xs.flatten=dH t ->
   fix (gY n) (m-k) (l,(l.length:Int),((o+k:Nat):Int),row++xs,())=fix (gY n) (m-t.sz) (l,(l.length:Int),((o+t.sz:Nat):Int),row++[dH t],()):=by
  intro t o m k row xs h hf hk hm hr hx hj ht;have hlen:=h.len;have hnd:=h.node;rw [show o+t.sz-1=o+k by omega] at hnd;rw [cZ (by omega),zGn (n:=n) hn (by omega) hnd hx (by omega) hj (zMl t o hf),ht];rw [show m-k-1=m-t.sz by omega,show o+k+1=o+t.sz by omega]
 intro t;induction t with
 | empty=>exact leaf .empty rfl (fun _=>rfl) (fun _=>rfl)
 | bytes p=>exact leaf (.bytes p) rfl (fun _=>rfl) (fun _=>rfl)
 | bol=>exact leaf .bol rfl (fun _=>rfl) (fun _=>rfl)
 | eol=>exact leaf .eol rfl (fun _=>rfl) (fun _=>rfl)
 | ref k=>exact leaf (.ref k) rfl (fun _=>rfl) (fun _=>rfl)
 | cat a b iha ihb =>
  intro o m row h hf hm hr;have hlen:=h.len;have hfa:=hf;simp only [bY,aD] at hfa;have hsz:(Pt.cat a b).sz=a.sz+b.sz+1:=rfl;have la:=kV a;have lb:=kV b;have pa:=a.gF;have pb:=b.gF;rw [iha o m row h.zEc.1 hfa.1 (by omega) hr,ihb (o+a.sz) (m-a.sz) (row++[dH a]) h.zEc.2 hfa.2 (by omega) (by simp;omega)];have:=fin (.cat a b) o m (a.sz+b.sz) row [dH a,dH b] h hf (by omega) hm hr rfl (by simp;omega) (by simp [Pt.nv,Oz,dH]);rw [<- this,List.append_assoc,Nat.sub_sub,Nat.add_assoc];rfl
 | alt a b iha ihb =>
  intro o m row h hf hm hr;have hlen:=h.len;have hfa:=hf;simp only [bY,aD] at hfa;have hsz:(Pt.alt a b).sz=a.sz+b.sz+1:=rfl;have la:=kV a;have lb:=kV b;have pa:=a.gF;have pb:=b.gF;rw [iha o m row h.alt1.1 hfa.1 (by omega) hr,ihb (o+a.sz) (m-a.sz) (row++[dH a]) h.alt1.2 hfa.2 (by omega) (by simp;omega)];have:=fin (.alt a b) o m (a.sz+b.sz) row [dH a,dH b] h hf (by omega) hm hr rfl (by simp;omega) (by simp [Pt.nv,Oz,dH]);rw [<- this,List.append_assoc,Nat.sub_sub,Nat.add_assoc];rfl
 | times a lo hi iha =>
  intro o m row h hf hm hr;have hlen:=h.len;have hfa:=hf;simp only [bY,aD] at hfa;have hsz:(Pt.times a lo hi).sz=a.sz+1:=rfl;have la:=kV a;rw [iha o m row h.zLl hfa.1 (by omega) hr];exact fin (.times a lo hi) o m a.sz row [dH a] h hf (by omega) hm hr rfl (by simp;omega) (by simp [Pt.nv,Oz,dH])
 | group a k iha =>
  intro o m row h hf hm hr;have hlen:=h.len;have hfa:=hf;simp only [bY,aD] at hfa;have hsz:(Pt.group a k).sz=a.sz+1:=rfl;have la:=kV a;rw [iha o m row h.zLm hfa.1 (by omega) hr];exact fin (.group a k) o m a.sz row [dH a] h hf (by omega) hm hr rfl (by simp;omega) (by simp [Pt.nv,Oz,dH])
theorem Ai {t:Pt}(hn:300<=n) (h:xR t):vO n (t.enc 0)=some (dH t):=by
 unfold vO;simp only;rw [zPm (by omega) h];simp only [aP,Bool.not_true,bU];have hsz:=h.1;have hlen:=t.dA 0;have:=zWm (n:=n) (l:=t.enc 0) hn (by omega) t 0 n [] (At.self t) h.2.1.1 (by omega) (by simp);rw [show ((0:Nat):Int)=0 from rfl] at this;rw [this,cZ (by omega),gY];simp only;rw [aF (by rw [hlen];simp),aC (by simp [inB]),aC (by simp)];rfl
end
end Go.Dec
namespace Go.Dec
section
variable {n:Nat}{w:List Int}{a b lo hi m:Int}{u:Unit}
end
end Go.Dec
namespace Go.Dec
section
variable {l:List Nd}
theorem At.take {o:Nat}{t:Pt}(h:At l o t):l.take (o+t.sz)=l.take o++t.enc o:=by
 obtain ⟨pre,post,rfl,hp⟩:=h;subst hp;have h1:(pre++t.enc pre.length++post).take (pre.length+t.sz)=pre++t.enc pre.length:=by
  rw [List.take_append_of_le_length (by rw [List.length_append,Pt.dA];exact aQ _),List.take_of_length_le (by rw [List.length_append,Pt.dA];exact aQ _)]
 rw [h1,List.append_assoc,List.take_left]
end
end Go.Dec
namespace Go.Dec
end Go.Dec
