/- Part of a proof over this seat: a library of my own, and what it says of this seat. No statement is proved here. -/
import Derived.Test.YthhbdkdofhhoeaaGreatDoorPartBK
namespace Go.Dec
theorem yRq:((List.range 10).all λi=>((([48,49,50,51,52,53,54,55,56,57]:List UInt8).take (i+1)).drop i)==[UInt8.ofNat (48+i)])=true:=by decide +kernel
theorem zIw:∀ k u,(Cg k u).length<=k:=by
 intro k;induction k with
 |zero=>intro u;simp[Cg]
 |succ k ih=>intro u;unfold Cg;split;simp;have:=ih (u / 10);simp;omega
theorem zMm:∀ (k m x:Nat),x<10 ^ k->x<2 ^ 63->k<=m->1<=k->k<100->oQ m (x:Int)=some (Cg k x):=by
 intro k;induction k with
 |zero=>intro m x _ _ _ h;omega
 |succ k ih =>
  intro m x hx hx2 hm _ hkb;obtain⟨m,rfl⟩:∃ j,m=j+1:=⟨m-1,by omega⟩;have yOe:oQ (m+1) (x:Int)=sJ m (oQ m) (x:Int):=rfl;rw[yOe];unfold sJ Cg;simp only;have yJw:∀ d:Nat,d<10->(chk ((decide (0<=IntKind.wrap .u64 ((d:Int)+1))&&decide (IntKind.wrap .u64 ((d:Int)+1)<=([48,49,50,51,52,53,54,55,56,57].length:Int))&&(decide (0<=(d:Int))&&decide ((d:Int)<=IntKind.wrap .u64 ((d:Int)+1)))):Bool) (some (([48,49,50,51,52,53,54,55,56,57]:List UInt8).take (IntKind.wrap .u64 ((d:Int)+1)).toNat |>.drop (d:Int).toNat)):Option (List UInt8))=some [UInt8.ofNat (48+d)]:=by
   intro d hd;have hw:IntKind.wrap .u64 ((d:Int)+1)=((d+1:Nat):Int):=by rw[IntWalk.u64_in _ (by omega)];rfl
   rw[hw,aB (by simp;omega),Int.toNat_natCast,Int.toNat_natCast];have:=sZ yRq hd;rw[beq_iff_eq]at this;rw[this]
  by_cases h10:x<10
  ·rw[aI (by simp;omega),if_pos h10];exact yJw x h10
  ·rw[aC (by simp;omega),if_neg h10,aB (by decide)];have hdiv:IntKind.wrap .u64 (Int.tdiv (x:Int) 10)=((x / 10:Nat):Int):=by
    rw[show Int.tdiv (x:Int) 10=((x / 10:Nat):Int)from (Int.ofNat_tdiv x 10).symm,IntWalk.u64_in _ (by omega)]
   have hmod:Int.tmod (x:Int) 10=((x % 10:Nat):Int):=(Int.ofNat_tmod x 10).symm;rw[hdiv,hmod];have hk:1<=k:=by
    rcases Nat.eq_zero_or_pos k with h|h
    ·subst h;omega
    ·exact h
   rw[ih m (x / 10) (by rw[Nat.pow_succ]at hx;omega) (by omega) (by omega) hk (by omega)];simp only[aK];rw[aB (by decide),aB (by decide)];have hs:=yJw (x % 10) (by omega);have hw:IntKind.wrap .u64 (((x % 10:Nat):Int)+1)=((x % 10+1:Nat):Int):=by rw[IntWalk.u64_in _ (by omega)];rfl
   rw[hw]at hs ⊢;rw[aB (by simp;omega)]at hs ⊢;simp only[aA]at hs;rw[hs];have:=zIw k (x / 10);rw[aB (by simp[aG];omega)]
theorem zDa{n:Nat}{x:Int}(hn:20<=n)(h1:-1<=x)(h2:x<1000000):oF n x=some (bM x):=by
 unfold oF bM;simp only;by_cases h:x<0
 ·have:x=-1:=by omega
  subst this;rw[aI (by rfl),if_pos (by omega)];have e:IntKind.wrap .u64 (IntKind.wrap .u64 (IntKind.wrap .i64 (0-IntKind.wrap .i64 (-1+1)))+1)=((1:Nat):Int):=by decide +kernel
  rw[e,zMm 20 n 1 (by decide) (by decide) hn (by omega) (by omega)];rfl
 ·obtain⟨k,rfl⟩:∃ k:Nat,x=(k:Int):=⟨x.toNat,by omega⟩;have hk:k<10 ^ 20:=Nat.lt_of_lt_of_le (show k<10 ^ 6 by omega) (Nat.pow_le_pow_right (by omega) (by omega));rw[aC (by simp),if_neg h,IntWalk.u64_in _ (by omega),zMm 20 n k hk (by omega) hn (by omega) (by omega)];rfl
theorem Nr{n:Nat}{x:Int}(h1:-1<=x)(h2:x<1000000):strconv_Itoa n x=some (bM x):=by
 unfold strconv_Itoa;rw[aB (by simp;omega)]
theorem lD{x:Int}:(bM x).length<=21:=by
 unfold bM;have:=zIw 20 x.natAbs;have:=zIw 20 x.toNat;split<;>simp<;>omega
theorem yOf(p:Nat->Bool)(k:Nat):zKe k (Jh p k)=((List.range 64).filter λj=>p (64*k+j)).map λj=>UInt8.ofNat (64*k+j):=by
 unfold zKe;congr 1;apply List.filter_congr;intro j hj;rw[Ig];have:j<64:=by simpa using hj
 simp[this]
theorem yGp(p:Nat->Bool)(k:Nat):(((List.range 64).map λj=>64*k+j).filter p).map UInt8.ofNat=((List.range 64).filter λj=>p (64*k+j)).map λj=>UInt8.ofNat (64*k+j):=by
 rw[List.filter_map,List.map_map];rfl
theorem yJx(p:Nat->Bool):oZ (wd p)=bG p:=by
 have e:List.range 256=(List.range 64).map (λj=>64*0+j)++(List.range 64).map (λj=>64*1+j)++(List.range 64).map (λj=>64*2+j)++(List.range 64).map (λj=>64*3+j):=by decide +kernel
 unfold bG;rw[e];simp only[List.filter_append,List.map_append,yGp];unfold oZ wd;simp only[Mr,word,Int.toNat_natCast,yOf,List.append_nil,List.append_assoc]
theorem Qh{n:Nat}(p:Nat->Bool):sF n (wd p)=some (bG p):=by
 unfold sF;have h:∀ k,0<=word p k/\word p k<18446744073709551616:=λk=>by have:=tX p k;unfold word;omega
 rw[aB (by
  rw[aH,List.all_eq_true];refine⟨rfl,λw hw=>?_⟩;have:w=word p 0\/w=word p 1\/w=word p 2\/w=word p 3:=by simpa [wd]using hw
  rcases this with rfl|rfl|rfl|rfl<;>simp[h]),yJx]
def yU (l:List UInt8):List UInt8:=l.flatMap fun c=>[hexDigit (c.toNat / 16),hexDigit (c.toNat % 16)]
def dP:Pt->List UInt8 | .empty=>[101] | .bytes p=>[91]++yU (bG p)++[93] | .bol=>[94] | .eol=>[36] | .cat a b=>[38]++(dP a++dP b) | .alt a b=>[124]++(dP a++dP b) | .times a lo hi=>[42]++bM lo++[44]++bM hi++[59]++dP a | .group a _=>[40]++dP a++[41] | .ref m=>[92]++bM (m:Int)
theorem zIx(l:List UInt8):(yU l).length=2*l.length:=by
 induction l with
 |nil=>rfl
 |cons c l ih=>simp only[yU,List.flatMap_cons,List.length_append]at ih ⊢;rw[ih];simp;omega
theorem mM:∀ t:Pt,(dP t).length<=600*t.sz
 |.empty|.bol|.eol=>by simp[dP,Pt.sz]
 |.bytes p=>by have:=Xj p;simp[dP,Pt.sz,zIx];omega
 |.cat a b=>by have:=mM a;have:=mM b;simp[dP,Pt.sz];omega
 |.alt a b=>by have:=mM a;have:=mM b;simp[dP,Pt.sz];omega
 |.times a lo hi=>by have:=mM a;have:=@lD lo;have:=@lD hi;simp[dP,Pt.sz];omega
 |.group a _=>by have:=mM a;simp[dP,Pt.sz];omega
 |.ref m=>by have:=@lD (m:Int);simp[dP,Pt.sz];omega
section
variable {n:Nat}{l:List Nd}
theorem yPk{d:Nat}(hd:d<16):lG n ((d:Int),16)=some [hexDigit d]:=by
 unfold lG;simp only;rw[aB (by simp;omega),Int.toNat_natCast]
theorem yJy{bs:List UInt8}{i:Nat}(h:i<bs.length):yU (bs.take (i+1))=yU (bs.take i)++[hexDigit (bs[i].toNat / 16),hexDigit (bs[i].toNat % 16)]:=by
 have e:bs.take (i+1)=bs.take i++[bs[i]]:=by rw[List.take_add_one,List.getElem?_eq_getElem h];rfl
 rw[e];unfold yU;rw[List.flatMap_append];rfl
theorem Da(bs:List UInt8):(bN bs).length=bs.length:=by simp[bN]
theorem zYx{bs:List UInt8}{i:Nat}(h:i<bs.length)(d:Int):aR d (bN bs) (i:Int)=(bs[i].toNat:Int):=by
 rw[gX (by rw[Da];exact h)];simp[bN]
theorem yOg{g0:List Nd × Int × Int × List (List UInt8) × Unit->Option (List UInt8)}{k:Int}{tl:List Nd}{t15 t16:Int}{row:List (List UInt8)}{bs:List UInt8}(hb:bs.length<=256):∀ (c i m:Nat),i+c=bs.length->c<m ->
 fix (Br n g0) m (k,[91]++yU (bs.take i),tl,t15,t16,bN bs,((bN bs).length:Int),(i:Int),row,()) =
  (chk ((decide (0<=k)&&decide (k<=(row.length:Int)))) (
   chk ((Nat.ble (k.toNat) row.length&&Nat.ble (((k.toNat)+1)*16) room)) (
    g0 (tl,t15,IntKind.wrap .i64 (t16+1),row.take (k.toNat)++[[91]++yU bs++[93]],())))):=by
 intro c;induction c with
 |zero =>
  intro i m hi hm;rw[bI hm,Br];simp only;rw[aC (by rw[Da];simp;omega),List.take_of_length_le (by omega),aB (by have:=zIx bs;simp[aG];omega)];rfl
 |succ c ih =>
  intro i m hi hm;have hil:i<bs.length:=by omega
  have hc:=bs[i].toNat_lt;rw[bI (by omega),Br];simp only;rw[aI (by rw[Da];simp;omega),aB (fQ (by rw[Da];exact hil)),zYx hil,aB (by decide),IntWalk.u64_in (bs[i].toNat:Int) (by omega)];rw[show Int.tdiv (bs[i].toNat:Int) 16=((bs[i].toNat / 16:Nat):Int)from (Int.ofNat_tdiv _ 16).symm,show Int.tmod (bs[i].toNat:Int) 16=((bs[i].toNat % 16:Nat):Int)from (Int.ofNat_tmod _ 16).symm];rw[IntWalk.u64_in _ (by omega),yPk (by omega),aK,aB (by decide),yPk (by omega),aK];have hlen:=zIx (bs.take i);have htl:(bs.take i).length=i:=by rw[List.length_take];omega
  rw[aB (by simp[aG]),aB (by simp[aG];omega),aW (by omega) (by omega),show(i:Int)+1=((i+1:Nat):Int)by omega];have:=ih (i+1) (m-1) (by omega) (by omega);rw[yJy hil]at this;simpa using this
def Xu(v:NV)(y:List UInt8):List UInt8 :=
 match v with
 |.empty=>[101]
 |.bytes p=>[91]++yU (bG p)++[93]
 |.bol=>[94]
 |.eol=>[36]
 |.cat _ _=>[38]++y
 |.alt _ _=>[124]++y
 |.times _ lo hi=>[42]++bM lo++[44]++bM hi++[59]++y
 |.group _ _=>[40]++y++[41]
 |.ref m=>[92]++bM (m:Int)
def NV.zMn:NV->Bool | .times _ lo hi=>decide (-1<=lo)&&decide (lo < 1000000)&&(decide (-1<=hi)&&decide (hi < 1000000)) | .ref m=>decide (m < 1000000) | _=>true
theorem join_eq{xs:List (List UInt8)}(h:xs.length<=2)(hl:xs.flatten.length<1000000):strings_Join n (xs,[])=some xs.flatten:=by
 match xs,h with
 |[],_=>rfl
 |[x],_ =>
  simp only[List.flatten_cons,List.flatten_nil,List.append_nil]at hl ⊢;unfold strings_Join;rw[aB (by simp[Bl,room];omega)];rfl
 |[x,y],_ =>
  simp only[List.flatten_cons,List.flatten_nil,List.append_nil]at hl ⊢;rw[List.length_append]at hl;unfold strings_Join;rw[aB (by simp[Bl,room];omega)];simp[Bl]
theorem zRj{g:List Nd × Int × Int × List (List UInt8) × Unit->Option (List UInt8)}{i:Nat}{v:NV}{pre xs:List (List UInt8)}(hn:300<=n)(hl:l.length<1000000)(hv:l[i]?=some v.node)(hx:xs.length=v.parts)(hp:pre.length<1000000)(hj:xs.flatten.length<1000000)(Xv:v.zMn=true):jB n g (l,(l.length:Int),(i:Int),pre++xs,())=g (l,(l.length:Int),((i+1:Nat):Int),pre++[Xu v xs.flatten],()):=by
 have hi:i<l.length:=(bP.1 hv).1;have hx2:xs.length<=2:=by rw[hx];cases v<;>simp[NV.parts]
 have hget:∀ d,aR d l (i:Int)=v.node:=by
  intro d;rw[gX hi];rw[List.getElem?_eq_getElem hi]at hv;exact Option.some.inj hv
 unfold jB;simp only;rw[aI (by simp;omega),aB (fQ hi),hget,parts_eq,aK];have xAk:IntKind.wrap .i64 (((pre++xs).length:Int)-(v.parts:Int))=(pre.length:Int):=by
  rw[List.length_append,hx,aW (by omega) (by omega)];omega
 rw[xAk,aB (by simp;omega),Int.toNat_natCast];have hdrop:((pre++xs).drop (0+pre.length)).take ((pre++xs).length-pre.length)=xs:=by
  rw[Nat.zero_add,List.drop_left,List.take_of_length_le (by simp)]
 rw[aB (by simp),hdrop,join_eq hx2 hj,aK];have hput:∀ y:List UInt8,chk ((decide ((0:Int)<=(pre.length:Int))&&decide ((pre.length:Int)<=((pre++xs).length:Int)))) (
  chk ((Nat.ble pre.length (pre++xs).length&&Nat.ble ((pre.length+([y]:List (List UInt8)).length)*16) room)) (
   g (l,(l.length:Int),IntKind.wrap .i64 ((i:Int)+1),(pre++xs).take pre.length++[y],())))=g (l,(l.length:Int),((i+1:Nat):Int),pre++[y],()):=by
  intro y;rw[aB (by simp;omega),aB (by simp[room];omega),aW (by omega) (by omega),List.take_left];rfl
 cases v with
 |empty=>rw[aI (by rfl)];exact hput [101]
 |bytes p =>
  simp only[NV.node,NV.parts,List.length_eq_zero_iff]at hx ⊢;subst hx;rw[aC (by rfl),aI (by rfl),Qh,aK];have hb:=Xj p;rw[aB (by simp[room];omega)];have:=yOg (n:=n) (g0:=g) (k:=(pre.length:Int)) (tl:=l) (t15:=(l.length:Int)) (t16:=(i:Int)) (row:=pre++[]) (bs:=bG p) hb (bG p).length 0 n (by omega) (by omega);simp only[List.take_zero,yU,List.flatMap_nil,List.append_nil,Int.toNat_natCast]at this hput ⊢;rw[show((0:Nat):Int)=0 from rfl]at this;rw[this];exact hput _
 |bol=>rw[aC (by rfl),aC (by rfl),aI (by rfl)];exact hput [94]
 |eol=>rw[aC (by rfl),aC (by rfl),aC (by rfl),aI (by rfl)];exact hput [36]
 |cat a b =>
  rw[aC (by rfl),aC (by rfl),aC (by rfl),aC (by rfl),aI (by rfl),aB (by simp[aG];simp at hj;omega)];exact hput _
 |alt a b =>
  rw[aC (by rfl),aC (by rfl),aC (by rfl),aC (by rfl),aC (by rfl),aI (by rfl),aB (by simp[aG];simp at hj;omega)];exact hput _
 |times a lo hi =>
  simp only[NV.zMn,aH,decide_eq_true_eq]at Xv;have h1:=@lD lo;have h2:=@lD hi;simp only[NV.node];rw[aC (by rfl),aC (by rfl),aC (by rfl),aC (by rfl),aC (by rfl),aC (by rfl),aI (by rfl),Nr Xv.1.1 Xv.1.2,aK,aB (by simp[aG];omega),aB (by simp[aG];omega),Nr Xv.2.1 Xv.2.2,aK,aB (by simp[aG];omega),aB (by simp[aG];omega),aB (by simp[aG];simp at hj;omega)];exact hput _
 |group a m =>
  rw[aC (by rfl),aC (by rfl),aC (by rfl),aC (by rfl),aC (by rfl),aC (by rfl),aC (by rfl),aI (by rfl),aB (by simp[aG];simp at hj;omega),aB (by simp[aG];simp at hj;omega)];exact hput _
 |ref m =>
  simp only[NV.zMn,decide_eq_true_eq]at Xv;have h1:=@lD (m:Int);simp only[NV.node];rw[aC (by rfl),aC (by rfl),aC (by rfl),aC (by rfl),aC (by rfl),aC (by rfl),aC (by rfl),aC (by rfl),aI (by rfl),Nr (by omega) (by omega),aK,aB (by simp[aG];omega)];exact hput _
theorem zYy(t:Pt)(o:Nat)(h:bY t=true):(t.nv o).zMn=true:=by
 cases t<;>simp only[Pt.nv,NV.zMn]
 case times a lo hi =>
  simp only[bY,iA,aH,Bool.or_eq_true,decide_eq_true_eq]at h;simp only[aH,decide_eq_true_eq];omega
 case ref m =>
  simp only[bY,aH,decide_eq_true_eq]at h;simp only[decide_eq_true_eq];omega
theorem yJz(hn:300<=n)(hl:l.length<1000):∀ (t:Pt) (o m:Nat) (row:List (List UInt8)),At l o t->bY t=true->t.sz<m->row.length<=o ->
 fix (jB n) m (l,(l.length:Int),(o:Int),row,())=fix (jB n) (m-t.sz) (l,(l.length:Int),((o+t.sz:Nat):Int),row++[dP t],()):=by
 have leaf:∀ (t:Pt),t.sz=1->(∀ o,(t.nv o).parts=0)->(∀ o,Xu (t.nv o) []=dP t)->∀ (o m:Nat) (row:List (List UInt8)),At l o t->bY t=true->t.sz<m->row.length<=o ->
  fix (jB n) m (l,(l.length:Int),(o:Int),row,())=fix (jB n) (m-t.sz) (l,(l.length:Int),((o+t.sz:Nat):Int),row++[dP t],()):=by
  intro t h1 h2 h3 o m row h hf hm hr;have hlen:=h.len;have hnd:=h.node;rw[h1]at hnd hm hlen ⊢;rw[Nat.add_sub_cancel]at hnd;rw[bI (by omega)];have:=zRj (n:=n) (g:=fix (jB n) (m-1)) (pre:=row) (xs:=[]) hn (by omega) hnd (by rw[h2];rfl) (by omega) (by simp) (zYy t o hf);rw[List.append_nil]at this;rw[this,List.flatten_nil,h3]
 have fin:∀ (t:Pt) (o m k:Nat) (row xs:List (List UInt8)),At l o t->bY t=true->k+1=t.sz->t.sz<m->row.length<=o->xs.length=(t.nv o).parts->xs.flatten.length<1000000->Xu (t.nv o) xs.flatten=dP t ->
  fix (jB n) (m-k) (l,(l.length:Int),((o+k:Nat):Int),row++xs,())=fix (jB n) (m-t.sz) (l,(l.length:Int),((o+t.sz:Nat):Int),row++[dP t],()):=by
  intro t o m k row xs h hf hk hm hr hx hj ht;have hlen:=h.len;have hnd:=h.node;rw[show o+t.sz-1=o+k by omega]at hnd;rw[bI (by omega),zRj (n:=n) hn (by omega) hnd hx (by omega) hj (zYy t o hf),ht];rw[show m-k-1=m-t.sz by omega,show o+k+1=o+t.sz by omega]
 intro t;induction t with
 |empty=>exact leaf .empty rfl (λ_=>rfl) (λ_=>rfl)
 |bytes p=>exact leaf (.bytes p) rfl (λ_=>rfl) (λ_=>rfl)
 |bol=>exact leaf .bol rfl (λ_=>rfl) (λ_=>rfl)
 |eol=>exact leaf .eol rfl (λ_=>rfl) (λ_=>rfl)
 |ref k=>exact leaf (.ref k) rfl (λ_=>rfl) (λ_=>rfl)
 |cat a b iha ihb =>
  intro o m row h hf hm hr;have hlen:=h.len;have hfa:=hf;simp only[bY,aH]at hfa;have hsz:(Pt.cat a b).sz=a.sz+b.sz+1:=rfl;have la:=mM a;have lb:=mM b;have pa:=a.dN;have pb:=b.dN;rw[iha o m row h.Lg.1 hfa.1 (by omega) hr,ihb (o+a.sz) (m-a.sz) (row++[dP a]) h.Lg.2 hfa.2 (by omega) (by simp;omega)];have:=fin (.cat a b) o m (a.sz+b.sz) row [dP a,dP b] h hf (by omega) hm hr rfl (by simp;omega) (by simp[Pt.nv,Xu,dP]);rw[<- this,List.append_assoc,Nat.sub_sub,Nat.add_assoc];rfl
 |alt a b iha ihb =>
  intro o m row h hf hm hr;have hlen:=h.len;have hfa:=hf;simp only[bY,aH]at hfa;have hsz:(Pt.alt a b).sz=a.sz+b.sz+1:=rfl;have la:=mM a;have lb:=mM b;have pa:=a.dN;have pb:=b.dN;rw[iha o m row h.alt1.1 hfa.1 (by omega) hr,ihb (o+a.sz) (m-a.sz) (row++[dP a]) h.alt1.2 hfa.2 (by omega) (by simp;omega)];have:=fin (.alt a b) o m (a.sz+b.sz) row [dP a,dP b] h hf (by omega) hm hr rfl (by simp;omega) (by simp[Pt.nv,Xu,dP]);rw[<- this,List.append_assoc,Nat.sub_sub,Nat.add_assoc];rfl
 |times a lo hi iha =>
  intro o m row h hf hm hr;have hlen:=h.len;have hfa:=hf;simp only[bY,aH]at hfa;have hsz:(Pt.times a lo hi).sz=a.sz+1:=rfl;have la:=mM a;rw[iha o m row h.Va hfa.1 (by omega) hr];exact fin (.times a lo hi) o m a.sz row [dP a] h hf (by omega) hm hr rfl (by simp;omega) (by simp[Pt.nv,Xu,dP])
 |group a k iha =>
  intro o m row h hf hm hr;have hlen:=h.len;have hfa:=hf;simp only[bY,aH]at hfa;have hsz:(Pt.group a k).sz=a.sz+1:=rfl;have la:=mM a;rw[iha o m row h.Vb hfa.1 (by omega) hr];exact fin (.group a k) o m a.sz row [dP a] h hf (by omega) hm hr rfl (by simp;omega) (by simp[Pt.nv,Xu,dP])
theorem Ng{t:Pt}(hn:300<=n)(h:tF t):Np n (t.enc 0)=some (dP t):=by
 unfold Np;simp only;rw[yCd (by omega) h];simp only[aK,Bool.not_true,aZ];have hsz:=h.1;have hlen:=t.bX 0;have:=yJz (n:=n) (l:=t.enc 0) hn (by omega) t 0 n [] (At.self t) h.2.1.1 (by omega) (by simp);rw[show((0:Nat):Int)=0 from rfl]at this;rw[this,bI (by omega),jB];simp only;rw[aC (by rw[hlen];simp),aB (by simp[inB]),aB (by simp)];rfl
end
end Go.Dec
namespace Go.Dec
section
variable {n:Nat}{w:List Int}{a b lo hi m:Int}{u:Unit}
theorem yXs:bZ n (0,w,a,b,lo,hi,m,u)=br (Ty.beq aD (0,[0,0,0,0],0,0,0,0,0,()) (0,w,a,b,lo,hi,m,())) (some true) (some false):=by
 simp[bZ,dW,dD,fC]
theorem yXt:bZ n (1,w,a,b,lo,hi,m,u)=br (Ty.beq (.arr 4 (.int .u64)) w [0,0,0,0]) (some false) (br (Ty.beq aD (1,w,0,0,0,0,0,()) (1,w,a,b,lo,hi,m,())) (some true) (some false)):=by
 simp[bZ,dW,dD,fC]
theorem yXu:bZ n (2,w,a,b,lo,hi,m,u)=br (Ty.beq aD (2,[0,0,0,0],0,0,0,0,0,()) (2,w,a,b,lo,hi,m,())) (some true) (some false):=by
 simp[bZ,dW,dD,fC]
theorem yXv:bZ n (3,w,a,b,lo,hi,m,u)=br (Ty.beq aD (3,[0,0,0,0],0,0,0,0,0,()) (3,w,a,b,lo,hi,m,())) (some true) (some false):=by
 simp[bZ,dW,dD,fC]
theorem yXw:bZ n (4,w,a,b,lo,hi,m,u)=br (Ty.beq aD (4,[0,0,0,0],a,b,0,0,0,()) (4,w,a,b,lo,hi,m,())) (some true) (some false):=by
 simp[bZ,dW,dD,iP,fC]
theorem yXx:bZ n (5,w,a,b,lo,hi,m,u)=br (Ty.beq aD (5,[0,0,0,0],a,b,0,0,0,()) (5,w,a,b,lo,hi,m,())) (some true) (some false):=by
 simp[bZ,dW,dD,iP,fC]
theorem yXy:bZ n (6,w,a,b,lo,hi,m,u)=br (decide (lo<0)) (some false) (br (decide (lo>255)) (some false) (br (hi != (-1)) (br (decide (hi<lo)) (some false) (br (decide (hi<1)) (some false) (br (decide (hi>255)) (some false)
 (br (Ty.beq aD (6,[0,0,0,0],a,0,lo,hi,0,()) (6,w,a,b,lo,hi,m,())) (some true) (some false))))) (br (Ty.beq aD (6,[0,0,0,0],a,0,lo,hi,0,()) (6,w,a,b,lo,hi,m,())) (some true) (some false)))):=by
 unfold bZ;simp only;rw[aC (by rfl),aC (by rfl),fC];unfold dW;simp only;rw[aC (by rfl),aC (by rfl),aC (by rfl),fC];unfold iP;simp only;rw[aC (by rfl),aI (by rfl)];simp only[fC,dD];rfl
theorem yXz:bZ n (7,w,a,b,lo,hi,m,u)=br (Ty.beq aD (7,[0,0,0,0],a,0,0,0,m,()) (7,w,a,b,lo,hi,m,())) (br (decide (m≥1)) (some (decide (m<=9))) (some false)) (some false):=by
 simp[bZ,dW,dD,iP,fC]
theorem yYa:bZ n (8,w,a,b,lo,hi,m,u)=br (Ty.beq aD (8,[0,0,0,0],0,0,0,0,m,()) (8,w,a,b,lo,hi,m,())) (br (decide (m≥1)) (some (decide (m<=9))) (some false)) (some false):=by
 simp[bZ,dW,dD,iP,fC]
theorem yYb{k:Int}(h:k<0\/8<k):bZ n (k,w,a,b,lo,hi,m,u)=some false:=by
 have e:∀ j:Int,0<=j->j<=8->(k==j)=false:=λj h1 h2=>by rw[Bool.eq_false_iff,ne_eq,beq_iff_eq];omega
 simp[bZ,dW,iP,fC,e]
end
theorem zDb{n:Nat}{nd:Nd}(hw:Qf nd):zEh nd (bZ n nd):=by
 obtain⟨k,w,a,b,lo,hi,m,u⟩:=nd;obtain⟨p,hp⟩:=hw;simp only at hp;subst hp;by_cases hk:k<0\/8<k
 ·rw[yYb hk];exact Or.inr ⟨rfl,λv hv=>by have:=zCs v;rw[<- hv]at this;simp only at this;omega⟩
 have hcase:k=0\/k=1\/k=2\/k=3\/k=4\/k=5\/k=6\/k=7\/k=8:=by omega
 have hbad:∀ {nd':Nd}{X:Option Bool},(∀ v:NV,(k,wd p,a,b,lo,hi,m,u)=v.node->(k,wd p,a,b,lo,hi,m,u)=nd')->¬ nd'=(k,wd p,a,b,lo,hi,m,())->zEh (k,wd p,a,b,lo,hi,m,u) (br (Ty.beq aD nd' (k,wd p,a,b,lo,hi,m,())) X (some false)):=by
  intro nd' X h1 h2;rw[yGe h2];exact Or.inr ⟨rfl,λv hv=>absurd (h1 v hv).symm h2⟩
 have hgood:∀ {nd':Nd}{X:Option Bool},nd'=(k,wd p,a,b,lo,hi,m,())->(br (Ty.beq aD nd' (k,wd p,a,b,lo,hi,m,())) X (some false))=X:=by
  intro nd' X h;rw[yGd h];rfl
 have Xv:∀ {k:Int}{w:List Int}{a b lo hi:Int}{c:Nat->NV},(∀ m':Nat,(k,w,a,b,lo,hi,(m':Int),())=(c m').node)->(∀ m',(c m').ok=(decide (1<=m')&&decide (m'<=9)))->(∀ v:NV,(k,w,a,b,lo,hi,m,u)=v.node->∃ m':Nat,m=(m':Int)/\v.ok=(decide (1<=m')&&decide (m'<=9))) ->
  zEh (k,w,a,b,lo,hi,m,u) (br (decide (m≥1)) (some (decide (m<=9))) (some false)):=by
  intro k w a b lo hi c h1 h2 h3;by_cases g1:1<=m
  ·rw[aI (by simp;omega)];by_cases g2:m<=9
   ·obtain⟨m',rfl⟩:∃ m':Nat,m=(m':Int):=⟨m.toNat,by omega⟩;rw[decide_eq_true g2];exact Or.inl ⟨rfl,c m',h1 m',by rw[h2];simp;omega⟩
   ·rw[decide_eq_false g2];refine Or.inr ⟨rfl,λv hv=>?_⟩;obtain⟨m',e1,e2⟩:=h3 v hv;rw[e2];simp;omega
  ·rw[aC (by simp;omega)];refine Or.inr ⟨rfl,λv hv=>?_⟩;obtain⟨m',e1,e2⟩:=h3 v hv;rw[e2];simp;omega
 rcases hcase with rfl|rfl|rfl|rfl|rfl|rfl|rfl|rfl|rfl
 ·rw[yXs];by_cases h:((0,[0,0,0,0],0,0,0,0,0,()):Nd)=(0,wd p,a,b,lo,hi,m,())
  ·rw[hgood h];exact Or.inl ⟨rfl,.empty,h.symm,rfl⟩
  ·exact hbad (λv hv=>by rw[hv];cases v<;>simp[NV.node]at hv ⊢) h
 ·rw[yXt,qB];cases he:gM p
  ·rw[aZ];by_cases h:((1,wd p,0,0,0,0,0,()):Nd)=(1,wd p,a,b,lo,hi,m,())
   ·rw[hgood h];exact Or.inl ⟨rfl,.bytes p,h.symm,by simp[NV.ok,he]⟩
   ·exact hbad (λv hv=>by rw[hv];cases v<;>simp[NV.node]at hv ⊢;exact hv.1.symm) h
  ·refine Or.inr ⟨rfl,λv hv=>?_⟩;have e1:=congrArg (λx:Nd=>x.2.1) hv;have e0:=congrArg (λx:Nd=>x.1) hv;cases v<;>simp[NV.node]at e0 e1
   simp only[NV.ok];rw[<- qB,<- e1,qB,he];rfl
 ·rw[yXu];by_cases h:((2,[0,0,0,0],0,0,0,0,0,()):Nd)=(2,wd p,a,b,lo,hi,m,())
  ·rw[hgood h];exact Or.inl ⟨rfl,.bol,h.symm,rfl⟩
  ·exact hbad (λv hv=>by rw[hv];cases v<;>simp[NV.node]at hv ⊢) h
 ·rw[yXv];by_cases h:((3,[0,0,0,0],0,0,0,0,0,()):Nd)=(3,wd p,a,b,lo,hi,m,())
  ·rw[hgood h];exact Or.inl ⟨rfl,.eol,h.symm,rfl⟩
  ·exact hbad (λv hv=>by rw[hv];cases v<;>simp[NV.node]at hv ⊢) h
 ·rw[yXw];by_cases h:((4,[0,0,0,0],a,b,0,0,0,()):Nd)=(4,wd p,a,b,lo,hi,m,())
  ·rw[hgood h];exact Or.inl ⟨rfl,.cat a b,h.symm,rfl⟩
  ·exact hbad (λv hv=>by rw[hv];cases v<;>simp[NV.node]at hv ⊢;exact⟨hv.2.1.symm,hv.2.2.1.symm⟩) h
 ·rw[yXx];by_cases h:((5,[0,0,0,0],a,b,0,0,0,()):Nd)=(5,wd p,a,b,lo,hi,m,())
  ·rw[hgood h];exact Or.inl ⟨rfl,.alt a b,h.symm,rfl⟩
  ·exact hbad (λv hv=>by rw[hv];cases v<;>simp[NV.node]at hv ⊢;exact⟨hv.2.1.symm,hv.2.2.1.symm⟩) h
 ·rw[yXy];have hno:iA lo hi=false->∀ v:NV,(6,wd p,a,b,lo,hi,m,u)=v.node->v.ok=false:=by
   intro ht v hv;have e1:=congrArg (λx:Nd=>x.2.2.2.2.1) hv;have e2:=congrArg (λx:Nd=>x.2.2.2.2.2.1) hv;have e0:=congrArg (λx:Nd=>x.1) hv;cases v<;>simp[NV.node]at e0 e1 e2
   simp only[NV.ok];rw[<- e1,<- e2];exact ht
  have heq:iA lo hi=true->zEh (6,wd p,a,b,lo,hi,m,u) (br (Ty.beq aD (6,[0,0,0,0],a,0,lo,hi,0,()) (6,wd p,a,b,lo,hi,m,())) (some true) (some false)):=by
   intro ht;by_cases h:((6,[0,0,0,0],a,0,lo,hi,0,()):Nd)=(6,wd p,a,b,lo,hi,m,())
   ·rw[hgood h];exact Or.inl ⟨rfl,.times a lo hi,h.symm,ht⟩
   ·exact hbad (λv hv=>by rw[hv];cases v<;>simp[NV.node]at hv ⊢;exact⟨hv.2.1.symm,hv.2.2.2.1.symm,hv.2.2.2.2.1.symm⟩) h
  by_cases g1:lo<0
  ·rw[aI (by simpa using g1)];exact Or.inr ⟨rfl,hno (by simp[iA];omega)⟩
  rw[aC (by simpa using g1)];by_cases g2:lo>255
  ·rw[aI (by simpa using g2)];exact Or.inr ⟨rfl,hno (by simp[iA];omega)⟩
  rw[aC (by simpa using g2)];by_cases g3:hi=-1
  ·rw[aC (by simp[g3])];exact heq (by simp[iA];omega)
  rw[aI (by simpa using g3)];by_cases g4:hi<lo
  ·rw[aI (by simpa using g4)];exact Or.inr ⟨rfl,hno (by simp[iA];omega)⟩
  rw[aC (by simpa using g4)];by_cases g5:hi<1
  ·rw[aI (by simpa using g5)];exact Or.inr ⟨rfl,hno (by simp[iA];omega)⟩
  rw[aC (by simpa using g5)];by_cases g6:hi>255
  ·rw[aI (by simpa using g6)];exact Or.inr ⟨rfl,hno (by simp[iA];omega)⟩
  rw[aC (by simpa using g6)];exact heq (by simp[iA];omega)
 ·rw[yXz];by_cases h:((7,[0,0,0,0],a,0,0,0,m,()):Nd)=(7,wd p,a,b,lo,hi,m,())
  ·rw[hgood h];simp only[aF,true_and,and_true]at h;obtain⟨h1,h2,h3,h4⟩:=h;rw[<- h1,<- h2,<- h3,<- h4];refine Xv (c:=λm'=>.group a m') (λ_=>rfl) (λ_=>rfl) (λv hv=>?_);have e1:=congrArg (λx:Nd=>x.2.2.2.2.2.2.1) hv;have e0:=congrArg (λx:Nd=>x.1) hv;cases v<;>simp[NV.node]at e0 e1
   exact⟨_,e1,rfl⟩
  ·exact hbad (λv hv=>by rw[hv];cases v<;>simp[NV.node]at hv ⊢;exact⟨hv.2.1.symm,hv.2.2.2.2.2.symm⟩) h
 ·rw[yYa];by_cases h:((8,[0,0,0,0],0,0,0,0,m,()):Nd)=(8,wd p,a,b,lo,hi,m,())
  ·rw[hgood h];simp only[aF,true_and,and_true]at h;obtain⟨h1,h2,h3,h4,h5⟩:=h;rw[<- h1,<- h2,<- h3,<- h4,<- h5];refine Xv (c:=λm'=>.ref m') (λ_=>rfl) (λ_=>rfl) (λv hv=>?_);have e1:=congrArg (λx:Nd=>x.2.2.2.2.2.2.1) hv;have e0:=congrArg (λx:Nd=>x.1) hv;cases v<;>simp[NV.node]at e0 e1
   exact⟨_,e1,rfl⟩
  ·exact hbad (λv hv=>by rw[hv];cases v<;>simp[NV.node]at hv ⊢;exact hv.2.2.2.2.2.symm) h
end Go.Dec
namespace Go.Dec
section
variable {l:List Nd}
theorem Tj{i j:Nat}{t:Pt}(h1:l.take (i+1)=l.take j++t.enc j)(hj:j<=l.length):At l j t :=
 ⟨l.take j,l.drop (i+1),by rw[<- h1,List.take_append_drop],by rw[List.length_take];omega⟩
theorem yRr(hl:l.length<1000000):∀ (t:Pt) (o m:Nat),At l o t->t.sz<=m->fP m (l,t.top o)=some (o:Int):=by
 intro t;have start:∀ {t:Pt}{o m:Nat},fP (m+1) (l,t.top o)=gY m (fP m) (l,t.top o):=rfl;have leaf:∀ t:Pt,t.sz=1->t.kind≠4->t.kind≠5->t.kind≠6->t.kind≠7->∀ (o m:Nat),At l o t->t.sz<=m->fP m (l,t.top o)=some (o:Int):=by
  intro t h1 h4 h5 h6 h7 o m h hm;obtain⟨m,rfl⟩:∃ k,m=k+1:=⟨m-1,by omega⟩;rw[start];unfold gY;simp only;have htop:t.top o=(o:Int):=by unfold Pt.top;omega
  rw[aC (by rw[htop];simp),aB h.top.1,h.top.2,Pt.zR];rw[aC (by simpa using h4),aC (by simpa using h5),aC (by simpa using h6),aC (by simpa using h7),htop]
 induction t with
 |empty=>exact leaf .empty rfl (by decide) (by decide) (by decide) (by decide)
 |bytes p=>exact leaf (.bytes p) rfl (by simp[Pt.kind]) (by simp[Pt.kind]) (by simp[Pt.kind]) (by simp[Pt.kind])
 |bol=>exact leaf .bol rfl (by decide) (by decide) (by decide) (by decide)
 |eol=>exact leaf .eol rfl (by decide) (by decide) (by decide) (by decide)
 |ref k=>exact leaf (.ref k) rfl (by simp[Pt.kind]) (by simp[Pt.kind]) (by simp[Pt.kind]) (by simp[Pt.kind])
 |cat a b iha ihb =>
  intro o m h hm;obtain⟨m,rfl⟩:∃ k,m=k+1:=⟨m-1,by simp only[Pt.sz]at hm;omega⟩;have hlen:=h.len;have pa:=a.dN;have pb:=b.dN;simp only[Pt.sz]at hm hlen;rw[start];unfold gY;simp only;have htop:(Pt.cat a b).top o=((o+a.sz+b.sz:Nat):Int):=by unfold Pt.top;simp only[Pt.sz];omega
  have hb1:IntKind.wrap .i64 ((Pt.cat a b).top o-1)=b.top (o+a.sz):=by rw[htop,aW (by omega) (by omega)];unfold Pt.top;omega
  rw[aC (by rw[htop];simp;omega),aB h.top.1,h.top.2,hb1];simp only[Pt.nv,NV.node];rw[aI (by rfl),aI (by rfl),aB h.top.1,aC (by simp),ihb (o+a.sz) m h.Lg.2 (by omega)];simp only[aK];have ha1:IntKind.wrap .i64 (((o+a.sz:Nat):Int)-1)=a.top o:=by rw[aW (by omega) (by omega)];rfl
  rw[aC (by simp;omega),aB h.top.1,ha1,aC (by simp),iha o m h.Lg.1 (by omega)];rfl
 |alt a b iha ihb =>
  intro o m h hm;obtain⟨m,rfl⟩:∃ k,m=k+1:=⟨m-1,by simp only[Pt.sz]at hm;omega⟩;have hlen:=h.len;have pa:=a.dN;have pb:=b.dN;simp only[Pt.sz]at hm hlen;rw[start];unfold gY;simp only;have htop:(Pt.alt a b).top o=((o+a.sz+b.sz:Nat):Int):=by unfold Pt.top;simp only[Pt.sz];omega
  have hb1:IntKind.wrap .i64 ((Pt.alt a b).top o-1)=b.top (o+a.sz):=by rw[htop,aW (by omega) (by omega)];unfold Pt.top;omega
  rw[aC (by rw[htop];simp;omega),aB h.top.1,h.top.2,hb1];simp only[Pt.nv,NV.node];rw[aC (by rfl),aI (by rfl),aB h.top.1,aC (by simp),ihb (o+a.sz) m h.alt1.2 (by omega)];simp only[aK];have ha1:IntKind.wrap .i64 (((o+a.sz:Nat):Int)-1)=a.top o:=by rw[aW (by omega) (by omega)];rfl
  rw[aC (by simp;omega),aB h.top.1,ha1,aC (by simp),iha o m h.alt1.1 (by omega)];rfl
 |times a lo hi iha =>
  intro o m h hm;obtain⟨m,rfl⟩:∃ k,m=k+1:=⟨m-1,by simp only[Pt.sz]at hm;omega⟩;have hlen:=h.len;have pa:=a.dN;simp only[Pt.sz]at hm hlen;rw[start];unfold gY;simp only;have htop:(Pt.times a lo hi).top o=((o+a.sz:Nat):Int):=by unfold Pt.top;simp only[Pt.sz];omega
  have hb1:IntKind.wrap .i64 ((Pt.times a lo hi).top o-1)=a.top o:=by rw[htop,aW (by omega) (by omega)];rfl
  rw[aC (by rw[htop];simp;omega),aB h.top.1,h.top.2,hb1];simp only[Pt.nv,NV.node];rw[aC (by rfl),aC (by rfl),aI (by rfl),aI (by rfl),aB h.top.1,aC (by simp),iha o m h.Va (by omega)];rfl
 |group a k iha =>
  intro o m h hm;obtain⟨m,rfl⟩:∃ k,m=k+1:=⟨m-1,by simp only[Pt.sz]at hm;omega⟩;have hlen:=h.len;have pa:=a.dN;simp only[Pt.sz]at hm hlen;rw[start];unfold gY;simp only;have htop:(Pt.group a k).top o=((o+a.sz:Nat):Int):=by unfold Pt.top;simp only[Pt.sz];omega
  have hb1:IntKind.wrap .i64 ((Pt.group a k).top o-1)=a.top o:=by rw[htop,aW (by omega) (by omega)];rfl
  rw[aC (by rw[htop];simp;omega),aB h.top.1,h.top.2,hb1];simp only[Pt.nv,NV.node];rw[aC (by rfl),aC (by rfl),aC (by rfl),aI (by rfl),aB h.top.1,aC (by simp),iha o m h.Vb (by omega)];rfl
theorem At.take{o:Nat}{t:Pt}(h:At l o t):l.take (o+t.sz)=l.take o++t.enc o:=by
 obtain⟨pre,post,rfl,hp⟩:=h;subst hp;have h1:(pre++t.enc pre.length++post).take (pre.length+t.sz)=pre++t.enc pre.length:=by
  rw[List.take_append_of_le_length (by rw[List.length_append,Pt.bX];exact bA _),List.take_of_length_le (by rw[List.length_append,Pt.bX];exact bA _)]
 rw[h1,List.append_assoc,List.take_left]
theorem zRk{m:Nat}(hm:1<=m):fP m (l,-1)=some (-1):=by
 obtain⟨m,rfl⟩:∃ k,m=k+1:=⟨m-1,by omega⟩;rfl
def Ns (l:List Nd) (i:Nat) (e:Option Int):Prop := ∃ j:Int,e = some j ∧ (j = -1 ∨ ∃ (o:Nat) (t:Pt),j = (o:Int) ∧ o+t.sz = i+1 ∧ At l o t ∧ bY t = true)
theorem yRs(hl:l.length<1000000)(hall:∀ (i:Nat) (x:Nd),l[i]?=some x->∃ v:NV,x=v.node/\v.ok=true):∀ (i m:Nat),i<l.length->i+2<=m->Ns l i (fP m (l,(i:Int))):=by
 intro i;induction i using Nat.strongRecOn with
 |ind i ih =>
  intro m hi hm;obtain⟨m,rfl⟩:∃ k,m=k+1:=⟨m-1,by omega⟩;have hli:l[i]?=some l[i]:=List.getElem?_eq_getElem hi;obtain⟨v,hv,hok⟩:=hall i l[i] hli;have hget:∀ d,aR d l (i:Int)=v.node:=λd=>by rw[gX hi,hv]
  have start:fP (m+1) (l,(i:Int))=gY m (fP m) (l,(i:Int)):=rfl;rw[start];unfold gY;simp only;rw[aC (by simp),aB (fQ hi),hget];have hw1:IntKind.wrap .i64 ((i:Int)-1)=(i:Int)-1:=aW (by omega) (by omega);have yGq:l.take (i+1)=l.take i++[v.node]:=by rw[Rq hli,hv]
  have hno:Ns l i (some (-1)):=⟨-1,rfl,Or.inl rfl⟩;have leaf:∀ t:Pt,t.sz=1->t.enc i=[v.node]->bY t=true->Ns l i (some (i:Int)):=by
   intro t h1 h2 h3;exact⟨_,rfl,Or.inr ⟨i,t,rfl,by omega,Tj (i:=i) (by rw[yGq,h2]) (by omega),h3⟩⟩
  have prev:Ns l (i-1) (fP m (l,(i:Int)-1))\/fP m (l,(i:Int)-1)=some (-1):=by
   by_cases h0:i=0
   ·right;subst h0;exact zRk (by omega)
   ·left;have:=ih (i-1) (by omega) m (by omega) (by omega);rw[show((i-1:Nat):Int)=(i:Int)-1 by omega]at this;exact this
  have yPl:fP m (l,(i:Int)-1)=some (-1)\/∃ (o:Nat) (t:Pt),fP m (l,(i:Int)-1)=some (o:Int)/\o+t.sz=i/\At l o t/\bY t=true:=by
   rcases prev with ⟨j,e1,e2⟩|e
   ·rcases e2 with rfl|⟨o,t,rfl,e4,e5,e6⟩
    ·exact Or.inl e1
    ·have:=t.dN;refine Or.inr ⟨o,t,e1,?_,e5,e6⟩;have h5:=e5.len;by_cases h0:i=0
     ·subst h0;rw[show((0:Nat):Int)-1=-1 from rfl,zRk (by omega)]at e1;simp at e1
     ·omega
   ·exact Or.inl e
  have one:∀ (x:Int) (mk:Pt->Pt),(∀ a,(mk a).sz=a.sz+1)->(∀ a o,a.top o=x->(mk a).enc o=a.enc o++[v.node])->(∀ a,bY a=true->bY (mk a)=true) ->
   Ns l i (br (x != (i:Int)-1) (some (-1)) (ob (fP m (l,(i:Int)-1)) λy=>some y)):=by
   intro x mk h1 h2 h3;by_cases hx:x=(i:Int)-1
   ·rw[aC (by simp[hx])];rcases yPl with e|⟨o,a,e,e4,e5,e6⟩
    ·rw[e];exact hno
    ·rw[e];refine⟨_,rfl,Or.inr ⟨o,mk a,rfl,by rw[h1];omega,Tj (i:=i) ?_ (by have:=e5.len;omega),h3 a e6⟩⟩;have ht:=e5.take;rw[e4]at ht;rw[yGq,ht,h2 a o (by rw[hx];unfold Pt.top;omega),List.append_assoc]
   ·rw[aI (by simpa using hx)];exact hno
  have two:∀ (x y:Int) (mk:Pt->Pt->Pt),(∀ a b,(mk a b).sz=a.sz+b.sz+1)->(∀ a b o,a.top o=x->b.top (o+a.sz)=y->(mk a b).enc o=a.enc o++b.enc (o+a.sz)++[v.node])->(∀ a b,bY a=true->bY b=true->bY (mk a b)=true) ->
   Ns l i (br (y != (i:Int)-1) (some (-1)) (ob (fP m (l,(i:Int)-1)) λy5=>br (decide (y5<1)) (some (-1)) (chk (inB (i:Int) l.length) (br (x != IntKind.wrap .i64 (y5-1)) (some (-1)) (ob (fP m (l,IntKind.wrap .i64 (y5-1))) λy9=>some y9))))):=by
   intro x y mk h1 h2 h3;by_cases hy:y=(i:Int)-1
   ·rw[aC (by simp[hy])];rcases yPl with e|⟨o,b,e,e4,e5,e6⟩
    ·rw[e];exact hno
    ·rw[e,aK];by_cases h0:o=0
     ·subst h0;exact hno
     ·have hw2:IntKind.wrap .i64 ((o:Int)-1)=((o-1:Nat):Int):=by have:=e5.len;rw[aW (by omega) (by omega)];omega
      have pb:=b.dN;have hl5:=e5.len;rw[aC (by simp;omega),aB (fQ hi),hw2];by_cases hx:x=((o-1:Nat):Int)
      ·rw[aC (by simp[hx])];obtain⟨j,k1,k2⟩:=ih (o-1) (by omega) m (by omega) (by omega);rw[k1];rcases k2 with rfl|⟨o2,a,rfl,k3,k4,k5⟩
       ·exact hno
       ·have pa:=a.dN;have ho:o2+a.sz=o:=by omega
        refine⟨_,rfl,Or.inr ⟨o2,mk a b,rfl,by rw[h1];omega,Tj (i:=i) ?_ (by omega),h3 a b k5 e6⟩⟩;have ht:=e5.take;have ht2:=k4.take;rw[e4]at ht;rw[ho]at ht2;rw[yGq,ht,ht2,h2 a b o2 (by rw[hx];unfold Pt.top;omega) (by rw[hy,ho];unfold Pt.top;omega),ho];simp only[List.append_assoc]
      ·rw[aI (by simpa using hx)];exact hno
   ·rw[aI (by simpa using hy)];exact hno
  rw[hw1];cases v with
  |empty=>exact leaf .empty rfl rfl rfl
  |bytes p=>exact leaf (.bytes p) rfl rfl hok
  |bol=>exact leaf .bol rfl rfl rfl
  |eol=>exact leaf .eol rfl rfl rfl
  |ref k=>exact leaf (.ref k) rfl rfl hok
  |cat x y =>
   simp only[NV.node];rw[aI (by rfl),aI (by rfl),aB (fQ hi)];exact two x y .cat (λ_ _=>rfl) (λa b o h1 h2=>by simp only[Pt.enc,h1,h2,NV.node]) (λa b h1 h2=>by simp[bY,h1,h2])
  |alt x y =>
   simp only[NV.node];rw[aC (by rfl),aI (by rfl),aB (fQ hi)];exact two x y .alt (λ_ _=>rfl) (λa b o h1 h2=>by simp only[Pt.enc,h1,h2,NV.node]) (λa b h1 h2=>by simp[bY,h1,h2])
  |times x lo hi' =>
   simp only[NV.node];rw[aC (by rfl),aC (by rfl),aI (by rfl),aI (by rfl),aB (fQ hi)];exact one x (λa=>.times a lo hi') (λ_=>rfl) (λa o h1=>by simp only[Pt.enc,h1,NV.node]) (λa h1=>by simp only[bY,h1,Bool.true_and];exact hok)
  |group x k =>
   simp only[NV.node];rw[aC (by rfl),aC (by rfl),aC (by rfl),aI (by rfl),aB (fQ hi)];exact one x (λa=>.group a k) (λ_=>rfl) (λa o h1=>by simp only[Pt.enc,h1,NV.node]) (λa h1=>by simp only[bY,h1,Bool.true_and];exact hok)
end
end Go.Dec
namespace Go.Dec
def gI (len:Nat) (t:Pt):Bool:=decide (len = 1)||iL t
def mR (len:Nat) (t:Pt) (w:W4):Option (Bool×Int×List Bool×Bool×Unit) :=some ((aP t w).2.1&&(eO t&&gI len t),((aP t w).1:Int),(aP t w).2.2.1,(aP t w).2.2.2,())
theorem zMo{l:List Nd}(hl:l.length<1000000):∀ (t:Pt) (o m:Nat) (w:W4),At l o t->bY t=true->t.sz<=m->w.1+t.sz<1000000->w.2.2.1.length=10 ->
 iF m (l,t.top o,(w.2.1,((w.1:Int),(w.2.2.1,(w.2.2.2,())))))=mR l.length t w:=by
 intro t;have start:∀ {t:Pt}{o m:Nat}{x:Bool × Int × List Bool × Bool × Unit},iF (m+1) (l,t.top o,x)=eX m (iF m) (l,t.top o,x):=rfl;induction t with
 |empty =>
  intro o m w h hf hm hg he;obtain⟨m,rfl⟩:∃ k,m=k+1:=⟨m-1,by simp only[Pt.sz]at hm;omega⟩;rw[start];unfold eX;simp only;rw[aB h.top.1,h.top.2];simp only[Pt.nv,NV.node];rw[aC (by rfl),aC (by rfl),aC (by rfl),aC (by rfl),aC (by rfl),aI (by rfl)];unfold mR gI;by_cases h1:l.length=1
  ·rw[aC (by simp[h1]),decide_eq_true h1];simp[aP,eO]
  ·rw[aI (by simp;omega),decide_eq_false h1];simp[aP,iL]
 |bytes p =>
  intro o m w h hf hm hg he;obtain⟨m,rfl⟩:∃ k,m=k+1:=⟨m-1,by simp only[Pt.sz]at hm;omega⟩;rw[start];unfold eX;simp only;rw[aB h.top.1,h.top.2];simp only[Pt.nv,NV.node];rw[aC (by rfl),aC (by rfl),aC (by rfl),aC (by rfl),aC (by rfl),aC (by rfl)];simp[mR,gI,aP,eO,iL]
 |bol =>
  intro o m w h hf hm hg he;obtain⟨m,rfl⟩:∃ k,m=k+1:=⟨m-1,by simp only[Pt.sz]at hm;omega⟩;rw[start];unfold eX;simp only;rw[aB h.top.1,h.top.2];simp only[Pt.nv,NV.node];rw[aC (by rfl),aC (by rfl),aC (by rfl),aC (by rfl),aC (by rfl),aC (by rfl)];simp[mR,gI,aP,eO,iL]
 |eol =>
  intro o m w h hf hm hg he;obtain⟨m,rfl⟩:∃ k,m=k+1:=⟨m-1,by simp only[Pt.sz]at hm;omega⟩;rw[start];unfold eX;simp only;rw[aB h.top.1,h.top.2];simp only[Pt.nv,NV.node];rw[aC (by rfl),aC (by rfl),aC (by rfl),aC (by rfl),aC (by rfl),aC (by rfl)];simp[mR,gI,aP,eO,iL]
 |ref k =>
  intro o m w h hf hm hg he;obtain⟨m,rfl⟩:∃ k,m=k+1:=⟨m-1,by simp only[Pt.sz]at hm;omega⟩;simp only[bY,aH,decide_eq_true_eq]at hf;rw[start];unfold eX;simp only;rw[aB h.top.1,h.top.2];simp only[Pt.nv,NV.node];rw[aC (by rfl),aC (by rfl),aC (by rfl),aC (by rfl),aI (by rfl),aB (fQ (i:=k) (n:=10) (by omega)),aB (by exact decide_eq_true (show k<10 by omega)),Int.toNat_natCast,show Ty.dflt .bool=false from rfl];simp only[mR,gI,aP,eO,iL,Bool.or_true,Bool.and_true];cases w.2.2.1.getD k false
  ·simp
  ·simp
 |cat a b iha ihb =>
  intro o m w h hf hm hg he;obtain⟨m,rfl⟩:∃ k,m=k+1:=⟨m-1,by simp only[Pt.sz]at hm;omega⟩;simp only[bY,aH]at hf;simp only[Pt.sz]at hm hg;have hga:=Bg a w;have ha:=h.Lg.1;have hb:=h.Lg.2;have key:∀ c:Bool,(ob (iF m (l,a.top o,(w.2.1&&c,((w.1:Int),(w.2.2.1,(w.2.2.2,())))))) λy=>ob (iF m (l,b.top (o+a.sz),y)) λy2=>some y2) =
   some ((aP b (aP a w)).2.1&&(c&&(eO a&&gI l.length a&&(eO b&&gI l.length b))),((aP b (aP a w)).1:Int),(aP b (aP a w)).2.2.1,(aP b (aP a w)).2.2.2,()):=by
   intro c;have h1:=iha o m (w.1,w.2.1&&c,w.2.2.1,w.2.2.2) ha hf.1 (by omega) (by simp only;omega) he;simp only at h1;rw[h1];unfold mR;simp only[aK];rw[oV a];have h2:=ihb (o+a.sz) m ((aP a w).1,(aP a w).2.1&&(c&&(eO a&&gI l.length a)),(aP a w).2.2.1,(aP a w).2.2.2) hb hf.2 (by omega) (by simp only;omega) (by simp only;rw[oU];exact he);simp only at h2;rw[show((aP a (w.1,w.2.1,w.2.2.1,w.2.2.2)).2.1&&c&&(eO a&&gI l.length a))=((aP a w).2.1&&(c&&(eO a&&gI l.length a)))from Bool.and_assoc _ _ _];rw[show(w.1,w.2.1,w.2.2.1,w.2.2.2)=w from rfl];rw[h2];unfold mR;simp only[aK];rw[oV b];rw[show((aP a w).1,(aP a w).2.1,(aP a w).2.2.1,(aP a w).2.2.2)=aP a w from rfl];simp only[Bool.and_assoc]
  rw[start];unfold eX;simp only;rw[aB h.top.1,h.top.2];simp only[Pt.nv,NV.node];rw[aI (by rfl),aB ha.top.1,ha.top.2,Pt.zR,aB hb.top.1,hb.top.2,Pt.zR];have hall:mR l.length (.cat a b) w=some ((aP b (aP a w)).2.1&&((decide (a.kind≠4)&&decide (a.kind≠5)&&decide (b.kind≠5))&&(eO a&&gI l.length a&&(eO b&&gI l.length b))),((aP b (aP a w)).1:Int),(aP b (aP a w)).2.2.1,(aP b (aP a w)).2.2.2,()):=by
   unfold mR gI;simp only[aP,eO,iL];congr 2;cases(aP b (aP a w)).2.1<;>cases eO a<;>cases eO b<;>cases iL a<;>cases iL b<;>cases decide (l.length=1)<;>simp
  rw[hall];have kf:=key false;have kt:=key true;rw[Bool.and_false]at kf;rw[Bool.and_true]at kt;by_cases h4:a.kind=4
  ·rw[aI (by simp[h4]),kf];simp[h4]
  ·rw[aC (by simpa using h4),aB ha.top.1];by_cases h5:a.kind=5
   ·rw[aI (by simp[h5]),kf];simp[h5]
   ·rw[aC (by simpa using h5)];by_cases h6:b.kind=5
    ·rw[aI (by simp[h6]),kf];simp[h6]
    ·rw[aC (by simpa using h6),kt];simp[h4,h5,h6]
 |alt a b iha ihb =>
  intro o m w h hf hm hg he;obtain⟨m,rfl⟩:∃ k,m=k+1:=⟨m-1,by simp only[Pt.sz]at hm;omega⟩;simp only[bY,aH]at hf;simp only[Pt.sz]at hm hg;have hga:=Bg a w;have ha:=h.alt1.1;have hb:=h.alt1.2;have key:∀ c:Bool,(ob (iF m (l,a.top o,(w.2.1&&c,((w.1:Int),(w.2.2.1,(w.2.2.2,())))))) λy=>ob (iF m (l,b.top (o+a.sz),y)) λy2=>some y2) =
   some ((aP b (aP a w)).2.1&&(c&&(eO a&&gI l.length a&&(eO b&&gI l.length b))),((aP b (aP a w)).1:Int),(aP b (aP a w)).2.2.1,(aP b (aP a w)).2.2.2,()):=by
   intro c;have h1:=iha o m (w.1,w.2.1&&c,w.2.2.1,w.2.2.2) ha hf.1 (by omega) (by simp only;omega) he;simp only at h1;rw[h1];unfold mR;simp only[aK];rw[oV a];have h2:=ihb (o+a.sz) m ((aP a w).1,(aP a w).2.1&&(c&&(eO a&&gI l.length a)),(aP a w).2.2.1,(aP a w).2.2.2) hb hf.2 (by omega) (by simp only;omega) (by simp only;rw[oU];exact he);simp only at h2;rw[show((aP a (w.1,w.2.1,w.2.2.1,w.2.2.2)).2.1&&c&&(eO a&&gI l.length a))=((aP a w).2.1&&(c&&(eO a&&gI l.length a)))from Bool.and_assoc _ _ _];rw[show(w.1,w.2.1,w.2.2.1,w.2.2.2)=w from rfl];rw[h2];unfold mR;simp only[aK];rw[oV b];rw[show((aP a w).1,(aP a w).2.1,(aP a w).2.2.1,(aP a w).2.2.2)=aP a w from rfl];simp only[Bool.and_assoc]
  rw[start];unfold eX;simp only;rw[aB h.top.1,h.top.2];simp only[Pt.nv,NV.node];rw[aC (by rfl),aI (by rfl),aB ha.top.1,ha.top.2,Pt.zR];have hall:mR l.length (.alt a b) w=some ((aP b (aP a w)).2.1&&(decide (a.kind≠5)&&(eO a&&gI l.length a&&(eO b&&gI l.length b))),((aP b (aP a w)).1:Int),(aP b (aP a w)).2.2.1,(aP b (aP a w)).2.2.2,()):=by
   unfold mR gI;simp only[aP,eO,iL];congr 2;cases(aP b (aP a w)).2.1<;>cases eO a<;>cases eO b<;>cases iL a<;>cases iL b<;>cases decide (l.length=1)<;>simp
  rw[hall];have kf:=key false;have kt:=key true;rw[Bool.and_false]at kf;rw[Bool.and_true]at kt;by_cases h5:a.kind=5
  ·rw[aI (by simp[h5]),kf];simp[h5]
  ·rw[aC (by simpa using h5),kt];simp[h5]
 |times a lo hi iha =>
  intro o m w h hf hm hg he;obtain⟨m,rfl⟩:∃ k,m=k+1:=⟨m-1,by simp only[Pt.sz]at hm;omega⟩;simp only[bY,aH]at hf;simp only[Pt.sz]at hm hg;have ha:=h.Va;have key:∀ c:Bool,(ob (iF m (l,a.top o,(w.2.1&&c,((w.1:Int),(w.2.2.1,(w.2.2.2,())))))) λy=>some y) =
   some ((aP a w).2.1&&(c&&(eO a&&gI l.length a)),((aP a w).1:Int),(aP a w).2.2.1,(aP a w).2.2.2,()):=by
   intro c;have h1:=iha o m (w.1,w.2.1&&c,w.2.2.1,w.2.2.2) ha hf.1 (by omega) (by simp only;omega) he;simp only at h1;rw[h1];unfold mR;simp only[aK];rw[oV a];simp only[Bool.and_assoc]
  rw[start];unfold eX;simp only;rw[aB h.top.1,h.top.2];simp only[Pt.nv,NV.node];rw[aC (by rfl),aC (by rfl),aI (by rfl),aB ha.top.1,ha.top.2,Pt.zR];have hall:mR l.length (.times a lo hi) w=some ((aP a w).2.1&&((decide (a.kind=1)||decide (a.kind=7)||decide (a.kind=8))&&(eO a&&gI l.length a)),((aP a w).1:Int),(aP a w).2.2.1,(aP a w).2.2.2,()):=by
   unfold mR gI;simp only[aP,eO,iL];congr 2;cases(aP a w).2.1<;>cases eO a<;>cases iL a<;>cases decide (l.length=1)<;>simp
  rw[hall];have kf:=key false;have kt:=key true;rw[Bool.and_false]at kf;rw[Bool.and_true]at kt;by_cases h1:a.kind=1
  ·rw[aC (by simp[h1]),kt];simp[h1]
  ·rw[aI (by simpa using h1),aB ha.top.1];by_cases h7:a.kind=7
   ·rw[aC (by simp[h7]),kt];simp[h7]
   ·rw[aI (by simpa using h7),aB ha.top.1];by_cases h8:a.kind=8
    ·rw[aC (by simp[h8]),kt];simp[h8]
    ·rw[aI (by simpa using h8),kf];simp[h1,h7,h8]
 |group a k iha =>
  intro o m w h hf hm hg he;obtain⟨m,rfl⟩:∃ k,m=k+1:=⟨m-1,by simp only[Pt.sz]at hm;omega⟩;simp only[bY,aH,decide_eq_true_eq]at hf;simp only[Pt.sz]at hm hg;have ha:=h.Vb;rw[start];unfold eX;simp only;rw[aB h.top.1,h.top.2];simp only[Pt.nv,NV.node];rw[aC (by rfl),aC (by rfl),aC (by rfl),aI (by rfl),aW (by omega) (by omega),show(w.1:Int)+1=((w.1+1:Nat):Int)from rfl];have hI:=iha o m (w.1+1,w.2.1&&decide (k=w.1+1),w.2.2.1,w.2.2.2) ha hf.1 (by omega) (by simp only;omega) he;simp only at hI;have hlen:=oU a (w.1+1,w.2.1&&decide (k=w.1+1),w.2.2.1,w.2.2.2);by_cases hk:k=w.1+1
  ·rw[decide_eq_true hk,Bool.and_true]at hI hlen;rw[aC (by simp;omega),hI];unfold mR;simp only[aK];rw[aB (fQ (i:=k) (n:=10) (by omega)),aB (by exact decide_eq_true (show k<10 by omega))];simp only[aP,decide_eq_true hk,Bool.and_true,Int.toNat_natCast,eO,gI,iL]
  ·rw[decide_eq_false hk,Bool.and_false]at hI hlen;rw[aI (by simp;omega),hI];unfold mR;simp only[aK];rw[aB (fQ (i:=k) (n:=10) (by omega)),aB (by exact decide_eq_true (show k<10 by omega))];simp only[aP,decide_eq_false hk,Bool.and_false,Int.toNat_natCast,eO,gI,iL]
theorem zDc{n:Nat}{l:List Nd}(hn:200<=n)(hw:∀ nd∈l,Qf nd):(∃ t,tF t/\l=t.enc 0/\vB n l=some true)\/((∀ t,tF t->l≠t.enc 0)/\vB n l=some false):=by
 have hsz:∀ t:Pt,l=t.enc 0->l.length=t.sz:=λt h=>by rw[h,Pt.bX]
 unfold vB Mx;simp only;by_cases h0:l.length=0
 ·rw[aI (by rw[h0];rfl)];exact Or.inr ⟨λt _ h=>by have:=hsz t h;have:=t.dN;omega,rfl⟩
 rw[aC (by simp;omega)];by_cases h1:l.length>120
 ·rw[aI (by simp;omega)];exact Or.inr ⟨λt ht h=>by have:=hsz t h;have:=ht.1;omega,rfl⟩
 rw[aC (by simp;omega)];have hzero:([false,false,false,false,false,false,false,false,false,false]:List Bool)=Ii:=rfl;rw[hzero];rcases Xk l with ⟨vs,hv1,hv2⟩|⟨j,x,hj,hx⟩
 ·have hvn:∀ (i:Nat) (x:Nd),l[i]?=some x->∃ v:NV,x=v.node/\v.ok=true:=by
   intro i x hi;rw[<- hv1,List.getElem?_map]at hi;cases hvi:vs[i]? with
   |none=>rw[hvi]at hi;simp at hi
   |some v=>rw[hvi]at hi;simp at hi;exact⟨v,hi.symm,hv2 v (List.mem_of_getElem? hvi)⟩
  have hend:∀ g,gL n g (l,(l.length:Int),false,0,Ii,false,())=gL n (λ_=>none) (l,(l.length:Int),false,0,Ii,false,()):=by
   intro g;unfold gL;simp only;rw[aC (by simp),aC (by simp)]
  have hloop:fix (gL n) n (l,0,false,0,Ii,false,())=gL n (λ_=>none) (l,(l.length:Int),false,0,Ii,false,()):=by
   refine yP (λi=>(l,(i:Int),false,0,Ii,false,())) (N:=l.length) ?_ hend l.length 0 n (by omega) (by omega);intro i hi g;unfold gL;simp only;have hli:l[i]?=some l[i]:=List.getElem?_eq_getElem hi;have hok:bZ n l[i]=some true:=by
    rcases zDb (n:=n) (hw _ (List.mem_of_getElem? hli))with ⟨h,_⟩|⟨_,h⟩
    ·exact h
    ·obtain⟨v,h2,h3⟩:=hvn i _ hli;rw[h v h2]at h3;simp at h3
   rw[aI (by simp;omega),aB (fQ hi),gX hi,hok];simp only[aK,Bool.not_true,aZ];rw[aW (by omega) (by omega)];rfl
  rw[hloop];unfold gL;simp only;rw[aC (by simp),aW (by omega) (by omega)];obtain⟨j,hj1,hj2⟩:=yRs (l:=l) (by omega) hvn (l.length-1) n (by omega) (by omega);rw[show((l.length-1:Nat):Int)=(l.length:Int)-1 by omega]at hj1;rw[hj1,aK];have yVz:∀ t:Pt,l=t.enc 0->j=0:=by
   intro t ht;have hA:At l 0 t:=by have:=At.self t;rw[<- ht]at this;exact this
   have:=yRr (l:=l) (by omega) t 0 n hA (by have:=hsz t ht;omega);have e:t.top 0=(l.length:Int)-1:=by unfold Pt.top;rw[hsz t ht];omega
   rw[e,hj1]at this;simpa using this
  by_cases hj0:j=0
  ·subst hj0;rw[aC (by rfl)];rcases hj2 with hbad|⟨o,t,ho,hs1,hA,hF⟩
   ·omega
   ·have ho:o=0:=by omega
    subst ho;have hlt:l=t.enc 0:=by
     have:=hA.take;rw[Nat.zero_add,List.take_of_length_le (by omega)]at this;simpa using this
    have hsz2:=hsz t hlt;have xAl:(l.length:Int)-1=t.top 0:=by unfold Pt.top;omega
    rw[xAl];have hT:=zMo (l:=l) (by omega) t 0 n w0 hA hF (by omega) (by simp only[w0];omega) rfl;have hT2:iF n (l,t.top 0,(true,(0,(Ii,(false,())))))=mR l.length t w0:=hT;rw[hzero,hT2];unfold mR;simp only[aK];have hgood:((aP t w0).2.1&&(eO t&&gI l.length t))=true<->tF t:=by
     unfold tF Gj gI;simp only[aH,Bool.or_eq_true,decide_eq_true_eq];constructor
     ·rintro⟨a1,a2,a3⟩;exact⟨by omega,⟨hF,a2,λhh=>by rcases a3 with a3|a3;omega;exact a3⟩,a1⟩
     ·rintro⟨_,⟨_,a2,a3⟩,a1⟩;refine⟨a1,a2,?_⟩;by_cases h1:l.length=1
      ·exact Or.inl h1
      ·exact Or.inr (a3 (by have:=t.dN;omega))
    cases hg:((aP t w0).2.1&&(eO t&&gI l.length t))
    ·refine Or.inr ⟨λu hu h=>?_,rfl⟩;have hB:At l 0 u:=by have:=At.self u;rw[<- h]at this;exact this
     have hlu:=hsz u h;have hU:=zMo (l:=l) (by omega) u 0 n w0 hB hu.2.1.1 (by omega) (by simp only[w0];omega) rfl;rw[show u.top 0=t.top 0 by unfold Pt.top;omega,hT]at hU;unfold mR at hU;simp only[aA,aF]at hU;rw[hg]at hU;have h2:((aP u w0).2.1&&(eO u&&gI l.length u))=true:=by
      unfold gI;simp only[aH,Bool.or_eq_true,decide_eq_true_eq];refine⟨hu.2.2,hu.2.1.2.1,?_⟩;by_cases h1:l.length=1
      ·exact Or.inl h1
      ·exact Or.inr (hu.2.1.2.2 (by have:=u.dN;omega))
     rw[h2]at hU;exact absurd hU.1 (by simp)
    ·exact Or.inl ⟨t,hgood.1 hg,hlt,rfl⟩
  ·rw[aI (by simpa using hj0)];exact Or.inr ⟨λt _ h=>hj0 (yVz t h),rfl⟩
 ·have hjl:j<l.length:=(bP.1 hj).1;have hnot:∀ t,tF t->l≠t.enc 0:=by
   intro t ht h;have h2:=zS t 0;rw[<- h]at h2;rw[<- h2,List.getElem?_map]at hj;cases hvi:(t.nvs 0)[j]? with
   |none=>rw[hvi]at hj;simp at hj
   |some v =>
    rw[hvi]at hj;simp at hj;have h3:=hx v hj.symm;rw[Kn t 0 ht.2.1.1 v (List.mem_of_getElem? hvi)]at h3;simp at h3
  refine Or.inr ⟨hnot,?_⟩;have key:∀ k i m,i+k=j->k<m->fix (gL n) m (l,(i:Int),false,0,Ii,false,())=some (false,(0,(Ii,(false,())))):=by
   intro k;induction k with
   |zero =>
    intro i m hi hm;have hi:i=j:=by omega
    subst hi;rw[bI hm,gL];simp only;have hok:bZ n x=some false:=by
     rcases zDb (n:=n) (hw _ (List.mem_of_getElem? hj))with ⟨_,v,h2,h3⟩|⟨h,_⟩
     ·rw[hx v h2]at h3;simp at h3
     ·exact h
    have hg:aR (Ty.dflt aD) l (i:Int)=x:=by
     rw[gX hjl];rw[List.getElem?_eq_getElem hjl]at hj;exact Option.some.inj hj
    rw[aI (by simp;omega),aB (fQ hjl),hg,hok];rfl
   |succ k ih =>
    intro i m hi hm;have hil:i<l.length:=by omega
    have hli:l[i]?=some l[i]:=List.getElem?_eq_getElem hil;rw[bI (by omega),gL];simp only;rw[aI (by simp;omega),aB (fQ hil),gX hil];rcases zDb (n:=n) (hw _ (List.mem_of_getElem? hli))with ⟨h,_⟩|⟨h,_⟩
    ·rw[h];simp only[aK,Bool.not_true,aZ];rw[aW (by omega) (by omega)];exact ih (i+1) (m-1) (by omega) (by omega)
    ·rw[h];rfl
  have:=key j 0 n (by omega) (by omega);rw[show((0:Nat):Int)=0 from rfl]at this;rw[this];rfl
end Go.Dec
