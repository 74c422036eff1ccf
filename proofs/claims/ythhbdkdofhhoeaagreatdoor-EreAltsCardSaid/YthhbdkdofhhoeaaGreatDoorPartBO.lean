/- Part of a proof over this seat: a library of my own, and what it says of this seat. No statement is proved here. -/
import Derived.Test.YthhbdkdofhhoeaaGreatDoorPartBK
namespace Go.Dec
theorem zJk:∀ k u,(Ow k u).length<=k:=by
 intro k;induction k with
 |zero=>intro u;simp[Ow]
 |succ k ih=>intro u;unfold Ow;split;simp;have:=ih (u / 10);simp;omega
theorem zCb{n:Nat}{x:Int}(h1:-1<=x)(h2:x<1000000):strconv_Itoa n x=some (oN x):=by
 unfold strconv_Itoa;rw[aF (by simp;omega)]
theorem Ac{x:Int}:(oN x).length<=21:=by
 unfold oN;have:=zJk 20 x.natAbs;have:=zJk 20 x.toNat;split<;>simp<;>omega
theorem zVv(p:Nat->Bool)(k:Nat):Yj k (Gv p k)=((List.range 64).filter λj=>p (64*k+j)).map λj=>UInt8.ofNat (64*k+j):=by
 unfold Yj;congr 1;apply List.filter_congr;intro j hj;rw[Fe];have:j<64:=by simpa using hj
 simp[this]
theorem zPk(p:Nat->Bool)(k:Nat):(((List.range 64).map λj=>64*k+j).filter p).map UInt8.ofNat=((List.range 64).filter λj=>p (64*k+j)).map λj=>UInt8.ofNat (64*k+j):=by
 rw[List.filter_map,List.map_map];rfl
theorem zSh(p:Nat->Bool):mF (wd p)=rR p:=by
 have e:List.range 256=(List.range 64).map (λj=>64*0+j)++(List.range 64).map (λj=>64*1+j)++(List.range 64).map (λj=>64*2+j)++(List.range 64).map (λj=>64*3+j):=by decide +kernel
 unfold rR;rw[e];simp only[List.filter_append,List.map_append,zPk];unfold mF wd;simp only[Di,word,Int.toNat_natCast,zVv,List.append_nil,List.append_assoc]
theorem zJl{n:Nat}(p:Nat->Bool):oO n (wd p)=some (rR p):=by
 unfold oO;have h:∀ k,0<=word p k/\word p k<18446744073709551616:=λk=>by have:=rG p k;unfold word;omega
 rw[aF (by
  rw[aD,List.all_eq_true];refine⟨rfl,λw hw=>?_⟩;have:w=word p 0\/w=word p 1\/w=word p 2\/w=word p 3:=by simpa [wd]using hw
  rcases this with rfl|rfl|rfl|rfl<;>simp[h]),zSh]
def Ik (l:List UInt8):List UInt8:=l.flatMap fun c=>[hexDigit (c.toNat / 16),hexDigit (c.toNat % 16)]
def dM:Pt->List UInt8 | .empty=>[101] | .bytes p=>[91]++Ik (rR p)++[93] | .bol=>[94] | .eol=>[36] | .cat a b=>[38]++(dM a++dM b) | .alt a b=>[124]++(dM a++dM b) | .times a lo hi=>[42]++oN lo++[44]++oN hi++[59]++dM a | .group a _=>[40]++dM a++[41] | .ref m=>[92]++oN (m:Int)
theorem Wv(l:List UInt8):(Ik l).length=2*l.length:=by
 induction l with
 |nil=>rfl
 |cons c l ih=>simp only[Ik,List.flatMap_cons,List.length_append]at ih ⊢;rw[ih];simp;omega
theorem iT:∀ t:Pt,(dM t).length<=600*t.sz
 |.empty|.bol|.eol=>by simp[dM,Pt.sz]
 |.bytes p=>by have:=Zn p;simp[dM,Pt.sz,Wv];omega
 |.cat a b=>by have:=iT a;have:=iT b;simp[dM,Pt.sz];omega
 |.alt a b=>by have:=iT a;have:=iT b;simp[dM,Pt.sz];omega
 |.times a lo hi=>by have:=iT a;have:=@Ac lo;have:=@Ac hi;simp[dM,Pt.sz];omega
 |.group a _=>by have:=iT a;simp[dM,Pt.sz];omega
 |.ref m=>by have:=@Ac (m:Int);simp[dM,Pt.sz];omega
section
variable {n:Nat}{l:List Nd}
theorem zWz{d:Nat}(hd:d<16):jE n ((d:Int),16)=some [hexDigit d]:=by
 unfold jE;simp only;rw[aF (by simp;omega),Int.toNat_natCast]
theorem zSi{bs:List UInt8}{i:Nat}(h:i<bs.length):Ik (bs.take (i+1))=Ik (bs.take i)++[hexDigit (bs[i].toNat / 16),hexDigit (bs[i].toNat % 16)]:=by
 have e:bs.take (i+1)=bs.take i++[bs[i]]:=by rw[List.take_add_one,List.getElem?_eq_getElem h];rfl
 rw[e];unfold Ik;rw[List.flatMap_append];rfl
theorem Mh(bs:List UInt8):(bN bs).length=bs.length:=by simp[bN]
theorem zVw{bs:List UInt8}{i:Nat}(h:i<bs.length)(d:Int):bF d (bN bs) (i:Int)=(bs[i].toNat:Int):=by
 rw[qL (by rw[Mh];exact h)];simp[bN]
theorem zVx{g0:List Nd × Int × Int × List (List UInt8) × Unit->Option (List UInt8)}{k:Int}{tl:List Nd}{t15 t16:Int}{row:List (List UInt8)}{bs:List UInt8}(hb:bs.length<=256):∀ (c i m:Nat),i+c=bs.length->c<m ->
 fix (wJ n g0) m (k,[91]++Ik (bs.take i),tl,t15,t16,bN bs,((bN bs).length:Int),(i:Int),row,()) =
  (chk ((decide (0<=k)&&decide (k<=(row.length:Int)))) (
   chk ((Nat.ble (k.toNat) row.length&&Nat.ble (((k.toNat)+1)*16) room)) (
    g0 (tl,t15,IntKind.wrap .i64 (t16+1),row.take (k.toNat)++[[91]++Ik bs++[93]],())))):=by
 intro c;induction c with
 |zero =>
  intro i m hi hm;rw[eG hm,wJ];simp only;rw[aG (by rw[Mh];simp;omega),List.take_of_length_le (by omega),aF (by have:=Wv bs;simp[aL];omega)];rfl
 |succ c ih =>
  intro i m hi hm;have hil:i<bs.length:=by omega
  have hc:=bs[i].toNat_lt;rw[eG (by omega),wJ];simp only;rw[aO (by rw[Mh];simp;omega),aF (vG (by rw[Mh];exact hil)),zVw hil,aF (by decide),IntWalk.u64_in (bs[i].toNat:Int) (by omega)];rw[show Int.tdiv (bs[i].toNat:Int) 16=((bs[i].toNat / 16:Nat):Int)from (Int.ofNat_tdiv _ 16).symm,show Int.tmod (bs[i].toNat:Int) 16=((bs[i].toNat % 16:Nat):Int)from (Int.ofNat_tmod _ 16).symm];rw[IntWalk.u64_in _ (by omega),zWz (by omega),aS,aF (by decide),zWz (by omega),aS];have hlen:=Wv (bs.take i);have htl:(bs.take i).length=i:=by rw[List.length_take];omega
  rw[aF (by simp[aL]),aF (by simp[aL];omega),dI (by omega) (by omega),show(i:Int)+1=((i+1:Nat):Int)by omega];have:=ih (i+1) (m-1) (by omega) (by omega);rw[zSi hil]at this;simpa using this
def Mi(v:NV)(y:List UInt8):List UInt8 :=
 match v with
 |.empty=>[101]
 |.bytes p=>[91]++Ik (rR p)++[93]
 |.bol=>[94]
 |.eol=>[36]
 |.cat _ _=>[38]++y
 |.alt _ _=>[124]++y
 |.times _ lo hi=>[42]++oN lo++[44]++oN hi++[59]++y
 |.group _ _=>[40]++y++[41]
 |.ref m=>[92]++oN (m:Int)
def NV.Zy:NV->Bool | .times _ lo hi=>decide (-1<=lo)&&decide (lo < 1000000)&&(decide (-1<=hi)&&decide (hi < 1000000)) | .ref m=>decide (m < 1000000) | _=>true
theorem join_eq{xs:List (List UInt8)}(h:xs.length<=2)(hl:xs.flatten.length<1000000):strings_Join n (xs,[])=some xs.flatten:=by
 match xs,h with
 |[],_=>rfl
 |[x],_ =>
  simp only[List.flatten_cons,List.flatten_nil,List.append_nil]at hl ⊢;unfold strings_Join;rw[aF (by simp[wE,room];omega)];rfl
 |[x,y],_ =>
  simp only[List.flatten_cons,List.flatten_nil,List.append_nil]at hl ⊢;rw[List.length_append]at hl;unfold strings_Join;rw[aF (by simp[wE,room];omega)];simp[wE]
theorem zDw{g:List Nd × Int × Int × List (List UInt8) × Unit->Option (List UInt8)}{i:Nat}{v:NV}{pre xs:List (List UInt8)}(hn:300<=n)(hl:l.length<1000000)(hv:l[i]?=some v.node)(hx:xs.length=v.parts)(hp:pre.length<1000000)(hj:xs.flatten.length<1000000)(zCc:v.Zy=true):gL n g (l,(l.length:Int),(i:Int),pre++xs,())=g (l,(l.length:Int),((i+1:Nat):Int),pre++[Mi v xs.flatten],()):=by
 have hi:i<l.length:=(bB.1 hv).1;have hx2:xs.length<=2:=by rw[hx];cases v<;>simp[NV.parts]
 have hget:∀ d,bF d l (i:Int)=v.node:=by
  intro d;rw[qL hi];rw[List.getElem?_eq_getElem hi]at hv;exact Option.some.inj hv
 unfold gL;simp only;rw[aO (by simp;omega),aF (vG hi),hget,parts_eq,aS];have yEs:IntKind.wrap .i64 (((pre++xs).length:Int)-(v.parts:Int))=(pre.length:Int):=by
  rw[List.length_append,hx,dI (by omega) (by omega)];omega
 rw[yEs,aF (by simp;omega),Int.toNat_natCast];have hdrop:((pre++xs).drop (0+pre.length)).take ((pre++xs).length-pre.length)=xs:=by
  rw[Nat.zero_add,List.drop_left,List.take_of_length_le (by simp)]
 rw[aF (by simp),hdrop,join_eq hx2 hj,aS];have hput:∀ y:List UInt8,chk ((decide ((0:Int)<=(pre.length:Int))&&decide ((pre.length:Int)<=((pre++xs).length:Int)))) (
  chk ((Nat.ble pre.length (pre++xs).length&&Nat.ble ((pre.length+([y]:List (List UInt8)).length)*16) room)) (
   g (l,(l.length:Int),IntKind.wrap .i64 ((i:Int)+1),(pre++xs).take pre.length++[y],())))=g (l,(l.length:Int),((i+1:Nat):Int),pre++[y],()):=by
  intro y;rw[aF (by simp;omega),aF (by simp[room];omega),dI (by omega) (by omega),List.take_left];rfl
 cases v with
 |empty=>rw[aO (by rfl)];exact hput [101]
 |bytes p =>
  simp only[NV.node,NV.parts,List.length_eq_zero_iff]at hx ⊢;subst hx;rw[aG (by rfl),aO (by rfl),zJl,aS];have hb:=Zn p;rw[aF (by simp[room];omega)];have:=zVx (n:=n) (g0:=g) (k:=(pre.length:Int)) (tl:=l) (t15:=(l.length:Int)) (t16:=(i:Int)) (row:=pre++[]) (bs:=rR p) hb (rR p).length 0 n (by omega) (by omega);simp only[List.take_zero,Ik,List.flatMap_nil,List.append_nil,Int.toNat_natCast]at this hput ⊢;rw[show((0:Nat):Int)=0 from rfl]at this;rw[this];exact hput _
 |bol=>rw[aG (by rfl),aG (by rfl),aO (by rfl)];exact hput [94]
 |eol=>rw[aG (by rfl),aG (by rfl),aG (by rfl),aO (by rfl)];exact hput [36]
 |cat a b =>
  rw[aG (by rfl),aG (by rfl),aG (by rfl),aG (by rfl),aO (by rfl),aF (by simp[aL];simp at hj;omega)];exact hput _
 |alt a b =>
  rw[aG (by rfl),aG (by rfl),aG (by rfl),aG (by rfl),aG (by rfl),aO (by rfl),aF (by simp[aL];simp at hj;omega)];exact hput _
 |times a lo hi =>
  simp only[NV.Zy,aD,decide_eq_true_eq]at zCc;have h1:=@Ac lo;have h2:=@Ac hi;simp only[NV.node];rw[aG (by rfl),aG (by rfl),aG (by rfl),aG (by rfl),aG (by rfl),aG (by rfl),aO (by rfl),zCb zCc.1.1 zCc.1.2,aS,aF (by simp[aL];omega),aF (by simp[aL];omega),zCb zCc.2.1 zCc.2.2,aS,aF (by simp[aL];omega),aF (by simp[aL];omega),aF (by simp[aL];simp at hj;omega)];exact hput _
 |group a m =>
  rw[aG (by rfl),aG (by rfl),aG (by rfl),aG (by rfl),aG (by rfl),aG (by rfl),aG (by rfl),aO (by rfl),aF (by simp[aL];simp at hj;omega),aF (by simp[aL];simp at hj;omega)];exact hput _
 |ref m =>
  simp only[NV.Zy,decide_eq_true_eq]at zCc;have h1:=@Ac (m:Int);simp only[NV.node];rw[aG (by rfl),aG (by rfl),aG (by rfl),aG (by rfl),aG (by rfl),aG (by rfl),aG (by rfl),aG (by rfl),aO (by rfl),zCb (by omega) (by omega),aS,aF (by simp[aL];omega)];exact hput _
theorem zJm(t:Pt)(o:Nat)(h:fM t=true):(t.nv o).Zy=true:=by
 cases t<;>simp only[Pt.nv,NV.Zy]
 case times a lo hi =>
  simp only[fM,oJ,aD,Bool.or_eq_true,decide_eq_true_eq]at h;simp only[aD,decide_eq_true_eq];omega
 case ref m =>
  simp only[fM,aD,decide_eq_true_eq]at h;simp only[decide_eq_true_eq];omega
theorem zSj(hn:300<=n)(hl:l.length<1000):∀ (t:Pt) (o m:Nat) (row:List (List UInt8)),At l o t->fM t=true->t.sz<m->row.length<=o ->
 fix (gL n) m (l,(l.length:Int),(o:Int),row,())=fix (gL n) (m-t.sz) (l,(l.length:Int),((o+t.sz:Nat):Int),row++[dM t],()):=by
 have leaf:∀ (t:Pt),t.sz=1->(∀ o,(t.nv o).parts=0)->(∀ o,Mi (t.nv o) []=dM t)->∀ (o m:Nat) (row:List (List UInt8)),At l o t->fM t=true->t.sz<m->row.length<=o ->
  fix (gL n) m (l,(l.length:Int),(o:Int),row,())=fix (gL n) (m-t.sz) (l,(l.length:Int),((o+t.sz:Nat):Int),row++[dM t],()):=by
  intro t h1 h2 h3 o m row h hf hm hr;have hlen:=h.len;have hnd:=h.node;rw[h1]at hnd hm hlen ⊢;rw[Nat.add_sub_cancel]at hnd;rw[eG (by omega)];have:=zDw (n:=n) (g:=fix (gL n) (m-1)) (pre:=row) (xs:=[]) hn (by omega) hnd (by rw[h2];rfl) (by omega) (by simp) (zJm t o hf);rw[List.append_nil]at this;rw[this,List.flatten_nil,h3]
 have fin:∀ (t:Pt) (o m k:Nat) (row xs:List (List UInt8)),At l o t->fM t=true->k+1=t.sz->t.sz<m->row.length<=o->xs.length=(t.nv o).parts->xs.flatten.length<1000000->Mi (t.nv o) xs.flatten=dM t ->
  fix (gL n) (m-k) (l,(l.length:Int),((o+k:Nat):Int),row++xs,())=fix (gL n) (m-t.sz) (l,(l.length:Int),((o+t.sz:Nat):Int),row++[dM t],()):=by
  intro t o m k row xs h hf hk hm hr hx hj ht;have hlen:=h.len;have hnd:=h.node;rw[show o+t.sz-1=o+k by omega]at hnd;rw[eG (by omega),zDw (n:=n) hn (by omega) hnd hx (by omega) hj (zJm t o hf),ht];rw[show m-k-1=m-t.sz by omega,show o+k+1=o+t.sz by omega]
 intro t;induction t with
 |empty=>exact leaf .empty rfl (λ_=>rfl) (λ_=>rfl)
 |bytes p=>exact leaf (.bytes p) rfl (λ_=>rfl) (λ_=>rfl)
 |bol=>exact leaf .bol rfl (λ_=>rfl) (λ_=>rfl)
 |eol=>exact leaf .eol rfl (λ_=>rfl) (λ_=>rfl)
 |ref k=>exact leaf (.ref k) rfl (λ_=>rfl) (λ_=>rfl)
 |cat a b iha ihb =>
  intro o m row h hf hm hr;have hlen:=h.len;have hfa:=hf;simp only[fM,aD]at hfa;have hsz:(Pt.cat a b).sz=a.sz+b.sz+1:=rfl;have la:=iT a;have lb:=iT b;have pa:=a.nN;have pb:=b.nN;rw[iha o m row h.zPc.1 hfa.1 (by omega) hr,ihb (o+a.sz) (m-a.sz) (row++[dM a]) h.zPc.2 hfa.2 (by omega) (by simp;omega)];have:=fin (.cat a b) o m (a.sz+b.sz) row [dM a,dM b] h hf (by omega) hm hr rfl (by simp;omega) (by simp[Pt.nv,Mi,dM]);rw[<- this,List.append_assoc,Nat.sub_sub,Nat.add_assoc];rfl
 |alt a b iha ihb =>
  intro o m row h hf hm hr;have hlen:=h.len;have hfa:=hf;simp only[fM,aD]at hfa;have hsz:(Pt.alt a b).sz=a.sz+b.sz+1:=rfl;have la:=iT a;have lb:=iT b;have pa:=a.nN;have pb:=b.nN;rw[iha o m row h.alt1.1 hfa.1 (by omega) hr,ihb (o+a.sz) (m-a.sz) (row++[dM a]) h.alt1.2 hfa.2 (by omega) (by simp;omega)];have:=fin (.alt a b) o m (a.sz+b.sz) row [dM a,dM b] h hf (by omega) hm hr rfl (by simp;omega) (by simp[Pt.nv,Mi,dM]);rw[<- this,List.append_assoc,Nat.sub_sub,Nat.add_assoc];rfl
 |times a lo hi iha =>
  intro o m row h hf hm hr;have hlen:=h.len;have hfa:=hf;simp only[fM,aD]at hfa;have hsz:(Pt.times a lo hi).sz=a.sz+1:=rfl;have la:=iT a;rw[iha o m row h.zRs hfa.1 (by omega) hr];exact fin (.times a lo hi) o m a.sz row [dM a] h hf (by omega) hm hr rfl (by simp;omega) (by simp[Pt.nv,Mi,dM])
 |group a k iha =>
  intro o m row h hf hm hr;have hlen:=h.len;have hfa:=hf;simp only[fM,aD]at hfa;have hsz:(Pt.group a k).sz=a.sz+1:=rfl;have la:=iT a;rw[iha o m row h.zRt hfa.1 (by omega) hr];exact fin (.group a k) o m a.sz row [dM a] h hf (by omega) hm hr rfl (by simp;omega) (by simp[Pt.nv,Mi,dM])
theorem Mj{t:Pt}(hn:300<=n)(h:Ao t):sD n (t.enc 0)=some (dM t):=by
 unfold sD;simp only;rw[zYn (by omega) h];simp only[aS,Bool.not_true,bV];have hsz:=h.1;have hlen:=t.dP 0;have:=zSj (n:=n) (l:=t.enc 0) hn (by omega) t 0 n [] (At.self t) h.2.1.1 (by omega) (by simp);rw[show((0:Nat):Int)=0 from rfl]at this;rw[this,eG (by omega),gL];simp only;rw[aG (by rw[hlen];simp),aF (by simp[inB]),aF (by simp)];rfl
end
end Go.Dec
namespace Go.Dec
section
variable {n:Nat}{w:List Int}{a b lo hi m:Int}{u:Unit}
end
end Go.Dec
namespace Go.Dec
section
variable {l:List Nd}
theorem At.take{o:Nat}{t:Pt}(h:At l o t):l.take (o+t.sz)=l.take o++t.enc o:=by
 obtain⟨pre,post,rfl,hp⟩:=h;subst hp;have h1:(pre++t.enc pre.length++post).take (pre.length+t.sz)=pre++t.enc pre.length:=by
  rw[List.take_append_of_le_length (by rw[List.length_append,Pt.dP];exact aR _),List.take_of_length_le (by rw[List.length_append,Pt.dP];exact aR _)]
 rw[h1,List.append_assoc,List.take_left]
end
end Go.Dec
namespace Go.Dec
end Go.Dec
