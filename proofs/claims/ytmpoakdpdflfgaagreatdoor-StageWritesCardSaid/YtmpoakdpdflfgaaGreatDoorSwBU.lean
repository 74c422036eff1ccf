/- Part of a proof over this seat: a library of my own, and what it says of this seat. No statement is proved here. -/
import Derived.Test.YtmpoakdpdflfgaaGreatDoorSwBS
import Derived.Test.YtmpoakdpdflfgaaGreatDoorSwBA
namespace Go.Dec
def endsOk:List Line->Prop
 | []=>True
 | e :: r=>(r=[]∨e.2.1=true)∧endsOk r
theorem endsOk_splitA:∀ (r w:List UInt8),endsOk (splitA w r)
 | [],w=>by cases w <;> simp [splitA,endsOk]
 | c :: r,w=>by
  unfold splitA
  split
  ·exact ⟨.inr rfl,endsOk_splitA r []⟩
  ·exact endsOk_splitA r _
theorem endsOk_at:∀ (l:List Line) (i:Nat) (d:Line),endsOk l->i+1 < l.length->(l.getD i d).2.1=true
 | [],i,d,_,h=>by simp at h
 | e :: r,0,d,⟨h1,_⟩,h=>by
  rcases h1 with h1 | h1
  ·subst h1; simp at h
  ·simpa using h1
 | e :: r,i+1,d,⟨_,h2⟩,h=>by
  have:=endsOk_at r i d h2 (by simp at h; omega)
  simpa using this
theorem set_same {l:List Line} {i:Nat} {d:Line} (h:endsOk l) (hi:i+1 < l.length):l.set i ((l.getD i d).1,(true,()))=l:=by
 have h1:=endsOk_at l i d h hi
 have h2:(((l.getD i d).1,(true,())):Line)=l[i]:=by
  have h3:l.getD i d=l[i]:=by simp [List.getD_eq_getElem?_getD,List.getElem?_eq_getElem (show i < l.length by omega)]
  rw [h3] at h1 ⊢
  rw [<- h1]
 rw [h2,List.set_getElem_self]
theorem ends_go {n:Nat} {l:List Line} (h:endsOk l) (hl:l.length <= 1000) (st k:Int) (hk:k < l.length):∀ (j:Nat) (i m:Nat),i+j=k.toNat->j < m ->
  fix (stage_Lines_loop1 n) m (st,k,(i:Int),l,())=some (l,st)
 | 0,i,m,hi,hm=>by
  rw [fix_pos (by omega),stage_Lines_loop1]
  simp only
  rw [br_not (decide_eq_false (by omega))]
 | j+1,i,m,hi,hm=>by
  rw [fix_pos (by omega),stage_Lines_loop1]
  simp only
  rw [br_of (decide_eq_true (by omega)),chk_of (by rw [inBn (by omega)]; simp),chk_of (decide_eq_true (by simp; omega)),wrapI (by omega) (by omega)]
  rw [show 0+((i:Nat):Int).toNat=i by simp,set_same h (by omega)]
  have:=ends_go (n:=n) h hl st k hk j (i+1) (m - 1) (by omega) (by omega)
  rwa [show ((i+1:Nat):Int)=(i:Int)+1 by simp] at this
theorem lines_end {n:Nat} {l:List Line} (h:endsOk l) (hl:l.length <= 1000) (hn:1500 <= n) (st:Int) :
  fix (stage_Lines_loop1 n) n (st,(if IntKind.wrap .i64 (((l.length:Nat):Int) - 1) > 0 then IntKind.wrap .i64 (((l.length:Nat):Int) - 1) else 0),0,l,())=some (l,st):=by
 rcases Nat.eq_zero_or_pos l.length with h0 | h0
 ·have h1:l=[]:=List.length_eq_zero_iff.1 h0
  subst h1
  rw [wrapI (by simp) (by simp),if_neg (by simp),fix_pos (by omega),stage_Lines_loop1]
  simp only
  rw [br_not (decide_eq_false (by omega))]
 ·rw [wrapI (by omega) (by omega)]
  split
  ·exact ends_go h hl st _ (by omega) _ 0 n (Nat.zero_add _) (by omega)
  ·exact ends_go h hl st 0 (by omega) 0 0 n (by simp) (by omega)
theorem splitO_eq {n:Nat} {t:List UInt8} (h:t.length <= 400):table_SplitO n (t,())=some (splitL t,()):=by
 unfold table_SplitO
 rw [chk_of (decide_eq_true (by simp; omega))]
theorem lines_std {n:Nat} (hn:1500 <= n) {t:List UInt8} (h:t.length <= 400) (sc:ScrD) (q:Bool) (tb:List FilD) :
  stage_Lines n ((sc,q,[],false,()),t,tb)=some (splitL t,0):=by
 have h2:=splitA_len t []
 unfold stage_Lines
 simp only
 rw [br_f,br_of (by rfl),splitO_eq h,ob_s,fix_pos (by omega),stage_Lines_loop0]
 simp only
 rw [br_not (by rfl)]
 exact lines_end (l:=splitL t) (endsOk_splitA t []) (by simp only [splitL]; omega) hn 0
theorem get_f {n:Nat} (hn:0 < n) (t:List UInt8):table_Get n ([([102],t,())],[102])=some (t,true):=by
 cases n with
 | zero=>omega
 | succ n=>rfl
def endT (e:Line):Line:=(e.1,true,())
theorem join_endT:∀ (r w:List UInt8),joinL ((splitA w r).map endT)=if r=[] then (if w=[] then [] else w++[10]) else if r.getLast?=some 10 then w++r else w++r++[10]
 | [],w=>by cases w <;> simp [splitA,joinL,line1,endT]
 | c :: r,w=>by
  unfold splitA
  split
  ·rename_i h
   have:=join_endT r []
   simp only [List.map_cons,joinL,List.flatMap_cons] at this ⊢
   rw [this]
   subst h
   cases r with
   | nil=>simp [line1,endT]
   | cons d r =>
    simp only [line1,endT,List.getLast?_cons_cons]
    simp
    split <;> simp
  ·rename_i h
   rw [join_endT r (w++[c])]
   cases r with
   | nil=>simp [h]
   | cons d r =>
    simp only [List.getLast?_cons_cons]
    simp
end Go.Dec
namespace Go.Dec
theorem ask_w (n:Nat) (N:Int) (last:Bool):addr_Ask n (((0,(0,(0,()))),((0,(0,(0,()))),(false,()))),(false,(0,())),(N,(last,([],()))))=some (true,(false,0,())):=by
 unfold addr_Ask orF askA
 rw [if_pos ⟨rfl,rfl,rfl⟩]
theorem asked_w {n:Nat} (hn:3 <= n) (N:Int) (P:List UInt8) (E last:Bool) (CS:List CmdD) (t:List FilD) (R:List Line) :
  bank_turn_asked n (0,0,0,0,0,0,false,119,[102],[],0,0,(-1),[],false,false,1,0,N,0,(-1),P,[],E,last,false,[(false,(0,()))],[],false,[],CS,true,t,R,()) =
   some (true,1,0,N,0,(-1),P,[],E,last,false,[],false,[],CS,true,t,R,[(false,(0,()))],()):=by
 obtain ⟨m,rfl⟩:∃ m,n=m+3:=⟨n - 3,by omega⟩
 have h:bank_turn_asked (m+3) (0,0,0,0,0,0,false,119,[102],[],0,0,(-1),[],false,false,1,0,N,0,(-1),P,[],E,last,false,[(false,(0,()))],[],false,[],CS,true,t,R,()) =
   ob (addr_Ask (m+3) (((0,(0,(0,()))),((0,(0,(0,()))),(false,()))),(false,(0,())),(N,(last,([],()))))) fun y=>some (y.1,1,0,N,0,(-1),P,[],E,last,false,[],false,[],CS,true,t,R,[y.2],()):=rfl
 rw [h,ask_w]
 rfl
theorem put_w (n:Nat) (u v:List UInt8):table_Put n ([([102],u,())],[102],v)=some [([102],v,())]:=by
 unfold table_Put
 rw [if_pos ⟨rfl,rfl⟩]
theorem add_w {n:Nat} (hn:0 < n) {u v:List UInt8} (h:u.length+v.length <= 100000):table_Add n ([([102],u,())],[102],v)=some [([102],u++v,())]:=by
 unfold table_Add
 simp only
 rw [get_f hn,ob_s,chk_of (decide_eq_true (by simp only [maxStr]; omega)),put_w,ob_s]
abbrev wCmd:CmdD:=(((0,(0,(0,()))),((0,(0,(0,()))),(false,()))),(119,([102],([],(0,(0,((-1),([],(false,(false,()))))))))))
theorem step_w {n:Nat} (hn:3 <= n) (N:Int) (P:List UInt8) (E last:Bool) {u:List UInt8} (h:u.length+P.length <= 90000) :
  bank_Step n ((false,([],([(((0,(0,(0,()))),((0,(0,(0,()))),(false,()))),(119,([102],([],(0,(0,((-1),([],(false,(false,()))))))))))],()))),true,(1,(0,(N,(0,((-1),(P,([],(E,(last,(false,([(false,(0,()))],([],())))))))))))),[([102],(u,()))]) =
   some ((1,(1,(N,(0,((-1),(P,([],(E,(last,(false,([(false,(0,()))],([],())))))))))))),[([102],(u++(P++[10]),()))],[]):=by
 unfold bank_Step
 simp only
 rw [br_not (by rfl),br_not (by rfl),chk_of (by rfl),show getAt (Ty.dflt TSSSiiiESiiiEbEcssiiiLSsiEbbE) [wCmd] 0=wCmd from rfl]
 simp only [wCmd]
 rw [asked_w hn,ob_s]
 simp only
 rw [br_t,chk_of (by rfl)]
 unfold bank_turn_writes
 simp only
 rw [chk_of (decide_eq_true (by simp [maxStr]; omega)),add_w (by omega) (by simp; omega),ob_s,ob_s]
 rfl
theorem step_e {n:Nat} (hn:0 < n) (N:Int) (P:List UInt8) (E last:Bool) (t:List FilD) :
  bank_Step n ((false,([],([(((0,(0,(0,()))),((0,(0,(0,()))),(false,()))),(119,([102],([],(0,(0,((-1),([],(false,(false,()))))))))))],()))),true,(1,(1,(N,(0,((-1),(P,([],(E,(last,(false,([(false,(0,()))],([],())))))))))))),t) =
   some ((0,(1,(N,(0,((-1),(P,([],(E,(last,(false,([(false,(0,()))],([],())))))))))))),t,[]):=by
 obtain ⟨m,rfl⟩:∃ m,n=m+1:=⟨n - 1,by omega⟩
 rfl
def cat (l:List Line):List UInt8:=joinL (l.map endT)
theorem cat_cons (e:Line) (l:List Line):cat (e :: l)=(e.1++[10])++cat l:=by simp [cat,joinL,line1,endT]
theorem run_go {n:Nat} (hn:3 <= n):∀ (ls:List Line) (l:Line) (N steps:Int) (u:List UInt8) (last:Bool) (m:Nat),
  3 * ls.length+4 < m->0 <= steps->steps+2 * (1+ls.length) <= 1000->u.length+(cat (l :: ls)).length <= 80000 ->
  fix (stage_Run_loop0b n) m ([([102],(u,()))],1000,ls,0,false,[],[(((0,(0,(0,()))),((0,(0,(0,()))),(false,()))),(119,([102],([],(0,(0,((-1),([],(false,(false,()))))))))))],true,[],false,[],0,steps,1,0,N,0,(-1),l.1,[],l.2.1,last,false,[(false,(0,()))],[],[],()) =
   some (([],([([102],(u++cat (l :: ls),()))],(0,(steps+2 * (1+ls.length),())))),0):=by
 intro ls
 induction ls with
 | nil =>
  intro l N steps u last m hm h0 h1 h2
  have hm:4 < m:=by simpa using hm
  have h1:steps+2 <= 1000:=by simpa using h1
  rw [cat_cons] at h2
  have h2:u.length+(l.1.length+1) <= 80000:=by simpa [cat,joinL] using h2
  rw [fix_pos (by omega),stage_Run_loop0b]
  simp only
  rw [br_not (by rfl),br_not (by rfl),br_not (decide_eq_false (by omega)),step_w hn _ _ _ _ (by omega),ob_s,chk_of (by rfl),wrapI (by omega) (by omega)]
  rw [fix_pos (by omega),stage_Run_loop0b]
  simp only
  rw [br_not (by rfl),br_not (by rfl),br_not (decide_eq_false (by omega)),step_e (by omega),ob_s,chk_of (by rfl),wrapI (by omega) (by omega)]
  rw [fix_pos (by omega),stage_Run_loop0b]
  simp only
  rw [br_not (by rfl),br_of (by rfl),br_of (by rfl),show ∀ N:Int,bank_Close n (0,(1,(N,(0,((-1),(l.1,([],(l.2.1,(last,(false,([(false,(0,()))],([],()))))))))))))=some (4,(1,(N,(0,((-1),(l.1,([],(l.2.1,(last,(false,([(false,(0,()))],([],())))))))))))) from fun _=>rfl,ob_s]
  rw [fix_pos (by omega),stage_Run_loop0b]
  simp only
  rw [br_of (by rfl),br_of (by rfl),cat_cons]
  simp [cat,joinL]
  omega
 | cons e ls ih =>
  intro l N steps u last m hm h0 h1 h2
  have hm:3 * (ls.length+1)+4 < m:=by simpa using hm
  have h1:steps+2 * (1+((ls.length:Int)+1)) <= 1000:=by simpa using h1
  rw [cat_cons] at h2
  have h2:u.length+(l.1.length+1+(cat (e :: ls)).length) <= 80000:=by simp only [List.length_append,List.length_cons,List.length_nil] at h2; omega
  rw [fix_pos (by omega),stage_Run_loop0b]
  simp only
  rw [br_not (by rfl),br_not (by rfl),br_not (decide_eq_false (by omega)),step_w hn _ _ _ _ (by omega),ob_s,chk_of (by rfl),wrapI (by omega) (by omega)]
  rw [fix_pos (by omega),stage_Run_loop0b]
  simp only
  rw [br_not (by rfl),br_not (by rfl),br_not (decide_eq_false (by omega)),step_e (by omega),ob_s,chk_of (by rfl),wrapI (by omega) (by omega)]
  rw [fix_pos (by omega),stage_Run_loop0b]
  simp only
  rw [br_not (by rfl),br_of (by rfl),br_not (by simp <;> omega),chk_of (inB_t (by omega) (by simp <;> omega)),show getAt (Ty.dflt TSsbE) (e :: ls) 0=e from rfl,
   show ∀ (N:Int) (b:Bool),bank_Give n ((0,(1,(N,(0,((-1),(l.1,([],(l.2.1,(last,(false,([(false,(0,()))],([],())))))))))))),e,b)=some (1,(0,(IntKind.wrap .i64 (N+1),(0,((-1),(e.1,([],(e.2.1,(b,(false,([(false,(0,()))],([],())))))))))))) from fun _ _=>rfl,ob_s,chk_of (by simp <;> omega),
   show (e :: ls).drop (1:Int).toNat=ls from rfl]
  rw [show ([]:List Line)++[]++[]=[] from rfl,ih e _ _ _ _ _ (by omega) (by omega) (by omega) (by simp; omega)]
  have:(((e :: ls).length:Nat):Int)=(ls.length:Int)+1:=by simp
  rw [this,show steps+1+1+2 * (1+(ls.length:Int))=steps+2 * (1+((ls.length:Int)+1)) by omega,cat_cons l]
  simp
theorem begin_w (n:Nat) (w:List UInt8):stage_Begin n (((false,([],([(((0,(0,(0,()))),((0,(0,(0,()))),(false,()))),(119,([102],([],(0,(0,((-1),([],(false,(false,()))))))))))],()))),(true,([],(false,())))),[([102],(w,()))])=some [([102],[],())]:=by
 unfold stage_Begin orF begA
 rw [if_neg (by rintro ⟨h,_⟩; simp [scrD] at h)]
 simp only
 unfold begQ
 simp only
 rw [if_neg (by rintro ⟨h,_⟩; simp [scrD,cmdD] at h)]
 simp only
 unfold begW
 rw [if_pos ⟨rfl,rfl,rfl,rfl⟩]
theorem run_w {n:Nat} (hn:1500 <= n) {s w:List UInt8} (hs:s.length <= 200) :
  ∃ k,stage_Run n (((false,([],([(((0,(0,(0,()))),((0,(0,(0,()))),(false,()))),(119,([102],([],(0,(0,((-1),([],(false,(false,()))))))))))],()))),(true,([],(false,())))),s,[([102],(w,()))],1000)=some (([],([([102],(cat (splitL s),()))],(0,(k,())))),0):=by
 have hl:=splitA_len s []
 have hc:(cat (splitL s)).length <= 201:=by
  unfold cat splitL
  rw [join_endT]
  split
  ·simp
  ·split <;> simp <;> omega
 unfold stage_Run
 simp only
 rw [br_not (by rfl),begin_w,ob_s,lines_std hn (by omega),ob_s]
 rw [show bank_New n (false,([],([(((0,(0,(0,()))),((0,(0,(0,()))),(false,()))),(119,([102],([],(0,(0,((-1),([],(false,(false,()))))))))))],())))=some (0,(0,(0,(0,((-1),([],([],(false,(false,(false,([(false,(0,()))],([],())))))))))))) from rfl,ob_s,br_not (by rfl),br_of (by rfl)]
 cases hL:splitL s with
 | nil =>
  refine ⟨0,?_⟩
  rw [br_of (by rfl),show bank_Close n (0,(0,(0,(0,((-1),([],([],(false,(false,(false,([(false,(0,()))],([],()))))))))))))=some (4,(0,(0,(0,((-1),([],([],(false,(false,(false,([(false,(0,()))],([],())))))))))))) from rfl,ob_s,fix_pos (by omega),stage_Run_loop0]
  simp only
  rw [br_of (by rfl),br_of (by rfl)]
  rfl
 | cons e ls =>
  rw [hL] at hc
  have hl:ls.length+1 <= 201:=by
   have:(splitL s).length=ls.length+1:=by rw [hL]; simp
   simp only [splitL] at this
   omega
  refine ⟨0+2 * (1+ls.length),?_⟩
  simp only
  rw [br_not (by simp <;> omega),chk_of (inB_t (by omega) (by simp <;> omega)),show getAt (Ty.dflt TSsbE) (e :: ls) 0=e from rfl,
   show ∀ (b:Bool),bank_Give n ((0,(0,(0,(0,((-1),([],([],(false,(false,(false,([(false,(0,()))],([],())))))))))))),e,b)=some (1,(0,(IntKind.wrap .i64 (0+1),(0,((-1),(e.1,([],(e.2.1,(b,(false,([(false,(0,()))],([],())))))))))))) from fun _=>rfl,ob_s,chk_of (by simp <;> omega),
   show (e :: ls).drop (1:Int).toNat=ls from rfl]
  rw [run_go (by omega) ls e _ 0 [] _ n (by omega) (by omega) (by omega) (by simp; omega)]
  simp
theorem law16_StageWrites_claim (x:List UInt8 × List UInt8):law16_StageWrites 2000 x=some true:=by
 obtain ⟨s,w⟩:=x
 unfold law16_StageWrites
 simp only
 by_cases h1:decide ((s.length:Int) > 200)=true
 ·rw [br_of h1]; rfl
 ·rw [br_not (by simpa using h1)]
  have h1:¬ (s.length:Int) > 200:=by simpa using h1
  by_cases h2:decide ((w.length:Int) > 100)=true
  ·rw [br_of h2]; rfl
  ·rw [br_not (by simpa using h2)]
   rw [show shown16 2000 ()=some true from rfl,ob_s,br_not (b:=!true) rfl]
   obtain ⟨k,hk⟩:=run_w (n:=2000) (by omega) (s:=s) (w:=w) (by omega)
   rw [hk,ob_s]
   simp only
   rw [get_f (by omega),ob_s]
   have hz:((0:Int) == 0)=true:=rfl
   have hm:∀ k:Nat,k <= 300->decide (k <= maxStr)=true:=fun k hk=>decide_eq_true (by unfold maxStr; omega)
   have hj:=join_endT s []
   simp only [List.nil_append] at hj
   by_cases h3:s=[]
   ·subst h3
    rw [br_not (by rfl),br_of hz,br_t,br_of (by rfl)]
    rfl
   ·rw [br_of (by simpa using h3)]
    rw [if_neg h3] at hj
    rcases List.eq_nil_or_concat s with h0 | ⟨p,c,h0⟩
    ·exact absurd h0 h3
    ·have hl:s.length=p.length+1:=by rw [h0]; simp
     have hi:IntKind.wrap .i64 ((s.length:Int) - 1)=(p.length:Int):=by rw [wrapI (by omega) (by omega)]; omega
     have h0':s=p++c :: []:=by simpa using h0
     have hg:s.getLast?=some c:=by rw [h0]; simp
     rw [hi,chk_of (inBn (by omega)),getAt_mid h0']
     by_cases hc:c=10
     ·have:(((c.toNat:Nat):Int) != 10)=false:=by subst hc; rfl
      rw [hg,hc,if_pos rfl] at hj
      rw [br_not this,br_of hz,br_t,br_of (by simp only [cat,splitL]; rw [hj]; simp)]
      rfl
     ·have:(((c.toNat:Nat):Int) != 10)=true:=by
       have h3:c.toNat ≠ 10:=fun h=>hc (UInt8.toNat_inj.1 h)
       simp; omega
      rw [hg,if_neg (by simpa using hc)] at hj
      rw [br_of this,chk_of (hm _ (by simp; omega)),br_of hz,br_t,br_of (by simp only [cat,splitL]; rw [hj]; simp)]
      rfl
end Go.Dec
