import Derived.Test.YtfbilefiaminnaaGreatDoorPtrtAU
import Derived.Lay
import Derived.Stop.LaidErr
import Derived.Test.YtfbilefiaminnaaGreatDoorCards
import Derived.Test.YtfbilefiaminnaaGreatDoorTie
open Go.Proofs.Tryz renaming prog->qEr
open Option.some renaming inj->qBc
open List renaming getElem?_map->qBx,getElem?_eq_none->qAu
namespace Go.Dec
open Go.Proofs
theorem zJn{P:Program}{W:World}{n nm:String}{d:DataW Unit}{g:Nat}{t:TypeId}{ms:Array (String × TypeId)}{r:List (String × DataW Unit)}(h:laidMet P ((n,.iface nm d)::r) W)(hg:P.globalNamed n=some g)(hgt:(P.globals[g]?).map (·.type)=some t)(hu:P.underlying t=some (.interface ms)):∃ v,W.cell? ⟨g,0,none⟩=some v/\(v=.nilIface\/∃ te pe,v=.iface te pe):=by
 obtain⟨ps,⟨g0,t0,cs0,f0,p0,q0,hg0,ht0,hv0,hd0,_,_⟩,_,_⟩:=h;obtain rfl:=qBc (hg.symm.trans hg0);obtain rfl:=qBc (hgt.symm.trans ht0);have hc:=World.var?_cell hg0 hv0 0;obtain⟨l⟩:=cs0;have hl:∃ v,l=[v]/\(v=.nilIface\/∃ te pe,v=.iface te pe):=by
  cases f0 with
  |zero=>simp[DataW.trod]at hd0
  |succ m =>
   unfold DataW.trod at hd0;rw[hu]at hd0;match l,hd0 with
   |[],hd0=>simp at hd0
   |[v],hd0 =>
    refine⟨v,rfl,?_⟩;cases v<;>first|exact Or.inl rfl|exact Or.inr ⟨_,_,rfl⟩|simp at hd0
   |_::_::_,hd0=>simp at hd0
 obtain⟨v,rfl,hv⟩:=hl;exact⟨v,by rw[hc];rfl,hv⟩
theorem yKw{H:Type}{enc:TypeId × Value->H}{P:Program}{w:World}{base fuel n:Nat}{sp:Nat->Bool}{held:Bool}{t e:TypeId}{k:IntKind}{zs:List Int}{cs:List Value}{p:List MemPlace}(ht:P.underlying t=some (.array n e))(he:P.underlying e=some (.int k))(hc:P.cellsOf e=1)(hct:P.cellsOf t=n)(h:DataW.trod enc P w base sp held fuel t cs=some (.agg (zs.map λz=>.lit (.int k z)),p)):cs=zs.map (Value.int k):=by
 obtain⟨xs,m,_,hx,hlen,hn,hel⟩:=DataW.trod_array ht h;simp only[aC,DataW.agg.injEq]at hx;have hz:zs.length=n:=by
  have:=congrArg List.length hx.1;simp only[List.length_map]at this;omega
 apply List.ext_getElem?;intro i;by_cases hi:i<n
 ·have h1:=hel i hi;rw[hc,Nat.mul_one]at h1;have h2:xs[i]?=some xs[i]:=by simp[hn,hi]
  rw[h2]at h1;obtain⟨z,hz1,hz2,_⟩:=DataW.trod_int he h1;have h3:cs[i]?=some (Value.int k z):=by
   have:=congrArg (λl=>l[0]?) hz1;simpa [List.getElem?_take,List.getElem?_drop]using this
  have h4:(zs.map λz=>(DataW.lit (.int k z):DataW H))[i]?=some (xs[i]).1:=by
   rw[hx.1,qBx,h2];rfl
  rw[hz2,qBx]at h4;rw[h3,qBx];cases h5:zs[i]? with
  |none=>rw[h5]at h4;simp at h4
  |some y =>
   rw[h5]at h4;simp only[Option.map_some,aA,DataW.lit.injEq,Lit.int.injEq,true_and]at h4;rw[h4];rfl
 ·rw[qAu (by omega),qAu (by simp;omega)]
theorem yKx{P:Program}{w:World}{n:String}{g:Nat}{cs:Array Value}(hg:P.globalNamed n=some g)(h:w.var? P n=some cs):∃ a b,w.heap[g]?=some (.cells cs a b):=by
 simp only[World.var?,hg,Option.bind_some]at h;split at h
 ·rename_i a b hh;simp only[aA]at h;subst h;exact⟨_,_,hh⟩
 ·simp at h
theorem zEg{P:Program}{W:World}{n:String}{zs:List Int}{g nn:Nat}{t e:TypeId}{k:IntKind}{r:List (String × DataW Unit)}(h:laidMet P ((n,.agg (zs.map λz=>.lit (.int k z)))::r) W)(hg:P.globalNamed n=some g)(hgt:(P.globals[g]?).map (·.type)=some t)(ht:P.underlying t=some (.array nn e))(he:P.underlying e=some (.int k))(hc:P.cellsOf e=1)(hct:P.cellsOf t=nn):∃ a b,W.heap[g]?=some (.cells (zs.map (Value.int k)).toArray a b):=by
 obtain⟨ps,⟨g0,t0,cs0,f0,p0,q0,hg0,ht0,hv0,hd0,_,_⟩,_,_⟩:=h;obtain rfl:=qBc (hg.symm.trans hg0);obtain rfl:=qBc (hgt.symm.trans ht0);have:=yKw ht he hc hct hd0;obtain⟨a,b,hh⟩:=yKx hg hv0;exact⟨a,b,by rw[hh,<- this]⟩
end Go.Dec
namespace Go.Proofs.YtfbilefiaminnaaGreatDoor
open Go.ChangeShapes Go.WideShapes Go.ChangeAt Go.RowKit Go.Dec
theorem Tryz.own:ownKnob qEr.godebug=none:=by kernel_rfl
theorem Tryz.laidOut:laidOutB qEr=true:=by kernel_rfl
def Rw:List (String × DataW Unit):=[("math/bits.deBruijn32tab", Rows.laid_math_bits_deBruijn32tab),("math/bits.deBruijn64tab", Rows.laid_math_bits_deBruijn64tab),("internal/strconv.uint64pow10", Rows.laid_internal_strconv_uint64pow10),("unicode/utf8.acceptRanges", Rows.laid_unicode_utf8_acceptRanges),("strconv.ErrRange", Rows.laid_strconv_ErrRange),("strconv.ErrSyntax", Rows.laid_strconv_ErrSyntax),("unicode/utf8.first", Rows.laid_unicode_utf8_first)]
theorem xBt{W:World}(h:W.ShapedOpen qEr)(hL:laidMetH qEr Rw W):Glob qEr W:=by
 have hL:laidMet qEr Rw W:=hL;obtain⟨a0,b0,t0⟩:=zEg (zs:=yNb) (k:=.u8) hL (g:=6) (t:=304) (e:=5) (nn:=32) (by kernel_rfl) (by kernel_rfl) (by kernel_rfl) (by kernel_rfl) (by kernel_rfl) (by kernel_rfl);obtain⟨a1,b1,t1⟩:=zEg (zs:=yNa) (k:=.u8) hL.tail (g:=7) (t:=305) (e:=5) (nn:=64) (by kernel_rfl) (by kernel_rfl) (by kernel_rfl) (by kernel_rfl) (by kernel_rfl) (by kernel_rfl);obtain⟨a2,b2,t2⟩:=zEg (zs:=yNc) (k:=.u64) hL.tail.tail (g:=5) (t:=302) (e:=121) (nn:=20) (by kernel_rfl) (by kernel_rfl) (by kernel_rfl) (by kernel_rfl) (by kernel_rfl) (by kernel_rfl);intro g x hg k hk;have hlt:g<qEr.globals.size:=(Array.getElem?_eq_some_iff.1 hg).1;have hs:qEr.globals.size=8:=by kernel_rfl
 have hname:∀ n,(qEr.globals[g]?).map (λy=>zRg y.name)=some n->zRg x.name=n:=by
  intro n hn;rw[hg]at hn;simpa using hn
 have h6:g=0\/g=1\/g=2\/g=3\/g=4\/g=5\/g=6\/g=7:=by omega
 rcases h6 with rfl|rfl|rfl|rfl|rfl|rfl|rfl|rfl
 ·have:=hname (some (.int .i64)) (by kernel_rfl);obtain rfl:=qBc (this.symm.trans hk);exact cell_of_shapedOpen_int h (t:=3) (zero:=#[.int .i64 0]) (by omega) (by kernel_rfl) rfl (by kernel_rfl) (by kernel_rfl) Tryz.underlying3
 ·have:=hname (some .any) (by kernel_rfl);obtain rfl:=qBc (this.symm.trans hk);exact zJn hL.tail.tail.tail.tail.tail (t:=198) (by kernel_rfl) (by kernel_rfl) Tryz.underlying198
 ·have:=hname (some .any) (by kernel_rfl);obtain rfl:=qBc (this.symm.trans hk);exact zJn hL.tail.tail.tail.tail (t:=198) (by kernel_rfl) (by kernel_rfl) Tryz.underlying198
 ·have:=hname none (by kernel_rfl);rw[this]at hk;cases hk
 ·have:=hname none (by kernel_rfl);rw[this]at hk;cases hk
 ·have:=hname (some (.tab .u64 yNc)) (by kernel_rfl);obtain rfl:=qBc (this.symm.trans hk);exact⟨a2,b2,t2⟩
 ·have:=hname (some (.tab .u8 yNb)) (by kernel_rfl);obtain rfl:=qBc (this.symm.trans hk);exact⟨a0,b0,t0⟩
 ·have:=hname (some (.tab .u8 yNa)) (by kernel_rfl);obtain rfl:=qBc (this.symm.trans hk);exact⟨a1,b1,t1⟩
theorem xEa:laidOutB qEr=true:=Tryz.laidOut
theorem xEb:mapsRowed qEr=true:=by kernel_rfl
theorem xEc:(qEr.stops==[])=true:=by kernel_rfl
theorem xEd:(qEr.stopKnobs==[])=true:=by kernel_rfl
theorem xAk:qEr.stopsHeard=true:=by kernel_rfl
theorem xAl:qEr.mayEnter=true:=by kernel_rfl
theorem ySb:qEr.mainIs=some (true, "dfe17f9c19d21ccf4217b6a689cc7271847184ff5de463e33e01ed8087e7bd78".toList):=by kernel_rfl
theorem yMy:true=qEr.looks []:=by kernel_rfl
theorem ySa:qEr.funcs.any Func.goes=false:=by kernel_rfl
theorem yVn(os:Os)(args:Array Value):laidMetH qEr Rw ((World.laidAll qEr os Rw).forCall (λ_ _=>0) ⟨#[],args,[]⟩).memory :=
 show laidMet qEr Rw _ from laidMet_laidAll _ (by kernel_rfl) (by kernel_rfl)
end Go.Proofs.YtfbilefiaminnaaGreatDoor
namespace Go.Proofs.YtfbilefiaminnaaGreatDoor
open Go.ChangeShapes Go.WideShapes Go.ChangeAt Go.RowKit Go.Dec
abbrev jL:OpenSpec:=Rows.OpenSpec.upto Rows.planTellsSpec
theorem zTt:(Rows.planTellsUptoRow.wf (OpenSpec.ofChange (jL.bare)))=true:=by kernel_rfl
theorem zTu:(Tryz.f3.params.all (qEr.readableRec ·))=true:=by kernel_rfl
theorem zTv:(namedTie qEr Rows.planTellsUptoRow.named (jL.bare).vars)=true:=by kernel_rfl
theorem zTw:((Rows.planTellsUptoRow.stops==[]))=true:=by kernel_rfl
theorem zTx:((Rows.planTellsUptoRow.knobs==[]))=true:=by kernel_rfl
theorem zPg:((Rows.planTellsUptoRow.inPlace==qEr.inPlace 3))=true:=by kernel_rfl
theorem zPh:((Rows.planTellsUptoRow.unfollowed==qEr.unfollowed 3))=true:=by kernel_rfl
theorem zPi:((Rows.planTellsUptoRow.recurses==qEr.recurses 3))=true:=by kernel_rfl
theorem zPj:((Rows.planTellsUptoRow.named==qEr.varsNamed 3))=true:=by kernel_rfl
theorem zPk:((Rows.planTellsUptoRow.maps==(Tryz.f3.params.toList++(jL.bare).plain.varTypes qEr).any (qEr.mapsRec ·)))=true:=by kernel_rfl
theorem zPl:((Rows.planTellsUptoRow.ifaces==(Tryz.f3.params.toList++(jL.bare).plain.varTypes qEr).any (qEr.ifacesRec ·)))=true:=by kernel_rfl
theorem zPm:((Rows.planTellsUptoRow.mapsOut==qEr.mapsAmong Tryz.f3.resultTypes.toList))=true:=by kernel_rfl
theorem zPn:((Rows.planTellsUptoRow.loops==(Tryz.f3.params.toList++(jL.bare).plain.varTypes qEr).any (qEr.loopsFrom ·)))=true:=by kernel_rfl
end Go.Proofs.YtfbilefiaminnaaGreatDoor
namespace Go.Proofs.YtfbilefiaminnaaGreatDoor
open Go.ChangeShapes Go.WideShapes Go.ChangeAt Go.RowKit Go.Dec
theorem zPo:((Rows.planTellsUptoRow.wideKeys==(Tryz.f3.params.toList++(jL.bare).plain.varTypes qEr++Tryz.f3.resultTypes.toList).any (qEr.wideKeysFrom ·)))=true:=by kernel_rfl
theorem zPp:((jL.bare).vars.all (qEr.varReadable ·))=true:=by kernel_rfl
theorem zPq:(Tryz.f3.resultTypes.all (λt=>qEr.readableRec t&&decide (t<qEr.types.size)))=true:=by kernel_rfl
theorem zPr:((Rows.planTellsUptoRow.ifacesOut==Tryz.f3.resultTypes.toList.any (qEr.ifacesRec ·)))=true:=by kernel_rfl
theorem zPs:((Rows.planTellsUptoRow.loopsOut==Tryz.f3.resultTypes.toList.any (qEr.loopsFrom ·)))=true:=by kernel_rfl
theorem zPt:((Rows.planTellsUptoRow.plainKeys==qEr.plainKeys))=true:=by kernel_rfl
theorem zPu:(Rows.planTellsUptoRow.shortTexts.isNone)=true:=by kernel_rfl
theorem zPv:((Rows.planTellsUptoRow.lifted==qEr.liftsFinal))=true:=by kernel_rfl
theorem zPw:((qEr.make==some Rows.planTellsUptoRow.make))=true:=by kernel_rfl
theorem zPx:((Rows.planTellsUptoRow.pinned==Rows.planTellsUptoRow.pinnedBy))=true:=by kernel_rfl
theorem zPy:((Rows.planTellsUptoRow.veiled==(Tryz.f3.params.toList++(jL.bare).plain.varTypes qEr++Tryz.f3.resultTypes.toList).any (qEr.veiledRec ·)))=true:=by kernel_rfl
theorem zPz:(Rows.planTellsUptoRow.veiledFits qEr Tryz.f3.params.toList (Tryz.f3.params.toList++(jL.bare).plain.varTypes qEr++Tryz.f3.resultTypes.toList))=true:=by kernel_rfl
end Go.Proofs.YtfbilefiaminnaaGreatDoor
namespace Go.Proofs.YtfbilefiaminnaaGreatDoor
open Go.ChangeShapes Go.WideShapes Go.ChangeAt Go.RowKit Go.Dec
theorem zGg:joinedFacts qEr 3 Tryz.f3 (jL.bare) Rows.planTellsUptoRow=true:=by
 unfold joinedFacts;simp only[zTt,zTu,zTv,zTw,zTx,zPg,zPh,zPi,zPj,zPk,zPl,zPm,zPn,zPo,zPp,zPq,zPr,zPs,zPt,zPu,zPv,zPw,zPx,zPy,zPz,xEa,xEb,xEc,xEd,xAk,xAl,Bool.and_self,Bool.and_true,Bool.true_and]
 kernel_rfl
theorem Ya:qEr.funcNamed "calender/calenderlaw19.PlanTells" = some 3:=by kernel_rfl
theorem zKc:Tryz.f3.isInstance qEr Rows.planTellsUptoRow.origin Rows.planTellsUptoRow.targs:=of_decide_eq_true (by kernel_rfl)
theorem zKd:Tryz.f3.isWrapper qEr Rows.planTellsUptoRow.wrapper Rows.planTellsUptoRow.mainSum:=by
 unfold Func.isWrapper;first|(rw[if_pos (by decide +kernel)];kernel_rfl)|(rw[if_neg (by decide +kernel)];exact⟨rfl,rfl⟩)
end Go.Proofs.YtfbilefiaminnaaGreatDoor
