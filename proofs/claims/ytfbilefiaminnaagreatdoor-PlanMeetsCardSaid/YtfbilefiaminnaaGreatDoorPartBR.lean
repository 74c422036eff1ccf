/- Part of a proof over this seat: a library of my own, and what it says of this seat. No statement is proved here. -/
import Derived.Test.YtfbilefiaminnaaGreatDoorPartBK
import Derived.Test.YtfbilefiaminnaaGreatDoorRows
import Derived.Test.YtfbilefiaminnaaGreatDoorChecked
import Derived.ProofKit
import GoSem.ClaimSeven
import Derived.JoinedOf
import Derived.Test.YtfbilefiaminnaaGreatDoorPartBQ
import Derived.Lay
import Derived.OpenShut
import Derived.Stop.LaidErr
namespace Go.Dec
open Go.Proofs
theorem zFw{P:Program}{W:World}{n nm:String}{d:DataW Unit}{g:Nat}{t:TypeId}{ms:Array (String × TypeId)}{r:List (String × DataW Unit)}(h:laidMet P ((n,.iface nm d)::r) W)(hg:P.globalNamed n=some g)(hgt:(P.globals[g]?).map (·.type)=some t)(hu:P.underlying t=some (.interface ms)):∃ v,W.cell? ⟨g,0,none⟩=some v/\(v=.nilIface\/∃ te pe,v=.iface te pe):=by
 obtain⟨ps,⟨g0,t0,cs0,f0,p0,q0,hg0,ht0,hv0,hd0,_,_⟩,_,_⟩:=h;obtain rfl:=Option.some.inj (hg.symm.trans hg0);obtain rfl:=Option.some.inj (hgt.symm.trans ht0);have hc:=World.var?_cell hg0 hv0 0;obtain⟨l⟩:=cs0;have hl:∃ v,l=[v]/\(v=.nilIface\/∃ te pe,v=.iface te pe):=by
  cases f0 with
  |zero=>simp[DataW.trod]at hd0
  |succ m =>
   unfold DataW.trod at hd0;rw[hu]at hd0;match l,hd0 with
   |[],hd0=>simp at hd0
   |[v],hd0 =>
    refine⟨v,rfl,?_⟩;cases v<;>first|exact Or.inl rfl|exact Or.inr ⟨_,_,rfl⟩|simp at hd0
   |_::_::_,hd0=>simp at hd0
 obtain⟨v,rfl,hv⟩:=hl;exact⟨v,by rw[hc];rfl,hv⟩
theorem yFj{H:Type}{enc:TypeId × Value->H}{P:Program}{w:World}{base fuel n:Nat}{sp:Nat->Bool}{held:Bool}{t e:TypeId}{k:IntKind}{zs:List Int}{cs:List Value}{p:List MemPlace}(ht:P.underlying t=some (.array n e))(he:P.underlying e=some (.int k))(hc:P.cellsOf e=1)(hct:P.cellsOf t=n)(h:DataW.trod enc P w base sp held fuel t cs=some (.agg (zs.map λz=>.lit (.int k z)),p)):cs=zs.map (Value.int k):=by
 obtain⟨xs,m,_,hx,hlen,hn,hel⟩:=DataW.trod_array ht h;simp only[aB,DataW.agg.injEq]at hx;have hz:zs.length=n:=by
  have:=congrArg List.length hx.1;simp only[List.length_map]at this;omega
 apply List.ext_getElem?;intro i;by_cases hi:i<n
 ·have h1:=hel i hi;rw[hc,Nat.mul_one]at h1;have h2:xs[i]?=some xs[i]:=by simp[hn,hi]
  rw[h2]at h1;obtain⟨z,hz1,hz2,_⟩:=DataW.trod_int he h1;have h3:cs[i]?=some (Value.int k z):=by
   have:=congrArg (λl=>l[0]?) hz1;simpa [List.getElem?_take,List.getElem?_drop]using this
  have h4:(zs.map λz=>(DataW.lit (.int k z):DataW H))[i]?=some (xs[i]).1:=by
   rw[hx.1,List.getElem?_map,h2];rfl
  rw[hz2,List.getElem?_map]at h4;rw[h3,List.getElem?_map];cases h5:zs[i]? with
  |none=>rw[h5]at h4;simp at h4
  |some y =>
   rw[h5]at h4;simp only[Option.map_some,aA,DataW.lit.injEq,Lit.int.injEq,true_and]at h4;rw[h4];rfl
 ·rw[List.getElem?_eq_none (by omega),List.getElem?_eq_none (by simp;omega)]
theorem yFk{P:Program}{w:World}{n:String}{g:Nat}{cs:Array Value}(hg:P.globalNamed n=some g)(h:w.var? P n=some cs):∃ a b,w.heap[g]?=some (.cells cs a b):=by
 simp only[World.var?,hg,Option.bind_some]at h;split at h
 ·rename_i a b hh;simp only[aA]at h;subst h;exact⟨_,_,hh⟩
 ·simp at h
theorem zAz{P:Program}{W:World}{n:String}{zs:List Int}{g nn:Nat}{t e:TypeId}{k:IntKind}{r:List (String × DataW Unit)}(h:laidMet P ((n,.agg (zs.map λz=>.lit (.int k z)))::r) W)(hg:P.globalNamed n=some g)(hgt:(P.globals[g]?).map (·.type)=some t)(ht:P.underlying t=some (.array nn e))(he:P.underlying e=some (.int k))(hc:P.cellsOf e=1)(hct:P.cellsOf t=nn):∃ a b,W.heap[g]?=some (.cells (zs.map (Value.int k)).toArray a b):=by
 obtain⟨ps,⟨g0,t0,cs0,f0,p0,q0,hg0,ht0,hv0,hd0,_,_⟩,_,_⟩:=h;obtain rfl:=Option.some.inj (hg.symm.trans hg0);obtain rfl:=Option.some.inj (hgt.symm.trans ht0);have:=yFj ht he hc hct hd0;obtain⟨a,b,hh⟩:=yFk hg hv0;exact⟨a,b,by rw[hh,<- this]⟩
end Go.Dec
namespace Go
variable {H:Type}
variable {enc:TypeId × Value->H}
theorem Ez{a:Assume}{C:Checked}{os:Os}{f:FuncId}{fn:Func}{s:ChangeSpec}{conds:List PathCond}{apart fresh handsOn again:Bool}{X:World->Array Value->Prop}(hX:∀ (w w':World) (args:Array Value),w.heap=w'.heap->X w args->X w' args)(own:ownKnob C.prog.godebug=none)(started:os.Started)(noInit:C.prog.inits.idxOf? f=none)(hfn:C.prog.funcs[f]?=some fn)(witness:∃ (w:World) (tape:Tape) (i:Input),w.os=os/\(w.forCall tape i).Shaped C.prog/\i.vars=[]/\Input.okWide C.prog (w.forCall tape i) .any w.heap.size f i /\
  ((s.pre enc C.prog fn conds apart (w.forCall tape i).memory i.args/\X (w.forCall tape i).memory i.args)/\sizedMet enc C.prog fn (OpenSpec.ofChange s) apart (w.forCall tape i).memory i.args)/\a.holds C.prog (lone (Frame.enter C.prog f i.args .normal) [] (w.forCall tape i)))(contract:∀ (W:World) (base:Nat) (args:Array Value) (ds gs:List (DataW H)) (before:List MemPlace),
  (∀ (j:Nat) t v,fn.params[j]?=some t->args[j]?=some v->Value.okWide C.prog W .any base t v) ->
  DataW.Whole enc C.prog fn.params.toList s.vars apart W args.toList ds gs before ->
  W.ShapedOpen C.prog->X W args ->
  Calls C.prog f args W λe W'=>∃ v,e=.returned v/\s.post enc C.prog fn apart fresh handsOn again W args v W'):ReturnsInHanded a C os f .any (λw args=>(s.pre enc C.prog fn conds apart w args/\X w args)/\sizedMet enc C.prog fn (OpenSpec.ofChange s) apart w args) (s.post enc C.prog fn apart fresh handsOn again):=by
 refine returnsInHanded_of_calls own started noInit witness ?_;intro w tape i _ hsh _ hok hpre hholds;obtain⟨_,_,_,fn',hfn',_,_,_,_,hval⟩:=hok;have e:fn'=fn:=Option.some.inj (hfn'.symm.trans hfn);subst e;obtain⟨⟨⟨ds,gs,before,hw,hc⟩,hx⟩,hz⟩:=hpre;have hw':=DataW.Whole.of_heap (w':=w.forCall tape i) (by rfl) hw;refine(contract (w.forCall tape i) w.heap.size i.args ds gs before hval hw' hsh (hX _ _ _ (by rfl) hx)).mono λe W' ⟨v,he,hp⟩=>?_
 subst he;exact ChangeSpec.post_blind hp
end Go
namespace Go.Proofs.YtfbilefiaminnaaGreatDoor
open Go.ChangeShapes Go.WideShapes Go.ChangeAt Go.RowKit Go.Dec
theorem Tryz.own:ownKnob Tryz.prog.godebug=none:=by kernel_rfl
theorem Tryz.laidOut:laidOutB Tryz.prog=true:=by kernel_rfl
def Tp:List (String × DataW Unit):=[("math/bits.deBruijn32tab", Rows.laid_math_bits_deBruijn32tab),("math/bits.deBruijn64tab", Rows.laid_math_bits_deBruijn64tab),("internal/strconv.uint64pow10", Rows.laid_internal_strconv_uint64pow10),("unicode/utf8.acceptRanges", Rows.laid_unicode_utf8_acceptRanges),("strconv.ErrRange", Rows.laid_strconv_ErrRange),("strconv.ErrSyntax", Rows.laid_strconv_ErrSyntax),("unicode/utf8.first", Rows.laid_unicode_utf8_first)]
theorem yVj{W:World}(h:W.ShapedOpen Tryz.prog)(hL:laidMetH Tryz.prog Tp W):Glob Tryz.prog W:=by
 have hL:laidMet Tryz.prog Tp W:=hL;obtain⟨a0,b0,t0⟩:=zAz (zs:=yHl) (k:=.u8) hL (g:=6) (t:=304) (e:=5) (nn:=32) (by kernel_rfl) (by kernel_rfl) (by kernel_rfl) (by kernel_rfl) (by kernel_rfl) (by kernel_rfl);obtain⟨a1,b1,t1⟩:=zAz (zs:=yHk) (k:=.u8) hL.tail (g:=7) (t:=305) (e:=5) (nn:=64) (by kernel_rfl) (by kernel_rfl) (by kernel_rfl) (by kernel_rfl) (by kernel_rfl) (by kernel_rfl);obtain⟨a2,b2,t2⟩:=zAz (zs:=yHm) (k:=.u64) hL.tail.tail (g:=5) (t:=302) (e:=121) (nn:=20) (by kernel_rfl) (by kernel_rfl) (by kernel_rfl) (by kernel_rfl) (by kernel_rfl) (by kernel_rfl);intro g x hg k hk;have hlt:g<Tryz.prog.globals.size:=(Array.getElem?_eq_some_iff.1 hg).1;have hs:Tryz.prog.globals.size=8:=by kernel_rfl
 have hname:∀ n,(Tryz.prog.globals[g]?).map (λy=>zMn y.name)=some n->zMn x.name=n:=by
  intro n hn;rw[hg]at hn;simpa using hn
 have h6:g=0\/g=1\/g=2\/g=3\/g=4\/g=5\/g=6\/g=7:=by omega
 rcases h6 with rfl|rfl|rfl|rfl|rfl|rfl|rfl|rfl
 ·have:=hname (some (.int .i64)) (by kernel_rfl);obtain rfl:=Option.some.inj (this.symm.trans hk);exact cell_of_shapedOpen_int h (t:=3) (zero:=#[.int .i64 0]) (by omega) (by kernel_rfl) rfl (by kernel_rfl) (by kernel_rfl) Tryz.underlying3
 ·have:=hname (some .any) (by kernel_rfl);obtain rfl:=Option.some.inj (this.symm.trans hk);exact zFw hL.tail.tail.tail.tail.tail (t:=198) (by kernel_rfl) (by kernel_rfl) Tryz.underlying198
 ·have:=hname (some .any) (by kernel_rfl);obtain rfl:=Option.some.inj (this.symm.trans hk);exact zFw hL.tail.tail.tail.tail (t:=198) (by kernel_rfl) (by kernel_rfl) Tryz.underlying198
 ·have:=hname none (by kernel_rfl);rw[this]at hk;cases hk
 ·have:=hname none (by kernel_rfl);rw[this]at hk;cases hk
 ·have:=hname (some (.tab .u64 yHm)) (by kernel_rfl);obtain rfl:=Option.some.inj (this.symm.trans hk);exact⟨a2,b2,t2⟩
 ·have:=hname (some (.tab .u8 yHl)) (by kernel_rfl);obtain rfl:=Option.some.inj (this.symm.trans hk);exact⟨a0,b0,t0⟩
 ·have:=hname (some (.tab .u8 yHk)) (by kernel_rfl);obtain rfl:=Option.some.inj (this.symm.trans hk);exact⟨a1,b1,t1⟩
theorem yVk:laidOutB Tryz.prog=true:=Tryz.laidOut
theorem yVl:mapsRowed Tryz.prog=true:=by kernel_rfl
theorem yVm:(Tryz.prog.stops==[])=true:=by kernel_rfl
theorem yVn:(Tryz.prog.stopKnobs==[])=true:=by kernel_rfl
theorem yPh:Tryz.prog.stopsHeard=true:=by kernel_rfl
theorem yPi:Tryz.prog.mayEnter=true:=by kernel_rfl
theorem yMa:Tryz.prog.mainIs=some (true, "dfe17f9c19d21ccf4217b6a689cc7271847184ff5de463e33e01ed8087e7bd78".toList):=by kernel_rfl
theorem yHi:true=Tryz.prog.looks []:=by kernel_rfl
theorem yLz:Tryz.prog.funcs.any Func.goes=false:=by kernel_rfl
theorem yPg(os:Os)(args:Array Value):laidMetH Tryz.prog Tp ((World.laidAll Tryz.prog os Tp).forCall (λ_ _=>0) ⟨#[],args,[]⟩).memory :=
 show laidMet Tryz.prog Tp _ from laidMet_laidAll _ (by kernel_rfl) (by kernel_rfl)
end Go.Proofs.YtfbilefiaminnaaGreatDoor
