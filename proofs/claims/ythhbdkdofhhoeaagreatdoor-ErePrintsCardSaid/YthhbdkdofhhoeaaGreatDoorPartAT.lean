/- Part of a proof over this seat: a library of my own, and what it says of this seat. No statement is proved here. -/
import Derived.Test.YthhbdkdofhhoeaaGreatDoorPartAS
import Derived.WalkKit
import Derived.WalkSmall
import Derived.Laws.BytesArg
import Derived.RangeFuncRecord
namespace Go.Dec
open Go.Proofs Go.RowKit Go.Sort Go.Lib
theorem yQj(w:World):Calls Tryz.prog 177 #[.int .i64 16] w λe w'=>e=.returned (.bool true)/\w'=w:=by
 go_enter Tryz.func177,Tryz.ntmps177
 go_wp2
 go_ret
 exact⟨by rw[show(bits BinOp.and IntKind.i64 16 15==0)=true from by decide +kernel];rfl,rfl⟩
theorem yEr{w:World}(hG:Glob Tryz.prog w)(i:Nat)(hi:i<64):w.cell? ⟨0,i,none⟩=some (.int .u8 (qY.getD i 0)):=by
 obtain⟨a,b,h⟩:=hG 0 (Tryz.prog.globals[0]'(by decide +kernel)) (by rw[Array.getElem?_eq_getElem]) (.tab .u8 qY) (by kernel_rfl);have hl:i<qY.length:=by rw[show qY.length=64 from rfl];exact hi
 simp[World.cell?,h,hl]
def tzI (x:Int):Int:=IntKind.u64.wrap (bits BinOp.and IntKind.u64 x (IntKind.u64.wrap (-x)) * 285870213051353865) / 288230376151711744
theorem zKj(x:Int)(j:Nat)(w:World)(hx:x≠0)(hj:tzI x=j)(yEs:j<64)(hG:Glob Tryz.prog w):Calls Tryz.prog 152 #[.int .u64 x] w λe w'=>e=.returned (.int .i64 (qY.getD j 0))/\w'=w:=by
 have hr:0<=tzI x/\tzI x<64:=by rw[hj];omega
 have hc:w.cell? ⟨0,(tzI x).toNat,none⟩=some (.int .u8 (qY.getD j 0)):=by rw[hj];exact yEr hG j yEs
 unfold tzI at hr hc;have hx0:(x==0)=false:=by simpa using hx
 have hb:wrap64 (qY[j]?.getD 0)=qY.getD j 0:=by
  have:∀ j,j<64->wrap64 (qY[j]?.getD 0)=qY.getD j 0:=by decide +kernel
  exact this j yEs
 go_enter Tryz.func152,Tryz.ntmps152
 go_wp2
 go_ret
 refine⟨?_,rfl⟩;show Ending.returned (.int .i64 (wrap64 (qY[j]?.getD 0)))=_;rw[hb]
theorem yMk(x:Int)(j:Nat)(w:World)(hx:x≠0)(hj:tzI x=j)(yEs:j<64)(hG:Glob Tryz.prog w):Calls Tryz.prog 178 #[.int .u64 x] w λe w'=>e=.returned (.int .i64 (qY.getD j 0))/\w'=w:=by
 go_enter Tryz.func178,Tryz.ntmps178
 go_wp2_with (go_at_call 152;refine(zKj x j _ hx hj yEs hG).mono ?_;rintro e w' ⟨rfl,rfl⟩)
 go_ret
 exact⟨rfl,rfl⟩
theorem yWq{W:World}{N:Nat}{b:UInt8}(hc:W.cell? ⟨N,64,none⟩=some (.int .u8 (b.toNat:Int))):(convert 96 9 (.slice (some ⟨N,64,none⟩) 1 1)).run Tryz.prog W=.ok (.string ⟨#[b]⟩) W:=by
 have h:=run_convert_bytes_arg (P:=Tryz.prog) W 96 5 Tryz.underlying96 Tryz.underlying5 N 64 1 1 [(b.toNat:Int)] rfl (λi hi=>by
  have:i=0:=by simpa using hi
  subst this;simpa using hc) 9 Tryz.underlying9
 rw[h];simp[strOfNums]
theorem yTm(v:Nat)(h:v<16):((#[48,49,50,51,52,53,54,55,56,57,97,98,99,100,101,102,103,104,105,106,107,108,109,110,111,112,113,114,115,116,117,118,119,120,121,122]:Array UInt8)[v]?).getD 0=hexDigit v:=by
 have:∀ v,v<16->((#[48,49,50,51,52,53,54,55,56,57,97,98,99,100,101,102,103,104,105,106,107,108,109,110,111,112,113,114,115,116,117,118,119,120,121,122]:Array UInt8)[v]?).getD 0=hexDigit v:=by decide +kernel
 exact this v h
set_option maxRecDepth 100000 in
set_option maxHeartbeats 2000000 in
theorem zVw(v:Int)(w:World)(h0:0<=v)(h1:v<16)(hG:Glob Tryz.prog w):Calls Tryz.prog 156 #[.slice none 0 0,.int .u64 v,.int .i64 16,.bool false,.bool false] w λe w'=>e=.returned (.tuple #[.slice none 0 0,.string ⟨#[hexDigit v.toNat]⟩])/\Below w.heap.size w w':=by
 have xBh:∀ args w,(callFunc 177 args).run Tryz.prog w=.ok (.enter 177 args) w:=λargs w=>iZ (by kernel_rfl) args w
 have xBi:∀ args w,(callFunc 178 args).run Tryz.prog w=.ok (.enter 178 args) w:=λargs w=>iZ (by kernel_rfl) args w
 go_enter Tryz.func156,Tryz.ntmps156
 go_wp2_with (go_at_call 177;refine(yQj _).mono ?_;rintro e w' ⟨rfl,rfl⟩)
 go_wp2_with (go_at_call 178;refine(yMk 16 15 _ (by decide) (by decide +kernel) (by decide) (hG.keep λb hb=>Below.heap_alloc _ _ b hb)).mono ?_;rintro e w' ⟨rfl,rfl⟩)
 have hge:¬ 16<=v:=by omega
 have xAt:v<36:=by omega
 refine wp_loop_once ?_
 go_wp2
 rw[yWq (b:=hexDigit v.toNat) (by
  have hz:Tryz.zeroCells189.size=65:=by kernel_rfl
  have hx:=yTm v.toNat (by omega);rw[Array.getElem?_eq_getElem (by simp;omega),Option.getD_some]at hx;unfold World.cell?;rw[World.alloc_heap_new];simp only[Nat.zero_add,Array.getElem?_setIfInBounds];rw[if_neg (by simp),if_pos trivial,if_pos (by rw[hz];decide)];rw[<- hx];rfl)]
 go_wp2
 first|go_ret2|go_ret
 exact⟨rfl,⟨rfl,rfl,rfl,by simp,λb hb=>Below.heap_alloc _ _ b hb⟩⟩
abbrev Gp:List Ty:=[.int .u64,.int .i64]
abbrev Gq:List Ty:=[.str]
theorem zKk(v:Int)(w:World)(h0:0<=v)(h1:v<16)(hG:Glob Tryz.prog w):Calls Tryz.prog 109 #[.int .u64 v,.int .i64 16] w λe w'=>e=.returned (.string ⟨#[hexDigit v.toNat]⟩)/\Below w.heap.size w w':=by
 have xBj:∀ args w,(callFunc 156 args).run Tryz.prog w=.ok (.enter 156 args) w:=λargs w=>iZ (by kernel_rfl) args w
 go_enter Tryz.func109,Tryz.ntmps109
 go_wp2_with (go_at_call 156;refine(zVw v _ h0 h1 hG).mono ?_;rintro e w' ⟨rfl,hb⟩)
 go_ret
 exact⟨rfl,hb⟩
theorem zVx(v:Int)(w:World)(h0:0<=v)(h1:v<16)(hG:Glob Tryz.prog w):Calls Tryz.prog 69 #[.int .u64 v,.int .i64 16] w λe w'=>e=.returned (.string ⟨#[hexDigit v.toNat]⟩)/\Below w.heap.size w w':=by
 have e109:∀ args w,(callFunc 109 args).run Tryz.prog w=.ok (.enter 109 args) w:=λargs w=>iZ (by kernel_rfl) args w
 go_enter Tryz.func69,Tryz.ntmps69
 go_wp2_with (go_at_call 109;refine(zKk v _ h0 h1 hG).mono ?_;rintro e w' ⟨rfl,hb⟩)
 go_ret
 exact⟨rfl,hb⟩
theorem Qk(n:Nat):Pure Tryz.prog 69 Gp Gq (lG n):=by
 refine⟨by kernel_rfl,λx y hF w N vs hG _ hx=>?_⟩;obtain⟨v,b⟩:=x;obtain⟨hc,hy⟩:=iV hF;obtain rfl:=Option.some.inj hy;simp only[aH,decide_eq_true_eq]at hc;obtain⟨rfl,h0,h1⟩:=hc;obtain⟨u,us,rfl,hv,u2,rfl,hb2⟩:=hx;simp only[Ty.gJ,Ty.isAgg,Bool.false_eq_true,if_false,Ty.Rel,aQ,and_true]at hv hb2;subst hv hb2;refine(zVx v w h0 h1 hG).mono ?_;rintro e w' ⟨rfl,hb⟩;exact⟨[_],rfl,hb.os,hb.tape,hb.output,Em hb,_,rfl,by simp[Ty.gJ,Ty.isAgg,Ty.Rel]⟩
end Go.Dec
