/- Part of a proof over this seat: a library of my own, and what it says of this seat. No statement is proved here. -/
import Derived.Test.YtmpoakdpdflfgaaGreatDoorProg
import Derived.Test.YtmpoakdpdflfgaaGreatDoorSwBS
import Derived.Test.YtmpoakdpdflfgaaGreatDoorSwBR
import Derived.KernelRfl
namespace Go.Dec
open Go.Proofs
set_option linter.unusedVariables false
def tab:Tab:=[(3,⟨.int .i64,1,8,[.val (.int .i64) 0],some (.int .i64),false⟩),
 (4,⟨.bool,1,1,[.val .bool false],some .bool,false⟩),
 (5,⟨.int .u8,1,1,[.val (.int .u8) 0],some (.int .u8),false⟩),
 (9,⟨.str,1,16,[.val .str []],some .str,false⟩),
 (23,⟨.slice 225,1,24,[.nils],some (.slice TSLSiA4wiiiiiEbE),false⟩),
 (24,⟨.slice 50,1,24,[.nils],some (.slice TSSSiiiESiiiEbEcssiiiLSsiEbbE),false⟩),
 (26,⟨.struct [(0,4),(1,23),(2,24)],3,56,[.val .bool false,.nils,.nils],some T3b3325d896,false⟩),
 (27,⟨.slice 9,1,24,[.nils],some (.slice .str),false⟩),
 (29,⟨.struct [(0,26),(3,4),(4,27),(5,4)],6,96,[.val .bool false,.nils,.nils,.val .bool false,.nils,.val .bool false],some T9f1898258b,false⟩),
 (30,⟨.slice 90,1,24,[.nils],some (.slice TSsbE),false⟩),
 (31,⟨.slice 38,1,24,[.nils],some (.slice TSssE),false⟩),
 (33,⟨.struct [(0,30),(1,31),(2,3),(3,3)],4,64,[.nils,.nils,.val (.int .i64) 0,.val (.int .i64) 0],some TSLSsbELSssEiiE,false⟩),
 (34,⟨.int .i64,1,8,[.val (.int .i64) 0],some (.int .i64),false⟩),
 (38,⟨.struct [(0,9),(1,9)],2,32,[.val .str [],.val .str []],some TSssE,true⟩),
 (40,⟨.slice 83,1,24,[.nils],some (.slice TSsbE),false⟩),
 (45,⟨.struct [(0,3),(1,3),(2,3)],3,24,[.val (.int .i64) 0,.val (.int .i64) 0,.val (.int .i64) 0],some TSiiiE,true⟩),
 (47,⟨.struct [(0,45),(3,45),(6,4)],7,56,[.val (.int .i64) 0,.val (.int .i64) 0,.val (.int .i64) 0,.val (.int .i64) 0,.val (.int .i64) 0,.val (.int .i64) 0,.val .bool false],some TSSiiiESiiiEbE,true⟩),
 (48,⟨.slice 312,1,24,[.nils],some (.slice TSsiE),false⟩),
 (50,⟨.struct [(0,47),(7,5),(8,9),(9,9),(10,3),(11,3),(12,3),(13,48),(14,4),(15,4)],16,152,[.val (.int .i64) 0,.val (.int .i64) 0,.val (.int .i64) 0,.val (.int .i64) 0,.val (.int .i64) 0,.val (.int .i64) 0,.val .bool false,.val (.int .u8) 0,.val .str [],.val .str [],.val (.int .i64) 0,.val (.int .i64) 0,.val (.int .i64) 0,.nils,.val .bool false,.val .bool false],some TSSSiiiESiiiEbEcssiiiLSsiEbbE,false⟩),
 (65,⟨.slice 4,1,24,[.nils],some (.slice .bool),false⟩),
 (75,⟨.slice 173,1,24,[.nils],some (.slice TSbiE),false⟩),
 (76,⟨.slice 217,1,24,[.nils],some (.slice TSsbE),false⟩),
 (78,⟨.struct [(0,3),(1,3),(2,3),(3,3),(4,3),(5,9),(6,9),(7,4),(8,4),(9,4),(10,75),(11,76)],12,128,[.val (.int .i64) 0,.val (.int .i64) 0,.val (.int .i64) 0,.val (.int .i64) 0,.val (.int .i64) 0,.val .str [],.val .str [],.val .bool false,.val .bool false,.val .bool false,.nils,.nils],some TSiiiiissbbbLSbiELSsbEE,false⟩),
 (83,⟨.struct [(0,9),(1,4)],2,24,[.val .str [],.val .bool false],some TSsbE,true⟩),
 (90,⟨.struct [(0,9),(1,4)],2,24,[.val .str [],.val .bool false],some TSsbE,true⟩),
 (100,⟨.func,1,8,[.val .opq Value.nilFunc],some .opq,false⟩),
 (133,⟨.ptr 135,1,8,[.nilp],none,false⟩),
 (135,⟨.struct [(0,78),(12,26),(15,4),(16,31),(17,30)],18,240,[.val (.int .i64) 0,.val (.int .i64) 0,.val (.int .i64) 0,.val (.int .i64) 0,.val (.int .i64) 0,.val .str [],.val .str [],.val .bool false,.val .bool false,.val .bool false,.nils,.nils,.val .bool false,.nils,.nils,.val .bool false,.nils,.nils],some Tef5273c4fb,false⟩),
 (168,⟨.slice 45,1,24,[.nils],some (.slice TSiiiE),false⟩),
 (170,⟨.slice 230,1,24,[.nils],some (.slice TSiA4wiiiiiE),false⟩),
 (173,⟨.struct [(0,4),(1,3)],2,16,[.val .bool false,.val (.int .i64) 0],some TSbiE,true⟩),
 (177,⟨.struct [(0,3),(1,4),(2,65)],3,40,[.val (.int .i64) 0,.val .bool false,.nils],some TSibLbE,false⟩),
 (217,⟨.struct [(0,9),(1,4)],2,24,[.val .str [],.val .bool false],some TSsbE,true⟩),
 (225,⟨.struct [(0,170),(1,4)],2,32,[.nils,.val .bool false],some TSLSiA4wiiiiiEbE,false⟩),
 (226,⟨.int .u64,1,8,[.val (.int .u64) 0],some (.int .u64),false⟩),
 (228,⟨.arr 4 226,4,32,[.val (.arr 4 (.int .u64)) ([0,0,0,0])],some (.arr 4 (.int .u64)),true⟩),
 (230,⟨.struct [(0,3),(1,228),(5,3),(6,3),(7,3),(8,3),(9,3)],10,80,[.val (.int .i64) 0,.val (.arr 4 (.int .u64)) ([0,0,0,0]),.val (.int .i64) 0,.val (.int .i64) 0,.val (.int .i64) 0,.val (.int .i64) 0,.val (.int .i64) 0],some TSiA4wiiiiiE,true⟩),
 (312,⟨.struct [(0,9),(1,3)],2,24,[.val .str [],.val (.int .i64) 0],some TSsiE,true⟩)]
theorem tab_ok:TabOK Tryz.prog tab:=tabOK_of (by kernel_rfl)
theorem mixed:Tryz.prog.follows .mixedOrders=true:=by kernel_rfl
abbrev table_Get_1I:Sh:=⟨2,[⟨0,true,[.v .str,.v .str]⟩,⟨1,false,[.ptr 0 0]⟩],[.box 9 [.v .str]]⟩
abbrev table_Get_1O:Sh:=⟨1,[⟨0,false,[.v .bool]⟩],[.box 9 [.v .str]]⟩
abbrev slices_IndexFunc_File__table_Get_1I:Sh:=⟨2,[⟨0,false,[.v (.slice TSssE)]⟩,⟨1,false,[.clo 32 [(0,0)]]⟩],[.box 9 [.v .str]]⟩
abbrev slices_IndexFunc_File__table_Get_1O:Sh:=⟨1,[⟨0,false,[.v (.int .i64)]⟩],[.box 9 [.v .str]]⟩
abbrev table_GetA:List Ty:=[.slice TSssE,.str]
abbrev table_GetR:List Ty:=[.str,.bool]
abbrev stage_LinesA:List Ty:=[T9f1898258b,.str,.slice TSssE]
abbrev stage_LinesR:List Ty:=[.slice TSsbE,.int .i64]
abbrev bank_NewA:List Ty:=[T3b3325d896]
abbrev bank_NewR:List Ty:=[TSiiiiissbbbLSbiELSsbEE]
abbrev bank_CloseA:List Ty:=[TSiiiiissbbbLSbiELSsbEE]
abbrev bank_CloseR:List Ty:=[TSiiiiissbbbLSbiELSsbEE]
abbrev bank_GiveA:List Ty:=[TSiiiiissbbbLSbiELSsbEE,TSsbE,.bool]
abbrev bank_GiveR:List Ty:=[TSiiiiissbbbLSbiELSsbEE]
abbrev bank_turn_putI:Sh:=⟨3,[⟨0,false,[.ptr 0 0]⟩,⟨1,false,[.v .str]⟩,⟨2,false,[.v .bool]⟩],[.box 135 [.v (.int .i64),.v (.int .i64),.v (.int .i64),.v (.int .i64),.v (.int .i64),.v .str,.v .str,.v .bool,.v .bool,.v .bool,.v (.slice TSbiE),.v (.slice TSsbE),.v .bool,.v (.slice TSLSiA4wiiiiiEbE),.v (.slice TSSSiiiESiiiEbEcssiiiLSsiEbbE),.v .bool,.v (.slice TSssE),.own 1],.row 90 TSsbE]⟩
abbrev bank_turn_putO:Sh:=⟨0,[],[.box 135 [.v (.int .i64),.v (.int .i64),.v (.int .i64),.v (.int .i64),.v (.int .i64),.v .str,.v .str,.v .bool,.v .bool,.v .bool,.v (.slice TSbiE),.v (.slice TSsbE),.v .bool,.v (.slice TSLSiA4wiiiiiEbE),.v (.slice TSSSiiiESiiiEbEcssiiiLSsiEbbE),.v .bool,.v (.slice TSssE),.own 1],.row 90 TSsbE]⟩
abbrev bank_turn_patternI:Sh:=⟨1,[⟨0,false,[.ptr 0 0]⟩],[.box 135 [.v (.int .i64),.v (.int .i64),.v (.int .i64),.v (.int .i64),.v (.int .i64),.v .str,.v .str,.v .bool,.v .bool,.v .bool,.v (.slice TSbiE),.v (.slice TSsbE),.v .bool,.v (.slice TSLSiA4wiiiiiEbE),.v (.slice TSSSiiiESiiiEbEcssiiiLSsiEbbE),.v .bool,.v (.slice TSssE),.own 1],.row 90 TSsbE]⟩
abbrev bank_turn_patternO:Sh:=⟨0,[],[.box 135 [.v (.int .i64),.v (.int .i64),.v (.int .i64),.v (.int .i64),.v (.int .i64),.v .str,.v .str,.v .bool,.v .bool,.v .bool,.v (.slice TSbiE),.v (.slice TSsbE),.v .bool,.v (.slice TSLSiA4wiiiiiEbE),.v (.slice TSSSiiiESiiiEbEcssiiiLSsiEbbE),.v .bool,.v (.slice TSssE),.own 1],.row 90 TSsbE]⟩
abbrev bank_turn_printI:Sh:=⟨1,[⟨0,false,[.ptr 0 0]⟩],[.box 135 [.v (.int .i64),.v (.int .i64),.v (.int .i64),.v (.int .i64),.v (.int .i64),.v .str,.v .str,.v .bool,.v .bool,.v .bool,.v (.slice TSbiE),.v (.slice TSsbE),.v .bool,.v (.slice TSLSiA4wiiiiiEbE),.v (.slice TSSSiiiESiiiEbEcssiiiLSsiEbbE),.v .bool,.v (.slice TSssE),.own 1],.row 90 TSsbE]⟩
abbrev bank_turn_printO:Sh:=⟨0,[],[.box 135 [.v (.int .i64),.v (.int .i64),.v (.int .i64),.v (.int .i64),.v (.int .i64),.v .str,.v .str,.v .bool,.v .bool,.v .bool,.v (.slice TSbiE),.v (.slice TSsbE),.v .bool,.v (.slice TSLSiA4wiiiiiEbE),.v (.slice TSSSiiiESiiiEbEcssiiiLSsiEbbE),.v .bool,.v (.slice TSssE),.own 1],.row 90 TSsbE]⟩
abbrev internal_stringslite_HasSuffixA:List Ty:=[.str,.str]
abbrev internal_stringslite_HasSuffixR:List Ty:=[.bool]
abbrev internal_stringslite_CutSuffixA:List Ty:=[.str,.str]
abbrev internal_stringslite_CutSuffixR:List Ty:=[.str,.bool]
abbrev strings_CutSuffixA:List Ty:=[.str,.str]
abbrev strings_CutSuffixR:List Ty:=[.str,.bool]
abbrev bank_turn_flushI:Sh:=⟨1,[⟨0,false,[.ptr 0 0]⟩],[.box 135 [.v (.int .i64),.v (.int .i64),.v (.int .i64),.v (.int .i64),.v (.int .i64),.v .str,.v .str,.v .bool,.v .bool,.v .bool,.v (.slice TSbiE),.v (.slice TSsbE),.v .bool,.v (.slice TSLSiA4wiiiiiEbE),.v (.slice TSSSiiiESiiiEbEcssiiiLSsiEbbE),.v .bool,.v (.slice TSssE),.own 1],.row 90 TSsbE]⟩
abbrev bank_turn_flushO:Sh:=⟨0,[],[.box 135 [.v (.int .i64),.v (.int .i64),.v (.int .i64),.v (.int .i64),.v (.int .i64),.v .str,.v .str,.v .bool,.v .bool,.v .bool,.v (.slice TSbiE),.v (.slice TSsbE),.v .bool,.v (.slice TSLSiA4wiiiiiEbE),.v (.slice TSSSiiiESiiiEbEcssiiiLSsiEbbE),.v .bool,.v (.slice TSssE),.own 1],.row 90 TSsbE]⟩
abbrev bank_turn_endI:Sh:=⟨1,[⟨0,false,[.ptr 0 0]⟩],[.box 135 [.v (.int .i64),.v (.int .i64),.v (.int .i64),.v (.int .i64),.v (.int .i64),.v .str,.v .str,.v .bool,.v .bool,.v .bool,.v (.slice TSbiE),.v (.slice TSsbE),.v .bool,.v (.slice TSLSiA4wiiiiiEbE),.v (.slice TSSSiiiESiiiEbEcssiiiLSsiEbbE),.v .bool,.v (.slice TSssE),.own 1],.row 90 TSsbE]⟩
abbrev bank_turn_endO:Sh:=⟨0,[],[.box 135 [.v (.int .i64),.v (.int .i64),.v (.int .i64),.v (.int .i64),.v (.int .i64),.v .str,.v .str,.v .bool,.v .bool,.v .bool,.v (.slice TSbiE),.v (.slice TSsbE),.v .bool,.v (.slice TSLSiA4wiiiiiEbE),.v (.slice TSSSiiiESiiiEbEcssiiiLSsiEbbE),.v .bool,.v (.slice TSssE),.own 1],.row 90 TSsbE]⟩
abbrev slices_Clone_addrStateI:Sh:=cloneI TSbiE
abbrev slices_Clone_addrStateO:Sh:=cloneO 173 TSbiE
abbrev bank_turn_askedI:Sh:=⟨2,[⟨0,false,[.ptr 0 0]⟩,⟨1,true,[.v (.int .i64),.v (.int .i64),.v (.int .i64),.v (.int .i64),.v (.int .i64),.v (.int .i64),.v .bool,.v (.int .u8),.v .str,.v .str,.v (.int .i64),.v (.int .i64),.v (.int .i64),.v (.slice TSsiE),.v .bool,.v .bool]⟩],[.box 135 [.v (.int .i64),.v (.int .i64),.v (.int .i64),.v (.int .i64),.v (.int .i64),.v .str,.v .str,.v .bool,.v .bool,.v .bool,.v (.slice TSbiE),.v (.slice TSsbE),.v .bool,.v (.slice TSLSiA4wiiiiiEbE),.v (.slice TSSSiiiESiiiEbEcssiiiLSsiEbbE),.v .bool,.v (.slice TSssE),.own 1],.row 90 TSsbE]⟩
abbrev bank_turn_askedO:Sh:=⟨1,[⟨0,false,[.v .bool]⟩],[.box 135 [.v (.int .i64),.v (.int .i64),.v (.int .i64),.v (.int .i64),.v (.int .i64),.v .str,.v .str,.v .bool,.v .bool,.v .bool,.own 2,.v (.slice TSsbE),.v .bool,.v (.slice TSLSiA4wiiiiiEbE),.v (.slice TSSSiiiESiiiEbEcssiiiLSsiEbbE),.v .bool,.v (.slice TSssE),.own 1],.row 90 TSsbE,.row 173 TSbiE]⟩
abbrev table_AddA:List Ty:=[.slice TSssE,.str,.str]
abbrev table_AddR:List Ty:=[.slice TSssE]
abbrev bank_turn_writesI:Sh:=⟨2,[⟨0,false,[.ptr 0 0]⟩,⟨1,true,[.v (.int .i64),.v (.int .i64),.v (.int .i64),.v (.int .i64),.v (.int .i64),.v (.int .i64),.v .bool,.v (.int .u8),.v .str,.v .str,.v (.int .i64),.v (.int .i64),.v (.int .i64),.v (.slice TSsiE),.v .bool,.v .bool]⟩],[.box 135 [.v (.int .i64),.v (.int .i64),.v (.int .i64),.v (.int .i64),.v (.int .i64),.v .str,.v .str,.v .bool,.v .bool,.v .bool,.own 1,.v (.slice TSsbE),.v .bool,.v (.slice TSLSiA4wiiiiiEbE),.v (.slice TSSSiiiESiiiEbEcssiiiLSsiEbbE),.v .bool,.v (.slice TSssE),.own 2],.row 173 TSbiE,.row 90 TSsbE]⟩
abbrev bank_turn_writesO:Sh:=⟨0,[],[.box 135 [.v (.int .i64),.v (.int .i64),.v (.int .i64),.v (.int .i64),.v (.int .i64),.v .str,.v .str,.v .bool,.v .bool,.v .bool,.own 1,.v (.slice TSsbE),.v .bool,.v (.slice TSLSiA4wiiiiiEbE),.v (.slice TSSSiiiESiiiEbEcssiiiLSsiEbbE),.v .bool,.v (.slice TSssE),.own 2],.row 173 TSbiE,.row 90 TSsbE]⟩
abbrev bank_StepA:List Ty:=[T3b3325d896,.bool,TSiiiiissbbbLSbiELSsbEE,.slice TSssE]
abbrev bank_StepR:List Ty:=[TSiiiiissbbbLSbiELSsbEE,.slice TSssE,.slice TSsbE]
abbrev stage_RunA:List Ty:=[T9f1898258b,.str,.slice TSssE,.int .i64]
abbrev stage_RunR:List Ty:=[TSLSsbELSssEiiE,.int .i64]
abbrev law16_StageWritesA:List Ty:=[.str,.str]
abbrev law16_StageWritesR:List Ty:=[.bool]
def table_Get_1An (n:Nat):An (table_Get_1O.X):=.nil
theorem table_Get_1_meets (n:Nat):Meets Tryz.prog 32 table_Get_1I table_Get_1O (table_Get_1 n) :=
 meets_of (Γ:=orcG _ [] []) (an:=table_Get_1An n) (co:=[.gc [0]]) Tryz.func32 rfl (by kernel_rfl) tab_ok (orcG_ok (all_nil) (alg_nil)) mixed (plain_ok _ _ rfl) (by kernel_rfl) (by kernel_rfl) (fun x=>by kernel_rfl)
def slices_IndexFunc_File__table_Get_1An (n:Nat):An (slices_IndexFunc_File__table_Get_1O.X):=(.mk .nil (.mk (.mk .nil (.mk (.loop ⟨19,[⟨0,false,[.v (.slice TSssE)]⟩,⟨1,false,[.clo 32 [(0,0)]]⟩,⟨7,false,[.v (.int .i64)]⟩,⟨8,false,[.v (.int .i64)]⟩],[.box 9 [.v .str]]⟩ [.keep [true,true,false,false,false,false,false,true,true],.gcA 1,.gcA 1] [.keep [true,true,false,false,false,false,false,true,true],.gcA 1,.gcA 1] n .nil) .nil []) []) .nil []) [])
theorem slices_IndexFunc_File__table_Get_1_meets (n:Nat):Meets Tryz.prog 31 slices_IndexFunc_File__table_Get_1I slices_IndexFunc_File__table_Get_1O (slices_IndexFunc_File__table_Get_1 n) :=
 meets_of (Γ:=orcG _ [(32,peM table_Get_1I table_Get_1O (table_Get_1 n))] []) (an:=slices_IndexFunc_File__table_Get_1An n) (co:=[.gc [0]]) Tryz.func31 rfl (by kernel_rfl) tab_ok (orcG_ok (all_cons (peM_ok (table_Get_1_meets n)) (all_nil)) (alg_nil)) mixed (plain_ok _ _ rfl) (by kernel_rfl) (by kernel_rfl) (fun x=>by kernel_rfl)
def table_GetAn (n:Nat):An (Dens table_GetR):=.nil
theorem table_Get_pure (n:Nat):Pure Tryz.prog 13 table_GetA table_GetR (table_Get n) :=
 pure_of (Γ:=orcG _ [(31,peM slices_IndexFunc_File__table_Get_1I slices_IndexFunc_File__table_Get_1O (slices_IndexFunc_File__table_Get_1 n))] []) (an:=table_GetAn n) Tryz.func13 rfl (by kernel_rfl) tab_ok (orcG_ok (all_cons (peM_ok (slices_IndexFunc_File__table_Get_1_meets n)) (all_nil)) (alg_nil)) mixed (plain_ok _ _ rfl) (fun x=>by kernel_rfl)
def stage_LinesAn (n:Nat):An (Dens stage_LinesR):=(.mk .nil (.mk .nil (.mk (.mk .nil (.mk (.loop ⟨57,[⟨2,false,[.v (.slice TSssE)]⟩,⟨6,false,[.own 0]⟩,⟨7,false,[.v (.int .i64)]⟩,⟨24,false,[.v (.slice .str)]⟩,⟨25,false,[.v (.int .i64)]⟩,⟨26,false,[.v (.int .i64)]⟩],[.row 83 TSsbE]⟩ [.keep [false,false,true,false,false,false,true,true,false,false,false,false,false,false,false,false,false,false,false,false,false,false,false,false,true,true,true],.gcA 0,.ownR 6 40,.gcA 0] [.keep [false,false,true,false,false,false,true,true,false,false,false,false,false,false,false,false,false,false,false,false,false,false,false,false,true,true,true],.gcA 0,.gcA 0] n .nil) .nil []) []) (.mk (.mk .nil (.mk (.loop ⟨57,[⟨6,false,[.own 0]⟩,⟨7,false,[.v (.int .i64)]⟩,⟨46,false,[.v (.int .i64)]⟩,⟨47,false,[.v (.int .i64)]⟩],[.row 83 TSsbE]⟩ [.keep [false,false,false,false,false,false,true,true,false,false,false,false,false,false,false,false,false,false,false,false,false,false,false,false,false,false,false,false,false,false,false,false,false,false,false,false,false,false,false,false,false,false,false,false,false,false,true,true],.gcA 0,.gcA 0] [.keep [false,false,false,false,false,false,true,true,false,false,false,false,false,false,false,false,false,false,false,false,false,false,false,false,false,false,false,false,false,false,false,false,false,false,false,false,false,false,false,false,false,false,false,false,false,false,true,true],.gcA 0,.gcA 0] n .nil) .nil []) []) .nil []) []) []) [])
theorem stage_Lines_pure (n:Nat):Pure Tryz.prog 23 stage_LinesA stage_LinesR (stage_Lines n) :=
 pure_of (Γ:=orcG _ [(12,peM table_SplitOI table_SplitOO (table_SplitO n)),(13,peOf table_GetA table_GetR (table_Get n))] []) (an:=stage_LinesAn n) Tryz.func23 rfl (by kernel_rfl) tab_ok (orcG_ok (all_cons (peM_ok (table_SplitO_meets n)) (all_cons (peOf_ok (table_Get_pure n)) (all_nil))) (alg_nil)) mixed (plain_ok _ _ rfl) (fun x=>by kernel_rfl)
def bank_NewAn (n:Nat):An (Dens bank_NewR):=.nil
theorem bank_New_pure (n:Nat):Pure Tryz.prog 24 bank_NewA bank_NewR (bank_New n) :=
 pure_of (Γ:=orcG _ [] []) (an:=bank_NewAn n) Tryz.func24 rfl (by kernel_rfl) tab_ok (orcG_ok (all_nil) (alg_nil)) mixed (plain_ok _ _ rfl) (fun x=>by kernel_rfl)
def bank_CloseAn (n:Nat):An (Dens bank_CloseR):=.nil
theorem bank_Close_pure (n:Nat):Pure Tryz.prog 25 bank_CloseA bank_CloseR (bank_Close n) :=
 pure_of (Γ:=orcG _ [] []) (an:=bank_CloseAn n) Tryz.func25 rfl (by kernel_rfl) tab_ok (orcG_ok (all_nil) (alg_nil)) mixed (plain_ok _ _ rfl) (fun x=>by kernel_rfl)
def bank_GiveAn (n:Nat):An (Dens bank_GiveR):=.nil
theorem bank_Give_pure (n:Nat):Pure Tryz.prog 26 bank_GiveA bank_GiveR (bank_Give n) :=
 pure_of (Γ:=orcG _ [] []) (an:=bank_GiveAn n) Tryz.func26 rfl (by kernel_rfl) tab_ok (orcG_ok (all_nil) (alg_nil)) mixed (plain_ok _ _ rfl) (fun x=>by kernel_rfl)
def bank_turn_putAn (n:Nat):An (bank_turn_putO.X):=.nil
theorem bank_turn_put_meets (n:Nat):Meets Tryz.prog 142 bank_turn_putI bank_turn_putO (bank_turn_put n) :=
 meets_of (Γ:=orcG _ [] []) (an:=bank_turn_putAn n) (co:=[.gc [0,1]]) Tryz.func142 rfl (by kernel_rfl) tab_ok (orcG_ok (all_nil) (alg_nil)) mixed (plain_ok _ _ rfl) (by kernel_rfl) (by kernel_rfl) (fun x=>by kernel_rfl)
def bank_turn_patternAn (n:Nat):An (bank_turn_patternO.X):=.nil
theorem bank_turn_pattern_meets (n:Nat):Meets Tryz.prog 80 bank_turn_patternI bank_turn_patternO (bank_turn_pattern n) :=
 meets_of (Γ:=orcG _ [(142,peM bank_turn_putI bank_turn_putO (bank_turn_put n))] []) (an:=bank_turn_patternAn n) (co:=[.gc [0,1]]) Tryz.func80 rfl (by kernel_rfl) tab_ok (orcG_ok (all_cons (peM_ok (bank_turn_put_meets n)) (all_nil)) (alg_nil)) mixed (plain_ok _ _ rfl) (by kernel_rfl) (by kernel_rfl) (fun x=>by kernel_rfl)
def bank_turn_printAn (n:Nat):An (bank_turn_printO.X):=.nil
theorem bank_turn_print_meets (n:Nat):Meets Tryz.prog 51 bank_turn_printI bank_turn_printO (bank_turn_print n) :=
 meets_of (Γ:=orcG _ [(80,peM bank_turn_patternI bank_turn_patternO (bank_turn_pattern n))] []) (an:=bank_turn_printAn n) (co:=[.gc [0,1]]) Tryz.func51 rfl (by kernel_rfl) tab_ok (orcG_ok (all_cons (peM_ok (bank_turn_pattern_meets n)) (all_nil)) (alg_nil)) mixed (plain_ok _ _ rfl) (by kernel_rfl) (by kernel_rfl) (fun x=>by kernel_rfl)
def internal_stringslite_HasSuffixAn (n:Nat):An (Dens internal_stringslite_HasSuffixR):=.nil
theorem internal_stringslite_HasSuffix_pure (n:Nat):Pure Tryz.prog 265 internal_stringslite_HasSuffixA internal_stringslite_HasSuffixR (internal_stringslite_HasSuffix n) :=
 pure_of (Γ:=orcG _ [] []) (an:=internal_stringslite_HasSuffixAn n) Tryz.func265 rfl (by kernel_rfl) tab_ok (orcG_ok (all_nil) (alg_nil)) mixed (plain_ok _ _ rfl) (fun x=>by kernel_rfl)
def internal_stringslite_CutSuffixAn (n:Nat):An (Dens internal_stringslite_CutSuffixR):=.nil
theorem internal_stringslite_CutSuffix_pure (n:Nat):Pure Tryz.prog 213 internal_stringslite_CutSuffixA internal_stringslite_CutSuffixR (internal_stringslite_CutSuffix n) :=
 pure_of (Γ:=orcG _ [(265,peOf internal_stringslite_HasSuffixA internal_stringslite_HasSuffixR (internal_stringslite_HasSuffix n))] []) (an:=internal_stringslite_CutSuffixAn n) Tryz.func213 rfl (by kernel_rfl) tab_ok (orcG_ok (all_cons (peOf_ok (internal_stringslite_HasSuffix_pure n)) (all_nil)) (alg_nil)) mixed (plain_ok _ _ rfl) (fun x=>by kernel_rfl)
def strings_CutSuffixAn (n:Nat):An (Dens strings_CutSuffixR):=.nil
theorem strings_CutSuffix_pure (n:Nat):Pure Tryz.prog 143 strings_CutSuffixA strings_CutSuffixR (strings_CutSuffix n) :=
 pure_of (Γ:=orcG _ [(213,peOf internal_stringslite_CutSuffixA internal_stringslite_CutSuffixR (internal_stringslite_CutSuffix n))] []) (an:=strings_CutSuffixAn n) Tryz.func143 rfl (by kernel_rfl) tab_ok (orcG_ok (all_cons (peOf_ok (internal_stringslite_CutSuffix_pure n)) (all_nil)) (alg_nil)) mixed (plain_ok _ _ rfl) (fun x=>by kernel_rfl)
def bank_turn_flushAn (n:Nat):An (bank_turn_flushO.X):=(.mk (.mk .nil (.mk (.loop ⟨51,[⟨0,false,[.ptr 0 0]⟩,⟨12,false,[.v (.slice TSsbE)]⟩,⟨13,false,[.v (.int .i64)]⟩,⟨14,false,[.v (.int .i64)]⟩],[.box 135 [.v (.int .i64),.v (.int .i64),.v (.int .i64),.v (.int .i64),.v (.int .i64),.v .str,.v .str,.v .bool,.v .bool,.v .bool,.v (.slice TSbiE),.v (.slice TSsbE),.v .bool,.v (.slice TSLSiA4wiiiiiEbE),.v (.slice TSSSiiiESiiiEbEcssiiiLSsiEbbE),.v .bool,.v (.slice TSssE),.own 1],.row 90 TSsbE]⟩ [.keep [true,false,false,false,false,false,false,false,false,false,false,false,true,true,true],.gcA 2,.gcA 2] [.keep [true,false,false,false,false,false,false,false,false,false,false,false,true,true,true],.gcA 2,.gcA 2] n .nil) .nil []) []) .nil [])
theorem bank_turn_flush_meets (n:Nat):Meets Tryz.prog 81 bank_turn_flushI bank_turn_flushO (bank_turn_flush n) :=
 meets_of (Γ:=orcG _ [(142,peM bank_turn_putI bank_turn_putO (bank_turn_put n)),(13,peOf table_GetA table_GetR (table_Get n)),(143,peOf strings_CutSuffixA strings_CutSuffixR (strings_CutSuffix n))] []) (an:=bank_turn_flushAn n) (co:=[.gc [0,1]]) Tryz.func81 rfl (by kernel_rfl) tab_ok (orcG_ok (all_cons (peM_ok (bank_turn_put_meets n)) (all_cons (peOf_ok (table_Get_pure n)) (all_cons (peOf_ok (strings_CutSuffix_pure n)) (all_nil)))) (alg_nil)) mixed (plain_ok _ _ rfl) (by kernel_rfl) (by kernel_rfl) (fun x=>by kernel_rfl)
def bank_turn_endAn (n:Nat):An (bank_turn_endO.X):=.nil
theorem bank_turn_end_meets (n:Nat):Meets Tryz.prog 52 bank_turn_endI bank_turn_endO (bank_turn_end n) :=
 meets_of (Γ:=orcG _ [(81,peM bank_turn_flushI bank_turn_flushO (bank_turn_flush n))] []) (an:=bank_turn_endAn n) (co:=[.gc [0,1]]) Tryz.func52 rfl (by kernel_rfl) tab_ok (orcG_ok (all_cons (peM_ok (bank_turn_flush_meets n)) (all_nil)) (alg_nil)) mixed (plain_ok _ _ rfl) (by kernel_rfl) (by kernel_rfl) (fun x=>by kernel_rfl)
theorem slices_Clone_addrState_meets (n:Nat):Meets Tryz.prog 85 slices_Clone_addrStateI slices_Clone_addrStateO (slices_Clone_addrState n) :=
 clone_meets (T:=tab) Tryz.func85 rfl rfl rfl Tryz.underlying75 (by kernel_rfl) tab_ok rfl rfl rfl rfl (by decide) (by decide) (fun _=>rfl)
def bank_turn_askedAn (n:Nat):An (bank_turn_askedO.X):=(.mk .nil (.mk .nil (.mk (.mk .nil (.mk (.loop ⟨100,[⟨0,false,[.ptr 0 0]⟩,⟨3,false,[.ptr 2 0]⟩,⟨5,false,[.own 3]⟩,⟨23,false,[.own 4]⟩,⟨24,false,[.v (.int .i64)]⟩,⟨25,false,[.v (.int .i64)]⟩],[.box 135 [.v (.int .i64),.v (.int .i64),.v (.int .i64),.v (.int .i64),.v (.int .i64),.v .str,.v .str,.v .bool,.v .bool,.v .bool,.v (.slice TSbiE),.v (.slice TSsbE),.v .bool,.v (.slice TSLSiA4wiiiiiEbE),.v (.slice TSSSiiiESiiiEbEcssiiiLSsiEbbE),.v .bool,.v (.slice TSssE),.own 1],.row 90 TSsbE,.box 50 [.v (.int .i64),.v (.int .i64),.v (.int .i64),.v (.int .i64),.v (.int .i64),.v (.int .i64),.v .bool,.v (.int .u8),.v .str,.v .str,.v (.int .i64),.v (.int .i64),.v (.int .i64),.v (.slice TSsiE),.v .bool,.v .bool],.row 4 .bool,.row 45 TSiiiE]⟩ [.keep [true,false,false,true,false,true,false,false,false,false,false,false,false,false,false,false,false,false,false,false,false,false,false,true,true,true],.gcA 2,.gcA 2] [.keep [true,false,false,true,false,true,false,false,false,false,false,false,false,false,false,false,false,false,false,false,false,false,false,true,true,true],.gcA 2,.gcA 2] n .nil) .nil []) []) (.mk (.co [.frzR 5] .nil) .nil []) []) []) [])
theorem bank_turn_asked_meets (n:Nat):Meets Tryz.prog 53 bank_turn_askedI bank_turn_askedO (bank_turn_asked n) :=
 meets_of (Γ:=orcG _ [(84,peOf addr_AskA addr_AskR (addr_Ask n)),(85,peM slices_Clone_addrStateI slices_Clone_addrStateO (slices_Clone_addrState n))] []) (an:=bank_turn_askedAn n) (co:=[.gc [0,1,6]]) Tryz.func53 rfl (by kernel_rfl) tab_ok (orcG_ok (all_cons (peOf_ok (addr_Ask_pure n)) (all_cons (peM_ok (slices_Clone_addrState_meets n)) (all_nil))) (alg_nil)) mixed (plain_ok _ _ rfl) (by kernel_rfl) (by kernel_rfl) (fun x=>by kernel_rfl)
def table_AddAn (n:Nat):An (Dens table_AddR):=.nil
theorem table_Add_pure (n:Nat):Pure Tryz.prog 151 table_AddA table_AddR (table_Add n) :=
 pure_of (Γ:=orcG _ [(13,peOf table_GetA table_GetR (table_Get n)),(50,peOf table_PutA table_PutR (table_Put n))] []) (an:=table_AddAn n) Tryz.func151 rfl (by kernel_rfl) tab_ok (orcG_ok (all_cons (peOf_ok (table_Get_pure n)) (all_cons (peOf_ok (table_Put_pure n)) (all_nil))) (alg_nil)) mixed (plain_ok _ _ rfl) (fun x=>by kernel_rfl)
def bank_turn_writesAn (n:Nat):An (bank_turn_writesO.X):=.nil
theorem bank_turn_writes_meets (n:Nat):Meets Tryz.prog 101 bank_turn_writesI bank_turn_writesO (bank_turn_writes n) :=
 meets_of (Γ:=orcG _ [(151,peOf table_AddA table_AddR (table_Add n))] []) (an:=bank_turn_writesAn n) (co:=[.gc [0,1,2]]) Tryz.func101 rfl (by kernel_rfl) tab_ok (orcG_ok (all_cons (peOf_ok (table_Add_pure n)) (all_nil)) (alg_nil)) mixed (plain_ok _ _ rfl) (by kernel_rfl) (by kernel_rfl) (fun x=>by kernel_rfl)
def bank_StepAn (n:Nat):An (Dens bank_StepR):=(.mk .nil (.mk .nil (.mk (.mk (.mk .nil (.mk .nil (.mk .nil (.mk (.mk (.co [.ownB 3 17 30] .nil) .nil []) (.mk .nil (.mk (.co [.ownB 3 17 30] .nil) .nil []) []) []) []) []) []) .nil []) .nil []) []) [])
theorem bank_Step_pure (n:Nat):Pure Tryz.prog 27 bank_StepA bank_StepR (bank_Step n) :=
 pure_of (Γ:=orcG _ [(51,peM bank_turn_printI bank_turn_printO (bank_turn_print n)),(52,peM bank_turn_endI bank_turn_endO (bank_turn_end n)),(53,peM bank_turn_askedI bank_turn_askedO (bank_turn_asked n)),(54,peH 119 101),(101,peM bank_turn_writesI bank_turn_writesO (bank_turn_writes n))] []) (an:=bank_StepAn n) Tryz.func27 rfl (by kernel_rfl) tab_ok (orcG_ok (all_cons (peM_ok (bank_turn_print_meets n)) (all_cons (peM_ok (bank_turn_end_meets n)) (all_cons (peM_ok (bank_turn_asked_meets n)) (all_cons (peH_ok (does_hands.ok _ (by simp [doesTab]))) (all_cons (peM_ok (bank_turn_writes_meets n)) (all_nil)))))) (alg_nil)) mixed (plain_ok _ _ rfl) (fun x=>by kernel_rfl)
def stage_RunAn (n:Nat):An (Dens stage_RunR):=(.mk .nil (.scope 1 .nil (.loop ⟨88,[⟨2,false,[.v (.slice TSssE)]⟩,⟨3,false,[.v (.int .i64)]⟩,⟨4,false,[.ptr 0 0]⟩,⟨8,false,[.ptr 1 0]⟩,⟨10,false,[.v (.slice TSsbE)]⟩,⟨11,false,[.v (.int .i64)]⟩,⟨12,false,[.ptr 2 0]⟩],[.box 29 [.v .bool,.v (.slice TSLSiA4wiiiiiEbE),.v (.slice TSSSiiiESiiiEbEcssiiiLSsiEbbE),.v .bool,.v (.slice .str),.v .bool],.box 33 [.own 3,.v (.slice TSssE),.v (.int .i64),.v (.int .i64)],.box 78 [.v (.int .i64),.v (.int .i64),.v (.int .i64),.v (.int .i64),.v (.int .i64),.v .str,.v .str,.v .bool,.v .bool,.v .bool,.v (.slice TSbiE),.v (.slice TSsbE)],.row 90 TSsbE]⟩ [.keep [false,false,true,true,true,false,false,false,true,false,true,true,true],.gcA 0,.ownB 1 0 30,.gcA 0] [.keep [false,false,true,true,true,false,false,false,true,false,true,true,true],.gcA 0,.gcA 0] n (.scope 0 .nil .nil))) [])
theorem stage_Run_pure (n:Nat):Pure Tryz.prog 10 stage_RunA stage_RunR (stage_Run n) :=
 pure_of (Γ:=orcG _ [(22,peOf stage_BeginA stage_BeginR (stage_Begin n)),(23,peOf stage_LinesA stage_LinesR (stage_Lines n)),(24,peOf bank_NewA bank_NewR (bank_New n)),(25,peOf bank_CloseA bank_CloseR (bank_Close n)),(26,peOf bank_GiveA bank_GiveR (bank_Give n)),(27,peOf bank_StepA bank_StepR (bank_Step n))] []) (an:=stage_RunAn n) Tryz.func10 rfl (by kernel_rfl) tab_ok (orcG_ok (all_cons (peOf_ok (stage_Begin_pure n)) (all_cons (peOf_ok (stage_Lines_pure n)) (all_cons (peOf_ok (bank_New_pure n)) (all_cons (peOf_ok (bank_Close_pure n)) (all_cons (peOf_ok (bank_Give_pure n)) (all_cons (peOf_ok (bank_Step_pure n)) (all_nil))))))) (alg_nil)) mixed (plain_ok _ _ rfl) (fun x=>by kernel_rfl)
def law16_StageWritesAn (n:Nat):An (Dens law16_StageWritesR):=(.mk .nil (.mk .nil (.mk .nil (.mk (.co [.frzB 1 2] .nil) .nil []) []) []) [])
theorem law16_StageWrites_pure (n:Nat):Pure Tryz.prog 5 law16_StageWritesA law16_StageWritesR (law16_StageWrites n) :=
 pure_of (Γ:=orcG _ [(9,peOf shown16A shown16R (shown16 n)),(10,peOf stage_RunA stage_RunR (stage_Run n)),(13,peOf table_GetA table_GetR (table_Get n))] []) (an:=law16_StageWritesAn n) Tryz.func5 rfl (by kernel_rfl) tab_ok (orcG_ok (all_cons (peOf_ok (shown16_pure n)) (all_cons (peOf_ok (stage_Run_pure n)) (all_cons (peOf_ok (table_Get_pure n)) (all_nil)))) (alg_nil)) mixed (plain_ok _ _ rfl) (fun x=>by kernel_rfl)
end Go.Dec
