/-
  Part of the proof: the texts F, A3, A4, A5, A6, OJ, A7, A8, A9, AA, AB, AC, AD, AI, AJ, AK, AL, AM, KE, AN, KS, AO, AP, AQ, AR, AS, AT, shortened. Conditions are with the theorems.
-/
import Derived.Test.YtedmdgbmdplifaaGreatProg
import Derived.ChangeMaps5
import Derived.Laws.RangeString
import Derived.Lib.OthersKept
import Derived.Test.YtedmdgbmdplifaaGreatXAa
set_option maxHeartbeats 32000000
set_option maxRecDepth 100000
namespace Go.Proofs.YtedmdgbmdplifaaGreat
set_option linter.unusedVariables false
theorem t1:TI Tryz.prog 1 (Go.TypeDesc.func #[] #[] Bool.false) (.nilFunc) 1 8:=⟨Tryz.underlying1,by kernel_rfl⟩
theorem t2:TI Tryz.prog 2 (Go.TypeDesc.int Go.IntKind.i64) (.int .i64 0) 1 8:=⟨Tryz.underlying2,by kernel_rfl⟩
theorem t3:TI Tryz.prog 3 (Go.TypeDesc.int Go.IntKind.i64) (.int .i64 0) 1 8:=⟨Tryz.underlying3,by kernel_rfl⟩
theorem t4:TI Tryz.prog 4 Go.TypeDesc.bool (.bool false) 1 1:=⟨Tryz.underlying4,by kernel_rfl⟩
theorem t5:TI Tryz.prog 5 (Go.TypeDesc.int Go.IntKind.u8) (.int .u8 0) 1 1:=⟨Tryz.underlying5,by kernel_rfl⟩
theorem t9:TI Tryz.prog 9 Go.TypeDesc.string (.string ⟨#[]⟩) 1 16:=⟨Tryz.underlying9,by kernel_rfl⟩
theorem FH:TI Tryz.prog 22 (Go.TypeDesc.slice 3) (.slice none 0 0) 1 24:=⟨Tryz.underlying22,by kernel_rfl⟩
theorem mj:TI Tryz.prog 25 (Go.TypeDesc.slice 66) (.slice none 0 0) 1 24:=⟨Tryz.underlying25,by kernel_rfl⟩
theorem iZ:TI Tryz.prog 27 (Go.TypeDesc.struct #[(Go.Field.mk "Funcs" 25 0 Bool.false "" "" 0)]) (.agg #[.slice none 0 0]) 1 24:=⟨Tryz.underlying27,by kernel_rfl⟩
theorem cV:FO Tryz.prog 27 0 0:=⟨_,_,0,Tryz.underlying27,rfl,rfl,by kernel_rfl⟩
theorem P2:PL Tryz.prog 27 [(0,1)]:=⟨_,Tryz.underlying27,by kernel_rfl⟩
theorem re:TI Tryz.prog 31 (Go.TypeDesc.struct #[(Go.Field.mk "Kind" 3 0 Bool.false "" "" 0),(Go.Field.mk "Code" 9 1 Bool.false "" "" 8)]) (.agg #[.int .i64 0,.string ⟨#[]⟩]) 2 24:=⟨Tryz.underlying31,by kernel_rfl⟩
theorem Ee:FO Tryz.prog 31 0 0:=⟨_,_,0,Tryz.underlying31,rfl,rfl,by kernel_rfl⟩
theorem iy:FO Tryz.prog 31 1 1:=⟨_,_,0,Tryz.underlying31,rfl,rfl,by kernel_rfl⟩
theorem JR:PL Tryz.prog 31 [(0,1),(1,1)]:=⟨_,Tryz.underlying31,by kernel_rfl⟩
theorem ni:TI Tryz.prog 32 (Go.TypeDesc.int Go.IntKind.i64) (.int .i64 0) 1 8:=⟨Tryz.underlying32,by kernel_rfl⟩
theorem cr:TI Tryz.prog 41 (Go.TypeDesc.int Go.IntKind.u32) (.int .u32 0) 1 4:=⟨Tryz.underlying41,by kernel_rfl⟩
theorem gm:TI Tryz.prog 46 (Go.TypeDesc.slice 9) (.slice none 0 0) 1 24:=⟨Tryz.underlying46,by kernel_rfl⟩
theorem oz:TI Tryz.prog 48 (Go.TypeDesc.slice 41) (.slice none 0 0) 1 24:=⟨Tryz.underlying48,by kernel_rfl⟩
theorem wP:TI Tryz.prog 53 (Go.TypeDesc.struct #[(Go.Field.mk "Kind" 3 0 Bool.false "" "" 0),(Go.Field.mk "Info" 41 1 Bool.false "" "" 8)]) (.agg #[.int .i64 0,.int .u32 0]) 2 16:=⟨Tryz.underlying53,by kernel_rfl⟩
theorem lR:FO Tryz.prog 53 0 0:=⟨_,_,0,Tryz.underlying53,rfl,rfl,by kernel_rfl⟩
theorem yj:FO Tryz.prog 53 1 1:=⟨_,_,0,Tryz.underlying53,rfl,rfl,by kernel_rfl⟩
theorem JQ:PL Tryz.prog 53 [(0,1),(1,1)]:=⟨_,Tryz.underlying53,by kernel_rfl⟩
theorem uP:TI Tryz.prog 55 (Go.TypeDesc.struct #[(Go.Field.mk "Outputs" 48 0 Bool.false "" "" 0),(Go.Field.mk "Mem" 48 1 Bool.false "" "" 24),(Go.Field.mk "End" 53 2 Bool.false "" "" 48)]) (.agg #[.slice none 0 0,.slice none 0 0,.int .i64 0,.int .u32 0]) 4 64:=⟨Tryz.underlying55,by kernel_rfl⟩
theorem nR:FO Tryz.prog 55 0 0:=⟨_,_,0,Tryz.underlying55,rfl,rfl,by kernel_rfl⟩
theorem nQ:FO Tryz.prog 55 1 1:=⟨_,_,0,Tryz.underlying55,rfl,rfl,by kernel_rfl⟩
theorem nP:FO Tryz.prog 55 2 2:=⟨_,_,1,Tryz.underlying55,rfl,rfl,by kernel_rfl⟩
theorem P1:PL Tryz.prog 55 [(0,1),(1,1),(2,2)]:=⟨_,Tryz.underlying55,by kernel_rfl⟩
theorem ic:TI Tryz.prog 59 (Go.TypeDesc.slice 61) (.slice none 0 0) 1 24:=⟨Tryz.underlying59,by kernel_rfl⟩
theorem cg:TI Tryz.prog 61 (Go.TypeDesc.struct #[(Go.Field.mk "Kind" 3 0 Bool.false "" "" 0),(Go.Field.mk "N" 41 1 Bool.false "" "" 8),(Go.Field.mk "Name" 9 2 Bool.false "" "" 16),(Go.Field.mk "Kids" 59 3 Bool.false "" "" 32)]) (.agg #[.int .i64 0,.int .u32 0,.string ⟨#[]⟩,.slice none 0 0]) 4 56:=⟨Tryz.underlying61,by kernel_rfl⟩
theorem ix:FO Tryz.prog 61 0 0:=⟨_,_,0,Tryz.underlying61,rfl,rfl,by kernel_rfl⟩
theorem ua:FO Tryz.prog 61 1 1:=⟨_,_,0,Tryz.underlying61,rfl,rfl,by kernel_rfl⟩
theorem cN:FO Tryz.prog 61 2 2:=⟨_,_,0,Tryz.underlying61,rfl,rfl,by kernel_rfl⟩
theorem cU:FO Tryz.prog 61 3 3:=⟨_,_,0,Tryz.underlying61,rfl,rfl,by kernel_rfl⟩
theorem p_:PL Tryz.prog 61 [(0,1),(1,1),(2,1),(3,1)]:=⟨_,Tryz.underlying61,by kernel_rfl⟩
theorem gZ:TI Tryz.prog 62 (Go.TypeDesc.slice 64) (.slice none 0 0) 1 24:=⟨Tryz.underlying62,by kernel_rfl⟩
theorem dA:TI Tryz.prog 64 (Go.TypeDesc.struct #[(Go.Field.mk "Kind" 3 0 Bool.false "" "" 0),(Go.Field.mk "Name" 9 1 Bool.false "" "" 8),(Go.Field.mk "Exprs" 59 2 Bool.false "" "" 24),(Go.Field.mk "Body" 62 3 Bool.false "" "" 48),(Go.Field.mk "Else" 62 4 Bool.false "" "" 72)]) (.agg #[.int .i64 0,.string ⟨#[]⟩,.slice none 0 0,.slice none 0 0,.slice none 0 0]) 5 96:=⟨Tryz.underlying64,by kernel_rfl⟩
theorem dJ:FO Tryz.prog 64 0 0:=⟨_,_,0,Tryz.underlying64,rfl,rfl,by kernel_rfl⟩
theorem gg:FO Tryz.prog 64 1 1:=⟨_,_,0,Tryz.underlying64,rfl,rfl,by kernel_rfl⟩
theorem eO:FO Tryz.prog 64 2 2:=⟨_,_,0,Tryz.underlying64,rfl,rfl,by kernel_rfl⟩
theorem e9:FO Tryz.prog 64 3 3:=⟨_,_,0,Tryz.underlying64,rfl,rfl,by kernel_rfl⟩
theorem eg:FO Tryz.prog 64 4 4:=⟨_,_,0,Tryz.underlying64,rfl,rfl,by kernel_rfl⟩
theorem oA:PL Tryz.prog 64 [(0,1),(1,1),(2,1),(3,1),(4,1)]:=⟨_,Tryz.underlying64,by kernel_rfl⟩
theorem fX:TI Tryz.prog 66 (Go.TypeDesc.struct #[(Go.Field.mk "Name" 9 0 Bool.false "" "" 0),(Go.Field.mk "Params" 46 1 Bool.false "" "" 16),(Go.Field.mk "Body" 62 2 Bool.false "" "" 40)]) (.agg #[.string ⟨#[]⟩,.slice none 0 0,.slice none 0 0]) 3 64:=⟨Tryz.underlying66,by kernel_rfl⟩
theorem jD:FO Tryz.prog 66 0 0:=⟨_,_,0,Tryz.underlying66,rfl,rfl,by kernel_rfl⟩
theorem dr:FO Tryz.prog 66 1 1:=⟨_,_,0,Tryz.underlying66,rfl,rfl,by kernel_rfl⟩
theorem iw:FO Tryz.prog 66 2 2:=⟨_,_,0,Tryz.underlying66,rfl,rfl,by kernel_rfl⟩
theorem MB:PL Tryz.prog 66 [(0,1),(1,1),(2,1)]:=⟨_,Tryz.underlying66,by kernel_rfl⟩
theorem wO:TI Tryz.prog 78 (Go.TypeDesc.struct #[(Go.Field.mk "PC" 41 0 Bool.false "" "" 0),(Go.Field.mk "R" 75 1 Bool.false "" "" 4),(Go.Field.mk "F" 41 17 Bool.false "" "" 68),(Go.Field.mk "C" 76 18 Bool.false "" "" 72),(Go.Field.mk "Steps" 3 22 Bool.false "" "" 88),(Go.Field.mk "Due" 3 23 Bool.false "" "" 96)]) (.agg #[.int .u32 0,.int .u32 0,.int .u32 0,.int .u32 0,.int .u32 0,.int .u32 0,.int .u32 0,.int .u32 0,.int .u32 0,.int .u32 0,.int .u32 0,.int .u32 0,.int .u32 0,.int .u32 0,.int .u32 0,.int .u32 0,.int .u32 0,.int .u32 0,.int .u32 0,.int .u32 0,.int .u32 0,.int .u32 0,.int .i64 0,.int .i64 0]) 24 104:=⟨Tryz.underlying78,by kernel_rfl⟩
theorem gL:FO Tryz.prog 78 0 0:=⟨_,_,0,Tryz.underlying78,rfl,rfl,by kernel_rfl⟩
theorem fM:FO Tryz.prog 78 1 1:=⟨_,_,15,Tryz.underlying78,rfl,rfl,by kernel_rfl⟩
theorem KN:FO Tryz.prog 78 2 17:=⟨_,_,0,Tryz.underlying78,rfl,rfl,by kernel_rfl⟩
theorem gJ:FO Tryz.prog 78 4 22:=⟨_,_,0,Tryz.underlying78,rfl,rfl,by kernel_rfl⟩
theorem t_:FO Tryz.prog 78 5 23:=⟨_,_,0,Tryz.underlying78,rfl,rfl,by kernel_rfl⟩
theorem P0:PL Tryz.prog 78 [(0,1),(1,16),(17,1),(18,4),(22,1),(23,1)]:=⟨_,Tryz.underlying78,by kernel_rfl⟩
theorem xf:TI Tryz.prog 84 (Go.TypeDesc.slice 5) (.slice none 0 0) 1 24:=⟨Tryz.underlying84,by kernel_rfl⟩
theorem uO:TI Tryz.prog 91 (Go.TypeDesc.pointer 157) (.pointer none) 1 8:=⟨Tryz.underlying91,by kernel_rfl⟩
theorem Sc:TI Tryz.prog 93 (Go.TypeDesc.struct #[(Go.Field.mk "S" 78 0 Bool.false "" "" 0),(Go.Field.mk "M" 91 24 Bool.false "" "" 104)]) (.agg #[.int .u32 0,.int .u32 0,.int .u32 0,.int .u32 0,.int .u32 0,.int .u32 0,.int .u32 0,.int .u32 0,.int .u32 0,.int .u32 0,.int .u32 0,.int .u32 0,.int .u32 0,.int .u32 0,.int .u32 0,.int .u32 0,.int .u32 0,.int .u32 0,.int .u32 0,.int .u32 0,.int .u32 0,.int .u32 0,.int .i64 0,.int .i64 0,.pointer none]) 25 112:=⟨Tryz.underlying93,by kernel_rfl⟩
theorem dy:FO Tryz.prog 93 0 0:=⟨_,_,23,Tryz.underlying93,rfl,rfl,by kernel_rfl⟩
theorem e8:FO Tryz.prog 93 1 24:=⟨_,_,0,Tryz.underlying93,rfl,rfl,by kernel_rfl⟩
theorem PZ:PL Tryz.prog 93 [(0,24),(24,1)]:=⟨_,Tryz.underlying93,by kernel_rfl⟩
theorem ke:TI Tryz.prog 104 (Go.TypeDesc.pointer 111) (.pointer none) 1 8:=⟨Tryz.underlying104,by kernel_rfl⟩
theorem Ct:TI Tryz.prog 105 (Go.TypeDesc.map 9 3) (.map none) 1 8:=⟨Tryz.underlying105,by kernel_rfl⟩
theorem A2:TI Tryz.prog 106 (Go.TypeDesc.slice 118) (.slice none 0 0) 1 24:=⟨Tryz.underlying106,by kernel_rfl⟩
theorem FJ:TI Tryz.prog 107 (Go.TypeDesc.slice 171) (.slice none 0 0) 1 24:=⟨Tryz.underlying107,by kernel_rfl⟩
theorem A1:TI Tryz.prog 108 (Go.TypeDesc.map 9 41) (.map none) 1 8:=⟨Tryz.underlying108,by kernel_rfl⟩
theorem Mh:TI Tryz.prog 109 (Go.TypeDesc.map 9 1) (.map none) 1 8:=⟨Tryz.underlying109,by kernel_rfl⟩
theorem PI:TI Tryz.prog 111 (Go.TypeDesc.struct #[(Go.Field.mk "p" 27 0 Bool.false "" "babel/qgen" 0),(Go.Field.mk "code" 106 1 Bool.false "" "babel/qgen" 24),(Go.Field.mk "fixes" 107 2 Bool.false "" "babel/qgen" 48),(Go.Field.mk "labels" 22 3 Bool.false "" "babel/qgen" 72),(Go.Field.mk "starts" 105 4 Bool.false "" "babel/qgen" 96),(Go.Field.mk "offs" 108 5 Bool.false "" "babel/qgen" 104),(Go.Field.mk "ops" 109 6 Bool.false "" "babel/qgen" 112),(Go.Field.mk "end" 3 7 Bool.false "" "babel/qgen" 120)]) (.agg #[.slice none 0 0,.slice none 0 0,.slice none 0 0,.slice none 0 0,.map none,.map none,.map none,.int .i64 0]) 8 128:=⟨Tryz.underlying111,by kernel_rfl⟩
theorem kX:FO Tryz.prog 111 1 1:=⟨_,_,0,Tryz.underlying111,rfl,rfl,by kernel_rfl⟩
theorem ph:FO Tryz.prog 111 2 2:=⟨_,_,0,Tryz.underlying111,rfl,rfl,by kernel_rfl⟩
theorem m8:FO Tryz.prog 111 3 3:=⟨_,_,0,Tryz.underlying111,rfl,rfl,by kernel_rfl⟩
theorem m7:FO Tryz.prog 111 4 4:=⟨_,_,0,Tryz.underlying111,rfl,rfl,by kernel_rfl⟩
theorem kW:FO Tryz.prog 111 5 5:=⟨_,_,0,Tryz.underlying111,rfl,rfl,by kernel_rfl⟩
theorem Aq:FO Tryz.prog 111 6 6:=⟨_,_,0,Tryz.underlying111,rfl,rfl,by kernel_rfl⟩
theorem ug:FO Tryz.prog 111 7 7:=⟨_,_,0,Tryz.underlying111,rfl,rfl,by kernel_rfl⟩
theorem MJ:PL Tryz.prog 111 [(0,1),(1,1),(2,1),(3,1),(4,1),(5,1),(6,1),(7,1)]:=⟨_,Tryz.underlying111,by kernel_rfl⟩
theorem ed:TI Tryz.prog 118 (Go.TypeDesc.struct #[(Go.Field.mk "Op" 3 0 Bool.false "" "" 0),(Go.Field.mk "D" 3 1 Bool.false "" "" 8),(Go.Field.mk "A" 3 2 Bool.false "" "" 16),(Go.Field.mk "B" 3 3 Bool.false "" "" 24),(Go.Field.mk "Imm" 41 4 Bool.false "" "" 32)]) (.agg #[.int .i64 0,.int .i64 0,.int .i64 0,.int .i64 0,.int .u32 0]) 5 40:=⟨Tryz.underlying118,by kernel_rfl⟩
theorem a_:FO Tryz.prog 118 0 0:=⟨_,_,0,Tryz.underlying118,rfl,rfl,by kernel_rfl⟩
theorem fI:FO Tryz.prog 118 1 1:=⟨_,_,0,Tryz.underlying118,rfl,rfl,by kernel_rfl⟩
theorem kV:FO Tryz.prog 118 2 2:=⟨_,_,0,Tryz.underlying118,rfl,rfl,by kernel_rfl⟩
theorem kU:FO Tryz.prog 118 3 3:=⟨_,_,0,Tryz.underlying118,rfl,rfl,by kernel_rfl⟩
theorem da:FO Tryz.prog 118 4 4:=⟨_,_,0,Tryz.underlying118,rfl,rfl,by kernel_rfl⟩
theorem lz:PL Tryz.prog 118 [(0,1),(1,1),(2,1),(3,1),(4,1)]:=⟨_,Tryz.underlying118,by kernel_rfl⟩
theorem eM:TI Tryz.prog 124 (Go.TypeDesc.struct #[(Go.Field.mk "Nodes" 3 0 Bool.false "" "" 0),(Go.Field.mk "Vars" 3 1 Bool.false "" "" 8),(Go.Field.mk "Stmts" 3 2 Bool.false "" "" 16),(Go.Field.mk "Exprs" 3 3 Bool.false "" "" 24)]) (.agg #[.int .i64 0,.int .i64 0,.int .i64 0,.int .i64 0]) 4 32:=⟨Tryz.underlying124,by kernel_rfl⟩
theorem jF:FO Tryz.prog 124 0 0:=⟨_,_,0,Tryz.underlying124,rfl,rfl,by kernel_rfl⟩
theorem m6:FO Tryz.prog 124 1 1:=⟨_,_,0,Tryz.underlying124,rfl,rfl,by kernel_rfl⟩
theorem m5:FO Tryz.prog 124 2 2:=⟨_,_,0,Tryz.underlying124,rfl,rfl,by kernel_rfl⟩
theorem m4:FO Tryz.prog 124 3 3:=⟨_,_,0,Tryz.underlying124,rfl,rfl,by kernel_rfl⟩
theorem C8:PL Tryz.prog 124 [(0,1),(1,1),(2,1),(3,1)]:=⟨_,Tryz.underlying124,by kernel_rfl⟩
theorem PH:TI Tryz.prog 128 (Go.TypeDesc.struct #[(Go.Field.mk "p" 27 0 Bool.false "" "babel/babelref08" 0),(Go.Field.mk "names" 46 1 Bool.false "" "babel/babelref08" 24)]) (.agg #[.slice none 0 0,.slice none 0 0]) 2 48:=⟨Tryz.underlying128,by kernel_rfl⟩
theorem Ap:FO Tryz.prog 128 0 0:=⟨_,_,0,Tryz.underlying128,rfl,rfl,by kernel_rfl⟩
theorem gW:FO Tryz.prog 128 1 1:=⟨_,_,0,Tryz.underlying128,rfl,rfl,by kernel_rfl⟩
theorem MI:PL Tryz.prog 128 [(0,1),(1,1)]:=⟨_,Tryz.underlying128,by kernel_rfl⟩
theorem nC:TI Tryz.prog 136 (Go.TypeDesc.struct #[(Go.Field.mk "Outputs" 48 0 Bool.false "" "" 0),(Go.Field.mk "Mem" 48 1 Bool.false "" "" 24),(Go.Field.mk "Err" 32 2 Bool.false "" "" 48)]) (.agg #[.slice none 0 0,.slice none 0 0,.int .i64 0]) 3 56:=⟨Tryz.underlying136,by kernel_rfl⟩
theorem Hp:FO Tryz.prog 136 0 0:=⟨_,_,0,Tryz.underlying136,rfl,rfl,by kernel_rfl⟩
theorem Ho:FO Tryz.prog 136 1 1:=⟨_,_,0,Tryz.underlying136,rfl,rfl,by kernel_rfl⟩
theorem Ao:FO Tryz.prog 136 2 2:=⟨_,_,0,Tryz.underlying136,rfl,rfl,by kernel_rfl⟩
theorem C7:PL Tryz.prog 136 [(0,1),(1,1),(2,1)]:=⟨_,Tryz.underlying136,by kernel_rfl⟩
theorem A0:TI Tryz.prog 157 (Go.TypeDesc.struct #[(Go.Field.mk "Data" 84 0 Bool.false "" "" 0),(Go.Field.mk "Image" 84 1 Bool.false "" "" 24),(Go.Field.mk "OldData" 84 2 Bool.false "" "" 48),(Go.Field.mk "OldImage" 84 3 Bool.false "" "" 72),(Go.Field.mk "Rights" 22 4 Bool.false "" "" 96),(Go.Field.mk "Coherent" 4 5 Bool.false "" "" 120)]) (.agg #[.slice none 0 0,.slice none 0 0,.slice none 0 0,.slice none 0 0,.slice none 0 0,.bool false]) 6 128:=⟨Tryz.underlying157,by kernel_rfl⟩
theorem kT:FO Tryz.prog 157 0 0:=⟨_,_,0,Tryz.underlying157,rfl,rfl,by kernel_rfl⟩
theorem pg:FO Tryz.prog 157 1 1:=⟨_,_,0,Tryz.underlying157,rfl,rfl,by kernel_rfl⟩
theorem Hn:FO Tryz.prog 157 3 3:=⟨_,_,0,Tryz.underlying157,rfl,rfl,by kernel_rfl⟩
theorem pe:FO Tryz.prog 157 4 4:=⟨_,_,0,Tryz.underlying157,rfl,rfl,by kernel_rfl⟩
theorem uf:FO Tryz.prog 157 5 5:=⟨_,_,0,Tryz.underlying157,rfl,rfl,by kernel_rfl⟩
theorem sc:PL Tryz.prog 157 [(0,1),(1,1),(2,1),(3,1),(4,1),(5,1)]:=⟨_,Tryz.underlying157,by kernel_rfl⟩
theorem PG:TI Tryz.prog 165 (Go.TypeDesc.struct #[(Go.Field.mk "p" 27 0 Bool.false "" "babel/syntax" 0),(Go.Field.mk "names" 46 1 Bool.false "" "babel/syntax" 24),(Go.Field.mk "nodes" 3 2 Bool.false "" "babel/syntax" 48),(Go.Field.mk "vars" 3 3 Bool.false "" "babel/syntax" 56),(Go.Field.mk "deep" 4 4 Bool.false "" "babel/syntax" 64),(Go.Field.mk "err" 32 5 Bool.false "" "babel/syntax" 72)]) (.agg #[.slice none 0 0,.slice none 0 0,.int .i64 0,.int .i64 0,.bool false,.int .i64 0]) 6 80:=⟨Tryz.underlying165,by kernel_rfl⟩
theorem An:FO Tryz.prog 165 0 0:=⟨_,_,0,Tryz.underlying165,rfl,rfl,by kernel_rfl⟩
theorem mZ:FO Tryz.prog 165 1 1:=⟨_,_,0,Tryz.underlying165,rfl,rfl,by kernel_rfl⟩
theorem kS:FO Tryz.prog 165 2 2:=⟨_,_,0,Tryz.underlying165,rfl,rfl,by kernel_rfl⟩
theorem pd:FO Tryz.prog 165 3 3:=⟨_,_,0,Tryz.underlying165,rfl,rfl,by kernel_rfl⟩
theorem mY:FO Tryz.prog 165 4 4:=⟨_,_,0,Tryz.underlying165,rfl,rfl,by kernel_rfl⟩
theorem ue:FO Tryz.prog 165 5 5:=⟨_,_,0,Tryz.underlying165,rfl,rfl,by kernel_rfl⟩
theorem MH:PL Tryz.prog 165 [(0,1),(1,1),(2,1),(3,1),(4,1),(5,1)]:=⟨_,Tryz.underlying165,by kernel_rfl⟩
theorem xh:TI Tryz.prog 171 (Go.TypeDesc.struct #[(Go.Field.mk "at" 3 0 Bool.false "" "babel/qgen" 0),(Go.Field.mk "label" 3 1 Bool.false "" "babel/qgen" 8)]) (.agg #[.int .i64 0,.int .i64 0]) 2 16:=⟨Tryz.underlying171,by kernel_rfl⟩
theorem Am:FO Tryz.prog 171 0 0:=⟨_,_,0,Tryz.underlying171,rfl,rfl,by kernel_rfl⟩
theorem Hm:FO Tryz.prog 171 1 1:=⟨_,_,0,Tryz.underlying171,rfl,rfl,by kernel_rfl⟩
theorem MG:PL Tryz.prog 171 [(0,1),(1,1)]:=⟨_,Tryz.underlying171,by kernel_rfl⟩
theorem Jv:TI Tryz.prog 175 (Go.TypeDesc.pointer 177) (.pointer none) 1 8:=⟨Tryz.underlying175,by kernel_rfl⟩
theorem FI:TI Tryz.prog 177 (Go.TypeDesc.struct #[(Go.Field.mk "addr" 175 0 Bool.false "" "strings" 0),(Go.Field.mk "buf" 84 1 Bool.false "" "strings" 8)]) (.agg #[.pointer none,.slice none 0 0]) 2 32:=⟨Tryz.underlying177,by kernel_rfl⟩
theorem ud:FO Tryz.prog 177 0 0:=⟨_,_,0,Tryz.underlying177,rfl,rfl,by kernel_rfl⟩
theorem pb:FO Tryz.prog 177 1 1:=⟨_,_,0,Tryz.underlying177,rfl,rfl,by kernel_rfl⟩
theorem nA:TI Tryz.prog 192 (Go.TypeDesc.slice 197) (.slice none 0 0) 1 24:=⟨Tryz.underlying192,by kernel_rfl⟩
theorem PF:TI Tryz.prog 195 (Go.TypeDesc.struct #[(Go.Field.mk "l" 192 0 Bool.false "" "babel/babelref08" 0),(Go.Field.mk "at" 3 1 Bool.false "" "babel/babelref08" 24),(Go.Field.mk "off" 3 2 Bool.false "" "babel/babelref08" 32),(Go.Field.mk "err" 32 3 Bool.false "" "babel/babelref08" 40)]) (.agg #[.slice none 0 0,.int .i64 0,.int .i64 0,.int .i64 0]) 4 48:=⟨Tryz.underlying195,by kernel_rfl⟩
theorem fi:FO Tryz.prog 195 0 0:=⟨_,_,0,Tryz.underlying195,rfl,rfl,by kernel_rfl⟩
theorem bJ:FO Tryz.prog 195 1 1:=⟨_,_,0,Tryz.underlying195,rfl,rfl,by kernel_rfl⟩
theorem gn:FO Tryz.prog 195 3 3:=⟨_,_,0,Tryz.underlying195,rfl,rfl,by kernel_rfl⟩
theorem MF:PL Tryz.prog 195 [(0,1),(1,1),(2,1),(3,1)]:=⟨_,Tryz.underlying195,by kernel_rfl⟩
theorem dT:TI Tryz.prog 197 (Go.TypeDesc.struct #[(Go.Field.mk "Kind" 3 0 Bool.false "" "" 0),(Go.Field.mk "Text" 9 1 Bool.false "" "" 8),(Go.Field.mk "N" 41 2 Bool.false "" "" 24),(Go.Field.mk "Big" 4 3 Bool.false "" "" 28),(Go.Field.mk "At" 3 4 Bool.false "" "" 32)]) (.agg #[.int .i64 0,.string ⟨#[]⟩,.int .u32 0,.bool false,.int .i64 0]) 5 40:=⟨Tryz.underlying197,by kernel_rfl⟩
theorem dz:FO Tryz.prog 197 0 0:=⟨_,_,0,Tryz.underlying197,rfl,rfl,by kernel_rfl⟩
theorem dk:FO Tryz.prog 197 1 1:=⟨_,_,0,Tryz.underlying197,rfl,rfl,by kernel_rfl⟩
theorem Al:FO Tryz.prog 197 2 2:=⟨_,_,0,Tryz.underlying197,rfl,rfl,by kernel_rfl⟩
theorem Ak:FO Tryz.prog 197 3 3:=⟨_,_,0,Tryz.underlying197,rfl,rfl,by kernel_rfl⟩
theorem Ip:PL Tryz.prog 197 [(0,1),(1,1),(2,1),(3,1),(4,1)]:=⟨_,Tryz.underlying197,by kernel_rfl⟩
theorem PE:TI Tryz.prog 204 (Go.TypeDesc.struct #[(Go.Field.mk "P" 27 0 Bool.false "" "" 0),(Go.Field.mk "In" 48 1 Bool.false "" "" 24),(Go.Field.mk "Out" 48 2 Bool.false "" "" 48),(Go.Field.mk "Mem" 202 3 Bool.false "" "" 72),(Go.Field.mk "Fuel" 3 259 Bool.false "" "" 1096),(Go.Field.mk "Used" 3 260 Bool.false "" "" 1104),(Go.Field.mk "Err" 32 261 Bool.false "" "" 1112)]) (.agg #[.slice none 0 0,.slice none 0 0,.slice none 0 0,.int .u32 0,.int .u32 0,.int .u32 0,.int .u32 0,.int .u32 0,.int .u32 0,.int .u32 0,.int .u32 0,.int .u32 0,.int .u32 0,.int .u32 0,.int .u32 0,.int .u32 0,.int .u32 0,.int .u32 0,.int .u32 0,.int .u32 0,.int .u32 0,.int .u32 0,.int .u32 0,.int .u32 0,.int .u32 0,.int .u32 0,.int .u32 0,.int .u32 0,.int .u32 0,.int .u32 0,.int .u32 0,.int .u32 0,.int .u32 0,.int .u32 0,.int .u32 0,.int .u32 0,.int .u32 0,.int .u32 0,.int .u32 0,.int .u32 0,.int .u32 0,.int .u32 0,.int .u32 0,.int .u32 0,.int .u32 0,.int .u32 0,.int .u32 0,.int .u32 0,.int .u32 0,.int .u32 0,.int .u32 0,.int .u32 0,.int .u32 0,.int .u32 0,.int .u32 0,.int .u32 0,.int .u32 0,.int .u32 0,.int .u32 0,.int .u32 0,.int .u32 0,.int .u32 0,.int .u32 0,.int .u32 0,.int .u32 0,.int .u32 0,.int .u32 0,.int .u32 0,.int .u32 0,.int .u32 0,.int .u32 0,.int .u32 0,.int .u32 0,.int .u32 0,.int .u32 0,.int .u32 0,.int .u32 0,.int .u32 0,.int .u32 0,.int .u32 0,.int .u32 0,.int .u32 0,.int .u32 0,.int .u32 0,.int .u32 0,.int .u32 0,.int .u32 0,.int .u32 0,.int .u32 0,.int .u32 0,.int .u32 0,.int .u32 0,.int .u32 0,.int .u32 0,.int .u32 0,.int .u32 0,.int .u32 0,.int .u32 0,.int .u32 0,.int .u32 0,.int .u32 0,.int .u32 0,.int .u32 0,.int .u32 0,.int .u32 0,.int .u32 0,.int .u32 0,.int .u32 0,.int .u32 0,.int .u32 0,.int .u32 0,.int .u32 0,.int .u32 0,.int .u32 0,.int .u32 0,.int .u32 0,.int .u32 0,.int .u32 0,.int .u32 0,.int .u32 0,.int .u32 0,.int .u32 0,.int .u32 0,.int .u32 0,.int .u32 0,.int .u32 0,.int .u32 0,.int .u32 0,.int .u32 0,.int .u32 0,.int .u32 0,.int .u32 0,.int .u32 0,.int .u32 0,.int .u32 0,.int .u32 0,.int .u32 0,.int .u32 0,.int .u32 0,.int .u32 0,.int .u32 0,.int .u32 0,.int .u32 0,.int .u32 0,.int .u32 0,.int .u32 0,.int .u32 0,.int .u32 0,.int .u32 0,.int .u32 0,.int .u32 0,.int .u32 0,.int .u32 0,.int .u32 0,.int .u32 0,.int .u32 0,.int .u32 0,.int .u32 0,.int .u32 0,.int .u32 0,.int .u32 0,.int .u32 0,.int .u32 0,.int .u32 0,.int .u32 0,.int .u32 0,.int .u32 0,.int .u32 0,.int .u32 0,.int .u32 0,.int .u32 0,.int .u32 0,.int .u32 0,.int .u32 0,.int .u32 0,.int .u32 0,.int .u32 0,.int .u32 0,.int .u32 0,.int .u32 0,.int .u32 0,.int .u32 0,.int .u32 0,.int .u32 0,.int .u32 0,.int .u32 0,.int .u32 0,.int .u32 0,.int .u32 0,.int .u32 0,.int .u32 0,.int .u32 0,.int .u32 0,.int .u32 0,.int .u32 0,.int .u32 0,.int .u32 0,.int .u32 0,.int .u32 0,.int .u32 0,.int .u32 0,.int .u32 0,.int .u32 0,.int .u32 0,.int .u32 0,.int .u32 0,.int .u32 0,.int .u32 0,.int .u32 0,.int .u32 0,.int .u32 0,.int .u32 0,.int .u32 0,.int .u32 0,.int .u32 0,.int .u32 0,.int .u32 0,.int .u32 0,.int .u32 0,.int .u32 0,.int .u32 0,.int .u32 0,.int .u32 0,.int .u32 0,.int .u32 0,.int .u32 0,.int .u32 0,.int .u32 0,.int .u32 0,.int .u32 0,.int .u32 0,.int .u32 0,.int .u32 0,.int .u32 0,.int .u32 0,.int .u32 0,.int .u32 0,.int .u32 0,.int .u32 0,.int .u32 0,.int .u32 0,.int .u32 0,.int .u32 0,.int .u32 0,.int .u32 0,.int .u32 0,.int .u32 0,.int .u32 0,.int .u32 0,.int .u32 0,.int .u32 0,.int .u32 0,.int .u32 0,.int .u32 0,.int .u32 0,.int .u32 0,.int .u32 0,.int .u32 0,.int .u32 0,.int .i64 0,.int .i64 0,.int .i64 0]) 262 1120:=⟨Tryz.underlying204,by kernel_rfl⟩
theorem jE:FO Tryz.prog 204 0 0:=⟨_,_,0,Tryz.underlying204,rfl,rfl,by kernel_rfl⟩
theorem o_:FO Tryz.prog 204 1 1:=⟨_,_,0,Tryz.underlying204,rfl,rfl,by kernel_rfl⟩
theorem uc:FO Tryz.prog 204 2 2:=⟨_,_,0,Tryz.underlying204,rfl,rfl,by kernel_rfl⟩
theorem ub:FO Tryz.prog 204 3 3:=⟨_,_,255,Tryz.underlying204,rfl,rfl,by kernel_rfl⟩
theorem Aj:FO Tryz.prog 204 4 259:=⟨_,_,0,Tryz.underlying204,rfl,rfl,by kernel_rfl⟩
theorem o9:FO Tryz.prog 204 5 260:=⟨_,_,0,Tryz.underlying204,rfl,rfl,by kernel_rfl⟩
theorem fh:FO Tryz.prog 204 6 261:=⟨_,_,0,Tryz.underlying204,rfl,rfl,by kernel_rfl⟩
theorem ME:PL Tryz.prog 204 [(0,1),(1,1),(2,1),(3,256),(259,1),(260,1),(261,1)]:=⟨_,Tryz.underlying204,by kernel_rfl⟩
theorem la:TI Tryz.prog 207 (Go.TypeDesc.struct #[(Go.Field.mk "S" 78 0 Bool.false "" "" 0),(Go.Field.mk "T" 53 24 Bool.false "" "" 104)]) (.agg #[.int .u32 0,.int .u32 0,.int .u32 0,.int .u32 0,.int .u32 0,.int .u32 0,.int .u32 0,.int .u32 0,.int .u32 0,.int .u32 0,.int .u32 0,.int .u32 0,.int .u32 0,.int .u32 0,.int .u32 0,.int .u32 0,.int .u32 0,.int .u32 0,.int .u32 0,.int .u32 0,.int .u32 0,.int .u32 0,.int .i64 0,.int .i64 0,.int .i64 0,.int .u32 0]) 26 120:=⟨Tryz.underlying207,by kernel_rfl⟩
theorem Ai:FO Tryz.prog 207 0 0:=⟨_,_,23,Tryz.underlying207,rfl,rfl,by kernel_rfl⟩
theorem o8:FO Tryz.prog 207 1 24:=⟨_,_,1,Tryz.underlying207,rfl,rfl,by kernel_rfl⟩
theorem Io:PL Tryz.prog 207 [(0,24),(24,2)]:=⟨_,Tryz.underlying207,by kernel_rfl⟩
theorem gH:TI Tryz.prog 219 (Go.TypeDesc.struct #[(Go.Field.mk "known" 4 0 Bool.false "" "babel/qcode" 0),(Go.Field.mk "d" 4 1 Bool.false "" "babel/qcode" 1),(Go.Field.mk "a" 4 2 Bool.false "" "babel/qcode" 2),(Go.Field.mk "b" 4 3 Bool.false "" "babel/qcode" 3),(Go.Field.mk "kind" 3 4 Bool.false "" "babel/qcode" 8),(Go.Field.mk "bits" 3 5 Bool.false "" "babel/qcode" 16),(Go.Field.mk "most" 41 6 Bool.false "" "babel/qcode" 24)]) (.agg #[.bool false,.bool false,.bool false,.bool false,.int .i64 0,.int .i64 0,.int .u32 0]) 7 32:=⟨Tryz.underlying219,by kernel_rfl⟩
theorem Ah:FO Tryz.prog 219 0 0:=⟨_,_,0,Tryz.underlying219,rfl,rfl,by kernel_rfl⟩
theorem Hl:FO Tryz.prog 219 1 1:=⟨_,_,0,Tryz.underlying219,rfl,rfl,by kernel_rfl⟩
theorem Hk:FO Tryz.prog 219 2 2:=⟨_,_,0,Tryz.underlying219,rfl,rfl,by kernel_rfl⟩
theorem Hj:FO Tryz.prog 219 3 3:=⟨_,_,0,Tryz.underlying219,rfl,rfl,by kernel_rfl⟩
theorem Ag:FO Tryz.prog 219 4 4:=⟨_,_,0,Tryz.underlying219,rfl,rfl,by kernel_rfl⟩
theorem Af:FO Tryz.prog 219 5 5:=⟨_,_,0,Tryz.underlying219,rfl,rfl,by kernel_rfl⟩
theorem Ha:FT Tryz.prog 219 5 5 3:=⟨_,_,Tryz.underlying219,rfl,rfl,rfl⟩
theorem Ae:FO Tryz.prog 219 6 6:=⟨_,_,0,Tryz.underlying219,rfl,rfl,by kernel_rfl⟩
theorem jQ:PL Tryz.prog 219 [(0,1),(1,1),(2,1),(3,1),(4,1),(5,1),(6,1)]:=⟨_,Tryz.underlying219,by kernel_rfl⟩
theorem PD:TI Tryz.prog 232 (Go.TypeDesc.struct #[(Go.Field.mk "Names" 46 0 Bool.false "" "" 0),(Go.Field.mk "Values" 48 1 Bool.false "" "" 24),(Go.Field.mk "Depth" 3 2 Bool.false "" "" 48),(Go.Field.mk "Done" 4 3 Bool.false "" "" 56),(Go.Field.mk "Value" 41 4 Bool.false "" "" 60)]) (.agg #[.slice none 0 0,.slice none 0 0,.int .i64 0,.bool false,.int .u32 0]) 5 64:=⟨Tryz.underlying232,by kernel_rfl⟩
theorem kR:FO Tryz.prog 232 0 0:=⟨_,_,0,Tryz.underlying232,rfl,rfl,by kernel_rfl⟩
theorem oZ:FO Tryz.prog 232 1 1:=⟨_,_,0,Tryz.underlying232,rfl,rfl,by kernel_rfl⟩
theorem Hi:FO Tryz.prog 232 2 2:=⟨_,_,0,Tryz.underlying232,rfl,rfl,by kernel_rfl⟩
theorem oY:FO Tryz.prog 232 3 3:=⟨_,_,0,Tryz.underlying232,rfl,rfl,by kernel_rfl⟩
theorem Ad:FO Tryz.prog 232 4 4:=⟨_,_,0,Tryz.underlying232,rfl,rfl,by kernel_rfl⟩
theorem MD:PL Tryz.prog 232 [(0,1),(1,1),(2,1),(3,1),(4,1)]:=⟨_,Tryz.underlying232,by kernel_rfl⟩
theorem AZ:TI Tryz.prog 236 (Go.TypeDesc.struct #[(Go.Field.mk "I" 118 0 Bool.false "" "" 0),(Go.Field.mk "T" 53 5 Bool.false "" "" 40)]) (.agg #[.int .i64 0,.int .i64 0,.int .i64 0,.int .i64 0,.int .u32 0,.int .i64 0,.int .u32 0]) 7 56:=⟨Tryz.underlying236,by kernel_rfl⟩
theorem Hh:FO Tryz.prog 236 0 0:=⟨_,_,4,Tryz.underlying236,rfl,rfl,by kernel_rfl⟩
theorem Hg:FO Tryz.prog 236 1 5:=⟨_,_,1,Tryz.underlying236,rfl,rfl,by kernel_rfl⟩
theorem MC:PL Tryz.prog 236 [(0,5),(5,2)]:=⟨_,Tryz.underlying236,by kernel_rfl⟩
theorem gr:TI Tryz.prog 241 (Go.TypeDesc.struct #[(Go.Field.mk "V" 41 0 Bool.false "" "" 0),(Go.Field.mk "At" 41 1 Bool.false "" "" 4),(Go.Field.mk "Ok" 4 2 Bool.false "" "" 8)]) (.agg #[.int .u32 0,.int .u32 0,.bool false]) 3 12:=⟨Tryz.underlying241,by kernel_rfl⟩
theorem oX:FO Tryz.prog 241 0 0:=⟨_,_,0,Tryz.underlying241,rfl,rfl,by kernel_rfl⟩
theorem mX:FO Tryz.prog 241 2 2:=⟨_,_,0,Tryz.underlying241,rfl,rfl,by kernel_rfl⟩
theorem Im:PL Tryz.prog 241 [(0,1),(1,1),(2,1)]:=⟨_,Tryz.underlying241,by kernel_rfl⟩
theorem eE:TI Tryz.prog 275 (Go.TypeDesc.struct #[(Go.Field.mk "Is" 4 0 Bool.false "" "" 0),(Go.Field.mk "D" 4 1 Bool.false "" "" 1),(Go.Field.mk "A" 4 2 Bool.false "" "" 2),(Go.Field.mk "B" 4 3 Bool.false "" "" 3),(Go.Field.mk "Signed" 4 4 Bool.false "" "" 4),(Go.Field.mk "Bits" 3 5 Bool.false "" "" 8),(Go.Field.mk "Most" 41 6 Bool.false "" "" 16)]) (.agg #[.bool false,.bool false,.bool false,.bool false,.bool false,.int .i64 0,.int .u32 0]) 7 24:=⟨Tryz.underlying275,by kernel_rfl⟩
theorem Hf:FO Tryz.prog 275 0 0:=⟨_,_,0,Tryz.underlying275,rfl,rfl,by kernel_rfl⟩
theorem Ac:FO Tryz.prog 275 1 1:=⟨_,_,0,Tryz.underlying275,rfl,rfl,by kernel_rfl⟩
theorem Ab:FO Tryz.prog 275 2 2:=⟨_,_,0,Tryz.underlying275,rfl,rfl,by kernel_rfl⟩
theorem Aa:FO Tryz.prog 275 3 3:=⟨_,_,0,Tryz.underlying275,rfl,rfl,by kernel_rfl⟩
theorem z_:FO Tryz.prog 275 4 4:=⟨_,_,0,Tryz.underlying275,rfl,rfl,by kernel_rfl⟩
theorem kQ:FO Tryz.prog 275 5 5:=⟨_,_,0,Tryz.underlying275,rfl,rfl,by kernel_rfl⟩
theorem G_:FT Tryz.prog 275 5 5 3:=⟨_,_,Tryz.underlying275,rfl,rfl,rfl⟩
theorem z9:FO Tryz.prog 275 6 6:=⟨_,_,0,Tryz.underlying275,rfl,rfl,by kernel_rfl⟩
theorem kq:PL Tryz.prog 275 [(0,1),(1,1),(2,1),(3,1),(4,1),(5,1),(6,1)]:=⟨_,Tryz.underlying275,by kernel_rfl⟩
theorem AY:TI Tryz.prog 281 (Go.TypeDesc.array 2 118) (.agg #[.int .i64 0,.int .i64 0,.int .i64 0,.int .i64 0,.int .u32 0,.int .i64 0,.int .i64 0,.int .i64 0,.int .i64 0,.int .u32 0]) 10 80:=⟨Tryz.underlying281,by kernel_rfl⟩
theorem ct:TI Tryz.prog 284 (Go.TypeDesc.struct #[(Go.Field.mk "V" 41 0 Bool.false "" "" 0),(Go.Field.mk "Ok" 4 1 Bool.false "" "" 4)]) (.agg #[.int .u32 0,.bool false]) 2 8:=⟨Tryz.underlying284,by kernel_rfl⟩
theorem z7:FT Tryz.prog 284 0 0 41:=⟨_,_,Tryz.underlying284,rfl,rfl,rfl⟩
theorem fY:PL Tryz.prog 284 [(0,1),(1,1)]:=⟨_,Tryz.underlying284,by kernel_rfl⟩
theorem HJ:Cb Tryz.prog 12:=⟨_,Tryz.func12,by decide,rfl⟩
theorem BQ:Cb Tryz.prog 15:=⟨_,Tryz.func15,by decide,rfl⟩
theorem N9:Cb Tryz.prog 16:=⟨_,Tryz.func16,by decide,rfl⟩
theorem Rd:Cb Tryz.prog 17:=⟨_,Tryz.func17,by decide,rfl⟩
theorem yL:Cb Tryz.prog 19:=⟨_,Tryz.func19,by decide,rfl⟩
theorem Lc:Cb Tryz.prog 21:=⟨_,Tryz.func21,by decide,rfl⟩
theorem yK:Cb Tryz.prog 22:=⟨_,Tryz.func22,by decide,rfl⟩
theorem NF:Cb Tryz.prog 23:=⟨_,Tryz.func23,by decide,rfl⟩
theorem HI:Cb Tryz.prog 24:=⟨_,Tryz.func24,by decide,rfl⟩
theorem EJ:Cb Tryz.prog 25:=⟨_,Tryz.func25,by decide,rfl⟩
theorem Rc:Cb Tryz.prog 34:=⟨_,Tryz.func34,by decide,rfl⟩
theorem NE:Cb Tryz.prog 35:=⟨_,Tryz.func35,by decide,rfl⟩
theorem Rb:Cb Tryz.prog 37:=⟨_,Tryz.func37,by decide,rfl⟩
theorem Ra:Cb Tryz.prog 38:=⟨_,Tryz.func38,by decide,rfl⟩
theorem Q_:Cb Tryz.prog 39:=⟨_,Tryz.func39,by decide,rfl⟩
theorem HH:Cb Tryz.prog 41:=⟨_,Tryz.func41,by decide,rfl⟩
theorem Q9:Cb Tryz.prog 43:=⟨_,Tryz.func43,by decide,rfl⟩
theorem HG:Cb Tryz.prog 44:=⟨_,Tryz.func44,by decide,rfl⟩
theorem Q8:Cb Tryz.prog 48:=⟨_,Tryz.func48,by decide,rfl⟩
theorem Q7:Cb Tryz.prog 49:=⟨_,Tryz.func49,by decide,rfl⟩
theorem ur:Cb Tryz.prog 50:=⟨_,Tryz.func50,by decide,rfl⟩
theorem iJ:Cb Tryz.prog 51:=⟨_,Tryz.func51,by decide,rfl⟩
theorem r4:Cb Tryz.prog 52:=⟨_,Tryz.func52,by decide,rfl⟩
theorem wz:Cb Tryz.prog 53:=⟨_,Tryz.func53,by decide,rfl⟩
theorem Q6:Cb Tryz.prog 54:=⟨_,Tryz.func54,by decide,rfl⟩
theorem Q5:Cb Tryz.prog 55:=⟨_,Tryz.func55,by decide,rfl⟩
theorem Q4:Cb Tryz.prog 56:=⟨_,Tryz.func56,by decide,rfl⟩
theorem EI:Cb Tryz.prog 57:=⟨_,Tryz.func57,by decide,rfl⟩
theorem BP:Cb Tryz.prog 58:=⟨_,Tryz.func58,by decide,rfl⟩
theorem yJ:Cb Tryz.prog 59:=⟨_,Tryz.func59,by decide,rfl⟩
theorem K_:Cb Tryz.prog 60:=⟨_,Tryz.func60,by decide,rfl⟩
theorem K9:Cb Tryz.prog 61:=⟨_,Tryz.func61,by decide,rfl⟩
theorem Q3:Cb Tryz.prog 62:=⟨_,Tryz.func62,by decide,rfl⟩
theorem Q2:Cb Tryz.prog 64:=⟨_,Tryz.func64,by decide,rfl⟩
theorem Q1:Cb Tryz.prog 65:=⟨_,Tryz.func65,by decide,rfl⟩
theorem Q0:Cb Tryz.prog 66:=⟨_,Tryz.func66,by decide,rfl⟩
theorem QZ:Cb Tryz.prog 74:=⟨_,Tryz.func74,by decide,rfl⟩
theorem EH:Cb Tryz.prog 75:=⟨_,Tryz.func75,by decide,rfl⟩
theorem QY:Cb Tryz.prog 76:=⟨_,Tryz.func76,by decide,rfl⟩
theorem QX:Cb Tryz.prog 77:=⟨_,Tryz.func77,by decide,rfl⟩
theorem QW:Cb Tryz.prog 81:=⟨_,Tryz.func81,by decide,rfl⟩
theorem K8:Cb Tryz.prog 82:=⟨_,Tryz.func82,by decide,rfl⟩
theorem QV:Cb Tryz.prog 83:=⟨_,Tryz.func83,by decide,rfl⟩
theorem rZ:Cb Tryz.prog 84:=⟨_,Tryz.func84,by decide,rfl⟩
theorem rW:Cb Tryz.prog 85:=⟨_,Tryz.func85,by decide,rfl⟩
theorem l6:Cb Tryz.prog 86:=⟨_,Tryz.func86,by decide,rfl⟩
theorem ND:Cb Tryz.prog 87:=⟨_,Tryz.func87,by decide,rfl⟩
theorem K7:Cb Tryz.prog 88:=⟨_,Tryz.func88,by decide,rfl⟩
theorem K6:Cb Tryz.prog 89:=⟨_,Tryz.func89,by decide,rfl⟩
theorem NC:Cb Tryz.prog 90:=⟨_,Tryz.func90,by decide,rfl⟩
theorem QU:Cb Tryz.prog 91:=⟨_,Tryz.func91,by decide,rfl⟩
theorem qS:Cb Tryz.prog 92:=⟨_,Tryz.func92,by decide,rfl⟩
theorem QT:Cb Tryz.prog 93:=⟨_,Tryz.func93,by decide,rfl⟩
theorem K5:Cb Tryz.prog 94:=⟨_,Tryz.func94,by decide,rfl⟩
theorem BO:Cb Tryz.prog 95:=⟨_,Tryz.func95,by decide,rfl⟩
theorem EG:Cb Tryz.prog 96:=⟨_,Tryz.func96,by decide,rfl⟩
theorem HF:Cb Tryz.prog 97:=⟨_,Tryz.func97,by decide,rfl⟩
theorem QS:Cb Tryz.prog 98:=⟨_,Tryz.func98,by decide,rfl⟩
theorem QR:Cb Tryz.prog 99:=⟨_,Tryz.func99,by decide,rfl⟩
theorem OB:Cb Tryz.prog 100:=⟨_,Tryz.func100,by decide,rfl⟩
theorem OA:Cb Tryz.prog 101:=⟨_,Tryz.func101,by decide,rfl⟩
theorem AH:Cb Tryz.prog 102:=⟨_,Tryz.func102,by decide,rfl⟩
theorem ET:Cb Tryz.prog 103:=⟨_,Tryz.func103,by decide,rfl⟩
theorem qV:Cb Tryz.prog 104:=⟨_,Tryz.func104,by decide,rfl⟩
theorem Jb:Cb Tryz.prog 105:=⟨_,Tryz.func105,by decide,rfl⟩
theorem ES:Cb Tryz.prog 106:=⟨_,Tryz.func106,by decide,rfl⟩
theorem Ja:Cb Tryz.prog 107:=⟨_,Tryz.func107,by decide,rfl⟩
theorem Oz:Cb Tryz.prog 108:=⟨_,Tryz.func108,by decide,rfl⟩
theorem iS:Cb Tryz.prog 109:=⟨_,Tryz.func109,by decide,rfl⟩
theorem ER:Cb Tryz.prog 110:=⟨_,Tryz.func110,by decide,rfl⟩
theorem ow:Cb Tryz.prog 111:=⟨_,Tryz.func111,by decide,rfl⟩
theorem AG:Cb Tryz.prog 112:=⟨_,Tryz.func112,by decide,rfl⟩
theorem I_:Cb Tryz.prog 114:=⟨_,Tryz.func114,by decide,rfl⟩
theorem I9:Cb Tryz.prog 115:=⟨_,Tryz.func115,by decide,rfl⟩
theorem Oy:Cb Tryz.prog 118:=⟨_,Tryz.func118,by decide,rfl⟩
theorem Ox:Cb Tryz.prog 119:=⟨_,Tryz.func119,by decide,rfl⟩
theorem Ow:Cb Tryz.prog 120:=⟨_,Tryz.func120,by decide,rfl⟩
theorem Ov:Cb Tryz.prog 121:=⟨_,Tryz.func121,by decide,rfl⟩
theorem wC:Cb Tryz.prog 122:=⟨_,Tryz.func122,by decide,rfl⟩
theorem EQ:Cb Tryz.prog 123:=⟨_,Tryz.func123,by decide,rfl⟩
theorem I8:Cb Tryz.prog 124:=⟨_,Tryz.func124,by decide,rfl⟩
theorem Ou:Cb Tryz.prog 125:=⟨_,Tryz.func125,by decide,rfl⟩
theorem EP:Cb Tryz.prog 126:=⟨_,Tryz.func126,by decide,rfl⟩
theorem wB:Cb Tryz.prog 127:=⟨_,Tryz.func127,by decide,rfl⟩
theorem I7:Cb Tryz.prog 128:=⟨_,Tryz.func128,by decide,rfl⟩
theorem EO:Cb Tryz.prog 129:=⟨_,Tryz.func129,by decide,rfl⟩
theorem Ot:Cb Tryz.prog 130:=⟨_,Tryz.func130,by decide,rfl⟩
theorem Oo:Cb Tryz.prog 131:=⟨_,Tryz.func131,by decide,rfl⟩
theorem I6:Cb Tryz.prog 132:=⟨_,Tryz.func132,by decide,rfl⟩
theorem On:Cb Tryz.prog 133:=⟨_,Tryz.func133,by decide,rfl⟩
theorem I5:Cb Tryz.prog 134:=⟨_,Tryz.func134,by decide,rfl⟩
theorem AF:Cb Tryz.prog 135:=⟨_,Tryz.func135,by decide,rfl⟩
theorem AE:Cb Tryz.prog 136:=⟨_,Tryz.func136,by decide,rfl⟩
theorem I4:Cb Tryz.prog 137:=⟨_,Tryz.func137,by decide,rfl⟩
theorem Ol:Cb Tryz.prog 138:=⟨_,Tryz.func138,by decide,rfl⟩
theorem Oj:Cb Tryz.prog 139:=⟨_,Tryz.func139,by decide,rfl⟩
theorem I3:Cb Tryz.prog 141:=⟨_,Tryz.func141,by decide,rfl⟩
theorem Oi:Cb Tryz.prog 142:=⟨_,Tryz.func142,by decide,rfl⟩
theorem EN:Cb Tryz.prog 145:=⟨_,Tryz.func145,by decide,rfl⟩
theorem AD:Cb Tryz.prog 146:=⟨_,Tryz.func146,by decide,rfl⟩
theorem Oh:Cb Tryz.prog 147:=⟨_,Tryz.func147,by decide,rfl⟩
theorem Og:Cb Tryz.prog 148:=⟨_,Tryz.func148,by decide,rfl⟩
theorem I2:Cb Tryz.prog 149:=⟨_,Tryz.func149,by decide,rfl⟩
theorem Of:Cb Tryz.prog 150:=⟨_,Tryz.func150,by decide,rfl⟩
theorem Oe:Cb Tryz.prog 151:=⟨_,Tryz.func151,by decide,rfl⟩
theorem Od:Cb Tryz.prog 152:=⟨_,Tryz.func152,by decide,rfl⟩
theorem I1:Cb Tryz.prog 153:=⟨_,Tryz.func153,by decide,rfl⟩
theorem Oc:Cb Tryz.prog 154:=⟨_,Tryz.func154,by decide,rfl⟩
theorem AC:Cb Tryz.prog 155:=⟨_,Tryz.func155,by decide,rfl⟩
theorem Ob:Cb Tryz.prog 156:=⟨_,Tryz.func156,by decide,rfl⟩
theorem I0:Cb Tryz.prog 157:=⟨_,Tryz.func157,by decide,rfl⟩
theorem Oa:Cb Tryz.prog 158:=⟨_,Tryz.func158,by decide,rfl⟩
theorem N_:Cb Tryz.prog 159:=⟨_,Tryz.func159,by decide,rfl⟩
theorem N8:Cb Tryz.prog 160:=⟨_,Tryz.func160,by decide,rfl⟩
theorem N7:Cb Tryz.prog 161:=⟨_,Tryz.func161,by decide,rfl⟩
theorem N6:Cb Tryz.prog 162:=⟨_,Tryz.func162,by decide,rfl⟩
theorem N5:Cb Tryz.prog 163:=⟨_,Tryz.func163,by decide,rfl⟩
theorem IZ:Cb Tryz.prog 164:=⟨_,Tryz.func164,by decide,rfl⟩
theorem IY:Cb Tryz.prog 165:=⟨_,Tryz.func165,by decide,rfl⟩
theorem IX:Cb Tryz.prog 166:=⟨_,Tryz.func166,by decide,rfl⟩
theorem qU:Cb Tryz.prog 167:=⟨_,Tryz.func167,by decide,rfl⟩
theorem IW:Cb Tryz.prog 168:=⟨_,Tryz.func168,by decide,rfl⟩
theorem EM:Cb Tryz.prog 169:=⟨_,Tryz.func169,by decide,rfl⟩
theorem N4:Cb Tryz.prog 170:=⟨_,Tryz.func170,by decide,rfl⟩
theorem N3:Cb Tryz.prog 171:=⟨_,Tryz.func171,by decide,rfl⟩
theorem N2:Cb Tryz.prog 173:=⟨_,Tryz.func173,by decide,rfl⟩
theorem N1:Cb Tryz.prog 174:=⟨_,Tryz.func174,by decide,rfl⟩
theorem jT:Cb Tryz.prog 175:=⟨_,Tryz.func175,by decide,rfl⟩
theorem IV:Cb Tryz.prog 176:=⟨_,Tryz.func176,by decide,rfl⟩
theorem N0:Cb Tryz.prog 178:=⟨_,Tryz.func178,by decide,rfl⟩
theorem NZ:Cb Tryz.prog 179:=⟨_,Tryz.func179,by decide,rfl⟩
theorem NY:Cb Tryz.prog 180:=⟨_,Tryz.func180,by decide,rfl⟩
theorem NX:Cb Tryz.prog 182:=⟨_,Tryz.func182,by decide,rfl⟩
theorem IU:Cb Tryz.prog 183:=⟨_,Tryz.func183,by decide,rfl⟩
theorem NW:Cb Tryz.prog 184:=⟨_,Tryz.func184,by decide,rfl⟩
theorem NV:Cb Tryz.prog 185:=⟨_,Tryz.func185,by decide,rfl⟩
theorem IT:Cb Tryz.prog 186:=⟨_,Tryz.func186,by decide,rfl⟩
theorem NU:Cb Tryz.prog 187:=⟨_,Tryz.func187,by decide,rfl⟩
theorem IS:Cb Tryz.prog 188:=⟨_,Tryz.func188,by decide,rfl⟩
theorem NT:Cb Tryz.prog 189:=⟨_,Tryz.func189,by decide,rfl⟩
theorem IR:Cb Tryz.prog 190:=⟨_,Tryz.func190,by decide,rfl⟩
theorem kD:Cb Tryz.prog 191:=⟨_,Tryz.func191,by decide,rfl⟩
theorem IQ:Cb Tryz.prog 192:=⟨_,Tryz.func192,by decide,rfl⟩
theorem wA:Cb Tryz.prog 194:=⟨_,Tryz.func194,by decide,rfl⟩
theorem AB:Cb Tryz.prog 195:=⟨_,Tryz.func195,by decide,rfl⟩
theorem IP:Cb Tryz.prog 196:=⟨_,Tryz.func196,by decide,rfl⟩
theorem EL:Cb Tryz.prog 197:=⟨_,Tryz.func197,by decide,rfl⟩
theorem qIO:Cb Tryz.prog 198:=⟨_,Tryz.func198,by decide,rfl⟩
theorem NS:Cb Tryz.prog 199:=⟨_,Tryz.func199,by decide,rfl⟩
theorem NR:Cb Tryz.prog 200:=⟨_,Tryz.func200,by decide,rfl⟩
theorem NQ:Cb Tryz.prog 201:=⟨_,Tryz.func201,by decide,rfl⟩
theorem NP:Cb Tryz.prog 202:=⟨_,Tryz.func202,by decide,rfl⟩
theorem NO:Cb Tryz.prog 203:=⟨_,Tryz.func203,by decide,rfl⟩
theorem NN:Cb Tryz.prog 204:=⟨_,Tryz.func204,by decide,rfl⟩
theorem NM:Cb Tryz.prog 205:=⟨_,Tryz.func205,by decide,rfl⟩
theorem NL:Cb Tryz.prog 206:=⟨_,Tryz.func206,by decide,rfl⟩
theorem NK:Cb Tryz.prog 207:=⟨_,Tryz.func207,by decide,rfl⟩
theorem NJ:Cb Tryz.prog 208:=⟨_,Tryz.func208,by decide,rfl⟩
theorem NI:Cb Tryz.prog 209:=⟨_,Tryz.func209,by decide,rfl⟩
theorem NH:Cb Tryz.prog 210:=⟨_,Tryz.func210,by decide,rfl⟩
theorem qT:Cb Tryz.prog 211:=⟨_,Tryz.func211,by decide,rfl⟩
theorem EK:Cb Tryz.prog 212:=⟨_,Tryz.func212,by decide,rfl⟩
theorem NG:Cb Tryz.prog 213:=⟨_,Tryz.func213,by decide,rfl⟩
end Go.Proofs.YtedmdgbmdplifaaGreat
namespace Go.Proofs.YtedmdgbmdplifaaGreat
set_option linter.unusedSimpArgs false
set_option linter.unusedVariables false
open Go.RowKit
theorem Gb{a b:Int}(ha:0≤a∧a<4294967296)(hb:0≤b∧b<4294967296)(h:¬b=0):IntKind.u32.wrap (a.tdiv b)=a/b:=by
 rw [Int.tdiv_eq_ediv_of_nonneg ha.1];have h1:0≤a/b:=Int.ediv_nonneg ha.1 hb.1;have h2:a/b≤a:=Int.ediv_le_self b ha.1;exact bC h1 (by omega)
section
end
theorem pG{a b:Int}(ha:0≤a∧a<4294967296):a.tmod b=a%b:=Int.tmod_eq_emod_of_nonneg ha.1
theorem d8:KeyLaw Tryz.prog 9 fz:=GG Tryz.underlying9
theorem Je{b:Int}(hb:0≤b∧b<4294967296):bits .and .u32 b 31=b%32:=by
 have h1:bits .and .u32 b 31=IntKind.u32.wrap (((BitVec.ofInt 32 b&&&BitVec.ofInt 32 31).toNat:Nat):Int):=J;have h2:(BitVec.ofInt 32 b).toNat=b.toNat:=by
  rw [BitVec.toNat_ofInt,Int.emod_eq_of_lt hb.1 (by omega)]
 have h3:(BitVec.ofInt 32 31).toNat=2^5-1:=by decide
 rw [h1,BitVec.toNat_and,h2,h3,Nat.and_two_pow_sub_one_eq_mod,bC (by omega) (by omega)];omega
theorem iD(b:Bool):
  Spec Tryz.prog 211 [.bool b] [] [] (X:=Unit) (fun _=>True) (fun _=> .agg #[.int .u32 (tr b),.bool true]) (fun _=> []) (fun _=> []):=by
 refine aF Tryz.func211 J Tryz.ntmps211 J fun w0 M H=>ae (aa (aT ct J J fun b2=>ai (ae (ae (aa (aj (ac J) J (ai (ar J (fun h1=> ?_) (fun h1=> ?_)))))))))
 ·have hq:=h1;refine ae (aa (aj (aP (parts:= [(0,.const (.int .u32 1)),(1,.const (.bool Bool.true))]) ct fY J J) J (av (k:=2) ct J J J J J J (ai (aw (aG () trivial J (bx (aW ct J J J (aR (k:=2) J))) (by rw [hq];rfl) [] [] J J J))))))
 ·have hq:=h1;refine az (ae (aa (aj (aP (parts:= [(0,.const (.int .u32 0)),(1,.const (.bool Bool.true))]) ct fY J J) J (av (k:=2) ct J J J J J J (ai (aw (aG () trivial J (bx (aW ct J J J (aR (k:=2) J))) (by rw [hq];rfl) [] [] J J J)))))))
def vO(o:Option Int):Value:=match o with
 | some u=> .agg #[.int .u32 u,.bool true]
 | none=> .agg #[.int .u32 0,.bool false]
theorem u4(op:ByteArray)(a:Int)(ha:0≤a∧a<4294967296):
  Spec Tryz.prog 207 [.string op,.int .u32 a] [] [] (X:=Unit) (fun _=>True) (fun _=>vO (BX op a)) (fun _=> []) (fun _=> []):=by
 refine aF Tryz.func207 J Tryz.ntmps207 J fun w0 M H=>ae (aa (aT ct J J fun b4=>ai (ae (ae (aa (aj (ac J) J (ai (aB (ae (aa (aj (am J J ci) J ?_)))))))))))
 refine aj (ag J) J (ai (ar J (fun h1=> ?_) (fun h1=> ?_)))
 ·have hoSub:op=dw:=by rw [bR]at h1;exact of_decide_eq_true h1
  refine ae (aa (aj (ac J) J (aj (am J J (fQ (c:=wU (-a)) (by rw [Int.zero_sub];rfl))) J (aj (aP (parts:= [(0,.tmp 9),(1,.const (.bool Bool.true))]) ct fY J J) J (av (k:=4) ct J J J J J J (ai (aw (aG () trivial J (bx (aW ct J J J (aR (k:=4) J))) (by unfold BX;rw [if_pos hoSub];rfl) [] [] J J J))))))))
 ·have hoSub:¬op=dw:=by rw [bR]at h1;exact of_decide_eq_false h1
  refine ae (aa (aj (am J J ci) J (aj (ag J) J (ai (ar J (fun h2=> ?_) (fun h2=> ?_))))))
  ·have hoCom:op=qf:=by rw [bR]at h2;exact of_decide_eq_true h2
   refine ae (aa (aj (ac J) J (aj (am J J (fQ (by first|exact bC (by omega) (by omega)|rfl))) J (aj (aP (parts:= [(0,.tmp 14),(1,.const (.bool Bool.true))]) ct fY J J) J (av (k:=4) ct J J J J J J (ai (aw (aG () trivial J (bx (aW ct J J J (aR (k:=4) J))) (by unfold BX;rw [if_neg hoSub,if_pos hoCom];rfl) [] [] J J J))))))))
  ·have hoCom:¬op=qf:=by rw [bR]at h2;exact of_decide_eq_false h2
   refine ae (aa (aj (am J J ci) J (aj (ag J) J (ai (ar J (fun h3=> ?_) (fun h3=> ?_))))))
   ·have hoNot:op=rJ:=by rw [bR]at h3;exact of_decide_eq_true h3
    refine ae (aa (aj (ac J) J (aj (am J J aS) J (bF (xs:= [.tmp 19]) (iD (decide (a=0))) qT [] [] [] [] J J J J J J J J (fun _ _=>J) (fun _ _ _=>J) J (fun _ _=>av (k:=4) ct J J J J J J (ai (aw (aG () trivial J (bx (aW ct J J J (aR (k:=4) J))) (by unfold BX;rw [if_neg hoSub,if_neg hoCom,if_pos hoNot];rfl) [] [] J J J))))))))
   ·have hoNot:¬op=rJ:=by rw [bR]at h3;exact of_decide_eq_false h3
    refine az (ae (aa (aj (aP (parts:= []) ct fY J J) J (av (k:=4) ct J J J J J J (ai (aw (aG () trivial J (bx (aW ct J J J (aR (k:=4) J))) (by unfold BX;rw [if_neg hoSub,if_neg hoCom,if_neg hoNot];rfl) [] [] J J J)))))))
theorem tu(op:ByteArray)(a b:Int)(ha:0≤a∧a<4294967296)(hb:0≤b∧b<4294967296):
  Spec Tryz.prog 208 [.string op,.int .u32 a,.int .u32 b] [] [] (X:=Unit) (fun _=>True) (fun _=>vO (nr op a b)) (fun _=> []) (fun _=> []):=by
 refine aF Tryz.func208 J Tryz.ntmps208 J fun w0 M H=>ae (aa (aT ct J J fun b6=>ai (ae (ae (aa (aj (ac J) J (ai (aB (ae (aa (aj (am J J ci) J ?_)))))))))))
 refine aj (ag J) J (ai (ar J (fun h1=> ?_) (fun h1=> ?_)))
 ·have hoAdd:op=eG:=by rw [bR]at h1;exact of_decide_eq_true h1
  refine ae (aa (aj (ac J) J (aj (ac J) J (aj (am J J (aX J)) J (aj (aP (parts:= [(0,.tmp 12),(1,.const (.bool Bool.true))]) ct fY J J) J (av (k:=6) ct J J J J J J (ai (aw (aG () trivial J (bx (aW ct J J J (aR (k:=6) J))) (by unfold nr;rw [if_pos hoAdd];first|rfl|(rw [if_pos hz];rfl)|(rw [if_neg hz];rfl)) [] [] J J J)))))))))
 ·have hoAdd:¬op=eG:=by rw [bR]at h1;exact of_decide_eq_false h1
  refine ae (aa (aj (am J J ci) J (aj (ag J) J (ai (ar J (fun h2=> ?_) (fun h2=> ?_))))))
  ·have hoSub:op=dw:=by rw [bR]at h2;exact of_decide_eq_true h2
   refine ae (aa (aj (ac J) J (aj (ac J) J (aj (am J J (fQ J)) J (aj (aP (parts:= [(0,.tmp 18),(1,.const (.bool Bool.true))]) ct fY J J) J (av (k:=6) ct J J J J J J (ai (aw (aG () trivial J (bx (aW ct J J J (aR (k:=6) J))) (by unfold nr;rw [if_neg hoAdd,if_pos hoSub];first|rfl|(rw [if_pos hz];rfl)|(rw [if_neg hz];rfl)) [] [] J J J)))))))))
  ·have hoSub:¬op=dw:=by rw [bR]at h2;exact of_decide_eq_false h2
   refine ae (aa (aj (am J J ci) J (aj (ag J) J (ai (ar J (fun h3=> ?_) (fun h3=> ?_))))))
   ·have hoMul:op=ff:=by rw [bR]at h3;exact of_decide_eq_true h3
    refine ae (aa (aj (ac J) J (aj (ac J) J (aj (am J J (de J)) J (aj (aP (parts:= [(0,.tmp 24),(1,.const (.bool Bool.true))]) ct fY J J) J (av (k:=6) ct J J J J J J (ai (aw (aG () trivial J (bx (aW ct J J J (aR (k:=6) J))) (by unfold nr;rw [if_neg hoAdd,if_neg hoSub,if_pos hoMul];first|rfl|(rw [if_pos hz];rfl)|(rw [if_neg hz];rfl)) [] [] J J J)))))))))
   ·have hoMul:¬op=ff:=by rw [bR]at h3;exact of_decide_eq_false h3
    refine ae (aa (aj (am J J ci) J (aj (ag J) J (ai (ar J (fun h4=> ?_) (fun h4=> ?_))))))
    ·have hoQuo:op=iV:=by rw [bR]at h4;exact of_decide_eq_true h4
     refine ae (ae (aa (aj (ac J) J (aj (am J J aS) J (ai (ar J (fun h5=> ?_) (fun h5=> ?_)))))))
     ·(try simp only [aV]at h5)
      have hz:b=0:=h5;refine ae (aa (aj (aP (parts:= [(0,.const (.int .u32 0)),(1,.const (.bool Bool.true))]) ct fY J J) J (av (k:=6) ct J J J J J J (ai (aw (aG () trivial J (bx (aW ct J J J (aR (k:=6) J))) (by unfold nr;rw [if_neg hoAdd,if_neg hoSub,if_neg hoMul,if_pos hoQuo];first|rfl|(rw [if_pos hz];rfl)|(rw [if_neg hz];rfl)) [] [] J J J))))))
     ·(try simp only [aV]at h5)
      have hz:¬b=0:=h5;refine az (ae (aa (aj (ac J) J (aj (ac J) J (aj (am J J (jU hz (Gb ha hb hz))) J (aj (aP (parts:= [(0,.tmp 33),(1,.const (.bool Bool.true))]) ct fY J J) J (av (k:=6) ct J J J J J J (ai (aw (aG () trivial J (bx (aW ct J J J (aR (k:=6) J))) (by unfold nr;rw [if_neg hoAdd,if_neg hoSub,if_neg hoMul,if_pos hoQuo];first|rfl|(rw [if_pos hz];rfl)|(rw [if_neg hz];rfl)) [] [] J J J))))))))))
    ·have hoQuo:¬op=iV:=by rw [bR]at h4;exact of_decide_eq_false h4
     refine ae (aa (aj (am J J ci) J (aj (ag J) J (ai (ar J (fun h6=> ?_) (fun h6=> ?_))))))
     ·have hoRem:op=jt:=by rw [bR]at h6;exact of_decide_eq_true h6
      refine ae (ae (aa (aj (ac J) J (aj (am J J aS) J (ai (ar J (fun h7=> ?_) (fun h7=> ?_)))))))
      ·(try simp only [aV]at h7)
       have hz:b=0:=h7;refine ae (aa (aj (ac J) J (aj (aP (parts:= [(0,.tmp 39),(1,.const (.bool Bool.true))]) ct fY J J) J (av (k:=6) ct J J J J J J (ai (aw (aG () trivial J (bx (aW ct J J J (aR (k:=6) J))) (by unfold nr;rw [if_neg hoAdd,if_neg hoSub,if_neg hoMul,if_neg hoQuo,if_pos hoRem];first|rfl|(rw [if_pos hz];rfl)|(rw [if_neg hz];rfl)) [] [] J J J)))))))
      ·(try simp only [aV]at h7)
       have hz:¬b=0:=h7;refine az (ae (aa (aj (ac J) J (aj (ac J) J (aj (am J J (fV hz (pG ha))) J (aj (aP (parts:= [(0,.tmp 43),(1,.const (.bool Bool.true))]) ct fY J J) J (av (k:=6) ct J J J J J J (ai (aw (aG () trivial J (bx (aW ct J J J (aR (k:=6) J))) (by unfold nr;rw [if_neg hoAdd,if_neg hoSub,if_neg hoMul,if_neg hoQuo,if_pos hoRem];first|rfl|(rw [if_pos hz];rfl)|(rw [if_neg hz];rfl)) [] [] J J J))))))))))
     ·have hoRem:¬op=jt:=by rw [bR]at h6;exact of_decide_eq_false h6
      refine ae (aa (aj (am J J ci) J (aj (ag J) J (ai (ar J (fun h8=> ?_) (fun h8=> ?_))))))
      ·have hoAnd:op=dW:=by rw [bR]at h8;exact of_decide_eq_true h8
       refine ae (aa (aj (ac J) J (aj (ac J) J (aj (am J J (lD J)) J (aj (aP (parts:= [(0,.tmp 49),(1,.const (.bool Bool.true))]) ct fY J J) J (av (k:=6) ct J J J J J J (ai (aw (aG () trivial J (bx (aW ct J J J (aR (k:=6) J))) (by unfold nr;rw [if_neg hoAdd,if_neg hoSub,if_neg hoMul,if_neg hoQuo,if_neg hoRem,if_pos hoAnd];first|rfl|(rw [if_pos hz];rfl)|(rw [if_neg hz];rfl)) [] [] J J J)))))))))
      ·have hoAnd:¬op=dW:=by rw [bR]at h8;exact of_decide_eq_false h8
       refine ae (aa (aj (am J J ci) J (aj (ag J) J (ai (ar J (fun h9=> ?_) (fun h9=> ?_))))))
       ·have hoOr:op=iH:=by rw [bR]at h9;exact of_decide_eq_true h9
        refine ae (aa (aj (ac J) J (aj (ac J) J (aj (am J J (BV J)) J (aj (aP (parts:= [(0,.tmp 55),(1,.const (.bool Bool.true))]) ct fY J J) J (av (k:=6) ct J J J J J J (ai (aw (aG () trivial J (bx (aW ct J J J (aR (k:=6) J))) (by unfold nr;rw [if_neg hoAdd,if_neg hoSub,if_neg hoMul,if_neg hoQuo,if_neg hoRem,if_neg hoAnd,if_pos hoOr];first|rfl|(rw [if_pos hz];rfl)|(rw [if_neg hz];rfl)) [] [] J J J)))))))))
       ·have hoOr:¬op=iH:=by rw [bR]at h9;exact of_decide_eq_false h9
        refine ae (aa (aj (am J J ci) J (aj (ag J) J (ai (ar J (fun h10=> ?_) (fun h10=> ?_))))))
        ·have hoXor:op=d6:=by rw [bR]at h10;exact of_decide_eq_true h10
         refine ae (aa (aj (ac J) J (aj (ac J) J (aj (am J J (Jc J)) J (aj (aP (parts:= [(0,.tmp 61),(1,.const (.bool Bool.true))]) ct fY J J) J (av (k:=6) ct J J J J J J (ai (aw (aG () trivial J (bx (aW ct J J J (aR (k:=6) J))) (by unfold nr;rw [if_neg hoAdd,if_neg hoSub,if_neg hoMul,if_neg hoQuo,if_neg hoRem,if_neg hoAnd,if_neg hoOr,if_pos hoXor];first|rfl|(rw [if_pos hz];rfl)|(rw [if_neg hz];rfl)) [] [] J J J)))))))))
        ·have hoXor:¬op=d6:=by rw [bR]at h10;exact of_decide_eq_false h10
         refine ae (aa (aj (am J J ci) J (aj (ag J) J (ai (ar J (fun h11=> ?_) (fun h11=> ?_))))))
         ·have hoShl:op=fe:=by rw [bR]at h11;exact of_decide_eq_true h11
          refine ae (aa (aj (ac J) J (aj (ac J) J (aj (am J J (lD (Je hb))) J (aj (am J J (ga (by omega) (by simp [IntKind.bits];omega) J)) J (aj (aP (parts:= [(0,.tmp 68),(1,.const (.bool Bool.true))]) ct fY J J) J (av (k:=6) ct J J J J J J (ai (aw (aG () trivial J (bx (aW ct J J J (aR (k:=6) J))) (by unfold nr;rw [if_neg hoAdd,if_neg hoSub,if_neg hoMul,if_neg hoQuo,if_neg hoRem,if_neg hoAnd,if_neg hoOr,if_neg hoXor,if_pos hoShl];first|rfl|(rw [if_pos hz];rfl)|(rw [if_neg hz];rfl)) [] [] J J J))))))))))
         ·have hoShl:¬op=fe:=by rw [bR]at h11;exact of_decide_eq_false h11
          refine ae (aa (aj (am J J ci) J (aj (ag J) J (ai (ar J (fun h12=> ?_) (fun h12=> ?_))))))
          ·have hoShr:op=fy:=by rw [bR]at h12;exact of_decide_eq_true h12
           refine ae (aa (aj (ac J) J (aj (ac J) J (aj (am J J (lD (Je hb))) J (aj (am J J (m_ (by omega) (by simp [IntKind.bits];omega) J)) J (aj (aP (parts:= [(0,.tmp 75),(1,.const (.bool Bool.true))]) ct fY J J) J (av (k:=6) ct J J J J J J (ai (aw (aG () trivial J (bx (aW ct J J J (aR (k:=6) J))) (by unfold nr;rw [if_neg hoAdd,if_neg hoSub,if_neg hoMul,if_neg hoQuo,if_neg hoRem,if_neg hoAnd,if_neg hoOr,if_neg hoXor,if_neg hoShl,if_pos hoShr];first|rfl|(rw [if_pos hz];rfl)|(rw [if_neg hz];rfl)) [] [] J J J))))))))))
          ·have hoShr:¬op=fy:=by rw [bR]at h12;exact of_decide_eq_false h12
           refine ae (aa (aj (am J J ci) J (aj (ag J) J (ai (ar J (fun h13=> ?_) (fun h13=> ?_))))))
           ·have hoLt:op=jZ:=by rw [bR]at h13;exact of_decide_eq_true h13
            refine ae (aa (aj (ac J) J (aj (ac J) J (aj (am J J b_) J (bF (xs:= [.tmp 81]) (iD (decide (a<b))) qT [] [] [] [] J J J J J J J J (fun _ _=>J) (fun _ _ _=>J) J (fun _ _=>av (k:=6) ct J J J J J J (ai (aw (aG () trivial J (bx (aW ct J J J (aR (k:=6) J))) (by unfold nr;rw [if_neg hoAdd,if_neg hoSub,if_neg hoMul,if_neg hoQuo,if_neg hoRem,if_neg hoAnd,if_neg hoOr,if_neg hoXor,if_neg hoShl,if_neg hoShr,if_pos hoLt];first|rfl|(rw [if_pos hz];rfl)|(rw [if_neg hz];rfl)) [] [] J J J)))))))))
           ·have hoLt:¬op=jZ:=by rw [bR]at h13;exact of_decide_eq_false h13
            refine ae (aa (aj (am J J ci) J (aj (ag J) J (ai (ar J (fun h14=> ?_) (fun h14=> ?_))))))
            ·have hoLe:op=lh:=by rw [bR]at h14;exact of_decide_eq_true h14
             refine ae (aa (aj (ac J) J (aj (ac J) J (aj (am J J jj) J (bF (xs:= [.tmp 87]) (iD (decide (a≤b))) qT [] [] [] [] J J J J J J J J (fun _ _=>J) (fun _ _ _=>J) J (fun _ _=>av (k:=6) ct J J J J J J (ai (aw (aG () trivial J (bx (aW ct J J J (aR (k:=6) J))) (by unfold nr;rw [if_neg hoAdd,if_neg hoSub,if_neg hoMul,if_neg hoQuo,if_neg hoRem,if_neg hoAnd,if_neg hoOr,if_neg hoXor,if_neg hoShl,if_neg hoShr,if_neg hoLt,if_pos hoLe];first|rfl|(rw [if_pos hz];rfl)|(rw [if_neg hz];rfl)) [] [] J J J)))))))))
            ·have hoLe:¬op=lh:=by rw [bR]at h14;exact of_decide_eq_false h14
             refine ae (aa (aj (am J J ci) J (aj (ag J) J (ai (ar J (fun h15=> ?_) (fun h15=> ?_))))))
             ·have hoGt:op=li:=by rw [bR]at h15;exact of_decide_eq_true h15
              refine ae (aa (aj (ac J) J (aj (ac J) J (aj (am J J dL) J (bF (xs:= [.tmp 93]) (iD (decide (a>b))) qT [] [] [] [] J J J J J J J J (fun _ _=>J) (fun _ _ _=>J) J (fun _ _=>av (k:=6) ct J J J J J J (ai (aw (aG () trivial J (bx (aW ct J J J (aR (k:=6) J))) (by unfold nr;rw [if_neg hoAdd,if_neg hoSub,if_neg hoMul,if_neg hoQuo,if_neg hoRem,if_neg hoAnd,if_neg hoOr,if_neg hoXor,if_neg hoShl,if_neg hoShr,if_neg hoLt,if_neg hoLe,if_pos hoGt];first|rfl|(rw [if_pos hz];rfl)|(rw [if_neg hz];rfl)) [] [] J J J)))))))))
             ·have hoGt:¬op=li:=by rw [bR]at h15;exact of_decide_eq_false h15
              refine ae (aa (aj (am J J ci) J (aj (ag J) J (ai (ar J (fun h16=> ?_) (fun h16=> ?_))))))
              ·have hoGe:op=l9:=by rw [bR]at h16;exact of_decide_eq_true h16
               refine ae (aa (aj (ac J) J (aj (ac J) J (aj (am J J eV) J (bF (xs:= [.tmp 99]) (iD (decide (a≥b))) qT [] [] [] [] J J J J J J J J (fun _ _=>J) (fun _ _ _=>J) J (fun _ _=>av (k:=6) ct J J J J J J (ai (aw (aG () trivial J (bx (aW ct J J J (aR (k:=6) J))) (by unfold nr;rw [if_neg hoAdd,if_neg hoSub,if_neg hoMul,if_neg hoQuo,if_neg hoRem,if_neg hoAnd,if_neg hoOr,if_neg hoXor,if_neg hoShl,if_neg hoShr,if_neg hoLt,if_neg hoLe,if_neg hoGt,if_pos hoGe];first|rfl|(rw [if_pos hz];rfl)|(rw [if_neg hz];rfl)) [] [] J J J)))))))))
              ·have hoGe:¬op=l9:=by rw [bR]at h16;exact of_decide_eq_false h16
               refine ae (aa (aj (am J J ci) J (aj (ag J) J (ai (ar J (fun h17=> ?_) (fun h17=> ?_))))))
               ·have hoEq:op=lm:=by rw [bR]at h17;exact of_decide_eq_true h17
                refine ae (aa (aj (ac J) J (aj (ac J) J (aj (am J J aS) J (bF (xs:= [.tmp 105]) (iD (decide (a=b))) qT [] [] [] [] J J J J J J J J (fun _ _=>J) (fun _ _ _=>J) J (fun _ _=>av (k:=6) ct J J J J J J (ai (aw (aG () trivial J (bx (aW ct J J J (aR (k:=6) J))) (by unfold nr;rw [if_neg hoAdd,if_neg hoSub,if_neg hoMul,if_neg hoQuo,if_neg hoRem,if_neg hoAnd,if_neg hoOr,if_neg hoXor,if_neg hoShl,if_neg hoShr,if_neg hoLt,if_neg hoLe,if_neg hoGt,if_neg hoGe,if_pos hoEq];first|rfl|(rw [if_pos hz];rfl)|(rw [if_neg hz];rfl)) [] [] J J J)))))))))
               ·have hoEq:¬op=lm:=by rw [bR]at h17;exact of_decide_eq_false h17
                refine ae (aa (aj (am J J ci) J (aj (ag J) J (ai (ar J (fun h18=> ?_) (fun h18=> ?_))))))
                ·have hoNe:op=lg:=by rw [bR]at h18;exact of_decide_eq_true h18
                 refine ae (aa (aj (ac J) J (aj (ac J) J (aj (am J J cW) J (bF (xs:= [.tmp 111]) (iD (!decide (a=b))) qT [] [] [] [] J J J J J J J J (fun _ _=>J) (fun _ _ _=>J) J (fun _ _=>av (k:=6) ct J J J J J J (ai (aw (aG () trivial J (bx (aW ct J J J (aR (k:=6) J))) (by unfold nr;rw [if_neg hoAdd,if_neg hoSub,if_neg hoMul,if_neg hoQuo,if_neg hoRem,if_neg hoAnd,if_neg hoOr,if_neg hoXor,if_neg hoShl,if_neg hoShr,if_neg hoLt,if_neg hoLe,if_neg hoGt,if_neg hoGe,if_neg hoEq,if_pos hoNe];first|rfl|(rw [if_pos hz];rfl)|(rw [if_neg hz];rfl)) [] [] J J J)))))))))
                ·have hoNe:¬op=lg:=by rw [bR]at h18;exact of_decide_eq_false h18
                 refine az (ae (aa (aj (aP (parts:= []) ct fY J J) J (av (k:=6) ct J J J J J J (ai (aw (aG () trivial J (bx (aW ct J J J (aR (k:=6) J))) (by unfold nr;rw [if_neg hoAdd,if_neg hoSub,if_neg hoMul,if_neg hoQuo,if_neg hoRem,if_neg hoAnd,if_neg hoOr,if_neg hoXor,if_neg hoShl,if_neg hoShr,if_neg hoLt,if_neg hoLe,if_neg hoGt,if_neg hoGe,if_neg hoEq,if_neg hoNe];first|rfl|(rw [if_pos hz];rfl)|(rw [if_neg hz];rfl)) [] [] J J J)))))))
abbrev oW(n:Int):Prop:=0≤n∧n<4294967296
mutual
def VX(fs:List Tf):Tx→Prop
 | .mk k n nm _ kids=>oW n∧kids.length≤1000000∧(k=4→1≤kids.length)∧(k=6→1≤kids.length∧∀a,(BX nm a).isSome=true)∧(k=7→2≤kids.length∧∀a b,(nr nm a b).isSome=true)∧
   (k≠1→k≠2→k≠4→k≠5→k≠6→k≠7→∃f,ce fs nm=some f∧kids.length≤f.ps.length)∧VXs fs kids
def VXs(fs:List Tf):List Tx→Prop
 | []=>True
 | t::r=>VX fs t∧VXs fs r
end
theorem VXs.mem{fs:List Tf}:∀{l:List Tx},VXs fs l→∀t∈l,VX fs t
 | [],_,_,h=>by simp at h
 | t::r,h,u,hu=>by
  rcases List.mem_cons.1 hu with rfl|hu
  ·exact h.1
  ·exact VXs.mem h.2 u hu
mutual
def VY(fs:List Tf):Ty→Prop
 | .mk k _ _ es _ body _ els=>(1≤es.length∧es.length≤1000000∧(k=3→2≤es.length)∧VXs fs es)∧(body.length≤1000000∧VYs fs body)∧(els.length≤1000000∧VYs fs els)
def VYs(fs:List Tf):List Ty→Prop
 | []=>True
 | t::r=>VY fs t∧VYs fs r
end
theorem VYs.mem{fs:List Tf}:∀{l:List Ty},VYs fs l→∀t∈l,VY fs t
 | [],_,_,h=>by simp at h
 | t::r,h,u,hu=>by
  rcases List.mem_cons.1 hu with rfl|hu
  ·exact h.1
  ·exact VYs.mem h.2 u hu
def VF(fs:List Tf):Prop:=∀f∈fs,f.ps.length≤1000000∧f.body.length≤1000000∧VYs fs f.body
def okVs(vs:Vs):Prop:=∀p∈vs,oW p.2
structure okMs(s:Ms):Prop where
 inp:∀x∈s.inp,oW x
 mem:∀i,oW (s.mem i)
 fuel:s.fuel<9223372036854775808
 out:(s.out.length:Int)+max s.fuel 0≤1000000000000
theorem okVs.get{vs:Vs}(h:okVs vs)(x:ByteArray):oW (gE vs x):=by
 unfold gE;cases hf:vs.find? (fun p=>decide (p.1=x))with
 | none=>exact⟨Int.le_refl _,by show(0:Int)<4294967296;decide⟩
 | some p=>exact h p (List.mem_of_find?_eq_some hf)
theorem okVs.put{vs:Vs}(h:okVs vs)(x:ByteArray){n:Int}(hn:oW n):okVs (dV vs x n):=fun p hp=>by
 rcases List.mem_cons.1 hp with rfl|hp
 ·exact hn
 ·exact h p (List.mem_filter.1 hp).1
theorem okVs.bind:∀{vs:Vs}(ps:List ByteArray)(al:List Int),okVs vs→(∀a∈al,oW a)→okVs (dD vs ps al)
 | vs,p::ps,a::al,h,ha=>okVs.bind ps al (h.put p (ha a (by simp))) fun b hb=>ha b (by simp [hb])
 | vs,[],al,h,_=>by unfold dD;exact h
 | vs,p::ps,[],h,_=>by unfold dD;exact h
theorem l8:oW 0:=⟨Int.le_refl _,by show(0:Int)<4294967296;decide⟩
theorem qe(b:Bool):oW (tr b):=by
 cases b
 ·exact l8
 ·exact⟨by decide,by decide⟩
theorem qd(n:Int):oW (wU n):=j_ n
theorem tL(o:BinOp)(a b:Int)(h:∃z,bits o .u32 a b=IntKind.u32.wrap z):oW (bits o .u32 a b):=by
 obtain⟨z,hz⟩:=h;rw [hz];exact j_ z
theorem MZ{op:ByteArray}{a:Int}(ha:oW a):oW ((BX op a).getD 0):=by
 unfold BX;split
 ·exact qd _
 ·split
  ·show 0≤4294967295-a∧4294967295-a<4294967296;have h1:=ha.1;have h2:=ha.2;omega
  ·split
   ·exact qe _
   ·exact l8
theorem Kc{a:Int}(ha:oW a)(n:Nat):oW (a/2^n):=by
 have h0:(0:Int)<2^n:=Int.pow_pos (by decide);refine⟨Int.ediv_nonneg ha.1 (Int.le_of_lt h0),Int.lt_of_le_of_lt (Int.ediv_le_self _ ha.1) ha.2⟩
theorem M0{op:ByteArray}{a b:Int}(ha:oW a)(hb:oW b):oW ((nr op a b).getD 0):=by
 have hq:oW (if b=0 then 0 else a/b):=by
  split
  ·exact l8
  ·exact⟨Int.ediv_nonneg ha.1 hb.1,Int.lt_of_le_of_lt (Int.ediv_le_self _ ha.1) ha.2⟩
 have hr:oW (if b=0 then a else a%b):=by
  split
  ·exact ha
  ·rename_i h;have h1:=Int.emod_nonneg a h;have h2:=Int.emod_lt_of_pos a (b:=b) (by have:=hb.1;omega);have h3:=hb.2;exact⟨h1,by omega⟩
 unfold nr;by_cases h0:op=eG
 ·rw [if_pos h0];exact qd _
 rw [if_neg h0];by_cases h1:op=dw
 ·rw [if_pos h1];exact qd _
 rw [if_neg h1];by_cases h2:op=ff
 ·rw [if_pos h2];exact qd _
 rw [if_neg h2];by_cases h3:op=iV
 ·rw [if_pos h3];exact hq
 rw [if_neg h3];by_cases h4:op=jt
 ·rw [if_pos h4];exact hr
 rw [if_neg h4];by_cases h5:op=dW
 ·rw [if_pos h5];exact(show oW (bits .and .u32 a b)from tL .and a b ⟨_,J⟩)
 rw [if_neg h5];by_cases h6:op=iH
 ·rw [if_pos h6];exact(show oW (bits .or .u32 a b)from tL .or a b ⟨_,J⟩)
 rw [if_neg h6];by_cases h7:op=d6
 ·rw [if_pos h7];exact(show oW (bits .xor .u32 a b)from tL .xor a b ⟨_,J⟩)
 rw [if_neg h7];by_cases h8:op=fe
 ·rw [if_pos h8];exact qd _
 rw [if_neg h8];by_cases h9:op=fy
 ·rw [if_pos h9];exact Kc ha _
 rw [if_neg h9];by_cases h10:op=jZ
 ·rw [if_pos h10];exact qe _
 rw [if_neg h10];by_cases h11:op=lh
 ·rw [if_pos h11];exact qe _
 rw [if_neg h11];by_cases h12:op=li
 ·rw [if_pos h12];exact qe _
 rw [if_neg h12];by_cases h13:op=l9
 ·rw [if_pos h13];exact qe _
 rw [if_neg h13];by_cases h14:op=lm
 ·rw [if_pos h14];exact qe _
 rw [if_neg h14];by_cases h15:op=lg
 ·rw [if_pos h15];exact qe _
 rw [if_neg h15];exact l8
structure Kp(s s':Ms):Prop where
 ok:okMs s'
 sum:(s'.out.length:Int)+max s'.fuel 0≤(s.out.length:Int)+max s.fuel 0
 fl:s'.fuel≤s.fuel
 inp:∃k,s'.inp=s.inp.drop k
theorem Kp.refl{s:Ms}(h:okMs s):Kp s s:=⟨h,Int.le_refl _,Int.le_refl _,0,by simp⟩
theorem Kp.trans{a b c:Ms}(h:Kp a b)(h':Kp b c):Kp a c:=⟨h'.ok,Int.le_trans h'.sum h.sum,Int.le_trans h'.fl h.fl,by
 obtain⟨k,hk⟩:=h.inp;obtain⟨j,hj⟩:=h'.inp;exact⟨k+j,by rw [hj,hk,List.drop_drop]⟩⟩
theorem Kp.pay{s:Ms}(h:okMs s)(hf:¬s.fuel≤0):Kp s {s with fuel:=s.fuel-1}:=⟨⟨h.inp,h.mem,by have:=h.fuel;dsimp only;omega,by have:=h.out;dsimp only;omega⟩,by dsimp only;omega,by dsimp only;omega,0,by simp⟩
structure EvOk(fs:List Tf)(g:Nat):Prop where
 x:∀d vs t s v s',VX fs t→okVs vs→okMs s→d_ g fs d vs t s=some (.ok v s')→oW v∧Kp s s'
 k:∀d vs acc l s ks s',VXs fs l→okVs vs→okMs s→(∀a∈acc,oW a)→fR g fs d vs acc l s=some (.ok ks s')→(∀a∈ks,oW a)∧ks.length=acc.length+l.length∧Kp s s'
 c:∀d f al s v s',f∈fs→(∀a∈al,oW a)→okMs s→jS g fs d f al s=some (.ok v s')→oW v∧Kp s s'
 b:∀d vs l s p s',VYs fs l→okVs vs→okMs s→fA g fs d vs l s=some (.ok p s')→okVs p.1∧(∀x,p.2=some x→oW x)∧Kp s s'
 s:∀d vs t s p s',VY fs t→okVs vs→okMs s→gB g fs d vs t s=some (.ok p s')→okVs p.1∧(∀x,p.2=some x→oW x)∧Kp s s'
 w:∀d vs e l v s p s',VX fs e→VYs fs l→okVs vs→okMs s→i6 g fs d vs e l v s=some (.ok p s')→okVs p.1∧(∀x,p.2=some x→oW x)∧Kp s s'
theorem jA{ks:List Int}(h:∀a∈ks,oW a)(i:Nat):oW (ks.getD i 0):=by
 rw [List.getD_eq_getElem?_getD];cases hk:ks[i]? with
 | none=>exact l8
 | some a=>exact h a (List.mem_of_getElem? hk)
theorem fP{fs:List Tf}{x:ByteArray}{f:Tf}(h:ce fs x=some f):f∈fs:=List.mem_of_find?_eq_some h
theorem em{fs:List Tf}(hF:VF fs):∀g,EvOk fs g
 | 0=>⟨fun _ _ _ _ _ _ _ _ _ h=>by simp [d_]at h,fun _ _ _ _ _ _ _ _ _ _ _ h=>by simp [fR]at h,fun _ _ _ _ _ _ _ _ _ h=>by simp [jS]at h,fun _ _ _ _ _ _ _ _ _ h=>by simp [fA]at h,fun _ _ _ _ _ _ _ _ _ h=>by simp [gB]at h,fun _ _ _ _ _ _ _ _ _ _ _ _ h=>by simp [i6]at h⟩
 | g+1=>by
  have ih:=em hF g;refine⟨fun d vs t s v s' ht hv hs h=> ?_,fun d vs acc l s ks s' hl hv hs ha h=> ?_,fun d f al s v s' hf ha hs h=> ?_,fun d vs l s p s' hl hv hs h=> ?_,fun d vs t s p s' ht hv hs h=> ?_,fun d vs e l v s p s' he hl hv hs h=> ?_⟩
  · -- an expression
   unfold d_ at h;by_cases hfu:s.fuel≤0
   ·rw [if_pos hfu]at h;simp at h
   ·rw [if_neg hfu]at h;have hp:=Kp.pay hs hfu;cases hk:fR g fs d vs [] t.kids {s with fuel:=s.fuel-1}with
    | none=>rw [hk]at h;simp at h
    | some r=>
     cases r with
     | err e=>rw [hk]at h;simp at h
     | ok ks s1=>
      rw [hk]at h;dsimp only at h;have hkids:VXs fs t.kids:=by cases t;exact ht.2.2.2.2.2.2
      obtain⟨k1,k2,k3⟩:=ih.k d vs [] t.kids _ ks s1 hkids hv hp.ok (by simp) hk;have k4:=hp.trans k3;split at h
      ·simp only [Option.some.injEq,Re.ok.injEq]at h;obtain⟨rfl,rfl⟩:=h;exact⟨by cases t;exact ht.1,k4⟩
      ·split at h
       ·simp only [Option.some.injEq,Re.ok.injEq]at h;obtain⟨rfl,rfl⟩:=h;exact⟨hv.get _,k4⟩
       ·split at h
        ·simp only [Option.some.injEq,Re.ok.injEq]at h;obtain⟨rfl,rfl⟩:=h;exact⟨k4.ok.mem _,k4⟩
        ·split at h
         ·split at h
          ·simp only [Option.some.injEq,Re.ok.injEq]at h;obtain⟨rfl,rfl⟩:=h;exact⟨l8,k4⟩
          ·rename_i a r hi;simp only [Option.some.injEq,Re.ok.injEq]at h;obtain⟨rfl,rfl⟩:=h;refine⟨k4.ok.inp a (by rw [hi];simp),k4.trans ⟨⟨fun x hx=>k4.ok.inp x (by rw [hi];simp [hx]),k4.ok.mem,k4.ok.fuel,k4.ok.out⟩,Int.le_refl _,Int.le_refl _,1,by rw [hi];rfl⟩⟩
         ·split at h
          ·simp only [Option.some.injEq,Re.ok.injEq]at h;obtain⟨rfl,rfl⟩:=h;exact⟨MZ (jA k1 0),k4⟩
          ·split at h
           ·simp only [Option.some.injEq,Re.ok.injEq]at h;obtain⟨rfl,rfl⟩:=h;exact⟨M0 (jA k1 0) (jA k1 1),k4⟩
           ·split at h
            ·simp at h
            ·rename_i f hff;obtain⟨c1,c2⟩:=ih.c d f ks s1 v s' (fP hff) k1 k4.ok h;exact⟨c1,k4.trans c2⟩
  · -- parts
   cases l with
   | nil=>
    simp only [fR,Option.some.injEq,Re.ok.injEq]at h;obtain⟨rfl,rfl⟩:=h;exact⟨ha,by simp,Kp.refl hs⟩
   | cons t r=>
    unfold fR at h;cases hx:d_ g fs d vs t s with
    | none=>rw [hx]at h;simp at h
    | some q=>
     cases q with
     | err e=>rw [hx]at h;simp at h
     | ok v s1=>
      rw [hx]at h;dsimp only at h;obtain⟨x1,x2⟩:=ih.x d vs t s v s1 hl.1 hv hs hx;obtain⟨k1,k2,k3⟩:=ih.k d vs (acc++ [v]) r s1 ks s' hl.2 hv x2.ok (fun a hm=>by
       rcases List.mem_append.1 hm with hm|hm
       ·exact ha a hm
       ·rw [List.mem_singleton.1 hm];exact x1) h
      exact⟨k1,by rw [k2];simp;omega,x2.trans k3⟩
  · -- a call
   unfold jS at h;split at h
   ·simp at h
   ·cases hb:fA g fs (d+1) (dD [] f.ps al) f.body s with
    | none=>rw [hb]at h;simp at h
    | some q=>
     cases q with
     | err e=>rw [hb]at h;simp at h
     | ok p s1=>
      obtain⟨vs1,r⟩:=p;rw [hb]at h;simp only [Option.some.injEq,Re.ok.injEq]at h;obtain⟨rfl,rfl⟩:=h;obtain⟨b1,b2,b3⟩:=ih.b (d+1) _ f.body s _ s1 (hF f hf).2.2 (okVs.bind _ _ (fun p hp=>by simp at hp) ha) hs hb;refine⟨?_,b3⟩;cases r with
      | none=>exact l8
      | some x=>exact b2 x rfl
  · -- statements
   cases l with
   | nil=>
    simp only [fA,Option.some.injEq,Re.ok.injEq]at h;obtain⟨rfl,rfl⟩:=h;exact⟨hv,fun x hx=>by simp at hx,Kp.refl hs⟩
   | cons t r=>
    unfold fA at h;cases hx:gB g fs d vs t s with
    | none=>rw [hx]at h;simp at h
    | some q=>
     cases q with
     | err e=>rw [hx]at h;simp at h
     | ok q s1=>
      obtain⟨vs1,ro⟩:=q;obtain⟨x1,x2,x3⟩:=ih.s d vs t s _ s1 hl.1 hv hs hx;rw [hx]at h;cases ro with
      | some x=>
       simp only [Option.some.injEq,Re.ok.injEq]at h;obtain⟨rfl,rfl⟩:=h;exact⟨x1,x2,x3⟩
      | none=>
       dsimp only at h;obtain⟨b1,b2,b3⟩:=ih.b d vs1 r s1 p s' hl.2 x1 x3.ok h;exact⟨b1,b2,x3.trans b3⟩
  · -- a statement
   unfold gB at h;by_cases hfu:s.fuel≤0
   ·rw [if_pos hfu]at h;simp at h
   ·rw [if_neg hfu]at h;have hp:=Kp.pay hs hfu;obtain⟨kd,nm,ve,es,vb,body,vl,els⟩:=t;obtain⟨⟨e1,e2,e3,e4⟩,⟨b1,b2⟩,c1,c2⟩:=ht;cases es with
    | nil=>simp [Ty.es]at h
    | cons e r=>
     simp only [Ty.es]at h;cases hx:d_ g fs d vs e {s with fuel:=s.fuel-1}with
     | none=>rw [hx]at h;simp at h
     | some q=>
      cases q with
      | err z=>rw [hx]at h;simp at h
      | ok v s1=>
       rw [hx]at h;dsimp only at h;obtain⟨x1,x2⟩:=ih.x d vs e _ v s1 e4.1 hv hp.ok hx;have x3:=hp.trans x2;split at h
       ·simp only [Option.some.injEq,Re.ok.injEq]at h;obtain⟨rfl,rfl⟩:=h;exact⟨hv.put _ x1,fun x hx=>by simp at hx,x3⟩
       ·split at h
        ·cases r with
         | nil=>simp at h
         | cons e5 r=>
          dsimp only at h;cases hx2:d_ g fs d vs e5 s1 with
          | none=>rw [hx2]at h;simp at h
          | some q=>
           cases q with
           | err z=>rw [hx2]at h;simp at h
           | ok w s2=>
            rw [hx2]at h;simp only [Option.some.injEq,Re.ok.injEq]at h;obtain⟨rfl,rfl⟩:=h;obtain⟨y1,y2⟩:=ih.x d vs e5 s1 w s2 e4.2.1 hv x3.ok hx2;have y3:=x3.trans y2;refine⟨hv,fun x hx=>by simp at hx,y3.trans ⟨⟨y3.ok.inp,fun i=> ?_,y3.ok.fuel,y3.ok.out⟩,Int.le_refl _,Int.le_refl _,0,by simp⟩⟩;dsimp only [rL];split
            ·exact y1
            ·exact y3.ok.mem i
        ·split at h
         ·obtain⟨z1,z2,z3⟩:=ih.b d vs (if v=0 then els else body) s1 p s' (by split<;>assumption) hv x3.ok (by simpa only [Ty.els,Ty.body]using h);exact⟨z1,z2,x3.trans z3⟩
         ·split at h
          ·obtain⟨z1,z2,z3⟩:=ih.w d vs e body v s1 p s' e4.1 b2 hv x3.ok (by simpa only [Ty.body]using h);exact⟨z1,z2,x3.trans z3⟩
          ·split at h
           ·simp only [Option.some.injEq,Re.ok.injEq]at h;obtain⟨rfl,rfl⟩:=h;exact⟨hv,fun x hx=>by simp at hx;rw [←hx];exact x1,x3⟩
           ·split at h
            ·simp only [Option.some.injEq,Re.ok.injEq]at h;obtain⟨rfl,rfl⟩:=h;have x4:=x2.sum;have x5:=hs.out;dsimp only at x4;obtain⟨k,hk⟩:=x3.inp;exact⟨hv,fun x hx=>by simp at hx,⟨⟨x3.ok.inp,x3.ok.mem,x3.ok.fuel,by dsimp only;rw [List.length_append,List.length_singleton];omega⟩,by dsimp only;rw [List.length_append,List.length_singleton];omega,x3.fl,k,hk⟩⟩
            ·simp only [Option.some.injEq,Re.ok.injEq]at h;obtain⟨rfl,rfl⟩:=h;exact⟨hv,fun x hx=>by simp at hx,x3⟩
  · -- a loop
   unfold i6 at h;split at h
   ·simp only [Option.some.injEq,Re.ok.injEq]at h;obtain⟨rfl,rfl⟩:=h;exact⟨hv,fun x hx=>by simp at hx,Kp.refl hs⟩
   ·cases hb:fA g fs d vs l s with
    | none=>rw [hb]at h;simp at h
    | some q=>
     cases q with
     | err z=>rw [hb]at h;simp at h
     | ok q s1=>
      obtain⟨vs1,ro⟩:=q;obtain⟨x1,x2,x3⟩:=ih.b d vs l s _ s1 hl hv hs hb;rw [hb]at h;cases ro with
      | some x=>
       simp only [Option.some.injEq,Re.ok.injEq]at h;obtain⟨rfl,rfl⟩:=h;exact⟨x1,x2,x3⟩
      | none=>
       dsimp only at h;cases hx:d_ g fs d vs1 e s1 with
       | none=>rw [hx]at h;simp at h
       | some q=>
        cases q with
        | err z=>rw [hx]at h;simp at h
        | ok w s2=>
         rw [hx]at h;dsimp only at h;obtain⟨y1,y2⟩:=ih.x d vs1 e s1 w s2 he x1 x3.ok hx;have y3:=x3.trans y2;obtain⟨z1,z2,z3⟩:=ih.w d vs1 e l w s2 p s' he hl x1 y3.ok h;exact⟨z1,z2,y3.trans z3⟩
end Go.Proofs.YtedmdgbmdplifaaGreat
namespace Go.Proofs.YtedmdgbmdplifaaGreat
set_option linter.unusedSimpArgs false
set_option linter.unusedVariables false
open Go.ChangeShapes Go.WideShapes Go.ChangeAt Go.RowKit
abbrev O3(n:Int):Prop:= -9223372036854775808≤n∧n<9223372036854775808
theorem nN{n:Int}(h:(Lit.int .i64 n).wf=true):O3 n:=by
 simp only [Lit.wf,Bool.and_eq_true,decide_eq_true_eq]at h;have h1:IntKind.i64.min= -9223372036854775808:=by decide
 have h2:IntKind.i64.max=9223372036854775807:=by decide
 rw [h1,h2]at h;exact⟨h.1,by omega⟩
section
variable{H:Type}{enc:TypeId×Value→H}{P:Program}
theorem sf{W:World}{r:Reach}{b0 base:Nat}{spare:Nat→Bool}{held:Bool}{t e:TypeId}{v:Value}{d:DataW H}{p:List MemPlace}(ht:P.underlying t=some (.slice e))(he:P.underlying e=some (.int .u32))
  (hce:P.cellsOf e=1) (hv:Value.okWide P W r b0 t v) (h:DataW.Trod enc P W base spare held t v d p):
  ∃(x:SV)(s:List Int),v=sv x∧(∀n∈s,oW n)∧∃G:Nat→Prop,ng W G 1 eU (sv x) s∧∀b,G b→b<W.heap.size:=by
 have hv':Cell.ok P W r b0 t v:=by
  have:Cell.okWide P W r b0 t v:=by simpa [Value.okWide,ht]using hv
  simpa [Cell.okWide,ht]using this
 obtain⟨va,vn,vc,rfl⟩:∃a n c,v= .slice a n c:=by
  cases v with
  | slice a n c=>exact⟨a,n,c,rfl⟩
  | _=>simp [Cell.ok,ht]at hv'
 obtain⟨fuel,hf⟩:=h;rcases open_ints ht he hce hf with⟨hc,-⟩|⟨a,len,cap,zs,hc,-,h1,h2,h3,-,h5,h6⟩
 ·simp [Value.cells]at hc;obtain⟨rfl,rfl,rfl⟩:=hc;refine⟨⟨none,0,0⟩,[],J,by simp,fun _=>False,⟨0,by simp,by unfold maxLen;omega,.inl ⟨rfl,fun _ h=>h,rfl⟩⟩,fun _ h=>h.elim⟩
 ·simp [Value.cells]at hc;obtain⟨rfl,rfl,rfl⟩:=hc;have hh:W.has P r b0 a e vc:=by
   simp [Cell.ok,ht]at hv';exact hv'.2.2
  obtain⟨hs,hb⟩:=Kx hh;obtain⟨ab,ao,asp⟩:=a;dsimp only at hs hb;subst hs;have hzl:vn≤zs.length:=by split at h3<;>omega
  have htl:(zs.take vn).length=vn:=by rw [List.length_take];omega
  refine⟨⟨some ⟨ab,ao,none⟩,vn,vc⟩,zs.take vn,J,fun n hn=>nw (h6 n (List.mem_of_mem_take hn)),fun b=>b=ab,⟨vc,by omega,h2,.inr ⟨ab,ao,by rw [htl];rfl,rfl,?_⟩⟩,fun b hb'=>hb'▸hb⟩;intro j u hj;have hfm:(zs.take vn).flatMap eU=(zs.take vn).map (Value.int .u32):=by
   induction zs.take vn with
   | nil=>rfl
   | cons x xs ih=>simp [eU,ih]
  rw [hfm,List.getElem?_map]at hj;have hjl:j<vn:=by
   rcases Nat.lt_or_ge j vn with h|h
   ·exact h
   ·rw [List.getElem?_eq_none (by omega)]at hj;simp at hj
  have:=h5 j (by omega);rw [List.getElem?_take,if_pos hjl,List.getElem?_eq_getElem (by omega)]at hj;rw [List.getD_eq_getElem?_getD,List.getElem?_eq_getElem (by omega)]at this;simp at hj this;rw [←hj,←this];unfold Addr.add;split
  ·subst_vars;rfl
  ·rfl
end
end Go.Proofs.YtedmdgbmdplifaaGreat
namespace Go.Proofs.YtedmdgbmdplifaaGreat
set_option linter.unusedSimpArgs false
set_option linter.unusedVariables false
open Go.RowKit
section
variable{mf mu mb:Nat}{vi vo:SV}{mem:Nat→Int}{fuel d:Int}{rt:Bool}{val:Int}
theorem tD{l:List Value}{o:Nat}{v:Value}(h:o<l.length):l.take o++ [v]++l.drop (o+ [v].length)=l.set o v:=by
 rw [List.set_eq_take_append_cons_drop,if_pos h];simp
theorem GA{i:Nat}(hi:i<256){v:Int}:((List.range 256).map (fun i=>Value.int .u32 (mem i))).set i (.int .u32 v)=(List.range 256).map (fun k=> .int .u32 (rL mem i v k)):=by
 apply List.ext_getElem?;intro j;rw [List.getElem?_set,List.getElem?_map,List.getElem?_map,List.length_map,List.length_range];by_cases hj:j<256
 ·rw [List.getElem?_range hj];by_cases hij:i=j
  ·subst hij;rw [if_pos J,if_pos hi];simp [rL]
  ·rw [if_neg hij];have:¬j=i:=fun e=>hij e.symm
   simp [rL,this]
 ·rw [if_neg (by omega)];have:(List.range 256)[j]?=none:=by rw [List.getElem?_eq_none];simp;omega
  rw [this];rfl
end
structure En where
 m:Nat
 mf:Nat
 mu:Nat
 mb:Nat
 vin:SV
 ins:List Int
 fs:List Tf
def LA(f:Tf):Value:= .agg (iR f).toArray
def Hq(fs:List Tf):Asn:=⟨fun w F=>∀f∈fs,TfIn w F f,fun h hs f hf=>(h f hf).stable hs⟩
theorem Ni{fs:List Tf}{f:Tf}(hf:f∈fs):∀w G,(Hq fs).pred w G→(∀b,G b→b<w.heap.size)→∃G',(y_ f).pred w G'∧∀b,G' b→G b:=fun w G h _=>⟨G,h f hf,fun _ hb=>hb⟩
def B0(v:SV):Nat→SV
 | 0=>v
 | k+1=>Ff (B0 v k) 1 1
theorem DJ{w:World}{G:Nat→Prop}{v:SV}{l:List Int}(h:ng w G 1 eU (sv v) l):∀k,k≤l.length→ng w G 1 eU (sv (B0 v k)) (l.drop k)
 | 0,_=>by simpa [B0]using h
 | k+1,hk=>by
  have h2:1≤(l.drop k).length:=by rw [List.length_drop];omega
  have h3:=Ig (enc:=eU) (fun _=>J) h2 (DJ h k (by omega));rw [List.drop_drop]at h3;exact h3
def SkI(e:En)(s:Ms):Prop:=∃k,k≤e.ins.length∧s.inp=e.ins.drop k
theorem SkI.len{e:En}{s:Ms}(h:SkI e s):s.inp.length≤e.ins.length∧s.inp=e.ins.drop (e.ins.length-s.inp.length):=by
 obtain⟨k,h1,h2⟩:=h;have h3:s.inp.length=e.ins.length-k:=by rw [h2,List.length_drop]
 exact⟨by omega,by rw [h3,show e.ins.length-(e.ins.length-k)=k by omega];exact h2⟩
theorem SkI.kp{e:En}{s s':Ms}(h:SkI e s)(h':Kp s s'):SkI e s':=by
 obtain⟨k,h1,h2⟩:=h;obtain⟨j,hj⟩:=h'.inp;rw [h2,List.drop_drop]at hj;by_cases hk:k+j≤e.ins.length
 ·exact⟨k+j,hk,hj⟩
 ·exact⟨e.ins.length,Nat.le_refl _,by rw [hj,List.drop_of_length_le (by omega),List.drop_length]⟩
theorem GK{e:En}{s:Ms}(h:SkI e s):∀w G,(sl 1 eU (sv e.vin) e.ins).pred w G→(∀b,G b→b<w.heap.size)→∃G',(sl 1 eU (sv (B0 e.vin (e.ins.length-s.inp.length))) s.inp).pred w G'∧∀b,G' b→G b:=fun w G hG _=>
 ⟨G,by
  have:=DJ hG (e.ins.length-s.inp.length) (by omega);rw [←h.len.2]at this;exact this,fun _ hb=>hb⟩
structure Sk(e:En)(vs:Vs)(s:Ms):Prop where
 v:okVs vs
 ok:okMs s
 i:SkI e s
theorem Sk.kp{e:En}{vs:Vs}{s s':Ms}(h:Sk e vs s)(h':Kp s s'):Sk e vs s':=⟨h.v,h'.ok,h.i.kp h'⟩
theorem Ht{g:Nat}{fs:List Tf}{d:Nat}{vs:Vs}{acc:List Int}{s:Ms}{rk:Re (List Int)}(h:fR g fs d vs acc [] s=some rk):rk= .ok acc s:=by
 cases g with
 | zero=>simp [fR]at h
 | succ g=>
  simp only [fR,Option.some.injEq]at h;exact h.symm
theorem El{g:Nat}{fs:List Tf}{d:Nat}{vs:Vs}{acc:List Int}{t:Tx}{r:List Tx}{s:Ms}{rk:Re (List Int)}(h:fR g fs d vs acc (t::r) s=some rk):
  ∃g2 rx,g=g2+1∧d_ g2 fs d vs t s=some rx∧(∀z,rx= .err z→rk= .err z)∧∀v s1,rx= .ok v s1→fR g2 fs d vs (acc++ [v]) r s1=some rk:=by
 cases g with
 | zero=>simp [fR]at h
 | succ g=>
  unfold fR at h;cases hx:d_ g fs d vs t s with
  | none=>rw [hx]at h;simp at h
  | some rx=>
   rw [hx]at h;refine⟨g,rx,J,hx,fun z hz=> ?_,fun v s1 hv=> ?_⟩
   ·subst hz;exact(Option.some.inj h).symm
   ·subst hv;exact h
theorem E_{l:List Int}(h:∀a∈l,oW a){v:Int}(hv:oW v):∀a∈l++ [v],oW a:=fun a ha=>by
 rcases List.mem_append.1 ha with ha|ha
 ·exact h a ha
 ·rw [List.mem_singleton.1 ha];exact hv
theorem wn{α:Type}{l:List α}{i:Nat}{k:α}(h:l[i]?=some k):l.drop i=k::l.drop (i+1):=by
 obtain⟨hi,hk⟩:=List.getElem?_eq_some_iff.1 h;rw [List.drop_eq_getElem_cons hi,hk]
theorem uy{fs:List Tf}{t:Tx}(h:VX fs t):VXs fs t.kids:=by cases t;exact h.2.2.2.2.2.2
theorem Lr{fs:List Tf}{t:Tx}(h:VX fs t):t.kids.length≤1000000:=by cases t;exact h.2.1
theorem Ln{fs:List Tf}{t:Tx}(h:VX fs t)(hk:t.kind=4):1≤t.kids.length:=by cases t;exact h.2.2.1 hk
theorem OP{fs:List Tf}{t:Tx}(h:VX fs t)(hk:t.kind=6):1≤t.kids.length∧∀a,(BX t.name a).isSome=true:=by cases t;exact h.2.2.2.1 hk
theorem OQ{fs:List Tf}{t:Tx}(h:VX fs t)(hk:t.kind=7):2≤t.kids.length∧∀a b,(nr t.name a b).isSome=true:=by cases t;exact h.2.2.2.2.1 hk
theorem AP{fs:List Tf}{t:Tx}(h:VX fs t)(h1:¬t.kind=1)(h2:¬t.kind=2)(h4:¬t.kind=4)(h5:¬t.kind=5)(h6:¬t.kind=6)(h7:¬t.kind=7):∃f,ce fs t.name=some f∧t.kids.length≤f.ps.length:=by cases t;exact h.2.2.2.2.2.1 h1 h2 h4 h5 h6 h7
theorem Hu{g:Nat}{fs:List Tf}{d:Nat}{vs:Vs}{s:Ms}{r:Re (Vs×Option Int)}(h:fA g fs d vs [] s=some r):r= .ok (vs,none) s:=by
 cases g with
 | zero=>simp [fA]at h
 | succ g=>
  simp only [fA,Option.some.injEq]at h;exact h.symm
theorem Em{g:Nat}{fs:List Tf}{d:Nat}{vs:Vs}{t:Ty}{l:List Ty}{s:Ms}{r:Re (Vs×Option Int)}(h:fA g fs d vs (t::l) s=some r):
  ∃g2 q,g=g2+1∧gB g2 fs d vs t s=some q∧(∀z,q= .err z→r= .err z)∧(∀vs1 x s1,q= .ok (vs1,some x) s1→r= .ok (vs1,some x) s1)∧∀vs1 s1,q= .ok (vs1,none) s1→fA g2 fs d vs1 l s1=some r:=by
 cases g with
 | zero=>simp [fA]at h
 | succ g=>
  unfold fA at h;cases hx:gB g fs d vs t s with
  | none=>rw [hx]at h;simp at h
  | some q=>
   rw [hx]at h;refine⟨g,q,J,hx,fun z hz=> ?_,fun vs1 x s1 hv=> ?_,fun vs1 s1 hv=> ?_⟩
   ·subst hz;exact(Option.some.inj h).symm
   ·subst hv;exact(Option.some.inj h).symm
   ·subst hv;exact h
theorem Hr{g:Nat}{fs:List Tf}{d:Nat}{vs:Vs}{e:Tx}{l:List Ty}{v:Int}{s:Ms}{r:Re (Vs×Option Int)}(h:i6 g fs d vs e l v s=some r)(hv:v=0):r= .ok (vs,none) s:=by
 cases g with
 | zero=>simp [i6]at h
 | succ g=>
  unfold i6 at h;rw [if_pos hv]at h;exact(Option.some.inj h).symm
theorem KO{g:Nat}{fs:List Tf}{d:Nat}{vs:Vs}{e:Tx}{l:List Ty}{v:Int}{s:Ms}{r:Re (Vs×Option Int)}(h:i6 g fs d vs e l v s=some r)(hv:¬v=0):
  ∃g2 q,g=g2+1∧fA g2 fs d vs l s=some q∧(∀z,q= .err z→r= .err z)∧(∀vs1 x s1,q= .ok (vs1,some x) s1→r= .ok (vs1,some x) s1)∧
   ∀vs1 s1,q= .ok (vs1,none) s1→∃rx,d_ g2 fs d vs1 e s1=some rx∧(∀z,rx= .err z→r= .err z)∧∀w s2,rx= .ok w s2→i6 g2 fs d vs1 e l w s2=some r:=by
 cases g with
 | zero=>simp [i6]at h
 | succ g=>
  unfold i6 at h;rw [if_neg hv]at h;cases hx:fA g fs d vs l s with
  | none=>rw [hx]at h;simp at h
  | some q=>
   rw [hx]at h;refine⟨g,q,J,hx,fun z hz=> ?_,fun vs1 x s1 hq=> ?_,fun vs1 s1 hq=> ?_⟩
   ·subst hz;exact(Option.some.inj h).symm
   ·subst hq;exact(Option.some.inj h).symm
   ·subst hq;dsimp only at h;cases hy:d_ g fs d vs1 e s1 with
    | none=>rw [hy]at h;simp at h
    | some rx=>
     rw [hy]at h;refine⟨rx,J,fun z hz=> ?_,fun w s2 hz=> ?_⟩
     ·subst hz;exact(Option.some.inj h).symm
     ·subst hz;exact h
section
end
theorem Jf{fs:List Tf}{t:Ty}(h:VY fs t):1≤t.es.length∧t.es.length≤1000000∧(t.kind=3→2≤t.es.length)∧VXs fs t.es:=by cases t;exact h.1
theorem jP{fs:List Tf}{t:Ty}(h:VY fs t):t.body.length≤1000000∧VYs fs t.body:=by cases t;exact h.2.1
theorem yQ{fs:List Tf}{t:Ty}(h:VY fs t):t.els.length≤1000000∧VYs fs t.els:=by cases t;exact h.2.2
def wT{α:Type}(p:α→Bool)(l:List α):Int:=match l.findIdx? p with
 | some i=>(i:Int)
 | none=> -1
theorem nM{α:Type}{p:α→Bool}{l:List α}{k:Nat}{x:α}(hk:l[k]?=some x)(hp:p x=true)(hb:∀i y,i<k→l[i]?=some y→p y=false):wT p l=(k:Int):=by
 have h:l.findIdx? p=some k:=by
  rw [List.findIdx?_eq_some_iff_getElem];obtain⟨h1,h2⟩:=List.getElem?_eq_some_iff.1 hk;refine⟨h1,by rw [h2];exact hp,fun j hj=> ?_⟩;have:=hb j l[j] hj (List.getElem?_eq_getElem (by omega));simp [this]
 unfold wT;rw [h]
theorem nL{α:Type}{p:α→Bool}{l:List α}(hb:∀i y,i<l.length→l[i]?=some y→p y=false):wT p l= -1:=by
 have h:l.findIdx? p=none:=by
  rw [List.findIdx?_eq_none_iff];intro x hx;obtain⟨i,hi,rfl⟩:=List.mem_iff_getElem.1 hx;exact hb i _ hi (List.getElem?_eq_getElem hi)
 unfold wT;rw [h]
theorem DI(v:SV)(l:List ByteArray)(hl:l.length≤1000000)(n:Nat)(p:ByteArray→Bool)(hcb:Cb Tryz.prog n)(hs:∀s∈l,Spec Tryz.prog n [.string s] [] [] (X:=Unit) (fun _=>True) (fun _=> .bool (p s)) (fun _=> []) (fun _=> [])):
  Spec Tryz.prog 154 [sv v,.func (.func n) #[] #[]] [] [sl 1 eS (sv v) l] (X:=Unit) (fun _=>True) (fun _=> .int .i64 (wT p l)) (fun _=> []) (fun _=> []):=by
 refine aF Tryz.func154 J Tryz.ntmps154 J fun w0 M H=>ae (aa (aj (ag J) J (ai (ae (ae (aa (aj (ac J) J (aj (aO Tryz.underlying46 J (aK (k:=0) J)) J (aj (ac J) J (ai (aB ?_)))))))))))
 refine bk (X:=Nat) (fun k=>k≤l.length∧∀i y,i<k→l[i]?=some y→p y=false) (fun k=> [(0,sv v),(1,.func (.func n) #[] #[]),(7,.int .i64 (l.length:Int)),(8,.int .i64 (k:Int))]) (fun k=> []) (fun k=> [(0,sl 1 eS (sv v) l)]) (fun k=>l.length-k) 0 ⟨Nat.zero_le _,fun i y hi=>by omega⟩ J J J (fun k hk0=> ?_);obtain⟨n1,n2⟩:=hk0;refine ae (aa (aj (am J J b_) J (ai (ae (ar J (fun h1=> ?_) (fun h1=> ?_))))))
 ·(try simp only [aV]at h1)
  have hk:k<l.length:=by omega
  obtain⟨x,hx⟩:∃x,l[k]?=some x:=⟨_,List.getElem?_eq_getElem hk⟩
  refine az (ae (aB (ae (aa (aj (ac J) J (aj (ag J) J (ai (ae (aa (aj (ac J) J (aj (ac J) J (aj (ac J) J (aj (aN (j:=k) Tryz.underlying46 t9 J J (aK (k:=0) J) (by first|rfl|omega) (by first|omega|(simp;done)|(simp;omega))) J ?_)))))))))))));refine aj (ak t9 J J (bv (aK (k:=0) J) (by intro _;rfl) hx (by rfl))) J (bF (xs:= [.tmp 15]) (hs x (List.mem_of_getElem? hx)) hcb [] [] [] [] J J J J J J J J (fun _ _=>J) (fun _ _ _=>J) J (fun _ _=>ai (ar J (fun h2=> ?_) (fun h2=> ?_))))
  ·have hq:p x=true:=h2;refine ae (aa (aj (ac J) J (aj (ag J) J (ai (aw (aG () trivial J (bx (aH J)) (by rw [nM hx hq n2]) [] [] J J J))))))
  ·have hq:p x=false:=h2;refine az (aa (aj (am J J (aX (by first|exact aU (by omega) (by omega)|rfl))) J (aj (ac J) J (ai ?_))));refine aL (k+1) ⟨⟨by omega,fun i y hi hy=>by rcases Nat.lt_succ_iff_lt_or_eq.1 hi with h|h;exact n2 i y h hy;rw [h,hx]at hy;rw [←Option.some.inj hy];exact hq⟩,by omega⟩ J J J
 ·(try simp only [aV]at h1)
  have hk:k=l.length:=by omega
  subst hk;refine bn (ae (aa (aj (ag J) J (ai (aw (aG () trivial J (bx (aH J)) (by rw [nL n2]) [] [] J J J))))))
theorem x7(v:SV)(l:List ByteArray)(hl:l.length≤1000000)(s:ByteArray):
  Spec Tryz.prog 184 [sv v,.string s] [] [sl 1 eS (sv v) l] (X:=Unit) (fun _=>True) (fun _=> .int .i64 (wT (fun x=>decide (s=x)) l)) (fun _=> []) (fun _=> []):=by
 refine aF Tryz.func184 J Tryz.ntmps184 J fun w0 M H=>ae (aa (aj (ag J) J (ai (ae (ae (aa (aj (ac J) J (aj (aO Tryz.underlying46 J (aK (k:=0) J)) J (aj (ac J) J (ai (aB ?_)))))))))))
 refine bk (X:=Nat) (fun k=>k≤l.length∧∀i y,i<k→l[i]?=some y→(fun x=>decide (s=x)) y=false) (fun k=> [(0,sv v),(1,.string s),(7,.int .i64 (l.length:Int)),(8,.int .i64 (k:Int))]) (fun k=> []) (fun k=> [(0,sl 1 eS (sv v) l)]) (fun k=>l.length-k) 0 ⟨Nat.zero_le _,fun i y hi=>by omega⟩ J J J (fun k hk0=> ?_);obtain⟨n1,n2⟩:=hk0;refine ae (aa (aj (am J J b_) J (ai (ae (ar J (fun h1=> ?_) (fun h1=> ?_))))))
 ·(try simp only [aV]at h1)
  have hk:k<l.length:=by omega
  obtain⟨x,hx⟩:∃x,l[k]?=some x:=⟨_,List.getElem?_eq_getElem hk⟩
  refine az (ae (aB (ae (aa (aj (ac J) J (aj (ag J) J (ai (ae (aa (aj (ac J) J (aj (ac J) J (aj (ac J) J (aj (aN (j:=k) Tryz.underlying46 t9 J J (aK (k:=0) J) (by first|rfl|omega) (by first|omega|(simp;done)|(simp;omega))) J ?_)))))))))))));refine aj (ak t9 J J (bv (aK (k:=0) J) (by intro _;rfl) hx (by rfl))) J (aj (am J J ci) J (ai (ar J (fun h2=> ?_) (fun h2=> ?_))))
  ·have hq:decide (s=x)=true:=by rw [←bR];exact h2
   refine ae (aa (aj (ac J) J (aj (ag J) J (ai (aw (aG () trivial J (bx (aH J)) (by rw [nM hx hq n2]) [] [] J J J))))))
  ·have hq:decide (s=x)=false:=by rw [←bR];exact h2
   refine az (aa (aj (am J J (aX (by first|exact aU (by omega) (by omega)|rfl))) J (aj (ac J) J (ai ?_))));refine aL (k+1) ⟨⟨by omega,fun i y hi hy=>by rcases Nat.lt_succ_iff_lt_or_eq.1 hi with h|h;exact n2 i y h hy;rw [h,hx]at hy;rw [←Option.some.inj hy];exact hq⟩,by omega⟩ J J J
 ·(try simp only [aV]at h1)
  have hk:k=l.length:=by omega
  subst hk;refine bn (ae (aa (aj (ag J) J (ai (aw (aG () trivial J (bx (aH J)) (by rw [nL n2]) [] [] J J J))))))
def bX(s:ByteArray)(l:List ByteArray):Bool:=l.any fun x=>decide (s=x)
theorem Ks{l:List ByteArray}{s:ByteArray}:decide (wT (fun x=>decide (s=x)) l≥0)=bX s l:=by
 unfold wT bX;cases h:l.findIdx? (fun x=>decide (s=x))with
 | none=>
  rw [List.findIdx?_eq_none_iff]at h;have:(l.any fun x=>decide (s=x))=false:=List.any_eq_false.2 fun x hx=>by rw [h x hx];simp
  rw [this];rfl
 | some i=>
  rw [List.findIdx?_eq_some_iff_getElem]at h;obtain⟨h1,h2,_⟩:=h;have:(l.any fun x=>decide (s=x))=true:=List.any_eq_true.2 ⟨_,List.getElem_mem h1,h2⟩;rw [this];exact decide_eq_true (Int.natCast_nonneg i)
theorem gp(v:SV)(l:List ByteArray)(hl:l.length≤1000000)(s:ByteArray):
  Spec Tryz.prog 155 [sv v,.string s] [] [sl 1 eS (sv v) l] (X:=Unit) (fun _=>True) (fun _=> .bool (bX s l)) (fun _=> []) (fun _=> []):=by
 refine aF Tryz.func155 J Tryz.ntmps155 J fun w0 M H=>ae (aa (aj (ag J) J (ai (ae (aa (aj (ac J) J (aj (ac J) J (bF (xs:= [.tmp 5,.tmp 6]) (x7 v l hl s) NW [] [(false,0)] [] [] J J J J J J J J (fun _ _=>J) (fun _ _ _=>J) J (fun _ _=>aj (am J J eV) J (aj (ag J) J (ai (aw ?_))))))))))))
 refine aG () trivial J (bx (aH J)) (congrArg Value.bool Ks) [] [] J J J
def rO:List ByteArray:= [(⟨#[101,108,115,101]⟩:ByteArray),(⟨#[102,110]⟩:ByteArray),(⟨#[105,102]⟩:ByteArray),(⟨#[105,110]⟩:ByteArray),(⟨#[109,101,109]⟩:ByteArray),(⟨#[111,117,116]⟩:ByteArray),(⟨#[114,101,116,117,114,110]⟩:ByteArray),(⟨#[118,97,114]⟩:ByteArray),(⟨#[119,104,105,108,101]⟩:ByteArray)]
def mN(c:Int):Bool:=decide (c≥97)&&decide (c≤122)
def iB(c:Int):Bool:=decide (c≥48)&&decide (c≤57)
theorem rQ:
  Spec Tryz.prog 156 [] [] [] (X:=SV) (fun _=>True) (fun u=>sv u) (fun u=> [own 9 1 eS (sv u) rO]) (fun _=> []):=by
 refine aF Tryz.func156 J Tryz.ntmps156 J fun w0 M H=>ae (aa (aj (ag J) J (ai (ae (aa (cu eS rO (parts:= [(0,.const (.string (ByteArray.mk #[101,108,115,101]))),(1,.const (.string (ByteArray.mk #[102,110]))),(2,.const (.string (ByteArray.mk #[105,102]))),(3,.const (.string (ByteArray.mk #[105,110]))),(4,.const (.string (ByteArray.mk #[109,101,109]))),(5,.const (.string (ByteArray.mk #[111,117,116]))),(6,.const (.string (ByteArray.mk #[114,101,116,117,114,110]))),(7,.const (.string (ByteArray.mk #[118,97,114]))),(8,.const (.string (ByteArray.mk #[119,104,105,108,101])))]) Tryz.underlying46 t9 J (by decide) (by intro _;rfl) J (by decide) (by decide) J J J J fun v1=>aj (ag J) J (ai (aw (aG v1 trivial J (bx (aH J)) J [1] [] J J J)))))))))
theorem oj(c:Int):
  Spec Tryz.prog 157 [.int .i32 c] [] [] (X:=Unit) (fun _=>True) (fun _=> .bool (mN c)) (fun _=> []) (fun _=> []):=by
 refine aF Tryz.func157 J Tryz.ntmps157 J fun w0 M H=>ae (aa (aj (ag J) J (ai (ae (aa (aj (ac J) J (aj (am J J eV) J (aj (ac J) J (aA [] J J trivial (fun hg1=>ac J) J (aA [(6,_)] J J ⟨J,trivial⟩ (fun hg2=>am J J jj) J (aj (aM J J J (by first|exact ax|exact aC|rfl)) J (aj (ag J) J ?_))))))))))))
 refine ai (aw (aG () trivial J (bx (aH J)) J [] [] J J J))
theorem yw(c:Int):
  Spec Tryz.prog 160 [.int .i32 c] [] [] (X:=Unit) (fun _=>True) (fun _=> .bool (iB c)) (fun _=> []) (fun _=> []):=by
 refine aF Tryz.func160 J Tryz.ntmps160 J fun w0 M H=>ae (aa (aj (ag J) J (ai (ae (aa (aj (ac J) J (aj (am J J eV) J (aj (ac J) J (aA [] J J trivial (fun hg1=>ac J) J (aA [(6,_)] J J ⟨J,trivial⟩ (fun hg2=>am J J jj) J (aj (aM J J J (by first|exact ax|exact aC|rfl)) J (aj (ag J) J ?_))))))))))))
 refine ai (aw (aG () trivial J (bx (aH J)) J [] [] J J J))
theorem vS(c:Int):
  Spec Tryz.prog 159 [.int .i32 c] [] [] (X:=Unit) (fun _=>True) (fun _=> .bool (mN c || iB c)) (fun _=> []) (fun _=> []):=by
 refine aF Tryz.func159 J Tryz.ntmps159 J fun w0 M H=>ae (aa (aj (ag J) J (ai (ae (aa (aj (ac J) J (bF (xs:= [.tmp 3]) (oj c) I0 [] [] [] [] J J J J J J J J (fun _ _=>J) (fun _ _ _=>J) J (fun _ _=>aj (ac J) J (gS (t:=5) J (fun h1=> ?_) (fun h1=> ?_))))))))))
 ·(try simp only [aV]at h1)
  have hq:mN c=true:=h1;refine dH J J J J (dH J J J J (aj (aM J J J (by first|exact ax|exact aC|rfl)) J (aj (ag J) J (ai (aw (aG () trivial J (bx (aH J)) (by first|(rw [hq];done)|(rw [hq];rfl)|(rw [hq];simp)) [] [] J J J))))))
 ·(try simp only [aV]at h1)
  have hq:mN c=false:=by simpa using h1
  refine cf J J (aj (ac J) J (cf J J (bF (xs:= [.tmp 6]) (yw c) N8 [] [] [] [] J J J J J J J J (fun _ _=>J) (fun _ _ _=>J) J (fun _ _=>aj (aM J J J (by first|exact ax|exact aC|rfl)) J (aj (ag J) J (ai (aw (aG () trivial J (bx (aH J)) (by first|(rw [hq];done)|(rw [hq];rfl)|(rw [hq];simp)) [] [] J J J))))))))
def sZ(s:ByteArray):Int:=((s.data.toList.headD 0).toNat:Int)
def yP(p:Int→Bool)(s:ByteArray):Bool:=s.data.toList.all fun b=>p (b.toNat:Int)
def bS(s:ByteArray):Bool:=decide (s.size≠0)&&decide (s.size≤12)&& !bX s rO&&mN (sZ s)&&yP (fun c=>mN c || iB c) s
def Li(s:ByteArray):Prop:=∀(i:Nat)(h:i<s.size),(s[i]'h).toNat<128
def wS(s:ByteArray):Prop:=Li s∧s.size≤1000000
def oNil:ByteArray:=⟨#[]⟩
def cx:ByteArray:=⟨#[109,97,105,110]⟩
def wN:List ByteArray:= [dw,qf,rJ]
def lvL:List (ByteArray×Int):= [(jt,7),(iV,7),(ff,7),(dw,6),(eG,6),(fy,5),(fe,5),(l9,4),(li,4),(lh,4),(jZ,4),(lg,3),(lm,3),(dW,2),(d6,1),(iH,0)]
def gw(s:ByteArray):Bool:=(lvL.find? fun p=>decide (p.1=s)).isSome
def oP(k:Int)(nm:ByteArray)(n:Nat):Bool:=
 if k=1∨k=5 then decide (nm=oNil)&&decide (n=0)else if k=2 then bS nm&&decide (n=0)else if k=3 then bS nm else
 if k=4 then decide (nm=oNil)&&decide (n=1)else if k=6 then bX nm wN&&decide (n=1)else if k=7 then gw nm&&decide (n=2)else false
mutual
def rX:Tx→Bool
 | .mk k n nm _ kids=>oP k nm kids.length&&(decide (k=1) || decide (n=0))&&oN kids
def oN:List Tx→Bool
 | []=>true
 | t::r=>rX t&&oN r
end
def zy(k:Int)(nm:ByteArray)(ne nb nl:Nat):Bool:=
 decide (k≥1)&&decide (k≤8)&&decide (ne=if k=3 then 2 else 1)&&(if k=1∨k=2 then bS nm else decide (nm=oNil))&&(decide (k=4) || decide (k=5) || decide (nb=0))&&(decide (k=4) || decide (nl=0))
mutual
def rY:Ty→Bool
 | .mk k nm _ es _ body _ els=>zy k nm es.length body.length els.length&&oN es&&ly body&&ly els
def ly:List Ty→Bool
 | []=>true
 | t::r=>rY t&&ly r
end
def rF(f:Tf):Bool:=f.ps.all bS&&bS f.name&&ly f.body
def rP(fs:List Tf):Bool:=fs.all rF
mutual
def nX:Tx→Nat
 | .mk _ _ _ _ kids=>dU kids+1
def dU:List Tx→Nat
 | []=>0
 | t::r=>nX t+dU r
end
mutual
def dX:Tx→Nat
 | .mk _ _ _ _ kids=>fj kids+1
def fj:List Tx→Nat
 | []=>0
 | t::r=>max (dX t) (fj r)
end
mutual
def nY:Ty→Nat
 | .mk _ _ _ es _ body _ els=>1+dU es+cl body+cl els
def cl:List Ty→Nat
 | []=>0
 | t::r=>nY t+cl r
end
mutual
def vY:Ty→Nat
 | .mk k _ _ _ _ body _ els=>(if k=1 then 1 else 0)+cD body+cD els
def cD:List Ty→Nat
 | []=>0
 | t::r=>vY t+cD r
end
mutual
def B2:Nat→Ty→Bool
 | d,.mk _ _ _ es _ body _ els=>decide (d>8) || decide (fj es>8) || cS (d+1) body || cS (d+1) els
def cS:Nat→List Ty→Bool
 | _,[]=>false
 | d,t::r=>B2 d t || cS d r
end
def fst(a b:Int):Int:=if a=0 then b else a
theorem fg(a b c:Int):fst (fst a b) c=fst a (fst b c):=by
 unfold fst;split
 ·rfl
 ·rfl
theorem dc(a:Int):fst a 0=a:=by
 unfold fst;split
 ·rename_i h;exact h.symm
 ·rfl
theorem h_(a:Int):fst 0 a=a:=rfl
theorem bl{a b:Int}:fst a b=0↔a=0∧b=0:=by
 unfold fst;split
 ·rename_i h;simp [h]
 ·rename_i h;simp [h]
def qD(fs:List Tf)(x:ByteArray):Int:=wT (fun f=>decide (f.name=x)) fs
mutual
def eX(fs:List Tf)(ns:List ByteArray):Tx→Int
 | .mk k _ nm _ kids=>fst (if k=2 then(if bX nm ns=true then 0 else 21)else if k=3 then(match ce fs nm with
   | none=>21
   | some f=>if f.ps.length=kids.length then 0 else 23)else 0) (iA fs ns kids)
def iA(fs:List Tf)(ns:List ByteArray):List Tx→Int
 | []=>0
 | t::r=>fst (eX fs ns t) (iA fs ns r)
end
mutual
def bY(fs:List Tf):List ByteArray→Ty→List ByteArray×Int
 | ns,.mk k nm _ es _ body _ els=>
  let n1:=if k=1 then ns++ [nm]else ns
  let p1:=cq fs n1 body
  let p2:=cq fs p1.1 els
  (p2.1,fst (if k=2 then(if bX nm ns=true then 0 else 21)else 0) (fst (iA fs ns es) (fst (if k=1 then(if bX nm ns=true then 22 else 0)else 0) (fst p1.2 p2.2))))
def cq(fs:List Tf):List ByteArray→List Ty→List ByteArray×Int
 | ns,[]=>(ns,0)
 | ns,t::r=>let p:=bY fs ns t;let q:=cq fs p.1 r;(q.1,fst p.2 q.2)
end
def qM:List ByteArray→List ByteArray→Int
 | _,[]=>0
 | ns,x::r=>fst (if bX x ns=true then 22 else 0) (qM (ns++ [x]) r)
def jI(fs:List Tf)(f:Tf):Int:=
 fst (if f.ps.length>4∨f.ps.length+cD f.body>12∨cl f.body>400∨cS 1 f.body=true then 2 else 0) (fst (qM [] f.ps) (cq fs f.ps f.body).2)
def fE(fs:List Tf):List Tf→Int
 | []=>0
 | f::r=>fst (jI fs f) (fE fs r)
def once(fs:List Tf):Bool:=(List.range fs.length).all fun i=>decide (qD fs (fs.getD i ⟨oNil,bw,[],bw,[]⟩).name=(i:Int))
def fq(fs:List Tf):Int:=
 if rP fs=false then 1 else if fs.length>16 then 2 else if once fs=false then 22 else match ce fs cx with
  | none=>21
  | some f=>if f.ps.length>0 then 23 else fE fs fs
mutual
def GX:Tx→Prop
 | .mk k n nm _ kids=>oW n∧wS nm∧kids.length≤1000000∧GXs kids
def GXs:List Tx→Prop
 | []=>True
 | t::r=>GX t∧GXs r
end
mutual
def GY:Ty→Prop
 | .mk k nm _ es _ body _ els=>wS nm∧(es.length≤1000000∧GXs es)∧(body.length≤1000000∧GYs body)∧(els.length≤1000000∧GYs els)
def GYs:List Ty→Prop
 | []=>True
 | t::r=>GY t∧GYs r
end
def GF(f:Tf):Prop:=wS f.name∧(∀s∈f.ps,wS s)∧f.ps.length≤1000000∧f.body.length≤1000000∧GYs f.body∧f.ps.length+cl f.body≤1000000
def GP(fs:List Tf):Prop:=fs.length≤1000000∧∀f∈fs,GF f
theorem GXs.mem:∀{l:List Tx},GXs l→∀t∈l,GX t
 | [],_,_,h=>by simp at h
 | t::r,h,u,hu=>by
  rcases List.mem_cons.1 hu with rfl|hu
  ·exact h.1
  ·exact GXs.mem h.2 u hu
theorem GYs.mem:∀{l:List Ty},GYs l→∀t∈l,GY t
 | [],_,_,h=>by simp at h
 | t::r,h,u,hu=>by
  rcases List.mem_cons.1 hu with rfl|hu
  ·exact h.1
  ·exact GYs.mem h.2 u hu
theorem iT{t:Tx}(h:GX t):GXs t.kids:=by cases t;exact h.2.2.2
theorem kE{t:Tx}(h:GX t):t.kids.length≤1000000:=by cases t;exact h.2.2.1
theorem HR{t:Tx}(h:GX t):wS t.name:=by cases t;exact h.2.1
theorem HQ{t:Ty}(h:GY t):wS t.name:=by cases t;exact h.1
theorem nh{t:Ty}(h:GY t):t.es.length≤1000000∧GXs t.es:=by cases t;exact h.2.1
theorem dP{t:Ty}(h:GY t):t.body.length≤1000000∧GYs t.body:=by cases t;exact h.2.2.1
theorem eR{t:Ty}(h:GY t):t.els.length≤1000000∧GYs t.els:=by cases t;exact h.2.2.2
theorem oM:∀l,oN l=l.all rX
 | []=>rfl
 | t::r=>by rw [oN,oM r];rfl
theorem jr:∀l,ly l=l.all rY
 | []=>rfl
 | t::r=>by rw [ly,jr r];rfl
theorem ob{t u:Tx}(h:u∈t.kids):SizeOf.sizeOf u<SizeOf.sizeOf t:=by
 cases t with
 | mk k n nm v kids=>
  have:=List.sizeOf_lt_of_mem h;simp only [Tx.kids]at this;simp only [Tx.mk.sizeOf_spec];omega
theorem Ic{t u:Ty}(h:u∈t.body∨u∈t.els):SizeOf.sizeOf u<SizeOf.sizeOf t:=by
 cases t with
 | mk k nm ve es vb body vl els=>
  simp only [Ty.mk.sizeOf_spec];rcases h with h|h
  ·have:=List.sizeOf_lt_of_mem h;simp only [Ty.body]at this;omega
  ·have:=List.sizeOf_lt_of_mem h;simp only [Ty.els]at this;omega
theorem dC{fs:List Tf}{x:ByteArray}:(qD fs x<0↔ce fs x=none)∧(∀f,ce fs x=some f→∃i:Nat,qD fs x=(i:Int)∧fs[i]?=some f):=by
 unfold qD wT ce;cases h:fs.findIdx? (fun f=>decide (f.name=x))with
 | none=>
  rw [List.findIdx?_eq_none_iff]at h;have h2:fs.find? (fun f=>decide (f.name=x))=none:=List.find?_eq_none.2 fun f hf=>by rw [h f hf];simp
  rw [h2];simp
 | some i=>
  rw [List.findIdx?_eq_some_iff_getElem]at h;obtain⟨h1,h2,h3⟩:=h;have h4:fs.find? (fun f=>decide (f.name=x))=some fs[i]:=by
   rw [List.find?_eq_some_iff_getElem];refine⟨h2,i,h1,J,fun j hj=> ?_⟩;have:=h3 j hj;simpa using this
  rw [h4];refine⟨⟨fun h=>by simp at h;omega,fun h=>by simp at h⟩,fun f hf=>⟨i,J,?_⟩⟩;rw [←Option.some.inj hf];exact List.getElem?_eq_getElem h1
theorem AK{a b:Bool}(h:a=true)(h':b=true):(a&&b)=true:=by rw [h,h'];rfl
section
variable{P:Program}{N:Nat}{w0:World}{M H:Nat→Prop}{E:el}{Γ R:dQ}{Q:Exit→Act→World→Prop}
variable{T:TypeId}{ps:String}{af:Array Edge}{d:Nat}{op:Op}
theorem uH{dst:Option Nat}{g:Option (Nat×Bool)}{a:Act}{w:World}{next:Act→World→Prop}{Q:Exit→Act→World→Prop}(h:(⟨dst,op,T,ps,af,none⟩:Oper).wp P a w next Q):(⟨dst,op,T,ps,af,g⟩:Oper).wp P a w next Q:=h
theorem gM{l:List Oper}{rest:List Oper}{i t:Nat}{c b:Bool}{v:Value}(Eg:el)(hi:kx l i=some t)(ht:dK E t=some (.bool b))(hgs:GS E (gb c b) Eg)
  (h:gb c b=true→MS P N w0 M H (Eg++E) Γ R ⟨some d,op,T,ps,af,none⟩ (X:=Unit) (fun _=>True) (fun _=>v) (fun _=>Γ) (fun _=>R)) (hd:Nat.blt d N=true)
  (k:At N w0 M H ((d,gv (gb c b) v)::E) Γ R (wpList P l.toArray Q rest)):At N w0 M H E Γ R (wpList P l.toArray Q (⟨some d,op,T,ps,af,some (i,c)⟩::rest)):=by
 intro a w hE hC;have hyd:=hE.yield hi ht;unfold wpList;cases hg:gb c b with
 | true=>
  have hbc:b=c:=by cases b<;>cases c<;>simp_all [gb]
  rw [if_pos (by simp [Region.wanted,hyd,hbc])];left;rw [hg]at k;exact uH (h hg a w (hE.gs hg hgs) hC _ _ fun x w' _ h2=>k _ _ (hE.put hd v) h2)
 | false=>
  have hbc:b≠c:=by cases b<;>cases c<;>simp_all [gb]
  rw [if_neg (by simp [Region.wanted,hyd,hbc])];rw [hg]at k;exact k _ _ (hE.put hd undef) hC
theorem sN:∀(A B:el)(s:Nat)(v:Value),dK (A++B) s=some v→dK A s=some v∨dK B s=some v
 | [],B,s,v,h=> .inr h
 | (j,u)::A,B,s,v,h=>by
  simp only [List.cons_append,dK]at h ⊢;cases hb:Nat.beq j s with
  | true=>rw [hb]at h;exact .inl (by simpa using h)
  | false=>rw [hb]at h;simpa using sN A B s v h
theorem qJ:∀(A B:el)(s:Nat)(v:Value),dK A s=some v→dK (A++B) s=some v
 | [],B,s,v,h=>by cases h
 | (j,u)::A,B,s,v,h=>by
  simp only [List.cons_append,dK]at h ⊢;cases hb:Nat.beq j s with
  | true=>rw [hb]at h;simpa using h
  | false=>rw [hb]at h;simpa using qJ A B s v h
theorem C2{l:List Oper}{rest:List Oper}{i t:Nat}{c b g:Bool}{v:Value}(Eg E2:el)(hi:kx l i=some t)(ht:dK E t=some (gv g (.bool b)))(hgs:GS E (g&&gb c b) Eg)(hgs2:GS E g E2)
  (h:g=true→gb c b=true→MS P N w0 M H (E2++(Eg++E)) Γ R ⟨some d,op,T,ps,af,none⟩ (X:=Unit) (fun _=>True) (fun _=>v) (fun _=>Γ) (fun _=>R)) (hd:Nat.blt d N=true)
  (k:At N w0 M H ((d,gv (g&&gb c b) v)::E) Γ R (wpList P l.toArray Q rest)):At N w0 M H E Γ R (wpList P l.toArray Q (⟨some d,op,T,ps,af,some (i,c)⟩::rest)):=by
 intro a w hE hC;have hyd:yielded l.toArray a.tmps i=bif g then some b else none:=by
  unfold yielded;have:(l.toArray[i]?).bind (·.dst)=some t:=by simpa [kx]using hi
  rw [this];cases g<;>simp [hE.slot t _ ht,gv,undef]
 unfold wpList;cases hg:(g&&gb c b)with
 | true=>
  have hg1:g=true∧gb c b=true:=by simpa using hg
  obtain⟨hg1,hg2⟩:=hg1;have hbc:b=c:=by cases b<;>cases c<;>simp_all [gb]
  rw [if_pos (by simp [Region.wanted,hyd,hg1,hbc])];left;have hE':=hE.gs hg hgs;have:EOk N (E2++(Eg++E)) a:=by
   have h2:=hE.gs hg1 hgs2;refine⟨hE.defers,hE.size,fun s v hv=> ?_⟩;rcases sN _ _ s v hv with h3|h3
   ·exact h2.slot s v (qJ _ _ s v h3)
   ·exact hE'.slot s v h3
  rw [hg]at k;exact uH (h hg1 hg2 a w this hC _ _ fun x w' _ h2=>k _ _ (hE.put hd v) h2)
 | false=>
  have:Region.wanted (⟨some d,op,T,ps,af,some (i,c)⟩:Oper) (yielded l.toArray a.tmps)=false:=by
   cases g<;>cases b<;>cases c<;>simp_all [gb,Region.wanted]
  rw [if_neg (by rw [this];simp)];rw [hg]at k;exact k _ _ (hE.put hd undef) hC
end
theorem oR{α:Type}{p:α→Bool}{l:List α}:decide (wT p l≥0)=l.any p:=by
 unfold wT;cases h:l.findIdx? p with
 | none=>
  rw [List.findIdx?_eq_none_iff]at h;have:l.any p=false:=List.any_eq_false.2 fun x hx=>by rw [h x hx];simp
  rw [this];rfl
 | some i=>
  rw [List.findIdx?_eq_some_iff_getElem]at h;obtain⟨h1,h2,_⟩:=h;have:l.any p=true:=List.any_eq_true.2 ⟨_,List.getElem_mem h1,h2⟩;rw [this];exact decide_eq_true (Int.natCast_nonneg i)
theorem vM(v:SV)(l:List Tf)(hl:l.length≤1000000)(n:Nat)(cap:List Value)(C:Asn)(p:Tf→Bool)(hcb:Cb Tryz.prog n)(hs:∀x∈l,Spec Tryz.prog n (LA x::cap) [] [C] (X:=Unit) (fun _=>True) (fun _=> .bool (p x)) (fun _=> []) (fun _=> [])):
  Spec Tryz.prog 124 [sv v,.func (.func n) #[] cap.toArray] [] [sl 3 iR (sv v) l,C] (X:=Unit) (fun _=>True) (fun _=> .int .i64 (wT p l)) (fun _=> []) (fun _=> []):=by
 refine aF Tryz.func124 J Tryz.ntmps124 J fun w0 M H=>ae (aa (aj (ag J) J (ai (ae (ae (aa (aj (ac J) J (aj (aO Tryz.underlying25 J (aK (k:=0) J)) J (aj (ac J) J (ai (aB ?_)))))))))))
 refine bk (X:=Nat) (fun k=>k≤l.length∧∀i y,i<k→l[i]?=some y→p y=false) (fun k=> [(0,sv v),(1,.func (.func n) #[] cap.toArray),(7,.int .i64 (l.length:Int)),(8,.int .i64 (k:Int))]) (fun k=> []) (fun k=> [(0,sl 3 iR (sv v) l),(1,C)]) (fun k=>l.length-k) 0 ⟨Nat.zero_le _,fun i y hi=>by omega⟩ J J J (fun k hk0=> ?_);obtain⟨n1,n2⟩:=hk0;refine ae (aa (aj (am J J b_) J (ai (ae (ar J (fun h1=> ?_) (fun h1=> ?_))))))
 ·(try simp only [aV]at h1)
  have hk:k<l.length:=by omega
  obtain⟨x,hx⟩:∃x,l[k]?=some x:=⟨_,List.getElem?_eq_getElem hk⟩
  refine az (ae (aB (ae (aa (aj (ac J) J (aj (ag J) J (ai (ae (aa (aj (ac J) J (aj (ac J) J (aj (ac J) J (aj (aN (j:=k) Tryz.underlying25 fX J J (aK (k:=0) J) (by first|rfl|omega) (by first|omega|(simp;done)|(simp;omega))) J ?_)))))))))))));refine aj (aJ fX J J J (bv (aK (k:=0) J) (by intro _;rfl) hx (by rfl))) J (bF (xs:= [.tmp 15]) (hs x (List.mem_of_getElem? hx)) hcb [] [(false,1)] [] [] J J J J J J J J (fun _ _=>J) (fun _ _ _=>J) J (fun _ _=>ai (ar J (fun h2=> ?_) (fun h2=> ?_))))
  ·have hq:p x=true:=h2;refine ae (aa (aj (ac J) J (aj (ag J) J (ai (aw (aG () trivial J (bx (aH J)) (by rw [nM hx hq n2]) [] [] J J J))))))
  ·have hq:p x=false:=h2;refine az (aa (aj (am J J (aX (by first|exact aU (by omega) (by omega)|rfl))) J (aj (ac J) J (ai ?_))));refine aL (k+1) ⟨⟨by omega,fun i y hi hy=>by rcases Nat.lt_succ_iff_lt_or_eq.1 hi with h|h;exact n2 i y h hy;rw [h,hx]at hy;rw [←Option.some.inj hy];exact hq⟩,by omega⟩ J J J
 ·(try simp only [aV]at h1)
  have hk:k=l.length:=by omega
  subst hk;refine bn (ae (aa (aj (ag J) J (ai (aw (aG () trivial J (bx (aH J)) (by rw [nL n2]) [] [] J J J))))))
theorem BK(v:SV)(l:List Tf)(hl:l.length≤1000000)(n:Nat)(cap:List Value)(C:Asn)(p:Tf→Bool)(hcb:Cb Tryz.prog n)(hs:∀x∈l,Spec Tryz.prog n (LA x::cap) [] [C] (X:=Unit) (fun _=>True) (fun _=> .bool (p x)) (fun _=> []) (fun _=> [])):
  Spec Tryz.prog 118 [sv v,.func (.func n) #[] cap.toArray] [] [sl 3 iR (sv v) l,C] (X:=Unit) (fun _=>True) (fun _=> .bool (l.any p)) (fun _=> []) (fun _=> []):=by
 refine aF Tryz.func118 J Tryz.ntmps118 J fun w0 M H=>ae (aa (aj (ag J) J (ai (ae (aa (aj (ac J) J (aj (ac J) J (bF (xs:= [.tmp 5,.tmp 6]) (vM v l hl n cap C p hcb hs) I8 [] [(false,0),(false,1)] [] [] J J J J J J J J (fun _ _=>J) (fun _ _ _=>J) J (fun _ _=>aj (am J J eV) J (aj (ag J) J (ai (aw ?_))))))))))))
 refine aG () trivial J (bx (aH J)) (congrArg Value.bool oR) [] [] J J J
theorem DG(v:SV)(l:List Ty)(hl:l.length≤1000000)(n:Nat)(cap:List Value)(C:Asn)(p:Ty→Bool)(hcb:Cb Tryz.prog n)(hs:∀x∈l,Spec Tryz.prog n (yV x::cap) [] [C] (X:=Unit) (fun _=>True) (fun _=> .bool (p x)) (fun _=> []) (fun _=> [])):
  Spec Tryz.prog 185 [sv v,.func (.func n) #[] cap.toArray] [] [sl 5 ec (sv v) l,C] (X:=Unit) (fun _=>True) (fun _=> .int .i64 (wT p l)) (fun _=> []) (fun _=> []):=by
 refine aF Tryz.func185 J Tryz.ntmps185 J fun w0 M H=>ae (aa (aj (ag J) J (ai (ae (ae (aa (aj (ac J) J (aj (aO Tryz.underlying62 J (aK (k:=0) J)) J (aj (ac J) J (ai (aB ?_)))))))))))
 refine bk (X:=Nat) (fun k=>k≤l.length∧∀i y,i<k→l[i]?=some y→p y=false) (fun k=> [(0,sv v),(1,.func (.func n) #[] cap.toArray),(7,.int .i64 (l.length:Int)),(8,.int .i64 (k:Int))]) (fun k=> []) (fun k=> [(0,sl 5 ec (sv v) l),(1,C)]) (fun k=>l.length-k) 0 ⟨Nat.zero_le _,fun i y hi=>by omega⟩ J J J (fun k hk0=> ?_);obtain⟨n1,n2⟩:=hk0;refine ae (aa (aj (am J J b_) J (ai (ae (ar J (fun h1=> ?_) (fun h1=> ?_))))))
 ·(try simp only [aV]at h1)
  have hk:k<l.length:=by omega
  obtain⟨x,hx⟩:∃x,l[k]?=some x:=⟨_,List.getElem?_eq_getElem hk⟩
  refine az (ae (aB (ae (aa (aj (ac J) J (aj (ag J) J (ai (ae (aa (aj (ac J) J (aj (ac J) J (aj (ac J) J (aj (aN (j:=k) Tryz.underlying62 dA J J (aK (k:=0) J) (by first|rfl|omega) (by first|omega|(simp;done)|(simp;omega))) J ?_)))))))))))));refine aj (aJ dA J J J (bv (aK (k:=0) J) (by intro _;rfl) hx (by rfl))) J (bF (xs:= [.tmp 15]) (hs x (List.mem_of_getElem? hx)) hcb [] [(false,1)] [] [] J J J J J J J J (fun _ _=>J) (fun _ _ _=>J) J (fun _ _=>ai (ar J (fun h2=> ?_) (fun h2=> ?_))))
  ·have hq:p x=true:=h2;refine ae (aa (aj (ac J) J (aj (ag J) J (ai (aw (aG () trivial J (bx (aH J)) (by rw [nM hx hq n2]) [] [] J J J))))))
  ·have hq:p x=false:=h2;refine az (aa (aj (am J J (aX (by first|exact aU (by omega) (by omega)|rfl))) J (aj (ac J) J (ai ?_))));refine aL (k+1) ⟨⟨by omega,fun i y hi hy=>by rcases Nat.lt_succ_iff_lt_or_eq.1 hi with h|h;exact n2 i y h hy;rw [h,hx]at hy;rw [←Option.some.inj hy];exact hq⟩,by omega⟩ J J J
 ·(try simp only [aV]at h1)
  have hk:k=l.length:=by omega
  subst hk;refine bn (ae (aa (aj (ag J) J (ai (aw (aG () trivial J (bx (aH J)) (by rw [nL n2]) [] [] J J J))))))
theorem BI(v:SV)(l:List Ty)(hl:l.length≤1000000)(n:Nat)(cap:List Value)(C:Asn)(p:Ty→Bool)(hcb:Cb Tryz.prog n)(hs:∀x∈l,Spec Tryz.prog n (yV x::cap) [] [C] (X:=Unit) (fun _=>True) (fun _=> .bool (p x)) (fun _=> []) (fun _=> [])):
  Spec Tryz.prog 161 [sv v,.func (.func n) #[] cap.toArray] [] [sl 5 ec (sv v) l,C] (X:=Unit) (fun _=>True) (fun _=> .bool (l.any p)) (fun _=> []) (fun _=> []):=by
 refine aF Tryz.func161 J Tryz.ntmps161 J fun w0 M H=>ae (aa (aj (ag J) J (ai (ae (aa (aj (ac J) J (aj (ac J) J (bF (xs:= [.tmp 5,.tmp 6]) (DG v l hl n cap C p hcb hs) NV [] [(false,0),(false,1)] [] [] J J J J J J J J (fun _ _=>J) (fun _ _ _=>J) J (fun _ _=>aj (am J J eV) J (aj (ag J) J (ai (aw ?_))))))))))))
 refine aG () trivial J (bx (aH J)) (congrArg Value.bool oR) [] [] J J J
theorem DH(v:SV)(l:List Tx)(hl:l.length≤1000000)(n:Nat)(cap:List Value)(C:Asn)(p:Tx→Bool)(hcb:Cb Tryz.prog n)(hs:∀x∈l,Spec Tryz.prog n (xV x::cap) [] [C] (X:=Unit) (fun _=>True) (fun _=> .bool (p x)) (fun _=> []) (fun _=> [])):
  Spec Tryz.prog 200 [sv v,.func (.func n) #[] cap.toArray] [] [sl 4 df (sv v) l,C] (X:=Unit) (fun _=>True) (fun _=> .int .i64 (wT p l)) (fun _=> []) (fun _=> []):=by
 refine aF Tryz.func200 J Tryz.ntmps200 J fun w0 M H=>ae (aa (aj (ag J) J (ai (ae (ae (aa (aj (ac J) J (aj (aO Tryz.underlying59 J (aK (k:=0) J)) J (aj (ac J) J (ai (aB ?_)))))))))))
 refine bk (X:=Nat) (fun k=>k≤l.length∧∀i y,i<k→l[i]?=some y→p y=false) (fun k=> [(0,sv v),(1,.func (.func n) #[] cap.toArray),(7,.int .i64 (l.length:Int)),(8,.int .i64 (k:Int))]) (fun k=> []) (fun k=> [(0,sl 4 df (sv v) l),(1,C)]) (fun k=>l.length-k) 0 ⟨Nat.zero_le _,fun i y hi=>by omega⟩ J J J (fun k hk0=> ?_);obtain⟨n1,n2⟩:=hk0;refine ae (aa (aj (am J J b_) J (ai (ae (ar J (fun h1=> ?_) (fun h1=> ?_))))))
 ·(try simp only [aV]at h1)
  have hk:k<l.length:=by omega
  obtain⟨x,hx⟩:∃x,l[k]?=some x:=⟨_,List.getElem?_eq_getElem hk⟩
  refine az (ae (aB (ae (aa (aj (ac J) J (aj (ag J) J (ai (ae (aa (aj (ac J) J (aj (ac J) J (aj (ac J) J (aj (aN (j:=k) Tryz.underlying59 cg J J (aK (k:=0) J) (by first|rfl|omega) (by first|omega|(simp;done)|(simp;omega))) J ?_)))))))))))));refine aj (aJ cg J J J (bv (aK (k:=0) J) (by intro _;rfl) hx (by rfl))) J (bF (xs:= [.tmp 15]) (hs x (List.mem_of_getElem? hx)) hcb [] [(false,1)] [] [] J J J J J J J J (fun _ _=>J) (fun _ _ _=>J) J (fun _ _=>ai (ar J (fun h2=> ?_) (fun h2=> ?_))))
  ·have hq:p x=true:=h2;refine ae (aa (aj (ac J) J (aj (ag J) J (ai (aw (aG () trivial J (bx (aH J)) (by rw [nM hx hq n2]) [] [] J J J))))))
  ·have hq:p x=false:=h2;refine az (aa (aj (am J J (aX (by first|exact aU (by omega) (by omega)|rfl))) J (aj (ac J) J (ai ?_))));refine aL (k+1) ⟨⟨by omega,fun i y hi hy=>by rcases Nat.lt_succ_iff_lt_or_eq.1 hi with h|h;exact n2 i y h hy;rw [h,hx]at hy;rw [←Option.some.inj hy];exact hq⟩,by omega⟩ J J J
 ·(try simp only [aV]at h1)
  have hk:k=l.length:=by omega
  subst hk;refine bn (ae (aa (aj (ag J) J (ai (aw (aG () trivial J (bx (aH J)) (by rw [nL n2]) [] [] J J J))))))
theorem sT(v:SV)(l:List Tx)(hl:l.length≤1000000)(n:Nat)(cap:List Value)(C:Asn)(p:Tx→Bool)(hcb:Cb Tryz.prog n)(hs:∀x∈l,Spec Tryz.prog n (xV x::cap) [] [C] (X:=Unit) (fun _=>True) (fun _=> .bool (p x)) (fun _=> []) (fun _=> [])):
  Spec Tryz.prog 186 [sv v,.func (.func n) #[] cap.toArray] [] [sl 4 df (sv v) l,C] (X:=Unit) (fun _=>True) (fun _=> .bool (l.any p)) (fun _=> []) (fun _=> []):=by
 refine aF Tryz.func186 J Tryz.ntmps186 J fun w0 M H=>ae (aa (aj (ag J) J (ai (ae (aa (aj (ac J) J (aj (ac J) J (bF (xs:= [.tmp 5,.tmp 6]) (DH v l hl n cap C p hcb hs) NR [] [(false,0),(false,1)] [] [] J J J J J J J J (fun _ _=>J) (fun _ _ _=>J) J (fun _ _=>aj (am J J eV) J (aj (ag J) J (ai (aw ?_))))))))))))
 refine aG () trivial J (bx (aH J)) (congrArg Value.bool oR) [] [] J J J
theorem BJ(v:SV)(l:List ByteArray)(hl:l.length≤1000000)(n:Nat)(p:ByteArray→Bool)(hcb:Cb Tryz.prog n)(hs:∀s∈l,Spec Tryz.prog n [.string s] [] [] (X:=Unit) (fun _=>True) (fun _=> .bool (p s)) (fun _=> []) (fun _=> [])):
  Spec Tryz.prog 120 [sv v,.func (.func n) #[] #[]] [] [sl 1 eS (sv v) l] (X:=Unit) (fun _=>True) (fun _=> .bool (l.any p)) (fun _=> []) (fun _=> []):=by
 refine aF Tryz.func120 J Tryz.ntmps120 J fun w0 M H=>ae (aa (aj (ag J) J (ai (ae (aa (aj (ac J) J (aj (ac J) J (bF (xs:= [.tmp 5,.tmp 6]) (DI v l hl n p hcb hs) Oc [] [(false,0)] [] [] J J J J J J J J (fun _ _=>J) (fun _ _ _=>J) J (fun _ _=>aj (am J J eV) J (aj (ag J) J (ai (aw ?_))))))))))))
 refine aG () trivial J (bx (aH J)) (congrArg Value.bool oR) [] [] J J J
def Ml(i:Nat)(s:ByteArray)(pos:Nat):Asn:=⟨fun w F=>(∀x,F x↔x=i)∧w.heap[i]?=some (.stringIter s pos),fun⟨h1,h2⟩ hs=>⟨h1,(hs i ((h1 i).2 rfl)).trans h2⟩⟩
section
variable{P:Program}{N:Nat}{w0:World}{M H:Nat→Prop}{E:el}{Γ R:dQ}{Q:Exit→Act→World→Prop}
variable{ops:Array Oper}{rest:List Oper}{T:TypeId}{ps:String}{af:Array Edge}{d:Nat}
theorem Bo{S:TypeId}{x:Operand}{s:ByteArray}(hS:P.underlying S=some .string)(hx:ev E x=some (.string s)):
  MS P N w0 M H E Γ R ⟨some d,.range S x,T,ps,af,none⟩ (X:=Nat) (fun _=>True) (fun i=> .pointer (some ⟨i,0,none⟩)) (fun i=>(d,Ml i s 0)::Γ) (fun _=>R):=by
 refine gI fun a w hE hC=> ?_
 refine⟨w.heap.size,w.alloc (.stringIter s 0),trivial,?_,hC.new (Touch.alloc _ _ _) ⟨fun x=>x=w.heap.size,⟨fun x=>Iff.rfl,by simpa using(Go.MapKept.heap_alloc w _).1⟩,fun b hb=>by subst hb;simp⟩⟩;simp [execOp,hE.ev hx,Instr.range,run_underlying hS,newObj,Sem.run]
theorem C1{S:TypeId}{x:Operand}{s:ByteArray}(hS:P.underlying S=some .string)(hx:ev E x=some (.string s))(hd:Nat.blt d N=true)
  (kk:∀i,At N w0 M H ((d,.pointer (some ⟨i,0,none⟩))::E) ((d,Ml i s 0)::Γ) R (wpList P ops Q rest)):At N w0 M H E Γ R (wpList P ops Q (⟨some d,.range S x,T,ps,af,none⟩::rest)):=xD (Bo hS hx) hd fun i _=>kk i
theorem F_{x:Operand}{i k pos:Nat}{s:ByteArray}(hx:ev E x=some (.pointer (some ⟨i,0,none⟩)))(hk:bL Γ k=some (Ml i s pos))(has:∀(h:pos<s.size),(s[pos]'h).toNat<128)(hd:Nat.blt d N=true)
  (over:¬pos<s.size→At N w0 M H ((d,.tuple #[.bool false])::E) Γ R (wpList P ops Q rest))
  (more:∀h:pos<s.size,At N w0 M H ((d,.tuple #[.bool true,.int .i64 (pos:Int),.int .i32 ((s[pos]'h).toNat:Int)])::E) ((k,Ml i s (pos+1))::Γ) R (wpList P ops Q rest)):
  At N w0 M H E Γ R (wpList P ops Q (⟨some d,.next x true,T,ps,af,none⟩::rest)):=by
 intro a w hE hC;obtain⟨GI,⟨hI1,hI2⟩,_⟩:=hC.reads (.inl hk);unfold wpList;rw [if_pos (by simp [Region.wanted])];left;unfold Oper.wp;by_cases h:pos<s.size
 ·have hr:(Instr.next (.pointer (some ⟨i,0,none⟩)) true T).run P w= .ok (.tuple #[.bool true,.int .i64 (pos:Int),.int .i32 ((s[pos]'h).toNat:Int)]) (Go.ChangeMaps.setBlock w i (.stringIter s (pos+1))):=by
   simp only [Instr.next,Sem.run_bind,jq hI2 J,Result.andThen_ok,h,if_true,decode_ascii s pos h (has h),lG hI2 J];simp [goInt]
  have hrun:(execOp a.eval ⟨some d,.next x true,T,ps,af,none⟩).run P w= .ok (.value (.tuple #[.bool true,.int .i64 (pos:Int),.int .i32 ((s[pos]'h).toNat:Int)])) (Go.ChangeMaps.setBlock w i (.stringIter s (pos+1))):=by
   simp [execOp,hE.ev hx,hr]
  rw [hrun];refine more h _ _ (hE.put hd _) (hC.upd hk fun G hG hGlt=> ?_);obtain⟨g1,g2⟩:=hG;have hGb:G i:=(g1 i).2 J;exact⟨G,⟨g1,lx g2⟩,fun c hc=>⟨by rw [lw];exact hGlt c hc,fun _=>hc⟩,kb hGb⟩
 ·have hr:(Instr.next (.pointer (some ⟨i,0,none⟩)) true T).run P w= .ok (.tuple #[.bool false]) w:=by
   simp only [Instr.next,Sem.run_bind,jq hI2 J,Result.andThen_ok,h,if_false];rfl
  have hrun:(execOp a.eval ⟨some d,.next x true,T,ps,af,none⟩).run P w= .ok (.value (.tuple #[.bool false])) w:=by
   simp [execOp,hE.ev hx,hr]
  rw [hrun];exact over h _ _ (hE.put hd _) hC
end
theorem nf{p:Int→Bool}{s:ByteArray}:yP p s=true↔∀(i:Nat)(h:i<s.size),p (((s[i]'h).toNat:Nat):Int)=true:=by
 unfold yP;rw [List.all_eq_true];constructor
 ·intro h i hi;refine h (s[i]'hi) ?_;have:s[i]'hi=s.data.toList[i]'(by simpa using hi):=by simp [ByteArray.getElem_eq_getElem_data]
  rw [this];exact List.getElem_mem _
 ·intro h b hb;obtain⟨i,hi,rfl⟩:=List.mem_iff_getElem.1 hb;have hi':i<s.size:=by simpa using hi
  have:=h i hi';rw [show s[i]'hi'=s.data.toList[i]'hi by simp [ByteArray.getElem_eq_getElem_data]]at this;exact this
theorem E1{s:ByteArray}:s=oNil↔s.size=0:=by
 constructor
 ·intro h;subst h;rfl
 ·intro h;obtain⟨⟨l⟩⟩:=s;cases l with
  | nil=>rfl
  | cons a r=>simp [ByteArray.size]at h
theorem qE{s:ByteArray}(h:0<s.size):IntKind.i32.wrap ((bc s).getD 0 0)=sZ s:=by
 unfold sZ bc;obtain⟨⟨l⟩⟩:=s;cases l with
 | nil=>simp [ByteArray.size]at h
 | cons a r=>
  have:=a.toNat_lt;simp only [List.map_cons,List.getD_cons_zero,List.headD_cons];exact Ce (by omega) (by omega)
theorem vR(s:ByteArray):bS s=(!(s==⟨#[]⟩)&& !decide ((s.size:Int)>12)&& !bX s rO&&mN (sZ s)&&yP (fun c=>mN c || iB c) s):=by
 unfold bS
 congr 4
 ·rw [bR];have:=E1 (s:=s);unfold oNil at this;by_cases h:s.size=0
  ·rw [this.2 h];rfl
  ·have h2:¬s=⟨#[]⟩:=fun e=>h (this.1 e)
   simp [h,h2]
 ·by_cases h:s.size≤12
  ·have:¬(s.size:Int)>12:=by omega
   simp [h,this]
  ·have:(s.size:Int)>12:=by omega
   simp [h,this]
theorem qn{s:ByteArray}(h:((s==⟨#[]⟩)=true∨(s.size:Int)>12)∨bX s rO=true∨(0<s.size∧(false || !mN (IntKind.i32.wrap ((bc s).getD 0 0)))=true)):bS s=false:=by
 rw [vR];rcases h with(h|h)|h|⟨h0,h⟩
 ·rw [h];rfl
 ·rw [decide_eq_true h];simp
 ·rw [h];simp
 ·rw [qE h0,Bool.false_or,Bool.not_eq_true']at h;rw [h];simp
theorem By{s:ByteArray}{k:Nat}(h1:(s==⟨#[]⟩)=false∧¬(s.size:Int)>12)(h2:True∧bX s rO=false)(h0:0<s.size)(h3:(false || !mN (IntKind.i32.wrap ((bc s).getD 0 0)))=false)(hk:decide ((k:Int)=(s.size:Int))=yP (fun c=>mN c || iB c) s):decide ((k:Int)=(s.size:Int))=bS s:=by
 rw [vR,h1.1,decide_eq_false h1.2,h2.2,hk];rw [qE h0,Bool.false_or,Bool.not_eq_false']at h3;rw [h3];simp
theorem A6(s:ByteArray)(n:Nat)(p:Int→Bool)(has:Li s)(hcb:Cb Tryz.prog n)(hz:s.size≤1000000)(hs:∀c:Int,Spec Tryz.prog n [.int .i32 c] [] [] (X:=Unit) (fun _=>True) (fun _=> .bool (p c)) (fun _=> []) (fun _=> [])):
  Spec Tryz.prog 158 [.string s,.func (.func n) #[] #[]] [] [] (X:=Nat) (fun k=>decide ((k:Int)=(s.size:Int))=yP p s) (fun k=> .int .i64 (k:Int)) (fun _=> []) (fun _=> []):=by
 refine aF Tryz.func158 J Tryz.ntmps158 J fun w0 M H=>ae (aa (aj (ag J) J (ai (ae (ae (aa (aj (ac J) J (C1 Tryz.underlying9 J J fun i8=>ai (aB ?_)))))))))
 refine bk (X:=Nat) (fun x=>x≤s.size∧∀j(h:j<s.size),j<x→p (((s[j]'h).toNat:Nat):Int)=true) (fun x=> [(0,.string s),(1,.func (.func n) #[] #[]),(8,.pointer (some ⟨i8,0,none⟩))]) (fun x=> [(8,Ml i8 s x)]) (fun x=> []) (fun x=>s.size-x) 0 ⟨Nat.zero_le _,fun j h hj=>by omega⟩ J J J (fun x hx0=> ?_);obtain⟨n1,n2⟩:=hx0;refine ae (aa (F_ (k:=8) J J (fun h=>has x h) J (fun hover=> ?_) (fun hmore=> ?_)))
 ·have hx:x=s.size:=by omega
  subst hx;refine aj (bV J J) J (ai (ae (ar J (fun h1=> ?_) (fun h1=> ?_))))
  ·exact absurd h1 (by simp)
  ·(try simp only [aV]at h1)
   refine bn (ae (aa (aj (ac J) J (aj (cd Tryz.underlying9 J) J (aj (ag J) J (ai (aw (aG s.size (by rw [decide_eq_true J];symm;exact nf.2 fun i h=>n2 i h h) J (bx (aH J)) J [] [] J J J))))))))
 ·have hxs:x<s.size:=hmore;refine aj (bV J J) J (ai (ae (ar J (fun h2=> ?_) (fun h2=> ?_))))
  ·(try simp only [aV]at h2)
   refine az (aB (ae (aa (aj (bV J J) J (aj (bV J J) J (aj (ag J) J (aj (ag J) J (ai (ae (aa (aj (ac J) J (aj (ac J) J (bF (xs:= [.tmp 14]) (hs _) hcb [] [] [] [] J J J J J J J J (fun _ _=>J) (fun _ _ _=>J) J (fun _ _=> ?_))))))))))))));refine aj (bZ J) J (ai (ar J (fun h3=> ?_) (fun h3=> ?_)))
   ·have hq:p (((s[x]'hxs).toNat:Nat):Int)=false:=by simpa using h3
    refine ae (aa (aj (ac J) J (aj (ag J) J (ai (aw ?_)))));refine aG x (by rw [decide_eq_false (show ¬((x:Int)=(s.size:Int)) by omega)];symm;rw [Bool.eq_false_iff];intro h;have:=nf.1 h x hxs;rw [hq]at this;cases this) J (bx (aH J)) J [] [] J J J
   ·have hq:p (((s[x]'hxs).toNat:Nat):Int)=true:=by simpa using h3
    refine az ?_;refine aL (x+1) ⟨⟨by omega,fun j h hj=>by rcases Nat.lt_succ_iff_lt_or_eq.1 hj with h2|h2;exact n2 j h h2;subst h2;exact hq⟩,by omega⟩ J J J
  ·exact absurd h2 (by simp)
theorem ip(s:ByteArray)(has:Li s)(hz:s.size≤1000000):
  Spec Tryz.prog 122 [.string s] [] [] (X:=Unit) (fun _=>True) (fun _=> .bool (bS s)) (fun _=> []) (fun _=> []):=by
 refine aF Tryz.func122 J Tryz.ntmps122 J fun w0 M H=>ae (aa (aj (ag J) J (ai (ae (ae (aa (aj (ac J) J (aj (am J J ci) J (aj (ac J) J (aA [] J J trivial (fun hg1=>ac J) J (aA [(6,_)] J J ⟨J,trivial⟩ (fun hg2=>cd Tryz.underlying9 J) J (aA [(6,_),(7,_)] J J ⟨J,J,trivial⟩ (fun hg3=>am J J dL) J ?_))))))))))))
 refine aj (aM J J J (by first|exact ax|exact aC|rfl)) J (aj (ac J) J (gS (t:=10) J (fun h4=> ?_) (fun h4=> ?_)))
 ·(try simp only [aV]at h4)
  have q7:=h4;refine dH J J J J (dH J J J J (dH J J J J (aj (aM J J J (by first|exact ax|exact aC|rfl)) J (aj (ac J) J (gS (t:=15) J (fun h5=> ?_) (fun h5=> ?_))))))
  ·(try simp only [aV]at h5)
   have q12:=h5;refine dH J J J J (dH J J J J (dH J J J J (dH J J J J (dH J J J J (aj (aM J J J (by first|exact ax|exact aC|rfl)) J (ai (ar J (fun h6=> ?_) (fun h6=> ?_))))))))
   ·refine ae (aa (aj (ag J) J (ai (aw (aG () trivial J (bx (aH J)) (congrArg Value.bool (qn (.inl q7)).symm) [] [] J J J)))))
   ·exact absurd h6 (by simp)
  ·(try simp only [aV]at h5)
   have q12:=h5;exact absurd h5 (by simp)
 ·(try simp only [aV]at h4)
  have q7:=h4;have hs0:0<s.size:=Nat.pos_of_ne_zero fun e=>by have:=E1.2 e;subst this;exact absurd q7.1 (by decide)
  refine cf J J (bF (xs:= []) rQ Ob [] [] [11] [] J J J J J J J J (fun _ _=>J) (fun _ _ _=>J) J (fun v11 _=>bW 11 21 J br (cf J J (aj (ac J) J (cf J J (bF (xs:= [.tmp 11,.tmp 12]) (gp v11 rO (by decide) s) AC [] [(false,21)] [] [] J J J J J J J J (fun _ _=>J) (fun _ _ _=>J) J (fun _ _=>aj (aM J J J (by first|exact ax|exact aC|rfl)) J (aj (ac J) J (gS (t:=15) J (fun h7=> ?_) (fun h7=> ?_))))))))))
  ·(try simp only [aV]at h7)
   have q12:=h7;refine dH J J J J (dH J J J J (dH J J J J (dH J J J J (dH J J J J (aj (aM J J J (by first|exact ax|exact aC|rfl)) J (ai (ar J (fun h8=> ?_) (fun h8=> ?_))))))))
   ·refine ae (aa (aj (ag J) J (ai (aw (aG () trivial J (bx (aH J)) (congrArg Value.bool (qn (.inr (.inl (by rcases q12 with q|q;exact absurd q (by simp);exact q)))).symm) [] [] J J J)))))
   ·exact absurd h8 (by simp)
  ·(try simp only [aV]at h7)
   have q12:=h7;refine cf J J (aj (ac J) J (cf J J (aj (dh (j:=0) Tryz.underlying9 J J J hs0) J (cf J J (aj (bP Tryz.underlying5 Tryz.underlying21 J (by first|exact Ce (by omega) (by omega)|rfl)) J (cf J J (bF (xs:= [.tmp 18]) (oj _) I0 [] [] [] [] J J J J J J J J (fun _ _=>J) (fun _ _ _=>J) J (fun _ _=>cf J J (aj (bZ J) J (aj (aM J J J (by first|exact ax|exact aC|rfl)) J (ai (ar J (fun h9=> ?_) (fun h9=> ?_)))))))))))))
   ·have q0:=h9;refine ae (aa (aj (ag J) J (ai (aw (aG () trivial J (bx (aH J)) (congrArg Value.bool (qn (.inr (.inr ⟨hs0,q0⟩))).symm) [] [] J J J)))))
   ·have q0:=h9;refine az (ae (aa (aj (ac J) J (bF (xs:= [.tmp 22,.func 159]) (A6 s 159 (fun c=>mN c || iB c) has N_ hz (fun c=>vS c)) Oa [] [] [] [] J J J J J J J J (fun _ _=>J) (fun _ _ _=>J) J (fun k hk=>aj (ac J) J (aj (cd Tryz.underlying9 J) J (aj (am J J aS) J (aj (ag J) J (ai (aw (aG () trivial J (bx (aH J)) (congrArg Value.bool (By q7 q12 hs0 q0 hk)) [] [] J J J)))))))))))
def vI(p:ByteArray×Int):Value:= .int .i64 p.2
theorem zz{k:Int}{nm:ByteArray}{n:Nat}(h:k=1∨k=5):oP k nm n=((nm==⟨#[]⟩)&&decide ((n:Int)=0)):=by
 unfold oP;rw [if_pos h,bR]
 congr 1
 exact decide_eq_decide.2 (by omega)
theorem Iw{k:Int}{nm:ByteArray}{n:Nat}(h:k=2):oP k nm n=(bS nm&&decide ((n:Int)=0)):=by
 subst h;show(bS nm&&decide (n=0))=_
 congr 1
 exact decide_eq_decide.2 (by omega)
theorem Iv{k:Int}{nm:ByteArray}{n:Nat}(h:k=3):oP k nm n=bS nm:=by
 subst h;rfl
theorem Iu{k:Int}{nm:ByteArray}{n:Nat}(h:k=4):oP k nm n=((nm==⟨#[]⟩)&&decide ((n:Int)=1)):=by
 subst h;show(decide (nm=oNil)&&decide (n=1))=_;rw [bR]
 congr 1
 exact decide_eq_decide.2 (by omega)
theorem It{k:Int}{nm:ByteArray}{n:Nat}(h:k=6):oP k nm n=(bX nm wN&&decide ((n:Int)=1)):=by
 subst h;show(bX nm wN&&decide (n=1))=_
 congr 1
 exact decide_eq_decide.2 (by omega)
theorem Ir{k:Int}{nm:ByteArray}{n:Nat}(h:k=7):oP k nm n=(gw nm&&decide ((n:Int)=2)):=by
 subst h;show(gw nm&&decide (n=2))=_
 congr 1
 exact decide_eq_decide.2 (by omega)
theorem Ix{k:Int}{nm:ByteArray}{n:Nat}(h1:¬k=1)(h5:¬k=5)(h2:¬k=2)(h3:¬k=3)(h4:¬k=4)(h6:¬k=6)(h7:¬k=7):oP k nm n=false:=by
 unfold oP;rw [if_neg (fun h=>h.elim h1 h5),if_neg h2,if_neg h3,if_neg h4,if_neg h6,if_neg h7]
theorem fO{α:Type}(p:α→Bool):∀l:List α,(!(l.any fun x=> !p x))=l.all p
 | []=>rfl
 | a::r=>by rw [List.any_cons,List.all_cons,←fO p r];cases p a<;>simp
theorem zm(t:Tx):rX t=(oP t.kind t.name t.kids.length&&(decide (t.kind=1) || decide (t.n=0))&& !(t.kids.any fun u=> !rX u)):=by
 rw [fO];cases t;rw [rX,oM];rfl
theorem vH:
  Spec Tryz.prog 201 [] [] [] (X:=Nat) (fun _=>True) (fun b=> .map (some b)) (fun b=> [mp fz Prod.fst vI (some b) lvL]) (fun _=> []):=by
 refine aF Tryz.func201 J Tryz.ntmps201 J fun w0 M H=>ae (aa (aj (ag J) J (ai (ae (aa (kJ (Prod.fst:ByteArray×Int→ByteArray) fz vI J fun b1=>bT (k:=1) (α:=ByteArray×Int) (kf:=Prod.fst) (vf:=vI) (iH,0) [(iH,0)] Tryz.underlying105 d8 J J J J (List.Perm.of_eq J) (bT (k:=1) (α:=ByteArray×Int) (kf:=Prod.fst) (vf:=vI) (d6,1) [(d6,1),(iH,0)] Tryz.underlying105 d8 J J J J (List.Perm.of_eq J) (bT (k:=1) (α:=ByteArray×Int) (kf:=Prod.fst) (vf:=vI) (dW,2) [(dW,2),(d6,1),(iH,0)] Tryz.underlying105 d8 J J J J (List.Perm.of_eq J) (bT (k:=1) (α:=ByteArray×Int) (kf:=Prod.fst) (vf:=vI) (lm,3) [(lm,3),(dW,2),(d6,1),(iH,0)] Tryz.underlying105 d8 J J J J (List.Perm.of_eq J) (bT (k:=1) (α:=ByteArray×Int) (kf:=Prod.fst) (vf:=vI) (lg,3) [(lg,3),(lm,3),(dW,2),(d6,1),(iH,0)] Tryz.underlying105 d8 J J J J (List.Perm.of_eq J) (bT (k:=1) (α:=ByteArray×Int) (kf:=Prod.fst) (vf:=vI) (jZ,4) [(jZ,4),(lg,3),(lm,3),(dW,2),(d6,1),(iH,0)] Tryz.underlying105 d8 J J J J (List.Perm.of_eq J) ?_)))))))))))
 refine bT (k:=1) (α:=ByteArray×Int) (kf:=Prod.fst) (vf:=vI) (lh,4) [(lh,4),(jZ,4),(lg,3),(lm,3),(dW,2),(d6,1),(iH,0)] Tryz.underlying105 d8 J J J J (List.Perm.of_eq J) (bT (k:=1) (α:=ByteArray×Int) (kf:=Prod.fst) (vf:=vI) (li,4) [(li,4),(lh,4),(jZ,4),(lg,3),(lm,3),(dW,2),(d6,1),(iH,0)] Tryz.underlying105 d8 J J J J (List.Perm.of_eq J) (bT (k:=1) (α:=ByteArray×Int) (kf:=Prod.fst) (vf:=vI) (l9,4) [(l9,4),(li,4),(lh,4),(jZ,4),(lg,3),(lm,3),(dW,2),(d6,1),(iH,0)] Tryz.underlying105 d8 J J J J (List.Perm.of_eq J) (bT (k:=1) (α:=ByteArray×Int) (kf:=Prod.fst) (vf:=vI) (fe,5) [(fe,5),(l9,4),(li,4),(lh,4),(jZ,4),(lg,3),(lm,3),(dW,2),(d6,1),(iH,0)] Tryz.underlying105 d8 J J J J (List.Perm.of_eq J) (bT (k:=1) (α:=ByteArray×Int) (kf:=Prod.fst) (vf:=vI) (fy,5) [(fy,5),(fe,5),(l9,4),(li,4),(lh,4),(jZ,4),(lg,3),(lm,3),(dW,2),(d6,1),(iH,0)] Tryz.underlying105 d8 J J J J (List.Perm.of_eq J) (bT (k:=1) (α:=ByteArray×Int) (kf:=Prod.fst) (vf:=vI) (eG,6) [(eG,6),(fy,5),(fe,5),(l9,4),(li,4),(lh,4),(jZ,4),(lg,3),(lm,3),(dW,2),(d6,1),(iH,0)] Tryz.underlying105 d8 J J J J (List.Perm.of_eq J) (bT (k:=1) (α:=ByteArray×Int) (kf:=Prod.fst) (vf:=vI) (dw,6) [(dw,6),(eG,6),(fy,5),(fe,5),(l9,4),(li,4),(lh,4),(jZ,4),(lg,3),(lm,3),(dW,2),(d6,1),(iH,0)] Tryz.underlying105 d8 J J J J (List.Perm.of_eq J) (bT (k:=1) (α:=ByteArray×Int) (kf:=Prod.fst) (vf:=vI) (ff,7) [(ff,7),(dw,6),(eG,6),(fy,5),(fe,5),(l9,4),(li,4),(lh,4),(jZ,4),(lg,3),(lm,3),(dW,2),(d6,1),(iH,0)] Tryz.underlying105 d8 J J J J (List.Perm.of_eq J) (bT (k:=1) (α:=ByteArray×Int) (kf:=Prod.fst) (vf:=vI) (iV,7) [(iV,7),(ff,7),(dw,6),(eG,6),(fy,5),(fe,5),(l9,4),(li,4),(lh,4),(jZ,4),(lg,3),(lm,3),(dW,2),(d6,1),(iH,0)] Tryz.underlying105 d8 J J J J (List.Perm.of_eq J) (bT (k:=1) (α:=ByteArray×Int) (kf:=Prod.fst) (vf:=vI) (jt,7) [(jt,7),(iV,7),(ff,7),(dw,6),(eG,6),(fy,5),(fe,5),(l9,4),(li,4),(lh,4),(jZ,4),(lg,3),(lm,3),(dW,2),(d6,1),(iH,0)] Tryz.underlying105 d8 J J J J (List.Perm.of_eq J) ?_)))))))))
 refine aj (ac J) J (aj (ag J) J (ai (aw (aG b1 trivial J (bx (aH J)) J [1] [] J J J))))
theorem CT(v:SV)(l:List Tx)(ih:∀u∈l,Spec Tryz.prog 188 [xV u] [] [bK u.v u.kids] (X:=Unit) (fun _=>True) (fun _=> .bool (rX u)) (fun _=> []) (fun _=> []))(u:Tx)(hu:u∈l):
  Spec Tryz.prog 202 [xV u] [] [bK v l] (X:=Unit) (fun _=>True) (fun _=> .bool (!rX u)) (fun _=> []) (fun _=> []):=by
 refine aF Tryz.func202 J Tryz.ntmps202 J fun w0 M H=>aQ 0 7 J (cH hu) (ae (aa (bN J J fun b1=>aj (ag J) J (ai (ae (aa (aj (aJ cg J J J (aR (k:=1) J)) J (bF (xs:= [.tmp 3]) (ih u hu) IS [] [(false,7)] [] [] J J J J J J J J (fun _ _=>J) (fun _ _ _=>J) J (fun _ _=>aj (bZ J) J (aj (ag J) J (ai ?_)))))))))))
 refine aw (aG () trivial J (bx (aH J)) J [] [] J J J)
theorem CS(v:SV)(l:List Tx)(ih:∀u∈l,Spec Tryz.prog 188 [xV u] [] [bK u.v u.kids] (X:=Unit) (fun _=>True) (fun _=> .bool (rX u)) (fun _=> []) (fun _=> []))(u:Tx)(hu:u∈l):
  Spec Tryz.prog 187 [xV u] [] [bK v l] (X:=Unit) (fun _=>True) (fun _=> .bool (!rX u)) (fun _=> []) (fun _=> []):=by
 refine aF Tryz.func187 J Tryz.ntmps187 J fun w0 M H=>aQ 0 7 J (cH hu) (ae (aa (bN J J fun b1=>aj (ag J) J (ai (ae (aa (aj (aJ cg J J J (aR (k:=1) J)) J (bF (xs:= [.tmp 3]) (ih u hu) IS [] [(false,7)] [] [] J J J J J J J J (fun _ _=>J) (fun _ _ _=>J) J (fun _ _=>aj (bZ J) J (aj (ag J) J (ai ?_)))))))))))
 refine aw (aG () trivial J (bx (aH J)) J [] [] J J J)
theorem FZ(t:Tx)(ht:GX t)(ih:∀u∈t.kids,Spec Tryz.prog 188 [xV u] [] [bK u.v u.kids] (X:=Unit) (fun _=>True) (fun _=> .bool (rX u)) (fun _=> []) (fun _=> [])):
  Spec Tryz.prog 188 [xV t] [] [bK t.v t.kids] (X:=Unit) (fun _=>True) (fun _=> .bool (rX t)) (fun _=> []) (fun _=> []):=by
 refine aF Tryz.func188 J Tryz.ntmps188 J fun w0 M H=>aQ 0 1 J eL ?_
 have hnm:=HR ht;have hkl:=kE ht;refine ae (aa (bN J J fun b1=>aj (ag J) J (ai (ae (aa (aj (ag J) J (ai (ae (zj [0,1,2,3,4,5,6,7,8] [0,1,2,3,4,5,7,6,8] [7,8,9,10,6,11,12,4,5] _ J J J (aZ (V:= [(1,8,_),(2,9,_)]) [1,2] 0 [0] [3,4,5,6,7,8] (fun bm=> [(3,10,_),(4,6,_),(5,11,_),(6,12,_),(7,4,_),(8,5,_)]) J J (ad (aD J (ah cN J)) (ad (aD J (ak t9 J J (ap (k:=1) J J))) ay)) J J J J J J J J J J J (fun _ _=>J) J (gV (xs:= []) vH NQ [] [] [60] [] J J J J J J J J (fun _ _=>J) (fun _ _ _=>J)) (fun bm _=>be [3,4,5,6,7,8,1,2] J J (ad (aD J (mF Tryz.underlying105 d8 t3 J J (DN (k:=60) J) J)) (ad (aD J (ac J)) (ad (aD J (bV J J)) (ad (aD J (bV J J)) (ad (aD J (ag J)) (ad (aD J (ag J)) (ad (aD J (ah cN J)) (ad (aD J (ak t9 J J (ap (k:=1) J J))) ay)))))))) J J J (bi (X:=Unit) (fun _=>True) (fun _=> [(1,.pointer (some ⟨b1,0,none⟩)),(3,.bool (oP t.kind t.name t.kids.length))]) (fun _=> [(1,aY b1 61 (df t))]) (fun _=> [(0,bK t.v t.kids),(1,sl 4 df (sv t.v) t.kids)]) ?_ (fun _ _=> ?_)))))))))))))
 ·refine ae (aa (aj (ah ix J) J (aj (ak t3 J J (ap (k:=1) J J)) J (ai (aB (ae (ae (aa (aj (am J J aS) J (aj (ag J) J (ai (ar J (fun h1=> ?_) (fun h1=> ?_)))))))))))))
  ·have q1:t.kind=1:=of_decide_eq_true h1;refine az (ar J (fun h2=> ?_) (fun h2=> ?_))
   ·(try simp only [aV]at h2)
    refine aa (aj (ah cN J) J (aj (ak t9 J J (ap (k:=1) J J)) J (aj (am J J ci) J (aj (ac J) J (aA [] J J trivial (fun hg3=>ah cU J) J (aA [(22,_)] J J ⟨J,trivial⟩ (fun hg4=>ak ic J J (ap (k:=1) J J)) J (aA [(22,_),(23,_)] J J ⟨J,J,trivial⟩ (fun hg5=>aO Tryz.underlying59 J (aK (k:=1) J)) J (aA [(22,_),(23,_),(24,_)] J J ⟨J,J,J,trivial⟩ (fun hg6=>am J J aS) J (aj (aM J J J (by first|exact ax|exact aC|rfl)) J (aj (ag J) J (ai (aL () trivial (by rw [zz (.inl q1)];rfl) J J))))))))))))
   ·exact absurd (decide_eq_true q1) (by rw [h2];simp)
  ·have q1:¬t.kind=1:=of_decide_eq_false h1;refine aa (aj (am J J aS) J (aj (ag J) J (ai (ar J (fun h7=> ?_) (fun h7=> ?_)))))
   ·have q5:t.kind=5:=of_decide_eq_true h7;refine aa (aj (ah cN J) J (aj (ak t9 J J (ap (k:=1) J J)) J (aj (am J J ci) J (aj (ac J) J (aA [] J J trivial (fun hg8=>ah cU J) J (aA [(22,_)] J J ⟨J,trivial⟩ (fun hg9=>ak ic J J (ap (k:=1) J J)) J (aA [(22,_),(23,_)] J J ⟨J,J,trivial⟩ (fun hg10=>aO Tryz.underlying59 J (aK (k:=1) J)) J (aA [(22,_),(23,_),(24,_)] J J ⟨J,J,J,trivial⟩ (fun hg11=>am J J aS) J (aj (aM J J J (by first|exact ax|exact aC|rfl)) J (aj (ag J) J (ai (aL () trivial (by rw [zz (.inr q5)];rfl) J J))))))))))))
   ·have q5:¬t.kind=5:=of_decide_eq_false h7;refine ae (aa (aj (am J J aS) J (aj (ag J) J (ai (ar J (fun h12=> ?_) (fun h12=> ?_))))))
    ·have q2:t.kind=2:=of_decide_eq_true h12;refine aa (aj (ah cN J) J (aj (ak t9 J J (ap (k:=1) J J)) J (bF (xs:= [.tmp 30]) (ip t.name hnm.1 hnm.2) wC [] [] [] [] J J J J J J J J (fun _ _=>J) (fun _ _ _=>J) J (fun _ _=>aj (ac J) J (aA [] J J trivial (fun hg13=>ah cU J) J (aA [(33,_)] J J ⟨J,trivial⟩ (fun hg14=>ak ic J J (ap (k:=1) J J)) J (aA [(33,_),(34,_)] J J ⟨J,J,trivial⟩ (fun hg15=>aO Tryz.underlying59 J (aK (k:=1) J)) J (aA [(33,_),(34,_),(35,_)] J J ⟨J,J,J,trivial⟩ (fun hg16=>am J J aS) J (aj (aM J J J (by first|exact ax|exact aC|rfl)) J (aj (ag J) J (ai (aL () trivial (by rw [Iw q2];rfl) J J))))))))))))
    ·have q2:¬t.kind=2:=of_decide_eq_false h12;refine ae (aa (aj (am J J aS) J (aj (ag J) J (ai (ar J (fun h17=> ?_) (fun h17=> ?_))))))
     ·have q3:t.kind=3:=of_decide_eq_true h17;refine aa (aj (ah cN J) J (aj (ak t9 J J (ap (k:=1) J J)) J (bF (xs:= [.tmp 41]) (ip t.name hnm.1 hnm.2) wC [] [] [] [] J J J J J J J J (fun _ _=>J) (fun _ _ _=>J) J (fun _ _=>aj (ag J) J (ai (aL () trivial (by rw [Iv q3];rfl) J J))))))
     ·have q3:¬t.kind=3:=of_decide_eq_false h17;refine ae (aa (aj (am J J aS) J (aj (ag J) J (ai (ar J (fun h18=> ?_) (fun h18=> ?_))))))
      ·have q4:t.kind=4:=of_decide_eq_true h18;refine aa (aj (ah cN J) J (aj (ak t9 J J (ap (k:=1) J J)) J (aj (am J J ci) J (aj (ac J) J (aA [] J J trivial (fun hg19=>ah cU J) J (aA [(49,_)] J J ⟨J,trivial⟩ (fun hg20=>ak ic J J (ap (k:=1) J J)) J (aA [(49,_),(50,_)] J J ⟨J,J,trivial⟩ (fun hg21=>aO Tryz.underlying59 J (aK (k:=1) J)) J (aA [(49,_),(50,_),(51,_)] J J ⟨J,J,J,trivial⟩ (fun hg22=>am J J aS) J (aj (aM J J J (by first|exact ax|exact aC|rfl)) J (aj (ag J) J (ai (aL () trivial (by rw [Iu q4];rfl) J J))))))))))))
      ·have q4:¬t.kind=4:=of_decide_eq_false h18;refine ae (aa (aj (am J J aS) J (aj (ag J) J (ai (ar J (fun h23=> ?_) (fun h23=> ?_))))))
       ·have q6:t.kind=6:=of_decide_eq_true h23;refine aa (cu eS wN (parts:= [(0,.const (.string (ByteArray.mk #[45]))),(1,.const (.string (ByteArray.mk #[126]))),(2,.const (.string (ByteArray.mk #[33])))]) Tryz.underlying46 t9 J (by decide) (by intro _;rfl) J (by decide) (by decide) J J J J fun v56=>aj (ah cN J) J (aj (ak t9 J J (ap (k:=1) J J)) J (bW 56 21 J br (bF (xs:= [.tmp 56,.tmp 58]) (gp v56 wN (by decide) t.name) AC [] [(false,21)] [] [] J J J J J J J J (fun _ _=>J) (fun _ _ _=>J) J (fun _ _=>aj (ac J) J (aA [] J J trivial (fun hg24=>ah cU J) J (aA [(61,_)] J J ⟨J,trivial⟩ (fun hg25=>ak ic J J (ap (k:=1) J J)) J (aA [(61,_),(62,_)] J J ⟨J,J,trivial⟩ (fun hg26=>aO Tryz.underlying59 J (aK (k:=1) J)) J (aA [(61,_),(62,_),(63,_)] J J ⟨J,J,J,trivial⟩ (fun hg27=>am J J aS) J (aj (aM J J J (by first|exact ax|exact aC|rfl)) J (aj (ag J) J (ai ?_))))))))))));refine aL () trivial (by rw [It q6];rfl) J J
       ·have q6:¬t.kind=6:=of_decide_eq_false h23;refine ae (aa (aj (am J J aS) J (aj (ag J) J (ai (ar J (fun h28=> ?_) (fun h28=> ?_))))))
        ·have q7:t.kind=7:=of_decide_eq_true h28;refine aa (aj (ac J) J (aj (ac J) J (aA [] J J trivial (fun hg29=>ah cU J) J (aA [(70,_)] J J ⟨J,trivial⟩ (fun hg30=>ak ic J J (ap (k:=1) J J)) J (aA [(70,_),(71,_)] J J ⟨J,J,trivial⟩ (fun hg31=>aO Tryz.underlying59 J (aK (k:=1) J)) J (aA [(70,_),(71,_),(72,_)] J J ⟨J,J,J,trivial⟩ (fun hg32=>am J J aS) J (aj (aM J J J (by first|exact ax|exact aC|rfl)) J (aj (ag J) J (ai (aL () trivial (by rw [Ir q7];rfl) J J))))))))))
        ·have q7:¬t.kind=7:=of_decide_eq_false h28;refine az (aL () trivial (by rw [Ix q1 q5 q2 q3 q4 q6 q7];rfl) J J)
 ·refine ae (aa (aj (ac J) J (aj (ac J) J (aA [] J J trivial (fun hg33=>ah ix J) J (aA [(77,_)] J J ⟨J,trivial⟩ (fun hg34=>ak t3 J J (ap (k:=1) J J)) J (aA [(77,_),(78,_)] J J ⟨J,J,trivial⟩ (fun hg35=>am J J aS) J (aA [(77,_),(78,_),(79,_)] J J ⟨J,J,J,trivial⟩ (fun hg36=>ac J) J (ch [] [(77,_),(78,_),(79,_),(80,_)] J J trivial ⟨J,J,J,J,trivial⟩ (fun hg37 hg37'=>ah ua J) J (ch [(81,_)] [(77,_),(78,_),(79,_),(80,_)] J J ⟨J,trivial⟩ ⟨J,J,J,J,trivial⟩ (fun hg38 hg38'=>ak cr J J (ap (k:=1) J J)) J (ch [(81,_),(82,_)] [(77,_),(78,_),(79,_),(80,_)] J J ⟨J,J,trivial⟩ ⟨J,J,J,J,trivial⟩ (fun hg39 hg39'=>am J J aS) J (aA [(77,_),(78,_),(79,_),(80,_)] J J ⟨J,J,J,J,trivial⟩ (fun hg40=>aM J J J (by first|exact ax|exact aC|exact co hg40|exact cO hg40|rfl)) J (aj (aM J J J (by first|exact ax|exact aC|rfl)) J (aj (ac J) J ?_)))))))))))));refine aA [] J J trivial (fun hg41=>ah cU J) J (aA [(87,_)] J J ⟨J,trivial⟩ (fun hg42=>ak ic J J (ap (k:=1) J J)) J (gM [(87,_),(88,_)] J J ⟨J,J,trivial⟩ (fun hg43=>gV (xs:= [.tmp 88,.func 202]) (sT t.v t.kids hkl 202 [] (bK t.v t.kids) (fun u=> !rX u) NP (fun u hu=>CT t.v t.kids ih u hu)) IT [] [(false,1),(false,0)] [] [] J J J J J J J J (fun _ _=>J) (fun _ _ _=>J)) J (aA [(87,_),(88,_),(89,_)] J J ⟨J,J,J,trivial⟩ (fun hg44=>bZ J) J (aj (aM J J J (by first|exact ax|exact aC|rfl)) J (aj (ag J) J (ai (aw (aG () trivial J (bx (aH J)) (congrArg Value.bool (zm t).symm) [] [] J J J))))))))
theorem CN:∀(n:Nat)(t:Tx),SizeOf.sizeOf t<n→GX t→Spec Tryz.prog 188 [xV t] [] [bK t.v t.kids] (X:=Unit) (fun _=>True) (fun _=> .bool (rX t)) (fun _=> []) (fun _=> [])
 | 0,_,h,_=>absurd h (Nat.not_lt_zero _)
 | n+1,t,h,ht=>FZ t ht fun u hu=>CN n u (by have:=ob hu;omega) ((iT ht).mem u hu)
theorem F1(t:Tx)(ht:GX t):Spec Tryz.prog 188 [xV t] [] [bK t.v t.kids] (X:=Unit) (fun _=>True) (fun _=> .bool (rX t)) (fun _=> []) (fun _=> []):=CN _ t (Nat.lt_succ_self _) ht
theorem Mw(t:Ty):rY t=(decide (t.kind≥1)&&decide (t.kind≤8)&&decide ((t.es.length:Int)=if t.kind=3 then 2 else 1)&&((decide (t.kind=1) || decide (t.kind=2))&&bS t.name || !(decide (t.kind=1) || decide (t.kind=2))&&(t.name==⟨#[]⟩))&&
   (decide ((if t.kind=4 then 2 else if t.kind=5 then 1 else 0:Int)>0) || decide ((t.body.length:Int)=0))&&(decide ((if t.kind=4 then 2 else if t.kind=5 then 1 else 0:Int)>1) || decide ((t.els.length:Int)=0))&& !(t.es.any fun u=> !rX u)&&t.body.all rY&&t.els.all rY):=by
 rw [fO];have e1:decide ((t.es.length:Int)=if t.kind=3 then 2 else 1)=decide (t.es.length=if t.kind=3 then 2 else 1):=decide_eq_decide.2 (by split<;>omega);have e2:((decide (t.kind=1) || decide (t.kind=2))&&bS t.name || !(decide (t.kind=1) || decide (t.kind=2))&&(t.name==⟨#[]⟩))=(if t.kind=1∨t.kind=2 then bS t.name else decide (t.name=oNil)):=by
  rw [bR];by_cases h:t.kind=1∨t.kind=2
  ·rw [if_pos h];have:(decide (t.kind=1) || decide (t.kind=2))=true:=by simpa using h
   rw [this];simp
  ·rw [if_neg h];have:(decide (t.kind=1) || decide (t.kind=2))=false:=by simpa using h
   rw [this];simp only [Bool.false_and,Bool.not_false,Bool.true_and,Bool.false_or];rfl
 have e3:(decide ((if t.kind=4 then 2 else if t.kind=5 then 1 else 0:Int)>0) || decide ((t.body.length:Int)=0))=(decide (t.kind=4) || decide (t.kind=5) || decide (t.body.length=0)):=by
  rw [show decide ((t.body.length:Int)=0)=decide (t.body.length=0)from decide_eq_decide.2 (by omega)]
  congr 1
  by_cases h4:t.kind=4
  ·simp [h4]
  ·by_cases h5:t.kind=5
   ·simp [h5]
   ·simp [h4,h5]
 have e4:(decide ((if t.kind=4 then 2 else if t.kind=5 then 1 else 0:Int)>1) || decide ((t.els.length:Int)=0))=(decide (t.kind=4) || decide (t.els.length=0)):=by
  rw [show decide ((t.els.length:Int)=0)=decide (t.els.length=0)from decide_eq_decide.2 (by omega)]
  congr 1
  by_cases h4:t.kind=4
  ·simp [h4]
  ·by_cases h5:t.kind=5
   ·simp [h5]
   ·simp [h4,h5]
 rw [e1,e2,e3,e4];cases t;rw [rY,oM,jr,jr];rfl
theorem Mz(f:Tf):(f.ps.any (fun s=> !bS s) || !bS f.name || !(f.body.all rY))= !rF f:=by
 unfold rF;rw [jr,←fO bS f.ps];cases f.ps.any (fun s=> !bS s)<;>cases bS f.name<;>cases f.body.all rY<;>rfl
theorem FG{v:SV}{l:List Tf}:∀w G,(cm v l).pred w G→(∀b,G b→b<w.heap.size)→∃G',(Hq l).pred w G'∧∀b,G' b→G b:=fun w G h _=>⟨G,h.2,fun _ hb=>hb⟩
theorem CM(v:SV)(l:List Ty)(ih:∀u∈l,Spec Tryz.prog 163 [yV u] [] [bK u.ve u.es,bz u.vb u.body,bz u.vl u.els] (X:=Unit) (fun _=>True) (fun _=> .bool (rY u)) (fun _=> []) (fun _=> []))(u:Ty)(hu:u∈l):
  Spec Tryz.prog 162 [yV u] [] [bz v l] (X:=Unit) (fun _=>True) (fun _=> .bool (!rY u)) (fun _=> []) (fun _=> []):=by
 refine aF Tryz.func162 J Tryz.ntmps162 J fun w0 M H=>aQ 0 7 J (jl hu) (aQ 0 8 J (fv hu) (aQ 0 9 J (gl hu) (ae (aa (bN J J fun b1=>aj (ag J) J (ai (ae (aa (aj (aJ dA J J J (aR (k:=1) J)) J (bF (xs:= [.tmp 3]) (ih u hu) N5 [] [(false,7),(false,8),(false,9)] [] [] J J J J J J J J (fun _ _=>J) (fun _ _ _=>J) J (fun _ _=>aj (bZ J) J ?_)))))))))))
 refine aj (ag J) J (ai (aw (aG () trivial J (bx (aH J)) J [] [] J J J)))
theorem nH(v:SV)(l:List Ty)(hl:l.length≤1000000)(ih:∀u∈l,Spec Tryz.prog 163 [yV u] [] [bK u.ve u.es,bz u.vb u.body,bz u.vl u.els] (X:=Unit) (fun _=>True) (fun _=> .bool (rY u)) (fun _=> []) (fun _=> [])):
  Spec Tryz.prog 123 [sv v] [] [bz v l] (X:=Unit) (fun _=>True) (fun _=> .bool (l.all rY)) (fun _=> []) (fun _=> []):=by
 refine aF Tryz.func123 J Tryz.ntmps123 J fun w0 M H=>aQ 0 1 J fL (ae (aa (aj (ag J) J (ai (ae (aa (aj (ac J) J (bF (xs:= [.tmp 3,.func 162]) (BI v l hl 162 [] (bz v l) (fun u=> !rY u) N6 (fun u hu=>CM v l ih u hu)) N7 [] [(false,1),(false,0)] [] [] J J J J J J J J (fun _ _=>J) (fun _ _ _=>J) J (fun _ _=>aj (bZ J) J (aj (ag J) J (ai (aw ?_))))))))))))
 refine aG () trivial J (bx (aH J)) (congrArg Value.bool (fO rY l)) [] [] J J J
theorem FX(t:Ty)(ht:GY t)(ihb:∀u∈t.body,Spec Tryz.prog 163 [yV u] [] [bK u.ve u.es,bz u.vb u.body,bz u.vl u.els] (X:=Unit) (fun _=>True) (fun _=> .bool (rY u)) (fun _=> []) (fun _=> []))(ihl:∀u∈t.els,Spec Tryz.prog 163 [yV u] [] [bK u.ve u.es,bz u.vb u.body,bz u.vl u.els] (X:=Unit) (fun _=>True) (fun _=> .bool (rY u)) (fun _=> []) (fun _=> [])):
  Spec Tryz.prog 163 [yV t] [] [bK t.ve t.es,bz t.vb t.body,bz t.vl t.els] (X:=Unit) (fun _=>True) (fun _=> .bool (rY t)) (fun _=> []) (fun _=> []):=by
 refine aF Tryz.func163 J Tryz.ntmps163 J fun w0 M H=>aQ 0 3 J eL (aQ 1 4 J fL (aQ 2 5 J fL ?_))
 have hnm:=HQ ht;obtain⟨hel,heg⟩:=nh ht;obtain⟨hbl,hbg⟩:=dP ht;obtain⟨hll,hlg⟩:=eR ht;refine ae (aa (bN J J fun b1=>aj (ag J) J (ai (ae (aa (aj (ah dJ J) J (aj (ak t3 J J (ap (k:=1) J J)) J (aj (am J J aS) J (aj (ac J) J (aA [] J J trivial (fun hg1=>ah dJ J) J (aA [(10,_)] J J ⟨J,trivial⟩ (fun hg2=>ak t3 J J (ap (k:=1) J J)) J (aA [(10,_),(11,_)] J J ⟨J,J,trivial⟩ (fun hg3=>am J J aS) J ?_))))))))))));refine aj (aM J J J (by first|exact ax|exact aC|rfl)) J (aj (ag J) J (ai (ae (aa (aj (ag J) J (ai (bi (X:=Unit) (fun _=>True) (fun _=> [(1,.pointer (some ⟨b1,0,none⟩)),(3,.bool (decide (t.kind=1) || decide (t.kind=2))),(4,.int .i64 (if t.kind=3 then 2 else 1))]) (fun _=> [(1,aY b1 64 (ec t))]) (fun _=> [(0,bK t.ve t.es),(1,bz t.vb t.body),(2,bz t.vl t.els),(3,sl 4 df (sv t.ve) t.es),(4,sl 5 ec (sv t.vb) t.body),(5,sl 5 ec (sv t.vl) t.els)]) ?_ (fun _ _=> ?_))))))))
 ·refine ae (aa (aj (ah dJ J) J (aj (ak t3 J J (ap (k:=1) J J)) J (aj (am J J aS) J (ai (ar J (fun h4=> ?_) (fun h4=> ?_)))))))
  ·have q3:t.kind=3:=of_decide_eq_true h4;refine aa (aj (ag J) J (ai (aL () trivial (by rw [if_pos q3];rfl) J J)))
  ·have q3:¬t.kind=3:=of_decide_eq_false h4;refine az (aL () trivial (by rw [if_neg q3];rfl) J J)
 ·refine ae (aa (aj (ag J) J (ai (bi (X:=Unit) (fun _=>True) (fun _=> [(1,.pointer (some ⟨b1,0,none⟩)),(3,.bool (decide (t.kind=1) || decide (t.kind=2))),(4,.int .i64 (if t.kind=3 then 2 else 1)),(5,.int .i64 (if t.kind=4 then 2 else if t.kind=5 then 1 else 0))]) (fun _=> [(1,aY b1 64 (ec t))]) (fun _=> [(0,bK t.ve t.es),(1,bz t.vb t.body),(2,bz t.vl t.els),(3,sl 4 df (sv t.ve) t.es),(4,sl 5 ec (sv t.vb) t.body),(5,sl 5 ec (sv t.vl) t.els)]) ?_ (fun _ _=> ?_)))))
  ·refine ae (aa (aj (ah dJ J) J (aj (ak t3 J J (ap (k:=1) J J)) J (ai (aB (ae (aa (aj (am J J aS) J (aj (ag J) J (ai (ar J (fun h5=> ?_) (fun h5=> ?_))))))))))))
   ·have q4:t.kind=4:=of_decide_eq_true h5;refine aa (aj (ag J) J (ai (aL () trivial (by rw [if_pos q4];rfl) J J)))
   ·have q4:¬t.kind=4:=of_decide_eq_false h5;refine ae (aa (aj (am J J aS) J (aj (ag J) J (ai (ar J (fun h6=> ?_) (fun h6=> ?_))))))
    ·have q5:t.kind=5:=of_decide_eq_true h6;refine aa (aj (ag J) J (ai (aL () trivial (by rw [if_neg q4,if_pos q5];rfl) J J)))
    ·have q5:¬t.kind=5:=of_decide_eq_false h6;refine az (aL () trivial (by rw [if_neg q4,if_neg q5];rfl) J J)
  ·refine ae (aa (aj (ah dJ J) J (aj (ak t3 J J (ap (k:=1) J J)) J (aj (am J J eV) J (aj (ac J) J (aA [] J J trivial (fun hg7=>ah dJ J) J (aA [(27,_)] J J ⟨J,trivial⟩ (fun hg8=>ak t3 J J (ap (k:=1) J J)) J (aA [(27,_),(28,_)] J J ⟨J,J,trivial⟩ (fun hg9=>am J J jj) J (aj (aM J J J (by first|exact ax|exact aC|rfl)) J (aj (ac J) J (aA [] J J trivial (fun hg10=>ah eO J) J (aA [(32,_)] J J ⟨J,trivial⟩ (fun hg11=>ak ic J J (ap (k:=1) J J)) J (aA [(32,_),(33,_)] J J ⟨J,J,trivial⟩ (fun hg12=>aO Tryz.underlying59 J (aK (k:=3) J)) J ?_)))))))))))));refine aA [(32,_),(33,_),(34,_)] J J ⟨J,J,J,trivial⟩ (fun hg13=>ac J) J (aA [(32,_),(33,_),(34,_),(35,_)] J J ⟨J,J,J,J,trivial⟩ (fun hg14=>am J J aS) J (aj (aM J J J (by first|exact ax|exact aC|rfl)) J (aj (ac J) J (aA [] J J trivial (fun hg15=>ac J) J (aA [(39,_)] J J ⟨J,trivial⟩ (fun hg16=>ac J) J (ch [] [(39,_),(40,_)] J J trivial ⟨J,J,trivial⟩ (fun hg17 hg17'=>ah gg J) J (ch [(41,_)] [(39,_),(40,_)] J J ⟨J,trivial⟩ ⟨J,J,trivial⟩ (fun hg18 hg18'=>ak t9 J J (ap (k:=1) J J)) J (C2 [(41,_),(42,_)] [(39,_),(40,_)] J J ⟨J,J,trivial⟩ ⟨J,J,trivial⟩ (fun hg19 hg19'=>gV (xs:= [.tmp 42]) (ip t.name hnm.1 hnm.2) wC [] [] [] [] J J J J J J J J (fun _ _=>J) (fun _ _ _=>J)) J (aA [(39,_),(40,_)] J J ⟨J,J,trivial⟩ (fun hg20=>aM J J J (by first|exact ax|exact aC|exact co hg20|exact cO hg20|rfl)) J (aA [(39,_),(40,_),(44,_)] J J ⟨J,J,J,trivial⟩ (fun hg21=>ac J) J (ch [] [(39,_),(40,_),(44,_),(45,_)] J J trivial ⟨J,J,J,J,trivial⟩ (fun hg22 hg22'=>ac J) J (ch [(46,_)] [(39,_),(40,_),(44,_),(45,_)] J J ⟨J,trivial⟩ ⟨J,J,J,J,trivial⟩ (fun hg23 hg23'=>bZ J) J (ch [(46,_),(47,_)] [(39,_),(40,_),(44,_),(45,_)] J J ⟨J,J,trivial⟩ ⟨J,J,J,J,trivial⟩ (fun hg24 hg24'=>ac J) J ?_)))))))))))))
   refine ch [] [(46,_),(47,_),(48,_)] J J trivial ⟨J,J,J,trivial⟩ (fun hg25 hg25'=>ah gg J) J (ch [(49,_)] [(46,_),(47,_),(48,_)] J J ⟨J,trivial⟩ ⟨J,J,J,trivial⟩ (fun hg26 hg26'=>ak t9 J J (ap (k:=1) J J)) J (ch [(49,_),(50,_)] [(46,_),(47,_),(48,_)] J J ⟨J,J,trivial⟩ ⟨J,J,J,trivial⟩ (fun hg27 hg27'=>am J J ci) J (ch [(46,_),(47,_),(48,_)] [(39,_),(40,_),(44,_),(45,_)] J J ⟨J,J,J,trivial⟩ ⟨J,J,J,J,trivial⟩ (fun hg28 hg28'=>aM J J J (by first|exact ax|exact aC|exact co hg28|exact cO hg28|exact co (AK hg28 hg28')|exact cO (AK hg28 hg28')|rfl)) J (aA [(39,_),(40,_),(44,_),(45,_)] J J ⟨J,J,J,J,trivial⟩ (fun hg29=>aM J J J (by first|exact ax|exact aC|exact co hg29|exact cO hg29|rfl)) J (aj (aM J J J (by first|exact ax|exact aC|rfl)) J (aj (ac J) J (aA [] J J trivial (fun hg30=>ac J) J (aA [(56,_)] J J ⟨J,trivial⟩ (fun hg31=>am J J dL) J (aA [(56,_),(57,_)] J J ⟨J,J,trivial⟩ (fun hg32=>ac J) J (ch [] [(56,_),(57,_),(58,_)] J J trivial ⟨J,J,J,trivial⟩ (fun hg33 hg33'=>ah e9 J) J (ch [(59,_)] [(56,_),(57,_),(58,_)] J J ⟨J,trivial⟩ ⟨J,J,J,trivial⟩ (fun hg34 hg34'=>ak gZ J J (ap (k:=1) J J)) J (ch [(59,_),(60,_)] [(56,_),(57,_),(58,_)] J J ⟨J,J,trivial⟩ ⟨J,J,J,trivial⟩ (fun hg35 hg35'=>aO Tryz.underlying62 J (aK (k:=4) J)) J (ch [(59,_),(60,_),(61,_)] [(56,_),(57,_),(58,_)] J J ⟨J,J,J,trivial⟩ ⟨J,J,J,trivial⟩ (fun hg36 hg36'=>am J J aS) J ?_)))))))))))))
   refine aA [(56,_),(57,_),(58,_)] J J ⟨J,J,J,trivial⟩ (fun hg37=>aM J J J (by first|exact ax|exact aC|exact co hg37|exact cO hg37|rfl)) J (aj (aM J J J (by first|exact ax|exact aC|rfl)) J (aj (ac J) J (aA [] J J trivial (fun hg38=>ac J) J (aA [(66,_)] J J ⟨J,trivial⟩ (fun hg39=>am J J dL) J (aA [(66,_),(67,_)] J J ⟨J,J,trivial⟩ (fun hg40=>ac J) J (ch [] [(66,_),(67,_),(68,_)] J J trivial ⟨J,J,J,trivial⟩ (fun hg41 hg41'=>ah eg J) J (ch [(69,_)] [(66,_),(67,_),(68,_)] J J ⟨J,trivial⟩ ⟨J,J,J,trivial⟩ (fun hg42 hg42'=>ak gZ J J (ap (k:=1) J J)) J (ch [(69,_),(70,_)] [(66,_),(67,_),(68,_)] J J ⟨J,J,trivial⟩ ⟨J,J,J,trivial⟩ (fun hg43 hg43'=>aO Tryz.underlying62 J (aK (k:=5) J)) J (ch [(69,_),(70,_),(71,_)] [(66,_),(67,_),(68,_)] J J ⟨J,J,J,trivial⟩ ⟨J,J,J,trivial⟩ (fun hg44 hg44'=>am J J aS) J (aA [(66,_),(67,_),(68,_)] J J ⟨J,J,J,trivial⟩ (fun hg45=>aM J J J (by first|exact ax|exact aC|exact co hg45|exact cO hg45|rfl)) J (aj (aM J J J (by first|exact ax|exact aC|rfl)) J (aj (ac J) J (aA [] J J trivial (fun hg46=>ah eO J) J ?_)))))))))))))
   refine aA [(76,_)] J J ⟨J,trivial⟩ (fun hg47=>ak ic J J (ap (k:=1) J J)) J (gM [(76,_),(77,_)] J J ⟨J,J,trivial⟩ (fun hg48=>gV (xs:= [.tmp 77,.func 187]) (sT t.ve t.es hel 187 [] (bK t.ve t.es) (fun u=> !rX u) NU (fun u hu=>CS t.ve t.es (fun u hu=>F1 u (heg.mem u hu)) u hu)) IT [] [(false,3),(false,0)] [] [] J J J J J J J J (fun _ _=>J) (fun _ _ _=>J)) J (aA [(76,_),(77,_),(78,_)] J J ⟨J,J,J,trivial⟩ (fun hg49=>bZ J) J (aj (aM J J J (by first|exact ax|exact aC|rfl)) J (aj (ac J) J (aA [] J J trivial (fun hg50=>ah e9 J) J (aA [(82,_)] J J ⟨J,trivial⟩ (fun hg51=>ak gZ J J (ap (k:=1) J J)) J (gM [(82,_),(83,_)] J J ⟨J,J,trivial⟩ (fun hg52=>gV (xs:= [.tmp 83]) (nH t.vb t.body hbl ihb) EQ [] [(false,1)] [] [] J J J J J J J J (fun _ _=>J) (fun _ _ _=>J)) J (aj (aM J J J (by first|exact ax|exact aC|rfl)) J (aj (ac J) J (aA [] J J trivial (fun hg53=>ah eg J) J (aA [(87,_)] J J ⟨J,trivial⟩ (fun hg54=>ak gZ J J (ap (k:=1) J J)) J (gM [(87,_),(88,_)] J J ⟨J,J,trivial⟩ (fun hg55=>gV (xs:= [.tmp 88]) (nH t.vl t.els hll ihl) EQ [] [(false,2)] [] [] J J J J J J J J (fun _ _=>J) (fun _ _ _=>J)) J (aj (aM J J J (by first|exact ax|exact aC|rfl)) J ?_)))))))))))));refine aj (ag J) J (ai (aw (aG () trivial J (bx (aH J)) (congrArg Value.bool (Mw t).symm) [] [] J J J)))
theorem xq:∀(n:Nat)(t:Ty),SizeOf.sizeOf t<n→GY t→Spec Tryz.prog 163 [yV t] [] [bK t.ve t.es,bz t.vb t.body,bz t.vl t.els] (X:=Unit) (fun _=>True) (fun _=> .bool (rY t)) (fun _=> []) (fun _=> [])
 | 0,_,h,_=>absurd h (Nat.not_lt_zero _)
 | n+1,t,h,ht=>FX t ht (fun u hu=>xq n u (by have:=Ic (.inl hu);omega) ((dP ht).2.mem u hu)) (fun u hu=>xq n u (by have:=Ic (.inr hu);omega) ((eR ht).2.mem u hu))
theorem FY(t:Ty)(ht:GY t):Spec Tryz.prog 163 [yV t] [] [bK t.ve t.es,bz t.vb t.body,bz t.vl t.els] (X:=Unit) (fun _=>True) (fun _=> .bool (rY t)) (fun _=> []) (fun _=> []):=xq _ t (Nat.lt_succ_self _) ht
theorem tp(s:ByteArray)(hs:wS s):
  Spec Tryz.prog 121 [.string s] [] [] (X:=Unit) (fun _=>True) (fun _=> .bool (!bS s)) (fun _=> []) (fun _=> []):=by
 refine aF Tryz.func121 J Tryz.ntmps121 J fun w0 M H=>ae (aa (aj (ag J) J (ai (ae (aa (aj (ac J) J (bF (xs:= [.tmp 3]) (ip s hs.1 hs.2) wC [] [] [] [] J J J J J J J J (fun _ _=>J) (fun _ _ _=>J) J (fun _ _=>aj (bZ J) J (aj (ag J) J (ai (aw (aG () trivial J (bx (aH J)) J [] [] J J J))))))))))))
theorem u_(f:Tf)(fs:List Tf)(hf:f∈fs)(hg:GF f):
  Spec Tryz.prog 119 [LA f] [] [Hq fs] (X:=Unit) (fun _=>True) (fun _=> .bool (!rF f)) (fun _=> []) (fun _=> []):=by
 refine aF Tryz.func119 J Tryz.ntmps119 J fun w0 M H=>aQ 0 1 J (Ni hf) (aQ 1 2 J lu (aQ 1 3 J jn ?_))
 obtain⟨g1,g2,g3,g4,g5,g6⟩:=hg;refine ae (aa (bN J J fun b1=>aj (ag J) J (ai (ae (aa (aj (ah dr J) J (aj (ak gm J J (ap (k:=1) J J)) J (bF (xs:= [.tmp 5,.func 121]) (BJ f.vp f.ps g3 121 (fun s=> !bS s) Ov (fun s hs=>tp s (g2 s hs))) Ow [] [(false,2)] [] [] J J J J J J J J (fun _ _=>J) (fun _ _ _=>J) J (fun _ _=>aj (ag J) J (ai (ae (aa ?_))))))))))));refine aj (ac J) J (aj (ac J) J (aA [] J J trivial (fun hg1=>ah jD J) J (aA [(9,_)] J J ⟨J,trivial⟩ (fun hg2=>ak t9 J J (ap (k:=1) J J)) J (gM [(9,_),(10,_)] J J ⟨J,J,trivial⟩ (fun hg3=>gV (xs:= [.tmp 10]) (ip f.name g1.1 g1.2) wC [] [] [] [] J J J J J J J J (fun _ _=>J) (fun _ _ _=>J)) J (aA [(9,_),(10,_),(11,_)] J J ⟨J,J,J,trivial⟩ (fun hg4=>bZ J) J (aj (aM J J J (by first|exact ax|exact aC|rfl)) J (aj (ac J) J (aA [] J J trivial (fun hg5=>ah iw J) J (aA [(15,_)] J J ⟨J,trivial⟩ (fun hg6=>ak gZ J J (ap (k:=1) J J)) J (gM [(15,_),(16,_)] J J ⟨J,J,trivial⟩ (fun hg7=>gV (xs:= [.tmp 16]) (nH f.vb f.body g4 (fun u hu=>FY u (g5.mem u hu))) EQ [] [(false,3)] [] [] J J J J J J J J (fun _ _=>J) (fun _ _ _=>J)) J (aA [(15,_),(16,_),(17,_)] J J ⟨J,J,J,trivial⟩ (fun hg8=>bZ J) J (aj (aM J J J (by first|exact ax|exact aC|rfl)) J (aj (ag J) J ?_)))))))))))));refine ai (aw (aG () trivial J (bx (aH J)) (congrArg Value.bool (Mz f)) [] [] J J J))
theorem xw(vp:SV)(fs:List Tf)(hg:GP fs):
  Spec Tryz.prog 81 [.agg #[sv vp]] [] [cm vp fs] (X:=Unit) (fun _=>True) (fun _=> .bool (rP fs)) (fun _=> []) (fun _=> []):=by
 refine aF Tryz.func81 J Tryz.ntmps81 J fun w0 M H=>aQ 0 1 J jm (aQ 0 2 J FG (ae (aa (bN J J fun b1=>aj (ag J) J (ai (ae (aa (aj (ah cV J) J (aj (ak mj J J (ap (k:=1) J J)) J (bF (xs:= [.tmp 4,.func 119]) (BK vp fs hg.1 119 [] (Hq fs) (fun f=> !rF f) Ox (fun f hf=>u_ f fs hf (hg.2 f hf))) Oy [] [(false,1),(false,2)] [] [] J J J J J J J J (fun _ _=>J) (fun _ _ _=>J) J (fun _ _=>aj (bZ J) J ?_)))))))))))
 refine aj (ag J) J (ai (aw (aG () trivial J (bx (aH J)) (congrArg Value.bool (fO rF fs)) [] [] J J J)))
def cR(vp vn:SV)(nd va:Int)(dp:Bool)(er:Int):List Value:= [sv vp,sv vn,.int .i64 nd,.int .i64 va,.bool dp,.int .i64 er]
theorem bM{α:Type}{l:List α}{i:Nat}{k:α}(h:l[i]?=some k):l.take (i+1)=l.take i++ [k]:=by
 obtain⟨hi,hk⟩:=List.getElem?_eq_some_iff.1 h;rw [List.take_add_one,List.getElem?_eq_getElem hi,hk];rfl
theorem tO:∀(a b:List Tx),dU (a++b)=dU a+dU b
 | [],b=>by simp [dU]
 | t::r,b=>by simp [dU,tO r b,Nat.add_assoc]
theorem Ay:∀(a b:List Tx),fj (a++b)=max (fj a) (fj b)
 | [],b=>by simp [fj]
 | t::r,b=>by simp [fj,Ay r b,Nat.max_assoc]
theorem tN:∀(a b:List Ty),cl (a++b)=cl a+cl b
 | [],b=>by simp [cl]
 | t::r,b=>by simp [cl,tN r b,Nat.add_assoc]
theorem kG:∀(a b:List Ty),cD (a++b)=cD a+cD b
 | [],b=>by simp [cD]
 | t::r,b=>by simp [cD,kG r b,Nat.add_assoc]
theorem wo(d:Nat):∀(a b:List Ty),cS d (a++b)=(cS d a || cS d b)
 | [],b=>by simp [cS]
 | t::r,b=>by simp [cS,wo d r b,Bool.or_assoc]
theorem Gy(t:Tx):dU [t]=nX t:=by simp [dU]
theorem Hz(t:Tx):fj [t]=dX t:=by simp [fj]
theorem Gx(t:Ty):cl [t]=nY t:=by simp [cl]
theorem Fv(t:Ty):cD [t]=vY t:=by simp [cD]
theorem Es(d:Nat)(t:Ty):cS d [t]=B2 d t:=by simp [cS]
theorem sq(t:Tx):nX t=dU t.kids+1:=by cases t;rfl
theorem Nt(t:Tx):dX t=fj t.kids+1:=by cases t;rfl
theorem Dm(t:Ty):nY t=1+dU t.es+cl t.body+cl t.els:=by cases t;rfl
theorem Cm(t:Ty):vY t=(if t.kind=1 then 1 else 0)+cD t.body+cD t.els:=by cases t;rfl
theorem KX(d:Nat)(t:Ty):B2 d t=(decide (d>8) || decide (fj t.es>8) || cS (d+1) t.body || cS (d+1) t.els):=by cases t;rfl
theorem dY{l:List Tx}{i:Nat}{k:Tx}(h:l[i]?=some k):dU (l.take (i+1))=dU (l.take i)+nX k:=by rw [bM h,tO,Gy]
theorem kC{l:List Tx}{i:Nat}{k:Tx}(h:l[i]?=some k):fj (l.take (i+1))=max (fj (l.take i)) (dX k):=by rw [bM h,Ay,Hz]
theorem ku:∀(l:List Tx)(i:Nat),dU (l.take i)≤dU l:=fun l i=>by
 have h:=tO (l.take i) (l.drop i);rw [List.take_append_drop]at h;omega
theorem lP:∀(l:List Ty)(i:Nat),cl (l.take i)≤cl l:=fun l i=>by
 have h:=tN (l.take i) (l.drop i);rw [List.take_append_drop]at h;omega
theorem gt{l:List Ty}{i:Nat}{k:Ty}(h:l[i]?=some k):cl (l.take (i+1))=cl (l.take i)+nY k:=by rw [bM h,tN,Gx]
theorem i7{l:List Ty}{i:Nat}{k:Ty}(h:l[i]?=some k):cD (l.take (i+1))=cD (l.take i)+vY k:=by rw [bM h,kG,Fv]
theorem BG{d:Nat}{l:List Ty}{i:Nat}{k:Ty}(h:l[i]?=some k):cS d (l.take (i+1))=(cS d (l.take i) || B2 d k):=by rw [bM h,wo,Es]
mutual
theorem wr:∀t:Tx,dX t≤nX t
 | .mk _ _ _ _ kids=>by
  have:=qN kids;rw [dX,nX];omega
theorem qN:∀l:List Tx,fj l≤dU l
 | []=>Nat.le_refl _
 | t::r=>by
  have h1:=wr t;have h2:=qN r;rw [fj,dU];omega
end
mutual
theorem Cl:∀t:Ty,vY t≤nY t
 | .mk k _ _ _ _ body _ els=>by
  have h1:=gG body;have h2:=gG els;rw [vY,nY];split<;>omega
theorem gG:∀l:List Ty,cD l≤cl l
 | []=>Nat.le_refl _
 | t::r=>by
  have h1:=Cl t;have h2:=gG r;rw [cD,cl];omega
end
theorem EU(a b:Nat):((max a b:Nat):Int)=max (a:Int) (b:Int):=by omega
theorem Ax{a b:Nat}:(decide (a>8) || decide (b>8))=decide (max a b>8):=by
 by_cases h:a>8
 ·have:max a b>8:=by omega
  simp [h,this]
 ·by_cases h2:b>8
  ·have:max a b>8:=by omega
   simp [h2,this]
  ·have:¬max a b>8:=by omega
   simp [h,h2,this]
theorem iC(c:Nat)(vp vn:SV)(nd va:Int)(dp:Bool)(er:Int)(e:Int):
  Spec Tryz.prog 127 [.pointer (some ⟨c,0,none⟩),.int .i64 e] [aY c 165 (cR vp vn nd va dp er)] [] (X:=Unit) (fun _=>True) (fun _=> .tuple #[]) (fun _=> [aY c 165 (cR vp vn nd va dp (fst er e))]) (fun _=> []):=by
 refine aF Tryz.func127 J Tryz.ntmps127 J fun w0 M H=>ae (aa (aj (ac J) J (aj (aq J) J (aj (ah ue J) J (aj (ak ni J J (ap (k:=0) J J)) J (aj (am J J aS) J (ai (ar J (fun h1=> ?_) (fun h1=> ?_)))))))))
 ·have h0:er=0:=of_decide_eq_true h1;have hfs:fst er e=e:=if_pos h0;refine aa (aj (ac J) J (aj (ac J) J (aj (aq J) J (aj (ah ue J) J (aI (k:=0) ni J J J J J J J J (ai ?_))))));rw [hfs];refine bO () trivial J eW J [0] [] J J J
 ·have h0:¬er=0:=of_decide_eq_false h1;have hfs:fst er e=er:=if_neg h0;refine az ?_;rw [hfs];refine bO () trivial J eW J [0] [] J J J
theorem KL(er z:Int)(b:Bool)(h:b=true):fst er (if b=true then z else 0)=fst er z:=by rw [if_pos h]
theorem Hb(er z:Int)(b:Bool)(h:b=false):fst er (if b=true then z else 0)=er:=by rw [if_neg (by rw [h];simp),dc]
theorem Hc(er z:Int)(b:Bool)(h:b=true):fst er (if b=true then 0 else z)=er:=by rw [if_pos h,dc]
theorem Ec(er z:Int)(b:Bool)(h:b=false):fst er (if b=true then 0 else z)=fst er z:=by rw [if_neg (by rw [h];simp)]
theorem sQ(c:Nat)(vp vn:SV)(nd va:Int)(dp:Bool)(er:Int)(ns:List ByteArray)(hn:ns.length≤1000000)(s:ByteArray):
  Spec Tryz.prog 165 [.pointer (some ⟨c,0,none⟩),.string s] [aY c 165 (cR vp vn nd va dp er),own 9 1 eS (sv vn) ns] [] (X:=Unit) (fun _=>True) (fun _=> .tuple #[]) (fun _=> [aY c 165 (cR vp vn nd va dp (fst er (if bX s ns=true then 0 else 21))),own 9 1 eS (sv vn) ns]) (fun _=> []):=by
 refine aF Tryz.func165 J Tryz.ntmps165 J fun w0 M H=>ae (aa (aj (ac J) J (aj (aq J) J (aj (ah mZ J) J (aj (ak gm J J (ap (k:=0) J J)) J (aj (ac J) J (bF (xs:= [.tmp 7,.tmp 8]) (Spec.ro1 (gp vn ns (by omega) s) br) AC [] [(true,1)] [] [] J J J J J J J J (fun _ _=>J) (fun _ _ _=>J) J (fun _ _=>aj (bZ J) J (ai (ar J (fun h1=> ?_) (fun h1=> ?_)))))))))))
 ·have h0:bX s ns=false:=by simpa using h1
  rw [Ec _ _ _ h0];refine aa (aj (ac J) J (bF (xs:= [.tmp 11,.const (.int .i64 21)]) (iC c vp vn nd va dp er 21) wB [0] [] [0] [] J J J J J J J J (fun _ _=>J) (fun _ _ _=>J) J (fun _ _=>ai (bO () trivial J eW J [0,1] [] J J J))))
 ·have h0:bX s ns=true:=by simpa using h1
  rw [Hc _ _ _ h0];refine az (bO () trivial J eW J [0,1] [] J J J)
theorem qR(c:Nat)(vp vn:SV)(nd va:Int)(dp:Bool)(er:Int)(ns:List ByteArray)(hn:ns.length≤1000000)(s:ByteArray):
  Spec Tryz.prog 128 [.pointer (some ⟨c,0,none⟩),.string s] [aY c 165 (cR vp vn nd va dp er),own 9 1 eS (sv vn) ns] [] (X:=SV) (fun _=>True) (fun _=> .tuple #[]) (fun v=> [aY c 165 (cR vp v nd va dp (fst er (if bX s ns=true then 22 else 0))),own 9 1 eS (sv v) (ns++ [s])]) (fun _=> []):=by
 refine aF Tryz.func128 J Tryz.ntmps128 J fun w0 M H=>bi (X:=Unit) (fun _=>True) (fun _=> [(0,.pointer (some ⟨c,0,none⟩)),(1,.string s)]) (fun _=> [(0,aY c 165 (cR vp vn nd va dp (fst er (if bX s ns=true then 22 else 0)))),(1,own 9 1 eS (sv vn) ns)]) (fun _=> []) ?_ (fun _ _=> ?_)
 ·refine ae (aa (aj (ac J) J (aj (aq J) J (aj (ah mZ J) J (aj (ak gm J J (ap (k:=0) J J)) J (aj (ac J) J (bF (xs:= [.tmp 7,.tmp 8]) (Spec.ro1 (gp vn ns (by omega) s) br) AC [] [(true,1)] [] [] J J J J J J J J (fun _ _=>J) (fun _ _ _=>J) J (fun _ _=>ai (ar J (fun h1=> ?_) (fun h1=> ?_))))))))))
  ·have h0:bX s ns=true:=h1;rw [KL _ _ _ h0];refine aa (aj (ac J) J (bF (xs:= [.tmp 10,.const (.int .i64 22)]) (iC c vp vn nd va dp er 22) wB [0] [] [0] [] J J J J J J J J (fun _ _=>J) (fun _ _ _=>J) J (fun _ _=>ai (aL () trivial J J J))))
  ·have h0:bX s ns=false:=h1;rw [Hb _ _ _ h0];refine az (aL () trivial J J J)
 ·refine aa (aj (ac J) J (aj (ac J) J (aj (aq J) J (aj (ah mZ J) J (aj (ak gm J J (ap (k:=0) J J)) J (aj (ac J) J (bq eS _ Tryz.underlying46 t9 J (by decide) (by decide) J J J J fun v18=>eF 1 Tryz.underlying46 t9 J (by decide) (fun _=>J) (fun _=>J) J J J (bj (k:=18) J) (by first|omega|(simp;done)|(simp;omega)) (by unfold maxLen;first|omega|(simp;done)|(simp;omega)) J fun v19=>aj (aq J) J (aj (ah mZ J) J (aI (k:=0) gm J J J J J J J J (ai (bO v19 trivial J eW J [0,1] [] J J J)))))))))))
theorem yn(f:Tf)(b:Nat)(s:ByteArray):
  Spec Tryz.prog 125 [LA f,.pointer (some ⟨b,0,none⟩)] [] [aY b 9 [.string s]] (X:=Unit) (fun _=>True) (fun _=> .bool (decide (f.name=s))) (fun _=> []) (fun _=> []):=by
 refine aF Tryz.func125 J Tryz.ntmps125 J fun w0 M H=>ae (aa (bN J J fun b2=>aj (ag J) J (ai (ae (aa (aj (ah jD J) J (aj (ak t9 J J (ap (k:=2) J J)) J (aj (ak t9 J J (cz (k:=0) J J)) J (aj (am J J ci) J (aj (ag J) J (ai ?_)))))))))))
 refine aw (aG () trivial J (bx (aH J)) (congrArg Value.bool (bR _ _)) [] [] J J J)
theorem lY(c:Nat)(vp vn:SV)(nd va:Int)(dp:Bool)(er:Int)(s:ByteArray)(fs:List Tf)(hf:fs.length≤1000000):
  Spec Tryz.prog 82 [.pointer (some ⟨c,0,none⟩),.string s] [aY c 165 (cR vp vn nd va dp er)] [sl 3 iR (sv vp) fs] (X:=Unit) (fun _=>True) (fun _=> .int .i64 (qD fs s)) (fun _=> [aY c 165 (cR vp vn nd va dp er)]) (fun _=> []):=by
 refine aF Tryz.func82 J Tryz.ntmps82 J fun w0 M H=>ae (aa (tA J J J fun b3=>aj (ag J) J (ai (ae (aa (aj (ac J) J (aj (aq J) J (aj (ah An J) J (aj (ah cV J) J (aj (ak mj J J (ap (k:=0) J J)) J (aj (d5 (first:= []) (cap:= [.tmp 3]) J J) J ?_)))))))))))
 refine bF (xs:= [.tmp 9,.tmp 10]) (vM vp fs hf 125 [.pointer (some ⟨b3,0,none⟩)] (aY b3 9 [.string s]) (fun f=>decide (f.name=s)) Ou (fun f _=>yn f b3 s)) I8 [] [(false,0),(true,3)] [] [] J J J J J J J J (fun _ _=>J) (fun _ _ _=>J) J (fun _ _=>aj (ag J) J (ai (aw (aG () trivial J (bx (aH J)) J [0] [] J J J))))
theorem Bs(c:Nat)(vp vn:SV)(va er:Int)(t:Tx)(ht:GX t)(ih:∀u∈t.kids,∀(nd:Int)(dp:Bool),0≤nd→nd+(nX u:Int)≤1000000000000→Spec Tryz.prog 164 [.pointer (some ⟨c,0,none⟩),xV u] [aY c 165 (cR vp vn nd va dp er)] [bK u.v u.kids] (X:=Unit) (fun _=>True) (fun _=> .int .i64 (dX u:Int)) (fun _=> [aY c 165 (cR vp vn (nd+(nX u:Int)) va (dp || decide (dX u>8)) er)]) (fun _=> []))(nd:Int)(dp:Bool)(h0:0≤nd)(hn:nd+(nX t:Int)≤1000000000000):
  Spec Tryz.prog 164 [.pointer (some ⟨c,0,none⟩),xV t] [aY c 165 (cR vp vn nd va dp er)] [bK t.v t.kids] (X:=Unit) (fun _=>True) (fun _=> .int .i64 (dX t:Int)) (fun _=> [aY c 165 (cR vp vn (nd+(nX t:Int)) va (dp || decide (dX t>8)) er)]) (fun _=> []):=by
 refine aF Tryz.func164 J Tryz.ntmps164 J fun w0 M H=> ?_
 have hkl:=kE ht;have hnx:=sq t;have hdx:=Nt t;have hdn:=wr t;refine aQ 0 1 J eL (ae (aa (bN J J fun b3=>aj (ag J) J (ai (ae (aa (aj (ac J) J (aj (aq J) J (aj (ah kS J) J (aj (ak t3 J J (ap (k:=0) J J)) J (aj (am J J (aX (by first|exact aU (by omega) (by omega)|rfl))) J (aj (aq J) J ?_))))))))))));refine aj (ah kS J) J (aI (k:=0) t3 J J J J J J J J (ai (ae (aa (aj (ag J) J (ai (ae (ae (aa (aj (ah cU J) J (aj (ak ic J J (ap (k:=3) J J)) J (aj (aO Tryz.underlying59 J (aK (k:=1) J)) J (aj (ac J) J ?_)))))))))))));refine ai (aB ?_);refine bk (X:=Nat) (fun i=>i≤t.kids.length) (fun i=> [(0,.pointer (some ⟨c,0,none⟩)),(3,.pointer (some ⟨b3,0,none⟩)),(5,.int .i64 (fj (t.kids.take i):Int)),(16,sv t.v),(17,.int .i64 (t.kids.length:Int)),(18,.int .i64 (i:Int))]) (fun i=> [(0,aY c 165 (cR vp vn (nd+1+(dU (t.kids.take i):Int)) va (dp || decide (fj (t.kids.take i)>8)) er)),(3,aY b3 61 (df t))]) (fun i=> [(0,bK t.v t.kids),(1,sl 4 df (sv t.v) t.kids)]) (fun i=>t.kids.length-i) 0 (Nat.zero_le _) J (by rw [show(dp || decide (fj (t.kids.take 0)>8))=dp by simp [fj],show nd+1+(dU (t.kids.take 0):Int)=nd+1 by simp [dU]];rfl) J (fun i n1=> ?_);refine ae (aa (aj (am J J b_) J (ai (ae (ar J (fun h1=> ?_) (fun h1=> ?_))))))
 ·(try simp only [aV]at h1)
  have hi:i<t.kids.length:=by omega
  obtain⟨kid,hkid⟩:∃k,t.kids[i]?=some k:=⟨_,List.getElem?_eq_getElem hi⟩
  have hkm:=List.mem_of_getElem? hkid;have hle:=ku t.kids (i+1);rw [dY hkid]at hle;refine az (ae (aB (ae (aa (aj (aN (j:=i) Tryz.underlying59 cg J J (aK (k:=1) J) (by first|rfl|omega) (by first|omega|(simp;done)|(simp;omega))) J (aj (aJ cg J J J (bv (aK (k:=1) J) (by intro _;rfl) hkid (by rfl))) J (aT cg J J fun b7=>av (k:=7) cg J J J J J J (ai (aa (aj (ac J) J (aj (ac J) J (aj (aJ cg J J J (aR (k:=7) J)) J ?_))))))))))));refine aQ 0 8 J (cH hkm) (bF (xs:= [.tmp 23,.tmp 24]) (ih kid hkm (nd+1+(dU (t.kids.take i):Int)) (dp || decide (fj (t.kids.take i)>8)) (by omega) (by omega)) IZ [0] [(false,8)] [0] [] J J J J J J J J (fun _ _=>J) (fun _ _ _=>J) J (fun _ _=>aj (qa J J J) J (aj (ag J) J (ai (aa (aj (am J J (aX (by first|exact aU (by omega) (by omega)|rfl))) J (aj (ac J) J (ai ?_))))))));refine aL (i+1) ⟨by omega,by omega⟩ (by rw [kC hkid,EU];rfl) (by rw [kC hkid,dY hkid,←Ax,←Bool.or_assoc,Int.natCast_add,←Int.add_assoc];rfl) J
 ·(try simp only [aV]at h1)
  have hi:i=t.kids.length:=by omega
  subst hi;rw [List.take_length];refine bn (ae (aa (aj (ac J) J (aj (ac J) J (aj (aq J) J (aj (ah mY J) J (aj (ak t4 J J (ap (k:=0) J J)) J (aj (ac J) J (aA [] J J trivial (fun hg2=>ac J) J (aA [(34,_)] J J ⟨J,trivial⟩ (fun hg3=>am J J (aX (by first|exact aU (by omega) (by omega)|rfl))) J (aA [(34,_),(35,_)] J J ⟨J,J,trivial⟩ (fun hg4=>am J J dL) J (aj (aM J J J (by first|exact ax|exact aC|rfl)) J (aj (aq J) J ?_)))))))))))));refine aj (ah mY J) J (aI (k:=0) t4 J J J J J J J J (ai (ae (aa (aj (ac J) J (aj (am J J (aX (by first|exact aU (by omega) (by omega)|rfl))) J (aj (ag J) J (ai (aw ?_)))))))));have hfin:cR vp vn (nd+1+(dU t.kids:Int)) va (dp || decide (fj t.kids>8) || decide ((fj t.kids:Int)+1>8)) er=cR vp vn (nd+(nX t:Int)) va (dp || decide (dX t>8)) er:=by
   rw [hnx,hdx];have e1:nd+1+(dU t.kids:Int)=nd+((dU t.kids+1:Nat):Int):=by omega
   have e2:(dp || decide (fj t.kids>8) || decide ((fj t.kids:Int)+1>8))=(dp || decide (fj t.kids+1>8)):=by
    rw [Bool.or_assoc]
    congr 1
    by_cases h:fj t.kids+1>8
    ·have h2:(fj t.kids:Int)+1>8:=by omega
     simp [h,h2]
    ·have h2:¬(fj t.kids:Int)+1>8:=by omega
     have h3:¬fj t.kids>8:=by omega
     simp [h,h2,h3]
   rw [e1,e2]
  rw [←hfin];refine aG () trivial J (bx (aH J)) (by rw [hdx];rfl) [0] [] J J J
theorem vE(c:Nat)(vp vn:SV)(va er:Int):∀(n:Nat)(t:Tx),SizeOf.sizeOf t<n→GX t→∀(nd:Int)(dp:Bool),0≤nd→nd+(nX t:Int)≤1000000000000→Spec Tryz.prog 164 [.pointer (some ⟨c,0,none⟩),xV t] [aY c 165 (cR vp vn nd va dp er)] [bK t.v t.kids] (X:=Unit) (fun _=>True) (fun _=> .int .i64 (dX t:Int)) (fun _=> [aY c 165 (cR vp vn (nd+(nX t:Int)) va (dp || decide (dX t>8)) er)]) (fun _=> [])
 | 0,_,h,_=>absurd h (Nat.not_lt_zero _)
 | n+1,t,h,ht=>fun nd dp h0 hn=>Bs c vp vn va er t ht (fun u hu=>vE c vp vn va er n u (by have:=ob hu;omega) ((iT ht).mem u hu)) nd dp h0 hn
theorem Bt(c:Nat)(vp vn:SV)(va er:Int)(t:Tx)(ht:GX t)(nd:Int)(dp:Bool)(h0:0≤nd)(hn:nd+(nX t:Int)≤1000000000000):Spec Tryz.prog 164 [.pointer (some ⟨c,0,none⟩),xV t] [aY c 165 (cR vp vn nd va dp er)] [bK t.v t.kids] (X:=Unit) (fun _=>True) (fun _=> .int .i64 (dX t:Int)) (fun _=> [aY c 165 (cR vp vn (nd+(nX t:Int)) va (dp || decide (dX t>8)) er)]) (fun _=> []):=vE c vp vn va er _ t (Nat.lt_succ_self _) ht nd dp h0 hn
def O8(c:Nat)(vp vn:SV)(er:Int)(v:SV)(l:List Ty):Prop:=∀(d:Nat)(nd va:Int)(dp:Bool),d+cl l≤1000000000000→0≤nd→nd+(cl l:Int)≤1000000000000→0≤va→va+(cD l:Int)≤1000000000000→
 Spec Tryz.prog 126 [.pointer (some ⟨c,0,none⟩),sv v,.int .i64 (d:Int)] [aY c 165 (cR vp vn nd va dp er)] [bz v l] (X:=Unit) (fun _=>True) (fun _=> .tuple #[]) (fun _=> [aY c 165 (cR vp vn (nd+(cl l:Int)) (va+(cD l:Int)) (dp || cS d l) er)]) (fun _=> [])
theorem J6(p q a b c d:Bool):(p || q || a || b || c || d)=(p || (q || (a || b || c || d))):=by cases p<;>cases q<;>rfl
theorem yz(c:Nat)(vp vn:SV)(er:Int)(v:SV)(l:List Ty)(hl:l.length≤1000000)(hg:GYs l)(ih:∀u∈l,O8 c vp vn er u.vb u.body∧O8 c vp vn er u.vl u.els)(d:Nat)(nd va:Int)(dp:Bool)(hd:d+cl l≤1000000000000)(h0:0≤nd)(hn:nd+(cl l:Int)≤1000000000000)(h1:0≤va)(hv:va+(cD l:Int)≤1000000000000):
  Spec Tryz.prog 126 [.pointer (some ⟨c,0,none⟩),sv v,.int .i64 (d:Int)] [aY c 165 (cR vp vn nd va dp er)] [bz v l] (X:=Unit) (fun _=>True) (fun _=> .tuple #[]) (fun _=> [aY c 165 (cR vp vn (nd+(cl l:Int)) (va+(cD l:Int)) (dp || cS d l) er)]) (fun _=> []):=by
 refine aF Tryz.func126 J Tryz.ntmps126 J fun w0 M H=>aQ 0 1 J fL (ae (aa (aj (ac J) J (aj (aO Tryz.underlying62 J (aK (k:=1) J)) J (aj (ac J) J (ai (aB ?_)))))))
 refine bk (X:=Nat) (fun i=>i≤l.length) (fun i=> [(0,.pointer (some ⟨c,0,none⟩)),(2,.int .i64 (d:Int)),(10,sv v),(11,.int .i64 (l.length:Int)),(12,.int .i64 (i:Int))]) (fun i=> [(0,aY c 165 (cR vp vn (nd+(cl (l.take i):Int)) (va+(cD (l.take i):Int)) (dp || cS d (l.take i)) er))]) (fun i=> [(0,bz v l),(1,sl 5 ec (sv v) l)]) (fun i=>l.length-i) 0 (Nat.zero_le _) J (by rw [show(dp || cS d (l.take 0))=dp by simp [cS],show nd+(cl (l.take 0):Int)=nd by simp [cl],show va+(cD (l.take 0):Int)=va by simp [cD]];rfl) J (fun i n1=> ?_);refine ae (aa (aj (am J J b_) J (ai (ae (ar J (fun h1=> ?_) (fun h1=> ?_))))))
 ·(try simp only [aV]at h1)
  have hi:i<l.length:=by omega
  obtain⟨st,hst⟩:∃k,l[i]?=some k:=⟨_,List.getElem?_eq_getElem hi⟩
  have hsm:=List.mem_of_getElem? hst;have hsy:=hg.mem st hsm;have hsg:=nh hsy;have hle:=lP l (i+1);rw [gt hst]at hle;have hny:=Dm st;have hvy:=Cl st;have hvl:=gG l;have hva:=gG (l.take i);have hvb:=gG st.body;have hvs:=gG st.els;have hnl:=lP l i;have hvy2:(vY st:Int)=(if st.kind=1 then 1 else 0:Int)+(cD st.body:Int)+(cD st.els:Int):=by
   rw [Cm];split<;>omega
  have hki:0≤(if st.kind=1 then 1 else 0:Int)∧(if st.kind=1 then 1 else 0:Int)≤1:=by split<;>omega
  have hvv:(cD (l.take i):Int)+(vY st:Int)≤(cD l:Int):=by
   have h:=kG (l.take (i+1)) (l.drop (i+1));rw [List.take_append_drop,i7 hst]at h;omega
  refine aQ 0 7 J (jl hsm) (aQ 0 8 J (fv hsm) (aQ 0 9 J (gl hsm) (aQ 7 10 J eL (az (ae (aB (ae (aa (aj (aN (j:=i) Tryz.underlying62 dA J J (aK (k:=1) J) (by first|rfl|omega) (by first|omega|(simp;done)|(simp;omega))) J (aj (aJ dA J J J (bv (aK (k:=1) J) (by intro _;rfl) hst (by rfl))) J (aT dA J J fun b7=>av (k:=7) dA J J J J J J (ai ?_))))))))))));refine ae (aa (aj (ac J) J (aj (aq J) J (aj (ah kS J) J (aj (ak t3 J J (ap (k:=0) J J)) J (aj (am J J (aX (by first|exact aU (by omega) (by omega)|rfl))) J (aj (aq J) J (aj (ah kS J) J (aI (k:=0) t3 J J J J J J J J (ai (ae (aa (aj (ac J) J ?_)))))))))))));refine aj (ac J) J (aj (aq J) J (aj (ah mY J) J (aj (ak t4 J J (ap (k:=0) J J)) J (aj (ac J) J (aA [] J J trivial (fun hg2=>ac J) J (aA [(29,_)] J J ⟨J,trivial⟩ (fun hg3=>am J J dL) J (aj (aM J J J (by first|exact ax|exact aC|rfl)) J (aj (aq J) J (aj (ah mY J) J (aI (k:=0) t4 J J J J J J J J (ai (bi (X:=Unit) (fun _=>True) (fun _=> [(0,.pointer (some ⟨c,0,none⟩)),(2,.int .i64 (d:Int)),(10,sv v),(11,.int .i64 (l.length:Int)),(12,.int .i64 (i:Int)),(7,.pointer (some ⟨b7,0,none⟩))]) (fun _=> [(0,aY c 165 (cR vp vn (nd+(cl (l.take i):Int)+1) (va+(cD (l.take i):Int)+(if st.kind=1 then 1 else 0:Int)) (dp || cS d (l.take i) || decide (d>8)) er)),(7,aY b7 64 (ec st))]) (fun _=> [(0,bz v l),(1,sl 5 ec (sv v) l),(7,bK st.ve st.es),(8,bz st.vb st.body),(9,bz st.vl st.els),(10,sl 4 df (sv st.ve) st.es)]) ?_ (fun _ _=> ?_)))))))))))))
  ·refine ae (aa (aj (ah dJ J) J (aj (ak t3 J J (ap (k:=7) J J)) J (aj (am J J aS) J (ai (ar J (fun h4=> ?_) (fun h4=> ?_)))))))
   ·have q1:st.kind=1:=of_decide_eq_true h4;refine aa (aj (ac J) J (aj (aq J) J (aj (ah pd J) J (aj (ak t3 J J (ap (k:=0) J J)) J (aj (am J J (aX (by first|exact aU (by omega) (by omega)|rfl))) J (aj (aq J) J (aj (ah pd J) J (aI (k:=0) t3 J J J J J J J J (ai (aL () trivial J (by rw [show decide (d>8)=decide ((d:Int)>8)from decide_eq_decide.2 (by omega),if_pos q1];rfl) J))))))))))
   ·have q1:¬st.kind=1:=of_decide_eq_false h4;refine az (aL () trivial J (by rw [show decide (d>8)=decide ((d:Int)>8)from decide_eq_decide.2 (by omega),if_neg q1,Int.add_zero];rfl) J)
  ·refine ae (ae (aa (aj (ah eO J) J (aj (ak ic J J (ap (k:=7) J J)) J (aj (aO Tryz.underlying59 J (aK (k:=10) J)) J (aj (ac J) J (ai (aB ?_))))))));refine bk (X:=Nat) (fun j=>j≤st.es.length) (fun j=> [(0,.pointer (some ⟨c,0,none⟩)),(2,.int .i64 (d:Int)),(10,sv v),(11,.int .i64 (l.length:Int)),(12,.int .i64 (i:Int)),(7,.pointer (some ⟨b7,0,none⟩)),(45,sv st.ve),(46,.int .i64 (st.es.length:Int)),(47,.int .i64 (j:Int))]) (fun j=> [(0,aY c 165 (cR vp vn (nd+(cl (l.take i):Int)+1+(dU (st.es.take j):Int)) (va+(cD (l.take i):Int)+(if st.kind=1 then 1 else 0:Int)) (dp || cS d (l.take i) || decide (d>8) || decide (fj (st.es.take j)>8)) er)),(7,aY b7 64 (ec st))]) (fun j=> [(0,bz v l),(1,sl 5 ec (sv v) l),(7,bK st.ve st.es),(8,bz st.vb st.body),(9,bz st.vl st.els),(10,sl 4 df (sv st.ve) st.es)]) (fun j=>st.es.length-j) 0 (Nat.zero_le _) J (by rw [show(dp || cS d (l.take i) || decide (d>8) || decide (fj (st.es.take 0)>8))=(dp || cS d (l.take i) || decide (d>8)) by simp [fj],show nd+(cl (l.take i):Int)+1+(dU (st.es.take 0):Int)=nd+(cl (l.take i):Int)+1 by simp [dU]];rfl) J (fun j n2=> ?_);refine ae (aa (aj (am J J b_) J (ai (ae (ar J (fun h5=> ?_) (fun h5=> ?_))))))
   ·(try simp only [aV]at h5)
    have hj:j<st.es.length:=by omega
    obtain⟨kid,hkid⟩:∃k,st.es[j]?=some k:=⟨_,List.getElem?_eq_getElem hj⟩
    have hkm:=List.mem_of_getElem? hkid;have hlx:=ku st.es (j+1);rw [dY hkid]at hlx;have hdx:=wr kid;refine az (ae (aB (ae (aa (aj (aN (j:=j) Tryz.underlying59 cg J J (aK (k:=10) J) (by first|rfl|omega) (by first|omega|(simp;done)|(simp;omega))) J (aj (aJ cg J J J (bv (aK (k:=10) J) (by intro _;rfl) hkid (by rfl))) J (aT cg J J fun b9=>av (k:=9) cg J J J J J J (ai (aa (aj (ac J) J (aj (aJ cg J J J (aR (k:=9) J)) J (aQ 7 12 J (cH hkm) ?_))))))))))));refine bF (xs:= [.tmp 51,.tmp 52]) (Bt c vp vn (va+(cD (l.take i):Int)+(if st.kind=1 then 1 else 0:Int)) er kid (hsg.2.mem kid hkm) (nd+(cl (l.take i):Int)+1+(dU (st.es.take j):Int)) (dp || cS d (l.take i) || decide (d>8) || decide (fj (st.es.take j)>8)) (by omega) (by omega)) IZ [0] [(false,12)] [0] [] J J J J J J J J (fun _ _=>J) (fun _ _ _=>J) J (fun _ _=>ai (aa (aj (am J J (aX (by first|exact aU (by omega) (by omega)|rfl))) J (aj (ac J) J (ai ?_)))));refine aL (j+1) ⟨by omega,by omega⟩ J (by rw [kC hkid,dY hkid,←Ax,←Bool.or_assoc,Int.natCast_add,←Int.add_assoc];rfl) J
   ·(try simp only [aV]at h5)
    have hj:j=st.es.length:=by omega
    subst hj;rw [List.take_length];refine bn (ae (aa (aj (ac J) J (aj (ah e9 J) J (aj (ak gZ J J (ap (k:=7) J J)) J (aj (ac J) J (aj (am J J (aX (by first|exact aU (by omega) (by omega)|rfl))) J (bF (xs:= [.tmp 55,.tmp 57,.tmp 59]) ((ih st hsm).1 (d+1) (nd+(cl (l.take i):Int)+1+(dU st.es:Int)) (va+(cD (l.take i):Int)+(if st.kind=1 then 1 else 0:Int)) (dp || cS d (l.take i) || decide (d>8) || decide (fj st.es>8)) (by omega) (by omega) (by omega) (by omega) (by omega)) EP [0] [(false,8)] [0] [] J J J J J J J J (fun _ _=>J) (fun _ _ _=>J) J (fun _ _=>ai (aa (aj (ac J) J (aj (ah eg J) J (aj (ak gZ J J (ap (k:=7) J J)) J ?_)))))))))))));refine aj (ac J) J (aj (am J J (aX (by first|exact aU (by omega) (by omega)|rfl))) J (bF (xs:= [.tmp 61,.tmp 63,.tmp 65]) ((ih st hsm).2 (d+1) (nd+(cl (l.take i):Int)+1+(dU st.es:Int)+(cl st.body:Int)) (va+(cD (l.take i):Int)+(if st.kind=1 then 1 else 0:Int)+(cD st.body:Int)) (dp || cS d (l.take i) || decide (d>8) || decide (fj st.es>8) || cS (d+1) st.body) (by omega) (by omega) (by omega) (by omega) (by omega)) EP [0] [(false,9)] [0] [] J J J J J J J J (fun _ _=>J) (fun _ _ _=>J) J (fun _ _=>ai (aa (aj (am J J (aX (by first|exact aU (by omega) (by omega)|rfl))) J (aj (ac J) J (ai ?_)))))));have hfin:cR vp vn (nd+(cl (l.take i):Int)+1+(dU st.es:Int)+(cl st.body:Int)+(cl st.els:Int)) (va+(cD (l.take i):Int)+(if st.kind=1 then 1 else 0:Int)+(cD st.body:Int)+(cD st.els:Int)) (dp || cS d (l.take i) || decide (d>8) || decide (fj st.es>8) || cS (d+1) st.body || cS (d+1) st.els) er=cR vp vn (nd+(cl (l.take (i+1)):Int)) (va+(cD (l.take (i+1)):Int)) (dp || cS d (l.take (i+1))) er:=by
     rw [gt hst,i7 hst,BG hst,KX,J6]
     congr 1
     ·omega
     ·rw [Int.natCast_add,hvy2];omega
    refine aL (i+1) ⟨by omega,by omega⟩ J (by rw [←hfin];rfl) J
 ·(try simp only [aV]at h1)
  have hi:i=l.length:=by omega
  subst hi;rw [List.take_length];refine bn (bO () trivial J eW J [0] [] J J J)
theorem nV(c:Nat)(vp vn:SV)(er:Int):∀(n:Nat)(v:SV)(l:List Ty),SizeOf.sizeOf l<n→l.length≤1000000→GYs l→O8 c vp vn er v l
 | 0,_,_,h,_,_=>absurd h (Nat.not_lt_zero _)
 | n+1,v,l,h,hl,hg=>yz c vp vn er v l hl hg fun u hu=>by
  have h1:=List.sizeOf_lt_of_mem hu;have h2:SizeOf.sizeOf u.body<SizeOf.sizeOf u∧SizeOf.sizeOf u.els<SizeOf.sizeOf u:=by
   cases u;simp only [Ty.mk.sizeOf_spec,Ty.body,Ty.els];omega
  have h3:=hg.mem u hu;exact⟨nV c vp vn er n u.vb u.body (by omega) (dP h3).1 (dP h3).2,nV c vp vn er n u.vl u.els (by omega) (eR h3).1 (eR h3).2⟩
theorem yA(c:Nat)(vp vn:SV)(er:Int)(v:SV)(l:List Ty)(hl:l.length≤1000000)(hg:GYs l):O8 c vp vn er v l:=nV c vp vn er _ v l (Nat.lt_succ_self _) hl hg
def nE(fs:List Tf)(ns:List ByteArray)(t:Tx):Int:=if t.kind=2 then(if bX t.name ns=true then 0 else 21)else if t.kind=3 then(match ce fs t.name with
   | none=>21
   | some f=>if f.ps.length=t.kids.length then 0 else 23)else 0
theorem Av(fs:List Tf)(ns:List ByteArray)(t:Tx):eX fs ns t=fst (nE fs ns t) (iA fs ns t.kids):=by cases t;rfl
theorem uk(fs:List Tf)(ns:List ByteArray):∀a b:List Tx,iA fs ns (a++b)=fst (iA fs ns a) (iA fs ns b)
 | [],b=>rfl
 | t::r,b=>by rw [List.cons_append,iA,uk fs ns r b,iA,fg]
theorem kB{fs:List Tf}{ns:List ByteArray}{l:List Tx}{i:Nat}{k:Tx}(h:l[i]?=some k):iA fs ns (l.take (i+1))=fst (iA fs ns (l.take i)) (eX fs ns k):=by
 rw [bM h,uk];show fst _ (fst (eX fs ns k) 0)=_;rw [dc]
theorem Kh{fs:List Tf}{ns:List ByteArray}{t:Tx}(h:t.kind=2):nE fs ns t=if bX t.name ns=true then 0 else 21:=if_pos h
theorem tP{fs:List Tf}{ns:List ByteArray}{t:Tx}(h:t.kind=3)(hf:ce fs t.name=none):nE fs ns t=21:=by
 unfold nE;rw [if_neg (by omega),if_pos h,hf]
theorem mI{fs:List Tf}{ns:List ByteArray}{t:Tx}{f:Tf}(h:t.kind=3)(hf:ce fs t.name=some f):nE fs ns t=if f.ps.length=t.kids.length then 0 else 23:=by
 unfold nE;rw [if_neg (by omega),if_pos h,hf]
theorem M4{fs:List Tf}{ns:List ByteArray}{t:Tx}(h2:¬t.kind=2)(h3:¬t.kind=3):nE fs ns t=0:=by
 unfold nE;rw [if_neg h2,if_neg h3]
def aE(ns:List ByteArray)(t:Ty):Int:=if t.kind=2 then(if bX t.name ns=true then 0 else 21)else 0
def dE(ns:List ByteArray)(t:Ty):Int:=if t.kind=1 then(if bX t.name ns=true then 22 else 0)else 0
def dN(ns:List ByteArray)(t:Ty):List ByteArray:=if t.kind=1 then ns++ [t.name]else ns
theorem s5(fs:List Tf)(ns:List ByteArray)(t:Ty):bY fs ns t=((cq fs (cq fs (dN ns t) t.body).1 t.els).1,fst (aE ns t) (fst (iA fs ns t.es) (fst (dE ns t) (fst (cq fs (dN ns t) t.body).2 (cq fs (cq fs (dN ns t) t.body).1 t.els).2)))):=by cases t;rfl
theorem uv(fs:List Tf):∀(ns:List ByteArray)(a b:List Ty),cq fs ns (a++b)=((cq fs (cq fs ns a).1 b).1,fst (cq fs ns a).2 (cq fs (cq fs ns a).1 b).2)
 | ns,[],b=>rfl
 | ns,t::r,b=>by
  rw [List.cons_append,cq,uv fs _ r b,cq];simp only [fg]
theorem qY{fs:List Tf}{ns:List ByteArray}{l:List Ty}{i:Nat}{k:Ty}(h:l[i]?=some k):cq fs ns (l.take (i+1))=((bY fs (cq fs ns (l.take i)).1 k).1,fst (cq fs ns (l.take i)).2 (bY fs (cq fs ns (l.take i)).1 k).2):=by
 rw [bM h,uv];show((bY fs _ k).1,fst _ (fst (bY fs _ k).2 0))=_;rw [dc]
mutual
theorem Lg(fs:List Tf):∀(ns:List ByteArray)(t:Ty),(bY fs ns t).1.length=ns.length+vY t
 | ns,.mk k nm _ es _ body _ els=>by
  show(cq fs (cq fs (if k=1 then ns++ [nm]else ns) body).1 els).1.length=_;rw [jL fs _ els,jL fs _ body,vY];split<;>simp<;>omega
theorem jL(fs:List Tf):∀(ns:List ByteArray)(l:List Ty),(cq fs ns l).1.length=ns.length+cD l
 | ns,[]=>by simp [cq,cD]
 | ns,t::r=>by
  show(cq fs (bY fs ns t).1 r).1.length=_;rw [jL fs _ r,Lg fs ns t,cD];omega
end
theorem n_{l:List Ty}{i:Nat}{k:Ty}(h:l[i]?=some k):cD (l.take i)+vY k≤cD l:=by
 have h2:=kG (l.take (i+1)) (l.drop (i+1));rw [List.take_append_drop,i7 h]at h2;omega
theorem uo(ns:List ByteArray)(t:Ty):(dN ns t).length=ns.length+if t.kind=1 then 1 else 0:=by
 unfold dN;split
 ·simp
 ·rfl
theorem yH(c:Nat)(vp vn:SV)(nd va:Int)(dp:Bool)(fs:List Tf)(hfl:fs.length≤1000000)(ns:List ByteArray)(hns:ns.length≤1000000)(t:Tx)(ht:GX t)(ih:∀u∈t.kids,∀er:Int,Spec Tryz.prog 166 [.pointer (some ⟨c,0,none⟩),xV u] [aY c 165 (cR vp vn nd va dp er),own 9 1 eS (sv vn) ns] [bK u.v u.kids,cm vp fs] (X:=Unit) (fun _=>True) (fun _=> .tuple #[]) (fun _=> [aY c 165 (cR vp vn nd va dp (fst er (eX fs ns u))),own 9 1 eS (sv vn) ns]) (fun _=> []))(er:Int):
  Spec Tryz.prog 166 [.pointer (some ⟨c,0,none⟩),xV t] [aY c 165 (cR vp vn nd va dp (er)),own 9 1 eS (sv vn) (ns)] [bK t.v t.kids,cm vp fs] (X:=Unit) (fun _=>True) (fun _=> .tuple #[]) (fun _=> [aY c 165 (cR vp vn nd va dp (fst er (eX fs ns t))),own 9 1 eS (sv vn) (ns)]) (fun _=> []):=by
 refine aF Tryz.func166 J Tryz.ntmps166 J fun w0 M H=> ?_
 have hkl:=kE ht;refine aQ 0 2 J eL (aQ 1 3 J jm (ae (aa (bN J J fun b3=>ai (bi (X:=Unit) (fun _=>True) (fun _=> [(0,.pointer (some ⟨c,0,none⟩)),(3,.pointer (some ⟨b3,0,none⟩))]) (fun _=> [(0,aY c 165 (cR vp vn nd va dp (fst er (nE fs ns t)))),(1,own 9 1 eS (sv vn) (ns)),(3,aY b3 61 (df t))]) (fun _=> [(0,bK t.v t.kids),(1,cm vp fs),(2,sl 4 df (sv t.v) t.kids),(3,sl 3 iR (sv vp) fs)]) ?_ (fun _ _=> ?_))))))
 ·refine ae (aa (aj (ah ix J) J (aj (ak t3 J J (ap (k:=3) J J)) J (ai (aB (ae (aa (aj (am J J aS) J (aj (ag J) J (ai (ar J (fun h1=> ?_) (fun h1=> ?_))))))))))))
  ·have q2:t.kind=2:=of_decide_eq_true h1;refine aa (aj (ac J) J (aj (ah cN J) J (aj (ak t9 J J (ap (k:=3) J J)) J (bF (xs:= [.tmp 11,.tmp 13]) (sQ c vp vn nd va dp er ns hns t.name) IY [0,1] [] [0,1] [] J J J J J J J J (fun _ _=>J) (fun _ _ _=>J) J (fun _ _=>ai (aL () trivial J (by rw [Kh q2];rfl) J))))))
  ·have q2:¬t.kind=2:=of_decide_eq_false h1;refine ae (aa (aj (am J J aS) J (aj (ag J) J (ai (ar J (fun h2=> ?_) (fun h2=> ?_))))))
   ·have q3:t.kind=3:=of_decide_eq_true h2;refine ae (aa (aj (ac J) J (aj (ah cN J) J (aj (ak t9 J J (ap (k:=3) J J)) J (bF (xs:= [.tmp 17,.tmp 19]) (lY c vp vn nd va dp er t.name fs hfl) K8 [0] [(false,3)] [0] [] J J J J J J J J (fun _ _=>J) (fun _ _ _=>J) J (fun _ _=>aj (ag J) J (ai (ae (aa (aj (ac J) J (aj (am J J b_) J (ai (ar J (fun h3=> ?_) (fun h3=> ?_))))))))))))))
    ·have hff:ce fs t.name=none:=dC.1.1 (of_decide_eq_true h3);refine aa (aj (ac J) J (bF (xs:= [.tmp 23,.const (.int .i64 21)]) (iC c vp vn nd va dp er 21) wB [0] [] [0] [] J J J J J J J J (fun _ _=>J) (fun _ _ _=>J) J (fun _ _=>ai (aL () trivial J (by rw [tP q3 hff];rfl) J))))
    ·obtain⟨f,hff⟩:∃f,ce fs t.name=some f:=by
      cases hf:ce fs t.name with
      | none=>exact absurd (dC.1.2 hf) (of_decide_eq_false h3)
      | some f=>exact⟨f,rfl⟩
     obtain⟨j,hj1,hj2⟩:=dC.2 f hff;have hjl:=(List.getElem?_eq_some_iff.1 hj2).1;rw [hj1];refine aQ 1 7 J (lr (fP hff)) (aQ 7 9 J lu (ae (bA [25,26,27,28,29,30,31,32,33,34,35,36,37,38] _ J (be (V:= [(0,25,_),(1,26,_),(2,27,_),(3,28,_),(4,29,_),(5,30,_),(6,31,_),(7,32,_),(8,33,_),(9,34,_),(10,35,_),(11,36,_),(12,37,_),(13,38,_)]) [0,1,2,3,4,5,6,7,8,9,10,11,12,13] J J (ad (aD J (ac J)) (ad (aD J (aq J)) (ad (aD J (ah An J)) (ad (aD J (ah cV J)) (ad (aD J (ak mj J J (ap (k:=0) J J))) (ad (aD J (ac J)) (ad (aD J (aN (j:=j) Tryz.underlying25 fX J J (aK (k:=3) J) J hjl)) (ad (aD J (dj dr J)) (ad (aD J (ak gm J J (iO (aK (k:=3) J) (by intro _;rfl) hj2 J))) (ad (aD J (aO Tryz.underlying46 J (aK (k:=9) J))) (ad (aD J (ah cU J)) (ad (aD J (ak ic J J (ap (k:=3) J J))) (ad (aD J (aO Tryz.underlying59 J (aK (k:=2) J))) (ad (aD J (am J J cW)) ay)))))))))))))) J J J (ar J (fun h4=> ?_) (fun h4=> ?_))))))
     ·have hne:¬f.ps.length=t.kids.length:=fun e=>by rw [e]at h4;simp at h4
      refine aa (aj (ac J) J (bF (xs:= [.tmp 39,.const (.int .i64 23)]) (iC c vp vn nd va dp er 23) wB [0] [] [0] [] J J J J J J J J (fun _ _=>J) (fun _ _ _=>J) J (fun _ _=>ai (aL () trivial J (by rw [mI q3 hff,if_neg hne];rfl) J))))
     ·have hne:f.ps.length=t.kids.length:=by
       have:=h4;simp only [Bool.not_eq_false',decide_eq_true_eq]at this;omega
      refine az (aL () trivial J (by rw [mI q3 hff,if_pos hne,dc];rfl) J)
   ·have q3:¬t.kind=3:=of_decide_eq_false h2;refine az (aL () trivial J (by rw [M4 q2 q3,dc];rfl) J)
 ·refine ae (aa (aj (ah cU J) J (aj (ak ic J J (ap (k:=3) J J)) J (aj (aO Tryz.underlying59 J (aK (k:=2) J)) J (aj (ac J) J (ai (aB ?_)))))));refine bk (X:=Nat) (fun i=>i≤t.kids.length) (fun i=> [(0,.pointer (some ⟨c,0,none⟩)),(3,.pointer (some ⟨b3,0,none⟩)),(42,sv t.v),(43,.int .i64 (t.kids.length:Int)),(44,.int .i64 (i:Int))]) (fun i=> [(0,aY c 165 (cR vp vn nd va dp (fst er (fst (nE fs ns t) (iA fs ns (t.kids.take i)))))),(1,own 9 1 eS (sv vn) (ns)),(3,aY b3 61 (df t))]) (fun i=> [(0,bK t.v t.kids),(1,cm vp fs),(2,sl 4 df (sv t.v) t.kids),(3,sl 3 iR (sv vp) fs)]) (fun i=>t.kids.length-i) 0 (Nat.zero_le _) J (by rw [show iA fs ns (t.kids.take 0)=0 by simp [iA],dc];rfl) J (fun i n1=> ?_);refine ae (aa (aj (am J J b_) J (ai (ae (ar J (fun h5=> ?_) (fun h5=> ?_))))))
  ·(try simp only [aV]at h5)
   have hi:i<t.kids.length:=by omega
   obtain⟨kid,hkid⟩:∃k,t.kids[i]?=some k:=⟨_,List.getElem?_eq_getElem hi⟩
   have hkm:=List.mem_of_getElem? hkid;refine az (ae (aB (ae (aa (aj (aN (j:=i) Tryz.underlying59 cg J J (aK (k:=2) J) (by first|rfl|omega) (by first|omega|(simp;done)|(simp;omega))) J (aj (aJ cg J J J (bv (aK (k:=2) J) (by intro _;rfl) hkid (by rfl))) J (aT cg J J fun b6=>av (k:=6) cg J J J J J J (ai (aa (aj (ac J) J (aj (aJ cg J J J (aR (k:=6) J)) J (aQ 0 8 J (cH hkm) ?_))))))))))));refine bF (xs:= [.tmp 48,.tmp 49]) (ih kid hkm (fst er (fst (nE fs ns t) (iA fs ns (t.kids.take i))))) IX [0,1] [(false,8),(false,1)] [0,1] [] J J J J J J J J (fun _ _=>J) (fun _ _ _=>J) J (fun _ _=>ai (aa (aj (am J J (aX (by first|exact aU (by omega) (by omega)|rfl))) J (aj (ac J) J (ai ?_)))));refine aL (i+1) ⟨by omega,by omega⟩ J (by rw [kB hkid];simp only [fg];rfl) J
  ·(try simp only [aV]at h5)
   have hi:i=t.kids.length:=by omega
   subst hi;rw [List.take_length,←Av];refine bn (bO () trivial J eW J [0,1] [] J J J)
theorem sW(c:Nat)(vp vn:SV)(nd va:Int)(dp:Bool)(fs:List Tf)(hfl:fs.length≤1000000)(ns:List ByteArray)(hns:ns.length≤1000000):∀(n:Nat)(t:Tx),SizeOf.sizeOf t<n→GX t→∀er:Int,Spec Tryz.prog 166 [.pointer (some ⟨c,0,none⟩),xV t] [aY c 165 (cR vp vn nd va dp er),own 9 1 eS (sv vn) ns] [bK t.v t.kids,cm vp fs] (X:=Unit) (fun _=>True) (fun _=> .tuple #[]) (fun _=> [aY c 165 (cR vp vn nd va dp (fst er (eX fs ns t))),own 9 1 eS (sv vn) ns]) (fun _=> [])
 | 0,_,h,_=>absurd h (Nat.not_lt_zero _)
 | n+1,t,h,ht=>yH c vp vn nd va dp fs hfl ns hns t ht fun u hu=>sW c vp vn nd va dp fs hfl ns hns n u (by have:=ob hu;omega) ((iT ht).mem u hu)
theorem yI(c:Nat)(vp vn:SV)(nd va:Int)(dp:Bool)(fs:List Tf)(hfl:fs.length≤1000000)(ns:List ByteArray)(hns:ns.length≤1000000)(t:Tx)(ht:GX t)(er:Int):Spec Tryz.prog 166 [.pointer (some ⟨c,0,none⟩),xV t] [aY c 165 (cR vp vn nd va dp er),own 9 1 eS (sv vn) ns] [bK t.v t.kids,cm vp fs] (X:=Unit) (fun _=>True) (fun _=> .tuple #[]) (fun _=> [aY c 165 (cR vp vn nd va dp (fst er (eX fs ns t))),own 9 1 eS (sv vn) ns]) (fun _=> []):=sW c vp vn nd va dp fs hfl ns hns _ t (Nat.lt_succ_self _) ht er
theorem wx(c:Nat)(vp vn:SV)(nd va:Int)(dp:Bool)(fs:List Tf)(hfl:fs.length≤1000000)(v:SV)(l:List Ty)(hl:l.length≤1000000)(hg:GYs l)(ihb:∀u∈l,(∀(vn:SV)(ns:List ByteArray)(er:Int),ns.length+cD u.body≤1000000→Spec Tryz.prog 129 [.pointer (some ⟨c,0,none⟩),sv u.vb] [aY c 165 (cR vp vn nd va dp er),own 9 1 eS (sv vn) ns] [bz u.vb u.body,cm vp fs] (X:=SV) (fun _=>True) (fun _=> .tuple #[]) (fun x=> [aY c 165 (cR vp x nd va dp (fst er (cq fs ns u.body).2)),own 9 1 eS (sv x) (cq fs ns u.body).1]) (fun _=> [])))(ihe:∀u∈l,(∀(vn:SV)(ns:List ByteArray)(er:Int),ns.length+cD u.els≤1000000→Spec Tryz.prog 129 [.pointer (some ⟨c,0,none⟩),sv u.vl] [aY c 165 (cR vp vn nd va dp er),own 9 1 eS (sv vn) ns] [bz u.vl u.els,cm vp fs] (X:=SV) (fun _=>True) (fun _=> .tuple #[]) (fun x=> [aY c 165 (cR vp x nd va dp (fst er (cq fs ns u.els).2)),own 9 1 eS (sv x) (cq fs ns u.els).1]) (fun _=> [])))(ns:List ByteArray)(er:Int)(hnv:ns.length+cD l≤1000000):
  Spec Tryz.prog 129 [.pointer (some ⟨c,0,none⟩),sv v] [aY c 165 (cR vp vn nd va dp (er)),own 9 1 eS (sv vn) (ns)] [bz v l,cm vp fs] (X:=SV) (fun _=>True) (fun _=> .tuple #[]) (fun x=> [aY c 165 (cR vp x nd va dp (fst er (cq fs ns l).2)),own 9 1 eS (sv x) ((cq fs ns l).1)]) (fun _=> []):=by
 refine aF Tryz.func129 J Tryz.ntmps129 J fun w0 M H=>aQ 0 2 J fL (ae (aa (aj (ac J) J (aj (aO Tryz.underlying62 J (aK (k:=2) J)) J (aj (ac J) J (ai (aB (bk (X:=Nat×SV) (fun x=>x.1≤l.length) (fun x=> [(0,.pointer (some ⟨c,0,none⟩)),(8,sv v),(9,.int .i64 (l.length:Int)),(10,.int .i64 (x.1:Int))]) (fun x=> [(0,aY c 165 (cR vp x.2 nd va dp (fst er (cq fs ns (l.take x.1)).2))),(1,own 9 1 eS (sv x.2) ((cq fs ns (l.take x.1)).1))]) (fun x=> [(0,bz v l),(1,cm vp fs),(2,sl 5 ec (sv v) l)]) (fun x=>l.length-x.1) (0,vn) (Nat.zero_le _) J (by rw [show fst er (cq fs ns (l.take (0,vn).1)).2=er from dc er];rfl) J (fun x n1=> ?_)))))))))
 obtain⟨i,vx⟩:=x;dsimp only at n1 ⊢;refine ae (aa (aj (am J J b_) J (ai (ae (ar J (fun h1=> ?_) (fun h1=> ?_))))))
 ·(try simp only [aV]at h1)
  have hi:i<l.length:=by omega
  obtain⟨st,hst⟩:∃k,l[i]?=some k:=⟨_,List.getElem?_eq_getElem hi⟩
  have hsm:=List.mem_of_getElem? hst;have hsy:=hg.mem st hsm;have hsg:=nh hsy;have hbl:=jL fs ns (l.take i);have hvt:=n_ hst;have hve:=Cm st;have hni:(cq fs ns (l.take i)).1.length≤1000000:=by omega
  refine aQ 0 7 J (jl hsm) (aQ 0 8 J (fv hsm) (aQ 0 9 J (gl hsm) (aQ 7 10 J eL (az (ae (aB (ae (aa (aj (aN (j:=i) Tryz.underlying62 dA J J (aK (k:=2) J) (by first|rfl|omega) (by first|omega|(simp;done)|(simp;omega))) J (aj (aJ dA J J J (bv (aK (k:=2) J) (by intro _;rfl) hst (by rfl))) J (aT dA J J fun b5=>av (k:=5) dA J J J J J J (ai ?_))))))))))));refine bi (X:=Unit) (fun _=>True) (fun _=> [(0,.pointer (some ⟨c,0,none⟩)),(8,sv v),(9,.int .i64 (l.length:Int)),(10,.int .i64 (i:Int)),(5,.pointer (some ⟨b5,0,none⟩))]) (fun _=> [(0,aY c 165 (cR vp vx nd va dp (fst (fst er (cq fs ns (l.take i)).2) (aE ((cq fs ns (l.take i)).1) st)))),(1,own 9 1 eS (sv vx) ((cq fs ns (l.take i)).1)),(5,aY b5 64 (ec st))]) (fun _=> [(0,bz v l),(1,cm vp fs),(2,sl 5 ec (sv v) l),(7,bK st.ve st.es),(8,bz st.vb st.body),(9,bz st.vl st.els),(10,sl 4 df (sv st.ve) st.es)]) ?_ (fun _ _=> ?_)
  ·refine ae (aa (aj (ah dJ J) J (aj (ak t3 J J (ap (k:=5) J J)) J (aj (am J J aS) J (ai (ar J (fun h2=> ?_) (fun h2=> ?_)))))))
   ·have q2:st.kind=2:=of_decide_eq_true h2;refine aa (aj (ac J) J (aj (ah gg J) J (aj (ak t9 J J (ap (k:=5) J J)) J (bF (xs:= [.tmp 17,.tmp 19]) (sQ c vp vx nd va dp (fst er (cq fs ns (l.take i)).2) ((cq fs ns (l.take i)).1) hni st.name) IY [0,1] [] [0,1] [] J J J J J J J J (fun _ _=>J) (fun _ _ _=>J) J (fun _ _=>ai (aL () trivial J (by unfold aE;rw [if_pos q2];rfl) J))))))
   ·have q2:¬st.kind=2:=of_decide_eq_false h2;refine az (aL () trivial J (by unfold aE;rw [if_neg q2,dc];rfl) J)
  ·refine ae (ae (aa (aj (ah eO J) J (aj (ak ic J J (ap (k:=5) J J)) J (aj (aO Tryz.underlying59 J (aK (k:=10) J)) J (aj (ac J) J (ai (aB ?_))))))));refine bk (X:=Nat) (fun j=>j≤st.es.length) (fun j=> [(0,.pointer (some ⟨c,0,none⟩)),(8,sv v),(9,.int .i64 (l.length:Int)),(10,.int .i64 (i:Int)),(5,.pointer (some ⟨b5,0,none⟩)),(22,sv st.ve),(23,.int .i64 (st.es.length:Int)),(24,.int .i64 (j:Int))]) (fun j=> [(0,aY c 165 (cR vp vx nd va dp (fst (fst (fst er (cq fs ns (l.take i)).2) (aE ((cq fs ns (l.take i)).1) st)) (iA fs ((cq fs ns (l.take i)).1) (st.es.take j))))),(1,own 9 1 eS (sv vx) ((cq fs ns (l.take i)).1)),(5,aY b5 64 (ec st))]) (fun j=> [(0,bz v l),(1,cm vp fs),(2,sl 5 ec (sv v) l),(7,bK st.ve st.es),(8,bz st.vb st.body),(9,bz st.vl st.els),(10,sl 4 df (sv st.ve) st.es)]) (fun j=>st.es.length-j) 0 (Nat.zero_le _) J (by rw [show iA fs ((cq fs ns (l.take i)).1) (st.es.take 0)=0 by simp [iA],dc];rfl) J (fun j n2=> ?_);refine ae (aa (aj (am J J b_) J (ai (ae (ar J (fun h3=> ?_) (fun h3=> ?_))))))
   ·(try simp only [aV]at h3)
    have hj:j<st.es.length:=by omega
    obtain⟨kid,hkid⟩:∃k,st.es[j]?=some k:=⟨_,List.getElem?_eq_getElem hj⟩
    have hkm:=List.mem_of_getElem? hkid;refine az (ae (aB (ae (aa (aj (aN (j:=j) Tryz.underlying59 cg J J (aK (k:=10) J) (by first|rfl|omega) (by first|omega|(simp;done)|(simp;omega))) J (aj (aJ cg J J J (bv (aK (k:=10) J) (by intro _;rfl) hkid (by rfl))) J (aT cg J J fun b7=>av (k:=7) cg J J J J J J (ai (aa (aj (ac J) J (aj (aJ cg J J J (aR (k:=7) J)) J (aQ 7 12 J (cH hkm) ?_))))))))))));refine bF (xs:= [.tmp 28,.tmp 29]) (yI c vp vx nd va dp fs hfl ((cq fs ns (l.take i)).1) hni kid (hsg.2.mem kid hkm) (fst (fst (fst er (cq fs ns (l.take i)).2) (aE ((cq fs ns (l.take i)).1) st)) (iA fs ((cq fs ns (l.take i)).1) (st.es.take j)))) IX [0,1] [(false,12),(false,1)] [0,1] [] J J J J J J J J (fun _ _=>J) (fun _ _ _=>J) J (fun _ _=>ai (aa (aj (am J J (aX (by first|exact aU (by omega) (by omega)|rfl))) J (aj (ac J) J (ai ?_)))));refine aL (j+1) ⟨by omega,by omega⟩ J (by rw [kB hkid];simp only [fg];rfl) J
   ·(try simp only [aV]at h3)
    have hj:j=st.es.length:=by omega
    subst hj;rw [List.take_length];refine bn (bi (X:=SV) (fun _=>True) (fun vd=> [(0,.pointer (some ⟨c,0,none⟩)),(8,sv v),(9,.int .i64 (l.length:Int)),(10,.int .i64 (i:Int)),(5,.pointer (some ⟨b5,0,none⟩))]) (fun vd=> [(0,aY c 165 (cR vp vd nd va dp (fst (fst (fst (fst er (cq fs ns (l.take i)).2) (aE ((cq fs ns (l.take i)).1) st)) (iA fs ((cq fs ns (l.take i)).1) (st.es))) (dE ((cq fs ns (l.take i)).1) st)))),(1,own 9 1 eS (sv vd) (dN ((cq fs ns (l.take i)).1) st)),(5,aY b5 64 (ec st))]) (fun vd=> [(0,bz v l),(1,cm vp fs),(2,sl 5 ec (sv v) l),(7,bK st.ve st.es),(8,bz st.vb st.body),(9,bz st.vl st.els),(10,sl 4 df (sv st.ve) st.es)]) ?_ (fun vd _=> ?_))
    ·refine ae (aa (aj (ah dJ J) J (aj (ak t3 J J (ap (k:=5) J J)) J (aj (am J J aS) J (ai (ar J (fun h4=> ?_) (fun h4=> ?_)))))))
     ·have q1:st.kind=1:=of_decide_eq_true h4;refine aa (aj (ac J) J (aj (ah gg J) J (aj (ak t9 J J (ap (k:=5) J J)) J (bF (xs:= [.tmp 35,.tmp 37]) (qR c vp vx nd va dp (fst (fst (fst er (cq fs ns (l.take i)).2) (aE ((cq fs ns (l.take i)).1) st)) (iA fs ((cq fs ns (l.take i)).1) (st.es))) ((cq fs ns (l.take i)).1) hni st.name) I7 [0,1] [] [0,1] [] J J J J J J J J (fun _ _=>J) (fun _ _ _=>J) J (fun vd _=>ai (aL vd trivial J (by unfold dE dN;rw [if_pos q1,if_pos q1];rfl) J))))))
     ·have q1:¬st.kind=1:=of_decide_eq_false h4;refine az (aL vx trivial J (by unfold dE dN;rw [if_neg q1,if_neg q1,dc];rfl) J)
    ·refine ae (aa (aj (ac J) J (aj (ah e9 J) J (aj (ak gZ J J (ap (k:=5) J J)) J (bF (xs:= [.tmp 39,.tmp 41]) (ihb st hsm vd (dN ((cq fs ns (l.take i)).1) st) (fst (fst (fst (fst er (cq fs ns (l.take i)).2) (aE ((cq fs ns (l.take i)).1) st)) (iA fs ((cq fs ns (l.take i)).1) (st.es))) (dE ((cq fs ns (l.take i)).1) st)) (by rw [uo];omega)) EO [0,1] [(false,8),(false,1)] [0,1] [] J J J J J J J J (fun _ _=>J) (fun _ _ _=>J) J (fun v1 _=>ai (aa (aj (ac J) J (aj (ah eg J) J (aj (ak gZ J J (ap (k:=5) J J)) J (bF (xs:= [.tmp 43,.tmp 45]) (ihe st hsm v1 (cq fs (dN ((cq fs ns (l.take i)).1) st) st.body).1 (fst (fst (fst (fst (fst er (cq fs ns (l.take i)).2) (aE ((cq fs ns (l.take i)).1) st)) (iA fs ((cq fs ns (l.take i)).1) (st.es))) (dE ((cq fs ns (l.take i)).1) st)) (cq fs (dN ((cq fs ns (l.take i)).1) st) st.body).2) (by rw [jL,uo];omega)) EO [0,1] [(false,9),(false,1)] [0,1] [] J J J J J J J J (fun _ _=>J) (fun _ _ _=>J) J (fun v2 _=>ai (aa ?_)))))))))))));refine aj (am J J (aX (by first|exact aU (by omega) (by omega)|rfl))) J (aj (ac J) J (ai ?_));refine aL (i+1,v2) ⟨by dsimp only;omega,by dsimp only;omega⟩ J (by dsimp only;rw [qY hst,s5];simp only [fg];rfl) J
 ·(try simp only [aV]at h1)
  have hi:i=l.length:=by omega
  subst hi;rw [List.take_length];refine bn (bO vx trivial J eW J [0,1] [] J J J)
theorem lZ(c:Nat)(vp:SV)(nd va:Int)(dp:Bool)(fs:List Tf)(hfl:fs.length≤1000000):∀(n:Nat)(v:SV)(l:List Ty),SizeOf.sizeOf l<n→l.length≤1000000→GYs l→(∀(vn:SV)(ns:List ByteArray)(er:Int),ns.length+cD l≤1000000→Spec Tryz.prog 129 [.pointer (some ⟨c,0,none⟩),sv v] [aY c 165 (cR vp vn nd va dp er),own 9 1 eS (sv vn) ns] [bz v l,cm vp fs] (X:=SV) (fun _=>True) (fun _=> .tuple #[]) (fun x=> [aY c 165 (cR vp x nd va dp (fst er (cq fs ns l).2)),own 9 1 eS (sv x) (cq fs ns l).1]) (fun _=> []))
 | 0,_,_,h,_,_=>absurd h (Nat.not_lt_zero _)
 | n+1,v,l,h,hl,hg=>fun vn ns er hnv=>by
  have key:∀u∈l,SizeOf.sizeOf u.body<n∧SizeOf.sizeOf u.els<n:=fun u hu=>by
   have h1:=List.sizeOf_lt_of_mem hu;have h2:SizeOf.sizeOf u.body<SizeOf.sizeOf u∧SizeOf.sizeOf u.els<SizeOf.sizeOf u:=by
    cases u;simp only [Ty.mk.sizeOf_spec,Ty.body,Ty.els];omega
   omega
  exact wx c vp vn nd va dp fs hfl v l hl hg (fun u hu=>lZ c vp nd va dp fs hfl n u.vb u.body (key u hu).1 (dP (hg.mem u hu)).1 (dP (hg.mem u hu)).2) (fun u hu=>lZ c vp nd va dp fs hfl n u.vl u.els (key u hu).2 (eR (hg.mem u hu)).1 (eR (hg.mem u hu)).2) ns er hnv
theorem wy(c:Nat)(vp:SV)(nd va:Int)(dp:Bool)(fs:List Tf)(hfl:fs.length≤1000000)(v:SV)(l:List Ty)(hl:l.length≤1000000)(hg:GYs l):(∀(vn:SV)(ns:List ByteArray)(er:Int),ns.length+cD l≤1000000→Spec Tryz.prog 129 [.pointer (some ⟨c,0,none⟩),sv v] [aY c 165 (cR vp vn nd va dp er),own 9 1 eS (sv vn) ns] [bz v l,cm vp fs] (X:=SV) (fun _=>True) (fun _=> .tuple #[]) (fun x=> [aY c 165 (cR vp x nd va dp (fst er (cq fs ns l).2)),own 9 1 eS (sv x) (cq fs ns l).1]) (fun _=> [])):=lZ c vp nd va dp fs hfl _ v l (Nat.lt_succ_self _) hl hg
end Go.Proofs.YtedmdgbmdplifaaGreat
