/-
  Part of the proof: the texts F, A3, A4, A5, A6, OJ, A7, A8, KE, KN, S0, A9, S1, AA, AB, AC. Conditions are with the theorems.
-/
import Derived.Test.YtdcbbkpdlcojfaaGreatProg
import Derived.ChangeMaps5
import Derived.Test.YtdcbbkpdlcojfaaGreatP7a
namespace Go.Proofs.YtdcbbkpdlcojfaaGreat
set_option linter.unusedVariables false
theorem t1 : TI Tryz.prog 1 (Go.TypeDesc.func #[] #[] Bool.false) (.nilFunc) 1 8 := ⟨Tryz.underlying1, by kernel_rfl⟩
theorem t2 : TI Tryz.prog 2 (Go.TypeDesc.int Go.IntKind.i64) (.int .i64 0) 1 8 := ⟨Tryz.underlying2, by kernel_rfl⟩
theorem t3 : TI Tryz.prog 3 (Go.TypeDesc.int Go.IntKind.i64) (.int .i64 0) 1 8 := ⟨Tryz.underlying3, by kernel_rfl⟩
theorem t4 : TI Tryz.prog 4 Go.TypeDesc.bool (.bool false) 1 1 := ⟨Tryz.underlying4, by kernel_rfl⟩
theorem t9 : TI Tryz.prog 9 Go.TypeDesc.string (.string ⟨#[]⟩) 1 16 := ⟨Tryz.underlying9, by kernel_rfl⟩
theorem t22 : TI Tryz.prog 22 (Go.TypeDesc.slice 3) (.slice none 0 0) 1 24 := ⟨Tryz.underlying22, by kernel_rfl⟩
theorem t23 : TI Tryz.prog 23 (Go.TypeDesc.slice 36) (.slice none 0 0) 1 24 := ⟨Tryz.underlying23, by kernel_rfl⟩
theorem t27 : TI Tryz.prog 27 (Go.TypeDesc.slice 63) (.slice none 0 0) 1 24 := ⟨Tryz.underlying27, by kernel_rfl⟩
theorem t29 : TI Tryz.prog 29 (Go.TypeDesc.struct #[(Go.Field.mk "Funcs" 27 0 Bool.false "" "" 0)]) (.agg #[.slice none 0 0]) 1 24 := ⟨Tryz.underlying29, by kernel_rfl⟩
theorem fo29_0 : FO Tryz.prog 29 0 0 := ⟨_, _, 0, Tryz.underlying29, rfl, rfl, by kernel_rfl⟩
theorem pl29 : PL Tryz.prog 29 [(0, 1)] := ⟨_, Tryz.underlying29, by kernel_rfl⟩
theorem t36 : TI Tryz.prog 36 (Go.TypeDesc.int Go.IntKind.u32) (.int .u32 0) 1 4 := ⟨Tryz.underlying36, by kernel_rfl⟩
theorem t40 : TI Tryz.prog 40 (Go.TypeDesc.int Go.IntKind.i64) (.int .i64 0) 1 8 := ⟨Tryz.underlying40, by kernel_rfl⟩
theorem t46 : TI Tryz.prog 46 (Go.TypeDesc.slice 48) (.slice none 0 0) 1 24 := ⟨Tryz.underlying46, by kernel_rfl⟩
theorem t48 : TI Tryz.prog 48 (Go.TypeDesc.struct #[(Go.Field.mk "Kind" 3 0 Bool.false "" "" 0), (Go.Field.mk "N" 36 1 Bool.false "" "" 8), (Go.Field.mk "Name" 9 2 Bool.false "" "" 16), (Go.Field.mk "Kids" 46 3 Bool.false "" "" 32)]) (.agg #[.int .i64 0, .int .u32 0, .string ⟨#[]⟩, .slice none 0 0]) 4 56 := ⟨Tryz.underlying48, by kernel_rfl⟩
theorem fo48_0 : FO Tryz.prog 48 0 0 := ⟨_, _, 0, Tryz.underlying48, rfl, rfl, by kernel_rfl⟩
theorem fo48_1 : FO Tryz.prog 48 1 1 := ⟨_, _, 0, Tryz.underlying48, rfl, rfl, by kernel_rfl⟩
theorem fo48_2 : FO Tryz.prog 48 2 2 := ⟨_, _, 0, Tryz.underlying48, rfl, rfl, by kernel_rfl⟩
theorem fo48_3 : FO Tryz.prog 48 3 3 := ⟨_, _, 0, Tryz.underlying48, rfl, rfl, by kernel_rfl⟩
theorem pl48 : PL Tryz.prog 48 [(0, 1), (1, 1), (2, 1), (3, 1)] := ⟨_, Tryz.underlying48, by kernel_rfl⟩
theorem t51 : TI Tryz.prog 51 (Go.TypeDesc.slice 53) (.slice none 0 0) 1 24 := ⟨Tryz.underlying51, by kernel_rfl⟩
theorem t53 : TI Tryz.prog 53 (Go.TypeDesc.struct #[(Go.Field.mk "Kind" 3 0 Bool.false "" "" 0), (Go.Field.mk "Name" 9 1 Bool.false "" "" 8), (Go.Field.mk "Exprs" 46 2 Bool.false "" "" 24), (Go.Field.mk "Body" 51 3 Bool.false "" "" 48), (Go.Field.mk "Else" 51 4 Bool.false "" "" 72)]) (.agg #[.int .i64 0, .string ⟨#[]⟩, .slice none 0 0, .slice none 0 0, .slice none 0 0]) 5 96 := ⟨Tryz.underlying53, by kernel_rfl⟩
theorem fo53_0 : FO Tryz.prog 53 0 0 := ⟨_, _, 0, Tryz.underlying53, rfl, rfl, by kernel_rfl⟩
theorem fo53_1 : FO Tryz.prog 53 1 1 := ⟨_, _, 0, Tryz.underlying53, rfl, rfl, by kernel_rfl⟩
theorem fo53_2 : FO Tryz.prog 53 2 2 := ⟨_, _, 0, Tryz.underlying53, rfl, rfl, by kernel_rfl⟩
theorem fo53_3 : FO Tryz.prog 53 3 3 := ⟨_, _, 0, Tryz.underlying53, rfl, rfl, by kernel_rfl⟩
theorem fo53_4 : FO Tryz.prog 53 4 4 := ⟨_, _, 0, Tryz.underlying53, rfl, rfl, by kernel_rfl⟩
theorem pl53 : PL Tryz.prog 53 [(0, 1), (1, 1), (2, 1), (3, 1), (4, 1)] := ⟨_, Tryz.underlying53, by kernel_rfl⟩
theorem t58 : TI Tryz.prog 58 (Go.TypeDesc.slice 9) (.slice none 0 0) 1 24 := ⟨Tryz.underlying58, by kernel_rfl⟩
theorem t63 : TI Tryz.prog 63 (Go.TypeDesc.struct #[(Go.Field.mk "Name" 9 0 Bool.false "" "" 0), (Go.Field.mk "Params" 58 1 Bool.false "" "" 16), (Go.Field.mk "Body" 51 2 Bool.false "" "" 40)]) (.agg #[.string ⟨#[]⟩, .slice none 0 0, .slice none 0 0]) 3 64 := ⟨Tryz.underlying63, by kernel_rfl⟩
theorem fo63_0 : FO Tryz.prog 63 0 0 := ⟨_, _, 0, Tryz.underlying63, rfl, rfl, by kernel_rfl⟩
theorem fo63_1 : FO Tryz.prog 63 1 1 := ⟨_, _, 0, Tryz.underlying63, rfl, rfl, by kernel_rfl⟩
theorem fo63_2 : FO Tryz.prog 63 2 2 := ⟨_, _, 0, Tryz.underlying63, rfl, rfl, by kernel_rfl⟩
theorem pl63 : PL Tryz.prog 63 [(0, 1), (1, 1), (2, 1)] := ⟨_, Tryz.underlying63, by kernel_rfl⟩
theorem t72 : TI Tryz.prog 72 (Go.TypeDesc.struct #[(Go.Field.mk "Outputs" 23 0 Bool.false "" "" 0), (Go.Field.mk "Mem" 23 1 Bool.false "" "" 24), (Go.Field.mk "Err" 40 2 Bool.false "" "" 48)]) (.agg #[.slice none 0 0, .slice none 0 0, .int .i64 0]) 3 56 := ⟨Tryz.underlying72, by kernel_rfl⟩
theorem fo72_0 : FO Tryz.prog 72 0 0 := ⟨_, _, 0, Tryz.underlying72, rfl, rfl, by kernel_rfl⟩
theorem fo72_1 : FO Tryz.prog 72 1 1 := ⟨_, _, 0, Tryz.underlying72, rfl, rfl, by kernel_rfl⟩
theorem fo72_2 : FO Tryz.prog 72 2 2 := ⟨_, _, 0, Tryz.underlying72, rfl, rfl, by kernel_rfl⟩
theorem pl72 : PL Tryz.prog 72 [(0, 1), (1, 1), (2, 1)] := ⟨_, Tryz.underlying72, by kernel_rfl⟩
theorem t86 : TI Tryz.prog 86 (Go.TypeDesc.struct #[(Go.Field.mk "Nodes" 3 0 Bool.false "" "" 0), (Go.Field.mk "Vars" 3 1 Bool.false "" "" 8), (Go.Field.mk "Stmts" 3 2 Bool.false "" "" 16), (Go.Field.mk "Exprs" 3 3 Bool.false "" "" 24)]) (.agg #[.int .i64 0, .int .i64 0, .int .i64 0, .int .i64 0]) 4 32 := ⟨Tryz.underlying86, by kernel_rfl⟩
theorem fo86_0 : FO Tryz.prog 86 0 0 := ⟨_, _, 0, Tryz.underlying86, rfl, rfl, by kernel_rfl⟩
theorem fo86_1 : FO Tryz.prog 86 1 1 := ⟨_, _, 0, Tryz.underlying86, rfl, rfl, by kernel_rfl⟩
theorem fo86_2 : FO Tryz.prog 86 2 2 := ⟨_, _, 0, Tryz.underlying86, rfl, rfl, by kernel_rfl⟩
theorem fo86_3 : FO Tryz.prog 86 3 3 := ⟨_, _, 0, Tryz.underlying86, rfl, rfl, by kernel_rfl⟩
theorem pl86 : PL Tryz.prog 86 [(0, 1), (1, 1), (2, 1), (3, 1)] := ⟨_, Tryz.underlying86, by kernel_rfl⟩
theorem t90 : TI Tryz.prog 90 (Go.TypeDesc.struct #[(Go.Field.mk "p" 29 0 Bool.false "" "babel/babelref08" 0), (Go.Field.mk "names" 58 1 Bool.false "" "babel/babelref08" 24)]) (.agg #[.slice none 0 0, .slice none 0 0]) 2 48 := ⟨Tryz.underlying90, by kernel_rfl⟩
theorem fo90_0 : FO Tryz.prog 90 0 0 := ⟨_, _, 0, Tryz.underlying90, rfl, rfl, by kernel_rfl⟩
theorem fo90_1 : FO Tryz.prog 90 1 1 := ⟨_, _, 0, Tryz.underlying90, rfl, rfl, by kernel_rfl⟩
theorem pl90 : PL Tryz.prog 90 [(0, 1), (1, 1)] := ⟨_, Tryz.underlying90, by kernel_rfl⟩
theorem t94 : TI Tryz.prog 94 (Go.TypeDesc.map 9 63) (.map none) 1 8 := ⟨Tryz.underlying94, by kernel_rfl⟩
theorem t95 : TI Tryz.prog 95 (Go.TypeDesc.map 9 113) (.map none) 1 8 := ⟨Tryz.underlying95, by kernel_rfl⟩
theorem t97 : TI Tryz.prog 97 (Go.TypeDesc.map 9 111) (.map none) 1 8 := ⟨Tryz.underlying97, by kernel_rfl⟩
theorem t101 : TI Tryz.prog 101 (Go.TypeDesc.struct #[(Go.Field.mk "funcs" 94 0 Bool.false "" "babel/eval" 0), (Go.Field.mk "unary" 95 1 Bool.false "" "babel/eval" 8), (Go.Field.mk "binary" 97 2 Bool.false "" "babel/eval" 16), (Go.Field.mk "inputs" 23 3 Bool.false "" "babel/eval" 24), (Go.Field.mk "outputs" 23 4 Bool.false "" "babel/eval" 48), (Go.Field.mk "mem" 99 5 Bool.false "" "babel/eval" 72), (Go.Field.mk "fuel" 3 261 Bool.false "" "babel/eval" 1096), (Go.Field.mk "depth" 3 262 Bool.false "" "babel/eval" 1104), (Go.Field.mk "returned" 4 263 Bool.false "" "babel/eval" 1112), (Go.Field.mk "value" 36 264 Bool.false "" "babel/eval" 1116)]) (.agg #[.map none, .map none, .map none, .slice none 0 0, .slice none 0 0, .int .u32 0, .int .u32 0, .int .u32 0, .int .u32 0, .int .u32 0, .int .u32 0, .int .u32 0, .int .u32 0, .int .u32 0, .int .u32 0, .int .u32 0, .int .u32 0, .int .u32 0, .int .u32 0, .int .u32 0, .int .u32 0, .int .u32 0, .int .u32 0, .int .u32 0, .int .u32 0, .int .u32 0, .int .u32 0, .int .u32 0, .int .u32 0, .int .u32 0, .int .u32 0, .int .u32 0, .int .u32 0, .int .u32 0, .int .u32 0, .int .u32 0, .int .u32 0, .int .u32 0, .int .u32 0, .int .u32 0, .int .u32 0, .int .u32 0, .int .u32 0, .int .u32 0, .int .u32 0, .int .u32 0, .int .u32 0, .int .u32 0, .int .u32 0, .int .u32 0, .int .u32 0, .int .u32 0, .int .u32 0, .int .u32 0, .int .u32 0, .int .u32 0, .int .u32 0, .int .u32 0, .int .u32 0, .int .u32 0, .int .u32 0, .int .u32 0, .int .u32 0, .int .u32 0, .int .u32 0, .int .u32 0, .int .u32 0, .int .u32 0, .int .u32 0, .int .u32 0, .int .u32 0, .int .u32 0, .int .u32 0, .int .u32 0, .int .u32 0, .int .u32 0, .int .u32 0, .int .u32 0, .int .u32 0, .int .u32 0, .int .u32 0, .int .u32 0, .int .u32 0, .int .u32 0, .int .u32 0, .int .u32 0, .int .u32 0, .int .u32 0, .int .u32 0, .int .u32 0, .int .u32 0, .int .u32 0, .int .u32 0, .int .u32 0, .int .u32 0, .int .u32 0, .int .u32 0, .int .u32 0, .int .u32 0, .int .u32 0, .int .u32 0, .int .u32 0, .int .u32 0, .int .u32 0, .int .u32 0, .int .u32 0, .int .u32 0, .int .u32 0, .int .u32 0, .int .u32 0, .int .u32 0, .int .u32 0, .int .u32 0, .int .u32 0, .int .u32 0, .int .u32 0, .int .u32 0, .int .u32 0, .int .u32 0, .int .u32 0, .int .u32 0, .int .u32 0, .int .u32 0, .int .u32 0, .int .u32 0, .int .u32 0, .int .u32 0, .int .u32 0, .int .u32 0, .int .u32 0, .int .u32 0, .int .u32 0, .int .u32 0, .int .u32 0, .int .u32 0, .int .u32 0, .int .u32 0, .int .u32 0, .int .u32 0, .int .u32 0, .int .u32 0, .int .u32 0, .int .u32 0, .int .u32 0, .int .u32 0, .int .u32 0, .int .u32 0, .int .u32 0, .int .u32 0, .int .u32 0, .int .u32 0, .int .u32 0, .int .u32 0, .int .u32 0, .int .u32 0, .int .u32 0, .int .u32 0, .int .u32 0, .int .u32 0, .int .u32 0, .int .u32 0, .int .u32 0, .int .u32 0, .int .u32 0, .int .u32 0, .int .u32 0, .int .u32 0, .int .u32 0, .int .u32 0, .int .u32 0, .int .u32 0, .int .u32 0, .int .u32 0, .int .u32 0, .int .u32 0, .int .u32 0, .int .u32 0, .int .u32 0, .int .u32 0, .int .u32 0, .int .u32 0, .int .u32 0, .int .u32 0, .int .u32 0, .int .u32 0, .int .u32 0, .int .u32 0, .int .u32 0, .int .u32 0, .int .u32 0, .int .u32 0, .int .u32 0, .int .u32 0, .int .u32 0, .int .u32 0, .int .u32 0, .int .u32 0, .int .u32 0, .int .u32 0, .int .u32 0, .int .u32 0, .int .u32 0, .int .u32 0, .int .u32 0, .int .u32 0, .int .u32 0, .int .u32 0, .int .u32 0, .int .u32 0, .int .u32 0, .int .u32 0, .int .u32 0, .int .u32 0, .int .u32 0, .int .u32 0, .int .u32 0, .int .u32 0, .int .u32 0, .int .u32 0, .int .u32 0, .int .u32 0, .int .u32 0, .int .u32 0, .int .u32 0, .int .u32 0, .int .u32 0, .int .u32 0, .int .u32 0, .int .u32 0, .int .u32 0, .int .u32 0, .int .u32 0, .int .u32 0, .int .u32 0, .int .u32 0, .int .u32 0, .int .u32 0, .int .u32 0, .int .u32 0, .int .u32 0, .int .u32 0, .int .u32 0, .int .u32 0, .int .u32 0, .int .u32 0, .int .u32 0, .int .u32 0, .int .u32 0, .int .u32 0, .int .u32 0, .int .u32 0, .int .u32 0, .int .u32 0, .int .u32 0, .int .u32 0, .int .u32 0, .int .u32 0, .int .u32 0, .int .u32 0, .int .u32 0, .int .u32 0, .int .i64 0, .int .i64 0, .bool false, .int .u32 0]) 265 1120 := ⟨Tryz.underlying101, by kernel_rfl⟩
theorem fo101_0 : FO Tryz.prog 101 0 0 := ⟨_, _, 0, Tryz.underlying101, rfl, rfl, by kernel_rfl⟩
theorem fo101_1 : FO Tryz.prog 101 1 1 := ⟨_, _, 0, Tryz.underlying101, rfl, rfl, by kernel_rfl⟩
theorem fo101_2 : FO Tryz.prog 101 2 2 := ⟨_, _, 0, Tryz.underlying101, rfl, rfl, by kernel_rfl⟩
theorem fo101_3 : FO Tryz.prog 101 3 3 := ⟨_, _, 0, Tryz.underlying101, rfl, rfl, by kernel_rfl⟩
theorem fo101_4 : FO Tryz.prog 101 4 4 := ⟨_, _, 0, Tryz.underlying101, rfl, rfl, by kernel_rfl⟩
theorem fo101_5 : FO Tryz.prog 101 5 5 := ⟨_, _, 255, Tryz.underlying101, rfl, rfl, by kernel_rfl⟩
theorem fo101_6 : FO Tryz.prog 101 6 261 := ⟨_, _, 0, Tryz.underlying101, rfl, rfl, by kernel_rfl⟩
theorem fo101_7 : FO Tryz.prog 101 7 262 := ⟨_, _, 0, Tryz.underlying101, rfl, rfl, by kernel_rfl⟩
theorem fo101_8 : FO Tryz.prog 101 8 263 := ⟨_, _, 0, Tryz.underlying101, rfl, rfl, by kernel_rfl⟩
theorem fo101_9 : FO Tryz.prog 101 9 264 := ⟨_, _, 0, Tryz.underlying101, rfl, rfl, by kernel_rfl⟩
theorem pl101 : PL Tryz.prog 101 [(0, 1), (1, 1), (2, 1), (3, 1), (4, 1), (5, 256), (261, 1), (262, 1), (263, 1), (264, 1)] := ⟨_, Tryz.underlying101, by kernel_rfl⟩
theorem t103 : TI Tryz.prog 103 (Go.TypeDesc.struct #[(Go.Field.mk "e" 40 0 Bool.false "" "babel/eval" 0)]) (.agg #[.int .i64 0]) 1 8 := ⟨Tryz.underlying103, by kernel_rfl⟩
theorem fo103_0 : FO Tryz.prog 103 0 0 := ⟨_, _, 0, Tryz.underlying103, rfl, rfl, by kernel_rfl⟩
theorem pl103 : PL Tryz.prog 103 [(0, 1)] := ⟨_, Tryz.underlying103, by kernel_rfl⟩
theorem t109 : TI Tryz.prog 109 (Go.TypeDesc.struct #[(Go.Field.mk "s" 22 0 Bool.false "" "babel/babelref09" 0), (Go.Field.mk "at" 3 1 Bool.false "" "babel/babelref09" 24)]) (.agg #[.slice none 0 0, .int .i64 0]) 2 32 := ⟨Tryz.underlying109, by kernel_rfl⟩
theorem fo109_0 : FO Tryz.prog 109 0 0 := ⟨_, _, 0, Tryz.underlying109, rfl, rfl, by kernel_rfl⟩
theorem fo109_1 : FO Tryz.prog 109 1 1 := ⟨_, _, 0, Tryz.underlying109, rfl, rfl, by kernel_rfl⟩
theorem pl109 : PL Tryz.prog 109 [(0, 1), (1, 1)] := ⟨_, Tryz.underlying109, by kernel_rfl⟩
theorem t111 : TI Tryz.prog 111 (Go.TypeDesc.func #[36, 36] #[36] Bool.false) (.nilFunc) 1 8 := ⟨Tryz.underlying111, by kernel_rfl⟩
theorem t113 : TI Tryz.prog 113 (Go.TypeDesc.func #[36] #[36] Bool.false) (.nilFunc) 1 8 := ⟨Tryz.underlying113, by kernel_rfl⟩
theorem t117 : TI Tryz.prog 117 (Go.TypeDesc.struct #[(Go.Field.mk "P" 29 0 Bool.false "" "" 0), (Go.Field.mk "In" 23 1 Bool.false "" "" 24), (Go.Field.mk "Out" 23 2 Bool.false "" "" 48), (Go.Field.mk "Mem" 99 3 Bool.false "" "" 72), (Go.Field.mk "Fuel" 3 259 Bool.false "" "" 1096), (Go.Field.mk "Used" 3 260 Bool.false "" "" 1104), (Go.Field.mk "Err" 40 261 Bool.false "" "" 1112)]) (.agg #[.slice none 0 0, .slice none 0 0, .slice none 0 0, .int .u32 0, .int .u32 0, .int .u32 0, .int .u32 0, .int .u32 0, .int .u32 0, .int .u32 0, .int .u32 0, .int .u32 0, .int .u32 0, .int .u32 0, .int .u32 0, .int .u32 0, .int .u32 0, .int .u32 0, .int .u32 0, .int .u32 0, .int .u32 0, .int .u32 0, .int .u32 0, .int .u32 0, .int .u32 0, .int .u32 0, .int .u32 0, .int .u32 0, .int .u32 0, .int .u32 0, .int .u32 0, .int .u32 0, .int .u32 0, .int .u32 0, .int .u32 0, .int .u32 0, .int .u32 0, .int .u32 0, .int .u32 0, .int .u32 0, .int .u32 0, .int .u32 0, .int .u32 0, .int .u32 0, .int .u32 0, .int .u32 0, .int .u32 0, .int .u32 0, .int .u32 0, .int .u32 0, .int .u32 0, .int .u32 0, .int .u32 0, .int .u32 0, .int .u32 0, .int .u32 0, .int .u32 0, .int .u32 0, .int .u32 0, .int .u32 0, .int .u32 0, .int .u32 0, .int .u32 0, .int .u32 0, .int .u32 0, .int .u32 0, .int .u32 0, .int .u32 0, .int .u32 0, .int .u32 0, .int .u32 0, .int .u32 0, .int .u32 0, .int .u32 0, .int .u32 0, .int .u32 0, .int .u32 0, .int .u32 0, .int .u32 0, .int .u32 0, .int .u32 0, .int .u32 0, .int .u32 0, .int .u32 0, .int .u32 0, .int .u32 0, .int .u32 0, .int .u32 0, .int .u32 0, .int .u32 0, .int .u32 0, .int .u32 0, .int .u32 0, .int .u32 0, .int .u32 0, .int .u32 0, .int .u32 0, .int .u32 0, .int .u32 0, .int .u32 0, .int .u32 0, .int .u32 0, .int .u32 0, .int .u32 0, .int .u32 0, .int .u32 0, .int .u32 0, .int .u32 0, .int .u32 0, .int .u32 0, .int .u32 0, .int .u32 0, .int .u32 0, .int .u32 0, .int .u32 0, .int .u32 0, .int .u32 0, .int .u32 0, .int .u32 0, .int .u32 0, .int .u32 0, .int .u32 0, .int .u32 0, .int .u32 0, .int .u32 0, .int .u32 0, .int .u32 0, .int .u32 0, .int .u32 0, .int .u32 0, .int .u32 0, .int .u32 0, .int .u32 0, .int .u32 0, .int .u32 0, .int .u32 0, .int .u32 0, .int .u32 0, .int .u32 0, .int .u32 0, .int .u32 0, .int .u32 0, .int .u32 0, .int .u32 0, .int .u32 0, .int .u32 0, .int .u32 0, .int .u32 0, .int .u32 0, .int .u32 0, .int .u32 0, .int .u32 0, .int .u32 0, .int .u32 0, .int .u32 0, .int .u32 0, .int .u32 0, .int .u32 0, .int .u32 0, .int .u32 0, .int .u32 0, .int .u32 0, .int .u32 0, .int .u32 0, .int .u32 0, .int .u32 0, .int .u32 0, .int .u32 0, .int .u32 0, .int .u32 0, .int .u32 0, .int .u32 0, .int .u32 0, .int .u32 0, .int .u32 0, .int .u32 0, .int .u32 0, .int .u32 0, .int .u32 0, .int .u32 0, .int .u32 0, .int .u32 0, .int .u32 0, .int .u32 0, .int .u32 0, .int .u32 0, .int .u32 0, .int .u32 0, .int .u32 0, .int .u32 0, .int .u32 0, .int .u32 0, .int .u32 0, .int .u32 0, .int .u32 0, .int .u32 0, .int .u32 0, .int .u32 0, .int .u32 0, .int .u32 0, .int .u32 0, .int .u32 0, .int .u32 0, .int .u32 0, .int .u32 0, .int .u32 0, .int .u32 0, .int .u32 0, .int .u32 0, .int .u32 0, .int .u32 0, .int .u32 0, .int .u32 0, .int .u32 0, .int .u32 0, .int .u32 0, .int .u32 0, .int .u32 0, .int .u32 0, .int .u32 0, .int .u32 0, .int .u32 0, .int .u32 0, .int .u32 0, .int .u32 0, .int .u32 0, .int .u32 0, .int .u32 0, .int .u32 0, .int .u32 0, .int .u32 0, .int .u32 0, .int .u32 0, .int .u32 0, .int .u32 0, .int .u32 0, .int .u32 0, .int .u32 0, .int .u32 0, .int .u32 0, .int .u32 0, .int .u32 0, .int .u32 0, .int .u32 0, .int .u32 0, .int .u32 0, .int .u32 0, .int .u32 0, .int .u32 0, .int .u32 0, .int .u32 0, .int .u32 0, .int .u32 0, .int .u32 0, .int .u32 0, .int .u32 0, .int .u32 0, .int .u32 0, .int .u32 0, .int .i64 0, .int .i64 0, .int .i64 0]) 262 1120 := ⟨Tryz.underlying117, by kernel_rfl⟩
theorem fo117_0 : FO Tryz.prog 117 0 0 := ⟨_, _, 0, Tryz.underlying117, rfl, rfl, by kernel_rfl⟩
theorem fo117_1 : FO Tryz.prog 117 1 1 := ⟨_, _, 0, Tryz.underlying117, rfl, rfl, by kernel_rfl⟩
theorem fo117_2 : FO Tryz.prog 117 2 2 := ⟨_, _, 0, Tryz.underlying117, rfl, rfl, by kernel_rfl⟩
theorem fo117_3 : FO Tryz.prog 117 3 3 := ⟨_, _, 255, Tryz.underlying117, rfl, rfl, by kernel_rfl⟩
theorem fo117_4 : FO Tryz.prog 117 4 259 := ⟨_, _, 0, Tryz.underlying117, rfl, rfl, by kernel_rfl⟩
theorem fo117_5 : FO Tryz.prog 117 5 260 := ⟨_, _, 0, Tryz.underlying117, rfl, rfl, by kernel_rfl⟩
theorem fo117_6 : FO Tryz.prog 117 6 261 := ⟨_, _, 0, Tryz.underlying117, rfl, rfl, by kernel_rfl⟩
theorem pl117 : PL Tryz.prog 117 [(0, 1), (1, 1), (2, 1), (3, 256), (259, 1), (260, 1), (261, 1)] := ⟨_, Tryz.underlying117, by kernel_rfl⟩
theorem t127 : TI Tryz.prog 127 (Go.TypeDesc.struct #[(Go.Field.mk "p" 29 0 Bool.false "" "babel/syntax" 0), (Go.Field.mk "names" 58 1 Bool.false "" "babel/syntax" 24), (Go.Field.mk "nodes" 3 2 Bool.false "" "babel/syntax" 48), (Go.Field.mk "vars" 3 3 Bool.false "" "babel/syntax" 56), (Go.Field.mk "deep" 4 4 Bool.false "" "babel/syntax" 64), (Go.Field.mk "err" 40 5 Bool.false "" "babel/syntax" 72)]) (.agg #[.slice none 0 0, .slice none 0 0, .int .i64 0, .int .i64 0, .bool false, .int .i64 0]) 6 80 := ⟨Tryz.underlying127, by kernel_rfl⟩
theorem fo127_0 : FO Tryz.prog 127 0 0 := ⟨_, _, 0, Tryz.underlying127, rfl, rfl, by kernel_rfl⟩
theorem fo127_1 : FO Tryz.prog 127 1 1 := ⟨_, _, 0, Tryz.underlying127, rfl, rfl, by kernel_rfl⟩
theorem fo127_2 : FO Tryz.prog 127 2 2 := ⟨_, _, 0, Tryz.underlying127, rfl, rfl, by kernel_rfl⟩
theorem fo127_3 : FO Tryz.prog 127 3 3 := ⟨_, _, 0, Tryz.underlying127, rfl, rfl, by kernel_rfl⟩
theorem fo127_4 : FO Tryz.prog 127 4 4 := ⟨_, _, 0, Tryz.underlying127, rfl, rfl, by kernel_rfl⟩
theorem fo127_5 : FO Tryz.prog 127 5 5 := ⟨_, _, 0, Tryz.underlying127, rfl, rfl, by kernel_rfl⟩
theorem pl127 : PL Tryz.prog 127 [(0, 1), (1, 1), (2, 1), (3, 1), (4, 1), (5, 1)] := ⟨_, Tryz.underlying127, by kernel_rfl⟩
theorem t139 : TI Tryz.prog 139 (Go.TypeDesc.struct #[(Go.Field.mk "Names" 58 0 Bool.false "" "" 0), (Go.Field.mk "Values" 23 1 Bool.false "" "" 24), (Go.Field.mk "Depth" 3 2 Bool.false "" "" 48), (Go.Field.mk "Done" 4 3 Bool.false "" "" 56), (Go.Field.mk "Value" 36 4 Bool.false "" "" 60)]) (.agg #[.slice none 0 0, .slice none 0 0, .int .i64 0, .bool false, .int .u32 0]) 5 64 := ⟨Tryz.underlying139, by kernel_rfl⟩
theorem fo139_0 : FO Tryz.prog 139 0 0 := ⟨_, _, 0, Tryz.underlying139, rfl, rfl, by kernel_rfl⟩
theorem fo139_1 : FO Tryz.prog 139 1 1 := ⟨_, _, 0, Tryz.underlying139, rfl, rfl, by kernel_rfl⟩
theorem fo139_2 : FO Tryz.prog 139 2 2 := ⟨_, _, 0, Tryz.underlying139, rfl, rfl, by kernel_rfl⟩
theorem fo139_3 : FO Tryz.prog 139 3 3 := ⟨_, _, 0, Tryz.underlying139, rfl, rfl, by kernel_rfl⟩
theorem fo139_4 : FO Tryz.prog 139 4 4 := ⟨_, _, 0, Tryz.underlying139, rfl, rfl, by kernel_rfl⟩
theorem pl139 : PL Tryz.prog 139 [(0, 1), (1, 1), (2, 1), (3, 1), (4, 1)] := ⟨_, Tryz.underlying139, by kernel_rfl⟩
theorem t171 : TI Tryz.prog 171 (Go.TypeDesc.struct #[(Go.Field.mk "V" 36 0 Bool.false "" "" 0), (Go.Field.mk "Ok" 4 1 Bool.false "" "" 4)]) (.agg #[.int .u32 0, .bool false]) 2 8 := ⟨Tryz.underlying171, by kernel_rfl⟩
theorem ft171_0 : FT Tryz.prog 171 0 0 36 := ⟨_, _, Tryz.underlying171, rfl, rfl, rfl⟩
theorem pl171 : PL Tryz.prog 171 [(0, 1), (1, 1)] := ⟨_, Tryz.underlying171, by kernel_rfl⟩
theorem cb8 : Cb Tryz.prog 8 := ⟨_, Tryz.func8, by decide, rfl⟩
theorem cb14 : Cb Tryz.prog 14 := ⟨_, Tryz.func14, by decide, rfl⟩
theorem cb15 : Cb Tryz.prog 15 := ⟨_, Tryz.func15, by decide, rfl⟩
theorem cb16 : Cb Tryz.prog 16 := ⟨_, Tryz.func16, by decide, rfl⟩
theorem cb17 : Cb Tryz.prog 17 := ⟨_, Tryz.func17, by decide, rfl⟩
theorem cb18 : Cb Tryz.prog 18 := ⟨_, Tryz.func18, by decide, rfl⟩
theorem cb19 : Cb Tryz.prog 19 := ⟨_, Tryz.func19, by decide, rfl⟩
theorem cb20 : Cb Tryz.prog 20 := ⟨_, Tryz.func20, by decide, rfl⟩
theorem cb21 : Cb Tryz.prog 21 := ⟨_, Tryz.func21, by decide, rfl⟩
theorem cb22 : Cb Tryz.prog 22 := ⟨_, Tryz.func22, by decide, rfl⟩
theorem cb23 : Cb Tryz.prog 23 := ⟨_, Tryz.func23, by decide, rfl⟩
theorem cb24 : Cb Tryz.prog 24 := ⟨_, Tryz.func24, by decide, rfl⟩
theorem cb25 : Cb Tryz.prog 25 := ⟨_, Tryz.func25, by decide, rfl⟩
theorem cb26 : Cb Tryz.prog 26 := ⟨_, Tryz.func26, by decide, rfl⟩
theorem cb27 : Cb Tryz.prog 27 := ⟨_, Tryz.func27, by decide, rfl⟩
theorem cb28 : Cb Tryz.prog 28 := ⟨_, Tryz.func28, by decide, rfl⟩
theorem cb29 : Cb Tryz.prog 29 := ⟨_, Tryz.func29, by decide, rfl⟩
theorem cb30 : Cb Tryz.prog 30 := ⟨_, Tryz.func30, by decide, rfl⟩
theorem cb36 : Cb Tryz.prog 36 := ⟨_, Tryz.func36, by decide, rfl⟩
theorem cb37 : Cb Tryz.prog 37 := ⟨_, Tryz.func37, by decide, rfl⟩
theorem cb38 : Cb Tryz.prog 38 := ⟨_, Tryz.func38, by decide, rfl⟩
theorem cb39 : Cb Tryz.prog 39 := ⟨_, Tryz.func39, by decide, rfl⟩
theorem cb40 : Cb Tryz.prog 40 := ⟨_, Tryz.func40, by decide, rfl⟩
theorem cb41 : Cb Tryz.prog 41 := ⟨_, Tryz.func41, by decide, rfl⟩
theorem cb42 : Cb Tryz.prog 42 := ⟨_, Tryz.func42, by decide, rfl⟩
theorem cb43 : Cb Tryz.prog 43 := ⟨_, Tryz.func43, by decide, rfl⟩
theorem cb44 : Cb Tryz.prog 44 := ⟨_, Tryz.func44, by decide, rfl⟩
theorem cb45 : Cb Tryz.prog 45 := ⟨_, Tryz.func45, by decide, rfl⟩
theorem cb46 : Cb Tryz.prog 46 := ⟨_, Tryz.func46, by decide, rfl⟩
theorem cb47 : Cb Tryz.prog 47 := ⟨_, Tryz.func47, by decide, rfl⟩
theorem cb48 : Cb Tryz.prog 48 := ⟨_, Tryz.func48, by decide, rfl⟩
theorem cb51 : Cb Tryz.prog 51 := ⟨_, Tryz.func51, by decide, rfl⟩
theorem cb52 : Cb Tryz.prog 52 := ⟨_, Tryz.func52, by decide, rfl⟩
theorem cb53 : Cb Tryz.prog 53 := ⟨_, Tryz.func53, by decide, rfl⟩
theorem cb54 : Cb Tryz.prog 54 := ⟨_, Tryz.func54, by decide, rfl⟩
theorem cb55 : Cb Tryz.prog 55 := ⟨_, Tryz.func55, by decide, rfl⟩
theorem cb56 : Cb Tryz.prog 56 := ⟨_, Tryz.func56, by decide, rfl⟩
theorem cb57 : Cb Tryz.prog 57 := ⟨_, Tryz.func57, by decide, rfl⟩
theorem cb58 : Cb Tryz.prog 58 := ⟨_, Tryz.func58, by decide, rfl⟩
theorem cb59 : Cb Tryz.prog 59 := ⟨_, Tryz.func59, by decide, rfl⟩
theorem cb60 : Cb Tryz.prog 60 := ⟨_, Tryz.func60, by decide, rfl⟩
theorem cb61 : Cb Tryz.prog 61 := ⟨_, Tryz.func61, by decide, rfl⟩
theorem cb62 : Cb Tryz.prog 62 := ⟨_, Tryz.func62, by decide, rfl⟩
theorem cb63 : Cb Tryz.prog 63 := ⟨_, Tryz.func63, by decide, rfl⟩
theorem cb64 : Cb Tryz.prog 64 := ⟨_, Tryz.func64, by decide, rfl⟩
theorem cb65 : Cb Tryz.prog 65 := ⟨_, Tryz.func65, by decide, rfl⟩
theorem cb66 : Cb Tryz.prog 66 := ⟨_, Tryz.func66, by decide, rfl⟩
theorem cb67 : Cb Tryz.prog 67 := ⟨_, Tryz.func67, by decide, rfl⟩
theorem cb68 : Cb Tryz.prog 68 := ⟨_, Tryz.func68, by decide, rfl⟩
theorem cb69 : Cb Tryz.prog 69 := ⟨_, Tryz.func69, by decide, rfl⟩
theorem cb70 : Cb Tryz.prog 70 := ⟨_, Tryz.func70, by decide, rfl⟩
theorem cb71 : Cb Tryz.prog 71 := ⟨_, Tryz.func71, by decide, rfl⟩
theorem cb72 : Cb Tryz.prog 72 := ⟨_, Tryz.func72, by decide, rfl⟩
theorem cb73 : Cb Tryz.prog 73 := ⟨_, Tryz.func73, by decide, rfl⟩
theorem cb74 : Cb Tryz.prog 74 := ⟨_, Tryz.func74, by decide, rfl⟩
theorem cb75 : Cb Tryz.prog 75 := ⟨_, Tryz.func75, by decide, rfl⟩
theorem cb76 : Cb Tryz.prog 76 := ⟨_, Tryz.func76, by decide, rfl⟩
theorem cb77 : Cb Tryz.prog 77 := ⟨_, Tryz.func77, by decide, rfl⟩
theorem cb78 : Cb Tryz.prog 78 := ⟨_, Tryz.func78, by decide, rfl⟩
theorem cb79 : Cb Tryz.prog 79 := ⟨_, Tryz.func79, by decide, rfl⟩
theorem cb80 : Cb Tryz.prog 80 := ⟨_, Tryz.func80, by decide, rfl⟩
theorem cb81 : Cb Tryz.prog 81 := ⟨_, Tryz.func81, by decide, rfl⟩
theorem cb82 : Cb Tryz.prog 82 := ⟨_, Tryz.func82, by decide, rfl⟩
theorem cb83 : Cb Tryz.prog 83 := ⟨_, Tryz.func83, by decide, rfl⟩
theorem cb84 : Cb Tryz.prog 84 := ⟨_, Tryz.func84, by decide, rfl⟩
theorem cb85 : Cb Tryz.prog 85 := ⟨_, Tryz.func85, by decide, rfl⟩
theorem cb87 : Cb Tryz.prog 87 := ⟨_, Tryz.func87, by decide, rfl⟩
theorem cb88 : Cb Tryz.prog 88 := ⟨_, Tryz.func88, by decide, rfl⟩
theorem cb89 : Cb Tryz.prog 89 := ⟨_, Tryz.func89, by decide, rfl⟩
theorem cb90 : Cb Tryz.prog 90 := ⟨_, Tryz.func90, by decide, rfl⟩
theorem cb91 : Cb Tryz.prog 91 := ⟨_, Tryz.func91, by decide, rfl⟩
theorem cb92 : Cb Tryz.prog 92 := ⟨_, Tryz.func92, by decide, rfl⟩
theorem cb93 : Cb Tryz.prog 93 := ⟨_, Tryz.func93, by decide, rfl⟩
theorem cb94 : Cb Tryz.prog 94 := ⟨_, Tryz.func94, by decide, rfl⟩
theorem cb95 : Cb Tryz.prog 95 := ⟨_, Tryz.func95, by decide, rfl⟩
theorem cb96 : Cb Tryz.prog 96 := ⟨_, Tryz.func96, by decide, rfl⟩
theorem cb97 : Cb Tryz.prog 97 := ⟨_, Tryz.func97, by decide, rfl⟩
theorem cb98 : Cb Tryz.prog 98 := ⟨_, Tryz.func98, by decide, rfl⟩
theorem cb99 : Cb Tryz.prog 99 := ⟨_, Tryz.func99, by decide, rfl⟩
theorem cb100 : Cb Tryz.prog 100 := ⟨_, Tryz.func100, by decide, rfl⟩
theorem cb101 : Cb Tryz.prog 101 := ⟨_, Tryz.func101, by decide, rfl⟩
theorem cb102 : Cb Tryz.prog 102 := ⟨_, Tryz.func102, by decide, rfl⟩
theorem cb103 : Cb Tryz.prog 103 := ⟨_, Tryz.func103, by decide, rfl⟩
theorem cb104 : Cb Tryz.prog 104 := ⟨_, Tryz.func104, by decide, rfl⟩
theorem cb105 : Cb Tryz.prog 105 := ⟨_, Tryz.func105, by decide, rfl⟩
theorem cb106 : Cb Tryz.prog 106 := ⟨_, Tryz.func106, by decide, rfl⟩
theorem cb107 : Cb Tryz.prog 107 := ⟨_, Tryz.func107, by decide, rfl⟩
theorem cb108 : Cb Tryz.prog 108 := ⟨_, Tryz.func108, by decide, rfl⟩
theorem cb109 : Cb Tryz.prog 109 := ⟨_, Tryz.func109, by decide, rfl⟩
theorem cb110 : Cb Tryz.prog 110 := ⟨_, Tryz.func110, by decide, rfl⟩
theorem cb111 : Cb Tryz.prog 111 := ⟨_, Tryz.func111, by decide, rfl⟩
theorem cb112 : Cb Tryz.prog 112 := ⟨_, Tryz.func112, by decide, rfl⟩
theorem cb113 : Cb Tryz.prog 113 := ⟨_, Tryz.func113, by decide, rfl⟩
theorem cb114 : Cb Tryz.prog 114 := ⟨_, Tryz.func114, by decide, rfl⟩
theorem cb115 : Cb Tryz.prog 115 := ⟨_, Tryz.func115, by decide, rfl⟩
theorem cb116 : Cb Tryz.prog 116 := ⟨_, Tryz.func116, by decide, rfl⟩
theorem cb117 : Cb Tryz.prog 117 := ⟨_, Tryz.func117, by decide, rfl⟩
theorem cb118 : Cb Tryz.prog 118 := ⟨_, Tryz.func118, by decide, rfl⟩
theorem cb119 : Cb Tryz.prog 119 := ⟨_, Tryz.func119, by decide, rfl⟩
theorem cb120 : Cb Tryz.prog 120 := ⟨_, Tryz.func120, by decide, rfl⟩
theorem cb121 : Cb Tryz.prog 121 := ⟨_, Tryz.func121, by decide, rfl⟩
theorem cb122 : Cb Tryz.prog 122 := ⟨_, Tryz.func122, by decide, rfl⟩
theorem cb123 : Cb Tryz.prog 123 := ⟨_, Tryz.func123, by decide, rfl⟩
theorem cb124 : Cb Tryz.prog 124 := ⟨_, Tryz.func124, by decide, rfl⟩
theorem cb125 : Cb Tryz.prog 125 := ⟨_, Tryz.func125, by decide, rfl⟩
theorem cb126 : Cb Tryz.prog 126 := ⟨_, Tryz.func126, by decide, rfl⟩
theorem cb127 : Cb Tryz.prog 127 := ⟨_, Tryz.func127, by decide, rfl⟩
theorem cb128 : Cb Tryz.prog 128 := ⟨_, Tryz.func128, by decide, rfl⟩
theorem cb129 : Cb Tryz.prog 129 := ⟨_, Tryz.func129, by decide, rfl⟩
theorem cb130 : Cb Tryz.prog 130 := ⟨_, Tryz.func130, by decide, rfl⟩
theorem cb131 : Cb Tryz.prog 131 := ⟨_, Tryz.func131, by decide, rfl⟩
theorem cb132 : Cb Tryz.prog 132 := ⟨_, Tryz.func132, by decide, rfl⟩
theorem cb133 : Cb Tryz.prog 133 := ⟨_, Tryz.func133, by decide, rfl⟩
theorem cb134 : Cb Tryz.prog 134 := ⟨_, Tryz.func134, by decide, rfl⟩
theorem cb135 : Cb Tryz.prog 135 := ⟨_, Tryz.func135, by decide, rfl⟩
end Go.Proofs.YtdcbbkpdlcojfaaGreat
namespace Go.Proofs.YtdcbbkpdlcojfaaGreat
set_option linter.unusedSimpArgs false
set_option linter.unusedVariables false
open Go.RowKit
theorem quo_u32 {a b : Int} (ha : 0 ≤ a ∧ a < 4294967296) (hb : 0 ≤ b ∧ b < 4294967296) (h : ¬ b = 0) : IntKind.u32.wrap (a.tdiv b) = a / b := by
 rw [Int.tdiv_eq_ediv_of_nonneg ha.1]
 have h1 : 0 ≤ a / b := Int.ediv_nonneg ha.1 hb.1
 have h2 : a / b ≤ a := Int.ediv_le_self b ha.1
 exact w_u32 h1 (by omega)
theorem com_u32 {a : Int} (ha : 0 ≤ a ∧ a < 4294967296) : bits .xor .u32 4294967295 a = 4294967295 - a := by
 have h1 : bits .xor .u32 4294967295 a = IntKind.u32.wrap (((BitVec.ofInt 32 4294967295 ^^^ BitVec.ofInt 32 a).toNat : Nat) : Int) := rfl
 have h2 : BitVec.ofInt 32 4294967295 = BitVec.allOnes 32 := by decide
 rw [h1, h2, BitVec.allOnes_xor, BitVec.toNat_not, BitVec.toNat_ofInt]
 have h3 : (a % ((2 ^ 32 : Nat) : Int)).toNat = a.toNat := by
  rw [Int.emod_eq_of_lt ha.1 (by omega)]
 rw [h3, w_u32 (by omega) (by omega)]
 omega
section
variable {P : Program} {N : Nat} {w0 : World} {M H : Nat → Prop} {E : Env} {Γ R : Ctx}
theorem p_com {S : TypeId} {x : Operand} {n c : Int} (hx : ev E x = some (.int .u32 n)) (hc : bits .xor .u32 4294967295 n = c) : PR P N w0 M H E Γ R (.unOp .xor S x) (.int .u32 c) := fun _ _ _ a w hE _ _ _ => by
 have : (Op.unary .xor (.int .u32 n)).run P w = .ok (.int .u32 c) w := by
  show (Op.intBits .xor .u32 4294967295 n).run P w = _
  rw [intBits_xor, hc]
  rfl
 simp [execOp, hE.ev hx, this]
end
theorem tmod_u32 {a b : Int} (ha : 0 ≤ a ∧ a < 4294967296) : a.tmod b = a % b := Int.tmod_eq_emod_of_nonneg ha.1
set_option maxRecDepth 100000 in
theorem truth_spec (b : Bool) :
  Spec Tryz.prog 62 [.bool b] [] [] (X := Unit) (fun _ => True) (fun _ => .int .u32 (tr b)) (fun _ => []) (fun _ => []) := by
 refine r_enter Tryz.func62 rfl Tryz.ntmps62 rfl fun w0 M H => ?_
 refine r_seq (r_region (r_p (p_assign rfl) rfl (r_nil (r_seq (r_seq (r_region (r_p (p_move rfl) rfl (r_nil ?_))))))))
 refine r_cond rfl (fun h1 => ?_) (fun h1 => ?_)
 ·have hq := h1
  refine r_seq (r_region (r_p (p_assign rfl) rfl (r_nil (r_cret ?_))))
  refine r_ret () trivial rfl (rs1 (rv_tmp rfl)) (by rw [hq]; rfl) [] [] rfl rfl rfl
 ·have hq := h1
  refine r_skip (r_seq (r_region (r_p (p_assign rfl) rfl (r_nil (r_cret ?_)))))
  refine r_ret () trivial rfl (rs1 (rv_tmp rfl)) (by rw [hq]; rfl) [] [] rfl rfl rfl
set_option maxRecDepth 100000 in
theorem un1_spec (a : Int) (ha : 0 ≤ a ∧ a < 4294967296) :
  Spec Tryz.prog 59 [.int .u32 a] [] [] (X := Unit) (fun _ => True) (fun _ => .int .u32 (wU (-a))) (fun _ => []) (fun _ => []) := by
 refine r_enter Tryz.func59 rfl Tryz.ntmps59 rfl fun w0 M H => ?_
 refine r_seq (r_region (r_p (p_assign rfl) rfl (r_nil (r_seq (r_region (r_p (p_move rfl) rfl ?_))))))
 refine r_p (p_neg rfl rfl) rfl ?_
 refine r_p (p_assign rfl) rfl (r_nil (r_cret ?_))
 refine r_ret () trivial rfl (rs1 (rv_tmp rfl)) rfl [] [] rfl rfl rfl
set_option maxRecDepth 100000 in
theorem un2_spec (a : Int) (ha : 0 ≤ a ∧ a < 4294967296) :
  Spec Tryz.prog 60 [.int .u32 a] [] [] (X := Unit) (fun _ => True) (fun _ => .int .u32 (4294967295 - a)) (fun _ => []) (fun _ => []) := by
 refine r_enter Tryz.func60 rfl Tryz.ntmps60 rfl fun w0 M H => ?_
 refine r_seq (r_region (r_p (p_assign rfl) rfl (r_nil (r_seq (r_region (r_p (p_move rfl) rfl ?_))))))
 refine r_p (p_com rfl (com_u32 ha)) rfl ?_
 refine r_p (p_assign rfl) rfl (r_nil (r_cret ?_))
 refine r_ret () trivial rfl (rs1 (rv_tmp rfl)) rfl [] [] rfl rfl rfl
set_option maxRecDepth 100000 in
theorem un3_spec (a : Int) (ha : 0 ≤ a ∧ a < 4294967296) :
  Spec Tryz.prog 61 [.int .u32 a] [] [] (X := Unit) (fun _ => True) (fun _ => .int .u32 (tr (decide (a = 0)))) (fun _ => []) (fun _ => []) := by
 refine r_enter Tryz.func61 rfl Tryz.ntmps61 rfl fun w0 M H => ?_
 refine r_seq (r_region (r_p (p_assign rfl) rfl (r_nil (r_seq (r_region (r_p (p_move rfl) rfl ?_))))))
 refine r_p (p_bin rfl rfl b_eq) rfl ?_
 refine r_call (xs := [.tmp 4]) (truth_spec (decide (a = 0))) cb62 [] [] [] [] rfl rfl rfl rfl rfl rfl rfl rfl (fun _ _ => rfl) (fun _ _ _ => rfl) rfl (fun _ _ => ?_)
 refine r_p (p_assign rfl) rfl (r_nil (r_cret ?_))
 refine r_ret () trivial rfl (rs1 (rv_tmp rfl)) rfl [] [] rfl rfl rfl
set_option maxRecDepth 100000 in
theorem divide_spec (a b : Int) (ha : 0 ≤ a ∧ a < 4294967296) (hb : 0 ≤ b ∧ b < 4294967296) :
  Spec Tryz.prog 67 [.int .u32 a, .int .u32 b] [] [] (X := Unit) (fun _ => True) (fun _ => .tuple #[.int .u32 (if b = 0 then 0 else a / b), .int .u32 (if b = 0 then a else a % b)]) (fun _ => []) (fun _ => []) := by
 refine r_enter Tryz.func67 rfl Tryz.ntmps67 rfl fun w0 M H => ?_
 refine r_seq (r_region (r_p (p_assign rfl) rfl (r_p (p_assign rfl) rfl (r_nil (r_seq (r_seq (r_region (r_p (p_move rfl) rfl ?_))))))))
 refine r_p (p_bin rfl rfl b_eq) rfl ?_
 refine r_nil ?_
 refine r_cond rfl (fun h1 => ?_) (fun h1 => ?_)
 ·(try simp only [decide_eq_true_eq, decide_eq_false_iff_not, Bool.and_eq_true, Bool.or_eq_true, Bool.and_eq_false_iff, Bool.or_eq_false_iff, Bool.not_eq_true, Bool.not_eq_false, Bool.not_eq_true', Bool.not_eq_false', Bool.not_not, bne_iff_ne, beq_iff_eq] at h1)
  have hq : b = 0 := h1
  refine r_seq (r_region (r_p (p_move rfl) rfl (r_p (p_assign rfl) rfl (r_p (p_assign rfl) rfl (r_nil (r_cret ?_))))))
  refine r_ret () trivial rfl (rs2 (rv_tmp rfl) (rv_tmp rfl)) (by rw [if_pos hq, if_pos hq]) [] [] rfl rfl rfl
 ·(try simp only [decide_eq_true_eq, decide_eq_false_iff_not, Bool.and_eq_true, Bool.or_eq_true, Bool.and_eq_false_iff, Bool.or_eq_false_iff, Bool.not_eq_true, Bool.not_eq_false, Bool.not_eq_true', Bool.not_eq_false', Bool.not_not, bne_iff_ne, beq_iff_eq] at h1)
  have hq : ¬ b = 0 := h1
  refine r_skip (r_seq ?_)
  refine r_drawM [0, 1, 2, 3, 4, 5, 6, 7] [0, 1, 2, 4, 5, 6, 3, 7] [9, 10, 11, 12, 13, 14, 4, 5] _ rfl rfl rfl (stg_end (V := [(0, 9, _), (1, 10, _), (2, 11, _), (3, 12, _), (4, 13, _), (5, 14, _), (6, 4, _), (7, 5, _)]) [0, 1, 2, 3, 4, 5, 6, 7] rfl rfl (prs_cons (pri rfl (p_move rfl)) (prs_cons (pri rfl (p_move rfl)) (prs_cons (pri rfl (p_bin rfl rfl (b_quo hq (quo_u32 ha hb hq)))) (prs_cons (pri rfl (p_move rfl)) (prs_cons (pri rfl (p_move rfl)) (prs_cons (pri rfl (p_bin rfl rfl (b_rem hq (tmod_u32 ha)))) (prs_cons (pri rfl (p_assign rfl)) (prs_cons (pri rfl (p_assign rfl)) prs_nil)))))))) rfl rfl rfl ?_)
  refine r_cret ?_
  refine r_ret () trivial rfl (rs2 (rv_tmp rfl) (rv_tmp rfl)) (by rw [if_neg hq, if_neg hq]) [] [] rfl rfl rfl
set_option maxRecDepth 100000 in
theorem bi1_spec (a b : Int) (ha : 0 ≤ a ∧ a < 4294967296) (hb : 0 ≤ b ∧ b < 4294967296) :
  Spec Tryz.prog 63 [.int .u32 a, .int .u32 b] [] [] (X := Unit) (fun _ => True) (fun _ => .int .u32 (wU (a + b))) (fun _ => []) (fun _ => []) := by
 refine r_enter Tryz.func63 rfl Tryz.ntmps63 rfl fun w0 M H => ?_
 refine r_seq (r_region (r_p (p_assign rfl) rfl (r_nil (r_seq (r_region (r_p (p_move rfl) rfl (r_p (p_move rfl) rfl ?_)))))))
 refine r_p (p_bin rfl rfl (b_add rfl)) rfl ?_
 refine r_p (p_assign rfl) rfl (r_nil (r_cret ?_))
 refine r_ret () trivial rfl (rs1 (rv_tmp rfl)) rfl [] [] rfl rfl rfl
set_option maxRecDepth 100000 in
theorem bi2_spec (a b : Int) (ha : 0 ≤ a ∧ a < 4294967296) (hb : 0 ≤ b ∧ b < 4294967296) :
  Spec Tryz.prog 64 [.int .u32 a, .int .u32 b] [] [] (X := Unit) (fun _ => True) (fun _ => .int .u32 (wU (a - b))) (fun _ => []) (fun _ => []) := by
 refine r_enter Tryz.func64 rfl Tryz.ntmps64 rfl fun w0 M H => ?_
 refine r_seq (r_region (r_p (p_assign rfl) rfl (r_nil (r_seq (r_region (r_p (p_move rfl) rfl (r_p (p_move rfl) rfl ?_)))))))
 refine r_p (p_bin rfl rfl (b_sub rfl)) rfl ?_
 refine r_p (p_assign rfl) rfl (r_nil (r_cret ?_))
 refine r_ret () trivial rfl (rs1 (rv_tmp rfl)) rfl [] [] rfl rfl rfl
set_option maxRecDepth 100000 in
theorem bi3_spec (a b : Int) (ha : 0 ≤ a ∧ a < 4294967296) (hb : 0 ≤ b ∧ b < 4294967296) :
  Spec Tryz.prog 65 [.int .u32 a, .int .u32 b] [] [] (X := Unit) (fun _ => True) (fun _ => .int .u32 (wU (a * b))) (fun _ => []) (fun _ => []) := by
 refine r_enter Tryz.func65 rfl Tryz.ntmps65 rfl fun w0 M H => ?_
 refine r_seq (r_region (r_p (p_assign rfl) rfl (r_nil (r_seq (r_region (r_p (p_move rfl) rfl (r_p (p_move rfl) rfl ?_)))))))
 refine r_p (p_bin rfl rfl (b_mul rfl)) rfl ?_
 refine r_p (p_assign rfl) rfl (r_nil (r_cret ?_))
 refine r_ret () trivial rfl (rs1 (rv_tmp rfl)) rfl [] [] rfl rfl rfl
set_option maxRecDepth 100000 in
theorem bi4_spec (a b : Int) (ha : 0 ≤ a ∧ a < 4294967296) (hb : 0 ≤ b ∧ b < 4294967296) :
  Spec Tryz.prog 66 [.int .u32 a, .int .u32 b] [] [] (X := Unit) (fun _ => True) (fun _ => .int .u32 (if b = 0 then 0 else a / b)) (fun _ => []) (fun _ => []) := by
 refine r_enter Tryz.func66 rfl Tryz.ntmps66 rfl fun w0 M H => ?_
 refine r_seq (r_region (r_p (p_assign rfl) rfl (r_nil (r_seq (r_region (r_p (p_move rfl) rfl (r_p (p_move rfl) rfl ?_)))))))
 refine r_call (xs := [.tmp 8, .tmp 9]) (divide_spec a b ha hb) cb67 [] [] [] [] rfl rfl rfl rfl rfl rfl rfl rfl (fun _ _ => rfl) (fun _ _ _ => rfl) rfl (fun _ _ => ?_)
 refine r_p (p_move rfl) rfl ?_
 refine r_p (p_extract rfl rfl) rfl ?_
 refine r_p (p_extract rfl rfl) rfl ?_
 refine r_p (p_assign rfl) rfl (r_p (p_assign rfl) rfl (r_nil (r_seq (r_region (r_p (p_move rfl) rfl (r_p (p_assign rfl) rfl (r_nil (r_cret ?_))))))))
 refine r_ret () trivial rfl (rs1 (rv_tmp rfl)) rfl [] [] rfl rfl rfl
set_option maxRecDepth 100000 in
theorem bi5_spec (a b : Int) (ha : 0 ≤ a ∧ a < 4294967296) (hb : 0 ≤ b ∧ b < 4294967296) :
  Spec Tryz.prog 68 [.int .u32 a, .int .u32 b] [] [] (X := Unit) (fun _ => True) (fun _ => .int .u32 (if b = 0 then a else a % b)) (fun _ => []) (fun _ => []) := by
 refine r_enter Tryz.func68 rfl Tryz.ntmps68 rfl fun w0 M H => ?_
 refine r_seq (r_region (r_p (p_assign rfl) rfl (r_nil (r_seq (r_region (r_p (p_move rfl) rfl (r_p (p_move rfl) rfl ?_)))))))
 refine r_call (xs := [.tmp 8, .tmp 9]) (divide_spec a b ha hb) cb67 [] [] [] [] rfl rfl rfl rfl rfl rfl rfl rfl (fun _ _ => rfl) (fun _ _ _ => rfl) rfl (fun _ _ => ?_)
 refine r_p (p_move rfl) rfl ?_
 refine r_p (p_extract rfl rfl) rfl ?_
 refine r_p (p_extract rfl rfl) rfl ?_
 refine r_p (p_assign rfl) rfl (r_p (p_assign rfl) rfl (r_nil (r_seq (r_region (r_p (p_move rfl) rfl (r_p (p_assign rfl) rfl (r_nil (r_cret ?_))))))))
 refine r_ret () trivial rfl (rs1 (rv_tmp rfl)) rfl [] [] rfl rfl rfl
set_option maxRecDepth 100000 in
theorem bi6_spec (a b : Int) (ha : 0 ≤ a ∧ a < 4294967296) (hb : 0 ≤ b ∧ b < 4294967296) :
  Spec Tryz.prog 69 [.int .u32 a, .int .u32 b] [] [] (X := Unit) (fun _ => True) (fun _ => .int .u32 (bits .and .u32 a b)) (fun _ => []) (fun _ => []) := by
 refine r_enter Tryz.func69 rfl Tryz.ntmps69 rfl fun w0 M H => ?_
 refine r_seq (r_region (r_p (p_assign rfl) rfl (r_nil (r_seq (r_region (r_p (p_move rfl) rfl (r_p (p_move rfl) rfl ?_)))))))
 refine r_p (p_bin rfl rfl (b_and rfl)) rfl ?_
 refine r_p (p_assign rfl) rfl (r_nil (r_cret ?_))
 refine r_ret () trivial rfl (rs1 (rv_tmp rfl)) rfl [] [] rfl rfl rfl
set_option maxRecDepth 100000 in
theorem bi7_spec (a b : Int) (ha : 0 ≤ a ∧ a < 4294967296) (hb : 0 ≤ b ∧ b < 4294967296) :
  Spec Tryz.prog 70 [.int .u32 a, .int .u32 b] [] [] (X := Unit) (fun _ => True) (fun _ => .int .u32 (bits .or .u32 a b)) (fun _ => []) (fun _ => []) := by
 refine r_enter Tryz.func70 rfl Tryz.ntmps70 rfl fun w0 M H => ?_
 refine r_seq (r_region (r_p (p_assign rfl) rfl (r_nil (r_seq (r_region (r_p (p_move rfl) rfl (r_p (p_move rfl) rfl ?_)))))))
 refine r_p (p_bin rfl rfl (b_or rfl)) rfl ?_
 refine r_p (p_assign rfl) rfl (r_nil (r_cret ?_))
 refine r_ret () trivial rfl (rs1 (rv_tmp rfl)) rfl [] [] rfl rfl rfl
set_option maxRecDepth 100000 in
theorem bi8_spec (a b : Int) (ha : 0 ≤ a ∧ a < 4294967296) (hb : 0 ≤ b ∧ b < 4294967296) :
  Spec Tryz.prog 71 [.int .u32 a, .int .u32 b] [] [] (X := Unit) (fun _ => True) (fun _ => .int .u32 (bits .xor .u32 a b)) (fun _ => []) (fun _ => []) := by
 refine r_enter Tryz.func71 rfl Tryz.ntmps71 rfl fun w0 M H => ?_
 refine r_seq (r_region (r_p (p_assign rfl) rfl (r_nil (r_seq (r_region (r_p (p_move rfl) rfl (r_p (p_move rfl) rfl ?_)))))))
 refine r_p (p_bin rfl rfl (b_xor rfl)) rfl ?_
 refine r_p (p_assign rfl) rfl (r_nil (r_cret ?_))
 refine r_ret () trivial rfl (rs1 (rv_tmp rfl)) rfl [] [] rfl rfl rfl
set_option maxRecDepth 100000 in
theorem bi9_spec (a b : Int) (ha : 0 ≤ a ∧ a < 4294967296) (hb : 0 ≤ b ∧ b < 4294967296) :
  Spec Tryz.prog 72 [.int .u32 a, .int .u32 b] [] [] (X := Unit) (fun _ => True) (fun _ => .int .u32 (wU (a * 2 ^ (b % 32).toNat))) (fun _ => []) (fun _ => []) := by
 refine r_enter Tryz.func72 rfl Tryz.ntmps72 rfl fun w0 M H => ?_
 refine r_seq (r_region (r_p (p_assign rfl) rfl (r_nil (r_seq (r_region (r_p (p_move rfl) rfl (r_p (p_move rfl) rfl ?_)))))))
 refine r_p (p_bin rfl rfl (b_rem (by omega) (by first | exact tmod_pos (by omega) | rfl))) rfl ?_
 refine r_p (p_bin rfl rfl (b_shl (by omega) (by first | decide | (simp [IntKind.bits]; omega)) rfl)) rfl ?_
 refine r_p (p_assign rfl) rfl (r_nil (r_cret ?_))
 refine r_ret () trivial rfl (rs1 (rv_tmp rfl)) rfl [] [] rfl rfl rfl
set_option maxRecDepth 100000 in
theorem bi10_spec (a b : Int) (ha : 0 ≤ a ∧ a < 4294967296) (hb : 0 ≤ b ∧ b < 4294967296) :
  Spec Tryz.prog 73 [.int .u32 a, .int .u32 b] [] [] (X := Unit) (fun _ => True) (fun _ => .int .u32 (a / 2 ^ (b % 32).toNat)) (fun _ => []) (fun _ => []) := by
 refine r_enter Tryz.func73 rfl Tryz.ntmps73 rfl fun w0 M H => ?_
 refine r_seq (r_region (r_p (p_assign rfl) rfl (r_nil (r_seq (r_region (r_p (p_move rfl) rfl (r_p (p_move rfl) rfl ?_)))))))
 refine r_p (p_bin rfl rfl (b_rem (by omega) (by first | exact tmod_pos (by omega) | rfl))) rfl ?_
 refine r_p (p_bin rfl rfl (b_shr (by omega) (by first | decide | (simp [IntKind.bits]; omega)) rfl)) rfl ?_
 refine r_p (p_assign rfl) rfl (r_nil (r_cret ?_))
 refine r_ret () trivial rfl (rs1 (rv_tmp rfl)) rfl [] [] rfl rfl rfl
set_option maxRecDepth 100000 in
theorem bi11_spec (a b : Int) (ha : 0 ≤ a ∧ a < 4294967296) (hb : 0 ≤ b ∧ b < 4294967296) :
  Spec Tryz.prog 74 [.int .u32 a, .int .u32 b] [] [] (X := Unit) (fun _ => True) (fun _ => .int .u32 (tr (decide (a < b)))) (fun _ => []) (fun _ => []) := by
 refine r_enter Tryz.func74 rfl Tryz.ntmps74 rfl fun w0 M H => ?_
 refine r_seq (r_region (r_p (p_assign rfl) rfl (r_nil (r_seq (r_region (r_p (p_move rfl) rfl (r_p (p_move rfl) rfl ?_)))))))
 refine r_p (p_bin rfl rfl b_lt) rfl ?_
 refine r_call (xs := [.tmp 7]) (truth_spec (decide (a < b))) cb62 [] [] [] [] rfl rfl rfl rfl rfl rfl rfl rfl (fun _ _ => rfl) (fun _ _ _ => rfl) rfl (fun _ _ => ?_)
 refine r_p (p_assign rfl) rfl (r_nil (r_cret ?_))
 refine r_ret () trivial rfl (rs1 (rv_tmp rfl)) rfl [] [] rfl rfl rfl
set_option maxRecDepth 100000 in
theorem bi12_spec (a b : Int) (ha : 0 ≤ a ∧ a < 4294967296) (hb : 0 ≤ b ∧ b < 4294967296) :
  Spec Tryz.prog 75 [.int .u32 a, .int .u32 b] [] [] (X := Unit) (fun _ => True) (fun _ => .int .u32 (tr (decide (a ≤ b)))) (fun _ => []) (fun _ => []) := by
 refine r_enter Tryz.func75 rfl Tryz.ntmps75 rfl fun w0 M H => ?_
 refine r_seq (r_region (r_p (p_assign rfl) rfl (r_nil (r_seq (r_region (r_p (p_move rfl) rfl (r_p (p_move rfl) rfl ?_)))))))
 refine r_p (p_bin rfl rfl b_le) rfl ?_
 refine r_call (xs := [.tmp 7]) (truth_spec (decide (a ≤ b))) cb62 [] [] [] [] rfl rfl rfl rfl rfl rfl rfl rfl (fun _ _ => rfl) (fun _ _ _ => rfl) rfl (fun _ _ => ?_)
 refine r_p (p_assign rfl) rfl (r_nil (r_cret ?_))
 refine r_ret () trivial rfl (rs1 (rv_tmp rfl)) rfl [] [] rfl rfl rfl
set_option maxRecDepth 100000 in
theorem bi13_spec (a b : Int) (ha : 0 ≤ a ∧ a < 4294967296) (hb : 0 ≤ b ∧ b < 4294967296) :
  Spec Tryz.prog 76 [.int .u32 a, .int .u32 b] [] [] (X := Unit) (fun _ => True) (fun _ => .int .u32 (tr (decide (a > b)))) (fun _ => []) (fun _ => []) := by
 refine r_enter Tryz.func76 rfl Tryz.ntmps76 rfl fun w0 M H => ?_
 refine r_seq (r_region (r_p (p_assign rfl) rfl (r_nil (r_seq (r_region (r_p (p_move rfl) rfl (r_p (p_move rfl) rfl ?_)))))))
 refine r_p (p_bin rfl rfl b_gt) rfl ?_
 refine r_call (xs := [.tmp 7]) (truth_spec (decide (a > b))) cb62 [] [] [] [] rfl rfl rfl rfl rfl rfl rfl rfl (fun _ _ => rfl) (fun _ _ _ => rfl) rfl (fun _ _ => ?_)
 refine r_p (p_assign rfl) rfl (r_nil (r_cret ?_))
 refine r_ret () trivial rfl (rs1 (rv_tmp rfl)) rfl [] [] rfl rfl rfl
set_option maxRecDepth 100000 in
theorem bi14_spec (a b : Int) (ha : 0 ≤ a ∧ a < 4294967296) (hb : 0 ≤ b ∧ b < 4294967296) :
  Spec Tryz.prog 77 [.int .u32 a, .int .u32 b] [] [] (X := Unit) (fun _ => True) (fun _ => .int .u32 (tr (decide (a ≥ b)))) (fun _ => []) (fun _ => []) := by
 refine r_enter Tryz.func77 rfl Tryz.ntmps77 rfl fun w0 M H => ?_
 refine r_seq (r_region (r_p (p_assign rfl) rfl (r_nil (r_seq (r_region (r_p (p_move rfl) rfl (r_p (p_move rfl) rfl ?_)))))))
 refine r_p (p_bin rfl rfl b_ge) rfl ?_
 refine r_call (xs := [.tmp 7]) (truth_spec (decide (a ≥ b))) cb62 [] [] [] [] rfl rfl rfl rfl rfl rfl rfl rfl (fun _ _ => rfl) (fun _ _ _ => rfl) rfl (fun _ _ => ?_)
 refine r_p (p_assign rfl) rfl (r_nil (r_cret ?_))
 refine r_ret () trivial rfl (rs1 (rv_tmp rfl)) rfl [] [] rfl rfl rfl
set_option maxRecDepth 100000 in
theorem bi15_spec (a b : Int) (ha : 0 ≤ a ∧ a < 4294967296) (hb : 0 ≤ b ∧ b < 4294967296) :
  Spec Tryz.prog 78 [.int .u32 a, .int .u32 b] [] [] (X := Unit) (fun _ => True) (fun _ => .int .u32 (tr (decide (a = b)))) (fun _ => []) (fun _ => []) := by
 refine r_enter Tryz.func78 rfl Tryz.ntmps78 rfl fun w0 M H => ?_
 refine r_seq (r_region (r_p (p_assign rfl) rfl (r_nil (r_seq (r_region (r_p (p_move rfl) rfl (r_p (p_move rfl) rfl ?_)))))))
 refine r_p (p_bin rfl rfl b_eq) rfl ?_
 refine r_call (xs := [.tmp 7]) (truth_spec (decide (a = b))) cb62 [] [] [] [] rfl rfl rfl rfl rfl rfl rfl rfl (fun _ _ => rfl) (fun _ _ _ => rfl) rfl (fun _ _ => ?_)
 refine r_p (p_assign rfl) rfl (r_nil (r_cret ?_))
 refine r_ret () trivial rfl (rs1 (rv_tmp rfl)) rfl [] [] rfl rfl rfl
set_option maxRecDepth 100000 in
theorem bi16_spec (a b : Int) (ha : 0 ≤ a ∧ a < 4294967296) (hb : 0 ≤ b ∧ b < 4294967296) :
  Spec Tryz.prog 79 [.int .u32 a, .int .u32 b] [] [] (X := Unit) (fun _ => True) (fun _ => .int .u32 (tr (!decide (a = b)))) (fun _ => []) (fun _ => []) := by
 refine r_enter Tryz.func79 rfl Tryz.ntmps79 rfl fun w0 M H => ?_
 refine r_seq (r_region (r_p (p_assign rfl) rfl (r_nil (r_seq (r_region (r_p (p_move rfl) rfl (r_p (p_move rfl) rfl ?_)))))))
 refine r_p (p_bin rfl rfl b_ne) rfl ?_
 refine r_call (xs := [.tmp 7]) (truth_spec (!decide (a = b))) cb62 [] [] [] [] rfl rfl rfl rfl rfl rfl rfl rfl (fun _ _ => rfl) (fun _ _ _ => rfl) rfl (fun _ _ => ?_)
 refine r_p (p_assign rfl) rfl (r_nil (r_cret ?_))
 refine r_ret () trivial rfl (rs1 (rv_tmp rfl)) rfl [] [] rfl rfl rfl
theorem keyS : KeyLaw Tryz.prog  9 mkS := key_str Tryz.underlying9
def vF (p : ByteArray × Nat) : Value := .func (.func p.2) #[] #[]
/-- The operators, with their functions. -/
def uL : List (ByteArray × Nat) := [(oNot, 61), (oCom, 60), (oSub, 59)]
def bL : List (ByteArray × Nat) := [(oNe, 79), (oEq, 78), (oGe, 77), (oGt, 76), (oLe, 75), (oLt, 74), (oShr, 73), (oShl, 72), (oXor, 71), (oOr, 70), (oAnd, 69), (oRem, 68), (oQuo, 66), (oMul, 65), (oSub, 64), (oAdd, 63)]
set_option maxRecDepth 100000 in
theorem unaries_spec  :
  Spec Tryz.prog 42 [] [] [] (X := Nat) (fun _ => True) (fun b => .map (some b)) (fun b => [mp mkS Prod.fst vF (some b) uL]) (fun _ => []) := by
 refine r_enter Tryz.func42 rfl Tryz.ntmps42 rfl fun w0 M H => ?_
 refine r_seq (r_region (r_p (p_assign rfl) rfl (r_nil (r_seq (r_region ?_)))))
 refine r_makeMap (Prod.fst : ByteArray × Nat → ByteArray) mkS vF rfl fun b1 => ?_
 refine r_insert (k := 1) (α := ByteArray × Nat) (kf := Prod.fst) (vf := vF) (oSub, 59) [(oSub, 59)] Tryz.underlying95 keyS rfl rfl rfl rfl (List.Perm.of_eq rfl) ?_
 refine r_insert (k := 1) (α := ByteArray × Nat) (kf := Prod.fst) (vf := vF) (oCom, 60) [(oCom, 60), (oSub, 59)] Tryz.underlying95 keyS rfl rfl rfl rfl (List.Perm.of_eq rfl) ?_
 refine r_insert (k := 1) (α := ByteArray × Nat) (kf := Prod.fst) (vf := vF) (oNot, 61) [(oNot, 61), (oCom, 60), (oSub, 59)] Tryz.underlying95 keyS rfl rfl rfl rfl (List.Perm.of_eq rfl) ?_
 refine r_p (p_move rfl) rfl (r_p (p_assign rfl) rfl (r_nil (r_cret ?_)))
 refine r_ret b1 trivial rfl (rs1 (rv_tmp rfl)) rfl [1] [] rfl rfl rfl
set_option maxHeartbeats 1000000 in
set_option maxRecDepth 100000 in
theorem binaries_spec  :
  Spec Tryz.prog 43 [] [] [] (X := Nat) (fun _ => True) (fun b => .map (some b)) (fun b => [mp mkS Prod.fst vF (some b) bL]) (fun _ => []) := by
 refine r_enter Tryz.func43 rfl Tryz.ntmps43 rfl fun w0 M H => ?_
 refine r_seq (r_region (r_p (p_assign rfl) rfl (r_nil (r_seq (r_region ?_)))))
 refine r_makeMap (Prod.fst : ByteArray × Nat → ByteArray) mkS vF rfl fun b1 => ?_
 refine r_insert (k := 1) (α := ByteArray × Nat) (kf := Prod.fst) (vf := vF) (oAdd, 63) [(oAdd, 63)] Tryz.underlying97 keyS rfl rfl rfl rfl (List.Perm.of_eq rfl) ?_
 refine r_insert (k := 1) (α := ByteArray × Nat) (kf := Prod.fst) (vf := vF) (oSub, 64) [(oSub, 64), (oAdd, 63)] Tryz.underlying97 keyS rfl rfl rfl rfl (List.Perm.of_eq rfl) ?_
 refine r_insert (k := 1) (α := ByteArray × Nat) (kf := Prod.fst) (vf := vF) (oMul, 65) [(oMul, 65), (oSub, 64), (oAdd, 63)] Tryz.underlying97 keyS rfl rfl rfl rfl (List.Perm.of_eq rfl) ?_
 refine r_insert (k := 1) (α := ByteArray × Nat) (kf := Prod.fst) (vf := vF) (oQuo, 66) [(oQuo, 66), (oMul, 65), (oSub, 64), (oAdd, 63)] Tryz.underlying97 keyS rfl rfl rfl rfl (List.Perm.of_eq rfl) ?_
 refine r_insert (k := 1) (α := ByteArray × Nat) (kf := Prod.fst) (vf := vF) (oRem, 68) [(oRem, 68), (oQuo, 66), (oMul, 65), (oSub, 64), (oAdd, 63)] Tryz.underlying97 keyS rfl rfl rfl rfl (List.Perm.of_eq rfl) ?_
 refine r_insert (k := 1) (α := ByteArray × Nat) (kf := Prod.fst) (vf := vF) (oAnd, 69) [(oAnd, 69), (oRem, 68), (oQuo, 66), (oMul, 65), (oSub, 64), (oAdd, 63)] Tryz.underlying97 keyS rfl rfl rfl rfl (List.Perm.of_eq rfl) ?_
 refine r_insert (k := 1) (α := ByteArray × Nat) (kf := Prod.fst) (vf := vF) (oOr, 70) [(oOr, 70), (oAnd, 69), (oRem, 68), (oQuo, 66), (oMul, 65), (oSub, 64), (oAdd, 63)] Tryz.underlying97 keyS rfl rfl rfl rfl (List.Perm.of_eq rfl) ?_
 refine r_insert (k := 1) (α := ByteArray × Nat) (kf := Prod.fst) (vf := vF) (oXor, 71) [(oXor, 71), (oOr, 70), (oAnd, 69), (oRem, 68), (oQuo, 66), (oMul, 65), (oSub, 64), (oAdd, 63)] Tryz.underlying97 keyS rfl rfl rfl rfl (List.Perm.of_eq rfl) ?_
 refine r_insert (k := 1) (α := ByteArray × Nat) (kf := Prod.fst) (vf := vF) (oShl, 72) [(oShl, 72), (oXor, 71), (oOr, 70), (oAnd, 69), (oRem, 68), (oQuo, 66), (oMul, 65), (oSub, 64), (oAdd, 63)] Tryz.underlying97 keyS rfl rfl rfl rfl (List.Perm.of_eq rfl) ?_
 refine r_insert (k := 1) (α := ByteArray × Nat) (kf := Prod.fst) (vf := vF) (oShr, 73) [(oShr, 73), (oShl, 72), (oXor, 71), (oOr, 70), (oAnd, 69), (oRem, 68), (oQuo, 66), (oMul, 65), (oSub, 64), (oAdd, 63)] Tryz.underlying97 keyS rfl rfl rfl rfl (List.Perm.of_eq rfl) ?_
 refine r_insert (k := 1) (α := ByteArray × Nat) (kf := Prod.fst) (vf := vF) (oLt, 74) [(oLt, 74), (oShr, 73), (oShl, 72), (oXor, 71), (oOr, 70), (oAnd, 69), (oRem, 68), (oQuo, 66), (oMul, 65), (oSub, 64), (oAdd, 63)] Tryz.underlying97 keyS rfl rfl rfl rfl (List.Perm.of_eq rfl) ?_
 refine r_insert (k := 1) (α := ByteArray × Nat) (kf := Prod.fst) (vf := vF) (oLe, 75) [(oLe, 75), (oLt, 74), (oShr, 73), (oShl, 72), (oXor, 71), (oOr, 70), (oAnd, 69), (oRem, 68), (oQuo, 66), (oMul, 65), (oSub, 64), (oAdd, 63)] Tryz.underlying97 keyS rfl rfl rfl rfl (List.Perm.of_eq rfl) ?_
 refine r_insert (k := 1) (α := ByteArray × Nat) (kf := Prod.fst) (vf := vF) (oGt, 76) [(oGt, 76), (oLe, 75), (oLt, 74), (oShr, 73), (oShl, 72), (oXor, 71), (oOr, 70), (oAnd, 69), (oRem, 68), (oQuo, 66), (oMul, 65), (oSub, 64), (oAdd, 63)] Tryz.underlying97 keyS rfl rfl rfl rfl (List.Perm.of_eq rfl) ?_
 refine r_insert (k := 1) (α := ByteArray × Nat) (kf := Prod.fst) (vf := vF) (oGe, 77) [(oGe, 77), (oGt, 76), (oLe, 75), (oLt, 74), (oShr, 73), (oShl, 72), (oXor, 71), (oOr, 70), (oAnd, 69), (oRem, 68), (oQuo, 66), (oMul, 65), (oSub, 64), (oAdd, 63)] Tryz.underlying97 keyS rfl rfl rfl rfl (List.Perm.of_eq rfl) ?_
 refine r_insert (k := 1) (α := ByteArray × Nat) (kf := Prod.fst) (vf := vF) (oEq, 78) [(oEq, 78), (oGe, 77), (oGt, 76), (oLe, 75), (oLt, 74), (oShr, 73), (oShl, 72), (oXor, 71), (oOr, 70), (oAnd, 69), (oRem, 68), (oQuo, 66), (oMul, 65), (oSub, 64), (oAdd, 63)] Tryz.underlying97 keyS rfl rfl rfl rfl (List.Perm.of_eq rfl) ?_
 refine r_insert (k := 1) (α := ByteArray × Nat) (kf := Prod.fst) (vf := vF) (oNe, 79) [(oNe, 79), (oEq, 78), (oGe, 77), (oGt, 76), (oLe, 75), (oLt, 74), (oShr, 73), (oShl, 72), (oXor, 71), (oOr, 70), (oAnd, 69), (oRem, 68), (oQuo, 66), (oMul, 65), (oSub, 64), (oAdd, 63)] Tryz.underlying97 keyS rfl rfl rfl rfl (List.Perm.of_eq rfl) ?_
 refine r_p (p_move rfl) rfl (r_p (p_assign rfl) rfl (r_nil (r_cret ?_)))
 refine r_ret b1 trivial rfl (rs1 (rv_tmp rfl)) rfl [1] [] rfl rfl rfl
/-- An operator, and its function. -/
def UnLaw (op : ByteArray) (a : Int) : Prop := match unF op a with
 | none => uL.find? (fun x => decide (Prod.fst x = op)) = none
 | some u => ∃ p, uL.find? (fun x => decide (Prod.fst x = op)) = some p ∧ Cb Tryz.prog p.2 ∧ Spec Tryz.prog p.2 [.int .u32 a] [] [] (X := Unit) (fun _ => True) (fun _ => .int .u32 u) (fun _ => []) (fun _ => [])
theorem UnLaw_all (op : ByteArray) (a : Int) (ha : 0 ≤ a ∧ a < 4294967296) : UnLaw op a := by
 by_cases h0 : op = oSub
 ·subst h0
  exact ⟨(oSub, 59), rfl, cb59, un1_spec a ha⟩
 by_cases h1 : op = oCom
 ·subst h1
  exact ⟨(oCom, 60), rfl, cb60, un2_spec a ha⟩
 by_cases h2 : op = oNot
 ·subst h2
  exact ⟨(oNot, 61), rfl, cb61, un3_spec a ha⟩
 unfold UnLaw unF
 rw [if_neg h0, if_neg h1, if_neg h2]
 show uL.find? _ = none
 rw [List.find?_eq_none]
 intro x hx
 simp only [uL, List.mem_cons, List.not_mem_nil, or_false] at hx
 rcases hx with rfl | rfl | rfl
 ·simpa using fun e => h2 e.symm
 ·simpa using fun e => h1 e.symm
 ·simpa using fun e => h0 e.symm
/-- An operator, and its function. -/
def BiLaw (op : ByteArray) (a b : Int) : Prop := match biF op a b with
 | none => bL.find? (fun x => decide (Prod.fst x = op)) = none
 | some u => ∃ p, bL.find? (fun x => decide (Prod.fst x = op)) = some p ∧ Cb Tryz.prog p.2 ∧ Spec Tryz.prog p.2 [.int .u32 a, .int .u32 b] [] [] (X := Unit) (fun _ => True) (fun _ => .int .u32 u) (fun _ => []) (fun _ => [])
theorem BiLaw_all (op : ByteArray) (a b : Int) (ha : 0 ≤ a ∧ a < 4294967296) (hb : 0 ≤ b ∧ b < 4294967296) : BiLaw op a b := by
 by_cases h0 : op = oAdd
 ·subst h0
  exact ⟨(oAdd, 63), rfl, cb63, bi1_spec a b ha hb⟩
 by_cases h1 : op = oSub
 ·subst h1
  exact ⟨(oSub, 64), rfl, cb64, bi2_spec a b ha hb⟩
 by_cases h2 : op = oMul
 ·subst h2
  exact ⟨(oMul, 65), rfl, cb65, bi3_spec a b ha hb⟩
 by_cases h3 : op = oQuo
 ·subst h3
  exact ⟨(oQuo, 66), rfl, cb66, bi4_spec a b ha hb⟩
 by_cases h4 : op = oRem
 ·subst h4
  exact ⟨(oRem, 68), rfl, cb68, bi5_spec a b ha hb⟩
 by_cases h5 : op = oAnd
 ·subst h5
  exact ⟨(oAnd, 69), rfl, cb69, bi6_spec a b ha hb⟩
 by_cases h6 : op = oOr
 ·subst h6
  exact ⟨(oOr, 70), rfl, cb70, bi7_spec a b ha hb⟩
 by_cases h7 : op = oXor
 ·subst h7
  exact ⟨(oXor, 71), rfl, cb71, bi8_spec a b ha hb⟩
 by_cases h8 : op = oShl
 ·subst h8
  exact ⟨(oShl, 72), rfl, cb72, bi9_spec a b ha hb⟩
 by_cases h9 : op = oShr
 ·subst h9
  exact ⟨(oShr, 73), rfl, cb73, bi10_spec a b ha hb⟩
 by_cases h10 : op = oLt
 ·subst h10
  exact ⟨(oLt, 74), rfl, cb74, bi11_spec a b ha hb⟩
 by_cases h11 : op = oLe
 ·subst h11
  exact ⟨(oLe, 75), rfl, cb75, bi12_spec a b ha hb⟩
 by_cases h12 : op = oGt
 ·subst h12
  exact ⟨(oGt, 76), rfl, cb76, bi13_spec a b ha hb⟩
 by_cases h13 : op = oGe
 ·subst h13
  exact ⟨(oGe, 77), rfl, cb77, bi14_spec a b ha hb⟩
 by_cases h14 : op = oEq
 ·subst h14
  exact ⟨(oEq, 78), rfl, cb78, bi15_spec a b ha hb⟩
 by_cases h15 : op = oNe
 ·subst h15
  exact ⟨(oNe, 79), rfl, cb79, bi16_spec a b ha hb⟩
 unfold BiLaw biF
 rw [if_neg h0, if_neg h1, if_neg h2, if_neg h3, if_neg h4, if_neg h5, if_neg h6, if_neg h7, if_neg h8, if_neg h9, if_neg h10, if_neg h11, if_neg h12, if_neg h13, if_neg h14, if_neg h15]
 show bL.find? _ = none
 rw [List.find?_eq_none]
 intro x hx
 simp only [bL, List.mem_cons, List.not_mem_nil, or_false] at hx
 rcases hx with rfl | rfl | rfl | rfl | rfl | rfl | rfl | rfl | rfl | rfl | rfl | rfl | rfl | rfl | rfl | rfl
 ·simpa using fun e => h15 e.symm
 ·simpa using fun e => h14 e.symm
 ·simpa using fun e => h13 e.symm
 ·simpa using fun e => h12 e.symm
 ·simpa using fun e => h11 e.symm
 ·simpa using fun e => h10 e.symm
 ·simpa using fun e => h9 e.symm
 ·simpa using fun e => h8 e.symm
 ·simpa using fun e => h7 e.symm
 ·simpa using fun e => h6 e.symm
 ·simpa using fun e => h5 e.symm
 ·simpa using fun e => h4 e.symm
 ·simpa using fun e => h3 e.symm
 ·simpa using fun e => h2 e.symm
 ·simpa using fun e => h1 e.symm
 ·simpa using fun e => h0 e.symm
set_option maxRecDepth 100000 in
theorem unary_none (op : ByteArray) (a : Int) (hf : uL.find? (fun x => decide (Prod.fst x = op)) = none) :
  Spec Tryz.prog 29 [.string op, .int .u32 a] [] [] (X := Unit) (fun _ => True) (fun _ => .tuple #[.int .u32 0, .bool false]) (fun _ => []) (fun _ => []) := by
 refine r_enter Tryz.func29 rfl Tryz.ntmps29 rfl fun w0 M H => ?_
 refine r_seq (r_region (r_p (p_assign rfl) rfl (r_p (p_assign rfl) rfl (r_nil (r_seq (r_region ?_))))))
 refine r_call (xs := []) unaries_spec cb42 [] [] [60] [] rfl rfl rfl rfl rfl rfl rfl rfl (fun _ _ => rfl) (fun _ _ _ => rfl) rfl (fun bm _ => ?_)
 refine r_p (p_move rfl) rfl ?_
 refine r_p (p_lookup Tryz.underlying95 keyS t113 rfl rfl (hm_own (k := 60) rfl) hf) rfl ?_
 refine r_p (p_move rfl) rfl ?_
 refine r_p (p_extract rfl rfl) rfl ?_
 refine r_p (p_extract rfl rfl) rfl ?_
 refine r_p (p_assign rfl) rfl (r_p (p_assign rfl) rfl (r_nil (r_seq (r_seq (r_region (r_p (p_move rfl) rfl ?_))))))
 refine r_p (p_not rfl) rfl ?_
 refine r_nil ?_
 refine r_cond rfl (fun h1 => ?_) (fun h1 => ?_)
 ·(try simp only [decide_eq_true_eq, decide_eq_false_iff_not, Bool.and_eq_true, Bool.or_eq_true, Bool.and_eq_false_iff, Bool.or_eq_false_iff, Bool.not_eq_true, Bool.not_eq_false, Bool.not_eq_true', Bool.not_eq_false', Bool.not_not, bne_iff_ne, beq_iff_eq] at h1)
  refine r_seq (r_region (r_p (p_assign rfl) rfl (r_p (p_assign rfl) rfl (r_nil (r_cret ?_)))))
  refine r_ret () trivial rfl (rs2 (rv_tmp rfl) (rv_tmp rfl)) rfl [] [] rfl rfl rfl
 ·exact absurd h1 (by simp)
set_option maxRecDepth 100000 in
theorem unary_some (op : ByteArray) (a : Int) (p : ByteArray × Nat) (u : Int) (hf : uL.find? (fun x => decide (Prod.fst x = op)) = some p) (hcb : Cb Tryz.prog p.2) (hs : Spec Tryz.prog p.2 [.int .u32 a] [] [] (X := Unit) (fun _ => True) (fun _ => .int .u32 u) (fun _ => []) (fun _ => [])) :
  Spec Tryz.prog 29 [.string op, .int .u32 a] [] [] (X := Unit) (fun _ => True) (fun _ => .tuple #[.int .u32 u, .bool true]) (fun _ => []) (fun _ => []) := by
 refine r_enter Tryz.func29 rfl Tryz.ntmps29 rfl fun w0 M H => ?_
 refine r_seq (r_region (r_p (p_assign rfl) rfl (r_p (p_assign rfl) rfl (r_nil (r_seq (r_region ?_))))))
 refine r_call (xs := []) unaries_spec cb42 [] [] [60] [] rfl rfl rfl rfl rfl rfl rfl rfl (fun _ _ => rfl) (fun _ _ _ => rfl) rfl (fun bm _ => ?_)
 refine r_p (p_move rfl) rfl ?_
 refine r_p (p_lookup Tryz.underlying95 keyS t113 rfl rfl (hm_own (k := 60) rfl) hf) rfl ?_
 refine r_p (p_move rfl) rfl ?_
 refine r_p (p_extract rfl rfl) rfl ?_
 refine r_p (p_extract rfl rfl) rfl ?_
 refine r_p (p_assign rfl) rfl (r_p (p_assign rfl) rfl (r_nil (r_seq (r_seq (r_region (r_p (p_move rfl) rfl ?_))))))
 refine r_p (p_not rfl) rfl ?_
 refine r_nil ?_
 refine r_cond rfl (fun h1 => ?_) (fun h1 => ?_)
 ·exact absurd h1 (by simp)
 ·(try simp only [decide_eq_true_eq, decide_eq_false_iff_not, Bool.and_eq_true, Bool.or_eq_true, Bool.and_eq_false_iff, Bool.or_eq_false_iff, Bool.not_eq_true, Bool.not_eq_false, Bool.not_eq_true', Bool.not_eq_false', Bool.not_not, bne_iff_ne, beq_iff_eq] at h1)
  refine r_skip (r_seq (r_region (r_p (p_move rfl) rfl (r_p (p_move rfl) rfl ?_))))
  refine r_call (xs := [.tmp 17]) hs hcb [] [] [] [] rfl rfl rfl rfl rfl rfl rfl rfl (fun _ _ => rfl) (fun _ _ _ => rfl) rfl (fun _ _ => ?_)
  refine r_p (p_assign rfl) rfl (r_p (p_assign rfl) rfl (r_nil (r_cret ?_)))
  refine r_ret () trivial rfl (rs2 (rv_tmp rfl) (rv_tmp rfl)) rfl [] [] rfl rfl rfl
theorem unary_spec (op : ByteArray) (a : Int) (ha : 0 ≤ a ∧ a < 4294967296) : Spec Tryz.prog 29 [.string op, .int .u32 a] [] [] (X := Unit) (fun _ => True) (fun _ => .tuple #[.int .u32 ((unF op a).getD 0), .bool (unF op a).isSome]) (fun _ => []) (fun _ => []) := by
 have h := UnLaw_all op a ha
 unfold UnLaw at h
 cases hu : unF op a with
 | none =>
  rw [hu] at h
  exact unary_none op a h
 | some u =>
  rw [hu] at h
  obtain ⟨p, h1, h2, h3⟩ := h
  exact unary_some op a p u h1 h2 h3
set_option maxRecDepth 100000 in
theorem binary_none (op : ByteArray) (a b : Int) (hf : bL.find? (fun x => decide (Prod.fst x = op)) = none) :
  Spec Tryz.prog 28 [.string op, .int .u32 a, .int .u32 b] [] [] (X := Unit) (fun _ => True) (fun _ => .tuple #[.int .u32 0, .bool false]) (fun _ => []) (fun _ => []) := by
 refine r_enter Tryz.func28 rfl Tryz.ntmps28 rfl fun w0 M H => ?_
 refine r_seq (r_region (r_p (p_assign rfl) rfl (r_p (p_assign rfl) rfl (r_nil (r_seq (r_region ?_))))))
 refine r_call (xs := []) binaries_spec cb43 [] [] [60] [] rfl rfl rfl rfl rfl rfl rfl rfl (fun _ _ => rfl) (fun _ _ _ => rfl) rfl (fun bm _ => ?_)
 refine r_p (p_move rfl) rfl ?_
 refine r_p (p_lookup Tryz.underlying97 keyS t111 rfl rfl (hm_own (k := 60) rfl) hf) rfl ?_
 refine r_p (p_move rfl) rfl ?_
 refine r_p (p_extract rfl rfl) rfl ?_
 refine r_p (p_extract rfl rfl) rfl ?_
 refine r_p (p_assign rfl) rfl (r_p (p_assign rfl) rfl (r_nil (r_seq (r_seq (r_region (r_p (p_move rfl) rfl ?_))))))
 refine r_p (p_not rfl) rfl ?_
 refine r_nil ?_
 refine r_cond rfl (fun h1 => ?_) (fun h1 => ?_)
 ·(try simp only [decide_eq_true_eq, decide_eq_false_iff_not, Bool.and_eq_true, Bool.or_eq_true, Bool.and_eq_false_iff, Bool.or_eq_false_iff, Bool.not_eq_true, Bool.not_eq_false, Bool.not_eq_true', Bool.not_eq_false', Bool.not_not, bne_iff_ne, beq_iff_eq] at h1)
  refine r_seq (r_region (r_p (p_assign rfl) rfl (r_p (p_assign rfl) rfl (r_nil (r_cret ?_)))))
  refine r_ret () trivial rfl (rs2 (rv_tmp rfl) (rv_tmp rfl)) rfl [] [] rfl rfl rfl
 ·exact absurd h1 (by simp)
set_option maxRecDepth 100000 in
theorem binary_some (op : ByteArray) (a b : Int) (p : ByteArray × Nat) (u : Int) (hf : bL.find? (fun x => decide (Prod.fst x = op)) = some p) (hcb : Cb Tryz.prog p.2) (hs : Spec Tryz.prog p.2 [.int .u32 a, .int .u32 b] [] [] (X := Unit) (fun _ => True) (fun _ => .int .u32 u) (fun _ => []) (fun _ => [])) :
  Spec Tryz.prog 28 [.string op, .int .u32 a, .int .u32 b] [] [] (X := Unit) (fun _ => True) (fun _ => .tuple #[.int .u32 u, .bool true]) (fun _ => []) (fun _ => []) := by
 refine r_enter Tryz.func28 rfl Tryz.ntmps28 rfl fun w0 M H => ?_
 refine r_seq (r_region (r_p (p_assign rfl) rfl (r_p (p_assign rfl) rfl (r_nil (r_seq (r_region ?_))))))
 refine r_call (xs := []) binaries_spec cb43 [] [] [60] [] rfl rfl rfl rfl rfl rfl rfl rfl (fun _ _ => rfl) (fun _ _ _ => rfl) rfl (fun bm _ => ?_)
 refine r_p (p_move rfl) rfl ?_
 refine r_p (p_lookup Tryz.underlying97 keyS t111 rfl rfl (hm_own (k := 60) rfl) hf) rfl ?_
 refine r_p (p_move rfl) rfl ?_
 refine r_p (p_extract rfl rfl) rfl ?_
 refine r_p (p_extract rfl rfl) rfl ?_
 refine r_p (p_assign rfl) rfl (r_p (p_assign rfl) rfl (r_nil (r_seq (r_seq (r_region (r_p (p_move rfl) rfl ?_))))))
 refine r_p (p_not rfl) rfl ?_
 refine r_nil ?_
 refine r_cond rfl (fun h1 => ?_) (fun h1 => ?_)
 ·exact absurd h1 (by simp)
 ·(try simp only [decide_eq_true_eq, decide_eq_false_iff_not, Bool.and_eq_true, Bool.or_eq_true, Bool.and_eq_false_iff, Bool.or_eq_false_iff, Bool.not_eq_true, Bool.not_eq_false, Bool.not_eq_true', Bool.not_eq_false', Bool.not_not, bne_iff_ne, beq_iff_eq] at h1)
  refine r_skip (r_seq (r_region (r_p (p_move rfl) rfl (r_p (p_move rfl) rfl (r_p (p_move rfl) rfl ?_)))))
  refine r_call (xs := [.tmp 19, .tmp 20]) hs hcb [] [] [] [] rfl rfl rfl rfl rfl rfl rfl rfl (fun _ _ => rfl) (fun _ _ _ => rfl) rfl (fun _ _ => ?_)
  refine r_p (p_assign rfl) rfl (r_p (p_assign rfl) rfl (r_nil (r_cret ?_)))
  refine r_ret () trivial rfl (rs2 (rv_tmp rfl) (rv_tmp rfl)) rfl [] [] rfl rfl rfl
theorem binary_spec (op : ByteArray) (a b : Int) (ha : 0 ≤ a ∧ a < 4294967296) (hb : 0 ≤ b ∧ b < 4294967296) : Spec Tryz.prog 28 [.string op, .int .u32 a, .int .u32 b] [] [] (X := Unit) (fun _ => True) (fun _ => .tuple #[.int .u32 ((biF op a b).getD 0), .bool (biF op a b).isSome]) (fun _ => []) (fun _ => []) := by
 have h := BiLaw_all op a b ha hb
 unfold BiLaw at h
 cases hu : biF op a b with
 | none =>
  rw [hu] at h
  exact binary_none op a b h
 | some u =>
  rw [hu] at h
  obtain ⟨p, h1, h2, h3⟩ := h
  exact binary_some op a b p u h1 h2 h3
theorem and31 {b : Int} (hb : 0 ≤ b ∧ b < 4294967296) : bits .and .u32 b 31 = b % 32 := by
 have h1 : bits .and .u32 b 31 = IntKind.u32.wrap (((BitVec.ofInt 32 b &&& BitVec.ofInt 32 31).toNat : Nat) : Int) := rfl
 have h2 : (BitVec.ofInt 32 b).toNat = b.toNat := by
  rw [BitVec.toNat_ofInt, Int.emod_eq_of_lt hb.1 (by omega)]
 have h3 : (BitVec.ofInt 32 31).toNat = 2 ^ 5 - 1 := by decide
 rw [h1, BitVec.toNat_and, h2, h3, Nat.and_two_pow_sub_one_eq_mod, w_u32 (by omega) (by omega)]
 omega
set_option maxRecDepth 100000 in
theorem bit_spec (b : Bool) :
  Spec Tryz.prog 135 [.bool b] [] [] (X := Unit) (fun _ => True) (fun _ => .agg #[.int .u32 (tr b), .bool true]) (fun _ => []) (fun _ => []) := by
 refine r_enter Tryz.func135 rfl Tryz.ntmps135 rfl fun w0 M H => ?_
 refine r_seq (r_region ?_)
 refine r_alloc t171 rfl rfl fun b2 => ?_
 refine r_nil (r_seq (r_seq (r_region (r_p (p_move rfl) rfl (r_nil ?_)))))
 refine r_cond rfl (fun h1 => ?_) (fun h1 => ?_)
 ·have hq := h1
  refine r_seq (r_region ?_)
  refine r_p (p_build (parts := [(0, .const (.int .u32 1)), (1, .const (.bool Bool.true))]) t171 pl171 rfl rfl) rfl ?_
  refine r_store_all (k := 2) t171 rfl rfl rfl rfl rfl rfl ?_
  refine r_nil (r_cret ?_)
  refine r_ret () trivial rfl (rs1 (rv_cellA t171 rfl rfl rfl (g_all (k := 2) rfl))) (by rw [hq]; rfl) [] [] rfl rfl rfl
 ·have hq := h1
  refine r_skip (r_seq (r_region ?_))
  refine r_p (p_build (parts := [(0, .const (.int .u32 0)), (1, .const (.bool Bool.true))]) t171 pl171 rfl rfl) rfl ?_
  refine r_store_all (k := 2) t171 rfl rfl rfl rfl rfl rfl ?_
  refine r_nil (r_cret ?_)
  refine r_ret () trivial rfl (rs1 (rv_cellA t171 rfl rfl rfl (g_all (k := 2) rfl))) (by rw [hq]; rfl) [] [] rfl rfl rfl
/-- What an operator of the reference gives. -/
def vO (o : Option Int) : Value := match o with
 | some u => .agg #[.int .u32 u, .bool true]
 | none => .agg #[.int .u32 0, .bool false]
set_option maxRecDepth 100000 in
theorem runary_spec (op : ByteArray) (a : Int) (ha : 0 ≤ a ∧ a < 4294967296) :
  Spec Tryz.prog 130 [.string op, .int .u32 a] [] [] (X := Unit) (fun _ => True) (fun _ => vO (unF op a)) (fun _ => []) (fun _ => []) := by
 refine r_enter Tryz.func130 rfl Tryz.ntmps130 rfl fun w0 M H => ?_
 refine r_seq (r_region ?_)
 refine r_alloc t171 rfl rfl fun b4 => ?_
 refine r_nil (r_seq (r_seq (r_region (r_p (p_move rfl) rfl (r_nil (r_block (r_seq (r_region ?_))))))))
 refine r_p (p_bin rfl rfl b_seq) rfl ?_
 refine r_p (p_assign rfl) rfl (r_nil ?_)
 refine r_cond rfl (fun h1 => ?_) (fun h1 => ?_)
 ·have hoSub : op = oSub := by rw [ba_eq] at h1; exact of_decide_eq_true h1
  refine r_seq (r_region (r_p (p_move rfl) rfl ?_))
  refine r_p (p_bin rfl rfl (b_sub (c := wU (-a)) (by rw [Int.zero_sub]; rfl))) rfl ?_
  refine r_p (p_build (parts := [(0, .tmp 9), (1, .const (.bool Bool.true))]) t171 pl171 rfl rfl) rfl ?_
  refine r_store_all (k := 4) t171 rfl rfl rfl rfl rfl rfl ?_
  refine r_nil (r_cret ?_)
  refine r_ret () trivial rfl (rs1 (rv_cellA t171 rfl rfl rfl (g_all (k := 4) rfl))) (by unfold unF; rw [if_pos hoSub]; rfl) [] [] rfl rfl rfl
 ·have hoSub : ¬ op = oSub := by rw [ba_eq] at h1; exact of_decide_eq_false h1
  refine r_seq (r_region ?_)
  refine r_p (p_bin rfl rfl b_seq) rfl ?_
  refine r_p (p_assign rfl) rfl (r_nil ?_)
  refine r_cond rfl (fun h2 => ?_) (fun h2 => ?_)
  ·have hoCom : op = oCom := by rw [ba_eq] at h2; exact of_decide_eq_true h2
   refine r_seq (r_region (r_p (p_move rfl) rfl ?_))
   refine r_p (p_bin rfl rfl (b_sub (by first | exact w_u32 (by omega) (by omega) | rfl))) rfl ?_
   refine r_p (p_build (parts := [(0, .tmp 14), (1, .const (.bool Bool.true))]) t171 pl171 rfl rfl) rfl ?_
   refine r_store_all (k := 4) t171 rfl rfl rfl rfl rfl rfl ?_
   refine r_nil (r_cret ?_)
   refine r_ret () trivial rfl (rs1 (rv_cellA t171 rfl rfl rfl (g_all (k := 4) rfl))) (by unfold unF; rw [if_neg hoSub, if_pos hoCom]; rfl) [] [] rfl rfl rfl
  ·have hoCom : ¬ op = oCom := by rw [ba_eq] at h2; exact of_decide_eq_false h2
   refine r_seq (r_region ?_)
   refine r_p (p_bin rfl rfl b_seq) rfl ?_
   refine r_p (p_assign rfl) rfl (r_nil ?_)
   refine r_cond rfl (fun h3 => ?_) (fun h3 => ?_)
   ·have hoNot : op = oNot := by rw [ba_eq] at h3; exact of_decide_eq_true h3
    refine r_seq (r_region (r_p (p_move rfl) rfl ?_))
    refine r_p (p_bin rfl rfl b_eq) rfl ?_
    refine r_call (xs := [.tmp 19]) (bit_spec (decide (a = 0))) cb135 [] [] [] [] rfl rfl rfl rfl rfl rfl rfl rfl (fun _ _ => rfl) (fun _ _ _ => rfl) rfl (fun _ _ => ?_)
    refine r_store_all (k := 4) t171 rfl rfl rfl rfl rfl rfl ?_
    refine r_nil (r_cret ?_)
    refine r_ret () trivial rfl (rs1 (rv_cellA t171 rfl rfl rfl (g_all (k := 4) rfl))) (by unfold unF; rw [if_neg hoSub, if_neg hoCom, if_pos hoNot]; rfl) [] [] rfl rfl rfl
   ·have hoNot : ¬ op = oNot := by rw [ba_eq] at h3; exact of_decide_eq_false h3
    refine r_skip (r_seq (r_region ?_))
    refine r_p (p_build (parts := []) t171 pl171 rfl rfl) rfl ?_
    refine r_store_all (k := 4) t171 rfl rfl rfl rfl rfl rfl ?_
    refine r_nil (r_cret ?_)
    refine r_ret () trivial rfl (rs1 (rv_cellA t171 rfl rfl rfl (g_all (k := 4) rfl))) (by unfold unF; rw [if_neg hoSub, if_neg hoCom, if_neg hoNot]; rfl) [] [] rfl rfl rfl
set_option maxHeartbeats 2000000 in
set_option maxRecDepth 100000 in
theorem rbinary_spec (op : ByteArray) (a b : Int) (ha : 0 ≤ a ∧ a < 4294967296) (hb : 0 ≤ b ∧ b < 4294967296) :
  Spec Tryz.prog 131 [.string op, .int .u32 a, .int .u32 b] [] [] (X := Unit) (fun _ => True) (fun _ => vO (biF op a b)) (fun _ => []) (fun _ => []) := by
 refine r_enter Tryz.func131 rfl Tryz.ntmps131 rfl fun w0 M H => ?_
 refine r_seq (r_region ?_)
 refine r_alloc t171 rfl rfl fun b6 => ?_
 refine r_nil (r_seq (r_seq (r_region (r_p (p_move rfl) rfl (r_nil (r_block (r_seq (r_region ?_))))))))
 refine r_p (p_bin rfl rfl b_seq) rfl ?_
 refine r_p (p_assign rfl) rfl (r_nil ?_)
 refine r_cond rfl (fun h1 => ?_) (fun h1 => ?_)
 ·have hoAdd : op = oAdd := by rw [ba_eq] at h1; exact of_decide_eq_true h1
  refine r_seq (r_region (r_p (p_move rfl) rfl (r_p (p_move rfl) rfl ?_)))
  refine r_p (p_bin rfl rfl (b_add rfl)) rfl ?_
  refine r_p (p_build (parts := [(0, .tmp 12), (1, .const (.bool Bool.true))]) t171 pl171 rfl rfl) rfl ?_
  refine r_store_all (k := 6) t171 rfl rfl rfl rfl rfl rfl ?_
  refine r_nil (r_cret ?_)
  refine r_ret () trivial rfl (rs1 (rv_cellA t171 rfl rfl rfl (g_all (k := 6) rfl))) (by unfold biF; rw [if_pos hoAdd]; first | rfl | (rw [if_pos hz]; rfl) | (rw [if_neg hz]; rfl)) [] [] rfl rfl rfl
 ·have hoAdd : ¬ op = oAdd := by rw [ba_eq] at h1; exact of_decide_eq_false h1
  refine r_seq (r_region ?_)
  refine r_p (p_bin rfl rfl b_seq) rfl ?_
  refine r_p (p_assign rfl) rfl (r_nil ?_)
  refine r_cond rfl (fun h2 => ?_) (fun h2 => ?_)
  ·have hoSub : op = oSub := by rw [ba_eq] at h2; exact of_decide_eq_true h2
   refine r_seq (r_region (r_p (p_move rfl) rfl (r_p (p_move rfl) rfl ?_)))
   refine r_p (p_bin rfl rfl (b_sub rfl)) rfl ?_
   refine r_p (p_build (parts := [(0, .tmp 18), (1, .const (.bool Bool.true))]) t171 pl171 rfl rfl) rfl ?_
   refine r_store_all (k := 6) t171 rfl rfl rfl rfl rfl rfl ?_
   refine r_nil (r_cret ?_)
   refine r_ret () trivial rfl (rs1 (rv_cellA t171 rfl rfl rfl (g_all (k := 6) rfl))) (by unfold biF; rw [if_neg hoAdd, if_pos hoSub]; first | rfl | (rw [if_pos hz]; rfl) | (rw [if_neg hz]; rfl)) [] [] rfl rfl rfl
  ·have hoSub : ¬ op = oSub := by rw [ba_eq] at h2; exact of_decide_eq_false h2
   refine r_seq (r_region ?_)
   refine r_p (p_bin rfl rfl b_seq) rfl ?_
   refine r_p (p_assign rfl) rfl (r_nil ?_)
   refine r_cond rfl (fun h3 => ?_) (fun h3 => ?_)
   ·have hoMul : op = oMul := by rw [ba_eq] at h3; exact of_decide_eq_true h3
    refine r_seq (r_region (r_p (p_move rfl) rfl (r_p (p_move rfl) rfl ?_)))
    refine r_p (p_bin rfl rfl (b_mul rfl)) rfl ?_
    refine r_p (p_build (parts := [(0, .tmp 24), (1, .const (.bool Bool.true))]) t171 pl171 rfl rfl) rfl ?_
    refine r_store_all (k := 6) t171 rfl rfl rfl rfl rfl rfl ?_
    refine r_nil (r_cret ?_)
    refine r_ret () trivial rfl (rs1 (rv_cellA t171 rfl rfl rfl (g_all (k := 6) rfl))) (by unfold biF; rw [if_neg hoAdd, if_neg hoSub, if_pos hoMul]; first | rfl | (rw [if_pos hz]; rfl) | (rw [if_neg hz]; rfl)) [] [] rfl rfl rfl
   ·have hoMul : ¬ op = oMul := by rw [ba_eq] at h3; exact of_decide_eq_false h3
    refine r_seq (r_region ?_)
    refine r_p (p_bin rfl rfl b_seq) rfl ?_
    refine r_p (p_assign rfl) rfl (r_nil ?_)
    refine r_cond rfl (fun h4 => ?_) (fun h4 => ?_)
    ·have hoQuo : op = oQuo := by rw [ba_eq] at h4; exact of_decide_eq_true h4
     refine r_seq (r_seq (r_region (r_p (p_move rfl) rfl ?_)))
     refine r_p (p_bin rfl rfl b_eq) rfl ?_
     refine r_nil ?_
     refine r_cond rfl (fun h5 => ?_) (fun h5 => ?_)
     ·(try simp only [decide_eq_true_eq, decide_eq_false_iff_not, Bool.and_eq_true, Bool.or_eq_true, Bool.and_eq_false_iff, Bool.or_eq_false_iff, Bool.not_eq_true, Bool.not_eq_false, Bool.not_eq_true', Bool.not_eq_false', Bool.not_not, bne_iff_ne, beq_iff_eq] at h5)
      have hz : b = 0 := h5
      refine r_seq (r_region ?_)
      refine r_p (p_build (parts := [(0, .const (.int .u32 0)), (1, .const (.bool Bool.true))]) t171 pl171 rfl rfl) rfl ?_
      refine r_store_all (k := 6) t171 rfl rfl rfl rfl rfl rfl ?_
      refine r_nil (r_cret ?_)
      refine r_ret () trivial rfl (rs1 (rv_cellA t171 rfl rfl rfl (g_all (k := 6) rfl))) (by unfold biF; rw [if_neg hoAdd, if_neg hoSub, if_neg hoMul, if_pos hoQuo]; first | rfl | (rw [if_pos hz]; rfl) | (rw [if_neg hz]; rfl)) [] [] rfl rfl rfl
     ·(try simp only [decide_eq_true_eq, decide_eq_false_iff_not, Bool.and_eq_true, Bool.or_eq_true, Bool.and_eq_false_iff, Bool.or_eq_false_iff, Bool.not_eq_true, Bool.not_eq_false, Bool.not_eq_true', Bool.not_eq_false', Bool.not_not, bne_iff_ne, beq_iff_eq] at h5)
      have hz : ¬ b = 0 := h5
      refine r_skip (r_seq (r_region (r_p (p_move rfl) rfl (r_p (p_move rfl) rfl ?_))))
      refine r_p (p_bin rfl rfl (b_quo hz (quo_u32 ha hb hz))) rfl ?_
      refine r_p (p_build (parts := [(0, .tmp 33), (1, .const (.bool Bool.true))]) t171 pl171 rfl rfl) rfl ?_
      refine r_store_all (k := 6) t171 rfl rfl rfl rfl rfl rfl ?_
      refine r_nil (r_cret ?_)
      refine r_ret () trivial rfl (rs1 (rv_cellA t171 rfl rfl rfl (g_all (k := 6) rfl))) (by unfold biF; rw [if_neg hoAdd, if_neg hoSub, if_neg hoMul, if_pos hoQuo]; first | rfl | (rw [if_pos hz]; rfl) | (rw [if_neg hz]; rfl)) [] [] rfl rfl rfl
    ·have hoQuo : ¬ op = oQuo := by rw [ba_eq] at h4; exact of_decide_eq_false h4
     refine r_seq (r_region ?_)
     refine r_p (p_bin rfl rfl b_seq) rfl ?_
     refine r_p (p_assign rfl) rfl (r_nil ?_)
     refine r_cond rfl (fun h6 => ?_) (fun h6 => ?_)
     ·have hoRem : op = oRem := by rw [ba_eq] at h6; exact of_decide_eq_true h6
      refine r_seq (r_seq (r_region (r_p (p_move rfl) rfl ?_)))
      refine r_p (p_bin rfl rfl b_eq) rfl ?_
      refine r_nil ?_
      refine r_cond rfl (fun h7 => ?_) (fun h7 => ?_)
      ·(try simp only [decide_eq_true_eq, decide_eq_false_iff_not, Bool.and_eq_true, Bool.or_eq_true, Bool.and_eq_false_iff, Bool.or_eq_false_iff, Bool.not_eq_true, Bool.not_eq_false, Bool.not_eq_true', Bool.not_eq_false', Bool.not_not, bne_iff_ne, beq_iff_eq] at h7)
       have hz : b = 0 := h7
       refine r_seq (r_region (r_p (p_move rfl) rfl ?_))
       refine r_p (p_build (parts := [(0, .tmp 39), (1, .const (.bool Bool.true))]) t171 pl171 rfl rfl) rfl ?_
       refine r_store_all (k := 6) t171 rfl rfl rfl rfl rfl rfl ?_
       refine r_nil (r_cret ?_)
       refine r_ret () trivial rfl (rs1 (rv_cellA t171 rfl rfl rfl (g_all (k := 6) rfl))) (by unfold biF; rw [if_neg hoAdd, if_neg hoSub, if_neg hoMul, if_neg hoQuo, if_pos hoRem]; first | rfl | (rw [if_pos hz]; rfl) | (rw [if_neg hz]; rfl)) [] [] rfl rfl rfl
      ·(try simp only [decide_eq_true_eq, decide_eq_false_iff_not, Bool.and_eq_true, Bool.or_eq_true, Bool.and_eq_false_iff, Bool.or_eq_false_iff, Bool.not_eq_true, Bool.not_eq_false, Bool.not_eq_true', Bool.not_eq_false', Bool.not_not, bne_iff_ne, beq_iff_eq] at h7)
       have hz : ¬ b = 0 := h7
       refine r_skip (r_seq (r_region (r_p (p_move rfl) rfl (r_p (p_move rfl) rfl ?_))))
       refine r_p (p_bin rfl rfl (b_rem hz (tmod_u32 ha))) rfl ?_
       refine r_p (p_build (parts := [(0, .tmp 43), (1, .const (.bool Bool.true))]) t171 pl171 rfl rfl) rfl ?_
       refine r_store_all (k := 6) t171 rfl rfl rfl rfl rfl rfl ?_
       refine r_nil (r_cret ?_)
       refine r_ret () trivial rfl (rs1 (rv_cellA t171 rfl rfl rfl (g_all (k := 6) rfl))) (by unfold biF; rw [if_neg hoAdd, if_neg hoSub, if_neg hoMul, if_neg hoQuo, if_pos hoRem]; first | rfl | (rw [if_pos hz]; rfl) | (rw [if_neg hz]; rfl)) [] [] rfl rfl rfl
     ·have hoRem : ¬ op = oRem := by rw [ba_eq] at h6; exact of_decide_eq_false h6
      refine r_seq (r_region ?_)
      refine r_p (p_bin rfl rfl b_seq) rfl ?_
      refine r_p (p_assign rfl) rfl (r_nil ?_)
      refine r_cond rfl (fun h8 => ?_) (fun h8 => ?_)
      ·have hoAnd : op = oAnd := by rw [ba_eq] at h8; exact of_decide_eq_true h8
       refine r_seq (r_region (r_p (p_move rfl) rfl (r_p (p_move rfl) rfl ?_)))
       refine r_p (p_bin rfl rfl (b_and rfl)) rfl ?_
       refine r_p (p_build (parts := [(0, .tmp 49), (1, .const (.bool Bool.true))]) t171 pl171 rfl rfl) rfl ?_
       refine r_store_all (k := 6) t171 rfl rfl rfl rfl rfl rfl ?_
       refine r_nil (r_cret ?_)
       refine r_ret () trivial rfl (rs1 (rv_cellA t171 rfl rfl rfl (g_all (k := 6) rfl))) (by unfold biF; rw [if_neg hoAdd, if_neg hoSub, if_neg hoMul, if_neg hoQuo, if_neg hoRem, if_pos hoAnd]; first | rfl | (rw [if_pos hz]; rfl) | (rw [if_neg hz]; rfl)) [] [] rfl rfl rfl
      ·have hoAnd : ¬ op = oAnd := by rw [ba_eq] at h8; exact of_decide_eq_false h8
       refine r_seq (r_region ?_)
       refine r_p (p_bin rfl rfl b_seq) rfl ?_
       refine r_p (p_assign rfl) rfl (r_nil ?_)
       refine r_cond rfl (fun h9 => ?_) (fun h9 => ?_)
       ·have hoOr : op = oOr := by rw [ba_eq] at h9; exact of_decide_eq_true h9
        refine r_seq (r_region (r_p (p_move rfl) rfl (r_p (p_move rfl) rfl ?_)))
        refine r_p (p_bin rfl rfl (b_or rfl)) rfl ?_
        refine r_p (p_build (parts := [(0, .tmp 55), (1, .const (.bool Bool.true))]) t171 pl171 rfl rfl) rfl ?_
        refine r_store_all (k := 6) t171 rfl rfl rfl rfl rfl rfl ?_
        refine r_nil (r_cret ?_)
        refine r_ret () trivial rfl (rs1 (rv_cellA t171 rfl rfl rfl (g_all (k := 6) rfl))) (by unfold biF; rw [if_neg hoAdd, if_neg hoSub, if_neg hoMul, if_neg hoQuo, if_neg hoRem, if_neg hoAnd, if_pos hoOr]; first | rfl | (rw [if_pos hz]; rfl) | (rw [if_neg hz]; rfl)) [] [] rfl rfl rfl
       ·have hoOr : ¬ op = oOr := by rw [ba_eq] at h9; exact of_decide_eq_false h9
        refine r_seq (r_region ?_)
        refine r_p (p_bin rfl rfl b_seq) rfl ?_
        refine r_p (p_assign rfl) rfl (r_nil ?_)
        refine r_cond rfl (fun h10 => ?_) (fun h10 => ?_)
        ·have hoXor : op = oXor := by rw [ba_eq] at h10; exact of_decide_eq_true h10
         refine r_seq (r_region (r_p (p_move rfl) rfl (r_p (p_move rfl) rfl ?_)))
         refine r_p (p_bin rfl rfl (b_xor rfl)) rfl ?_
         refine r_p (p_build (parts := [(0, .tmp 61), (1, .const (.bool Bool.true))]) t171 pl171 rfl rfl) rfl ?_
         refine r_store_all (k := 6) t171 rfl rfl rfl rfl rfl rfl ?_
         refine r_nil (r_cret ?_)
         refine r_ret () trivial rfl (rs1 (rv_cellA t171 rfl rfl rfl (g_all (k := 6) rfl))) (by unfold biF; rw [if_neg hoAdd, if_neg hoSub, if_neg hoMul, if_neg hoQuo, if_neg hoRem, if_neg hoAnd, if_neg hoOr, if_pos hoXor]; first | rfl | (rw [if_pos hz]; rfl) | (rw [if_neg hz]; rfl)) [] [] rfl rfl rfl
        ·have hoXor : ¬ op = oXor := by rw [ba_eq] at h10; exact of_decide_eq_false h10
         refine r_seq (r_region ?_)
         refine r_p (p_bin rfl rfl b_seq) rfl ?_
         refine r_p (p_assign rfl) rfl (r_nil ?_)
         refine r_cond rfl (fun h11 => ?_) (fun h11 => ?_)
         ·have hoShl : op = oShl := by rw [ba_eq] at h11; exact of_decide_eq_true h11
          refine r_seq (r_region (r_p (p_move rfl) rfl (r_p (p_move rfl) rfl ?_)))
          refine r_p (p_bin rfl rfl (b_and (and31 hb))) rfl ?_
          refine r_p (p_bin rfl rfl (b_shl (by omega) (by simp [IntKind.bits]; omega) rfl)) rfl ?_
          refine r_p (p_build (parts := [(0, .tmp 68), (1, .const (.bool Bool.true))]) t171 pl171 rfl rfl) rfl ?_
          refine r_store_all (k := 6) t171 rfl rfl rfl rfl rfl rfl ?_
          refine r_nil (r_cret ?_)
          refine r_ret () trivial rfl (rs1 (rv_cellA t171 rfl rfl rfl (g_all (k := 6) rfl))) (by unfold biF; rw [if_neg hoAdd, if_neg hoSub, if_neg hoMul, if_neg hoQuo, if_neg hoRem, if_neg hoAnd, if_neg hoOr, if_neg hoXor, if_pos hoShl]; first | rfl | (rw [if_pos hz]; rfl) | (rw [if_neg hz]; rfl)) [] [] rfl rfl rfl
         ·have hoShl : ¬ op = oShl := by rw [ba_eq] at h11; exact of_decide_eq_false h11
          refine r_seq (r_region ?_)
          refine r_p (p_bin rfl rfl b_seq) rfl ?_
          refine r_p (p_assign rfl) rfl (r_nil ?_)
          refine r_cond rfl (fun h12 => ?_) (fun h12 => ?_)
          ·have hoShr : op = oShr := by rw [ba_eq] at h12; exact of_decide_eq_true h12
           refine r_seq (r_region (r_p (p_move rfl) rfl (r_p (p_move rfl) rfl ?_)))
           refine r_p (p_bin rfl rfl (b_and (and31 hb))) rfl ?_
           refine r_p (p_bin rfl rfl (b_shr (by omega) (by simp [IntKind.bits]; omega) rfl)) rfl ?_
           refine r_p (p_build (parts := [(0, .tmp 75), (1, .const (.bool Bool.true))]) t171 pl171 rfl rfl) rfl ?_
           refine r_store_all (k := 6) t171 rfl rfl rfl rfl rfl rfl ?_
           refine r_nil (r_cret ?_)
           refine r_ret () trivial rfl (rs1 (rv_cellA t171 rfl rfl rfl (g_all (k := 6) rfl))) (by unfold biF; rw [if_neg hoAdd, if_neg hoSub, if_neg hoMul, if_neg hoQuo, if_neg hoRem, if_neg hoAnd, if_neg hoOr, if_neg hoXor, if_neg hoShl, if_pos hoShr]; first | rfl | (rw [if_pos hz]; rfl) | (rw [if_neg hz]; rfl)) [] [] rfl rfl rfl
          ·have hoShr : ¬ op = oShr := by rw [ba_eq] at h12; exact of_decide_eq_false h12
           refine r_seq (r_region ?_)
           refine r_p (p_bin rfl rfl b_seq) rfl ?_
           refine r_p (p_assign rfl) rfl (r_nil ?_)
           refine r_cond rfl (fun h13 => ?_) (fun h13 => ?_)
           ·have hoLt : op = oLt := by rw [ba_eq] at h13; exact of_decide_eq_true h13
            refine r_seq (r_region (r_p (p_move rfl) rfl (r_p (p_move rfl) rfl ?_)))
            refine r_p (p_bin rfl rfl b_lt) rfl ?_
            refine r_call (xs := [.tmp 81]) (bit_spec (decide (a < b))) cb135 [] [] [] [] rfl rfl rfl rfl rfl rfl rfl rfl (fun _ _ => rfl) (fun _ _ _ => rfl) rfl (fun _ _ => ?_)
            refine r_store_all (k := 6) t171 rfl rfl rfl rfl rfl rfl ?_
            refine r_nil (r_cret ?_)
            refine r_ret () trivial rfl (rs1 (rv_cellA t171 rfl rfl rfl (g_all (k := 6) rfl))) (by unfold biF; rw [if_neg hoAdd, if_neg hoSub, if_neg hoMul, if_neg hoQuo, if_neg hoRem, if_neg hoAnd, if_neg hoOr, if_neg hoXor, if_neg hoShl, if_neg hoShr, if_pos hoLt]; first | rfl | (rw [if_pos hz]; rfl) | (rw [if_neg hz]; rfl)) [] [] rfl rfl rfl
           ·have hoLt : ¬ op = oLt := by rw [ba_eq] at h13; exact of_decide_eq_false h13
            refine r_seq (r_region ?_)
            refine r_p (p_bin rfl rfl b_seq) rfl ?_
            refine r_p (p_assign rfl) rfl (r_nil ?_)
            refine r_cond rfl (fun h14 => ?_) (fun h14 => ?_)
            ·have hoLe : op = oLe := by rw [ba_eq] at h14; exact of_decide_eq_true h14
             refine r_seq (r_region (r_p (p_move rfl) rfl (r_p (p_move rfl) rfl ?_)))
             refine r_p (p_bin rfl rfl b_le) rfl ?_
             refine r_call (xs := [.tmp 87]) (bit_spec (decide (a ≤ b))) cb135 [] [] [] [] rfl rfl rfl rfl rfl rfl rfl rfl (fun _ _ => rfl) (fun _ _ _ => rfl) rfl (fun _ _ => ?_)
             refine r_store_all (k := 6) t171 rfl rfl rfl rfl rfl rfl ?_
             refine r_nil (r_cret ?_)
             refine r_ret () trivial rfl (rs1 (rv_cellA t171 rfl rfl rfl (g_all (k := 6) rfl))) (by unfold biF; rw [if_neg hoAdd, if_neg hoSub, if_neg hoMul, if_neg hoQuo, if_neg hoRem, if_neg hoAnd, if_neg hoOr, if_neg hoXor, if_neg hoShl, if_neg hoShr, if_neg hoLt, if_pos hoLe]; first | rfl | (rw [if_pos hz]; rfl) | (rw [if_neg hz]; rfl)) [] [] rfl rfl rfl
            ·have hoLe : ¬ op = oLe := by rw [ba_eq] at h14; exact of_decide_eq_false h14
             refine r_seq (r_region ?_)
             refine r_p (p_bin rfl rfl b_seq) rfl ?_
             refine r_p (p_assign rfl) rfl (r_nil ?_)
             refine r_cond rfl (fun h15 => ?_) (fun h15 => ?_)
             ·have hoGt : op = oGt := by rw [ba_eq] at h15; exact of_decide_eq_true h15
              refine r_seq (r_region (r_p (p_move rfl) rfl (r_p (p_move rfl) rfl ?_)))
              refine r_p (p_bin rfl rfl b_gt) rfl ?_
              refine r_call (xs := [.tmp 93]) (bit_spec (decide (a > b))) cb135 [] [] [] [] rfl rfl rfl rfl rfl rfl rfl rfl (fun _ _ => rfl) (fun _ _ _ => rfl) rfl (fun _ _ => ?_)
              refine r_store_all (k := 6) t171 rfl rfl rfl rfl rfl rfl ?_
              refine r_nil (r_cret ?_)
              refine r_ret () trivial rfl (rs1 (rv_cellA t171 rfl rfl rfl (g_all (k := 6) rfl))) (by unfold biF; rw [if_neg hoAdd, if_neg hoSub, if_neg hoMul, if_neg hoQuo, if_neg hoRem, if_neg hoAnd, if_neg hoOr, if_neg hoXor, if_neg hoShl, if_neg hoShr, if_neg hoLt, if_neg hoLe, if_pos hoGt]; first | rfl | (rw [if_pos hz]; rfl) | (rw [if_neg hz]; rfl)) [] [] rfl rfl rfl
             ·have hoGt : ¬ op = oGt := by rw [ba_eq] at h15; exact of_decide_eq_false h15
              refine r_seq (r_region ?_)
              refine r_p (p_bin rfl rfl b_seq) rfl ?_
              refine r_p (p_assign rfl) rfl (r_nil ?_)
              refine r_cond rfl (fun h16 => ?_) (fun h16 => ?_)
              ·have hoGe : op = oGe := by rw [ba_eq] at h16; exact of_decide_eq_true h16
               refine r_seq (r_region (r_p (p_move rfl) rfl (r_p (p_move rfl) rfl ?_)))
               refine r_p (p_bin rfl rfl b_ge) rfl ?_
               refine r_call (xs := [.tmp 99]) (bit_spec (decide (a ≥ b))) cb135 [] [] [] [] rfl rfl rfl rfl rfl rfl rfl rfl (fun _ _ => rfl) (fun _ _ _ => rfl) rfl (fun _ _ => ?_)
               refine r_store_all (k := 6) t171 rfl rfl rfl rfl rfl rfl ?_
               refine r_nil (r_cret ?_)
               refine r_ret () trivial rfl (rs1 (rv_cellA t171 rfl rfl rfl (g_all (k := 6) rfl))) (by unfold biF; rw [if_neg hoAdd, if_neg hoSub, if_neg hoMul, if_neg hoQuo, if_neg hoRem, if_neg hoAnd, if_neg hoOr, if_neg hoXor, if_neg hoShl, if_neg hoShr, if_neg hoLt, if_neg hoLe, if_neg hoGt, if_pos hoGe]; first | rfl | (rw [if_pos hz]; rfl) | (rw [if_neg hz]; rfl)) [] [] rfl rfl rfl
              ·have hoGe : ¬ op = oGe := by rw [ba_eq] at h16; exact of_decide_eq_false h16
               refine r_seq (r_region ?_)
               refine r_p (p_bin rfl rfl b_seq) rfl ?_
               refine r_p (p_assign rfl) rfl (r_nil ?_)
               refine r_cond rfl (fun h17 => ?_) (fun h17 => ?_)
               ·have hoEq : op = oEq := by rw [ba_eq] at h17; exact of_decide_eq_true h17
                refine r_seq (r_region (r_p (p_move rfl) rfl (r_p (p_move rfl) rfl ?_)))
                refine r_p (p_bin rfl rfl b_eq) rfl ?_
                refine r_call (xs := [.tmp 105]) (bit_spec (decide (a = b))) cb135 [] [] [] [] rfl rfl rfl rfl rfl rfl rfl rfl (fun _ _ => rfl) (fun _ _ _ => rfl) rfl (fun _ _ => ?_)
                refine r_store_all (k := 6) t171 rfl rfl rfl rfl rfl rfl ?_
                refine r_nil (r_cret ?_)
                refine r_ret () trivial rfl (rs1 (rv_cellA t171 rfl rfl rfl (g_all (k := 6) rfl))) (by unfold biF; rw [if_neg hoAdd, if_neg hoSub, if_neg hoMul, if_neg hoQuo, if_neg hoRem, if_neg hoAnd, if_neg hoOr, if_neg hoXor, if_neg hoShl, if_neg hoShr, if_neg hoLt, if_neg hoLe, if_neg hoGt, if_neg hoGe, if_pos hoEq]; first | rfl | (rw [if_pos hz]; rfl) | (rw [if_neg hz]; rfl)) [] [] rfl rfl rfl
               ·have hoEq : ¬ op = oEq := by rw [ba_eq] at h17; exact of_decide_eq_false h17
                refine r_seq (r_region ?_)
                refine r_p (p_bin rfl rfl b_seq) rfl ?_
                refine r_p (p_assign rfl) rfl (r_nil ?_)
                refine r_cond rfl (fun h18 => ?_) (fun h18 => ?_)
                ·have hoNe : op = oNe := by rw [ba_eq] at h18; exact of_decide_eq_true h18
                 refine r_seq (r_region (r_p (p_move rfl) rfl (r_p (p_move rfl) rfl ?_)))
                 refine r_p (p_bin rfl rfl b_ne) rfl ?_
                 refine r_call (xs := [.tmp 111]) (bit_spec (!decide (a = b))) cb135 [] [] [] [] rfl rfl rfl rfl rfl rfl rfl rfl (fun _ _ => rfl) (fun _ _ _ => rfl) rfl (fun _ _ => ?_)
                 refine r_store_all (k := 6) t171 rfl rfl rfl rfl rfl rfl ?_
                 refine r_nil (r_cret ?_)
                 refine r_ret () trivial rfl (rs1 (rv_cellA t171 rfl rfl rfl (g_all (k := 6) rfl))) (by unfold biF; rw [if_neg hoAdd, if_neg hoSub, if_neg hoMul, if_neg hoQuo, if_neg hoRem, if_neg hoAnd, if_neg hoOr, if_neg hoXor, if_neg hoShl, if_neg hoShr, if_neg hoLt, if_neg hoLe, if_neg hoGt, if_neg hoGe, if_neg hoEq, if_pos hoNe]; first | rfl | (rw [if_pos hz]; rfl) | (rw [if_neg hz]; rfl)) [] [] rfl rfl rfl
                ·have hoNe : ¬ op = oNe := by rw [ba_eq] at h18; exact of_decide_eq_false h18
                 refine r_skip (r_seq (r_region ?_))
                 refine r_p (p_build (parts := []) t171 pl171 rfl rfl) rfl ?_
                 refine r_store_all (k := 6) t171 rfl rfl rfl rfl rfl rfl ?_
                 refine r_nil (r_cret ?_)
                 refine r_ret () trivial rfl (rs1 (rv_cellA t171 rfl rfl rfl (g_all (k := 6) rfl))) (by unfold biF; rw [if_neg hoAdd, if_neg hoSub, if_neg hoMul, if_neg hoQuo, if_neg hoRem, if_neg hoAnd, if_neg hoOr, if_neg hoXor, if_neg hoShl, if_neg hoShr, if_neg hoLt, if_neg hoLe, if_neg hoGt, if_neg hoGe, if_neg hoEq, if_neg hoNe]; first | rfl | (rw [if_pos hz]; rfl) | (rw [if_neg hz]; rfl)) [] [] rfl rfl rfl
abbrev oW (n : Int) : Prop := 0 ≤ n ∧ n < 4294967296
mutual
/-- An expression that can be evaluated. -/
def VX (fs : List Tf) : Tx → Prop
 | .mk k n nm _ kids => oW n ∧ kids.length ≤ 1000000 ∧ (k = 4 → 1 ≤ kids.length) ∧ (k = 6 → 1 ≤ kids.length ∧ ∀ a, (unF nm a).isSome = true) ∧ (k = 7 → 2 ≤ kids.length ∧ ∀ a b, (biF nm a b).isSome = true) ∧
   (k ≠ 1 → k ≠ 2 → k ≠ 4 → k ≠ 5 → k ≠ 6 → k ≠ 7 → ∃ f, ffind fs nm = some f ∧ kids.length ≤ f.ps.length) ∧ VXs fs kids
def VXs (fs : List Tf) : List Tx → Prop
 | [] => True
 | t :: r => VX fs t ∧ VXs fs r
end
theorem VXs.mem {fs : List Tf} : ∀ {l : List Tx}, VXs fs l → ∀ t ∈ l, VX fs t
 | [], _, _, h => by simp at h
 | t :: r, h, u, hu => by
  rcases List.mem_cons.1 hu with rfl | hu
  ·exact h.1
  ·exact VXs.mem h.2 u hu
mutual
/-- A statement that can be executed. -/
def VY (fs : List Tf) : Ty → Prop
 | .mk k _ _ es _ body _ els => (1 ≤ es.length ∧ es.length ≤ 1000000 ∧ (k = 3 → 2 ≤ es.length) ∧ VXs fs es) ∧ (body.length ≤ 1000000 ∧ VYs fs body) ∧ (els.length ≤ 1000000 ∧ VYs fs els)
def VYs (fs : List Tf) : List Ty → Prop
 | [] => True
 | t :: r => VY fs t ∧ VYs fs r
end
theorem VYs.mem {fs : List Tf} : ∀ {l : List Ty}, VYs fs l → ∀ t ∈ l, VY fs t
 | [], _, _, h => by simp at h
 | t :: r, h, u, hu => by
  rcases List.mem_cons.1 hu with rfl | hu
  ·exact h.1
  ·exact VYs.mem h.2 u hu
/-- Functions that can be called. -/
def VF (fs : List Tf) : Prop := ∀ f ∈ fs, f.ps.length ≤ 1000000 ∧ f.body.length ≤ 1000000 ∧ VYs fs f.body
def okVs (vs : Vs) : Prop := ∀ p ∈ vs, oW p.2
structure okMs (s : Ms) : Prop where
 inp : ∀ x ∈ s.inp, oW x
 mem : ∀ i, oW (s.mem i)
 fuel : s.fuel < 9223372036854775808
 out : (s.out.length : Int) + max s.fuel 0 ≤ 1000000000000
theorem okVs.get {vs : Vs} (h : okVs vs) (x : ByteArray) : oW (vget vs x) := by
 unfold vget
 cases hf : vs.find? (fun p => decide (p.1 = x)) with
 | none => exact ⟨Int.le_refl _, by show (0 : Int) < 4294967296; decide⟩
 | some p => exact h p (List.mem_of_find?_eq_some hf)
theorem okVs.put {vs : Vs} (h : okVs vs) (x : ByteArray) {n : Int} (hn : oW n) : okVs (vput vs x n) := fun p hp => by
 rcases List.mem_cons.1 hp with rfl | hp
 ·exact hn
 ·exact h p (List.mem_filter.1 hp).1
theorem okVs.bind : ∀ {vs : Vs} (ps : List ByteArray) (al : List Int), okVs vs → (∀ a ∈ al, oW a) → okVs (vbind vs ps al)
 | vs, p :: ps, a :: al, h, ha => okVs.bind ps al (h.put p (ha a (by simp))) fun b hb => ha b (by simp [hb])
 | vs, [], al, h, _ => by unfold vbind; exact h
 | vs, p :: ps, [], h, _ => by unfold vbind; exact h
theorem oW0 : oW 0 := ⟨Int.le_refl _, by show (0 : Int) < 4294967296; decide⟩
theorem oW_tr (b : Bool) : oW (tr b) := by
 cases b
 ·exact oW0
 ·exact ⟨by decide, by decide⟩
theorem oW_wU (n : Int) : oW (wU n) := wrap_u32_bd n
theorem oW_bits (o : BinOp) (a b : Int) (h : ∃ z, bits o .u32 a b = IntKind.u32.wrap z) : oW (bits o .u32 a b) := by
 obtain ⟨z, hz⟩ := h
 rw [hz]
 exact wrap_u32_bd z
theorem oW_un {op : ByteArray} {a : Int} (ha : oW a) : oW ((unF op a).getD 0) := by
 unfold unF
 split
 ·exact oW_wU _
 ·split
  ·show 0 ≤ 4294967295 - a ∧ 4294967295 - a < 4294967296
   have h1 := ha.1; have h2 := ha.2
   omega
  ·split
   ·exact oW_tr _
   ·exact oW0
theorem oW_shr {a : Int} (ha : oW a) (n : Nat) : oW (a / 2 ^ n) := by
 have h0 : (0 : Int) < 2 ^ n := Int.pow_pos (by decide)
 refine ⟨Int.ediv_nonneg ha.1 (Int.le_of_lt h0), Int.lt_of_le_of_lt (Int.ediv_le_self _ ha.1) ha.2⟩
theorem oW_bi {op : ByteArray} {a b : Int} (ha : oW a) (hb : oW b) : oW ((biF op a b).getD 0) := by
 have hq : oW (if b = 0 then 0 else a / b) := by
  split
  ·exact oW0
  ·exact ⟨Int.ediv_nonneg ha.1 hb.1, Int.lt_of_le_of_lt (Int.ediv_le_self _ ha.1) ha.2⟩
 have hr : oW (if b = 0 then a else a % b) := by
  split
  ·exact ha
  ·rename_i h
   have h1 := Int.emod_nonneg a h
   have h2 := Int.emod_lt_of_pos a (b := b) (by have := hb.1; omega)
   have h3 := hb.2
   exact ⟨h1, by omega⟩
 unfold biF
 by_cases h0 : op = oAdd
 ·rw [if_pos h0]; exact oW_wU _
 rw [if_neg h0]
 by_cases h1 : op = oSub
 ·rw [if_pos h1]; exact oW_wU _
 rw [if_neg h1]
 by_cases h2 : op = oMul
 ·rw [if_pos h2]; exact oW_wU _
 rw [if_neg h2]
 by_cases h3 : op = oQuo
 ·rw [if_pos h3]; exact hq
 rw [if_neg h3]
 by_cases h4 : op = oRem
 ·rw [if_pos h4]; exact hr
 rw [if_neg h4]
 by_cases h5 : op = oAnd
 ·rw [if_pos h5]; exact (show oW (bits .and .u32 a b) from oW_bits .and a b ⟨_, rfl⟩)
 rw [if_neg h5]
 by_cases h6 : op = oOr
 ·rw [if_pos h6]; exact (show oW (bits .or .u32 a b) from oW_bits .or a b ⟨_, rfl⟩)
 rw [if_neg h6]
 by_cases h7 : op = oXor
 ·rw [if_pos h7]; exact (show oW (bits .xor .u32 a b) from oW_bits .xor a b ⟨_, rfl⟩)
 rw [if_neg h7]
 by_cases h8 : op = oShl
 ·rw [if_pos h8]; exact oW_wU _
 rw [if_neg h8]
 by_cases h9 : op = oShr
 ·rw [if_pos h9]; exact oW_shr ha _
 rw [if_neg h9]
 by_cases h10 : op = oLt
 ·rw [if_pos h10]; exact oW_tr _
 rw [if_neg h10]
 by_cases h11 : op = oLe
 ·rw [if_pos h11]; exact oW_tr _
 rw [if_neg h11]
 by_cases h12 : op = oGt
 ·rw [if_pos h12]; exact oW_tr _
 rw [if_neg h12]
 by_cases h13 : op = oGe
 ·rw [if_pos h13]; exact oW_tr _
 rw [if_neg h13]
 by_cases h14 : op = oEq
 ·rw [if_pos h14]; exact oW_tr _
 rw [if_neg h14]
 by_cases h15 : op = oNe
 ·rw [if_pos h15]; exact oW_tr _
 rw [if_neg h15]
 exact oW0
/-- What an execution keeps. -/
structure Kp (s s' : Ms) : Prop where
 ok : okMs s'
 sum : (s'.out.length : Int) + max s'.fuel 0 ≤ (s.out.length : Int) + max s.fuel 0
 fl : s'.fuel ≤ s.fuel
 inp : ∃ k, s'.inp = s.inp.drop k
theorem Kp.refl {s : Ms} (h : okMs s) : Kp s s := ⟨h, Int.le_refl _, Int.le_refl _, 0, by simp⟩
theorem Kp.trans {a b c : Ms} (h : Kp a b) (h' : Kp b c) : Kp a c := ⟨h'.ok, Int.le_trans h'.sum h.sum, Int.le_trans h'.fl h.fl, by
 obtain ⟨k, hk⟩ := h.inp
 obtain ⟨j, hj⟩ := h'.inp
 exact ⟨k + j, by rw [hj, hk, List.drop_drop]⟩⟩
theorem Kp.pay {s : Ms} (h : okMs s) (hf : ¬ s.fuel ≤ 0) : Kp s { s with fuel := s.fuel - 1 } := ⟨⟨h.inp, h.mem, by have := h.fuel; dsimp only; omega, by have := h.out; dsimp only; omega⟩, by dsimp only; omega, by dsimp only; omega, 0, by simp⟩
structure EvOk (fs : List Tf) (g : Nat) : Prop where
 x : ∀ d vs t s v s', VX fs t → okVs vs → okMs s → evX g fs d vs t s = some (.ok v s') → oW v ∧ Kp s s'
 k : ∀ d vs acc l s ks s', VXs fs l → okVs vs → okMs s → (∀ a ∈ acc, oW a) → evK g fs d vs acc l s = some (.ok ks s') → (∀ a ∈ ks, oW a) ∧ ks.length = acc.length + l.length ∧ Kp s s'
 c : ∀ d f al s v s', f ∈ fs → (∀ a ∈ al, oW a) → okMs s → evC g fs d f al s = some (.ok v s') → oW v ∧ Kp s s'
 b : ∀ d vs l s p s', VYs fs l → okVs vs → okMs s → evB g fs d vs l s = some (.ok p s') → okVs p.1 ∧ (∀ x, p.2 = some x → oW x) ∧ Kp s s'
 s : ∀ d vs t s p s', VY fs t → okVs vs → okMs s → evS g fs d vs t s = some (.ok p s') → okVs p.1 ∧ (∀ x, p.2 = some x → oW x) ∧ Kp s s'
 w : ∀ d vs e l v s p s', VX fs e → VYs fs l → okVs vs → okMs s → evW g fs d vs e l v s = some (.ok p s') → okVs p.1 ∧ (∀ x, p.2 = some x → oW x) ∧ Kp s s'
theorem getD_oW {ks : List Int} (h : ∀ a ∈ ks, oW a) (i : Nat) : oW (ks.getD i 0) := by
 rw [List.getD_eq_getElem?_getD]
 cases hk : ks[i]? with
 | none => exact oW0
 | some a => exact h a (List.mem_of_getElem? hk)
theorem ffind_mem {fs : List Tf} {x : ByteArray} {f : Tf} (h : ffind fs x = some f) : f ∈ fs := List.mem_of_find?_eq_some h
theorem ev_ok {fs : List Tf} (hF : VF fs) : ∀ g, EvOk fs g
 | 0 => ⟨fun _ _ _ _ _ _ _ _ _ h => by simp [evX] at h, fun _ _ _ _ _ _ _ _ _ _ _ h => by simp [evK] at h, fun _ _ _ _ _ _ _ _ _ h => by simp [evC] at h, fun _ _ _ _ _ _ _ _ _ h => by simp [evB] at h, fun _ _ _ _ _ _ _ _ _ h => by simp [evS] at h, fun _ _ _ _ _ _ _ _ _ _ _ _ h => by simp [evW] at h⟩
 | g + 1 => by
  have ih := ev_ok hF g
  refine ⟨fun d vs t s v s' ht hv hs h => ?_, fun d vs acc l s ks s' hl hv hs ha h => ?_, fun d f al s v s' hf ha hs h => ?_, fun d vs l s p s' hl hv hs h => ?_, fun d vs t s p s' ht hv hs h => ?_, fun d vs e l v s p s' he hl hv hs h => ?_⟩
  · -- an expression
   unfold evX at h
   by_cases hfu : s.fuel ≤ 0
   ·rw [if_pos hfu] at h; simp at h
   ·rw [if_neg hfu] at h
    have hp := Kp.pay hs hfu
    cases hk : evK g fs d vs [] t.kids { s with fuel := s.fuel - 1 } with
    | none => rw [hk] at h; simp at h
    | some r =>
     cases r with
     | err e => rw [hk] at h; simp at h
     | ok ks s1 =>
      rw [hk] at h
      dsimp only at h
      have hkids : VXs fs t.kids := by cases t; exact ht.2.2.2.2.2.2
      obtain ⟨k1, k2, k3⟩ := ih.k d vs [] t.kids _ ks s1 hkids hv hp.ok (by simp) hk
      have k4 := hp.trans k3
      split at h
      ·simp only [Option.some.injEq, Re.ok.injEq] at h
       obtain ⟨rfl, rfl⟩ := h
       exact ⟨by cases t; exact ht.1, k4⟩
      ·split at h
       ·simp only [Option.some.injEq, Re.ok.injEq] at h
        obtain ⟨rfl, rfl⟩ := h
        exact ⟨hv.get _, k4⟩
       ·split at h
        ·simp only [Option.some.injEq, Re.ok.injEq] at h
         obtain ⟨rfl, rfl⟩ := h
         exact ⟨k4.ok.mem _, k4⟩
        ·split at h
         ·split at h
          ·simp only [Option.some.injEq, Re.ok.injEq] at h
           obtain ⟨rfl, rfl⟩ := h
           exact ⟨oW0, k4⟩
          ·rename_i a r hi
           simp only [Option.some.injEq, Re.ok.injEq] at h
           obtain ⟨rfl, rfl⟩ := h
           refine ⟨k4.ok.inp a (by rw [hi]; simp), k4.trans ⟨⟨fun x hx => k4.ok.inp x (by rw [hi]; simp [hx]), k4.ok.mem, k4.ok.fuel, k4.ok.out⟩, Int.le_refl _, Int.le_refl _, 1, by rw [hi]; rfl⟩⟩
         ·split at h
          ·simp only [Option.some.injEq, Re.ok.injEq] at h
           obtain ⟨rfl, rfl⟩ := h
           exact ⟨oW_un (getD_oW k1 0), k4⟩
          ·split at h
           ·simp only [Option.some.injEq, Re.ok.injEq] at h
            obtain ⟨rfl, rfl⟩ := h
            exact ⟨oW_bi (getD_oW k1 0) (getD_oW k1 1), k4⟩
           ·split at h
            ·simp at h
            ·rename_i f hff
             obtain ⟨c1, c2⟩ := ih.c d f ks s1 v s' (ffind_mem hff) k1 k4.ok h
             exact ⟨c1, k4.trans c2⟩
  · -- parts
   cases l with
   | nil =>
    simp only [evK, Option.some.injEq, Re.ok.injEq] at h
    obtain ⟨rfl, rfl⟩ := h
    exact ⟨ha, by simp, Kp.refl hs⟩
   | cons t r =>
    unfold evK at h
    cases hx : evX g fs d vs t s with
    | none => rw [hx] at h; simp at h
    | some q =>
     cases q with
     | err e => rw [hx] at h; simp at h
     | ok v s1 =>
      rw [hx] at h
      dsimp only at h
      obtain ⟨x1, x2⟩ := ih.x d vs t s v s1 hl.1 hv hs hx
      obtain ⟨k1, k2, k3⟩ := ih.k d vs (acc ++ [v]) r s1 ks s' hl.2 hv x2.ok (fun a hm => by
       rcases List.mem_append.1 hm with hm | hm
       ·exact ha a hm
       ·rw [List.mem_singleton.1 hm]; exact x1) h
      exact ⟨k1, by rw [k2]; simp; omega, x2.trans k3⟩
  · -- a call
   unfold evC at h
   split at h
   ·simp at h
   ·cases hb : evB g fs (d + 1) (vbind [] f.ps al) f.body s with
    | none => rw [hb] at h; simp at h
    | some q =>
     cases q with
     | err e => rw [hb] at h; simp at h
     | ok p s1 =>
      obtain ⟨vs1, r⟩ := p
      rw [hb] at h
      simp only [Option.some.injEq, Re.ok.injEq] at h
      obtain ⟨rfl, rfl⟩ := h
      obtain ⟨b1, b2, b3⟩ := ih.b (d + 1) _ f.body s _ s1 (hF f hf).2.2 (okVs.bind _ _ (fun p hp => by simp at hp) ha) hs hb
      refine ⟨?_, b3⟩
      cases r with
      | none => exact oW0
      | some x => exact b2 x rfl
  · -- statements
   cases l with
   | nil =>
    simp only [evB, Option.some.injEq, Re.ok.injEq] at h
    obtain ⟨rfl, rfl⟩ := h
    exact ⟨hv, fun x hx => by simp at hx, Kp.refl hs⟩
   | cons t r =>
    unfold evB at h
    cases hx : evS g fs d vs t s with
    | none => rw [hx] at h; simp at h
    | some q =>
     cases q with
     | err e => rw [hx] at h; simp at h
     | ok q s1 =>
      obtain ⟨vs1, ro⟩ := q
      obtain ⟨x1, x2, x3⟩ := ih.s d vs t s _ s1 hl.1 hv hs hx
      rw [hx] at h
      cases ro with
      | some x =>
       simp only [Option.some.injEq, Re.ok.injEq] at h
       obtain ⟨rfl, rfl⟩ := h
       exact ⟨x1, x2, x3⟩
      | none =>
       dsimp only at h
       obtain ⟨b1, b2, b3⟩ := ih.b d vs1 r s1 p s' hl.2 x1 x3.ok h
       exact ⟨b1, b2, x3.trans b3⟩
  · -- a statement
   unfold evS at h
   by_cases hfu : s.fuel ≤ 0
   ·rw [if_pos hfu] at h; simp at h
   ·rw [if_neg hfu] at h
    have hp := Kp.pay hs hfu
    obtain ⟨kd, nm, ve, es, vb, body, vl, els⟩ := t
    obtain ⟨⟨e1, e2, e3, e4⟩, ⟨b1, b2⟩, c1, c2⟩ := ht
    cases es with
    | nil => simp [Ty.es] at h
    | cons e r =>
     simp only [Ty.es] at h
     cases hx : evX g fs d vs e { s with fuel := s.fuel - 1 } with
     | none => rw [hx] at h; simp at h
     | some q =>
      cases q with
      | err z => rw [hx] at h; simp at h
      | ok v s1 =>
       rw [hx] at h
       dsimp only at h
       obtain ⟨x1, x2⟩ := ih.x d vs e _ v s1 e4.1 hv hp.ok hx
       have x3 := hp.trans x2
       split at h
       ·simp only [Option.some.injEq, Re.ok.injEq] at h
        obtain ⟨rfl, rfl⟩ := h
        exact ⟨hv.put _ x1, fun x hx => by simp at hx, x3⟩
       ·split at h
        ·cases r with
         | nil => simp at h
         | cons e5 r =>
          dsimp only at h
          cases hx2 : evX g fs d vs e5 s1 with
          | none => rw [hx2] at h; simp at h
          | some q =>
           cases q with
           | err z => rw [hx2] at h; simp at h
           | ok w s2 =>
            rw [hx2] at h
            simp only [Option.some.injEq, Re.ok.injEq] at h
            obtain ⟨rfl, rfl⟩ := h
            obtain ⟨y1, y2⟩ := ih.x d vs e5 s1 w s2 e4.2.1 hv x3.ok hx2
            have y3 := x3.trans y2
            refine ⟨hv, fun x hx => by simp at hx, y3.trans ⟨⟨y3.ok.inp, fun i => ?_, y3.ok.fuel, y3.ok.out⟩, Int.le_refl _, Int.le_refl _, 0, by simp⟩⟩
            dsimp only [mput]
            split
            ·exact y1
            ·exact y3.ok.mem i
        ·split at h
         ·obtain ⟨z1, z2, z3⟩ := ih.b d vs (if v = 0 then els else body) s1 p s' (by split <;> assumption) hv x3.ok (by simpa only [Ty.els, Ty.body] using h)
          exact ⟨z1, z2, x3.trans z3⟩
         ·split at h
          ·obtain ⟨z1, z2, z3⟩ := ih.w d vs e body v s1 p s' e4.1 b2 hv x3.ok (by simpa only [Ty.body] using h)
           exact ⟨z1, z2, x3.trans z3⟩
          ·split at h
           ·simp only [Option.some.injEq, Re.ok.injEq] at h
            obtain ⟨rfl, rfl⟩ := h
            exact ⟨hv, fun x hx => by simp at hx; rw [← hx]; exact x1, x3⟩
           ·split at h
            ·simp only [Option.some.injEq, Re.ok.injEq] at h
             obtain ⟨rfl, rfl⟩ := h
             have x4 := x2.sum
             have x5 := hs.out
             dsimp only at x4
             obtain ⟨k, hk⟩ := x3.inp
             exact ⟨hv, fun x hx => by simp at hx, ⟨⟨x3.ok.inp, x3.ok.mem, x3.ok.fuel, by dsimp only; rw [List.length_append, List.length_singleton]; omega⟩, by dsimp only; rw [List.length_append, List.length_singleton]; omega, x3.fl, k, hk⟩⟩
            ·simp only [Option.some.injEq, Re.ok.injEq] at h
             obtain ⟨rfl, rfl⟩ := h
             exact ⟨hv, fun x hx => by simp at hx, x3⟩
  · -- a loop
   unfold evW at h
   split at h
   ·simp only [Option.some.injEq, Re.ok.injEq] at h
    obtain ⟨rfl, rfl⟩ := h
    exact ⟨hv, fun x hx => by simp at hx, Kp.refl hs⟩
   ·cases hb : evB g fs d vs l s with
    | none => rw [hb] at h; simp at h
    | some q =>
     cases q with
     | err z => rw [hb] at h; simp at h
     | ok q s1 =>
      obtain ⟨vs1, ro⟩ := q
      obtain ⟨x1, x2, x3⟩ := ih.b d vs l s _ s1 hl hv hs hb
      rw [hb] at h
      cases ro with
      | some x =>
       simp only [Option.some.injEq, Re.ok.injEq] at h
       obtain ⟨rfl, rfl⟩ := h
       exact ⟨x1, x2, x3⟩
      | none =>
       dsimp only at h
       cases hx : evX g fs d vs1 e s1 with
       | none => rw [hx] at h; simp at h
       | some q =>
        cases q with
        | err z => rw [hx] at h; simp at h
        | ok w s2 =>
         rw [hx] at h
         dsimp only at h
         obtain ⟨y1, y2⟩ := ih.x d vs1 e s1 w s2 he x1 x3.ok hx
         have y3 := x3.trans y2
         obtain ⟨z1, z2, z3⟩ := ih.w d vs1 e l w s2 p s' he hl x1 y3.ok h
         exact ⟨z1, z2, y3.trans z3⟩
end Go.Proofs.YtdcbbkpdlcojfaaGreat
namespace Go.Proofs.YtdcbbkpdlcojfaaGreat
set_option linter.unusedSimpArgs false
set_option linter.unusedVariables false
open Go.ChangeShapes Go.WideShapes Go.ChangeAt Go.RowKit
abbrev okI (n : Int) : Prop := -9223372036854775808 ≤ n ∧ n < 9223372036854775808
theorem i64_bd {n : Int} (h : (Lit.int .i64 n).wf = true) : okI n := by
 simp only [Lit.wf, Bool.and_eq_true, decide_eq_true_eq] at h
 have h1 : IntKind.i64.min = -9223372036854775808 := by decide
 have h2 : IntKind.i64.max = 9223372036854775807 := by decide
 rw [h1, h2] at h
 exact ⟨h.1, by omega⟩
section
variable {H : Type} {enc : TypeId × Value → H} {P : Program}
/-- A SLICE OF INTEGERS THAT WAS HANDED IN. -/
theorem open_islW {W : World} {r : Reach} {b0 base : Nat} {spare : Nat → Bool} {held : Bool} {t e : TypeId} {v : Value} {d : DataW H} {p : List MemPlace} (ht : P.underlying t = some (.slice e)) (he : P.underlying e = some (.int .i64))
  (hce : P.cellsOf e = 1) (hv : Value.okWide P W r b0 t v) (h : DataW.Trod enc P W base spare held t v d p) :
  ∃ (x : SV) (s : List Int), v = sv x ∧ (∀ n ∈ s, okI n) ∧ ∃ G : Nat → Prop, SlOk W G 1 eI (sv x) s ∧ ∀ b, G b → b < W.heap.size := by
 have hv' : Cell.ok P W r b0 t v := by
  have : Cell.okWide P W r b0 t v := by simpa [Value.okWide, ht] using hv
  simpa [Cell.okWide, ht] using this
 obtain ⟨va, vn, vc, rfl⟩ : ∃ a n c, v = .slice a n c := by
  cases v with
  | slice a n c => exact ⟨a, n, c, rfl⟩
  | _ => simp [Cell.ok, ht] at hv'
 obtain ⟨fuel, hf⟩ := h
 rcases open_ints ht he hce hf with ⟨hc, -⟩ | ⟨a, len, cap, zs, hc, -, h1, h2, h3, -, h5, h6⟩
 ·simp [Value.cells] at hc
  obtain ⟨rfl, rfl, rfl⟩ := hc
  refine ⟨⟨none, 0, 0⟩, [], rfl, by simp, fun _ => False, ⟨0, by simp, by unfold maxLen; omega, .inl ⟨rfl, fun _ h => h, rfl⟩⟩, fun _ h => h.elim⟩
 ·simp [Value.cells] at hc
  obtain ⟨rfl, rfl, rfl⟩ := hc
  have hh : W.has P r b0 a e vc := by
   simp [Cell.ok, ht] at hv'
   exact hv'.2.2
  obtain ⟨hs, hb⟩ := has_lt hh
  obtain ⟨ab, ao, asp⟩ := a
  dsimp only at hs hb
  subst hs
  have hzl : vn ≤ zs.length := by split at h3 <;> omega
  have htl : (zs.take vn).length = vn := by rw [List.length_take]; omega
  refine ⟨⟨some ⟨ab, ao, none⟩, vn, vc⟩, zs.take vn, rfl, fun n hn => i64_bd (h6 n (List.mem_of_mem_take hn)), fun b => b = ab, ⟨vc, by omega, h2, .inr ⟨ab, ao, by rw [htl]; rfl, rfl, ?_⟩⟩, fun b hb' => hb' ▸ hb⟩
  intro j u hj
  have hfm : (zs.take vn).flatMap eI = (zs.take vn).map (Value.int .i64) := by
   induction zs.take vn with
   | nil => rfl
   | cons x xs ih => simp [eI, ih]
  rw [hfm, List.getElem?_map] at hj
  have hjl : j < vn := by
   rcases Nat.lt_or_ge j vn with h | h
   ·exact h
   ·rw [List.getElem?_eq_none (by omega)] at hj; simp at hj
  have := h5 j (by omega)
  rw [List.getElem?_take, if_pos hjl, List.getElem?_eq_getElem (by omega)] at hj
  rw [List.getD_eq_getElem?_getD, List.getElem?_eq_getElem (by omega)] at this
  simp at hj this
  rw [← hj, ← this]
  unfold Addr.add
  split
  ·subst_vars; rfl
  ·rfl
end
end Go.Proofs.YtdcbbkpdlcojfaaGreat
namespace Go.Proofs.YtdcbbkpdlcojfaaGreat
set_option linter.unusedSimpArgs false
set_option linter.unusedVariables false
open Go.RowKit
/-- The cells of the machine that executes programs. -/
def mC (mf mu mb : Nat) (vi vo : SV) (mem : Nat → Int) (fuel d : Int) (rt : Bool) (val : Int) : List Value :=
 [.map (some mf), .map (some mu), .map (some mb), sv vi, sv vo] ++ ((List.range 256).map (fun i => .int .u32 (mem i)) ++ [.int .i64 fuel, .int .i64 d, .bool rt, .int .u32 val])
section
variable {mf mu mb : Nat} {vi vo : SV} {mem : Nat → Int} {fuel d : Int} {rt : Bool} {val : Int}
theorem mC_len : (mC mf mu mb vi vo mem fuel d rt val).length = 265 := by simp [mC]
theorem mC_fit {o : Nat} {u : Value} (h : o + 1 ≤ 265) : Nat.ble (o + [u].length) (mC mf mu mb vi vo mem fuel d rt val).length = true := by
 rw [mC_len]
 exact Nat.ble_eq_true_of_le h
theorem app_get {A tl : List Value} (h : A.length = 261) (k : Nat) : (A ++ tl)[261 + k]? = tl[k]? := by
 rw [List.getElem?_append_right (by omega)]
 congr 1
 omega
theorem app_set {A tl : List Value} (h : A.length = 261) (k : Nat) (v : Value) : (A ++ tl).set (261 + k) v = A ++ tl.set k v := by
 rw [List.set_append_right _ _ (by omega)]
 congr 2
 omega
theorem mC_tl (k : Nat) : (mC mf mu mb vi vo mem fuel d rt val)[261 + k]? = ([.int .i64 fuel, .int .i64 d, .bool rt, .int .u32 val] : List Value)[k]? := by
 unfold mC
 rw [← List.append_assoc]
 exact app_get (by simp) k
theorem mC_fuel : (mC mf mu mb vi vo mem fuel d rt val)[261]? = some (.int .i64 fuel) := mC_tl 0
theorem mC_depth : (mC mf mu mb vi vo mem fuel d rt val)[262]? = some (.int .i64 d) := mC_tl 1
theorem mC_rt : (mC mf mu mb vi vo mem fuel d rt val)[263]? = some (.bool rt) := mC_tl 2
theorem mC_val : (mC mf mu mb vi vo mem fuel d rt val)[264]? = some (.int .u32 val) := mC_tl 3
theorem mC_mem {i : Nat} (hi : i < 256) : (mC mf mu mb vi vo mem fuel d rt val)[5 + i]? = some (.int .u32 (mem i)) := by
 unfold mC
 rw [List.getElem?_append_right (by simp), List.getElem?_append_left (by simp; omega), List.getElem?_map, List.getElem?_range (by simp; omega)]
 simp
theorem put_set {l : List Value} {o : Nat} {v : Value} (h : o < l.length) : l.take o ++ [v] ++ l.drop (o + [v].length) = l.set o v := by
 rw [List.set_eq_take_append_cons_drop, if_pos h]
 simp
theorem mC_set (k : Nat) (v : Value) (hk : k < 4) : (mC mf mu mb vi vo mem fuel d rt val).set (261 + k) v = [.map (some mf), .map (some mu), .map (some mb), sv vi, sv vo] ++ ((List.range 256).map (fun i => .int .u32 (mem i)) ++ ([.int .i64 fuel, .int .i64 d, .bool rt, .int .u32 val] : List Value).set k v) := by
 unfold mC
 rw [← List.append_assoc, ← List.append_assoc]
 exact app_set (by simp) k v
theorem mC_setFuel {f : Int} : (mC mf mu mb vi vo mem fuel d rt val).take 261 ++ [.int .i64 f] ++ (mC mf mu mb vi vo mem fuel d rt val).drop (261 + [Value.int .i64 f].length) = mC mf mu mb vi vo mem f d rt val := (put_set (by rw [mC_len]; decide)).trans (mC_set 0 _ (by decide))
theorem mC_setDepth {f : Int} : (mC mf mu mb vi vo mem fuel d rt val).take 262 ++ [.int .i64 f] ++ (mC mf mu mb vi vo mem fuel d rt val).drop (262 + [Value.int .i64 f].length) = mC mf mu mb vi vo mem fuel f rt val := (put_set (by rw [mC_len]; decide)).trans (mC_set 1 _ (by decide))
theorem mC_setRt {f : Bool} : (mC mf mu mb vi vo mem fuel d rt val).take 263 ++ [.bool f] ++ (mC mf mu mb vi vo mem fuel d rt val).drop (263 + [Value.bool f].length) = mC mf mu mb vi vo mem fuel d f val := (put_set (by rw [mC_len]; decide)).trans (mC_set 2 _ (by decide))
theorem mC_setVal {f : Int} : (mC mf mu mb vi vo mem fuel d rt val).take 264 ++ [.int .u32 f] ++ (mC mf mu mb vi vo mem fuel d rt val).drop (264 + [Value.int .u32 f].length) = mC mf mu mb vi vo mem fuel d rt f := (put_set (by rw [mC_len]; decide)).trans (mC_set 3 _ (by decide))
theorem mC_setIn {v : SV} : (mC mf mu mb vi vo mem fuel d rt val).take 3 ++ [sv v] ++ (mC mf mu mb vi vo mem fuel d rt val).drop (3 + [sv v].length) = mC mf mu mb v vo mem fuel d rt val := rfl
theorem mC_setOut {v : SV} : (mC mf mu mb vi vo mem fuel d rt val).take 4 ++ [sv v] ++ (mC mf mu mb vi vo mem fuel d rt val).drop (4 + [sv v].length) = mC mf mu mb vi v mem fuel d rt val := rfl
theorem mem_set {i : Nat} (hi : i < 256) {v : Int} : ((List.range 256).map (fun i => Value.int .u32 (mem i))).set i (.int .u32 v) = (List.range 256).map (fun k => .int .u32 (mput mem i v k)) := by
 apply List.ext_getElem?
 intro j
 rw [List.getElem?_set, List.getElem?_map, List.getElem?_map, List.length_map, List.length_range]
 by_cases hj : j < 256
 ·rw [List.getElem?_range hj]
  by_cases hij : i = j
  ·subst hij
   rw [if_pos rfl, if_pos hi]
   simp [mput]
  ·rw [if_neg hij]
   have : ¬ j = i := fun e => hij e.symm
   simp [mput, this]
 ·rw [if_neg (by omega)]
  have : (List.range 256)[j]? = none := by rw [List.getElem?_eq_none]; simp; omega
  rw [this]
  rfl
theorem mC_setMem {i : Nat} (hi : i < 256) {v : Int} : (mC mf mu mb vi vo mem fuel d rt val).take (5 + i * 1) ++ [.int .u32 v] ++ (mC mf mu mb vi vo mem fuel d rt val).drop (5 + i * 1 + [Value.int .u32 v].length) = mC mf mu mb vi vo (mput mem i v) fuel d rt val := by
 rw [put_set (by rw [mC_len]; omega)]
 unfold mC
 rw [List.set_append_right _ _ (by simp), List.set_append_left _ _ (by simp; omega), ← mem_set hi]
 rw [show 5 + i * 1 - ([.map (some mf), .map (some mu), .map (some mb), sv vi, sv vo] : List Value).length = i by simp]
end
/-- How a failure is thrown. -/
def fail (e : Int) : Value := .iface 103 (.agg #[.int .i64 e])
set_option maxHeartbeats 1000000 in
set_option maxRecDepth 100000 in
theorem pay_ok (m : Nat) (mf mu mb : Nat) (vi vo : SV) (mem : Nat → Int) (fuel d : Int) (rt : Bool) (val : Int) (hf : ¬ fuel ≤ 0) (hf2 : fuel < 9223372036854775808) :
  Spec Tryz.prog 119 [.pointer (some ⟨m, 0, none⟩)] [row m 101 (mC mf mu mb vi vo mem fuel d rt val)] [] (X := Unit) (fun _ => True) (fun _ => .tuple #[]) (fun _ => [row m 101 (mC mf mu mb vi vo mem (fuel - 1) d rt val)]) (fun _ => []) := by
 refine r_enter Tryz.func119 rfl Tryz.ntmps119 rfl fun w0 M H => ?_
 refine r_seq (r_seq (r_region (r_p (p_move rfl) rfl (r_p (p_nilCheck rfl) rfl ?_))))
 refine r_p (p_field0 fo101_6 rfl) rfl ?_
 refine r_p (p_load1 t3 rfl rfl (g_row1 (k := 0) rfl mC_fuel)) rfl ?_
 refine r_p (p_bin rfl rfl b_le) rfl ?_
 refine r_nil ?_
 refine r_cond rfl (fun h1 => ?_) (fun h1 => ?_)
 ·exact absurd (of_decide_eq_true h1) hf
 ·(try simp only [decide_eq_true_eq, decide_eq_false_iff_not, Bool.and_eq_true, Bool.or_eq_true, Bool.and_eq_false_iff, Bool.or_eq_false_iff, Bool.not_eq_true, Bool.not_eq_false, Bool.not_eq_true', Bool.not_eq_false', Bool.not_not, bne_iff_ne, beq_iff_eq] at h1)
  refine r_skip (r_region (r_p (p_move rfl) rfl (r_p (p_nilCheck rfl) rfl ?_)))
  refine r_p (p_field0 fo101_6 rfl) rfl ?_
  refine r_p (p_load1 t3 rfl rfl (g_row1 (k := 0) rfl mC_fuel)) rfl ?_
  refine r_p (p_bin rfl rfl (b_sub (by first | exact w_i64 (by omega) (by omega) | rfl))) rfl ?_
  refine r_p (p_nilCheck rfl) rfl ?_
  refine r_p (p_field0 fo101_6 rfl) rfl ?_
  refine r_store_row (k := 0) t3 rfl rfl rfl rfl rfl rfl (mC_fit (by decide)) (mC_setFuel) ?_
  refine r_nil ?_
  refine r_end () trivial rfl rs0 rfl [0] [] rfl rfl rfl
set_option maxHeartbeats 1000000 in
set_option maxRecDepth 100000 in
theorem pay_no (m : Nat) (mf mu mb : Nat) (vi vo : SV) (mem : Nat → Int) (fuel d : Int) (rt : Bool) (val : Int) (hf : fuel ≤ 0) :
  SpecE Tryz.prog 119 [.pointer (some ⟨m, 0, none⟩)] [row m 101 (mC mf mu mb vi vo mem fuel d rt val)] [] (X := Unit) (fun _ => True) (fun _ => .pan (fail 25)) (fun _ => [row m 101 (mC mf mu mb vi vo mem fuel d rt val)]) (fun _ => []) := by
 refine r_enterE Tryz.func119 rfl Tryz.ntmps119 rfl fun w0 M H => ?_
 refine r_seq (r_seq (r_region (r_p (p_move rfl) rfl (r_p (p_nilCheck rfl) rfl ?_))))
 refine r_p (p_field0 fo101_6 rfl) rfl ?_
 refine r_p (p_load1 t3 rfl rfl (g_row1 (k := 0) rfl mC_fuel)) rfl ?_
 refine r_p (p_bin rfl rfl b_le) rfl ?_
 refine r_nil ?_
 refine r_cond rfl (fun h1 => ?_) (fun h1 => ?_)
 ·(try simp only [decide_eq_true_eq, decide_eq_false_iff_not, Bool.and_eq_true, Bool.or_eq_true, Bool.and_eq_false_iff, Bool.or_eq_false_iff, Bool.not_eq_true, Bool.not_eq_false, Bool.not_eq_true', Bool.not_eq_false', Bool.not_not, bne_iff_ne, beq_iff_eq] at h1)
  refine r_region ?_
  refine r_p (p_build (parts := [(0, .const (.int .i64 25))]) t103 pl103 rfl rfl) rfl ?_
  refine r_p (p_mkIface Tryz.underlying103 (by intro _ h; cases h) rfl) rfl ?_
  refine r_panic rfl ?_
  show At _ _ _ _ _ _ _ (bodyPost Tryz.prog Tryz.f119 _ (.panic _))
  refine r_out () trivial rfl [0] [] rfl rfl rfl
 ·exact absurd hf (of_decide_eq_false h1)
/-- What programs run with: the machine, its maps, the inputs, the functions. -/
structure En where
 m : Nat
 mf : Nat
 mu : Nat
 mb : Nat
 vin : SV
 ins : List Int
 fs : List Tf
def vU (p : ByteArray × Int) : Value := .int .u32 p.2
def tfV (f : Tf) : Value := .agg (eTf f).toArray
/-- The parts of functions can be read. -/
def fnsA (fs : List Tf) : Asn := ⟨fun w F => ∀ f ∈ fs, TfIn w F f, fun h hs f hf => (h f hf).stable hs⟩
theorem fns_f {fs : List Tf} {f : Tf} (hf : f ∈ fs) : ∀ w G, (fnsA fs).pred w G → (∀ b, G b → b < w.heap.size) → ∃ G', (tfA f).pred w G' ∧ ∀ b, G' b → G b := fun w G h _ => ⟨G, h f hf, fun _ hb => hb⟩
/-- A slice without its first k elements. -/
def itv (v : SV) : Nat → SV
 | 0 => v
 | k + 1 => loS (itv v k) 1 1
theorem itv_ok {w : World} {G : Nat → Prop} {v : SV} {l : List Int} (h : SlOk w G 1 eU (sv v) l) : ∀ k, k ≤ l.length → SlOk w G 1 eU (sv (itv v k)) (l.drop k)
 | 0, _ => by simpa [itv] using h
 | k + 1, hk => by
  have h2 : 1 ≤ (l.drop k).length := by rw [List.length_drop]; omega
  have h3 := sl_lo (enc := eU) (fun _ => rfl) h2 (itv_ok h k (by omega))
  rw [List.drop_drop] at h3
  exact h3
/-- The inputs that are left. -/
def SkI (e : En) (s : Ms) : Prop := ∃ k, k ≤ e.ins.length ∧ s.inp = e.ins.drop k
theorem SkI.len {e : En} {s : Ms} (h : SkI e s) : s.inp.length ≤ e.ins.length ∧ s.inp = e.ins.drop (e.ins.length - s.inp.length) := by
 obtain ⟨k, h1, h2⟩ := h
 have h3 : s.inp.length = e.ins.length - k := by rw [h2, List.length_drop]
 exact ⟨by omega, by rw [h3, show e.ins.length - (e.ins.length - k) = k by omega]; exact h2⟩
theorem SkI.kp {e : En} {s s' : Ms} (h : SkI e s) (h' : Kp s s') : SkI e s' := by
 obtain ⟨k, h1, h2⟩ := h
 obtain ⟨j, hj⟩ := h'.inp
 rw [h2, List.drop_drop] at hj
 by_cases hk : k + j ≤ e.ins.length
 ·exact ⟨k + j, hk, hj⟩
 ·exact ⟨e.ins.length, Nat.le_refl _, by rw [hj, List.drop_of_length_le (by omega), List.drop_length]⟩
theorem ins_now {e : En} {s : Ms} (h : SkI e s) : ∀ w G, (sl 1 eU (sv e.vin) e.ins).pred w G → (∀ b, G b → b < w.heap.size) → ∃ G', (sl 1 eU (sv (itv e.vin (e.ins.length - s.inp.length))) s.inp).pred w G' ∧ ∀ b, G' b → G b := fun w G hG _ =>
 ⟨G, by
  have := itv_ok hG (e.ins.length - s.inp.length) (by omega)
  rw [← h.len.2] at this
  exact this, fun _ hb => hb⟩
/-- The machine, at a depth. -/
def mR (e : En) (s : Ms) (vo : SV) (d : Nat) (rt : Bool) (val : Int) : List Value := mC e.mf e.mu e.mb (itv e.vin (e.ins.length - s.inp.length)) vo s.mem s.fuel (d : Int) rt val
theorem mR_in {e : En} {s : Ms} {vo : SV} {d : Nat} {rt : Bool} {val : Int} (h : SkI e s) {a : Int} {r : List Int} (hr : s.inp = a :: r) : mC e.mf e.mu e.mb (loS (itv e.vin (e.ins.length - s.inp.length)) 1 1) vo s.mem s.fuel (d : Int) rt val = mR e { s with inp := r } vo d rt val := by
 have h1 := h.len.1
 rw [hr, List.length_cons] at h1
 unfold mR
 dsimp only
 rw [show e.ins.length - r.length = (e.ins.length - s.inp.length) + 1 by rw [hr, List.length_cons]; omega]
 rfl
/-- What every function of the machine may read. -/
abbrev RO (e : En) : List Asn := [fnsA e.fs, mp mkS Tf.name tfV (some e.mf) e.fs, mp mkS Prod.fst vF (some e.mu) uL, mp mkS Prod.fst vF (some e.mb) bL, sl 1 eU (sv e.vin) e.ins]
/-- An outcome: a result, the state and the outputs; or a failure, and whatever is there then. -/
inductive Oc (α : Type) where
 | ok (a : α) (s : Ms) (vo : SV)
 | er (z : Int) (c : List Value) (vo : SV) (l : List Int)
def Oc.fits {α : Type} (r : Re α) : Oc α → Prop
 | .ok a s _ => r = .ok a s
 | .er z _ _ _ => r = .err z
def oX : Oc Int → Fin
 | .ok a _ _ => .ret (.int .u32 a)
 | .er z _ _ _ => .pan (fail z)
def lX (e : En) (d : Nat) : Oc Int → List Asn
 | .ok _ s vo => [row e.m 101 (mR e s vo d false 0), own 36 1 eU (sv vo) s.out]
 | .er _ c vo l => [row e.m 101 c, own 36 1 eU (sv vo) l]
theorem oX_pan {o : Oc Int} {pv : Value} (h : oX o = .pan pv) : ∃ z c vo l, o = .er z c vo l ∧ pv = fail z := by
 cases o with
 | ok a s vo => cases h
 | er z c vo l => exact ⟨z, c, vo, l, rfl, (Fin.pan.inj h).symm⟩
theorem oX_ret {o : Oc Int} (h : (oX o).isRet) : ∃ a s vo, o = .ok a s vo := by
 cases o with
 | ok a s vo => exact ⟨a, s, vo, rfl⟩
 | er z c vo l => exact absurd h (by simp [oX, Fin.isRet])
theorem lX_len {e : En} {d : Nat} (o : Oc Int) : [0, 1].length = (lX e d o).length := by cases o <;> rfl
structure Sk (e : En) (vs : Vs) (s : Ms) : Prop where
 v : okVs vs
 ok : okMs s
 i : SkI e s
theorem Sk.kp {e : En} {vs : Vs} {s s' : Ms} (h : Sk e vs s) (h' : Kp s s') : Sk e vs s' := ⟨h.v, h'.ok, h.i.kp h'⟩
/-- The contract of an expression, with gas g. -/
def HX (e : En) (g : Nat) : Prop := ∀ (t : Tx) (d vb : Nat) (vs : Vs) (s : Ms) (vo : SV) (r : Re Int), VX e.fs t → d ≤ 12 → Sk e vs s → evX g e.fs d vs t s = some r →
 SpecE Tryz.prog 120 [.pointer (some ⟨e.m, 0, none⟩), xV t, .map (some vb)] [row e.m 101 (mR e s vo d false 0), own 36 1 eU (sv vo) s.out] (mp mkS Prod.fst vU (some vb) vs :: txsA t.v t.kids :: RO e) (X := Oc Int) (fun o => o.fits r) oX (lX e d) (fun _ => [])
/-- The contract of a call. -/
def HC (e : En) (g : Nat) : Prop := ∀ (f : Tf) (d : Nat) (va : SV) (al : List Int) (s : Ms) (vo : SV) (r : Re Int), f ∈ e.fs → al.length ≤ f.ps.length → (∀ a ∈ al, oW a) → d ≤ 12 → okMs s → SkI e s → evC g e.fs d f al s = some r →
 SpecE Tryz.prog 45 [.pointer (some ⟨e.m, 0, none⟩), tfV f, sv va] [row e.m 101 (mR e s vo d false 0), own 36 1 eU (sv vo) s.out] (sl 1 eU (sv va) al :: tfA f :: RO e) (X := Oc Int) (fun o => o.fits r) oX (lX e d) (fun _ => [])
set_option maxHeartbeats 4000000 in
set_option maxRecDepth 100000 in
theorem expr_no (e : En) (g : Nat) (hF : VF e.fs) (ihX : ∀ k, k ≤ g → HX e k) (ihC : ∀ k, k ≤ g → HC e k) (t : Tx) (d vb : Nat) (vs : Vs) (s : Ms) (vo : SV) (r : Re Int) (ht : VX e.fs t) (hd : d ≤ 12) (hs : Sk e vs s) (hr : evX (g + 1) e.fs d vs t s = some r) (hfu : s.fuel ≤ 0) :
  SpecE Tryz.prog 120 [.pointer (some ⟨e.m, 0, none⟩), xV t, .map (some vb)] [row e.m 101 (mR e s vo d false 0), own 36 1 eU (sv vo) s.out] (mp mkS Prod.fst vU (some vb) vs :: txsA t.v t.kids :: RO e) (X := Oc Int) (fun o => o.fits r) (fun o => oX o) (fun o => lX e d o) (fun _ => []) := by
 refine r_enterE Tryz.func120 rfl Tryz.ntmps120 rfl fun w0 M H => ?_
 unfold evX at hr
 rw [if_pos hfu] at hr
 have hr1 : r = .err 25 := (Option.some.inj hr).symm
 refine r_seq (r_region ?_)
 refine r_boxA rfl rfl fun b4 => ?_
 refine r_p (p_assign rfl) rfl (r_nil (r_seq (r_region (r_p (p_move rfl) rfl ?_))))
 refine r_callE (xs := [.tmp 11]) (pay_no e.m e.mf e.mu e.mb (itv e.vin (e.ins.length - s.inp.length)) vo s.mem s.fuel (d : Int) false 0 hfu) cb119 [0] [] [0] [] rfl rfl rfl rfl rfl rfl rfl rfl (fun _ _ => rfl) (fun _ _ _ => rfl) rfl (fun _ _ => ?_)
 refine aft_pan ?_
 show At _ _ _ _ _ _ _ (bodyPost Tryz.prog Tryz.f120 _ (.panic _))
 refine r_out (Oc.er 25 (mR e s vo d false 0) vo s.out) hr1 rfl [0, 1] [] rfl rfl rfl
theorem band2 {a b : Bool} (h : a = true) (h' : b = true) : (a && b) = true := by rw [h, h']; rfl
section
variable {P : Program} {N : Nat} {w0 : World} {M H : Nat → Prop} {E : Env} {Γ R : Ctx} {Q : Exit → Act → World → Prop}
variable {T : TypeId} {ps : String} {af : Array Edge} {d : Nat} {op : Op}
theorem wp_guard {dst : Option Nat} {g : Option (Nat × Bool)} {a : Act} {w : World} {next : Act → World → Prop} {Q : Exit → Act → World → Prop} (h : (⟨dst, op, T, ps, af, none⟩ : Oper).wp P a w next Q) : (⟨dst, op, T, ps, af, g⟩ : Oper).wp P a w next Q := h
/-- An operation that keeps what is there, under a guard that may or may not hold. -/
theorem r_gms {l : List Oper} {rest : List Oper} {i t : Nat} {c b : Bool} {v : Value} (Eg : Env) (hi : gslot l i = some t) (ht : eget E t = some (.bool b)) (hgs : GS E (gb c b) Eg)
  (h : gb c b = true → MS P N w0 M H (Eg ++ E) Γ R ⟨some d, op, T, ps, af, none⟩ (X := Unit) (fun _ => True) (fun _ => v) (fun _ => Γ) (fun _ => R)) (hd : Nat.blt d N = true)
  (k : At N w0 M H ((d, gv (gb c b) v) :: E) Γ R (wpList P l.toArray Q rest)) : At N w0 M H E Γ R (wpList P l.toArray Q (⟨some d, op, T, ps, af, some (i, c)⟩ :: rest)) := by
 intro a w hE hC
 have hyd := hE.yield hi ht
 unfold wpList
 cases hg : gb c b with
 | true =>
  have hbc : b = c := by cases b <;> cases c <;> simp_all [gb]
  rw [if_pos (by simp [Region.wanted, hyd, hbc])]
  left
  rw [hg] at k
  exact wp_guard (h hg a w (hE.gs hg hgs) hC _ _ fun x w' _ h2 => k _ _ (hE.put hd v) h2)
 | false =>
  have hbc : b ≠ c := by cases b <;> cases c <;> simp_all [gb]
  rw [if_neg (by simp [Region.wanted, hyd, hbc])]
  rw [hg] at k
  exact k _ _ (hE.put hd undef) hC
theorem eget_appE : ∀ (A B : Env) (s : Nat) (v : Value), eget (A ++ B) s = some v → eget A s = some v ∨ eget B s = some v
 | [], B, s, v, h => .inr h
 | (j, u) :: A, B, s, v, h => by
  simp only [List.cons_append, eget] at h ⊢
  cases hb : Nat.beq j s with
  | true => rw [hb] at h; exact .inl (by simpa using h)
  | false => rw [hb] at h; simpa using eget_appE A B s v h
theorem eget_leftE : ∀ (A B : Env) (s : Nat) (v : Value), eget A s = some v → eget (A ++ B) s = some v
 | [], B, s, v, h => by cases h
 | (j, u) :: A, B, s, v, h => by
  simp only [List.cons_append, eget] at h ⊢
  cases hb : Nat.beq j s with
  | true => rw [hb] at h; simpa using h
  | false => rw [hb] at h; simpa using eget_leftE A B s v h
/-- The same, under a guard within a guard. -/
theorem r_gms2 {l : List Oper} {rest : List Oper} {i t : Nat} {c b g : Bool} {v : Value} (Eg E2 : Env) (hi : gslot l i = some t) (ht : eget E t = some (gv g (.bool b))) (hgs : GS E (g && gb c b) Eg) (hgs2 : GS E g E2)
  (h : g = true → gb c b = true → MS P N w0 M H (E2 ++ (Eg ++ E)) Γ R ⟨some d, op, T, ps, af, none⟩ (X := Unit) (fun _ => True) (fun _ => v) (fun _ => Γ) (fun _ => R)) (hd : Nat.blt d N = true)
  (k : At N w0 M H ((d, gv (g && gb c b) v) :: E) Γ R (wpList P l.toArray Q rest)) : At N w0 M H E Γ R (wpList P l.toArray Q (⟨some d, op, T, ps, af, some (i, c)⟩ :: rest)) := by
 intro a w hE hC
 have hyd : yielded l.toArray a.tmps i = bif g then some b else none := by
  unfold yielded
  have : (l.toArray[i]?).bind (·.dst) = some t := by simpa [gslot] using hi
  rw [this]
  cases g <;> simp [hE.slot t _ ht, gv, undef]
 unfold wpList
 cases hg : (g && gb c b) with
 | true =>
  have hg1 : g = true ∧ gb c b = true := by simpa using hg
  obtain ⟨hg1, hg2⟩ := hg1
  have hbc : b = c := by cases b <;> cases c <;> simp_all [gb]
  rw [if_pos (by simp [Region.wanted, hyd, hg1, hbc])]
  left
  have hE' := hE.gs hg hgs
  have : EOk N (E2 ++ (Eg ++ E)) a := by
   have h2 := hE.gs hg1 hgs2
   refine ⟨hE.defers, hE.size, fun s v hv => ?_⟩
   rcases eget_appE _ _ s v hv with h3 | h3
   ·exact h2.slot s v (eget_leftE _ _ s v h3)
   ·exact hE'.slot s v h3
  rw [hg] at k
  exact wp_guard (h hg1 hg2 a w this hC _ _ fun x w' _ h2 => k _ _ (hE.put hd v) h2)
 | false =>
  have : Region.wanted (⟨some d, op, T, ps, af, some (i, c)⟩ : Oper) (yielded l.toArray a.tmps) = false := by
   cases g <;> cases b <;> cases c <;> simp_all [gb, Region.wanted]
  rw [if_neg (by rw [this]; simp)]
  rw [hg] at k
  exact k _ _ (hE.put hd undef) hC
end
section
variable {P : Program} {N : Nat} {w0 : World} {M H : Nat → Prop} {E : Env} {Γ R : Ctx} {Q : Exit → Act → World → Prop}
variable {ops : Array Oper} {rest : List Oper} {T : TypeId} {ps : String} {af : Array Edge} {d : Nat}
theorem no_rns {b : Bool} {A : List Asn} {R : Ctx} : (bif b then cputs [] A R else R) = R := by cases b <;> rfl
theorem r_callN {n : Nat} {f : Operand} {xs : List Operand} {cap us vs : List Value} {at_ : Array TypeId} {L R0 : List Asn} {X : Type} {φ : X → Prop} {v : X → Value} {L' R' : X → List Asn} (hs : Spec P n vs L R0 φ v L' R') (hcb : Cb P n)
  (ks : List Nat) (rs : List (Bool × Nat)) (ns : List Nat) (hf : ev E f = some (.func (.func n) #[] cap.toArray)) (hx : evs E xs = some us) (hu : us ++ cap = vs)
  (hnd : ndB ks = true) (hL : cgets Γ ks = somes L) (hR : lgets Γ R rs = somes R0) (hl : lentOk ks rs = true) (hns : ndB ns = true) (hnl : ∀ x, φ x → ns.length = (L' x).length) (hrl : ∀ x, φ x → noneLent rs = true → 0 = (R' x).length)
  (hd : Nat.blt d N = true) (k : ∀ x, φ x → At N w0 M H ((d, v x) :: E) (cputs ns (L' x) (ckill ks Γ)) R (wpList P ops Q rest)) :
  At N w0 M H E Γ R (wpList P ops Q (⟨some d, .call { callee := .value f, args := xs.toArray, argTypes := at_ }, T, ps, af, none⟩ :: rest)) :=
 r_call hs hcb ks rs ns [] hf hx hu hnd hL hR hl hns hnl hrl hd fun x hx => by rw [no_rns]; exact k x hx
theorem ms_callN {dst : Option Nat} {n : Nat} {f : Operand} {xs : List Operand} {cap us vs : List Value} {at_ : Array TypeId} {L R0 : List Asn} {X : Type} {φ : X → Prop} {v : X → Value} {L' R' : X → List Asn} (hs : Spec P n vs L R0 φ v L' R') (hcb : Cb P n)
  (ks : List Nat) (rs : List (Bool × Nat)) (ns : List Nat) (hf : ev E f = some (.func (.func n) #[] cap.toArray)) (hx : evs E xs = some us) (hu : us ++ cap = vs)
  (hnd : ndB ks = true) (hL : cgets Γ ks = somes L) (hR : lgets Γ R rs = somes R0) (hl : lentOk ks rs = true) (hns : ndB ns = true) (hnl : ∀ x, φ x → ns.length = (L' x).length) (hrl : ∀ x, φ x → noneLent rs = true → 0 = (R' x).length) :
  MS P N w0 M H E Γ R ⟨dst, .call { callee := .value f, args := xs.toArray, argTypes := at_ }, T, ps, af, none⟩ φ v (fun x => cputs ns (L' x) (ckill ks Γ)) (fun _ => R) := by
 have h := ms_call (dst := dst) (T := T) (ps := ps) (af := af) (at_ := at_) (w0 := w0) (M := M) (H := H) (N := N) hs hcb ks rs ns [] hf hx hu hnd hL hR hl hns hnl hrl
 intro a w hE hC next Q hn
 refine h a w hE hC next Q fun x w' h1 h2 => hn x w' h1 ?_
 dsimp only at h2 ⊢
 rw [no_rns] at h2
 exact h2
end
/-- The cells of the reference's execution. -/
def xC (vp vi vo : SV) (mem : Nat → Int) (fuel used er : Int) : List Value := [sv vp, sv vi, sv vo] ++ ((List.range 256).map (fun i => .int .u32 (mem i)) ++ [.int .i64 fuel, .int .i64 used, .int .i64 er])
section
variable {vp vi vo : SV} {mem : Nat → Int} {fuel used er : Int}
theorem xC_len : (xC vp vi vo mem fuel used er).length = 262 := by simp [xC]
theorem xC_fit {o : Nat} {u : Value} (h : o + 1 ≤ 262) : Nat.ble (o + [u].length) (xC vp vi vo mem fuel used er).length = true := by
 rw [xC_len]
 exact Nat.ble_eq_true_of_le h
theorem app_get3 {A tl : List Value} (h : A.length = 259) (k : Nat) : (A ++ tl)[259 + k]? = tl[k]? := by
 rw [List.getElem?_append_right (by omega)]
 congr 1
 omega
theorem app_set3 {A tl : List Value} (h : A.length = 259) (k : Nat) (v : Value) : (A ++ tl).set (259 + k) v = A ++ tl.set k v := by
 rw [List.set_append_right _ _ (by omega)]
 congr 2
 omega
theorem xC_tl (k : Nat) : (xC vp vi vo mem fuel used er)[259 + k]? = ([.int .i64 fuel, .int .i64 used, .int .i64 er] : List Value)[k]? := by
 unfold xC
 rw [← List.append_assoc]
 exact app_get3 (by simp) k
theorem xC_fuel : (xC vp vi vo mem fuel used er)[259]? = some (.int .i64 fuel) := xC_tl 0
theorem xC_used : (xC vp vi vo mem fuel used er)[260]? = some (.int .i64 used) := xC_tl 1
theorem xC_er : (xC vp vi vo mem fuel used er)[261]? = some (.int .i64 er) := xC_tl 2
theorem xC_mem {i : Nat} (hi : i < 256) : (xC vp vi vo mem fuel used er)[3 + i]? = some (.int .u32 (mem i)) := by
 unfold xC
 rw [List.getElem?_append_right (by simp), List.getElem?_append_left (by simp; omega), List.getElem?_map, List.getElem?_range (by simp; omega)]
 simp
theorem xC_set (k : Nat) (v : Value) : (xC vp vi vo mem fuel used er).set (259 + k) v = [sv vp, sv vi, sv vo] ++ ((List.range 256).map (fun i => .int .u32 (mem i)) ++ ([.int .i64 fuel, .int .i64 used, .int .i64 er] : List Value).set k v) := by
 unfold xC
 rw [← List.append_assoc, ← List.append_assoc]
 exact app_set3 (by simp) k v
theorem xC_setUsed {f : Int} : (xC vp vi vo mem fuel used er).take 260 ++ [.int .i64 f] ++ (xC vp vi vo mem fuel used er).drop (260 + [Value.int .i64 f].length) = xC vp vi vo mem fuel f er := (put_set (by rw [xC_len]; decide)).trans (xC_set 1 _)
theorem xC_setEr {f : Int} : (xC vp vi vo mem fuel used er).take 261 ++ [.int .i64 f] ++ (xC vp vi vo mem fuel used er).drop (261 + [Value.int .i64 f].length) = xC vp vi vo mem fuel used f := (put_set (by rw [xC_len]; decide)).trans (xC_set 2 _)
theorem xC_setIn {v : SV} : (xC vp vi vo mem fuel used er).take 1 ++ [sv v] ++ (xC vp vi vo mem fuel used er).drop (1 + [sv v].length) = xC vp v vo mem fuel used er := rfl
theorem xC_setOut {v : SV} : (xC vp vi vo mem fuel used er).take 2 ++ [sv v] ++ (xC vp vi vo mem fuel used er).drop (2 + [sv v].length) = xC vp vi v mem fuel used er := rfl
theorem xC_setMem {i : Nat} (hi : i < 256) {v : Int} : (xC vp vi vo mem fuel used er).take (3 + i * 1) ++ [.int .u32 v] ++ (xC vp vi vo mem fuel used er).drop (3 + i * 1 + [Value.int .u32 v].length) = xC vp vi vo (mput mem i v) fuel used er := by
 rw [put_set (by rw [xC_len]; omega)]
 unfold xC
 rw [List.set_append_right _ _ (by simp), List.set_append_left _ _ (by simp; omega), ← mem_set hi]
 rw [show 3 + i * 1 - ([sv vp, sv vi, sv vo] : List Value).length = i by simp]
end
/-- The variables of a frame: the first entry of a name counts. -/
def fput (fr : Vs) (x : ByteArray) (n : Int) : Vs := match fr.findIdx? (fun p => decide (p.1 = x)) with
 | some i => fr.set i (x, n)
 | none => fr ++ [(x, n)]
def FrEq (fr vs : Vs) : Prop := ∀ x, vget fr x = vget vs x
theorem vget_vput (vs : Vs) (x y : ByteArray) (n : Int) : vget (vput vs x n) y = if x = y then n else vget vs y := by
 unfold vget vput
 rw [List.find?_cons]
 by_cases h : x = y
 ·rw [decide_eq_true (show (x, n).1 = y from h), if_pos h]
 ·rw [decide_eq_false (show ¬ (x, n).1 = y from h), if_neg h]
  dsimp only
  rw [List.find?_filter]
  congr 1
  congr 1
  funext p
  by_cases h2 : p.1 = y
  ·have h3 : p.1 ≠ x := fun h4 => h (h4.symm.trans h2)
   simp [h2]
   intro h5
   exact absurd (h5.symm) (fun h6 => h h6)
  ·simp [h2]
theorem find_set_ne {l : Vs} {i : Nat} {p : ByteArray × Int} {x y : ByteArray} {n : Int} (hi : l[i]? = some p) (hp : p.1 = x) (h : x ≠ y) : (l.set i (x, n)).find? (fun p => decide (p.1 = y)) = l.find? (fun p => decide (p.1 = y)) := by
 induction l generalizing i with
 | nil => simp at hi
 | cons a r ih =>
  cases i with
  | zero =>
   cases hi
   rw [List.set_cons_zero, List.find?_cons, List.find?_cons, decide_eq_false (show ¬ (x, n).1 = y from h), decide_eq_false (show ¬ p.1 = y by rw [hp]; exact h)]
  | succ i =>
   rw [List.set_cons_succ, List.find?_cons, List.find?_cons, ih hi]
theorem find_set_eq {l : Vs} {i : Nat} {x : ByteArray} {n : Int} (hi : i < l.length) (hb : ∀ j p, j < i → l[j]? = some p → p.1 ≠ x) : (l.set i (x, n)).find? (fun p => decide (p.1 = x)) = some (x, n) := by
 induction l generalizing i with
 | nil => simp at hi
 | cons a r ih =>
  cases i with
  | zero => rw [List.set_cons_zero, List.find?_cons, decide_eq_true (show (x, n).1 = x from rfl)]
  | succ i =>
   have h1 : a.1 ≠ x := hb 0 a (by omega) rfl
   rw [List.set_cons_succ, List.find?_cons, decide_eq_false h1]
   exact ih (by simpa using hi) fun j p hj hp => hb (j + 1) p (by omega) hp
theorem fput_at {fr : Vs} {x : ByteArray} {n : Int} {i : Nat} {p : ByteArray × Int} (hi : fr[i]? = some p) (hp : p.1 = x) (hb : ∀ j p, j < i → fr[j]? = some p → p.1 ≠ x) : fput fr x n = fr.set i (x, n) := by
 have h : fr.findIdx? (fun p => decide (p.1 = x)) = some i := by
  rw [List.findIdx?_eq_some_iff_getElem]
  obtain ⟨h1, h2⟩ := List.getElem?_eq_some_iff.1 hi
  refine ⟨h1, by rw [h2]; simpa using hp, fun j hj => ?_⟩
  have := hb j _ hj (List.getElem?_eq_getElem (by omega))
  simpa using this
 unfold fput
 rw [h]
theorem fput_no {fr : Vs} {x : ByteArray} {n : Int} (hb : ∀ p ∈ fr, p.1 ≠ x) : fput fr x n = fr ++ [(x, n)] := by
 have h : fr.findIdx? (fun p => decide (p.1 = x)) = none := by
  rw [List.findIdx?_eq_none_iff]
  intro p hp
  simpa using hb p hp
 unfold fput
 rw [h]
theorem vget_fput (fr : Vs) (x y : ByteArray) (n : Int) : vget (fput fr x n) y = if x = y then n else vget fr y := by
 cases h : fr.findIdx? (fun p => decide (p.1 = x)) with
 | none =>
  have hb : ∀ p ∈ fr, p.1 ≠ x := by
   rw [List.findIdx?_eq_none_iff] at h
   intro p hp
   have := h p hp
   simpa using this
  rw [fput_no hb]
  unfold vget
  rw [List.find?_append]
  by_cases hxy : x = y
  ·rw [if_pos hxy]
   subst hxy
   have h2 : fr.find? (fun p => decide (p.1 = x)) = none := List.find?_eq_none.2 fun p hp => by simpa using hb p hp
   rw [h2]
   simp
  ·rw [if_neg hxy]
   cases hf : fr.find? (fun p => decide (p.1 = y)) with
   | some p => rfl
   | none => simp [hxy]
 | some i =>
  rw [List.findIdx?_eq_some_iff_getElem] at h
  obtain ⟨h1, h2, h3⟩ := h
  have h2 : fr[i].1 = x := by simpa using h2
  have hb : ∀ j p, j < i → fr[j]? = some p → p.1 ≠ x := fun j p hj hp => by
   have h4 := h3 j hj
   rw [List.getElem?_eq_getElem (by omega)] at hp
   cases hp
   simpa using h4
  rw [fput_at (List.getElem?_eq_getElem h1) h2 hb]
  unfold vget
  by_cases hxy : x = y
  ·rw [if_pos hxy]
   subst hxy
   rw [find_set_eq h1 hb]
  ·rw [if_neg hxy, find_set_ne (List.getElem?_eq_getElem h1) h2 hxy]
theorem FrEq.put {fr vs : Vs} (h : FrEq fr vs) (x : ByteArray) (n : Int) : FrEq (fput fr x n) (vput vs x n) := fun y => by rw [vget_fput, vget_vput, h y]
theorem fput_len (fr : Vs) (x : ByteArray) (n : Int) : (fput fr x n).length ≤ fr.length + 1 := by
 unfold fput
 split
 ·rw [List.length_set]; omega
 ·rw [List.length_append, List.length_singleton]; omega
theorem names_set {fr : Vs} {i : Nat} {p : ByteArray × Int} {n : Int} (hi : fr[i]? = some p) : (fr.set i (p.1, n)).map Prod.fst = fr.map Prod.fst ∧ (fr.set i (p.1, n)).map Prod.snd = (fr.map Prod.snd).set i n := by
 refine ⟨?_, by rw [List.map_set]⟩
 rw [List.map_set]
 apply List.ext_getElem?
 intro j
 rw [List.getElem?_set]
 split
 ·rename_i h
  subst h
  rw [List.getElem?_map, hi]
  split
  ·rfl
  ·rename_i h2
   rw [List.length_map] at h2
   exact absurd (List.getElem?_eq_some_iff.1 hi).1 h2
 ·rfl
/-- The cells of a frame. -/
def fC (vN vV : SV) (d : Int) (done : Bool) (val : Int) : List Value := [sv vN, sv vV, .int .i64 d, .bool done, .int .u32 val]
abbrev nmF (fr : Vs) : List ByteArray := fr.map Prod.fst
abbrev vlF (fr : Vs) : List Int := fr.map Prod.snd
theorem vget_at {fr : Vs} {x : ByteArray} {i : Nat} {p : ByteArray × Int} (hi : fr[i]? = some p) (hp : p.1 = x) (hb : ∀ j p, j < i → fr[j]? = some p → p.1 ≠ x) : vget fr x = p.2 := by
 have h := fput_at (n := p.2) hi hp hb
 have h2 := vget_fput fr x x p.2
 rw [if_pos rfl, h] at h2
 have h3 : fr.set i (x, p.2) = fr := by
  obtain ⟨q1, q2⟩ := List.getElem?_eq_some_iff.1 hi
  rw [← hp]
  show fr.set i p = fr
  rw [← q2]
  exact List.set_getElem_self q1
 rw [h3] at h2
 exact h2
theorem vget_no {fr : Vs} {x : ByteArray} (hb : ∀ p ∈ fr, p.1 ≠ x) : vget fr x = 0 := by
 unfold vget
 have h2 : fr.find? (fun p => decide (p.1 = x)) = none := List.find?_eq_none.2 fun p hp => by simpa using hb p hp
 rw [h2]
set_option maxHeartbeats 1000000 in
set_option maxRecDepth 100000 in
theorem pay8_er (m : Nat) (vp vi vo : SV) (mem : Nat → Int) (fuel used : Int) (er : Int) (he : er ≠ 0) :
  Spec Tryz.prog 121 [.pointer (some ⟨m, 0, none⟩)] [row m 117 (xC vp vi vo mem fuel used er)] [] (X := Unit) (fun _ => True) (fun _ => .bool false) (fun _ => [row m 117 (xC vp vi vo mem fuel used er)]) (fun _ => []) := by
 refine r_enter Tryz.func121 rfl Tryz.ntmps121 rfl fun w0 M H => ?_
 refine r_seq (r_region (r_p (p_assign rfl) rfl (r_nil (r_seq (r_seq (r_region (r_p (p_move rfl) rfl (r_p (p_nilCheck rfl) rfl ?_))))))))
 refine r_p (p_field0 fo117_6 rfl) rfl ?_
 refine r_p (p_load1 t40 rfl rfl (g_row1 (k := 0) rfl xC_er)) rfl ?_
 refine r_p (p_bin rfl rfl b_ne) rfl ?_
 refine r_nil ?_
 refine r_cond rfl (fun h1 => ?_) (fun h1 => ?_)
 ·refine r_seq (r_region (r_p (p_assign rfl) rfl (r_nil (r_cret ?_))))
  refine r_ret () trivial rfl (rs1 (rv_tmp rfl)) rfl [0] [] rfl rfl rfl
 ·exact absurd h1 (by simp [he])
set_option maxHeartbeats 1000000 in
set_option maxRecDepth 100000 in
theorem pay8_no (m : Nat) (vp vi vo : SV) (mem : Nat → Int) (fuel used : Int) (hf : used ≥ fuel) :
  Spec Tryz.prog 121 [.pointer (some ⟨m, 0, none⟩)] [row m 117 (xC vp vi vo mem fuel used 0)] [] (X := Unit) (fun _ => True) (fun _ => .bool false) (fun _ => [row m 117 (xC vp vi vo mem fuel used 25)]) (fun _ => []) := by
 refine r_enter Tryz.func121 rfl Tryz.ntmps121 rfl fun w0 M H => ?_
 refine r_seq (r_region (r_p (p_assign rfl) rfl (r_nil (r_seq (r_seq (r_region (r_p (p_move rfl) rfl (r_p (p_nilCheck rfl) rfl ?_))))))))
 refine r_p (p_field0 fo117_6 rfl) rfl ?_
 refine r_p (p_load1 t40 rfl rfl (g_row1 (k := 0) rfl xC_er)) rfl ?_
 refine r_p (p_bin rfl rfl b_ne) rfl ?_
 refine r_nil ?_
 refine r_cond rfl (fun h1 => ?_) (fun h1 => ?_)
 ·exact absurd h1 (by simp)
 ·refine r_skip (r_seq (r_seq ?_))
  refine r_draw [8, 9, 10, 11, 12, 13, 14, 15, 16] _ rfl (stg_end (V := [(0, 8, _), (1, 9, _), (2, 10, _), (3, 11, _), (4, 12, _), (5, 13, _), (6, 14, _), (7, 15, _), (8, 16, _)]) [0, 1, 2, 3, 4, 5, 6, 7, 8] rfl rfl (prs_cons (pri rfl (p_move rfl)) (prs_cons (pri rfl (p_nilCheck rfl)) (prs_cons (pri rfl (p_field0 fo117_5 rfl)) (prs_cons (pri rfl (p_load1 t3 rfl rfl (g_row1 (k := 0) rfl xC_used))) (prs_cons (pri rfl (p_move rfl)) (prs_cons (pri rfl (p_nilCheck rfl)) (prs_cons (pri rfl (p_field0 fo117_4 rfl)) (prs_cons (pri rfl (p_load1 t3 rfl rfl (g_row1 (k := 0) rfl xC_fuel))) (prs_cons (pri rfl (p_bin rfl rfl b_ge)) prs_nil))))))))) rfl rfl rfl ?_)
  refine r_cond rfl (fun h2 => ?_) (fun h2 => ?_)
  ·refine r_seq (r_region (r_p (p_move rfl) rfl (r_p (p_nilCheck rfl) rfl ?_)))
   refine r_p (p_field0 fo117_6 rfl) rfl ?_
   refine r_store_row (k := 0) t40 rfl rfl rfl rfl rfl rfl (xC_fit (by decide)) (xC_setEr) ?_
   refine r_nil (r_seq (r_region (r_p (p_assign rfl) rfl (r_nil (r_cret ?_)))))
   refine r_ret () trivial rfl (rs1 (rv_tmp rfl)) rfl [0] [] rfl rfl rfl
  ·exact absurd hf (of_decide_eq_false h2)
set_option maxHeartbeats 1000000 in
set_option maxRecDepth 100000 in
theorem pay8_ok (m : Nat) (vp vi vo : SV) (mem : Nat → Int) (fuel used : Int) (hf : used < fuel) (hu : -9000000000000000000 ≤ used ∧ used ≤ 9000000000000000000) :
  Spec Tryz.prog 121 [.pointer (some ⟨m, 0, none⟩)] [row m 117 (xC vp vi vo mem fuel used 0)] [] (X := Unit) (fun _ => True) (fun _ => .bool true) (fun _ => [row m 117 (xC vp vi vo mem fuel (used + 1) 0)]) (fun _ => []) := by
 refine r_enter Tryz.func121 rfl Tryz.ntmps121 rfl fun w0 M H => ?_
 refine r_seq (r_region (r_p (p_assign rfl) rfl (r_nil (r_seq (r_seq (r_region (r_p (p_move rfl) rfl (r_p (p_nilCheck rfl) rfl ?_))))))))
 refine r_p (p_field0 fo117_6 rfl) rfl ?_
 refine r_p (p_load1 t40 rfl rfl (g_row1 (k := 0) rfl xC_er)) rfl ?_
 refine r_p (p_bin rfl rfl b_ne) rfl ?_
 refine r_nil ?_
 refine r_cond rfl (fun h1 => ?_) (fun h1 => ?_)
 ·exact absurd h1 (by simp)
 ·refine r_skip (r_seq (r_seq ?_))
  refine r_draw [8, 9, 10, 11, 12, 13, 14, 15, 16] _ rfl (stg_end (V := [(0, 8, _), (1, 9, _), (2, 10, _), (3, 11, _), (4, 12, _), (5, 13, _), (6, 14, _), (7, 15, _), (8, 16, _)]) [0, 1, 2, 3, 4, 5, 6, 7, 8] rfl rfl (prs_cons (pri rfl (p_move rfl)) (prs_cons (pri rfl (p_nilCheck rfl)) (prs_cons (pri rfl (p_field0 fo117_5 rfl)) (prs_cons (pri rfl (p_load1 t3 rfl rfl (g_row1 (k := 0) rfl xC_used))) (prs_cons (pri rfl (p_move rfl)) (prs_cons (pri rfl (p_nilCheck rfl)) (prs_cons (pri rfl (p_field0 fo117_4 rfl)) (prs_cons (pri rfl (p_load1 t3 rfl rfl (g_row1 (k := 0) rfl xC_fuel))) (prs_cons (pri rfl (p_bin rfl rfl b_ge)) prs_nil))))))))) rfl rfl rfl ?_)
  refine r_cond rfl (fun h2 => ?_) (fun h2 => ?_)
  ·exact absurd (of_decide_eq_true h2) (by omega)
  ·refine r_skip (r_seq (r_region (r_p (p_move rfl) rfl (r_p (p_nilCheck rfl) rfl ?_))))
   refine r_p (p_field0 fo117_5 rfl) rfl ?_
   refine r_p (p_load1 t3 rfl rfl (g_row1 (k := 0) rfl xC_used)) rfl ?_
   refine r_p (p_bin rfl rfl (b_add (by first | exact w_i64 (by omega) (by omega) | rfl))) rfl ?_
   refine r_p (p_nilCheck rfl) rfl ?_
   refine r_p (p_field0 fo117_5 rfl) rfl ?_
   refine r_store_row (k := 0) t3 rfl rfl rfl rfl rfl rfl (xC_fit (by decide)) (xC_setUsed) ?_
   refine r_nil (r_seq (r_region (r_p (p_assign rfl) rfl (r_nil (r_cret ?_)))))
   refine r_ret () trivial rfl (rs1 (rv_tmp rfl)) rfl [0] [] rfl rfl rfl
set_option maxHeartbeats 2000000 in
set_option maxRecDepth 100000 in
theorem get8_spec (b : Nat) (vN vV : SV) (d : Int) (done : Bool) (val : Int) (fr : Vs) (hfl : (fr.length : Int) ≤ 2000000000000) (x : ByteArray) :
  Spec Tryz.prog 129 [.pointer (some ⟨b, 0, none⟩), .string x] [] [row b 139 (fC vN vV d done val), sl 1 eS (sv vN) (nmF fr), sl 1 eU (sv vV) (vlF fr)] (X := Unit) (fun _ => True) (fun _ => .int .u32 (vget fr x)) (fun _ => []) (fun _ => []) := by
 refine r_enter Tryz.func129 rfl Tryz.ntmps129 rfl fun w0 M H => ?_
 refine r_seq (r_region (r_p (p_assign rfl) rfl (r_nil (r_seq (r_seq (r_region (r_p (p_assign rfl) rfl (r_nil (r_block ?_)))))))))
 refine r_loop (X := Nat) (fun i => i ≤ fr.length ∧ ∀ j p, j < i → fr[j]? = some p → p.1 ≠ x) (fun i => [(0, .pointer (some ⟨b, 0, none⟩)), (1, .string x), (5, .int .i64 (i : Int))]) (fun i => []) (fun i => [(0, row b 139 (fC vN vV d done val)), (1, sl 1 eS (sv vN) (nmF fr)), (2, sl 1 eU (sv vV) (vlF fr))]) (fun i => fr.length - i) 0 ⟨Nat.zero_le _, fun j p h => absurd h (Nat.not_lt_zero _)⟩ rfl rfl rfl (fun i hx0 => ?_)
 obtain ⟨n1, n2⟩ := hx0
 have hlnm : (nmF fr).length = fr.length := List.length_map ..
 refine r_seq (r_seq (r_region (r_p (p_move rfl) rfl (r_p (p_move rfl) rfl (r_p (p_nilCheck rfl) rfl ?_)))))
 refine r_p (p_field0 fo139_0 rfl) rfl ?_
 refine r_p (p_load1 t58 rfl rfl (g_row1R (k := 0) rfl rfl)) rfl ?_
 refine r_p (p_len_sl Tryz.underlying58 rfl (hs_sl (k := 1) rfl)) rfl ?_
 refine r_p (p_bin rfl rfl b_lt) rfl ?_
 refine r_nil ?_
 refine r_cond rfl (fun h1 => ?_) (fun h1 => ?_)
 ·(try simp only [decide_eq_true_eq, decide_eq_false_iff_not, Bool.and_eq_true, Bool.or_eq_true, Bool.and_eq_false_iff, Bool.or_eq_false_iff, Bool.not_eq_true, Bool.not_eq_false, Bool.not_eq_true', Bool.not_eq_false', Bool.not_not, bne_iff_ne, beq_iff_eq] at h1)
  have hi : i < fr.length := by omega
  obtain ⟨p, hp⟩ : ∃ p, fr[i]? = some p := ⟨_, List.getElem?_eq_getElem hi⟩
  have hpn : (nmF fr)[i]? = some p.1 := by rw [List.getElem?_map, hp]; rfl
  have hpv : (vlF fr)[i]? = some p.2 := by rw [List.getElem?_map, hp]; rfl
  have hln : (nmF fr).length = fr.length := List.length_map ..
  have hlv : (vlF fr).length = fr.length := List.length_map ..
  refine r_skip (r_seq (r_block (r_seq (r_region (r_p (p_move rfl) rfl (r_p (p_nilCheck rfl) rfl ?_))))))
  refine r_p (p_field0 fo139_0 rfl) rfl ?_
  refine r_p (p_load1 t58 rfl rfl (g_row1R (k := 0) rfl rfl)) rfl ?_
  refine r_p (p_move rfl) rfl ?_
  refine r_p (p_idx_sl (j := i) Tryz.underlying58 t9 rfl rfl (hs_sl (k := 1) rfl) (by first | rfl | omega) (by omega)) rfl ?_
  refine r_p (p_load1 t9 rfl rfl (g_el' (hs_sl (k := 1) rfl) (by intro _; rfl) hpn (by rfl))) rfl ?_
  refine r_p (p_move rfl) rfl ?_
  refine r_p (p_bin rfl rfl b_seq) rfl ?_
  refine r_nil ?_
  refine r_cond rfl (fun h2 => ?_) (fun h2 => ?_)
  ·have heq : p.1 = x := of_decide_eq_true (by rw [← ba_eq]; exact h2)
   refine r_seq (r_region (r_p (p_move rfl) rfl (r_p (p_nilCheck rfl) rfl ?_)))
   refine r_p (p_field0 fo139_1 rfl) rfl ?_
   refine r_p (p_load1 t23 rfl rfl (g_row1R (k := 0) rfl rfl)) rfl ?_
   refine r_p (p_move rfl) rfl ?_
   refine r_p (p_idx_sl (j := i) Tryz.underlying23 t36 rfl rfl (hs_sl (k := 2) rfl) (by first | rfl | omega) (by omega)) rfl ?_
   refine r_p (p_load1 t36 rfl rfl (g_el' (hs_sl (k := 2) rfl) (by intro _; rfl) hpv (by rfl))) rfl ?_
   refine r_p (p_assign rfl) rfl (r_nil (r_cret ?_))
   refine r_ret () trivial rfl (rs1 (rv_tmp rfl)) (by rw [vget_at hp heq n2]) [] [] rfl rfl rfl
  ·have hne : p.1 ≠ x := of_decide_eq_false (by rw [← ba_eq]; exact h2)
   refine r_skip (r_region (r_p (p_move rfl) rfl ?_))
   refine r_p (p_bin rfl rfl (b_add (by first | exact w_i64 (by omega) (by omega) | rfl))) rfl ?_
   refine r_p (p_assign rfl) rfl (r_nil ?_)
   refine r_here (i + 1) ⟨⟨by omega, fun j q hj hq => by
    by_cases h : j = i
    ·subst h
     rw [hp] at hq
     cases hq
     exact hne
    ·exact n2 j q (by omega) hq⟩, by omega⟩ rfl rfl rfl
 ·(try simp only [decide_eq_true_eq, decide_eq_false_iff_not, Bool.and_eq_true, Bool.or_eq_true, Bool.and_eq_false_iff, Bool.or_eq_false_iff, Bool.not_eq_true, Bool.not_eq_false, Bool.not_eq_true', Bool.not_eq_false', Bool.not_not, bne_iff_ne, beq_iff_eq] at h1)
  have hi : i = fr.length := by omega
  have hall : ∀ p ∈ fr, p.1 ≠ x := fun p hp => by
   obtain ⟨j, hj⟩ := List.getElem?_of_mem hp
   exact n2 j p (by rw [hi]; exact (List.getElem?_eq_some_iff.1 hj).1) hj
  refine r_exit (r_seq (r_region (r_p (p_assign rfl) rfl (r_nil (r_cret ?_)))))
  refine r_ret () trivial rfl (rs1 (rv_tmp rfl)) (by rw [vget_no hall]) [] [] rfl rfl rfl
set_option maxHeartbeats 4000000 in
set_option maxRecDepth 100000 in
theorem set8_spec (b : Nat) (vN vV : SV) (d : Int) (done : Bool) (val : Int) (fr : Vs) (hfl : (fr.length : Int) ≤ 2000000000000) (x : ByteArray) (n : Int) :
  Spec Tryz.prog 84 [.pointer (some ⟨b, 0, none⟩), .string x, .int .u32 n] [row b 139 (fC vN vV d done val), own 9 1 eS (sv vN) (nmF fr), own 36 1 eU (sv vV) (vlF fr)] [] (X := SV × SV) (fun _ => True) (fun _ => .tuple #[]) (fun y => [row b 139 (fC y.1 y.2 d done val), own 9 1 eS (sv y.1) (nmF (fput fr x n)), own 36 1 eU (sv y.2) (vlF (fput fr x n))]) (fun _ => []) := by
 refine r_enter Tryz.func84 rfl Tryz.ntmps84 rfl fun w0 M H => ?_
 refine r_seq (r_seq (r_region (r_p (p_assign rfl) rfl (r_nil (r_block ?_)))))
 refine r_loop (X := Nat) (fun i => i ≤ fr.length ∧ ∀ j p, j < i → fr[j]? = some p → p.1 ≠ x) (fun i => [(0, .pointer (some ⟨b, 0, none⟩)), (1, .string x), (2, .int .u32 n), (6, .int .i64 (i : Int))]) (fun i => [(0, row b 139 (fC vN vV d done val)), (1, own 9 1 eS (sv vN) (nmF fr)), (2, own 36 1 eU (sv vV) (vlF fr))]) (fun i => []) (fun i => fr.length - i) 0 ⟨Nat.zero_le _, fun j p h => absurd h (Nat.not_lt_zero _)⟩ rfl rfl rfl (fun i hx0 => ?_)
 obtain ⟨n1, n2⟩ := hx0
 have hlnm : (nmF fr).length = fr.length := List.length_map ..
 refine r_seq (r_seq (r_region (r_p (p_move rfl) rfl (r_p (p_move rfl) rfl (r_p (p_nilCheck rfl) rfl ?_)))))
 refine r_p (p_field0 fo139_0 rfl) rfl ?_
 refine r_p (p_load1 t58 rfl rfl (g_row1 (k := 0) rfl rfl)) rfl ?_
 refine r_p (p_len_sl Tryz.underlying58 rfl (hs_own (k := 1) rfl)) rfl ?_
 refine r_p (p_bin rfl rfl b_lt) rfl ?_
 refine r_nil ?_
 refine r_cond rfl (fun h1 => ?_) (fun h1 => ?_)
 ·(try simp only [decide_eq_true_eq, decide_eq_false_iff_not, Bool.and_eq_true, Bool.or_eq_true, Bool.and_eq_false_iff, Bool.or_eq_false_iff, Bool.not_eq_true, Bool.not_eq_false, Bool.not_eq_true', Bool.not_eq_false', Bool.not_not, bne_iff_ne, beq_iff_eq] at h1)
  have hi : i < fr.length := by omega
  obtain ⟨p, hp⟩ : ∃ p, fr[i]? = some p := ⟨_, List.getElem?_eq_getElem hi⟩
  have hpn : (nmF fr)[i]? = some p.1 := by rw [List.getElem?_map, hp]; rfl
  have hpv : (vlF fr)[i]? = some p.2 := by rw [List.getElem?_map, hp]; rfl
  have hln : (nmF fr).length = fr.length := List.length_map ..
  have hlv : (vlF fr).length = fr.length := List.length_map ..
  refine r_skip (r_seq (r_block (r_seq (r_region (r_p (p_move rfl) rfl (r_p (p_nilCheck rfl) rfl ?_))))))
  refine r_p (p_field0 fo139_0 rfl) rfl ?_
  refine r_p (p_load1 t58 rfl rfl (g_row1 (k := 0) rfl rfl)) rfl ?_
  refine r_p (p_move rfl) rfl ?_
  refine r_p (p_idx_sl (j := i) Tryz.underlying58 t9 rfl rfl (hs_own (k := 1) rfl) (by first | rfl | omega) (by omega)) rfl ?_
  refine r_p (p_load1 t9 rfl rfl (g_el' (hs_own (k := 1) rfl) (by intro _; rfl) hpn (by rfl))) rfl ?_
  refine r_p (p_move rfl) rfl ?_
  refine r_p (p_bin rfl rfl b_seq) rfl ?_
  refine r_nil ?_
  refine r_cond rfl (fun h2 => ?_) (fun h2 => ?_)
  ·have heq : p.1 = x := of_decide_eq_true (by rw [← ba_eq]; exact h2)
   refine r_seq (r_region (r_p (p_move rfl) rfl (r_p (p_nilCheck rfl) rfl ?_)))
   refine r_p (p_field0 fo139_1 rfl) rfl ?_
   refine r_p (p_load1 t23 rfl rfl (g_row1 (k := 0) rfl rfl)) rfl ?_
   refine r_p (p_move rfl) rfl (r_p (p_move rfl) rfl ?_)
   refine r_p (p_idx_sl (j := i) Tryz.underlying23 t36 rfl rfl (hs_own (k := 2) rfl) (by first | rfl | omega) (by omega)) rfl ?_
   refine r_store_el (k := 2) (e' := n) t36 rfl rfl rfl (by intro _; rfl) hpv rfl rfl ?_
   refine r_nil (r_cret ?_)
   have hfin := fput_at (n := n) hp heq n2
   obtain ⟨hs1, hs2⟩ := names_set (n := n) hp
   rw [heq] at hs1 hs2
   refine r_conva (k := 1) (A' := own 9 1 eS (sv vN) (nmF (fput fr x n))) rfl (fun _ _ h => by rw [hfin]; show (own 9 1 eS (sv vN) ((fr.set i (x, n)).map Prod.fst)).pred _ _; rw [hs1]; exact h) ?_
   refine r_conva (k := 2) (A' := own 36 1 eU (sv vV) (vlF (fput fr x n))) rfl (fun _ _ h => by rw [hfin]; show (own 36 1 eU (sv vV) ((fr.set i (x, n)).map Prod.snd)).pred _ _; rw [hs2]; exact h) ?_
   refine r_ret (vN, vV) trivial rfl rs0 rfl [0, 1, 2] [] rfl rfl rfl
  ·have hne : p.1 ≠ x := of_decide_eq_false (by rw [← ba_eq]; exact h2)
   refine r_skip (r_region (r_p (p_move rfl) rfl ?_))
   refine r_p (p_bin rfl rfl (b_add (by first | exact w_i64 (by omega) (by omega) | rfl))) rfl ?_
   refine r_p (p_assign rfl) rfl (r_nil ?_)
   refine r_here (i + 1) ⟨⟨by omega, fun j q hj hq => by
    by_cases h : j = i
    ·subst h
     rw [hp] at hq
     cases hq
     exact hne
    ·exact n2 j q (by omega) hq⟩, by omega⟩ rfl rfl rfl
 ·(try simp only [decide_eq_true_eq, decide_eq_false_iff_not, Bool.and_eq_true, Bool.or_eq_true, Bool.and_eq_false_iff, Bool.or_eq_false_iff, Bool.not_eq_true, Bool.not_eq_false, Bool.not_eq_true', Bool.not_eq_false', Bool.not_not, bne_iff_ne, beq_iff_eq] at h1)
  have hi : i = fr.length := by omega
  have hall : ∀ p ∈ fr, p.1 ≠ x := fun p hp => by
   obtain ⟨j, hj⟩ := List.getElem?_of_mem hp
   exact n2 j p (by rw [hi]; exact (List.getElem?_eq_some_iff.1 hj).1) hj
  refine r_exit (r_seq (r_region (r_p (p_move rfl) rfl (r_p (p_move rfl) rfl (r_p (p_nilCheck rfl) rfl ?_)))))
  refine r_p (p_field0 fo139_0 rfl) rfl ?_
  refine r_p (p_load1 t58 rfl rfl (g_row1 (k := 0) rfl rfl)) rfl ?_
  refine r_p (p_move rfl) rfl ?_
  refine r_bslice1 eS x Tryz.underlying58 t9 rfl (by decide) (by decide) rfl rfl rfl rfl fun v38 => ?_
  refine r_append 1 Tryz.underlying58 t9 rfl (by decide) (fun _ => rfl) (fun _ => rfl) rfl rfl rfl (hs_own (k := 38) rfl) (by simp only [List.length_map, List.length_singleton]; omega) (by unfold maxLen; simp only [List.length_map, List.length_singleton]; omega) rfl fun v39 => ?_
  refine r_p (p_nilCheck rfl) rfl ?_
  refine r_p (p_field0 fo139_0 rfl) rfl ?_
  refine r_store_row (k := 0) t58 rfl rfl rfl rfl rfl rfl rfl rfl ?_
  refine r_nil (r_region (r_p (p_move rfl) rfl (r_p (p_move rfl) rfl (r_p (p_nilCheck rfl) rfl ?_))))
  refine r_p (p_field0 fo139_1 rfl) rfl ?_
  refine r_p (p_load1 t23 rfl rfl (g_row1 (k := 0) rfl rfl)) rfl ?_
  refine r_p (p_move rfl) rfl ?_
  refine r_bslice1 eU n Tryz.underlying23 t36 rfl (by decide) (by decide) rfl rfl rfl rfl fun v48 => ?_
  refine r_append 2 Tryz.underlying23 t36 rfl (by decide) (fun _ => rfl) (fun _ => rfl) rfl rfl rfl (hs_own (k := 48) rfl) (by simp only [List.length_map, List.length_singleton]; omega) (by unfold maxLen; simp only [List.length_map, List.length_singleton]; omega) rfl fun v49 => ?_
  refine r_p (p_nilCheck rfl) rfl ?_
  refine r_p (p_field0 fo139_1 rfl) rfl ?_
  refine r_store_row (k := 0) t23 rfl rfl rfl rfl rfl rfl rfl rfl ?_
  refine r_nil ?_
  have hfin := fput_no (n := n) hall
  refine r_conva (k := 1) (A' := own 9 1 eS (sv v39) (nmF (fput fr x n))) rfl (fun _ _ h => by rw [hfin, show nmF (fr ++ [(x, n)]) = nmF fr ++ [x] from List.map_append ..]; exact h) ?_
  refine r_conva (k := 2) (A' := own 36 1 eU (sv v49) (vlF (fput fr x n))) rfl (fun _ _ h => by rw [hfin, show vlF (fr ++ [(x, n)]) = vlF fr ++ [n] from List.map_append ..]; exact h) ?_
  refine r_end (v39, v49) trivial rfl rs0 rfl [0, 1, 2] [] rfl rfl rfl
theorem evK_nil {g : Nat} {fs : List Tf} {d : Nat} {vs : Vs} {acc : List Int} {s : Ms} {rk : Re (List Int)} (h : evK g fs d vs acc [] s = some rk) : rk = .ok acc s := by
 cases g with
 | zero => simp [evK] at h
 | succ g =>
  simp only [evK, Option.some.injEq] at h
  exact h.symm
theorem evK_cons {g : Nat} {fs : List Tf} {d : Nat} {vs : Vs} {acc : List Int} {t : Tx} {r : List Tx} {s : Ms} {rk : Re (List Int)} (h : evK g fs d vs acc (t :: r) s = some rk) :
  ∃ g2 rx, g = g2 + 1 ∧ evX g2 fs d vs t s = some rx ∧ (∀ z, rx = .err z → rk = .err z) ∧ ∀ v s1, rx = .ok v s1 → evK g2 fs d vs (acc ++ [v]) r s1 = some rk := by
 cases g with
 | zero => simp [evK] at h
 | succ g =>
  unfold evK at h
  cases hx : evX g fs d vs t s with
  | none => rw [hx] at h; simp at h
  | some rx =>
   rw [hx] at h
   refine ⟨g, rx, rfl, hx, fun z hz => ?_, fun v s1 hv => ?_⟩
   ·subst hz
    exact (Option.some.inj h).symm
   ·subst hv
    exact h
theorem all_snoc {l : List Int} (h : ∀ a ∈ l, oW a) {v : Int} (hv : oW v) : ∀ a ∈ l ++ [v], oW a := fun a ha => by
 rcases List.mem_append.1 ha with ha | ha
 ·exact h a ha
 ·rw [List.mem_singleton.1 ha]; exact hv
theorem drop_kid {α : Type} {l : List α} {i : Nat} {k : α} (h : l[i]? = some k) : l.drop i = k :: l.drop (i + 1) := by
 obtain ⟨hi, hk⟩ := List.getElem?_eq_some_iff.1 h
 rw [List.drop_eq_getElem_cons hi, hk]
theorem vget_val (vs : Vs) (x : ByteArray) : ((vs.find? (fun p => decide (Prod.fst p = x))).map vU).getD (.int .u32 0) = .int .u32 (vget vs x) := by
 unfold vget
 cases vs.find? (fun p => decide (Prod.fst p = x)) <;> rfl
theorem VX_kids {fs : List Tf} {t : Tx} (h : VX fs t) : VXs fs t.kids := by cases t; exact h.2.2.2.2.2.2
theorem VX_len {fs : List Tf} {t : Tx} (h : VX fs t) : t.kids.length ≤ 1000000 := by cases t; exact h.2.1
theorem VX_mem {fs : List Tf} {t : Tx} (h : VX fs t) (hk : t.kind = 4) : 1 ≤ t.kids.length := by cases t; exact h.2.2.1 hk
theorem VX_un {fs : List Tf} {t : Tx} (h : VX fs t) (hk : t.kind = 6) : 1 ≤ t.kids.length ∧ ∀ a, (unF t.name a).isSome = true := by cases t; exact h.2.2.2.1 hk
theorem VX_bi {fs : List Tf} {t : Tx} (h : VX fs t) (hk : t.kind = 7) : 2 ≤ t.kids.length ∧ ∀ a b, (biF t.name a b).isSome = true := by cases t; exact h.2.2.2.2.1 hk
theorem VX_call {fs : List Tf} {t : Tx} (h : VX fs t) (h1 : ¬ t.kind = 1) (h2 : ¬ t.kind = 2) (h4 : ¬ t.kind = 4) (h5 : ¬ t.kind = 5) (h6 : ¬ t.kind = 6) (h7 : ¬ t.kind = 7) : ∃ f, ffind fs t.name = some f ∧ t.kids.length ≤ f.ps.length := by cases t; exact h.2.2.2.2.2.1 h1 h2 h4 h5 h6 h7
/-- The state of the loop over the parts of an expression. -/
structure Xk where
 i : Nat
 g : Nat
 acc : List Int
 s : Ms
 vo : SV
 va : SV
set_option maxHeartbeats 16000000 in
set_option maxRecDepth 100000 in
theorem expr_ok (e : En) (g : Nat) (hF : VF e.fs) (ihX : ∀ k, k ≤ g → HX e k) (ihC : ∀ k, k ≤ g → HC e k) (t : Tx) (d vb : Nat) (vs : Vs) (s : Ms) (vo : SV) (r : Re Int) (ht : VX e.fs t) (hd : d ≤ 12) (hs : Sk e vs s) (hr : evX (g + 1) e.fs d vs t s = some r) (hfu : ¬ s.fuel ≤ 0) :
  SpecE Tryz.prog 120 [.pointer (some ⟨e.m, 0, none⟩), xV t, .map (some vb)] [row e.m 101 (mR e s vo d false 0), own 36 1 eU (sv vo) s.out] (mp mkS Prod.fst vU (some vb) vs :: txsA t.v t.kids :: RO e) (X := Oc Int) (fun o => o.fits r) (fun o => oX o) (fun o => lX e d o) (fun _ => []) := by
 refine r_enterE Tryz.func120 rfl Tryz.ntmps120 rfl fun w0 M H => ?_
 unfold evX at hr
 rw [if_neg hfu] at hr
 obtain ⟨s1, hs1⟩ : ∃ s1 : Ms, ({ s with fuel := s.fuel - 1 } : Ms) = s1 := ⟨_, rfl⟩
 have hp := Kp.pay hs.ok hfu
 have hmR : mC e.mf e.mu e.mb (itv e.vin (e.ins.length - s.inp.length)) vo s.mem (s.fuel - 1) (d : Int) false 0 = mR e s1 vo d false 0 := by rw [← hs1]; rfl
 have hso : s.out = s1.out := by rw [← hs1]
 rw [hs1] at hr hp
 have h51 := hs.kp hp
 obtain ⟨rk, hk⟩ : ∃ rk, evK g e.fs d vs [] t.kids s1 = some rk := by
  cases h : evK g e.fs d vs [] t.kids s1 with
  | none => rw [h] at hr; simp at hr
  | some q => exact ⟨q, rfl⟩
 rw [hk] at hr
 have htk := VX_kids ht
 have htl := VX_len ht
 refine r_more 1 7 rfl txs_sl ?_
 refine r_seq (r_region ?_)
 refine r_boxA rfl rfl fun b4 => ?_
 refine r_p (p_assign rfl) rfl (r_nil (r_seq (r_region (r_p (p_move rfl) rfl ?_))))
 refine r_call (xs := [.tmp 11]) (pay_ok e.m e.mf e.mu e.mb (itv e.vin (e.ins.length - s.inp.length)) vo s.mem s.fuel (d : Int) false 0 hfu hs.ok.fuel) cb119 [0] [] [0] [] rfl rfl rfl rfl rfl rfl rfl rfl (fun _ _ => rfl) (fun _ _ _ => rfl) rfl (fun _ _ => ?_)
 rw [hmR]
 refine r_nilown 90 (α := Int) (S := 36) (s := 1) (enc := eU) ?_
 refine r_nil (r_seq (r_region (r_p (p_assign rfl) rfl (r_nil (r_seq (r_seq (r_region ?_)))))))
 refine r_p (p_field0 fo48_3 rfl) rfl ?_
 refine r_p (p_load1 t46 rfl rfl (g_row1 (k := 4) rfl rfl)) rfl ?_
 refine r_p (p_len_sl Tryz.underlying46 rfl (hs_sl (k := 7) rfl)) rfl ?_
 refine r_p (p_move rfl) rfl (r_nil (r_block ?_))
 refine r_loop (X := Xk) (fun x => x.i ≤ t.kids.length ∧ x.g ≤ g ∧ x.acc.length = x.i ∧ (∀ a ∈ x.acc, oW a) ∧ Sk e vs x.s ∧ evK x.g e.fs d vs x.acc (t.kids.drop x.i) x.s = some rk) (fun x => [(0, .pointer (some ⟨e.m, 0, none⟩)), (2, .map (some vb)), (4, .pointer (some ⟨b4, 0, none⟩)), (7, sv x.va), (14, sv t.v), (15, .int .i64 (t.kids.length : Int)), (16, .int .i64 (x.i : Int))]) (fun x => [(0, row e.m 101 (mR e x.s x.vo d false 0)), (1, own 36 1 eU (sv x.vo) x.s.out), (4, row b4 48 (eTx t)), (90, own 36 1 eU (sv x.va) x.acc)]) (fun x => [(0, mp mkS Prod.fst vU (some vb) vs), (1, txsA t.v t.kids), (2, fnsA e.fs), (3, mp mkS Tf.name tfV (some e.mf) e.fs), (4, mp mkS Prod.fst vF (some e.mu) uL), (5, mp mkS Prod.fst vF (some e.mb) bL), (6, sl 1 eU (sv e.vin) e.ins), (7, sl 4 eTx (sv t.v) t.kids)]) (fun x => t.kids.length - x.i) ⟨0, g, [], s1, vo, nilS⟩ ⟨Nat.zero_le _, Nat.le_refl _, rfl, by simp, h51, hk⟩ rfl (by rw [hso]; rfl) rfl (fun x hx0 => ?_)
 obtain ⟨i, gx, acc, sx, vox, va⟩ := x
 obtain ⟨n1, n2, n3, n4, n5, n6⟩ := hx0
 dsimp only at n1 n2 n3 n4 n5 n6 ⊢
 refine r_seq (r_region ?_)
 refine r_p (p_bin rfl rfl b_lt) rfl ?_
 refine r_nil (r_seq ?_)
 refine r_cond rfl (fun h1 => ?_) (fun h1 => ?_)
 ·(try simp only [decide_eq_true_eq, decide_eq_false_iff_not, Bool.and_eq_true, Bool.or_eq_true, Bool.and_eq_false_iff, Bool.or_eq_false_iff, Bool.not_eq_true, Bool.not_eq_false, Bool.not_eq_true', Bool.not_eq_false', Bool.not_not, bne_iff_ne, beq_iff_eq] at h1)
  have hi : i < t.kids.length := by omega
  obtain ⟨kid, hkid⟩ : ∃ k, t.kids[i]? = some k := ⟨_, List.getElem?_eq_getElem hi⟩
  rw [drop_kid hkid] at n6
  obtain ⟨g2, rx, rfl, hx, hre, hro⟩ := evK_cons n6
  have hkm := List.mem_of_getElem? hkid
  have hvk := htk.mem kid hkm
  refine r_skip (r_seq (r_block (r_seq (r_region ?_))))
  refine r_p (p_idx_sl (j := i) Tryz.underlying46 t48 rfl rfl (hs_sl (k := 7) rfl) (by first | rfl | omega) (by first | omega | (simp; done) | (simp; omega))) rfl ?_
  refine r_p (p_loadA t48 rfl rfl rfl (g_el' (hs_sl (k := 7) rfl) (by intro _; rfl) hkid (by rfl))) rfl ?_
  refine r_alloc t48 rfl rfl fun b9 => ?_
  refine r_store_all (k := 9) t48 rfl rfl rfl rfl rfl rfl ?_
  refine r_nil (r_region (r_p (p_move rfl) rfl (r_p (p_move rfl) rfl ?_)))
  refine r_p (p_loadA t48 rfl rfl rfl (g_all (k := 9) rfl)) rfl ?_
  refine r_p (p_move rfl) rfl ?_
  refine r_more 1 8 rfl (txs_kid hkm) ?_
  refine r_callE (xs := [.tmp 21, .tmp 22, .tmp 23]) (ihX g2 (by omega) kid d vb vs sx vox rx hvk hd n5 hx) cb120 [0, 1] [(false, 0), (false, 8), (false, 2), (false, 3), (false, 4), (false, 5), (false, 6)] [0, 1] [] rfl rfl rfl rfl rfl rfl rfl rfl (fun o _ => lX_len o) (fun _ _ _ => rfl) rfl (fun o ho => ?_)
  rcases o with ⟨v, s2, vo2⟩ | ⟨z, c, vo2, l⟩
  rotate_left
  ·refine aft_pan ?_
   have hz : rx = .err z := ho
   have hq : rk = .err z := hre z hz
   subst hq
   show At _ _ _ _ _ _ _ (bodyPost Tryz.prog Tryz.f120 _ (.panic _))
   refine r_out (Oc.er z c vo2 l) (Option.some.inj hr).symm rfl [0, 1] [] rfl rfl rfl
  refine aft_ret ?_
  have hz : rx = .ok v s2 := ho
  have hq := hro v s2 hz
  rw [hz] at hx
  obtain ⟨hv1, hv2⟩ := (ev_ok hF g2).x d vs kid sx v s2 hvk n5.v n5.ok hx
  have h5b := n5.kp hv2
  refine r_bslice1 eU _ Tryz.underlying23 t36 rfl (by decide) (by decide) rfl rfl rfl rfl fun v25 => ?_
  refine r_append 90 Tryz.underlying23 t36 rfl (by decide) (fun _ => rfl) (fun _ => rfl) rfl rfl rfl (hs_own (k := 25) rfl) (by first | omega | (simp; done) | (simp; omega)) (by unfold maxLen; first | omega | (simp; done) | (simp; omega)) rfl fun v26 => ?_
  refine r_p (p_assign rfl) rfl (r_nil (r_region ?_))
  refine r_p (p_bin rfl rfl (b_add (by first | exact w_i64 (by omega) (by omega) | rfl))) rfl ?_
  refine r_p (p_move rfl) rfl (r_nil ?_)
  refine r_here ⟨i + 1, g2, acc ++ [v], s2, vo2, v26⟩ ⟨⟨by dsimp only; omega, by dsimp only; omega, by dsimp only; rw [List.length_append, List.length_singleton]; omega, all_snoc n4 hv1, h5b, hq⟩, by dsimp only; omega⟩ rfl rfl rfl
 ·(try simp only [decide_eq_true_eq, decide_eq_false_iff_not, Bool.and_eq_true, Bool.or_eq_true, Bool.and_eq_false_iff, Bool.or_eq_false_iff, Bool.not_eq_true, Bool.not_eq_false, Bool.not_eq_true', Bool.not_eq_false', Bool.not_not, bne_iff_ne, beq_iff_eq] at h1)
  have hi : i = t.kids.length := by omega
  rw [List.drop_of_length_le (by omega)] at n6
  have hq := evK_nil n6
  subst hq
  dsimp only at hr
  have h7 := getD_oW n4 0
  refine r_exit (r_seq (r_seq (r_region ?_)))
  refine r_p (p_field0 fo48_0 rfl) rfl ?_
  refine r_p (p_load1 t3 rfl rfl (g_row1 (k := 4) rfl rfl)) rfl ?_
  refine r_nil (r_block (r_seq (r_region ?_)))
  refine r_p (p_bin rfl rfl b_eq) rfl ?_
  refine r_p (p_assign rfl) rfl (r_nil ?_)
  refine r_cond rfl (fun h2 => ?_) (fun h2 => ?_)
  ·have q1 : t.kind = 1 := of_decide_eq_true h2
   rw [if_pos q1] at hr
   refine r_seq (r_region ?_)
   refine r_p (p_field0 fo48_1 rfl) rfl ?_
   refine r_p (p_load1 t36 rfl rfl (g_row1 (k := 4) rfl rfl)) rfl ?_
   refine r_p (p_assign rfl) rfl (r_nil (r_cret ?_))
   refine r_retE (Oc.ok t.n sx vox) (Option.some.inj hr).symm rfl (rs1 (rv_tmp rfl)) rfl [0, 1] [] rfl rfl rfl
  ·have q1 : ¬ t.kind = 1 := of_decide_eq_false h2
   rw [if_neg q1] at hr
   refine r_seq (r_region ?_)
   refine r_p (p_bin rfl rfl b_eq) rfl ?_
   refine r_p (p_assign rfl) rfl (r_nil ?_)
   refine r_cond rfl (fun h3 => ?_) (fun h3 => ?_)
   ·have q2 : t.kind = 2 := of_decide_eq_true h3
    rw [if_pos q2] at hr
    refine r_seq (r_region (r_p (p_move rfl) rfl ?_))
    refine r_p (p_field0 fo48_2 rfl) rfl ?_
    refine r_p (p_load1 t9 rfl rfl (g_row1 (k := 4) rfl rfl)) rfl ?_
    refine r_p (p_lookup Tryz.underlying133 keyS t36 rfl rfl (hm_ro (k := 0) rfl) rfl) rfl ?_
    refine r_p (p_assign rfl) rfl (r_nil (r_cret ?_))
    refine r_retE (Oc.ok (vget vs t.name) sx vox) (Option.some.inj hr).symm rfl (rs1 (rv_tmp rfl)) (congrArg Fin.ret (vget_val vs t.name)) [0, 1] [] rfl rfl rfl
   ·have q2 : ¬ t.kind = 2 := of_decide_eq_false h3
    rw [if_neg q2] at hr
    refine r_seq (r_region ?_)
    refine r_p (p_bin rfl rfl b_eq) rfl ?_
    refine r_p (p_assign rfl) rfl (r_nil ?_)
    refine r_cond rfl (fun h4 => ?_) (fun h4 => ?_)
    ·have q4 : t.kind = 4 := of_decide_eq_true h4
     rw [if_pos q4] at hr
     have hm1 := VX_mem ht q4
     refine r_seq ?_
     refine r_draw [42, 43, 44, 45, 46, 47, 48, 49, 50, 6] _ rfl (stg_end (V := [(0, 42, _), (1, 43, _), (2, 44, _), (3, 45, _), (4, 46, _), (5, 47, _), (6, 48, _), (7, 49, _), (8, 50, _), (9, 6, _)]) [0, 1, 2, 3, 4, 5, 6, 7, 8, 9] rfl rfl (prs_cons (pri rfl (p_move rfl)) (prs_cons (pri rfl (p_move rfl)) (prs_cons (pri rfl (p_idx_sl (j := 0) Tryz.underlying23 t36 rfl rfl (hs_own (k := 90) rfl) rfl (by omega))) (prs_cons (pri rfl (p_load1 t36 rfl rfl (g_el' (hs_own (k := 90) rfl) (by intro _; rfl) (getD_get 0 (by omega)) (by rfl)))) (prs_cons (pri rfl (p_bin rfl rfl (b_rem (by decide) (tmod_u32 h7)))) (prs_cons (pri rfl (p_nilCheck rfl)) (prs_cons (pri rfl (p_field0 fo101_5 rfl)) (prs_cons (pri rfl (p_idx_arr (j := (acc.getD 0 0 % 256).toNat) Tryz.underlying99 t36 rfl rfl (by omega) (by omega))) (prs_cons (pri rfl (p_load1 t36 rfl rfl (g_row1 (k := 0) rfl (by rw [Nat.mul_one]; exact mC_mem (by omega))))) (prs_cons (pri rfl (p_assign rfl)) prs_nil)))))))))) rfl rfl rfl ?_)
     refine r_cret ?_
     refine r_retE (Oc.ok (sx.mem (acc.getD 0 0 % 256).toNat) sx vox) (Option.some.inj hr).symm rfl (rs1 (rv_tmp rfl)) rfl [0, 1] [] rfl rfl rfl
    ·have q4 : ¬ t.kind = 4 := of_decide_eq_false h4
     rw [if_neg q4] at hr
     refine r_seq (r_region ?_)
     refine r_p (p_bin rfl rfl b_eq) rfl ?_
     refine r_p (p_assign rfl) rfl (r_nil ?_)
     refine r_cond rfl (fun h5 => ?_) (fun h5 => ?_)
     ·have q5 : t.kind = 5 := of_decide_eq_true h5
      rw [if_pos q5] at hr
      refine r_more 6 9 rfl (ins_now n5.i) ?_
      refine r_seq (r_seq (r_region (r_p (p_move rfl) rfl (r_p (p_nilCheck rfl) rfl ?_))))
      refine r_p (p_field0 fo101_3 rfl) rfl ?_
      refine r_p (p_load1 t23 rfl rfl (g_row1 (k := 0) rfl rfl)) rfl ?_
      refine r_p (p_len_sl Tryz.underlying23 rfl (hs_sl (k := 9) rfl)) rfl ?_
      refine r_p (p_bin rfl rfl b_eq) rfl ?_
      refine r_nil ?_
      refine r_cond rfl (fun h6 => ?_) (fun h6 => ?_)
      ·(try simp only [decide_eq_true_eq, decide_eq_false_iff_not, Bool.and_eq_true, Bool.or_eq_true, Bool.and_eq_false_iff, Bool.or_eq_false_iff, Bool.not_eq_true, Bool.not_eq_false, Bool.not_eq_true', Bool.not_eq_false', Bool.not_not, bne_iff_ne, beq_iff_eq] at h6)
       have qi : sx.inp = [] := List.eq_nil_of_length_eq_zero (by omega)
       rw [qi] at hr
       refine r_seq (r_region (r_p (p_assign rfl) rfl (r_nil (r_cret ?_))))
       refine r_retE (Oc.ok 0 sx vox) (Option.some.inj hr).symm rfl (rs1 (rv_tmp rfl)) rfl [0, 1] [] rfl rfl rfl
      ·(try simp only [decide_eq_true_eq, decide_eq_false_iff_not, Bool.and_eq_true, Bool.or_eq_true, Bool.and_eq_false_iff, Bool.or_eq_false_iff, Bool.not_eq_true, Bool.not_eq_false, Bool.not_eq_true', Bool.not_eq_false', Bool.not_not, bne_iff_ne, beq_iff_eq] at h6)
       obtain ⟨a, rest, qi⟩ : ∃ a rest, sx.inp = a :: rest := by
        cases h : sx.inp with
        | nil => rw [h] at h6; simp at h6
        | cons a r => exact ⟨a, r, rfl⟩
       rw [qi] at hr
       refine r_skip (r_seq (r_region (r_p (p_move rfl) rfl (r_p (p_nilCheck rfl) rfl ?_))))
       refine r_p (p_field0 fo101_3 rfl) rfl ?_
       refine r_p (p_load1 t23 rfl rfl (g_row1 (k := 0) rfl rfl)) rfl ?_
       refine r_p (p_idx_sl (j := 0) Tryz.underlying23 t36 rfl rfl (hs_sl (k := 9) rfl) rfl (by rw [qi]; simp)) rfl ?_
       refine r_p (p_load1 t36 rfl rfl (g_el' (hs_sl (k := 9) rfl) (by intro _; rfl) (show sx.inp[0]? = some a by rw [qi]; rfl) (by rfl))) rfl ?_
       refine r_p (p_assign rfl) rfl (r_nil (r_seq (r_region (r_p (p_move rfl) rfl (r_p (p_move rfl) rfl (r_p (p_nilCheck rfl) rfl ?_))))))
       refine r_p (p_field0 fo101_3 rfl) rfl ?_
       refine r_p (p_load1 t23 rfl rfl (g_row1 (k := 0) rfl rfl)) rfl ?_
       refine r_p (p_slice_lo (j := 1) Tryz.underlying23 t36 rfl rfl (hs_sl (k := 9) rfl) rfl (by rw [qi]; simp)) rfl ?_
       refine r_p (p_nilCheck rfl) rfl ?_
       refine r_p (p_field0 fo101_3 rfl) rfl ?_
       refine r_store_row (k := 0) t23 rfl rfl rfl rfl rfl rfl (mC_fit (by decide)) (mC_setIn) ?_
       refine r_conva (k := 0) (A' := row e.m 101 (mR e { sx with inp := rest } vox d false 0)) rfl (fun _ _ h => by rw [← mR_in n5.i qi]; exact h) ?_
       refine r_nil (r_seq (r_region (r_p (p_move rfl) rfl (r_p (p_assign rfl) rfl (r_nil (r_cret ?_))))))
       refine r_retE (Oc.ok a { sx with inp := rest } vox) (Option.some.inj hr).symm rfl (rs1 (rv_tmp rfl)) rfl [0, 1] [] rfl rfl rfl
     ·have q5 : ¬ t.kind = 5 := of_decide_eq_false h5
      rw [if_neg q5] at hr
      refine r_seq (r_region ?_)
      refine r_p (p_bin rfl rfl b_eq) rfl ?_
      refine r_p (p_assign rfl) rfl (r_nil ?_)
      refine r_cond rfl (fun h7 => ?_) (fun h7 => ?_)
      ·have q6 : t.kind = 6 := of_decide_eq_true h7
       rw [if_pos q6] at hr
       obtain ⟨hu0, hu1⟩ := VX_un ht q6
       obtain ⟨u, hu⟩ := Option.isSome_iff_exists.1 (hu1 (acc.getD 0 0))
       have hul := UnLaw_all t.name (acc.getD 0 0) (getD_oW n4 0)
       unfold UnLaw at hul
       rw [hu] at hul hr
       obtain ⟨p, hun, hcb, hsu⟩ := hul
       refine r_seq ?_
       refine r_draw [76, 77, 78, 79, 80, 81, 82, 83, 84, 85, 86, 6] _ rfl (stg_mem (V := [(0, 76, _), (1, 77, _), (2, 78, _), (3, 79, _), (4, 80, _), (5, 81, _), (6, 82, _), (7, 83, _), (8, 84, _), (9, 85, _)]) [0, 1, 2, 3, 4, 5, 6, 7, 8, 9] 10 [10, 9, 8, 7, 6, 5, 4, 3, 2, 1, 0] [11] (fun _ => [(11, 6, _)]) rfl rfl (prs_cons (pri rfl (p_move rfl)) (prs_cons (pri rfl (p_nilCheck rfl)) (prs_cons (pri rfl (p_field0 fo101_1 rfl)) (prs_cons (pri rfl (p_load1 t95 rfl rfl (g_row1 (k := 0) rfl rfl))) (prs_cons (pri rfl (p_field0 fo48_2 rfl)) (prs_cons (pri rfl (p_load1 t9 rfl rfl (g_row1 (k := 4) rfl rfl))) (prs_cons (pri rfl (p_lookup Tryz.underlying95 keyS t113 rfl rfl (hm_ro (k := 4) rfl) hun)) (prs_cons (pri rfl (p_move rfl)) (prs_cons (pri rfl (p_idx_sl (j := 0) Tryz.underlying23 t36 rfl rfl (hs_own (k := 90) rfl) rfl (by omega))) (prs_cons (pri rfl (p_load1 t36 rfl rfl (g_el' (hs_own (k := 90) rfl) (by intro _; rfl) (getD_get 0 (by omega)) (by rfl)))) prs_nil)))))))))) rfl rfl rfl rfl rfl rfl rfl rfl rfl rfl rfl (fun _ _ => rfl) rfl (ms_call (xs := [.tmp 85]) hsu hcb [] [] [] [] rfl rfl rfl rfl rfl rfl rfl rfl (fun _ _ => rfl) (fun _ _ _ => rfl)) (fun _ _ => stg_end [11] rfl rfl (prs_cons (pri rfl (p_assign rfl)) prs_nil) rfl rfl rfl ?_))
       refine r_cret ?_
       refine r_retE (Oc.ok u sx vox) (Option.some.inj hr).symm rfl (rs1 (rv_tmp rfl)) rfl [0, 1] [] rfl rfl rfl
      ·have q6 : ¬ t.kind = 6 := of_decide_eq_false h7
       rw [if_neg q6] at hr
       refine r_seq (r_region ?_)
       refine r_p (p_bin rfl rfl b_eq) rfl ?_
       refine r_p (p_assign rfl) rfl (r_nil ?_)
       refine r_cond rfl (fun h8 => ?_) (fun h8 => ?_)
       ·have q7 : t.kind = 7 := of_decide_eq_true h8
        rw [if_pos q7] at hr
        obtain ⟨hu0, hu1⟩ := VX_bi ht q7
        obtain ⟨u, hu⟩ := Option.isSome_iff_exists.1 (hu1 (acc.getD 0 0) (acc.getD 1 0))
        have hul := BiLaw_all t.name (acc.getD 0 0) (acc.getD 1 0) (getD_oW n4 0) (getD_oW n4 1)
        unfold BiLaw at hul
        rw [hu] at hul hr
        obtain ⟨p, hun, hcb, hsu⟩ := hul
        refine r_seq ?_
        refine r_draw [89, 90, 91, 92, 93, 94, 95, 96, 97, 98, 99, 100, 101, 102, 6] _ rfl (stg_mem (V := [(0, 89, _), (1, 90, _), (2, 91, _), (3, 92, _), (4, 93, _), (5, 94, _), (6, 95, _), (7, 96, _), (8, 97, _), (9, 98, _), (10, 99, _), (11, 100, _), (12, 101, _)]) [0, 1, 2, 3, 4, 5, 6, 7, 8, 9, 10, 11, 12] 13 [13, 12, 11, 10, 9, 8, 7, 6, 5, 4, 3, 2, 1, 0] [14] (fun _ => [(14, 6, _)]) rfl rfl (prs_cons (pri rfl (p_move rfl)) (prs_cons (pri rfl (p_nilCheck rfl)) (prs_cons (pri rfl (p_field0 fo101_2 rfl)) (prs_cons (pri rfl (p_load1 t97 rfl rfl (g_row1 (k := 0) rfl rfl))) (prs_cons (pri rfl (p_field0 fo48_2 rfl)) (prs_cons (pri rfl (p_load1 t9 rfl rfl (g_row1 (k := 4) rfl rfl))) (prs_cons (pri rfl (p_lookup Tryz.underlying97 keyS t111 rfl rfl (hm_ro (k := 5) rfl) hun)) (prs_cons (pri rfl (p_move rfl)) (prs_cons (pri rfl (p_idx_sl (j := 0) Tryz.underlying23 t36 rfl rfl (hs_own (k := 90) rfl) rfl (by omega))) (prs_cons (pri rfl (p_load1 t36 rfl rfl (g_el' (hs_own (k := 90) rfl) (by intro _; rfl) (getD_get 0 (by omega)) (by rfl)))) (prs_cons (pri rfl (p_move rfl)) (prs_cons (pri rfl (p_idx_sl (j := 1) Tryz.underlying23 t36 rfl rfl (hs_own (k := 90) rfl) rfl (by omega))) (prs_cons (pri rfl (p_load1 t36 rfl rfl (g_el' (hs_own (k := 90) rfl) (by intro _; rfl) (getD_get 0 (by omega)) (by rfl)))) prs_nil))))))))))))) rfl rfl rfl rfl rfl rfl rfl rfl rfl rfl rfl (fun _ _ => rfl) rfl (ms_call (xs := [.tmp 98, .tmp 101]) hsu hcb [] [] [] [] rfl rfl rfl rfl rfl rfl rfl rfl (fun _ _ => rfl) (fun _ _ _ => rfl)) (fun _ _ => stg_end [14] rfl rfl (prs_cons (pri rfl (p_assign rfl)) prs_nil) rfl rfl rfl ?_))
        refine r_cret ?_
        refine r_retE (Oc.ok u sx vox) (Option.some.inj hr).symm rfl (rs1 (rv_tmp rfl)) rfl [0, 1] [] rfl rfl rfl
       ·have q7 : ¬ t.kind = 7 := of_decide_eq_false h8
        rw [if_neg q7] at hr
        obtain ⟨f, hff, hfl⟩ := VX_call ht q1 q2 q4 q5 q6 q7
        rw [hff] at hr
        refine r_freeze 90 91 rfl own_to_sl ?_
        refine r_more 2 92 rfl (fns_f (ffind_mem hff)) ?_
        refine r_skip (r_seq ?_)
        refine r_draw [103, 104, 105, 106, 107, 108, 109, 110, 111, 112, 6] _ rfl (stg_memX (V := [(0, 103, _), (1, 104, _), (2, 105, _), (3, 106, _), (4, 107, _), (5, 108, _), (6, 109, _), (7, 110, _), (8, 111, _)]) [0, 1, 2, 3, 4, 5, 6, 7, 8] 9 [9, 8, 7, 6, 5, 4, 3, 2, 1, 0] [10] (fun o => [(10, 6, _)]) rfl rfl (prs_cons (pri rfl (p_move rfl)) (prs_cons (pri rfl (p_move rfl)) (prs_cons (pri rfl (p_nilCheck rfl)) (prs_cons (pri rfl (p_field0 fo101_0 rfl)) (prs_cons (pri rfl (p_load1 t94 rfl rfl (g_row1 (k := 0) rfl rfl))) (prs_cons (pri rfl (p_field0 fo48_2 rfl)) (prs_cons (pri rfl (p_load1 t9 rfl rfl (g_row1 (k := 4) rfl rfl))) (prs_cons (pri rfl (p_lookup Tryz.underlying94 keyS t63 rfl rfl (hm_ro (k := 3) rfl) hff)) (prs_cons (pri rfl (p_move rfl)) prs_nil))))))))) rfl rfl rfl rfl rfl rfl rfl rfl rfl rfl rfl (fun _ _ => rfl) rfl (msx_callE (xs := [.tmp 103, .tmp 110, .tmp 111]) (ihC g (Nat.le_refl g) f d va acc sx vox r (ffind_mem hff) (by omega) n4 hd n5.ok n5.i hr) cb45 [0, 1] [(false, 91), (false, 92), (false, 2), (false, 3), (false, 4), (false, 5), (false, 6)] [0, 1] [] rfl rfl rfl rfl rfl rfl rfl rfl (fun o _ => lX_len o) (fun _ _ _ => rfl) (fun o pv ho hv => by obtain ⟨z, c, vo2, l, rfl, rfl⟩ := oX_pan hv; exact r_out (fn := Tryz.f120) (P := Tryz.prog) (Oc.er z c vo2 l) ho rfl [0, 1] [] rfl rfl rfl)) (fun o ho => stg_end [10] rfl rfl (prs_cons (pri rfl (p_assign rfl)) prs_nil) rfl rfl rfl ?_))
        obtain ⟨hof, hor⟩ := ho
        obtain ⟨a, s3, vo3, rfl⟩ := oX_ret hor
        refine r_cret ?_
        refine r_retE (Oc.ok a s3 vo3) hof rfl (rs1 (rv_tmp rfl)) rfl [0, 1] [] rfl rfl rfl
/-- What the reference executes: its cells, the inputs, the functions, the fuel. -/
structure Rn extends En where
 vp : SV
 fu : Int
/-- The changing cells of the reference's execution. -/
structure Sx where
 vi : SV
 vo : SV
 out : List Int
 mem : Nat → Int
 used : Int
 er : Int
def xS (e : Rn) (s : Ms) (vo : SV) : Sx := ⟨itv e.vin (e.ins.length - s.inp.length), vo, s.out, s.mem, e.fu - s.fuel, 0⟩
abbrev xRow (e : Rn) (x : Sx) : List Value := xC e.vp x.vi x.vo x.mem e.fu x.used x.er
/-- An outcome: a result and the state, or an error. -/
def FitX (e : Rn) (r : Re Int) (x : Int × Sx) : Prop := (∃ s vo, r = .ok x.1 s ∧ x.2 = xS e s vo) ∨ (x.2.er ≠ 0 ∧ r = .err x.2.er)
structure RkE (e : Rn) (s : Ms) : Prop where
 ok : okMs s
 i : SkI e.toEn s
theorem RkE.kp {e : Rn} {s s' : Ms} (h : RkE e s) (h' : Kp s s') : RkE e s' := ⟨h'.ok, h.i.kp h'⟩
/-- An expression is to be evaluated, or an error has occurred. -/
def InX (e : Rn) (g d : Nat) (vs : Vs) (t : Tx) (x : Sx) (r : Re Int) : Prop := (∃ s vo, x = xS e s vo ∧ RkE e s ∧ evX g e.fs d vs t s = some r) ∨ (x.er ≠ 0 ∧ r = .err x.er)
def KIn (e : Rn) (g d : Nat) (vs : Vs) (acc : List Int) (l : List Tx) (x : Sx) (r : Re (List Int)) : Prop := (∃ s vo, x = xS e s vo ∧ RkE e s ∧ (∀ a ∈ acc, oW a) ∧ evK g e.fs d vs acc l s = some r) ∨ (x.er ≠ 0 ∧ r = .err x.er)
theorem KIn.step {e : Rn} {g d : Nat} {vs : Vs} {acc : List Int} {t : Tx} {l : List Tx} {x : Sx} {r : Re (List Int)} (hF : VF e.fs) (ht : VX e.fs t) (hv : okVs vs) (h : KIn e g d vs acc (t :: l) x r) :
  ∃ g2 rx, g2 ≤ g ∧ InX e g2 d vs t x rx ∧ ∀ y, FitX e rx y → KIn e g2 d vs (acc ++ [y.1]) l y.2 r := by
 rcases h with ⟨s, vo, h1, h2, h3, h4⟩ | ⟨h1, h2⟩
 ·obtain ⟨g2, rx, hg, hx, hre, hro⟩ := evK_cons h4
  refine ⟨g2, rx, by omega, .inl ⟨s, vo, h1, h2, hx⟩, fun y hy => ?_⟩
  rcases hy with ⟨s2, vo2, h5, h6⟩ | ⟨h5, h6⟩
  ·have h7 := hro _ _ h5
   rw [h5] at hx
   obtain ⟨hv1, hv2⟩ := (ev_ok hF g2).x d vs t s y.1 s2 ht hv h2.ok hx
   exact .inl ⟨s2, vo2, h6, h2.kp hv2, all_snoc h3 hv1, h7⟩
  ·exact .inr ⟨h5, hre _ h6⟩
 ·refine ⟨g, .err x.er, Nat.le_refl _, .inr ⟨h1, rfl⟩, fun y hy => ?_⟩
  rcases hy with ⟨s2, vo2, h5, h6⟩ | ⟨h5, h6⟩
  ·cases h5
  ·refine .inr ⟨h5, ?_⟩
   rw [h2]
   have := Re.err.inj h6
   rw [this]
theorem KIn.done {e : Rn} {g d : Nat} {vs : Vs} {acc : List Int} {x : Sx} {r : Re (List Int)} (h : KIn e g d vs acc [] x r) : (∃ s vo, x = xS e s vo ∧ RkE e s ∧ (∀ a ∈ acc, oW a) ∧ r = .ok acc s) ∨ (x.er ≠ 0 ∧ r = .err x.er) := by
 rcases h with ⟨s, vo, h1, h2, h3, h4⟩ | h
 ·exact .inl ⟨s, vo, h1, h2, h3, evK_nil h4⟩
 ·exact .inr h
theorem xS_in {e : Rn} {s : Ms} {vo : SV} (h : SkI e.toEn s) {a : Int} {r : List Int} (hr : s.inp = a :: r) : xC e.vp (loS (itv e.vin (e.ins.length - s.inp.length)) 1 1) vo s.mem e.fu (e.fu - s.fuel) 0 = xRow e (xS e { s with inp := r } vo) := by
 have h1 := h.len.1
 rw [hr, List.length_cons] at h1
 unfold xRow xS
 dsimp only
 rw [show e.ins.length - r.length = (e.ins.length - s.inp.length) + 1 by rw [hr, List.length_cons]; omega]
 rfl
theorem own_slR {α : Type} {T : TypeId} {s : Nat} {enc : α → List Value} {v : Value} {l : List α} : ∀ w G, (own T s enc v l).pred w G → (∀ b, G b → b < w.heap.size) → ∃ G', (sl s enc v l).pred w G' ∧ ∀ b, G' b → G b := fun w G h _ => ⟨G, own_sl h, fun _ h => h⟩
/-- What an expression reads. -/
abbrev RX (e : Rn) (b d : Nat) (vN vV : SV) (fr : Vs) (t : Tx) : List Asn := [row b 139 (fC vN vV (d : Int) false 0), own 9 1 eS (sv vN) (nmF fr), own 36 1 eU (sv vV) (vlF fr), txsA t.v t.kids, tfsA e.vp e.fs, sl 1 eU (sv e.vin) e.ins]
abbrev LX (e : Rn) (x : Sx) : List Asn := [row e.m 117 (xRow e x), own 36 1 eU (sv x.vo) x.out]
/-- The contract of an expression, with gas g. -/
def HX8 (e : Rn) (g : Nat) : Prop := ∀ (t : Tx) (d b : Nat) (vN vV : SV) (fr vs : Vs) (x : Sx) (r : Re Int), VX e.fs t → d ≤ 12 → okVs vs → FrEq fr vs → (fr.length : Int) ≤ 2000000000000 → InX e g d vs t x r →
 Spec Tryz.prog 122 [.pointer (some ⟨e.m, 0, none⟩), .pointer (some ⟨b, 0, none⟩), xV t] (LX e x) (RX e b d vN vV fr t) (X := Int × Sx) (FitX e r) (fun y => .int .u32 y.1) (fun y => LX e y.2) (fun _ => [])
/-- The contract of a call. -/
def HC8 (e : Rn) (g : Nat) : Prop := ∀ (nm : ByteArray) (f : Tf) (d : Nat) (va : SV) (al : List Int) (s : Ms) (vo : SV) (r : Re Int), ffind e.fs nm = some f → al.length ≤ f.ps.length → (∀ a ∈ al, oW a) → d ≤ 12 → RkE e s → evC g e.fs d f al s = some r →
 Spec Tryz.prog 48 [.pointer (some ⟨e.m, 0, none⟩), .string nm, sv va, .int .i64 ((d : Int) + 1)] (LX e (xS e s vo)) [sl 1 eU (sv va) al, tfsA e.vp e.fs, sl 1 eU (sv e.vin) e.ins] (X := Int × Sx) (FitX e r) (fun y => .int .u32 y.1) (fun y => LX e y.2) (fun _ => [])
/-- The state of the loop over the parts of an expression. -/
structure Yk where
 i : Nat
 g : Nat
 acc : List Int
 x : Sx
 va : SV
theorem vO_some (u : Int) : vO (some u) = .agg #[.int .u32 u, .bool true] := rfl
set_option maxHeartbeats 16000000 in
set_option maxRecDepth 100000 in
theorem x8_er (e : Rn) (t : Tx) (d b : Nat) (vN vV : SV) (fr vs : Vs) (x : Sx) (r : Re Int) (hx : x.er ≠ 0) (hr : r = .err x.er) (ht : VX e.fs t) (hd : d ≤ 12) (hvs : okVs vs) (hfr : FrEq fr vs) (hfrl : (fr.length : Int) ≤ 2000000000000) :
  Spec Tryz.prog 122 [.pointer (some ⟨e.m, 0, none⟩), .pointer (some ⟨b, 0, none⟩), xV t] (LX e x) (RX e b d vN vV fr t) (X := Int × Sx) (FitX e r) (fun y => .int .u32 y.1) (fun y => LX e y.2) (fun _ => []) := by
 refine r_enter Tryz.func122 rfl Tryz.ntmps122 rfl fun w0 M H => ?_
 refine r_seq (r_region ?_)
 refine r_boxA rfl rfl fun b5 => ?_
 refine r_p (p_assign rfl) rfl (r_nil (r_seq (r_region (r_p (p_move rfl) rfl ?_))))
 refine r_callN (xs := [.tmp 11]) (pay8_er e.m e.vp x.vi x.vo x.mem e.fu x.used x.er hx) cb121 [0] [] [0] rfl rfl rfl rfl rfl rfl rfl rfl (fun _ _ => rfl) (fun _ _ _ => rfl) rfl (fun _ _ => ?_)
 refine r_p (p_assign rfl) rfl (r_nil (r_seq (r_seq (r_region (r_p (p_move rfl) rfl ?_)))))
 refine r_p (p_not rfl) rfl ?_
 refine r_nil ?_
 refine r_cond rfl (fun h1 => ?_) (fun h1 => ?_)
 ·(try simp only [decide_eq_true_eq, decide_eq_false_iff_not, Bool.and_eq_true, Bool.or_eq_true, Bool.and_eq_false_iff, Bool.or_eq_false_iff, Bool.not_eq_true, Bool.not_eq_false, Bool.not_eq_true', Bool.not_eq_false', Bool.not_not, bne_iff_ne, beq_iff_eq] at h1)
  refine r_seq (r_region (r_p (p_assign rfl) rfl (r_nil (r_cret ?_))))
  refine r_ret (0, x) (.inr ⟨hx, hr⟩) rfl (rs1 (rv_tmp rfl)) rfl [0, 1] [] rfl rfl rfl
 ·exact absurd h1 (by simp)
set_option maxHeartbeats 16000000 in
set_option maxRecDepth 100000 in
theorem x8_no (e : Rn) (t : Tx) (d b : Nat) (vN vV : SV) (fr vs : Vs) (g : Nat) (s : Ms) (vo : SV) (r : Re Int) (hr : evX (g + 1) e.fs d vs t s = some r) (hfu : s.fuel ≤ 0) (ht : VX e.fs t) (hd : d ≤ 12) (hvs : okVs vs) (hfr : FrEq fr vs) (hfrl : (fr.length : Int) ≤ 2000000000000) :
  Spec Tryz.prog 122 [.pointer (some ⟨e.m, 0, none⟩), .pointer (some ⟨b, 0, none⟩), xV t] (LX e (xS e s vo)) (RX e b d vN vV fr t) (X := Int × Sx) (FitX e r) (fun y => .int .u32 y.1) (fun y => LX e y.2) (fun _ => []) := by
 refine r_enter Tryz.func122 rfl Tryz.ntmps122 rfl fun w0 M H => ?_
 unfold evX at hr
 rw [if_pos hfu] at hr
 have hr1 : r = .err 25 := (Option.some.inj hr).symm
 refine r_seq (r_region ?_)
 refine r_boxA rfl rfl fun b5 => ?_
 refine r_p (p_assign rfl) rfl (r_nil (r_seq (r_region (r_p (p_move rfl) rfl ?_))))
 refine r_callN (xs := [.tmp 11]) (pay8_no e.m e.vp (itv e.vin (e.ins.length - s.inp.length)) vo s.mem e.fu (e.fu - s.fuel) (by omega)) cb121 [0] [] [0] rfl rfl rfl rfl rfl rfl rfl rfl (fun _ _ => rfl) (fun _ _ _ => rfl) rfl (fun _ _ => ?_)
 refine r_p (p_assign rfl) rfl (r_nil (r_seq (r_seq (r_region (r_p (p_move rfl) rfl ?_)))))
 refine r_p (p_not rfl) rfl ?_
 refine r_nil ?_
 refine r_cond rfl (fun h1 => ?_) (fun h1 => ?_)
 ·(try simp only [decide_eq_true_eq, decide_eq_false_iff_not, Bool.and_eq_true, Bool.or_eq_true, Bool.and_eq_false_iff, Bool.or_eq_false_iff, Bool.not_eq_true, Bool.not_eq_false, Bool.not_eq_true', Bool.not_eq_false', Bool.not_not, bne_iff_ne, beq_iff_eq] at h1)
  refine r_seq (r_region (r_p (p_assign rfl) rfl (r_nil (r_cret ?_))))
  refine r_ret (0, { xS e s vo with er := 25 }) (.inr ⟨by show (25 : Int) ≠ 0; decide, hr1⟩) rfl (rs1 (rv_tmp rfl)) rfl [0, 1] [] rfl rfl rfl
 ·exact absurd h1 (by simp)
set_option maxHeartbeats 16000000 in
set_option maxRecDepth 100000 in
theorem x8_ok (e : Rn) (g : Nat) (hF : VF e.fs) (hfu1 : -1000000000000000000 ≤ e.fu) (hfu2 : e.fu ≤ 1000000000000000000) (hfl : e.fs.length ≤ 1000000) (ihX : ∀ k, k ≤ g → HX8 e k) (ihC : ∀ k, k ≤ g → HC8 e k) (t : Tx) (d b : Nat) (vN vV : SV) (fr vs : Vs) (s : Ms) (vo : SV) (r : Re Int) (hs : RkE e s) (hr : evX (g + 1) e.fs d vs t s = some r) (hfu : ¬ s.fuel ≤ 0) (ht : VX e.fs t) (hd : d ≤ 12) (hvs : okVs vs) (hfr : FrEq fr vs) (hfrl : (fr.length : Int) ≤ 2000000000000) :
  Spec Tryz.prog 122 [.pointer (some ⟨e.m, 0, none⟩), .pointer (some ⟨b, 0, none⟩), xV t] (LX e (xS e s vo)) (RX e b d vN vV fr t) (X := Int × Sx) (FitX e r) (fun y => .int .u32 y.1) (fun y => LX e y.2) (fun _ => []) := by
 refine r_enter Tryz.func122 rfl Tryz.ntmps122 rfl fun w0 M H => ?_
 unfold evX at hr
 rw [if_neg hfu] at hr
 obtain ⟨s1, hs1⟩ : ∃ s1 : Ms, ({ s with fuel := s.fuel - 1 } : Ms) = s1 := ⟨_, rfl⟩
 have hp := Kp.pay hs.ok hfu
 have hmR : xC e.vp (itv e.vin (e.ins.length - s.inp.length)) vo s.mem e.fu (e.fu - s.fuel + 1) 0 = xRow e (xS e s1 vo) := by
  rw [← hs1]
  unfold xRow xS
  dsimp only
  congr 1
  omega
 have hso : s.out = s1.out := by rw [← hs1]
 rw [hs1] at hr hp
 have h51 := hs.kp hp
 have hfub := hs.ok.out
 obtain ⟨rk, hk⟩ : ∃ rk, evK g e.fs d vs [] t.kids s1 = some rk := by
  cases h : evK g e.fs d vs [] t.kids s1 with
  | none => rw [h] at hr; simp at hr
  | some q => exact ⟨q, rfl⟩
 rw [hk] at hr
 have htk := VX_kids ht
 have htl := VX_len ht
 refine r_more 3 7 rfl txs_sl ?_
 refine r_seq (r_region ?_)
 refine r_boxA rfl rfl fun b5 => ?_
 refine r_p (p_assign rfl) rfl (r_nil (r_seq (r_region (r_p (p_move rfl) rfl ?_))))
 refine r_callN (xs := [.tmp 11]) (pay8_ok e.m e.vp (itv e.vin (e.ins.length - s.inp.length)) vo s.mem e.fu (e.fu - s.fuel) (by omega) ⟨by omega, by omega⟩) cb121 [0] [] [0] rfl rfl rfl rfl rfl rfl rfl rfl (fun _ _ => rfl) (fun _ _ _ => rfl) rfl (fun _ _ => ?_)
 rw [hmR]
 refine r_p (p_assign rfl) rfl (r_nil (r_seq (r_seq (r_region (r_p (p_move rfl) rfl ?_)))))
 refine r_p (p_not rfl) rfl ?_
 refine r_nil ?_
 refine r_cond rfl (fun h1 => ?_) (fun h1 => ?_)
 ·exact absurd h1 (by simp)
 ·(try simp only [decide_eq_true_eq, decide_eq_false_iff_not, Bool.and_eq_true, Bool.or_eq_true, Bool.and_eq_false_iff, Bool.or_eq_false_iff, Bool.not_eq_true, Bool.not_eq_false, Bool.not_eq_true', Bool.not_eq_false', Bool.not_not, bne_iff_ne, beq_iff_eq] at h1)
  refine r_skip (r_seq (r_region (r_p (p_assign rfl) rfl (r_nil (r_seq (r_seq (r_region (r_p (p_assign rfl) rfl (r_nil (r_block ?_))))))))))
  refine r_nilown 90 (α := Int) (S := 36) (s := 1) (enc := eU) ?_
  refine r_loop (X := Yk) (fun z => z.i ≤ t.kids.length ∧ z.g ≤ g ∧ z.acc.length = z.i ∧ KIn e z.g d vs z.acc (t.kids.drop z.i) z.x rk) (fun z => [(0, .pointer (some ⟨e.m, 0, none⟩)), (1, .pointer (some ⟨b, 0, none⟩)), (5, .pointer (some ⟨b5, 0, none⟩)), (8, sv z.va), (9, .int .i64 (z.i : Int))]) (fun z => [(0, row e.m 117 (xRow e z.x)), (1, own 36 1 eU (sv z.x.vo) z.x.out), (5, row b5 48 (eTx t)), (90, own 36 1 eU (sv z.va) z.acc)]) (fun z => [(0, row b 139 (fC vN vV (d : Int) false 0)), (1, own 9 1 eS (sv vN) (nmF fr)), (2, own 36 1 eU (sv vV) (vlF fr)), (3, txsA t.v t.kids), (4, tfsA e.vp e.fs), (5, sl 1 eU (sv e.vin) e.ins), (7, sl 4 eTx (sv t.v) t.kids)]) (fun z => t.kids.length - z.i) ⟨0, g, [], xS e s1 vo, nilS⟩ ⟨Nat.zero_le _, Nat.le_refl _, rfl, .inl ⟨s1, vo, rfl, h51, by simp, hk⟩⟩ rfl (by dsimp only [xS]; rw [hso]; rfl) rfl (fun z hz0 => ?_)
  obtain ⟨i, gz, acc, x, va⟩ := z
  obtain ⟨n1, n2, n3, n4⟩ := hz0
  dsimp only at n1 n2 n3 n4 ⊢
  refine r_seq (r_seq (r_region (r_p (p_move rfl) rfl ?_)))
  refine r_p (p_field0 fo48_3 rfl) rfl ?_
  refine r_p (p_load1 t46 rfl rfl (g_row1 (k := 5) rfl rfl)) rfl ?_
  refine r_p (p_len_sl Tryz.underlying46 rfl (hs_sl (k := 7) rfl)) rfl ?_
  refine r_p (p_bin rfl rfl b_lt) rfl ?_
  refine r_nil ?_
  refine r_cond rfl (fun h2 => ?_) (fun h2 => ?_)
  ·(try simp only [decide_eq_true_eq, decide_eq_false_iff_not, Bool.and_eq_true, Bool.or_eq_true, Bool.and_eq_false_iff, Bool.or_eq_false_iff, Bool.not_eq_true, Bool.not_eq_false, Bool.not_eq_true', Bool.not_eq_false', Bool.not_not, bne_iff_ne, beq_iff_eq] at h2)
   have hi : i < t.kids.length := by omega
   obtain ⟨kid, hkid⟩ : ∃ k, t.kids[i]? = some k := ⟨_, List.getElem?_eq_getElem hi⟩
   rw [drop_kid hkid] at n4
   have hkm := List.mem_of_getElem? hkid
   have hvk := htk.mem kid hkm
   obtain ⟨g2, rx, hg2, hin, hstep⟩ := n4.step hF hvk hvs
   refine r_skip (r_seq (r_block (r_region (r_p (p_move rfl) rfl (r_p (p_move rfl) rfl (r_p (p_move rfl) rfl ?_))))))
   refine r_p (p_field0 fo48_3 rfl) rfl ?_
   refine r_p (p_load1 t46 rfl rfl (g_row1 (k := 5) rfl rfl)) rfl ?_
   refine r_p (p_move rfl) rfl ?_
   refine r_p (p_idx_sl (j := i) Tryz.underlying46 t48 rfl rfl (hs_sl (k := 7) rfl) (by first | rfl | omega) (by first | omega | (simp; done) | (simp; omega))) rfl ?_
   refine r_p (p_loadA t48 rfl rfl rfl (g_el' (hs_sl (k := 7) rfl) (by intro _; rfl) hkid (by rfl))) rfl ?_
   refine r_more 3 8 rfl (txs_kid hkm) ?_
   refine r_callN (xs := [.tmp 23, .tmp 24, .tmp 29]) (ihX g2 (by omega) kid d b vN vV fr vs x rx hvk hd hvs hfr hfrl hin) cb122 [0, 1] [(false, 0), (false, 1), (false, 2), (false, 8), (false, 4), (false, 5)] [0, 1] rfl rfl rfl rfl rfl rfl rfl rfl (fun _ _ => rfl) (fun _ _ _ => rfl) rfl (fun y hy => ?_)
   refine r_bslice1 eU _ Tryz.underlying23 t36 rfl (by decide) (by decide) rfl rfl rfl rfl fun v31 => ?_
   refine r_append 90 Tryz.underlying23 t36 rfl (by decide) (fun _ => rfl) (fun _ => rfl) rfl rfl rfl (hs_own (k := 31) rfl) (by first | omega | (simp; done) | (simp; omega)) (by unfold maxLen; first | omega | (simp; done) | (simp; omega)) rfl fun v32 => ?_
   refine r_p (p_assign rfl) rfl (r_nil (r_region (r_p (p_move rfl) rfl ?_)))
   refine r_p (p_bin rfl rfl (b_add (by first | exact w_i64 (by omega) (by omega) | rfl))) rfl ?_
   refine r_p (p_assign rfl) rfl (r_nil ?_)
   refine r_here ⟨i + 1, g2, acc ++ [y.1], y.2, v32⟩ ⟨⟨by dsimp only; omega, by dsimp only; omega, by dsimp only; rw [List.length_append, List.length_singleton]; omega, hstep y hy⟩, by dsimp only; omega⟩ rfl rfl rfl
  ·(try simp only [decide_eq_true_eq, decide_eq_false_iff_not, Bool.and_eq_true, Bool.or_eq_true, Bool.and_eq_false_iff, Bool.or_eq_false_iff, Bool.not_eq_true, Bool.not_eq_false, Bool.not_eq_true', Bool.not_eq_false', Bool.not_not, bne_iff_ne, beq_iff_eq] at h2)
   have hi : i = t.kids.length := by omega
   rw [List.drop_of_length_le (by omega)] at n4
   have n9 := n4.done
   refine r_exit (r_seq (r_seq (r_region (r_p (p_move rfl) rfl (r_p (p_nilCheck rfl) rfl ?_)))))
   refine r_p (p_field0 fo117_6 rfl) rfl ?_
   refine r_p (p_load1 t40 rfl rfl (g_row1 (k := 0) rfl xC_er)) rfl ?_
   refine r_p (p_bin rfl rfl b_ne) rfl ?_
   refine r_nil ?_
   refine r_cond rfl (fun h3 => ?_) (fun h3 => ?_)
   ·(try simp only [decide_eq_true_eq, decide_eq_false_iff_not, Bool.and_eq_true, Bool.or_eq_true, Bool.and_eq_false_iff, Bool.or_eq_false_iff, Bool.not_eq_true, Bool.not_eq_false, Bool.not_eq_true', Bool.not_eq_false', Bool.not_not, bne_iff_ne, beq_iff_eq] at h3)
    have hq : rk = .err x.er := by
     rcases n9 with ⟨sx, vox, hx1, _, _, _⟩ | ⟨_, hq⟩
     ·rw [hx1] at h3; exact absurd rfl h3
     ·exact hq
    subst hq
    refine r_seq (r_region (r_p (p_assign rfl) rfl (r_nil (r_cret ?_))))
    refine r_ret (0, x) (.inr ⟨h3, (Option.some.inj hr).symm⟩) rfl (rs1 (rv_tmp rfl)) rfl [0, 1] [] rfl rfl rfl
   ·(try simp only [decide_eq_true_eq, decide_eq_false_iff_not, Bool.and_eq_true, Bool.or_eq_true, Bool.and_eq_false_iff, Bool.or_eq_false_iff, Bool.not_eq_true, Bool.not_eq_false, Bool.not_eq_true', Bool.not_eq_false', Bool.not_not, bne_iff_ne, beq_iff_eq] at h3)
    clear n4
    obtain ⟨sx, vox, rfl, n5, n4, hq⟩ : ∃ sx vox, x = xS e sx vox ∧ RkE e sx ∧ (∀ a ∈ acc, oW a) ∧ rk = .ok acc sx := by
     rcases n9 with h | ⟨hq, _⟩
     ·exact h
     ·exact absurd h3 hq
    subst hq
    dsimp only at hr
    have h7 := getD_oW n4 0
    refine r_skip (r_seq (r_seq (r_region ?_)))
    refine r_p (p_field0 fo48_0 rfl) rfl ?_
    refine r_p (p_load1 t3 rfl rfl (g_row1 (k := 5) rfl rfl)) rfl ?_
    refine r_nil (r_block (r_seq (r_region ?_)))
    refine r_p (p_bin rfl rfl b_eq) rfl ?_
    refine r_p (p_assign rfl) rfl (r_nil ?_)
    refine r_cond rfl (fun h4 => ?_) (fun h4 => ?_)
    ·have q1 : t.kind = 1 := of_decide_eq_true h4
     rw [if_pos q1] at hr
     refine r_seq (r_region ?_)
     refine r_p (p_field0 fo48_1 rfl) rfl ?_
     refine r_p (p_load1 t36 rfl rfl (g_row1 (k := 5) rfl rfl)) rfl ?_
     refine r_p (p_assign rfl) rfl (r_nil (r_cret ?_))
     refine r_ret (t.n, xS e sx vox) (.inl ⟨_, vox, (Option.some.inj hr).symm, rfl⟩) rfl (rs1 (rv_tmp rfl)) rfl [0, 1] [] rfl rfl rfl
    ·have q1 : ¬ t.kind = 1 := of_decide_eq_false h4
     rw [if_neg q1] at hr
     refine r_seq (r_region ?_)
     refine r_p (p_bin rfl rfl b_eq) rfl ?_
     refine r_p (p_assign rfl) rfl (r_nil ?_)
     refine r_cond rfl (fun h5 => ?_) (fun h5 => ?_)
     ·have q2 : t.kind = 2 := of_decide_eq_true h5
      rw [if_pos q2] at hr
      refine r_seq (r_region (r_p (p_move rfl) rfl ?_))
      refine r_p (p_field0 fo48_2 rfl) rfl ?_
      refine r_p (p_load1 t9 rfl rfl (g_row1 (k := 5) rfl rfl)) rfl ?_
      refine r_more 1 11 rfl own_slR ?_
      refine r_more 2 12 rfl own_slR ?_
      refine r_callN (xs := [.tmp 46, .tmp 48]) (get8_spec b vN vV (d : Int) false 0 fr hfrl t.name) cb129 [] [(false, 0), (false, 11), (false, 12)] [] rfl rfl rfl rfl rfl rfl rfl rfl (fun _ _ => rfl) (fun _ _ _ => rfl) rfl (fun _ _ => ?_)
      refine r_p (p_assign rfl) rfl (r_nil (r_cret ?_))
      refine r_ret (vget vs t.name, xS e sx vox) (.inl ⟨_, vox, (Option.some.inj hr).symm, rfl⟩) rfl (rs1 (rv_tmp rfl)) (by rw [hfr t.name]) [0, 1] [] rfl rfl rfl
     ·have q2 : ¬ t.kind = 2 := of_decide_eq_false h5
      rw [if_neg q2] at hr
      refine r_seq (r_region ?_)
      refine r_p (p_bin rfl rfl b_eq) rfl ?_
      refine r_p (p_assign rfl) rfl (r_nil ?_)
      refine r_cond rfl (fun h6 => ?_) (fun h6 => ?_)
      ·have q4 : t.kind = 4 := of_decide_eq_true h6
       rw [if_pos q4] at hr
       have hm1 := VX_mem ht q4
       refine r_seq ?_
       refine r_draw [52, 53, 54, 55, 56, 57, 58, 59, 60, 6] _ rfl (stg_end (V := [(0, 52, _), (1, 53, _), (2, 54, _), (3, 55, _), (4, 56, _), (5, 57, _), (6, 58, _), (7, 59, _), (8, 60, _), (9, 6, _)]) [0, 1, 2, 3, 4, 5, 6, 7, 8, 9] rfl rfl (prs_cons (pri rfl (p_move rfl)) (prs_cons (pri rfl (p_move rfl)) (prs_cons (pri rfl (p_idx_sl (j := 0) Tryz.underlying23 t36 rfl rfl (hs_own (k := 90) rfl) rfl (by omega))) (prs_cons (pri rfl (p_load1 t36 rfl rfl (g_el' (hs_own (k := 90) rfl) (by intro _; rfl) (getD_get 0 (by omega)) (by rfl)))) (prs_cons (pri rfl (p_bin rfl rfl (b_rem (by decide) (tmod_u32 h7)))) (prs_cons (pri rfl (p_nilCheck rfl)) (prs_cons (pri rfl (p_field0 fo117_3 rfl)) (prs_cons (pri rfl (p_idx_arr (j := (acc.getD 0 0 % 256).toNat) Tryz.underlying99 t36 rfl rfl (by omega) (by omega))) (prs_cons (pri rfl (p_load1 t36 rfl rfl (g_row1 (k := 0) rfl (by rw [Nat.mul_one]; exact xC_mem (by omega))))) (prs_cons (pri rfl (p_assign rfl)) prs_nil)))))))))) rfl rfl rfl ?_)
       refine r_cret ?_
       refine r_ret (sx.mem (acc.getD 0 0 % 256).toNat, xS e sx vox) (.inl ⟨_, vox, (Option.some.inj hr).symm, rfl⟩) rfl (rs1 (rv_tmp rfl)) rfl [0, 1] [] rfl rfl rfl
      ·have q4 : ¬ t.kind = 4 := of_decide_eq_false h6
       rw [if_neg q4] at hr
       refine r_seq (r_region ?_)
       refine r_p (p_bin rfl rfl b_eq) rfl ?_
       refine r_p (p_assign rfl) rfl (r_nil ?_)
       refine r_cond rfl (fun h7 => ?_) (fun h7 => ?_)
       ·have q5 : t.kind = 5 := of_decide_eq_true h7
        rw [if_pos q5] at hr
        refine r_more 5 9 rfl (ins_now n5.i) ?_
        refine r_seq (r_region (r_p (p_assign rfl) rfl (r_nil (r_seq (r_seq (r_region (r_p (p_move rfl) rfl (r_p (p_nilCheck rfl) rfl ?_))))))))
        refine r_p (p_field0 fo117_1 rfl) rfl ?_
        refine r_p (p_load1 t23 rfl rfl (g_row1 (k := 0) rfl rfl)) rfl ?_
        refine r_p (p_len_sl Tryz.underlying23 rfl (hs_sl (k := 9) rfl)) rfl ?_
        refine r_p (p_bin rfl rfl b_gt) rfl ?_
        refine r_nil ?_
        refine r_cond rfl (fun h8 => ?_) (fun h8 => ?_)
        ·(try simp only [decide_eq_true_eq, decide_eq_false_iff_not, Bool.and_eq_true, Bool.or_eq_true, Bool.and_eq_false_iff, Bool.or_eq_false_iff, Bool.not_eq_true, Bool.not_eq_false, Bool.not_eq_true', Bool.not_eq_false', Bool.not_not, bne_iff_ne, beq_iff_eq] at h8)
         obtain ⟨a, rest, qi⟩ : ∃ a rest, sx.inp = a :: rest := by
          cases h : sx.inp with
          | nil => rw [h] at h8; simp at h8
          | cons a r => exact ⟨a, r, rfl⟩
         rw [qi] at hr
         refine r_seq (r_region (r_p (p_move rfl) rfl (r_p (p_nilCheck rfl) rfl ?_)))
         refine r_p (p_field0 fo117_1 rfl) rfl ?_
         refine r_p (p_load1 t23 rfl rfl (g_row1 (k := 0) rfl rfl)) rfl ?_
         refine r_p (p_idx_sl (j := 0) Tryz.underlying23 t36 rfl rfl (hs_sl (k := 9) rfl) rfl (by rw [qi]; simp)) rfl ?_
         refine r_p (p_load1 t36 rfl rfl (g_el' (hs_sl (k := 9) rfl) (by intro _; rfl) (show sx.inp[0]? = some a by rw [qi]; rfl) (by rfl))) rfl ?_
         refine r_p (p_assign rfl) rfl (r_nil (r_region (r_p (p_move rfl) rfl (r_p (p_move rfl) rfl (r_p (p_nilCheck rfl) rfl ?_)))))
         refine r_p (p_field0 fo117_1 rfl) rfl ?_
         refine r_p (p_load1 t23 rfl rfl (g_row1 (k := 0) rfl rfl)) rfl ?_
         refine r_p (p_slice_lo (j := 1) Tryz.underlying23 t36 rfl rfl (hs_sl (k := 9) rfl) rfl (by rw [qi]; simp)) rfl ?_
         refine r_p (p_nilCheck rfl) rfl ?_
         refine r_p (p_field0 fo117_1 rfl) rfl ?_
         refine r_store_row (k := 0) t23 rfl rfl rfl rfl rfl rfl rfl xC_setIn ?_
         refine r_conva (k := 0) (A' := row e.m 117 (xRow e (xS e { sx with inp := rest } vox))) rfl (fun _ _ h => by rw [← xS_in n5.i qi]; exact h) ?_
         refine r_nil (r_seq (r_region (r_p (p_move rfl) rfl (r_p (p_assign rfl) rfl (r_nil (r_cret ?_))))))
         refine r_ret (a, xS e { sx with inp := rest } vox) (.inl ⟨_, vox, (Option.some.inj hr).symm, rfl⟩) rfl (rs1 (rv_tmp rfl)) rfl [0, 1] [] rfl rfl rfl
        ·(try simp only [decide_eq_true_eq, decide_eq_false_iff_not, Bool.and_eq_true, Bool.or_eq_true, Bool.and_eq_false_iff, Bool.or_eq_false_iff, Bool.not_eq_true, Bool.not_eq_false, Bool.not_eq_true', Bool.not_eq_false', Bool.not_not, bne_iff_ne, beq_iff_eq] at h8)
         have qi : sx.inp = [] := List.eq_nil_of_length_eq_zero (by omega)
         rw [qi] at hr
         refine r_skip (r_seq (r_region (r_p (p_move rfl) rfl (r_p (p_assign rfl) rfl (r_nil (r_cret ?_))))))
         refine r_ret (0, xS e sx vox) (.inl ⟨_, vox, (Option.some.inj hr).symm, rfl⟩) rfl (rs1 (rv_tmp rfl)) rfl [0, 1] [] rfl rfl rfl
       ·have q5 : ¬ t.kind = 5 := of_decide_eq_false h7
        rw [if_neg q5] at hr
        refine r_seq (r_region ?_)
        refine r_p (p_bin rfl rfl b_eq) rfl ?_
        refine r_p (p_assign rfl) rfl (r_nil ?_)
        refine r_cond rfl (fun h9 => ?_) (fun h9 => ?_)
        ·have q6 : t.kind = 6 := of_decide_eq_true h9
         rw [if_pos q6] at hr
         obtain ⟨hu0, hu1⟩ := VX_un ht q6
         obtain ⟨u, hu⟩ := Option.isSome_iff_exists.1 (hu1 (acc.getD 0 0))
         rw [hu] at hr
         have hun := runary_spec t.name (acc.getD 0 0) (getD_oW n4 0)
         rw [hu, vO_some] at hun
         refine r_seq ?_
         refine r_draw [86, 87, 88, 89, 90, 91, 92, 6] _ rfl (stg_mem (V := [(0, 86, _), (1, 87, _), (2, 88, _), (3, 89, _), (4, 90, _)]) [0, 1, 2, 3, 4] 5 [5, 4, 3, 2, 1, 0] [6, 7] (fun _ => [(6, 92, _), (7, 6, _)]) rfl rfl (prs_cons (pri rfl (p_field0 fo48_2 rfl)) (prs_cons (pri rfl (p_load1 t9 rfl rfl (g_row1 (k := 5) rfl rfl))) (prs_cons (pri rfl (p_move rfl)) (prs_cons (pri rfl (p_idx_sl (j := 0) Tryz.underlying23 t36 rfl rfl (hs_own (k := 90) rfl) rfl (by omega))) (prs_cons (pri rfl (p_load1 t36 rfl rfl (g_el' (hs_own (k := 90) rfl) (by intro _; rfl) (getD_get 0 (by omega)) (by rfl)))) prs_nil))))) rfl rfl rfl rfl rfl rfl rfl rfl rfl rfl rfl (fun _ _ => rfl) rfl (ms_callN (xs := [.tmp 87, .tmp 90]) hun cb130 [] [] [] rfl rfl rfl rfl rfl rfl rfl rfl (fun _ _ => rfl) (fun _ _ _ => rfl)) (fun _ _ => stg_end [6, 7] rfl rfl (prs_cons (pri rfl (p_vfield ft171_0 t36 rfl rfl)) (prs_cons (pri rfl (p_assign rfl)) prs_nil)) rfl rfl rfl ?_))
         refine r_cret ?_
         refine r_ret (u, xS e sx vox) (.inl ⟨_, vox, (Option.some.inj hr).symm, rfl⟩) rfl (rs1 (rv_tmp rfl)) rfl [0, 1] [] rfl rfl rfl
        ·have q6 : ¬ t.kind = 6 := of_decide_eq_false h9
         rw [if_neg q6] at hr
         refine r_seq (r_region ?_)
         refine r_p (p_bin rfl rfl b_eq) rfl ?_
         refine r_p (p_assign rfl) rfl (r_nil ?_)
         refine r_cond rfl (fun h10 => ?_) (fun h10 => ?_)
         ·have q7 : t.kind = 7 := of_decide_eq_true h10
          rw [if_pos q7] at hr
          obtain ⟨hu0, hu1⟩ := VX_bi ht q7
          obtain ⟨u, hu⟩ := Option.isSome_iff_exists.1 (hu1 (acc.getD 0 0) (acc.getD 1 0))
          rw [hu] at hr
          have hun := rbinary_spec t.name (acc.getD 0 0) (acc.getD 1 0) (getD_oW n4 0) (getD_oW n4 1)
          rw [hu, vO_some] at hun
          refine r_seq ?_
          refine r_draw [95, 96, 97, 98, 99, 100, 101, 102, 103, 104, 6] _ rfl (stg_mem (V := [(0, 95, _), (1, 96, _), (2, 97, _), (3, 98, _), (4, 99, _), (5, 100, _), (6, 101, _), (7, 102, _)]) [0, 1, 2, 3, 4, 5, 6, 7] 8 [8, 7, 6, 5, 4, 3, 2, 1, 0] [9, 10] (fun _ => [(9, 104, _), (10, 6, _)]) rfl rfl (prs_cons (pri rfl (p_field0 fo48_2 rfl)) (prs_cons (pri rfl (p_load1 t9 rfl rfl (g_row1 (k := 5) rfl rfl))) (prs_cons (pri rfl (p_move rfl)) (prs_cons (pri rfl (p_idx_sl (j := 0) Tryz.underlying23 t36 rfl rfl (hs_own (k := 90) rfl) rfl (by omega))) (prs_cons (pri rfl (p_load1 t36 rfl rfl (g_el' (hs_own (k := 90) rfl) (by intro _; rfl) (getD_get 0 (by omega)) (by rfl)))) (prs_cons (pri rfl (p_move rfl)) (prs_cons (pri rfl (p_idx_sl (j := 1) Tryz.underlying23 t36 rfl rfl (hs_own (k := 90) rfl) rfl (by omega))) (prs_cons (pri rfl (p_load1 t36 rfl rfl (g_el' (hs_own (k := 90) rfl) (by intro _; rfl) (getD_get 0 (by omega)) (by rfl)))) prs_nil)))))))) rfl rfl rfl rfl rfl rfl rfl rfl rfl rfl rfl (fun _ _ => rfl) rfl (ms_callN (xs := [.tmp 96, .tmp 99, .tmp 102]) hun cb131 [] [] [] rfl rfl rfl rfl rfl rfl rfl rfl (fun _ _ => rfl) (fun _ _ _ => rfl)) (fun _ _ => stg_end [9, 10] rfl rfl (prs_cons (pri rfl (p_vfield ft171_0 t36 rfl rfl)) (prs_cons (pri rfl (p_assign rfl)) prs_nil)) rfl rfl rfl ?_))
          refine r_cret ?_
          refine r_ret (u, xS e sx vox) (.inl ⟨_, vox, (Option.some.inj hr).symm, rfl⟩) rfl (rs1 (rv_tmp rfl)) rfl [0, 1] [] rfl rfl rfl
         ·have q7 : ¬ t.kind = 7 := of_decide_eq_false h10
          rw [if_neg q7] at hr
          obtain ⟨f, hff, hfl2⟩ := VX_call ht q1 q2 q4 q5 q6 q7
          rw [hff] at hr
          refine r_freeze 90 91 rfl own_to_sl ?_
          refine r_skip (r_seq ?_)
          refine r_draw [105, 106, 107, 108, 109, 110, 111, 112, 113, 114, 6] _ rfl (stg_mem (V := [(0, 105, _), (1, 106, _), (2, 107, _), (3, 108, _), (4, 109, _), (5, 110, _), (6, 111, _), (7, 112, _), (8, 113, _)]) [0, 1, 2, 3, 4, 5, 6, 7, 8] 9 [9, 8, 7, 6, 5, 4, 3, 2, 1, 0] [10] (fun y => [(10, 6, _)]) rfl rfl (prs_cons (pri rfl (p_move rfl)) (prs_cons (pri rfl (p_field0 fo48_2 rfl)) (prs_cons (pri rfl (p_load1 t9 rfl rfl (g_row1 (k := 5) rfl rfl))) (prs_cons (pri rfl (p_move rfl)) (prs_cons (pri rfl (p_move rfl)) (prs_cons (pri rfl (p_nilCheck rfl)) (prs_cons (pri rfl (p_field0 fo139_2 rfl)) (prs_cons (pri rfl (p_load1 t3 rfl rfl (g_row1R (k := 0) rfl rfl))) (prs_cons (pri rfl (p_bin rfl rfl (b_add (by first | exact w_i64 (by omega) (by omega) | rfl)))) prs_nil))))))))) rfl rfl rfl rfl rfl rfl rfl rfl rfl rfl rfl (fun _ _ => rfl) rfl (ms_callN (xs := [.tmp 105, .tmp 107, .tmp 108, .tmp 113]) (ihC g (Nat.le_refl g) t.name f d va acc sx vox r hff (by omega) n4 hd n5 hr) cb48 [0, 1] [(false, 91), (false, 4), (false, 5)] [0, 1] rfl rfl rfl rfl rfl rfl rfl rfl (fun _ _ => rfl) (fun _ _ _ => rfl)) (fun y hy => stg_end [10] rfl rfl (prs_cons (pri rfl (p_assign rfl)) prs_nil) rfl rfl rfl ?_))
          refine r_cret ?_
          refine r_ret y hy rfl (rs1 (rv_tmp rfl)) rfl [0, 1] [] rfl rfl rfl
theorem x8_zero {e : Rn} : HX8 e 0 := fun t d b vN vV fr vs x r ht hd hv hf hn h => by
 rcases h with ⟨s, vo, _, _, h⟩ | ⟨h1, h2⟩
 ·simp [evX] at h
 ·exact x8_er e t d b vN vV fr vs x r h1 h2 ht hd hv hf hn
theorem x8_step {e : Rn} {g : Nat} (hF : VF e.fs) (hfu1 : -1000000000000000000 ≤ e.fu) (hfu2 : e.fu ≤ 1000000000000000000) (hfl : e.fs.length ≤ 1000000) (ihX : ∀ k, k ≤ g → HX8 e k) (ihC : ∀ k, k ≤ g → HC8 e k) : HX8 e (g + 1) := fun t d b vN vV fr vs x r ht hd hv hf hn h => by
 rcases h with ⟨s, vo, h1, h2, h3⟩ | ⟨h1, h2⟩
 ·subst h1
  by_cases hfu : s.fuel ≤ 0
  ·exact x8_no e t d b vN vV fr vs g s vo r h3 hfu ht hd hv hf hn
  ·exact x8_ok e g hF hfu1 hfu2 hfl ihX ihC t d b vN vV fr vs s vo r h2 h3 hfu ht hd hv hf hn
 ·exact x8_er e t d b vN vV fr vs x r h1 h2 ht hd hv hf hn
/-- The contract of an expression, one step of gas further. -/
theorem x_step {e : En} {g : Nat} (hF : VF e.fs) (ihX : ∀ k, k ≤ g → HX e k) (ihC : ∀ k, k ≤ g → HC e k) : HX e (g + 1) := fun t d vb vs s vo r ht hd hs hr => by
 by_cases hfu : s.fuel ≤ 0
 ·exact expr_no e g hF ihX ihC t d vb vs s vo r ht hd hs hr hfu
 ·exact expr_ok e g hF ihX ihC t d vb vs s vo r ht hd hs hr hfu
theorem x_zero {e : En} : HX e 0 := fun t d vb vs s vo r ht hd hs hr => by simp [evX] at hr
theorem c_zero {e : En} : HC e 0 := fun f d va al s vo r _ _ _ _ _ _ hr => by simp [evC] at hr
/-- An outcome of statements: the variables, what is returned, the state and the outputs; or a failure, and whatever is there then. -/
inductive Ob where
 | ok (vs : Vs) (ro : Option Int) (s : Ms) (vo : SV)
 | er (z : Int) (c : List Value) (vo : SV) (l : List Int) (vs : Vs)
def Ob.fits (r : Re (Vs × Option Int)) : Ob → Prop
 | .ok vs ro s _ => r = .ok (vs, ro) s
 | .er z _ _ _ _ => r = .err z
def oB : Ob → Fin
 | .ok .. => .ret (.tuple #[])
 | .er z _ _ _ _ => .pan (fail z)
def lB (e : En) (d vb : Nat) : Ob → List Asn
 | .ok vs ro s vo => [row e.m 101 (mR e s vo d ro.isSome (ro.getD 0)), own 36 1 eU (sv vo) s.out, mp mkS Prod.fst vU (some vb) vs]
 | .er _ c vo l vs => [row e.m 101 c, own 36 1 eU (sv vo) l, mp mkS Prod.fst vU (some vb) vs]
theorem lB_len {e : En} {d vb : Nat} (o : Ob) : [0, 1, 2].length = (lB e d vb o).length := by cases o <;> rfl
/-- The contract of statements. -/
def HB (e : En) (g : Nat) : Prop := ∀ (l : List Ty) (v : SV) (d vb : Nat) (vs : Vs) (s : Ms) (vo : SV) (r : Re (Vs × Option Int)), VYs e.fs l → l.length ≤ 1000000 → d ≤ 12 → Sk e vs s → evB g e.fs d vs l s = some r →
 SpecE Tryz.prog 80 [.pointer (some ⟨e.m, 0, none⟩), sv v, .map (some vb)] [row e.m 101 (mR e s vo d false 0), own 36 1 eU (sv vo) s.out, mp mkS Prod.fst vU (some vb) vs] (tysA v l :: RO e) (X := Ob) (fun o => o.fits r) oB (lB e d vb) (fun _ => [])
/-- The contract of a statement. -/
def HS (e : En) (g : Nat) : Prop := ∀ (t : Ty) (d vb : Nat) (vs : Vs) (s : Ms) (vo : SV) (r : Re (Vs × Option Int)), VY e.fs t → d ≤ 12 → Sk e vs s → evS g e.fs d vs t s = some r →
 SpecE Tryz.prog 103 [.pointer (some ⟨e.m, 0, none⟩), yV t, .map (some vb)] [row e.m 101 (mR e s vo d false 0), own 36 1 eU (sv vo) s.out, mp mkS Prod.fst vU (some vb) vs] (txsA t.ve t.es :: tysA t.vb t.body :: tysA t.vl t.els :: RO e) (X := Ob) (fun o => o.fits r) oB (lB e d vb) (fun _ => [])
theorem b_zero {e : En} : HB e 0 := fun l v d vb vs s vo r _ _ _ _ hr => by simp [evB] at hr
theorem s_zero {e : En} : HS e 0 := fun t d vb vs s vo r _ _ _ hr => by simp [evS] at hr
theorem vbind_nil (vs : Vs) (ps : List ByteArray) : vbind vs ps [] = vs := by cases ps <;> rfl
set_option maxHeartbeats 8000000 in
set_option maxRecDepth 100000 in
theorem call_deep (e : En) (g : Nat) (hF : VF e.fs) (ihB : HB e g) (f : Tf) (d : Nat) (va : SV) (al : List Int) (s : Ms) (vo : SV) (r : Re Int) (hf : f ∈ e.fs) (hal : al.length ≤ f.ps.length) (hao : ∀ a ∈ al, oW a) (hd : d ≤ 12) (hs : okMs s) (hi : SkI e s) (hr : evC (g + 1) e.fs d f al s = some r) (h12 : d = 12) :
  SpecE Tryz.prog 45 [.pointer (some ⟨e.m, 0, none⟩), tfV f, sv va] [row e.m 101 (mR e s vo d false 0), own 36 1 eU (sv vo) s.out] (sl 1 eU (sv va) al :: tfA f :: RO e) (X := Oc Int) (fun o => o.fits r) (fun o => oX o) (fun o => lX e d o) (fun _ => []) := by
 refine r_enterE Tryz.func45 rfl Tryz.ntmps45 rfl fun w0 M H => ?_
 unfold evC at hr
 rw [if_pos h12] at hr
 refine r_seq (r_region ?_)
 refine r_boxA rfl rfl fun b4 => ?_
 refine r_p (p_assign rfl) rfl (r_nil (r_seq (r_seq (r_region (r_p (p_move rfl) rfl (r_p (p_nilCheck rfl) rfl ?_))))))
 refine r_p (p_field0 fo101_7 rfl) rfl ?_
 refine r_p (p_load1 t3 rfl rfl (g_row1 (k := 0) rfl mC_depth)) rfl ?_
 refine r_p (p_bin rfl rfl b_eq) rfl ?_
 refine r_nil ?_
 refine r_cond rfl (fun h1 => ?_) (fun h1 => ?_)
 ·(try simp only [decide_eq_true_eq, decide_eq_false_iff_not, Bool.and_eq_true, Bool.or_eq_true, Bool.and_eq_false_iff, Bool.or_eq_false_iff, Bool.not_eq_true, Bool.not_eq_false, Bool.not_eq_true', Bool.not_eq_false', Bool.not_not, bne_iff_ne, beq_iff_eq] at h1)
  refine r_region ?_
  refine r_p (p_build (parts := [(0, .const (.int .i64 26))]) t103 pl103 rfl rfl) rfl ?_
  refine r_p (p_mkIface Tryz.underlying103 (by intro _ h; cases h) rfl) rfl ?_
  refine r_panic rfl ?_
  show At _ _ _ _ _ _ _ (bodyPost Tryz.prog Tryz.f45 _ (.panic _))
  refine r_out (Oc.er 26 (mR e s vo d false 0) vo s.out) (Option.some.inj hr).symm rfl [0, 1] [] rfl rfl rfl
 ·exact absurd (show (d : Int) = 12 by omega) (of_decide_eq_false h1)
set_option maxHeartbeats 8000000 in
set_option maxRecDepth 100000 in
theorem call_ok (e : En) (g : Nat) (hF : VF e.fs) (ihB : HB e g) (f : Tf) (d : Nat) (va : SV) (al : List Int) (s : Ms) (vo : SV) (r : Re Int) (hf : f ∈ e.fs) (hal : al.length ≤ f.ps.length) (hao : ∀ a ∈ al, oW a) (hd : d ≤ 12) (hs : okMs s) (hi : SkI e s) (hr : evC (g + 1) e.fs d f al s = some r) (h12 : ¬ d = 12) :
  SpecE Tryz.prog 45 [.pointer (some ⟨e.m, 0, none⟩), tfV f, sv va] [row e.m 101 (mR e s vo d false 0), own 36 1 eU (sv vo) s.out] (sl 1 eU (sv va) al :: tfA f :: RO e) (X := Oc Int) (fun o => o.fits r) (fun o => oX o) (fun o => lX e d o) (fun _ => []) := by
 refine r_enterE Tryz.func45 rfl Tryz.ntmps45 rfl fun w0 M H => ?_
 unfold evC at hr
 rw [if_neg h12] at hr
 obtain ⟨hfp, hfb, hfv⟩ := hF f hf
 refine r_more 1 8 rfl tf_ps ?_
 refine r_more 1 9 rfl tf_body ?_
 obtain ⟨V, hV⟩ : ∃ V, vbind [] f.ps al = V := ⟨_, rfl⟩
 have hVo : okVs V := by rw [← hV]; exact okVs.bind _ _ (fun p hp => by simp at hp) hao
 rw [hV] at hr
 obtain ⟨rb, hrb⟩ : ∃ rb, evB g e.fs (d + 1) V f.body s = some rb := by
  cases h : evB g e.fs (d + 1) V f.body s with
  | none => rw [h] at hr; simp at hr
  | some q => exact ⟨q, rfl⟩
 rw [hrb] at hr
 refine r_seq (r_region ?_)
 refine r_boxA rfl rfl fun b4 => ?_
 refine r_p (p_assign rfl) rfl (r_nil (r_seq (r_seq (r_region (r_p (p_move rfl) rfl (r_p (p_nilCheck rfl) rfl ?_))))))
 refine r_p (p_field0 fo101_7 rfl) rfl ?_
 refine r_p (p_load1 t3 rfl rfl (g_row1 (k := 0) rfl mC_depth)) rfl ?_
 refine r_p (p_bin rfl rfl b_eq) rfl ?_
 refine r_nil ?_
 refine r_cond rfl (fun h1 => ?_) (fun h1 => ?_)
 ·exact absurd (of_decide_eq_true h1) (show ¬ (d : Int) = 12 by omega)
 ·(try simp only [decide_eq_true_eq, decide_eq_false_iff_not, Bool.and_eq_true, Bool.or_eq_true, Bool.and_eq_false_iff, Bool.or_eq_false_iff, Bool.not_eq_true, Bool.not_eq_false, Bool.not_eq_true', Bool.not_eq_false', Bool.not_not, bne_iff_ne, beq_iff_eq] at h1)
  refine r_skip (r_seq (r_region ?_))
  refine r_makeMap (Prod.fst : ByteArray × Int → ByteArray) mkS vU rfl fun b18 => ?_
  refine r_p (p_assign rfl) rfl (r_nil (r_seq (r_seq (r_region (r_p (p_move rfl) rfl ?_)))))
  refine r_p (p_len_sl Tryz.underlying23 rfl (hs_sl (k := 0) rfl)) rfl ?_
  refine r_p (p_move rfl) rfl (r_nil (r_block ?_))
  refine r_loop (X := Nat × Vs) (fun x => x.1 ≤ al.length ∧ vbind x.2 (f.ps.drop x.1) (al.drop x.1) = V) (fun x => [(0, .pointer (some ⟨e.m, 0, none⟩)), (4, .pointer (some ⟨b4, 0, none⟩)), (7, .map (some b18)), (19, sv va), (20, .int .i64 (al.length : Int)), (21, .int .i64 (x.1 : Int))]) (fun x => [(0, row e.m 101 (mR e s vo d false 0)), (1, own 36 1 eU (sv vo) s.out), (4, row b4 63 (eTf f)), (18, mp mkS Prod.fst vU (some b18) x.2)]) (fun x => [(0, sl 1 eU (sv va) al), (1, tfA f), (2, fnsA e.fs), (3, mp mkS Tf.name tfV (some e.mf) e.fs), (4, mp mkS Prod.fst vF (some e.mu) uL), (5, mp mkS Prod.fst vF (some e.mb) bL), (6, sl 1 eU (sv e.vin) e.ins), (8, sl 1 eS (sv f.vp) f.ps), (9, tysA f.vb f.body)]) (fun x => al.length - x.1) (0, []) ⟨Nat.zero_le _, hV⟩ rfl rfl rfl (fun x hx0 => ?_)
  obtain ⟨i, vs⟩ := x
  obtain ⟨n1, n2⟩ := hx0
  dsimp only at n1 n2 ⊢
  refine r_seq (r_region ?_)
  refine r_p (p_bin rfl rfl b_lt) rfl ?_
  refine r_nil (r_seq ?_)
  refine r_cond rfl (fun h2 => ?_) (fun h2 => ?_)
  ·(try simp only [decide_eq_true_eq, decide_eq_false_iff_not, Bool.and_eq_true, Bool.or_eq_true, Bool.and_eq_false_iff, Bool.or_eq_false_iff, Bool.not_eq_true, Bool.not_eq_false, Bool.not_eq_true', Bool.not_eq_false', Bool.not_not, bne_iff_ne, beq_iff_eq] at h2)
   have hii : i < al.length := by omega
   obtain ⟨a, ha⟩ : ∃ a, al[i]? = some a := ⟨_, List.getElem?_eq_getElem hii⟩
   obtain ⟨p, hp⟩ : ∃ p, f.ps[i]? = some p := ⟨_, List.getElem?_eq_getElem (by omega)⟩
   rw [drop_kid ha, drop_kid hp] at n2
   have n2 : vbind (vput vs p a) (f.ps.drop (i + 1)) (al.drop (i + 1)) = V := n2
   refine r_skip (r_seq (r_block (r_seq (r_region (r_p (p_move rfl) rfl ?_)))))
   refine r_p (p_idx_sl (j := i) Tryz.underlying23 t36 rfl rfl (hs_sl (k := 0) rfl) (by first | rfl | omega) (by first | omega | (simp; done) | (simp; omega))) rfl ?_
   refine r_p (p_load1 t36 rfl rfl (g_el' (hs_sl (k := 0) rfl) (by intro _; rfl) ha (by rfl))) rfl ?_
   refine r_p (p_assign rfl) rfl (r_p (p_assign rfl) rfl (r_nil (r_region (r_p (p_move rfl) rfl ?_))))
   refine r_p (p_field0 fo63_1 rfl) rfl ?_
   refine r_p (p_load1 t58 rfl rfl (g_row1 (k := 4) rfl rfl)) rfl ?_
   refine r_p (p_move rfl) rfl ?_
   refine r_p (p_idx_sl (j := i) Tryz.underlying58 t9 rfl rfl (hs_sl (k := 8) rfl) (by first | rfl | omega) (by first | omega | (simp; done) | (simp; omega))) rfl ?_
   refine r_p (p_load1 t9 rfl rfl (g_el' (hs_sl (k := 8) rfl) (by intro _; rfl) hp (by rfl))) rfl ?_
   refine r_p (p_move rfl) rfl ?_
   refine r_mapUpdate (k := 18) (p, a) (vput vs p a) Tryz.underlying133 keyS rfl rfl rfl rfl (List.Perm.refl _) ?_
   refine r_nil (r_region ?_)
   refine r_p (p_bin rfl rfl (b_add (by first | exact w_i64 (by omega) (by omega) | rfl))) rfl ?_
   refine r_p (p_move rfl) rfl (r_nil ?_)
   refine r_here (i + 1, vput vs p a) ⟨⟨by dsimp only; omega, n2⟩, by dsimp only; omega⟩ rfl rfl rfl
  ·(try simp only [decide_eq_true_eq, decide_eq_false_iff_not, Bool.and_eq_true, Bool.or_eq_true, Bool.and_eq_false_iff, Bool.or_eq_false_iff, Bool.not_eq_true, Bool.not_eq_false, Bool.not_eq_true', Bool.not_eq_false', Bool.not_not, bne_iff_ne, beq_iff_eq] at h2)
   have hii : i = al.length := by omega
   rw [List.drop_of_length_le (by omega : al.length ≤ i), vbind_nil] at n2
   subst n2
   refine r_exit (r_seq (r_region (r_p (p_move rfl) rfl (r_p (p_nilCheck rfl) rfl ?_))))
   refine r_p (p_field0 fo101_7 rfl) rfl ?_
   refine r_p (p_load1 t3 rfl rfl (g_row1 (k := 0) rfl mC_depth)) rfl ?_
   refine r_p (p_bin rfl rfl (b_add (by first | exact w_i64 (by omega) (by omega) | rfl))) rfl ?_
   refine r_p (p_nilCheck rfl) rfl ?_
   refine r_p (p_field0 fo101_7 rfl) rfl ?_
   refine r_store_row (k := 0) t3 rfl rfl rfl rfl rfl rfl (mC_fit (by decide)) (mC_setDepth) ?_
   refine r_conva (k := 0) (A' := row e.m 101 (mR e s vo (d + 1) false 0)) rfl (fun _ _ h => h) ?_
   refine r_nil (r_seq (r_region (r_p (p_move rfl) rfl ?_)))
   refine r_p (p_field0 fo63_2 rfl) rfl ?_
   refine r_p (p_load1 t51 rfl rfl (g_row1 (k := 4) rfl rfl)) rfl ?_
   refine r_p (p_move rfl) rfl ?_
   refine r_callE (xs := [.tmp 41, .tmp 43, .tmp 44]) (ihB f.body f.vb (d + 1) b18 vs s vo rb hfv hfb (by omega) ⟨hVo, hs, hi⟩ hrb) cb80 [0, 1, 18] [(false, 9), (false, 2), (false, 3), (false, 4), (false, 5), (false, 6)] [0, 1, 18] [] rfl rfl rfl rfl rfl rfl rfl rfl (fun o _ => lB_len o) (fun _ _ _ => rfl) rfl (fun o ho => ?_)
   rcases o with ⟨vs2, ro, s2, vo2⟩ | ⟨z, c, vo2, l, vs2⟩
   rotate_left
   ·refine aft_pan ?_
    have hq : rb = .err z := ho
    subst hq
    show At _ _ _ _ _ _ _ (bodyPost Tryz.prog Tryz.f45 _ (.panic _))
    refine r_out (Oc.er z c vo2 l) (Option.some.inj hr).symm rfl [0, 1] [] rfl rfl rfl
   refine aft_ret ?_
   have hq : rb = .ok (vs2, ro) s2 := ho
   subst hq
   dsimp only at hr
   refine r_nil (r_seq (r_region (r_p (p_move rfl) rfl (r_p (p_nilCheck rfl) rfl ?_))))
   refine r_p (p_field0 fo101_7 rfl) rfl ?_
   refine r_p (p_load1 t3 rfl rfl (g_row1 (k := 0) rfl mC_depth)) rfl ?_
   refine r_p (p_bin rfl rfl (b_sub (c := (d : Int)) (by rw [show (((d + 1 : Nat) : Int) - 1) = (d : Int) by omega]; exact w_i64 (by omega) (by omega)))) rfl ?_
   refine r_p (p_nilCheck rfl) rfl ?_
   refine r_p (p_field0 fo101_7 rfl) rfl ?_
   refine r_store_row (k := 0) t3 rfl rfl rfl rfl rfl rfl (mC_fit (by decide)) (mC_setDepth) ?_
   refine r_nil (r_seq (r_region (r_p (p_move rfl) rfl (r_p (p_nilCheck rfl) rfl ?_))))
   refine r_p (p_field0 fo101_9 rfl) rfl ?_
   refine r_p (p_load1 t36 rfl rfl (g_row1 (k := 0) rfl mC_val)) rfl ?_
   refine r_p (p_assign rfl) rfl (r_nil (r_seq (r_region (r_p (p_move rfl) rfl (r_p (p_move rfl) rfl (r_p (p_nilCheck rfl) rfl ?_))))))
   refine r_p (p_field0 fo101_8 rfl) rfl ?_
   refine r_store_row (k := 0) t4 rfl rfl rfl rfl rfl rfl (mC_fit (by decide)) (mC_setRt) ?_
   refine r_p (p_nilCheck rfl) rfl ?_
   refine r_p (p_field0 fo101_9 rfl) rfl ?_
   refine r_store_row (k := 0) t36 rfl rfl rfl rfl rfl rfl (mC_fit (by decide)) (mC_setVal) ?_
   refine r_nil (r_seq (r_region (r_p (p_move rfl) rfl (r_p (p_assign rfl) rfl (r_nil (r_cret ?_))))))
   refine r_retE (Oc.ok (ro.getD 0) s2 vo2) (Option.some.inj hr).symm rfl (rs1 (rv_tmp rfl)) rfl [0, 1] [] rfl rfl rfl
/-- The contract of a call, one step of gas further. -/
theorem c_step {e : En} {g : Nat} (hF : VF e.fs) (ihB : HB e g) : HC e (g + 1) := fun f d va al s vo r hf hal hao hd hs hi hr => by
 by_cases h12 : d = 12
 ·exact call_deep e g hF ihB f d va al s vo r hf hal hao hd hs hi hr h12
 ·exact call_ok e g hF ihB f d va al s vo r hf hal hao hd hs hi hr h12
theorem evB_nil {g : Nat} {fs : List Tf} {d : Nat} {vs : Vs} {s : Ms} {r : Re (Vs × Option Int)} (h : evB g fs d vs [] s = some r) : r = .ok (vs, none) s := by
 cases g with
 | zero => simp [evB] at h
 | succ g =>
  simp only [evB, Option.some.injEq] at h
  exact h.symm
theorem evB_cons {g : Nat} {fs : List Tf} {d : Nat} {vs : Vs} {t : Ty} {l : List Ty} {s : Ms} {r : Re (Vs × Option Int)} (h : evB g fs d vs (t :: l) s = some r) :
  ∃ g2 q, g = g2 + 1 ∧ evS g2 fs d vs t s = some q ∧ (∀ z, q = .err z → r = .err z) ∧ (∀ vs1 x s1, q = .ok (vs1, some x) s1 → r = .ok (vs1, some x) s1) ∧ ∀ vs1 s1, q = .ok (vs1, none) s1 → evB g2 fs d vs1 l s1 = some r := by
 cases g with
 | zero => simp [evB] at h
 | succ g =>
  unfold evB at h
  cases hx : evS g fs d vs t s with
  | none => rw [hx] at h; simp at h
  | some q =>
   rw [hx] at h
   refine ⟨g, q, rfl, hx, fun z hz => ?_, fun vs1 x s1 hv => ?_, fun vs1 s1 hv => ?_⟩
   ·subst hz
    exact (Option.some.inj h).symm
   ·subst hv
    exact (Option.some.inj h).symm
   ·subst hv
    exact h
theorem evW_out {g : Nat} {fs : List Tf} {d : Nat} {vs : Vs} {e : Tx} {l : List Ty} {v : Int} {s : Ms} {r : Re (Vs × Option Int)} (h : evW g fs d vs e l v s = some r) (hv : v = 0) : r = .ok (vs, none) s := by
 cases g with
 | zero => simp [evW] at h
 | succ g =>
  unfold evW at h
  rw [if_pos hv] at h
  exact (Option.some.inj h).symm
theorem evW_in {g : Nat} {fs : List Tf} {d : Nat} {vs : Vs} {e : Tx} {l : List Ty} {v : Int} {s : Ms} {r : Re (Vs × Option Int)} (h : evW g fs d vs e l v s = some r) (hv : ¬ v = 0) :
  ∃ g2 q, g = g2 + 1 ∧ evB g2 fs d vs l s = some q ∧ (∀ z, q = .err z → r = .err z) ∧ (∀ vs1 x s1, q = .ok (vs1, some x) s1 → r = .ok (vs1, some x) s1) ∧
   ∀ vs1 s1, q = .ok (vs1, none) s1 → ∃ rx, evX g2 fs d vs1 e s1 = some rx ∧ (∀ z, rx = .err z → r = .err z) ∧ ∀ w s2, rx = .ok w s2 → evW g2 fs d vs1 e l w s2 = some r := by
 cases g with
 | zero => simp [evW] at h
 | succ g =>
  unfold evW at h
  rw [if_neg hv] at h
  cases hx : evB g fs d vs l s with
  | none => rw [hx] at h; simp at h
  | some q =>
   rw [hx] at h
   refine ⟨g, q, rfl, hx, fun z hz => ?_, fun vs1 x s1 hq => ?_, fun vs1 s1 hq => ?_⟩
   ·subst hz
    exact (Option.some.inj h).symm
   ·subst hq
    exact (Option.some.inj h).symm
   ·subst hq
    dsimp only at h
    cases hy : evX g fs d vs1 e s1 with
    | none => rw [hy] at h; simp at h
    | some rx =>
     rw [hy] at h
     refine ⟨rx, rfl, fun z hz => ?_, fun w s2 hz => ?_⟩
     ·subst hz
      exact (Option.some.inj h).symm
     ·subst hz
      exact h
/-- The state of the loop over statements. -/
structure Xb where
 i : Nat
 g : Nat
 vs : Vs
 ro : Option Int
 s : Ms
 vo : SV
set_option maxHeartbeats 8000000 in
set_option maxRecDepth 100000 in
theorem block_step (e : En) (g : Nat) (hF : VF e.fs) (ihS : ∀ k, k ≤ g → HS e k) (l : List Ty) (v : SV) (d vb : Nat) (vs : Vs) (s : Ms) (vo : SV) (r : Re (Vs × Option Int)) (hl : VYs e.fs l) (hll : l.length ≤ 1000000) (hd : d ≤ 12) (hs : Sk e vs s) (hr : evB (g + 1) e.fs d vs l s = some r) :
  SpecE Tryz.prog 80 [.pointer (some ⟨e.m, 0, none⟩), sv v, .map (some vb)] [row e.m 101 (mR e s vo d false 0), own 36 1 eU (sv vo) s.out, mp mkS Prod.fst vU (some vb) vs] (tysA v l :: RO e) (X := Ob) (fun o => o.fits r) (fun o => oB o) (fun o => lB e d vb o) (fun _ => []) := by
 refine r_enterE Tryz.func80 rfl Tryz.ntmps80 rfl fun w0 M H => ?_
 refine r_more 0 7 rfl tys_sl ?_
 refine r_seq (r_region (r_p (p_move rfl) rfl ?_))
 refine r_p (p_len_sl Tryz.underlying51 rfl (hs_sl (k := 7) rfl)) rfl ?_
 refine r_p (p_move rfl) rfl (r_nil (r_block ?_))
 refine r_loop (X := Xb) (fun x => x.i ≤ l.length ∧ x.g ≤ g + 1 ∧ Sk e x.vs x.s ∧ (x.ro = none → evB x.g e.fs d x.vs (l.drop x.i) x.s = some r) ∧ ∀ y, x.ro = some y → r = .ok (x.vs, some y) x.s) (fun x => [(0, .pointer (some ⟨e.m, 0, none⟩)), (2, .map (some vb)), (8, sv v), (9, .int .i64 (l.length : Int)), (10, .int .i64 (x.i : Int))]) (fun x => [(0, row e.m 101 (mR e x.s x.vo d x.ro.isSome (x.ro.getD 0))), (1, own 36 1 eU (sv x.vo) x.s.out), (2, mp mkS Prod.fst vU (some vb) x.vs)]) (fun x => [(0, tysA v l), (1, fnsA e.fs), (2, mp mkS Tf.name tfV (some e.mf) e.fs), (3, mp mkS Prod.fst vF (some e.mu) uL), (4, mp mkS Prod.fst vF (some e.mb) bL), (5, sl 1 eU (sv e.vin) e.ins), (7, sl 5 eTy (sv v) l)]) (fun x => l.length - x.i) ⟨0, g + 1, vs, none, s, vo⟩ ⟨Nat.zero_le _, Nat.le_refl _, hs, fun _ => hr, fun y hy => by simp at hy⟩ rfl rfl rfl (fun x hx0 => ?_)
 obtain ⟨i, gx, vs1, ro, sx, vox⟩ := x
 obtain ⟨n1, n2, n3, n4, n5⟩ := hx0
 dsimp only at n1 n2 n3 n4 n5 ⊢
 refine r_seq (r_region ?_)
 refine r_p (p_bin rfl rfl b_lt) rfl ?_
 refine r_nil (r_seq ?_)
 refine r_cond rfl (fun h1 => ?_) (fun h1 => ?_)
 ·(try simp only [decide_eq_true_eq, decide_eq_false_iff_not, Bool.and_eq_true, Bool.or_eq_true, Bool.and_eq_false_iff, Bool.or_eq_false_iff, Bool.not_eq_true, Bool.not_eq_false, Bool.not_eq_true', Bool.not_eq_false', Bool.not_not, bne_iff_ne, beq_iff_eq] at h1)
  have hi : i < l.length := by omega
  obtain ⟨st, hst⟩ : ∃ k, l[i]? = some k := ⟨_, List.getElem?_eq_getElem hi⟩
  have hm := List.mem_of_getElem? hst
  have hvy := hl.mem st hm
  refine r_skip (r_seq (r_block (r_seq (r_region ?_))))
  refine r_p (p_idx_sl (j := i) Tryz.underlying51 t53 rfl rfl (hs_sl (k := 7) rfl) (by first | rfl | omega) (by first | omega | (simp; done) | (simp; omega))) rfl ?_
  refine r_p (p_loadA t53 rfl rfl rfl (g_el' (hs_sl (k := 7) rfl) (by intro _; rfl) hst (by rfl))) rfl ?_
  refine r_alloc t53 rfl rfl fun b7 => ?_
  refine r_store_all (k := 7) t53 rfl rfl rfl rfl rfl rfl ?_
  refine r_nil (r_seq (r_seq (r_region (r_p (p_move rfl) rfl (r_p (p_nilCheck rfl) rfl ?_)))))
  refine r_p (p_field0 fo101_8 rfl) rfl ?_
  refine r_p (p_load1 t4 rfl rfl (g_row1 (k := 0) rfl mC_rt)) rfl ?_
  refine r_nil ?_
  refine r_cond rfl (fun h2 => ?_) (fun h2 => ?_)
  ·obtain ⟨y, hy⟩ := Option.isSome_iff_exists.1 h2
   subst hy
   refine r_cret ?_
   refine r_retE (Ob.ok vs1 (some y) sx vox) (n5 y rfl) rfl rs0 rfl [0, 1, 2] [] rfl rfl rfl
  ·have hro : ro = none := by
    cases ro with
    | none => rfl
    | some y => simp at h2
   subst hro
   have n6 := n4 rfl
   rw [drop_kid hst] at n6
   obtain ⟨g2, q, rfl, hx, hre, hrs, hrn⟩ := evB_cons n6
   refine r_skip (r_region (r_p (p_move rfl) rfl ?_))
   refine r_p (p_loadA t53 rfl rfl rfl (g_all (k := 7) rfl)) rfl ?_
   refine r_p (p_move rfl) rfl ?_
   refine r_more 0 20 rfl (tys_es hm) ?_
   refine r_more 0 21 rfl (tys_body hm) ?_
   refine r_more 0 22 rfl (tys_els hm) ?_
   refine r_callE (xs := [.tmp 18, .tmp 19, .tmp 20]) (ihS g2 (by omega) st d vb vs1 sx vox q hvy hd n3 hx) cb103 [0, 1, 2] [(false, 20), (false, 21), (false, 22), (false, 1), (false, 2), (false, 3), (false, 4), (false, 5)] [0, 1, 2] [] rfl rfl rfl rfl rfl rfl rfl rfl (fun o _ => lB_len o) (fun _ _ _ => rfl) rfl (fun o ho => ?_)
   rcases o with ⟨vs2, ro2, s2, vo2⟩ | ⟨z, c, vo2, l2, vs2⟩
   rotate_left
   ·refine aft_pan ?_
    have hz : q = .err z := ho
    have hq := hre z hz
    show At _ _ _ _ _ _ _ (bodyPost Tryz.prog Tryz.f80 _ (.panic _))
    refine r_out (Ob.er z c vo2 l2 vs2) hq rfl [0, 1, 2] [] rfl rfl rfl
   refine aft_ret ?_
   have hz : q = .ok (vs2, ro2) s2 := ho
   rw [hz] at hx
   obtain ⟨hv1, hv2, hv3⟩ := (ev_ok hF g2).s d vs1 st sx _ s2 hvy n3.v n3.ok hx
   have h5b : Sk e vs2 s2 := ⟨hv1, hv3.ok, n3.i.kp hv3⟩
   refine r_nil (r_region ?_)
   refine r_p (p_bin rfl rfl (b_add (by first | exact w_i64 (by omega) (by omega) | rfl))) rfl ?_
   refine r_p (p_move rfl) rfl (r_nil ?_)
   refine r_here ⟨i + 1, g2, vs2, ro2, s2, vo2⟩ ⟨⟨by dsimp only; omega, by dsimp only; omega, h5b, fun hn => hrn vs2 s2 (by rw [hz, show ro2 = none from hn]), fun y hy => hrs vs2 y s2 (by rw [hz, show ro2 = some y from hy])⟩, by dsimp only; omega⟩ rfl rfl rfl
 ·(try simp only [decide_eq_true_eq, decide_eq_false_iff_not, Bool.and_eq_true, Bool.or_eq_true, Bool.and_eq_false_iff, Bool.or_eq_false_iff, Bool.not_eq_true, Bool.not_eq_false, Bool.not_eq_true', Bool.not_eq_false', Bool.not_not, bne_iff_ne, beq_iff_eq] at h1)
  have hi : i = l.length := by omega
  have hend : (Ob.ok vs1 ro sx vox).fits r := by
   cases ro with
   | some y => exact n5 y rfl
   | none =>
    have h := n4 rfl
    rw [List.drop_of_length_le (by omega)] at h
    exact evB_nil h
  refine r_exit ?_
  refine r_endE (Ob.ok vs1 ro sx vox) hend rfl rs0 rfl [0, 1, 2] [] rfl rfl rfl
theorem b_step {e : En} {g : Nat} (hF : VF e.fs) (ihS : ∀ k, k ≤ g → HS e k) : HB e (g + 1) := fun l v d vb vs s vo r hl hll hd hs hr => block_step e g hF ihS l v d vb vs s vo r hl hll hd hs hr
section
variable {P : Program} {N : Nat} {w0 : World} {M H : Nat → Prop} {E : Env} {Γ R : Ctx} {Q : Exit → Act → World → Prop} {T : TypeId} {ps : String} {af : Array Edge}
/-- A call of an expression inside a region that draws its order. -/
theorem msx_X {o_dst : Option Nat} {n : Nat} {f : Operand} {xs : List Operand} {cap us vs : List Value} {at_ : Array TypeId} {L R0 : List Asn} {e : En} {d : Nat} {r : Re Int} (hs : SpecE P n vs L R0 (X := Oc Int) (fun o => o.fits r) oX (lX e d) (fun _ => [])) (hcb : Cb P n)
  (ks : List Nat) (rs : List (Bool × Nat)) (ns rns : List Nat) (hf : ev E f = some (.func (.func n) #[] cap.toArray)) (hx : evs E xs = some us) (hu : us ++ cap = vs)
  (hnd : ndB ks = true) (hL : cgets Γ ks = somes L) (hR : lgets Γ R rs = somes R0) (hl : lentOk ks rs = true) (hns : ndB ns = true) (hnl : ∀ x : Oc Int, x.fits r → ns.length = (lX e d x).length) (hrl : ∀ x : Oc Int, x.fits r → noneLent rs = true → rns.length = ([] : List Asn).length)
  (hp : ∀ (x : Oc Int) pv, x.fits r → oX x = .pan pv → At N w0 M H E (cputs ns (lX e d x) (ckill ks Γ)) (bif noneLent rs then cputs rns [] R else R) (Q (.panic [{ v := pv, recovered := false }]))) :
  MSX P N w0 M H E Γ R Q ⟨o_dst, .call { callee := .value f, args := xs.toArray, argTypes := at_ }, T, ps, af, none⟩ (X := Int × Ms × SV) (fun y => r = .ok y.1 y.2.1) (fun y => .int .u32 y.1) (fun y => cputs ns [row e.m 101 (mR e y.2.1 y.2.2 d false 0), own 36 1 eU (sv y.2.2) y.2.1.out] (ckill ks Γ)) (fun _ => bif noneLent rs then cputs rns [] R else R) := fun a w hE hC next hn =>
 msx_callE hs hcb ks rs ns rns hf hx hu hnd hL hR hl hns hnl hrl hp a w hE hC next fun x w' hx2 hC' => by
  obtain ⟨h1, h2⟩ := hx2
  obtain ⟨a, s, vo, rfl⟩ := oX_ret h2
  exact hn (a, s, vo) w' h1 hC'
end
theorem VY_es {fs : List Tf} {t : Ty} (h : VY fs t) : 1 ≤ t.es.length ∧ t.es.length ≤ 1000000 ∧ (t.kind = 3 → 2 ≤ t.es.length) ∧ VXs fs t.es := by cases t; exact h.1
theorem VY_body {fs : List Tf} {t : Ty} (h : VY fs t) : t.body.length ≤ 1000000 ∧ VYs fs t.body := by cases t; exact h.2.1
theorem VY_els {fs : List Tf} {t : Ty} (h : VY fs t) : t.els.length ≤ 1000000 ∧ VYs fs t.els := by cases t; exact h.2.2
/-- The state of a while loop. -/
structure Xw where
 g : Nat
 v : Int
 vs : Vs
 s : Ms
 vo : SV
set_option maxHeartbeats 16000000 in
set_option maxRecDepth 100000 in
theorem stmt_no (e : En) (g : Nat) (hF : VF e.fs) (ihX : ∀ k, k ≤ g → HX e k) (ihB : ∀ k, k ≤ g → HB e k) (t : Ty) (d vb : Nat) (vs : Vs) (s : Ms) (vo : SV) (r : Re (Vs × Option Int)) (ht : VY e.fs t) (hd : d ≤ 12) (hs : Sk e vs s) (hr : evS (g + 1) e.fs d vs t s = some r) (hfu : s.fuel ≤ 0) :
  SpecE Tryz.prog 103 [.pointer (some ⟨e.m, 0, none⟩), yV t, .map (some vb)] [row e.m 101 (mR e s vo d false 0), own 36 1 eU (sv vo) s.out, mp mkS Prod.fst vU (some vb) vs] (txsA t.ve t.es :: tysA t.vb t.body :: tysA t.vl t.els :: RO e) (X := Ob) (fun o => o.fits r) (fun o => oB o) (fun o => lB e d vb o) (fun _ => []) := by
 refine r_enterE Tryz.func103 rfl Tryz.ntmps103 rfl fun w0 M H => ?_
 unfold evS at hr
 rw [if_pos hfu] at hr
 refine r_seq (r_region ?_)
 refine r_boxA rfl rfl fun b4 => ?_
 refine r_nil (r_seq (r_region (r_p (p_move rfl) rfl ?_)))
 refine r_callE (xs := [.tmp 7]) (pay_no e.m e.mf e.mu e.mb (itv e.vin (e.ins.length - s.inp.length)) vo s.mem s.fuel (d : Int) false 0 hfu) cb119 [0] [] [0] [] rfl rfl rfl rfl rfl rfl rfl rfl (fun _ _ => rfl) (fun _ _ _ => rfl) rfl (fun _ _ => ?_)
 refine aft_pan ?_
 show At _ _ _ _ _ _ _ (bodyPost Tryz.prog Tryz.f103 _ (.panic _))
 refine r_out (Ob.er 25 (mR e s vo d false 0) vo s.out vs) (Option.some.inj hr).symm rfl [0, 1, 2] [] rfl rfl rfl
set_option maxHeartbeats 16000000 in
set_option maxRecDepth 100000 in
theorem stmt_ok (e : En) (g : Nat) (hF : VF e.fs) (ihX : ∀ k, k ≤ g → HX e k) (ihB : ∀ k, k ≤ g → HB e k) (t : Ty) (d vb : Nat) (vs : Vs) (s : Ms) (vo : SV) (r : Re (Vs × Option Int)) (ht : VY e.fs t) (hd : d ≤ 12) (hs : Sk e vs s) (hr : evS (g + 1) e.fs d vs t s = some r) (hfu : ¬ s.fuel ≤ 0) :
  SpecE Tryz.prog 103 [.pointer (some ⟨e.m, 0, none⟩), yV t, .map (some vb)] [row e.m 101 (mR e s vo d false 0), own 36 1 eU (sv vo) s.out, mp mkS Prod.fst vU (some vb) vs] (txsA t.ve t.es :: tysA t.vb t.body :: tysA t.vl t.els :: RO e) (X := Ob) (fun o => o.fits r) (fun o => oB o) (fun o => lB e d vb o) (fun _ => []) := by
 refine r_enterE Tryz.func103 rfl Tryz.ntmps103 rfl fun w0 M H => ?_
 unfold evS at hr
 rw [if_neg hfu] at hr
 obtain ⟨s1, hs1⟩ : ∃ s1 : Ms, ({ s with fuel := s.fuel - 1 } : Ms) = s1 := ⟨_, rfl⟩
 have hp := Kp.pay hs.ok hfu
 have hmR : mC e.mf e.mu e.mb (itv e.vin (e.ins.length - s.inp.length)) vo s.mem (s.fuel - 1) (d : Int) false 0 = mR e s1 vo d false 0 := by rw [← hs1]; rfl
 have hso : s.out = s1.out := by rw [← hs1]
 have hsf : (s1.out.length : Int) + max s1.fuel 0 + 1 ≤ 1000000000000 := by
  have := hs.ok.out
  rw [← hs1]
  dsimp only
  omega
 rw [hs1] at hr hp
 have h51 := hs.kp hp
 obtain ⟨ve1, ve2, ve3, ve4⟩ := VY_es ht
 obtain ⟨e1, er, hes⟩ : ∃ a b, t.es = a :: b := by
  cases h : t.es with
  | nil => rw [h] at ve1; simp at ve1
  | cons a b => exact ⟨a, b, rfl⟩
 rw [hes] at hr
 dsimp only at hr
 obtain ⟨rx, hx⟩ : ∃ rx, evX g e.fs d vs e1 s1 = some rx := by
  cases h : evX g e.fs d vs e1 s1 with
  | none => rw [h] at hr; simp at hr
  | some q => exact ⟨q, rfl⟩
 rw [hx] at hr
 have hm1 : e1 ∈ t.es := by rw [hes]; simp
 have hv1 := ve4.mem e1 hm1
 refine r_more 0 20 rfl txs_sl ?_
 refine r_more 0 21 rfl (txs_kid hm1) ?_
 refine r_seq (r_region ?_)
 refine r_boxA rfl rfl fun b4 => ?_
 refine r_nil (r_seq (r_region (r_p (p_move rfl) rfl ?_)))
 refine r_call (xs := [.tmp 7]) (pay_ok e.m e.mf e.mu e.mb (itv e.vin (e.ins.length - s.inp.length)) vo s.mem s.fuel (d : Int) false 0 hfu hs.ok.fuel) cb119 [0] [] [0] [] rfl rfl rfl rfl rfl rfl rfl rfl (fun _ _ => rfl) (fun _ _ _ => rfl) rfl (fun _ _ => ?_)
 rw [hmR]
 refine r_conva (k := 1) (A' := own 36 1 eU (sv vo) s1.out) rfl (fun _ _ h => by rw [← hso]; exact h) ?_
 refine r_nil (r_seq (r_region (r_p (p_move rfl) rfl ?_)))
 refine r_p (p_field0 fo53_2 rfl) rfl ?_
 refine r_p (p_load1 t46 rfl rfl (g_row1 (k := 4) rfl rfl)) rfl ?_
 refine r_p (p_idx_sl (j := 0) Tryz.underlying46 t48 rfl rfl (hs_sl (k := 20) rfl) rfl (by omega)) rfl ?_
 refine r_p (p_loadA t48 rfl rfl rfl (g_el' (hs_sl (k := 20) rfl) (by intro _; rfl) (show t.es[0]? = some e1 by rw [hes]; rfl) (by rfl))) rfl ?_
 refine r_p (p_move rfl) rfl ?_
 refine r_callE (xs := [.tmp 9, .tmp 13, .tmp 14]) (ihX g (Nat.le_refl g) e1 d vb vs s1 vo rx hv1 hd h51 hx) cb120 [0, 1] [(true, 2), (false, 21), (false, 3), (false, 4), (false, 5), (false, 6), (false, 7)] [0, 1] [] rfl rfl rfl rfl rfl rfl rfl rfl (fun o _ => lX_len o) (fun _ _ _ => rfl) rfl (fun o ho => ?_)
 rcases o with ⟨v, s2, vo2⟩ | ⟨z, c, vo2, l⟩
 rotate_left
 ·refine aft_pan ?_
  have hz : rx = .err z := ho
  subst hz
  show At _ _ _ _ _ _ _ (bodyPost Tryz.prog Tryz.f103 _ (.panic _))
  refine r_out (Ob.er z c vo2 l vs) (Option.some.inj hr).symm rfl [0, 1, 2] [] rfl rfl rfl
 refine aft_ret ?_
 have hz : rx = .ok v s2 := ho
 subst hz
 dsimp only at hr
 obtain ⟨hw1, hw2⟩ := (ev_ok hF g).x d vs e1 s1 v s2 hv1 h51.v h51.ok hx
 have kk5 := h51.kp hw2
 have hsum := hw2.sum
 refine r_p (p_assign rfl) rfl (r_nil (r_seq (r_region ?_)))
 refine r_p (p_field0 fo53_0 rfl) rfl ?_
 refine r_p (p_load1 t3 rfl rfl (g_row1 (k := 4) rfl rfl)) rfl ?_
 refine r_nil (r_block (r_seq (r_seq (r_region ?_))))
 refine r_p (p_bin rfl rfl b_eq) rfl ?_
 refine r_p (p_assign rfl) rfl (r_nil ?_)
 refine r_cond rfl (fun h1 => ?_) (fun h1 => ?_)
 ·have q1 : t.kind = 1 := of_decide_eq_true h1
  rw [if_pos (.inl q1)] at hr
  refine r_skip ?_
  refine r_cond rfl (fun h2 => ?_) (fun h2 => ?_)
  ·(try simp only [decide_eq_true_eq, decide_eq_false_iff_not, Bool.and_eq_true, Bool.or_eq_true, Bool.and_eq_false_iff, Bool.or_eq_false_iff, Bool.not_eq_true, Bool.not_eq_false, Bool.not_eq_true', Bool.not_eq_false', Bool.not_not, bne_iff_ne, beq_iff_eq] at h2)
   refine r_region (r_p (p_move rfl) rfl ?_)
   refine r_p (p_field0 fo53_1 rfl) rfl ?_
   refine r_p (p_load1 t9 rfl rfl (g_row1 (k := 4) rfl rfl)) rfl ?_
   refine r_p (p_move rfl) rfl ?_
   refine r_mapUpdate (k := 2) (t.name, v) (vput vs t.name v) Tryz.underlying133 keyS rfl rfl rfl rfl (List.Perm.refl _) ?_
   refine r_nil ?_
   refine r_endE (Ob.ok (vput vs t.name v) none s2 vo2) (Option.some.inj hr).symm rfl rs0 rfl [0, 1, 2] [] rfl rfl rfl
  ·exact absurd (decide_eq_true q1) (by rw [h2]; simp)
 ·have q1 : ¬ t.kind = 1 := of_decide_eq_false h1
  refine r_region ?_
  refine r_p (p_bin rfl rfl b_eq) rfl ?_
  refine r_p (p_assign rfl) rfl (r_nil ?_)
  refine r_cond rfl (fun h3 => ?_) (fun h3 => ?_)
  ·have q2 : t.kind = 2 := of_decide_eq_true h3
   rw [if_pos (.inr q2)] at hr
   refine r_region (r_p (p_move rfl) rfl ?_)
   refine r_p (p_field0 fo53_1 rfl) rfl ?_
   refine r_p (p_load1 t9 rfl rfl (g_row1 (k := 4) rfl rfl)) rfl ?_
   refine r_p (p_move rfl) rfl ?_
   refine r_mapUpdate (k := 2) (t.name, v) (vput vs t.name v) Tryz.underlying133 keyS rfl rfl rfl rfl (List.Perm.refl _) ?_
   refine r_nil ?_
   refine r_endE (Ob.ok (vput vs t.name v) none s2 vo2) (Option.some.inj hr).symm rfl rs0 rfl [0, 1, 2] [] rfl rfl rfl
  ·have q2 : ¬ t.kind = 2 := of_decide_eq_false h3
   rw [if_neg (fun h => h.elim q1 q2)] at hr
   refine r_seq (r_region ?_)
   refine r_p (p_bin rfl rfl b_eq) rfl ?_
   refine r_p (p_assign rfl) rfl (r_nil ?_)
   refine r_cond rfl (fun h4 => ?_) (fun h4 => ?_)
   ·have q3 : t.kind = 3 := of_decide_eq_true h4
    rw [if_pos q3] at hr
    have ve5 := ve3 q3
    obtain ⟨e2, er2, her⟩ : ∃ a b, er = a :: b := by
     cases h : er with
     | nil => rw [hes, h] at ve5; simp at ve5
     | cons a b => exact ⟨a, b, rfl⟩
    rw [her] at hr
    dsimp only at hr
    obtain ⟨ry, hy⟩ : ∃ ry, evX g e.fs d vs e2 s2 = some ry := by
     cases h : evX g e.fs d vs e2 s2 with
     | none => rw [h] at hr; simp at hr
     | some q => exact ⟨q, rfl⟩
    rw [hy] at hr
    have hm2 : e2 ∈ t.es := by rw [hes, her]; simp
    have hv2 := ve4.mem e2 hm2
    have hes2 : t.es[1]? = some e2 := by rw [hes, her]; rfl
    have hel2 : 1 < t.es.length := by rw [hes, her]; simp
    have hwm := tmod_u32 (b := 256) hw1
    refine r_more 0 22 rfl (txs_kid hm2) ?_
    refine r_draw [27, 28, 29, 30, 31, 32, 33, 34, 35, 36, 37, 38, 39] _ rfl (stg_memX (V := [(0, 27, _), (1, 28, _), (2, 29, _), (3, 30, _), (4, 31, _), (5, 32, _), (6, 33, _), (7, 34, _), (8, 35, _), (10, 37, _), (11, 38, _)]) [0, 1, 2, 3, 4, 5, 6, 7, 8, 10, 11] 9 [9, 8, 7, 6, 5, 4, 3] [12] (fun y5 => [(12, 39, _)]) rfl rfl (prs_cons (pri rfl (p_move rfl)) (prs_cons (pri rfl (p_move rfl)) (prs_cons (pri rfl (p_bin rfl rfl (b_rem (by decide) hwm))) (prs_cons (pri rfl (p_move rfl)) (prs_cons (pri rfl (p_field0 fo53_2 rfl)) (prs_cons (pri rfl (p_load1 t46 rfl rfl (g_row1 (k := 4) rfl rfl))) (prs_cons (pri rfl (p_idx_sl (j := 1) Tryz.underlying46 t48 rfl rfl (hs_sl (k := 20) rfl) rfl hel2)) (prs_cons (pri rfl (p_loadA t48 rfl rfl rfl (g_el' (hs_sl (k := 20) rfl) (by intro _; rfl) hes2 (by rfl)))) (prs_cons (pri rfl (p_move rfl)) (prs_cons (pri rfl (p_nilCheck rfl)) (prs_cons (pri rfl (p_field0 fo101_5 rfl)) prs_nil))))))))))) rfl rfl rfl rfl rfl rfl rfl rfl rfl rfl rfl (fun _ _ => rfl) rfl (msx_X (xs := [.tmp 30, .tmp 34, .tmp 35]) (ihX g (Nat.le_refl g) e2 d vb vs s2 vo2 ry hv2 hd kk5 hy) cb120 [0, 1] [(true, 2), (false, 22), (false, 3), (false, 4), (false, 5), (false, 6), (false, 7)] [0, 1] [] rfl rfl rfl rfl rfl rfl rfl rfl (fun o _ => lX_len o) (fun _ _ _ => rfl) (fun o pv ho hv => by obtain ⟨z, c, vo3, l, rfl, rfl⟩ := oX_pan hv; have hz : ry = .err z := ho; subst hz; exact r_out (fn := Tryz.f103) (P := Tryz.prog) (Ob.er z c vo3 l vs) (Option.some.inj hr).symm rfl [0, 1, 2] [] rfl rfl rfl)) (fun y5 hy5 => stg_mem0 [12, 0, 1, 2, 10, 11] 13 [13, 12, 11, 10, 9, 8, 7, 6, 5, 4, 3, 2, 1, 0] [] (fun _ => []) rfl rfl (prs_cons (pri rfl (p_idx_arr (j := (v % 256).toNat) Tryz.underlying99 t36 rfl rfl (by have := hw1.1; omega) (by omega))) (prs_cons (pri rfl (p_move rfl)) (prs_cons (pri rfl (p_move rfl)) (prs_cons (pri rfl (p_bin rfl rfl (b_rem (by decide) hwm))) (prs_cons (pri rfl (p_nilCheck rfl)) (prs_cons (pri rfl (p_field0 fo101_5 rfl)) prs_nil)))))) rfl rfl rfl rfl rfl rfl rfl rfl rfl (fun _ _ => rfl) rfl (ms_store_row (k := 0) t36 rfl rfl rfl rfl rfl rfl (mC_fit (by omega)) (mC_setMem (by omega))) (fun _ _ => stg_end [] rfl rfl prs_nil rfl rfl rfl ?_)))
    obtain ⟨w5, s5, vo5⟩ := y5
    have hz : ry = .ok w5 s5 := hy5
    subst hz
    refine r_endE (Ob.ok vs none { s5 with mem := mput s5.mem (v % 256).toNat w5 } vo5) (Option.some.inj hr).symm rfl rs0 rfl [0, 1, 2] [] rfl rfl rfl
   ·have q3 : ¬ t.kind = 3 := of_decide_eq_false h4
    rw [if_neg q3] at hr
    refine r_seq (r_region ?_)
    refine r_p (p_bin rfl rfl b_eq) rfl ?_
    refine r_p (p_assign rfl) rfl (r_nil ?_)
    refine r_cond rfl (fun h5 => ?_) (fun h5 => ?_)
    ·have q4 : t.kind = 4 := of_decide_eq_true h5
     rw [if_pos q4] at hr
     refine r_seq (r_region (r_p (p_move rfl) rfl ?_))
     refine r_p (p_bin rfl rfl b_ne) rfl ?_
     refine r_nil ?_
     refine r_cond rfl (fun h6 => ?_) (fun h6 => ?_)
     ·have qv : ¬ v = 0 := by simpa using h6
      rw [if_neg qv] at hr
      refine r_region (r_p (p_move rfl) rfl ?_)
      refine r_p (p_field0 fo53_3 rfl) rfl ?_
      refine r_p (p_load1 t51 rfl rfl (g_row1 (k := 4) rfl rfl)) rfl ?_
      refine r_p (p_move rfl) rfl ?_
      refine r_callE (xs := [.tmp 44, .tmp 46, .tmp 47]) (ihB g (Nat.le_refl g) t.body t.vb d vb vs s2 vo2 r (VY_body ht).2 (VY_body ht).1 hd kk5 hr) cb80 [0, 1, 2] [(false, 1), (false, 3), (false, 4), (false, 5), (false, 6), (false, 7)] [0, 1, 2] [] rfl rfl rfl rfl rfl rfl rfl rfl (fun o _ => lB_len o) (fun _ _ _ => rfl) rfl (fun o ho => ?_)
      rcases o with ⟨vs3, ro3, s3, vo3⟩ | ⟨z, c, vo3, l, vs3⟩
      rotate_left
      ·refine aft_pan ?_
       have hz : Ob.fits r (.er z c vo3 l vs3) := ho
       show At _ _ _ _ _ _ _ (bodyPost Tryz.prog Tryz.f103 _ (.panic _))
       refine r_out (Ob.er z c vo3 l vs3) hz rfl [0, 1, 2] [] rfl rfl rfl
      refine aft_ret ?_
      refine r_nil ?_
      refine r_endE (Ob.ok vs3 ro3 s3 vo3) ho rfl rs0 rfl [0, 1, 2] [] rfl rfl rfl
     ·have qv : v = 0 := by simpa using h6
      rw [if_pos qv] at hr
      refine r_region (r_p (p_move rfl) rfl ?_)
      refine r_p (p_field0 fo53_4 rfl) rfl ?_
      refine r_p (p_load1 t51 rfl rfl (g_row1 (k := 4) rfl rfl)) rfl ?_
      refine r_p (p_move rfl) rfl ?_
      refine r_callE (xs := [.tmp 49, .tmp 51, .tmp 52]) (ihB g (Nat.le_refl g) t.els t.vl d vb vs s2 vo2 r (VY_els ht).2 (VY_els ht).1 hd kk5 hr) cb80 [0, 1, 2] [(false, 2), (false, 3), (false, 4), (false, 5), (false, 6), (false, 7)] [0, 1, 2] [] rfl rfl rfl rfl rfl rfl rfl rfl (fun o _ => lB_len o) (fun _ _ _ => rfl) rfl (fun o ho => ?_)
      rcases o with ⟨vs3, ro3, s3, vo3⟩ | ⟨z, c, vo3, l, vs3⟩
      rotate_left
      ·refine aft_pan ?_
       have hz : Ob.fits r (.er z c vo3 l vs3) := ho
       show At _ _ _ _ _ _ _ (bodyPost Tryz.prog Tryz.f103 _ (.panic _))
       refine r_out (Ob.er z c vo3 l vs3) hz rfl [0, 1, 2] [] rfl rfl rfl
      refine aft_ret ?_
      refine r_nil ?_
      refine r_endE (Ob.ok vs3 ro3 s3 vo3) ho rfl rs0 rfl [0, 1, 2] [] rfl rfl rfl
    ·have q4 : ¬ t.kind = 4 := of_decide_eq_false h5
     rw [if_neg q4] at hr
     refine r_seq (r_region ?_)
     refine r_p (p_bin rfl rfl b_eq) rfl ?_
     refine r_p (p_assign rfl) rfl (r_nil ?_)
     refine r_cond rfl (fun h7 => ?_) (fun h7 => ?_)
     ·have q5 : t.kind = 5 := of_decide_eq_true h7
      rw [if_pos q5] at hr
      refine r_block ?_
      refine r_loop (X := Xw) (fun x => x.g ≤ g ∧ Sk e x.vs x.s ∧ evW x.g e.fs d x.vs e1 t.body x.v x.s = some r) (fun x => [(0, .pointer (some ⟨e.m, 0, none⟩)), (2, .map (some vb)), (4, .pointer (some ⟨b4, 0, none⟩)), (6, .int .u32 x.v)]) (fun x => [(0, row e.m 101 (mR e x.s x.vo d false 0)), (1, own 36 1 eU (sv x.vo) x.s.out), (2, mp mkS Prod.fst vU (some vb) x.vs), (4, row b4 53 (eTy t))]) (fun x => [(0, txsA t.ve t.es), (1, tysA t.vb t.body), (2, tysA t.vl t.els), (3, fnsA e.fs), (4, mp mkS Tf.name tfV (some e.mf) e.fs), (5, mp mkS Prod.fst vF (some e.mu) uL), (6, mp mkS Prod.fst vF (some e.mb) bL), (7, sl 1 eU (sv e.vin) e.ins), (20, sl 4 eTx (sv t.ve) t.es), (21, txsA e1.v e1.kids)]) (fun x => x.g) ⟨g, v, vs, s2, vo2⟩ ⟨Nat.le_refl _, kk5, hr⟩ rfl rfl rfl (fun x hx0 => ?_)
      obtain ⟨gx, vx, vs1, sx, vox⟩ := x
      obtain ⟨n1, n3, n4⟩ := hx0
      dsimp only at n1 n3 n4 ⊢
      refine r_seq (r_seq (r_region (r_p (p_move rfl) rfl ?_)))
      refine r_p (p_bin rfl rfl b_ne) rfl ?_
      refine r_nil ?_
      refine r_cond rfl (fun h8 => ?_) (fun h8 => ?_)
      ·have qv : ¬ vx = 0 := by simpa using h8
       obtain ⟨g2, q, rfl, hwb, hwe, hws, hwn⟩ := evW_in n4 qv
       refine r_skip (r_block (r_seq (r_region (r_p (p_move rfl) rfl ?_))))
       refine r_p (p_field0 fo53_3 rfl) rfl ?_
       refine r_p (p_load1 t51 rfl rfl (g_row1 (k := 4) rfl rfl)) rfl ?_
       refine r_p (p_move rfl) rfl ?_
       refine r_callE (xs := [.tmp 58, .tmp 60, .tmp 61]) (ihB g2 (by omega) t.body t.vb d vb vs1 sx vox q (VY_body ht).2 (VY_body ht).1 hd n3 hwb) cb80 [0, 1, 2] [(false, 1), (false, 3), (false, 4), (false, 5), (false, 6), (false, 7)] [0, 1, 2] [] rfl rfl rfl rfl rfl rfl rfl rfl (fun o _ => lB_len o) (fun _ _ _ => rfl) rfl (fun o ho => ?_)
       rcases o with ⟨vs3, ro3, s3, vo3⟩ | ⟨z, c, vo3, l, vs3⟩
       rotate_left
       ·refine aft_pan ?_
        have hz : q = .err z := ho
        have hq := hwe z hz
        show At _ _ _ _ _ _ _ (bodyPost Tryz.prog Tryz.f103 _ (.panic _))
        refine r_out (Ob.er z c vo3 l vs3) hq rfl [0, 1, 2] [] rfl rfl rfl
       refine aft_ret ?_
       have hz : q = .ok (vs3, ro3) s3 := ho
       rw [hz] at hwb
       obtain ⟨hx1, hx2, hx3⟩ := (ev_ok hF g2).b d vs1 t.body sx _ s3 (VY_body ht).2 n3.v n3.ok hwb
       have kk6 : Sk e vs3 s3 := ⟨hx1, hx3.ok, n3.i.kp hx3⟩
       refine r_nil (r_seq (r_seq (r_region (r_p (p_move rfl) rfl (r_p (p_nilCheck rfl) rfl ?_)))))
       refine r_p (p_field0 fo101_8 rfl) rfl ?_
       refine r_p (p_load1 t4 rfl rfl (g_row1 (k := 0) rfl mC_rt)) rfl ?_
       refine r_nil ?_
       refine r_cond rfl (fun h9 => ?_) (fun h9 => ?_)
       ·obtain ⟨y3, hy3⟩ := Option.isSome_iff_exists.1 h9
        subst hy3
        refine r_cret ?_
        refine r_retE (Ob.ok vs3 (some y3) s3 vo3) (hws vs3 y3 s3 hz) rfl rs0 rfl [0, 1, 2] [] rfl rfl rfl
       ·have hro : ro3 = none := by
         cases ro3 with
         | none => rfl
         | some y => simp at h9
        subst hro
        obtain ⟨rz, hrz, hze, hzo⟩ := hwn vs3 s3 hz
        refine r_skip (r_region (r_p (p_move rfl) rfl ?_))
        refine r_p (p_field0 fo53_2 rfl) rfl ?_
        refine r_p (p_load1 t46 rfl rfl (g_row1 (k := 4) rfl rfl)) rfl ?_
        refine r_p (p_idx_sl (j := 0) Tryz.underlying46 t48 rfl rfl (hs_sl (k := 20) rfl) rfl (by omega)) rfl ?_
        refine r_p (p_loadA t48 rfl rfl rfl (g_el' (hs_sl (k := 20) rfl) (by intro _; rfl) (show t.es[0]? = some e1 by rw [hes]; rfl) (by rfl))) rfl ?_
        refine r_p (p_move rfl) rfl ?_
        refine r_callE (xs := [.tmp 67, .tmp 71, .tmp 72]) (ihX g2 (by omega) e1 d vb vs3 s3 vo3 rz hv1 hd kk6 hrz) cb120 [0, 1] [(true, 2), (false, 21), (false, 3), (false, 4), (false, 5), (false, 6), (false, 7)] [0, 1] [] rfl rfl rfl rfl rfl rfl rfl rfl (fun o _ => lX_len o) (fun _ _ _ => rfl) rfl (fun o ho => ?_)
        rcases o with ⟨v4, s4, vo4⟩ | ⟨z, c, vo4, l⟩
        rotate_left
        ·refine aft_pan ?_
         have hz2 : rz = .err z := ho
         have hq := hze z hz2
         show At _ _ _ _ _ _ _ (bodyPost Tryz.prog Tryz.f103 _ (.panic _))
         refine r_out (Ob.er z c vo4 l vs3) hq rfl [0, 1, 2] [] rfl rfl rfl
        refine aft_ret ?_
        have hz2 : rz = .ok v4 s4 := ho
        have hq := hzo v4 s4 hz2
        rw [hz2] at hrz
        obtain ⟨hy1, hy2⟩ := (ev_ok hF g2).x d vs3 e1 s3 v4 s4 hv1 kk6.v kk6.ok hrz
        have kk7 := kk6.kp hy2
        refine r_p (p_assign rfl) rfl (r_nil ?_)
        refine r_here ⟨g2, v4, vs3, s4, vo4⟩ ⟨⟨by dsimp only; omega, kk7, hq⟩, by dsimp only; omega⟩ rfl rfl rfl
      ·have qv : vx = 0 := by simpa using h8
       have hwo := evW_out n4 qv
       refine r_exit ?_
       refine r_endE (Ob.ok vs1 none sx vox) hwo rfl rs0 rfl [0, 1, 2] [] rfl rfl rfl
     ·have q5 : ¬ t.kind = 5 := of_decide_eq_false h7
      rw [if_neg q5] at hr
      refine r_seq (r_region ?_)
      refine r_p (p_bin rfl rfl b_eq) rfl ?_
      refine r_p (p_assign rfl) rfl (r_nil ?_)
      refine r_cond rfl (fun h10 => ?_) (fun h10 => ?_)
      ·have q6 : t.kind = 6 := of_decide_eq_true h10
       rw [if_pos q6] at hr
       refine r_region (r_p (p_move rfl) rfl (r_p (p_move rfl) rfl (r_p (p_move rfl) rfl (r_p (p_nilCheck rfl) rfl ?_))))
       refine r_p (p_field0 fo101_8 rfl) rfl ?_
       refine r_store_row (k := 0) t4 rfl rfl rfl rfl rfl rfl (mC_fit (by decide)) (mC_setRt) ?_
       refine r_p (p_nilCheck rfl) rfl ?_
       refine r_p (p_field0 fo101_9 rfl) rfl ?_
       refine r_store_row (k := 0) t36 rfl rfl rfl rfl rfl rfl (mC_fit (by decide)) (mC_setVal) ?_
       refine r_nil ?_
       refine r_endE (Ob.ok vs (some v) s2 vo2) (Option.some.inj hr).symm rfl rs0 rfl [0, 1, 2] [] rfl rfl rfl
      ·have q6 : ¬ t.kind = 6 := of_decide_eq_false h10
       rw [if_neg q6] at hr
       refine r_seq (r_region ?_)
       refine r_p (p_bin rfl rfl b_eq) rfl ?_
       refine r_p (p_assign rfl) rfl (r_nil ?_)
       refine r_cond rfl (fun h11 => ?_) (fun h11 => ?_)
       ·have q7 : t.kind = 7 := of_decide_eq_true h11
        rw [if_pos q7] at hr
        refine r_region (r_p (p_move rfl) rfl (r_p (p_move rfl) rfl (r_p (p_nilCheck rfl) rfl ?_)))
        refine r_p (p_field0 fo101_4 rfl) rfl ?_
        refine r_p (p_load1 t23 rfl rfl (g_row1 (k := 0) rfl rfl)) rfl ?_
        refine r_p (p_move rfl) rfl ?_
        refine r_bslice1 eU _ Tryz.underlying23 t36 rfl (by decide) (by decide) rfl rfl rfl rfl fun v91 => ?_
        refine r_append 1 Tryz.underlying23 t36 rfl (by decide) (fun _ => rfl) (fun _ => rfl) rfl rfl rfl (hs_own (k := 91) rfl) (by rw [List.length_singleton]; omega) (by unfold maxLen; rw [List.length_singleton]; omega) rfl fun v92 => ?_
        refine r_p (p_nilCheck rfl) rfl ?_
        refine r_p (p_field0 fo101_4 rfl) rfl ?_
        refine r_store_row (k := 0) t23 rfl rfl rfl rfl rfl rfl (mC_fit (by decide)) (mC_setOut) ?_
        refine r_nil ?_
        refine r_endE (Ob.ok vs none { s2 with out := s2.out ++ [v] } v92) (Option.some.inj hr).symm rfl rs0 rfl [0, 1, 2] [] rfl rfl rfl
       ·have q7 : ¬ t.kind = 7 := of_decide_eq_false h11
        rw [if_neg q7] at hr
        refine r_skip ?_
        refine r_endE (Ob.ok vs none s2 vo2) (Option.some.inj hr).symm rfl rs0 rfl [0, 1, 2] [] rfl rfl rfl
end Go.Proofs.YtdcbbkpdlcojfaaGreat
