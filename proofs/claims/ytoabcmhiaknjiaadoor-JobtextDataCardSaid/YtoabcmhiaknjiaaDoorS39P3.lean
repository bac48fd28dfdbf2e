/- Contracts and laws that the claim leans on, part 3. -/
import Derived.Test.YtoabcmhiaknjiaaDoorProg
import Derived.Test.YtoabcmhiaknjiaaDoorS39P2
import Derived.Test.YtoabcmhiaknjiaaDoorS39P1
set_option maxRecDepth 100000
namespace Go.Proofs.YtoabcmhiaknjiaaDoor
open Go.Hw
theorem mixed : Tryd.prog.follows .mixedOrders = true := by kernel_rfl
theorem ty1 : TyOK Tryd.prog 1 (some (.nilFunc)) 1 8 := tyOK (by kernel_rfl)
theorem ty2 : TyOK Tryd.prog 2 (some (.int .i64 0)) 1 8 := tyOK (by kernel_rfl)
theorem ty3 : TyOK Tryd.prog 3 (some (.int .i64 0)) 1 8 := tyOK (by kernel_rfl)
theorem ty4 : TyOK Tryd.prog 4 (some (.bool false)) 1 1 := tyOK (by kernel_rfl)
theorem ty5 : TyOK Tryd.prog 5 (some (.int .u8 0)) 1 1 := tyOK (by kernel_rfl)
theorem ty6 : TyOK Tryd.prog 6 (some (.int .u8 0)) 1 1 := tyOK (by kernel_rfl)
theorem ty7 : TyOK Tryd.prog 7 (some (.agg #[.int .i64 0, .int .i64 0, .bool false, .int .u8 0])) 4 24 := tyOK (by kernel_rfl)
theorem fld7_0 : FldOK Tryd.prog 7 0 0 := ⟨_, _, _, _, _, Tryd.underlying7, rfl, rfl, ty2⟩
theorem fld7_1 : FldOK Tryd.prog 7 1 1 := ⟨_, _, _, _, _, Tryd.underlying7, rfl, rfl, ty3⟩
theorem fld7_2 : FldOK Tryd.prog 7 2 2 := ⟨_, _, _, _, _, Tryd.underlying7, rfl, rfl, ty4⟩
theorem fld7_3 : FldOK Tryd.prog 7 3 3 := ⟨_, _, _, _, _, Tryd.underlying7, rfl, rfl, ty6⟩
theorem ty8 : TyOK Tryd.prog 8 (some (.agg #[.int .i64 0, .int .i64 0, .bool false, .int .u8 0])) 4 24 := tyOK (by kernel_rfl)
theorem fld8_0 : FldOK Tryd.prog 8 0 0 := ⟨_, _, _, _, _, Tryd.underlying8, rfl, rfl, ty2⟩
theorem fld8_1 : FldOK Tryd.prog 8 1 1 := ⟨_, _, _, _, _, Tryd.underlying8, rfl, rfl, ty3⟩
theorem fld8_2 : FldOK Tryd.prog 8 2 2 := ⟨_, _, _, _, _, Tryd.underlying8, rfl, rfl, ty4⟩
theorem fld8_3 : FldOK Tryd.prog 8 3 3 := ⟨_, _, _, _, _, Tryd.underlying8, rfl, rfl, ty6⟩
theorem ty9 : TyOK Tryd.prog 9 (some (.string ⟨#[]⟩)) 1 16 := tyOK (by kernel_rfl)
theorem ty10 : TyOK Tryd.prog 10 (some (.string ⟨#[]⟩)) 1 16 := tyOK (by kernel_rfl)
theorem ty11 : TyOK Tryd.prog 11 (some (.string ⟨#[]⟩)) 1 16 := tyOK (by kernel_rfl)
theorem ty12 : TyOK Tryd.prog 12 (some (.int .u64 0)) 1 8 := tyOK (by kernel_rfl)
theorem ty13 : TyOK Tryd.prog 13 (some (.agg #[.string ⟨#[]⟩, .int .u64 0])) 2 24 := tyOK (by kernel_rfl)
theorem fld13_0 : FldOK Tryd.prog 13 0 0 := ⟨_, _, _, _, _, Tryd.underlying13, rfl, rfl, ty9⟩
theorem fld13_1 : FldOK Tryd.prog 13 1 1 := ⟨_, _, _, _, _, Tryd.underlying13, rfl, rfl, ty12⟩
theorem ty14 : TyOK Tryd.prog 14 (some (.agg #[.string ⟨#[]⟩, .int .u64 0])) 2 24 := tyOK (by kernel_rfl)
theorem fld14_0 : FldOK Tryd.prog 14 0 0 := ⟨_, _, _, _, _, Tryd.underlying14, rfl, rfl, ty9⟩
theorem fld14_1 : FldOK Tryd.prog 14 1 1 := ⟨_, _, _, _, _, Tryd.underlying14, rfl, rfl, ty12⟩
theorem ty15 : TyOK Tryd.prog 15 (some (.pointer none)) 1 8 := tyOK (by kernel_rfl)
theorem ty16 : TyOK Tryd.prog 16 (some (.pointer none)) 1 8 := tyOK (by kernel_rfl)
theorem ty17 : TyOK Tryd.prog 17 (some (.pointer none)) 1 8 := tyOK (by kernel_rfl)
theorem ty18 : TyOK Tryd.prog 18 (some (.agg #[.pointer none])) 1 8 := tyOK (by kernel_rfl)
theorem fld18_0 : FldOK Tryd.prog 18 0 0 := ⟨_, _, _, _, _, Tryd.underlying18, rfl, rfl, ty17⟩
theorem ty19 : TyOK Tryd.prog 19 (some (.agg #[.pointer none])) 1 8 := tyOK (by kernel_rfl)
theorem fld19_0 : FldOK Tryd.prog 19 0 0 := ⟨_, _, _, _, _, Tryd.underlying19, rfl, rfl, ty17⟩
theorem ty20 : TyOK Tryd.prog 20 (some (.nilIface)) 1 16 := tyOK (by kernel_rfl)
theorem ty21 : TyOK Tryd.prog 21 (some (.int .i32 0)) 1 4 := tyOK (by kernel_rfl)
theorem ty22 : TyOK Tryd.prog 22 (some (.map none)) 1 8 := tyOK (by kernel_rfl)
theorem ty23 : TyOK Tryd.prog 23 (some (.nilFunc)) 1 8 := tyOK (by kernel_rfl)
theorem ty24 : TyOK Tryd.prog 24 (some (.slice none 0 0)) 1 24 := tyOK (by kernel_rfl)
theorem ty25 : TyOK Tryd.prog 25 (some (.int .i64 0)) 1 8 := tyOK (by kernel_rfl)
theorem ty27 : TyOK Tryd.prog 27 (some (.nilFunc)) 1 8 := tyOK (by kernel_rfl)
theorem ty29 : TyOK Tryd.prog 29 (some (.nilFunc)) 1 8 := tyOK (by kernel_rfl)
theorem ty30 : TyOK Tryd.prog 30 (some (.nilFunc)) 1 8 := tyOK (by kernel_rfl)
theorem ty31 : TyOK Tryd.prog 31 (some (.nilFunc)) 1 8 := tyOK (by kernel_rfl)
theorem ty32 : TyOK Tryd.prog 32 (some (.nilFunc)) 1 8 := tyOK (by kernel_rfl)
theorem ty33 : TyOK Tryd.prog 33 (some (.nilFunc)) 1 8 := tyOK (by kernel_rfl)
theorem ty34 : TyOK Tryd.prog 34 (some (.nilFunc)) 1 8 := tyOK (by kernel_rfl)
theorem ty35 : TyOK Tryd.prog 35 (some (.nilFunc)) 1 8 := tyOK (by kernel_rfl)
theorem ty36 : TyOK Tryd.prog 36 (some (.slice none 0 0)) 1 24 := tyOK (by kernel_rfl)
theorem ty38 : TyOK Tryd.prog 38 (some (.nilFunc)) 1 8 := tyOK (by kernel_rfl)
theorem ty39 : TyOK Tryd.prog 39 (some (.agg #[.int .i64 0, .string ⟨#[]⟩, .slice none 0 0, .slice none 0 0])) 4 72 := tyOK (by kernel_rfl)
theorem fld39_0 : FldOK Tryd.prog 39 0 0 := ⟨_, _, _, _, _, Tryd.underlying39, rfl, rfl, ty3⟩
theorem fld39_1 : FldOK Tryd.prog 39 1 1 := ⟨_, _, _, _, _, Tryd.underlying39, rfl, rfl, ty9⟩
theorem fld39_2 : FldOK Tryd.prog 39 2 2 := ⟨_, _, _, _, _, Tryd.underlying39, rfl, rfl, ty24⟩
theorem fld39_3 : FldOK Tryd.prog 39 3 3 := ⟨_, _, _, _, _, Tryd.underlying39, rfl, rfl, ty24⟩
theorem ty40 : TyOK Tryd.prog 40 (some (.agg #[.int .i64 0, .string ⟨#[]⟩, .slice none 0 0, .slice none 0 0])) 4 72 := tyOK (by kernel_rfl)
theorem fld40_0 : FldOK Tryd.prog 40 0 0 := ⟨_, _, _, _, _, Tryd.underlying40, rfl, rfl, ty3⟩
theorem fld40_1 : FldOK Tryd.prog 40 1 1 := ⟨_, _, _, _, _, Tryd.underlying40, rfl, rfl, ty9⟩
theorem fld40_2 : FldOK Tryd.prog 40 2 2 := ⟨_, _, _, _, _, Tryd.underlying40, rfl, rfl, ty24⟩
theorem fld40_3 : FldOK Tryd.prog 40 3 3 := ⟨_, _, _, _, _, Tryd.underlying40, rfl, rfl, ty24⟩
theorem ty41 : TyOK Tryd.prog 41 (some (.nilFunc)) 1 8 := tyOK (by kernel_rfl)
theorem ty42 : TyOK Tryd.prog 42 (some (.nilFunc)) 1 8 := tyOK (by kernel_rfl)
theorem ty43 : TyOK Tryd.prog 43 (some (.nilFunc)) 1 8 := tyOK (by kernel_rfl)
theorem ty44 : TyOK Tryd.prog 44 (some (.nilFunc)) 1 8 := tyOK (by kernel_rfl)
theorem ty45 : TyOK Tryd.prog 45 (some (.nilFunc)) 1 8 := tyOK (by kernel_rfl)
theorem ty46 : TyOK Tryd.prog 46 (some (.nilFunc)) 1 8 := tyOK (by kernel_rfl)
theorem ty47 : TyOK Tryd.prog 47 (some (.nilFunc)) 1 8 := tyOK (by kernel_rfl)
theorem ty48 : TyOK Tryd.prog 48 (some (.nilFunc)) 1 8 := tyOK (by kernel_rfl)
theorem ty50 : TyOK Tryd.prog 50 (some (.nilFunc)) 1 8 := tyOK (by kernel_rfl)
theorem ty51 : TyOK Tryd.prog 51 (some (.pointer none)) 1 8 := tyOK (by kernel_rfl)
theorem ty52 : TyOK Tryd.prog 52 (some (.slice none 0 0)) 1 24 := tyOK (by kernel_rfl)
theorem ty53 : TyOK Tryd.prog 53 (some (.agg #[.pointer none, .slice none 0 0])) 2 32 := tyOK (by kernel_rfl)
theorem fld53_0 : FldOK Tryd.prog 53 0 0 := ⟨_, _, _, _, _, Tryd.underlying53, rfl, rfl, ty51⟩
theorem fld53_1 : FldOK Tryd.prog 53 1 1 := ⟨_, _, _, _, _, Tryd.underlying53, rfl, rfl, ty52⟩
theorem ty54 : TyOK Tryd.prog 54 (some (.agg #[.pointer none, .slice none 0 0])) 2 32 := tyOK (by kernel_rfl)
theorem fld54_0 : FldOK Tryd.prog 54 0 0 := ⟨_, _, _, _, _, Tryd.underlying54, rfl, rfl, ty51⟩
theorem fld54_1 : FldOK Tryd.prog 54 1 1 := ⟨_, _, _, _, _, Tryd.underlying54, rfl, rfl, ty52⟩
theorem ty55 : TyOK Tryd.prog 55 (some (.nilFunc)) 1 8 := tyOK (by kernel_rfl)
theorem ty56 : TyOK Tryd.prog 56 (some (.nilIface)) 1 16 := tyOK (by kernel_rfl)
theorem ty57 : TyOK Tryd.prog 57 (some (.nilIface)) 1 16 := tyOK (by kernel_rfl)
theorem ty59 : TyOK Tryd.prog 59 (some (.nilFunc)) 1 8 := tyOK (by kernel_rfl)
theorem ty60 : TyOK Tryd.prog 60 (some (.nilFunc)) 1 8 := tyOK (by kernel_rfl)
theorem ty61 : TyOK Tryd.prog 61 (some (.nilFunc)) 1 8 := tyOK (by kernel_rfl)
theorem ty62 : TyOK Tryd.prog 62 (some (.nilFunc)) 1 8 := tyOK (by kernel_rfl)
theorem ty64 : TyOK Tryd.prog 64 (some (.nilFunc)) 1 8 := tyOK (by kernel_rfl)
theorem ty65 : TyOK Tryd.prog 65 (some (.nilFunc)) 1 8 := tyOK (by kernel_rfl)
theorem ty66 : TyOK Tryd.prog 66 (some (.nilFunc)) 1 8 := tyOK (by kernel_rfl)
theorem ty67 : TyOK Tryd.prog 67 (some (.nilFunc)) 1 8 := tyOK (by kernel_rfl)
theorem ty68 : TyOK Tryd.prog 68 (some (.slice none 0 0)) 1 24 := tyOK (by kernel_rfl)
theorem ty69 : TyOK Tryd.prog 69 (some (.nilFunc)) 1 8 := tyOK (by kernel_rfl)
theorem ty70 : TyOK Tryd.prog 70 (some (.nilFunc)) 1 8 := tyOK (by kernel_rfl)
theorem ty71 : TyOK Tryd.prog 71 (some (.nilFunc)) 1 8 := tyOK (by kernel_rfl)
theorem ty72 : TyOK Tryd.prog 72 (some (.agg #[.int .i64 0, .string ⟨#[]⟩])) 2 24 := tyOK (by kernel_rfl)
theorem fld72_0 : FldOK Tryd.prog 72 0 0 := ⟨_, _, _, _, _, Tryd.underlying72, rfl, rfl, ty3⟩
theorem fld72_1 : FldOK Tryd.prog 72 1 1 := ⟨_, _, _, _, _, Tryd.underlying72, rfl, rfl, ty9⟩
theorem ty73 : TyOK Tryd.prog 73 (some (.agg #[.int .i64 0, .string ⟨#[]⟩])) 2 24 := tyOK (by kernel_rfl)
theorem fld73_0 : FldOK Tryd.prog 73 0 0 := ⟨_, _, _, _, _, Tryd.underlying73, rfl, rfl, ty3⟩
theorem fld73_1 : FldOK Tryd.prog 73 1 1 := ⟨_, _, _, _, _, Tryd.underlying73, rfl, rfl, ty9⟩
theorem ty74 : TyOK Tryd.prog 74 (some (.pointer none)) 1 8 := tyOK (by kernel_rfl)
theorem ty75 : TyOK Tryd.prog 75 (some (.map none)) 1 8 := tyOK (by kernel_rfl)
theorem ty76 : TyOK Tryd.prog 76 (some (.agg #[.map none, .map none, .slice none 0 0])) 3 40 := tyOK (by kernel_rfl)
theorem fld76_0 : FldOK Tryd.prog 76 0 0 := ⟨_, _, _, _, _, Tryd.underlying76, rfl, rfl, ty22⟩
theorem fld76_1 : FldOK Tryd.prog 76 1 1 := ⟨_, _, _, _, _, Tryd.underlying76, rfl, rfl, ty75⟩
theorem fld76_2 : FldOK Tryd.prog 76 2 2 := ⟨_, _, _, _, _, Tryd.underlying76, rfl, rfl, ty36⟩
theorem ty77 : TyOK Tryd.prog 77 (some (.agg #[.map none, .map none, .slice none 0 0])) 3 40 := tyOK (by kernel_rfl)
theorem fld77_0 : FldOK Tryd.prog 77 0 0 := ⟨_, _, _, _, _, Tryd.underlying77, rfl, rfl, ty22⟩
theorem fld77_1 : FldOK Tryd.prog 77 1 1 := ⟨_, _, _, _, _, Tryd.underlying77, rfl, rfl, ty75⟩
theorem fld77_2 : FldOK Tryd.prog 77 2 2 := ⟨_, _, _, _, _, Tryd.underlying77, rfl, rfl, ty36⟩
theorem ty78 : TyOK Tryd.prog 78 (some (.agg #[.int .i64 0, .int .i64 0])) 2 16 := tyOK (by kernel_rfl)
theorem fld78_0 : FldOK Tryd.prog 78 0 0 := ⟨_, _, _, _, _, Tryd.underlying78, rfl, rfl, ty3⟩
theorem fld78_1 : FldOK Tryd.prog 78 1 1 := ⟨_, _, _, _, _, Tryd.underlying78, rfl, rfl, ty25⟩
theorem ty79 : TyOK Tryd.prog 79 (some (.agg #[.int .i64 0, .int .i64 0])) 2 16 := tyOK (by kernel_rfl)
theorem fld79_0 : FldOK Tryd.prog 79 0 0 := ⟨_, _, _, _, _, Tryd.underlying79, rfl, rfl, ty3⟩
theorem fld79_1 : FldOK Tryd.prog 79 1 1 := ⟨_, _, _, _, _, Tryd.underlying79, rfl, rfl, ty25⟩
theorem ty80 : TyOK Tryd.prog 80 (some (.nilFunc)) 1 8 := tyOK (by kernel_rfl)
theorem ty81 : TyOK Tryd.prog 81 (some (.agg #[.slice none 0 0, .string ⟨#[]⟩, .bool false])) 3 48 := tyOK (by kernel_rfl)
theorem fld81_0 : FldOK Tryd.prog 81 0 0 := ⟨_, _, _, _, _, Tryd.underlying81, rfl, rfl, ty68⟩
theorem fld81_1 : FldOK Tryd.prog 81 1 1 := ⟨_, _, _, _, _, Tryd.underlying81, rfl, rfl, ty9⟩
theorem fld81_2 : FldOK Tryd.prog 81 2 2 := ⟨_, _, _, _, _, Tryd.underlying81, rfl, rfl, ty4⟩
theorem ty82 : TyOK Tryd.prog 82 (some (.agg #[.slice none 0 0, .string ⟨#[]⟩, .bool false])) 3 48 := tyOK (by kernel_rfl)
theorem fld82_0 : FldOK Tryd.prog 82 0 0 := ⟨_, _, _, _, _, Tryd.underlying82, rfl, rfl, ty68⟩
theorem fld82_1 : FldOK Tryd.prog 82 1 1 := ⟨_, _, _, _, _, Tryd.underlying82, rfl, rfl, ty9⟩
theorem fld82_2 : FldOK Tryd.prog 82 2 2 := ⟨_, _, _, _, _, Tryd.underlying82, rfl, rfl, ty4⟩
theorem ty83 : TyOK Tryd.prog 83 (some (.nilFunc)) 1 8 := tyOK (by kernel_rfl)
theorem ty84 : TyOK Tryd.prog 84 (some (.int .u64 0)) 1 8 := tyOK (by kernel_rfl)
theorem ty86 : TyOK Tryd.prog 86 (some (.nilFunc)) 1 8 := tyOK (by kernel_rfl)
theorem ty87 : TyOK Tryd.prog 87 (some (.nilFunc)) 1 8 := tyOK (by kernel_rfl)
theorem ty88 : TyOK Tryd.prog 88 (some (.nilFunc)) 1 8 := tyOK (by kernel_rfl)
theorem ty89 : TyOK Tryd.prog 89 (some (.agg #[.bool false, .bool false, .bool false, .bool false, .bool false, .bool false, .bool false, .bool false, .bool false, .bool false, .bool false, .bool false, .bool false, .bool false, .bool false, .bool false, .bool false, .bool false, .bool false, .bool false, .bool false, .bool false, .bool false, .bool false, .bool false, .bool false, .bool false, .bool false, .bool false, .bool false, .bool false, .bool false, .bool false, .bool false, .bool false, .bool false, .bool false, .bool false, .bool false, .bool false, .bool false, .bool false, .bool false, .bool false, .bool false, .bool false, .bool false, .bool false, .bool false, .bool false, .bool false, .bool false, .bool false, .bool false, .bool false, .bool false, .bool false, .bool false, .bool false, .bool false, .bool false, .bool false, .bool false, .bool false, .bool false, .bool false, .bool false, .bool false, .bool false, .bool false, .bool false, .bool false, .bool false, .bool false, .bool false, .bool false, .bool false, .bool false, .bool false, .bool false, .bool false, .bool false, .bool false, .bool false, .bool false, .bool false, .bool false, .bool false, .bool false, .bool false, .bool false, .bool false, .bool false, .bool false, .bool false, .bool false, .bool false, .bool false, .bool false, .bool false, .bool false, .bool false, .bool false, .bool false, .bool false, .bool false, .bool false, .bool false, .bool false, .bool false, .bool false, .bool false, .bool false, .bool false, .bool false, .bool false, .bool false, .bool false, .bool false, .bool false, .bool false, .bool false, .bool false, .bool false, .bool false, .bool false, .bool false, .bool false, .bool false, .bool false, .bool false, .bool false, .bool false, .bool false, .bool false, .bool false, .bool false, .bool false, .bool false, .bool false, .bool false, .bool false, .bool false, .bool false, .bool false, .bool false, .bool false, .bool false, .bool false, .bool false, .bool false, .bool false, .bool false, .bool false, .bool false, .bool false, .bool false, .bool false, .bool false, .bool false, .bool false, .bool false, .bool false, .bool false, .bool false, .bool false, .bool false, .bool false, .bool false, .bool false, .bool false, .bool false, .bool false, .bool false, .bool false, .bool false, .bool false, .bool false, .bool false, .bool false, .bool false, .bool false, .bool false, .bool false, .bool false, .bool false, .bool false, .bool false, .bool false, .bool false, .bool false, .bool false, .bool false, .bool false, .bool false, .bool false, .bool false, .bool false, .bool false, .bool false, .bool false, .bool false, .bool false, .bool false, .bool false, .bool false, .bool false, .bool false, .bool false, .bool false, .bool false, .bool false, .bool false, .bool false, .bool false, .bool false, .bool false, .bool false, .bool false, .bool false, .bool false, .bool false, .bool false, .bool false, .bool false, .bool false, .bool false, .bool false, .bool false, .bool false, .bool false, .bool false, .bool false, .bool false, .bool false, .bool false, .bool false, .bool false, .bool false, .bool false, .bool false, .bool false, .bool false, .bool false, .bool false, .bool false, .bool false, .bool false, .bool false, .bool false, .bool false, .bool false, .bool false, .bool false, .bool false, .bool false])) 256 256 := tyOK (by kernel_rfl)
theorem ty90 : TyOK Tryd.prog 90 (some (.agg #[.bool false, .bool false, .bool false, .bool false, .bool false, .bool false, .bool false, .bool false, .bool false, .bool false, .bool false, .bool false, .bool false, .bool false, .bool false, .bool false, .bool false, .bool false, .bool false, .bool false, .bool false, .bool false, .bool false, .bool false, .bool false, .bool false, .bool false, .bool false, .bool false, .bool false, .bool false, .bool false, .bool false, .bool false, .bool false, .bool false, .bool false, .bool false, .bool false, .bool false, .bool false, .bool false, .bool false, .bool false, .bool false, .bool false, .bool false, .bool false, .bool false, .bool false, .bool false, .bool false, .bool false, .bool false, .bool false, .bool false, .bool false, .bool false, .bool false, .bool false, .bool false, .bool false, .bool false, .bool false, .bool false, .bool false, .bool false, .bool false, .bool false, .bool false, .bool false, .bool false, .bool false, .bool false, .bool false, .bool false, .bool false, .bool false, .bool false, .bool false, .bool false, .bool false, .bool false, .bool false, .bool false, .bool false, .bool false, .bool false, .bool false, .bool false, .bool false, .bool false, .bool false, .bool false, .bool false, .bool false, .bool false, .bool false, .bool false, .bool false, .bool false, .bool false, .bool false, .bool false, .bool false, .bool false, .bool false, .bool false, .bool false, .bool false, .bool false, .bool false, .bool false, .bool false, .bool false, .bool false, .bool false, .bool false, .bool false, .bool false, .bool false, .bool false, .bool false, .bool false, .bool false, .bool false, .bool false, .bool false, .bool false, .bool false, .bool false, .bool false, .bool false, .bool false, .bool false, .bool false, .bool false, .bool false, .bool false, .bool false, .bool false, .bool false, .bool false, .bool false, .bool false, .bool false, .bool false, .bool false, .bool false, .bool false, .bool false, .bool false, .bool false, .bool false, .bool false, .bool false, .bool false, .bool false, .bool false, .bool false, .bool false, .bool false, .bool false, .bool false, .bool false, .bool false, .bool false, .bool false, .bool false, .bool false, .bool false, .bool false, .bool false, .bool false, .bool false, .bool false, .bool false, .bool false, .bool false, .bool false, .bool false, .bool false, .bool false, .bool false, .bool false, .bool false, .bool false, .bool false, .bool false, .bool false, .bool false, .bool false, .bool false, .bool false, .bool false, .bool false, .bool false, .bool false, .bool false, .bool false, .bool false, .bool false, .bool false, .bool false, .bool false, .bool false, .bool false, .bool false, .bool false, .bool false, .bool false, .bool false, .bool false, .bool false, .bool false, .bool false, .bool false, .bool false, .bool false, .bool false, .bool false, .bool false, .bool false, .bool false, .bool false, .bool false, .bool false, .bool false, .bool false, .bool false, .bool false, .bool false, .bool false, .bool false, .bool false, .bool false, .bool false, .bool false, .bool false, .bool false, .bool false, .bool false, .bool false, .bool false, .bool false, .bool false, .bool false, .bool false, .bool false, .bool false, .bool false, .bool false, .bool false, .bool false, .bool false, .bool false])) 256 256 := tyOK (by kernel_rfl)
theorem ty92 : TyOK Tryd.prog 92 (some (.nilFunc)) 1 8 := tyOK (by kernel_rfl)
theorem ty93 : TyOK Tryd.prog 93 (some (.nilFunc)) 1 8 := tyOK (by kernel_rfl)
theorem ty94 : TyOK Tryd.prog 94 (some (.pointer none)) 1 8 := tyOK (by kernel_rfl)
theorem ty95 : TyOK Tryd.prog 95 (some (.nilFunc)) 1 8 := tyOK (by kernel_rfl)
theorem ty96 : TyOK Tryd.prog 96 (some (.nilFunc)) 1 8 := tyOK (by kernel_rfl)
theorem ty97 : TyOK Tryd.prog 97 (some (.pointer none)) 1 8 := tyOK (by kernel_rfl)
theorem ty99 : TyOK Tryd.prog 99 (some (.nilFunc)) 1 8 := tyOK (by kernel_rfl)
theorem ty100 : TyOK Tryd.prog 100 (some (.map none)) 1 8 := tyOK (by kernel_rfl)
theorem ty101 : TyOK Tryd.prog 101 (some (.nilFunc)) 1 8 := tyOK (by kernel_rfl)
theorem ty103 : TyOK Tryd.prog 103 (some (.nilFunc)) 1 8 := tyOK (by kernel_rfl)
theorem ty104 : TyOK Tryd.prog 104 (some (.int .u32 0)) 1 4 := tyOK (by kernel_rfl)
theorem ty106 : TyOK Tryd.prog 106 (some (.nilFunc)) 1 8 := tyOK (by kernel_rfl)
theorem ty107 : TyOK Tryd.prog 107 (some (.int .u64 0)) 1 8 := tyOK (by kernel_rfl)
theorem ty109 : TyOK Tryd.prog 109 (some (.nilFunc)) 1 8 := tyOK (by kernel_rfl)
theorem ty110 : TyOK Tryd.prog 110 (some (.nilFunc)) 1 8 := tyOK (by kernel_rfl)
theorem ty111 : TyOK Tryd.prog 111 (some (.nilFunc)) 1 8 := tyOK (by kernel_rfl)
theorem ty112 : TyOK Tryd.prog 112 (some (.nilFunc)) 1 8 := tyOK (by kernel_rfl)
theorem ty113 : TyOK Tryd.prog 113 (some (.pointer none)) 1 8 := tyOK (by kernel_rfl)
theorem ty114 : TyOK Tryd.prog 114 (some (.nilFunc)) 1 8 := tyOK (by kernel_rfl)
theorem ty115 : TyOK Tryd.prog 115 (some (.nilFunc)) 1 8 := tyOK (by kernel_rfl)
theorem ty116 : TyOK Tryd.prog 116 (some (.nilFunc)) 1 8 := tyOK (by kernel_rfl)
theorem ty117 : TyOK Tryd.prog 117 (some (.nilFunc)) 1 8 := tyOK (by kernel_rfl)
theorem ty118 : TyOK Tryd.prog 118 (some (.nilFunc)) 1 8 := tyOK (by kernel_rfl)
theorem ty119 : TyOK Tryd.prog 119 (some (.nilFunc)) 1 8 := tyOK (by kernel_rfl)
theorem ty120 : TyOK Tryd.prog 120 (some (.nilFunc)) 1 8 := tyOK (by kernel_rfl)
theorem ty121 : TyOK Tryd.prog 121 (some (.nilFunc)) 1 8 := tyOK (by kernel_rfl)
theorem ty122 : TyOK Tryd.prog 122 (some (.nilFunc)) 1 8 := tyOK (by kernel_rfl)
theorem ty123 : TyOK Tryd.prog 123 (some (.nilFunc)) 1 8 := tyOK (by kernel_rfl)
theorem ty124 : TyOK Tryd.prog 124 (some (.nilFunc)) 1 8 := tyOK (by kernel_rfl)
theorem ty126 : TyOK Tryd.prog 126 (some (.nilFunc)) 1 8 := tyOK (by kernel_rfl)
theorem ty127 : TyOK Tryd.prog 127 (some (.nilFunc)) 1 8 := tyOK (by kernel_rfl)
theorem ty128 : TyOK Tryd.prog 128 (some (.nilFunc)) 1 8 := tyOK (by kernel_rfl)
theorem ty129 : TyOK Tryd.prog 129 (some (.agg #[.int .u8 0, .int .u8 0, .int .u8 0, .int .u8 0, .int .u8 0, .int .u8 0, .int .u8 0, .int .u8 0, .int .u8 0, .int .u8 0, .int .u8 0, .int .u8 0, .int .u8 0, .int .u8 0, .int .u8 0, .int .u8 0, .int .u8 0, .int .u8 0, .int .u8 0, .int .u8 0, .int .u8 0, .int .u8 0, .int .u8 0, .int .u8 0, .int .u8 0, .int .u8 0, .int .u8 0, .int .u8 0, .int .u8 0, .int .u8 0, .int .u8 0, .int .u8 0, .int .u8 0, .int .u8 0, .int .u8 0, .int .u8 0, .int .u8 0, .int .u8 0, .int .u8 0, .int .u8 0, .int .u8 0, .int .u8 0, .int .u8 0, .int .u8 0, .int .u8 0, .int .u8 0, .int .u8 0, .int .u8 0, .int .u8 0, .int .u8 0, .int .u8 0, .int .u8 0, .int .u8 0, .int .u8 0, .int .u8 0, .int .u8 0, .int .u8 0, .int .u8 0, .int .u8 0, .int .u8 0, .int .u8 0, .int .u8 0, .int .u8 0, .int .u8 0, .int .u8 0, .int .u8 0, .int .u8 0, .int .u8 0, .int .u8 0, .int .u8 0, .int .u8 0, .int .u8 0, .int .u8 0, .int .u8 0, .int .u8 0, .int .u8 0, .int .u8 0, .int .u8 0, .int .u8 0, .int .u8 0, .int .u8 0, .int .u8 0, .int .u8 0, .int .u8 0, .int .u8 0, .int .u8 0, .int .u8 0, .int .u8 0, .int .u8 0, .int .u8 0, .int .u8 0, .int .u8 0, .int .u8 0, .int .u8 0, .int .u8 0, .int .u8 0, .int .u8 0, .int .u8 0, .int .u8 0, .int .u8 0, .int .u8 0, .int .u8 0, .int .u8 0, .int .u8 0, .int .u8 0, .int .u8 0, .int .u8 0, .int .u8 0, .int .u8 0, .int .u8 0, .int .u8 0, .int .u8 0, .int .u8 0, .int .u8 0, .int .u8 0, .int .u8 0, .int .u8 0, .int .u8 0, .int .u8 0, .int .u8 0, .int .u8 0, .int .u8 0, .int .u8 0, .int .u8 0, .int .u8 0, .int .u8 0, .int .u8 0, .int .u8 0, .int .u8 0, .int .u8 0, .int .u8 0, .int .u8 0, .int .u8 0, .int .u8 0, .int .u8 0, .int .u8 0, .int .u8 0, .int .u8 0, .int .u8 0, .int .u8 0, .int .u8 0, .int .u8 0, .int .u8 0, .int .u8 0, .int .u8 0, .int .u8 0, .int .u8 0, .int .u8 0, .int .u8 0, .int .u8 0, .int .u8 0, .int .u8 0, .int .u8 0, .int .u8 0, .int .u8 0, .int .u8 0, .int .u8 0, .int .u8 0, .int .u8 0, .int .u8 0, .int .u8 0, .int .u8 0, .int .u8 0, .int .u8 0, .int .u8 0, .int .u8 0, .int .u8 0, .int .u8 0, .int .u8 0, .int .u8 0, .int .u8 0, .int .u8 0, .int .u8 0, .int .u8 0, .int .u8 0, .int .u8 0, .int .u8 0, .int .u8 0, .int .u8 0, .int .u8 0, .int .u8 0, .int .u8 0, .int .u8 0, .int .u8 0, .int .u8 0, .int .u8 0, .int .u8 0, .int .u8 0, .int .u8 0, .int .u8 0, .int .u8 0, .int .u8 0, .int .u8 0, .int .u8 0, .int .u8 0, .int .u8 0, .int .u8 0, .int .u8 0, .int .u8 0, .int .u8 0, .int .u8 0, .int .u8 0, .int .u8 0, .int .u8 0, .int .u8 0, .int .u8 0, .int .u8 0, .int .u8 0, .int .u8 0, .int .u8 0, .int .u8 0, .int .u8 0, .int .u8 0, .int .u8 0, .int .u8 0, .int .u8 0, .int .u8 0, .int .u8 0, .int .u8 0, .int .u8 0, .int .u8 0, .int .u8 0, .int .u8 0, .int .u8 0, .int .u8 0, .int .u8 0, .int .u8 0, .int .u8 0, .int .u8 0, .int .u8 0, .int .u8 0, .int .u8 0, .int .u8 0, .int .u8 0, .int .u8 0, .int .u8 0, .int .u8 0, .int .u8 0, .int .u8 0, .int .u8 0, .int .u8 0, .int .u8 0, .int .u8 0, .int .u8 0, .int .u8 0, .int .u8 0, .int .u8 0, .int .u8 0, .int .u8 0, .int .u8 0, .int .u8 0, .int .u8 0, .int .u8 0, .int .u8 0, .int .u8 0, .int .u8 0])) 256 256 := tyOK (by kernel_rfl)
theorem ty130 : TyOK Tryd.prog 130 (some (.agg #[.int .u8 0, .int .u8 0])) 2 2 := tyOK (by kernel_rfl)
theorem fld130_0 : FldOK Tryd.prog 130 0 0 := ⟨_, _, _, _, _, Tryd.underlying130, rfl, rfl, ty5⟩
theorem fld130_1 : FldOK Tryd.prog 130 1 1 := ⟨_, _, _, _, _, Tryd.underlying130, rfl, rfl, ty5⟩
theorem ty131 : TyOK Tryd.prog 131 (some (.agg #[.int .u8 0, .int .u8 0])) 2 2 := tyOK (by kernel_rfl)
theorem fld131_0 : FldOK Tryd.prog 131 0 0 := ⟨_, _, _, _, _, Tryd.underlying131, rfl, rfl, ty5⟩
theorem fld131_1 : FldOK Tryd.prog 131 1 1 := ⟨_, _, _, _, _, Tryd.underlying131, rfl, rfl, ty5⟩
theorem ty132 : TyOK Tryd.prog 132 (some (.agg #[.int .u8 0, .int .u8 0, .int .u8 0, .int .u8 0, .int .u8 0, .int .u8 0, .int .u8 0, .int .u8 0, .int .u8 0, .int .u8 0, .int .u8 0, .int .u8 0, .int .u8 0, .int .u8 0, .int .u8 0, .int .u8 0, .int .u8 0, .int .u8 0, .int .u8 0, .int .u8 0, .int .u8 0, .int .u8 0, .int .u8 0, .int .u8 0, .int .u8 0, .int .u8 0, .int .u8 0, .int .u8 0, .int .u8 0, .int .u8 0, .int .u8 0, .int .u8 0])) 32 32 := tyOK (by kernel_rfl)
theorem ty133 : TyOK Tryd.prog 133 (some (.nilFunc)) 1 8 := tyOK (by kernel_rfl)
theorem ty135 : TyOK Tryd.prog 135 (some (.nilFunc)) 1 8 := tyOK (by kernel_rfl)
theorem ty136 : TyOK Tryd.prog 136 (some (.agg #[.map none, .slice none 0 0])) 2 32 := tyOK (by kernel_rfl)
theorem fld136_0 : FldOK Tryd.prog 136 0 0 := ⟨_, _, _, _, _, Tryd.underlying136, rfl, rfl, ty22⟩
theorem fld136_1 : FldOK Tryd.prog 136 1 1 := ⟨_, _, _, _, _, Tryd.underlying136, rfl, rfl, ty68⟩
theorem ty137 : TyOK Tryd.prog 137 (some (.agg #[.map none, .slice none 0 0])) 2 32 := tyOK (by kernel_rfl)
theorem fld137_0 : FldOK Tryd.prog 137 0 0 := ⟨_, _, _, _, _, Tryd.underlying137, rfl, rfl, ty22⟩
theorem fld137_1 : FldOK Tryd.prog 137 1 1 := ⟨_, _, _, _, _, Tryd.underlying137, rfl, rfl, ty68⟩
theorem ty139 : TyOK Tryd.prog 139 (some (.nilFunc)) 1 8 := tyOK (by kernel_rfl)
theorem ty140 : TyOK Tryd.prog 140 (some (.nilFunc)) 1 8 := tyOK (by kernel_rfl)
theorem ty142 : TyOK Tryd.prog 142 (some (.nilFunc)) 1 8 := tyOK (by kernel_rfl)
theorem ty143 : TyOK Tryd.prog 143 (some (.nilFunc)) 1 8 := tyOK (by kernel_rfl)
theorem ty144 : TyOK Tryd.prog 144 (some (.nilFunc)) 1 8 := tyOK (by kernel_rfl)
theorem ty145 : TyOK Tryd.prog 145 (some (.nilFunc)) 1 8 := tyOK (by kernel_rfl)
theorem ty146 : TyOK Tryd.prog 146 (some (.agg #[.pointer none, .pointer none, .pointer none, .string ⟨#[]⟩])) 4 40 := tyOK (by kernel_rfl)
theorem fld146_0 : FldOK Tryd.prog 146 0 0 := ⟨_, _, _, _, _, Tryd.underlying146, rfl, rfl, ty17⟩
theorem fld146_1 : FldOK Tryd.prog 146 1 1 := ⟨_, _, _, _, _, Tryd.underlying146, rfl, rfl, ty17⟩
theorem fld146_2 : FldOK Tryd.prog 146 2 2 := ⟨_, _, _, _, _, Tryd.underlying146, rfl, rfl, ty17⟩
theorem fld146_3 : FldOK Tryd.prog 146 3 3 := ⟨_, _, _, _, _, Tryd.underlying146, rfl, rfl, ty9⟩
theorem ty147 : TyOK Tryd.prog 147 (some (.agg #[.pointer none, .pointer none, .pointer none, .string ⟨#[]⟩])) 4 40 := tyOK (by kernel_rfl)
theorem fld147_0 : FldOK Tryd.prog 147 0 0 := ⟨_, _, _, _, _, Tryd.underlying147, rfl, rfl, ty17⟩
theorem fld147_1 : FldOK Tryd.prog 147 1 1 := ⟨_, _, _, _, _, Tryd.underlying147, rfl, rfl, ty17⟩
theorem fld147_2 : FldOK Tryd.prog 147 2 2 := ⟨_, _, _, _, _, Tryd.underlying147, rfl, rfl, ty17⟩
theorem fld147_3 : FldOK Tryd.prog 147 3 3 := ⟨_, _, _, _, _, Tryd.underlying147, rfl, rfl, ty9⟩
theorem ty148 : TyOK Tryd.prog 148 (some (.agg #[])) 0 0 := tyOK (by kernel_rfl)
theorem ty149 : TyOK Tryd.prog 149 (some (.agg #[])) 0 0 := tyOK (by kernel_rfl)
theorem ty150 : TyOK Tryd.prog 150 (some (.agg #[])) 0 0 := tyOK (by kernel_rfl)
theorem ty151 : TyOK Tryd.prog 151 (some (.int .u8 0)) 1 1 := tyOK (by kernel_rfl)
theorem ty152 : TyOK Tryd.prog 152 (some (.int .u8 0)) 1 1 := tyOK (by kernel_rfl)
theorem ty153 : TyOK Tryd.prog 153 (some (.nilFunc)) 1 8 := tyOK (by kernel_rfl)
theorem ty154 : TyOK Tryd.prog 154 (some (.int .i32 0)) 1 4 := tyOK (by kernel_rfl)
theorem ty155 : TyOK Tryd.prog 155 (some (.int .i32 0)) 1 4 := tyOK (by kernel_rfl)
theorem ty156 : TyOK Tryd.prog 156 (some (.agg #[.int .u64 0, .int .u64 0, .int .u32 0, .int .u8 0, .int .u8 0, .int .u8 0, .int .u8 0, .nilFunc, .pointer none, .int .i32 0, .int .i32 0])) 11 48 := tyOK (by kernel_rfl)
theorem fld156_0 : FldOK Tryd.prog 156 0 0 := ⟨_, _, _, _, _, Tryd.underlying156, rfl, rfl, ty12⟩
theorem fld156_1 : FldOK Tryd.prog 156 1 1 := ⟨_, _, _, _, _, Tryd.underlying156, rfl, rfl, ty12⟩
theorem fld156_2 : FldOK Tryd.prog 156 2 2 := ⟨_, _, _, _, _, Tryd.underlying156, rfl, rfl, ty104⟩
theorem fld156_3 : FldOK Tryd.prog 156 3 3 := ⟨_, _, _, _, _, Tryd.underlying156, rfl, rfl, ty151⟩
theorem fld156_4 : FldOK Tryd.prog 156 4 4 := ⟨_, _, _, _, _, Tryd.underlying156, rfl, rfl, ty5⟩
theorem fld156_5 : FldOK Tryd.prog 156 5 5 := ⟨_, _, _, _, _, Tryd.underlying156, rfl, rfl, ty5⟩
theorem fld156_6 : FldOK Tryd.prog 156 6 6 := ⟨_, _, _, _, _, Tryd.underlying156, rfl, rfl, ty152⟩
theorem fld156_7 : FldOK Tryd.prog 156 7 7 := ⟨_, _, _, _, _, Tryd.underlying156, rfl, rfl, ty153⟩
theorem fld156_8 : FldOK Tryd.prog 156 8 8 := ⟨_, _, _, _, _, Tryd.underlying156, rfl, rfl, ty97⟩
theorem fld156_9 : FldOK Tryd.prog 156 9 9 := ⟨_, _, _, _, _, Tryd.underlying156, rfl, rfl, ty154⟩
theorem fld156_10 : FldOK Tryd.prog 156 10 10 := ⟨_, _, _, _, _, Tryd.underlying156, rfl, rfl, ty155⟩
theorem ty157 : TyOK Tryd.prog 157 (some (.agg #[.int .u64 0, .int .u64 0, .int .u32 0, .int .u8 0, .int .u8 0, .int .u8 0, .int .u8 0, .nilFunc, .pointer none, .int .i32 0, .int .i32 0])) 11 48 := tyOK (by kernel_rfl)
theorem fld157_0 : FldOK Tryd.prog 157 0 0 := ⟨_, _, _, _, _, Tryd.underlying157, rfl, rfl, ty12⟩
theorem fld157_1 : FldOK Tryd.prog 157 1 1 := ⟨_, _, _, _, _, Tryd.underlying157, rfl, rfl, ty12⟩
theorem fld157_2 : FldOK Tryd.prog 157 2 2 := ⟨_, _, _, _, _, Tryd.underlying157, rfl, rfl, ty104⟩
theorem fld157_3 : FldOK Tryd.prog 157 3 3 := ⟨_, _, _, _, _, Tryd.underlying157, rfl, rfl, ty151⟩
theorem fld157_4 : FldOK Tryd.prog 157 4 4 := ⟨_, _, _, _, _, Tryd.underlying157, rfl, rfl, ty5⟩
theorem fld157_5 : FldOK Tryd.prog 157 5 5 := ⟨_, _, _, _, _, Tryd.underlying157, rfl, rfl, ty5⟩
theorem fld157_6 : FldOK Tryd.prog 157 6 6 := ⟨_, _, _, _, _, Tryd.underlying157, rfl, rfl, ty152⟩
theorem fld157_7 : FldOK Tryd.prog 157 7 7 := ⟨_, _, _, _, _, Tryd.underlying157, rfl, rfl, ty153⟩
theorem fld157_8 : FldOK Tryd.prog 157 8 8 := ⟨_, _, _, _, _, Tryd.underlying157, rfl, rfl, ty97⟩
theorem fld157_9 : FldOK Tryd.prog 157 9 9 := ⟨_, _, _, _, _, Tryd.underlying157, rfl, rfl, ty154⟩
theorem fld157_10 : FldOK Tryd.prog 157 10 10 := ⟨_, _, _, _, _, Tryd.underlying157, rfl, rfl, ty155⟩
theorem pl2 : Plain Tryd.prog 2 := ⟨_, Tryd.func2, rfl, by kernel_rfl⟩
theorem pl3 : Plain Tryd.prog 3 := ⟨_, Tryd.func3, rfl, by kernel_rfl⟩
theorem pl4 : Plain Tryd.prog 4 := ⟨_, Tryd.func4, rfl, by kernel_rfl⟩
theorem pl5 : Plain Tryd.prog 5 := ⟨_, Tryd.func5, rfl, by kernel_rfl⟩
theorem pl6 : Plain Tryd.prog 6 := ⟨_, Tryd.func6, rfl, by kernel_rfl⟩
theorem pl7 : Plain Tryd.prog 7 := ⟨_, Tryd.func7, rfl, by kernel_rfl⟩
theorem pl8 : Plain Tryd.prog 8 := ⟨_, Tryd.func8, rfl, by kernel_rfl⟩
theorem pl9 : Plain Tryd.prog 9 := ⟨_, Tryd.func9, rfl, by kernel_rfl⟩
theorem pl10 : Plain Tryd.prog 10 := ⟨_, Tryd.func10, rfl, by kernel_rfl⟩
theorem pl11 : Plain Tryd.prog 11 := ⟨_, Tryd.func11, rfl, by kernel_rfl⟩
theorem pl12 : Plain Tryd.prog 12 := ⟨_, Tryd.func12, rfl, by kernel_rfl⟩
theorem pl13 : Plain Tryd.prog 13 := ⟨_, Tryd.func13, rfl, by kernel_rfl⟩
theorem pl14 : Plain Tryd.prog 14 := ⟨_, Tryd.func14, rfl, by kernel_rfl⟩
theorem pl15 : Plain Tryd.prog 15 := ⟨_, Tryd.func15, rfl, by kernel_rfl⟩
theorem pl16 : Plain Tryd.prog 16 := ⟨_, Tryd.func16, rfl, by kernel_rfl⟩
theorem pl17 : Plain Tryd.prog 17 := ⟨_, Tryd.func17, rfl, by kernel_rfl⟩
theorem pl18 : Plain Tryd.prog 18 := ⟨_, Tryd.func18, rfl, by kernel_rfl⟩
theorem pl19 : Plain Tryd.prog 19 := ⟨_, Tryd.func19, rfl, by kernel_rfl⟩
theorem pl20 : Plain Tryd.prog 20 := ⟨_, Tryd.func20, rfl, by kernel_rfl⟩
theorem pl21 : Plain Tryd.prog 21 := ⟨_, Tryd.func21, rfl, by kernel_rfl⟩
theorem pl22 : Plain Tryd.prog 22 := ⟨_, Tryd.func22, rfl, by kernel_rfl⟩
theorem pl23 : Plain Tryd.prog 23 := ⟨_, Tryd.func23, rfl, by kernel_rfl⟩
theorem pl24 : Plain Tryd.prog 24 := ⟨_, Tryd.func24, rfl, by kernel_rfl⟩
theorem pl25 : Plain Tryd.prog 25 := ⟨_, Tryd.func25, rfl, by kernel_rfl⟩
theorem pl26 : Plain Tryd.prog 26 := ⟨_, Tryd.func26, rfl, by kernel_rfl⟩
theorem pl27 : Plain Tryd.prog 27 := ⟨_, Tryd.func27, rfl, by kernel_rfl⟩
theorem pl28 : Plain Tryd.prog 28 := ⟨_, Tryd.func28, rfl, by kernel_rfl⟩
theorem pl29 : Plain Tryd.prog 29 := ⟨_, Tryd.func29, rfl, by kernel_rfl⟩
theorem pl30 : Plain Tryd.prog 30 := ⟨_, Tryd.func30, rfl, by kernel_rfl⟩
theorem pl31 : Plain Tryd.prog 31 := ⟨_, Tryd.func31, rfl, by kernel_rfl⟩
theorem pl32 : Plain Tryd.prog 32 := ⟨_, Tryd.func32, rfl, by kernel_rfl⟩
theorem pl33 : Plain Tryd.prog 33 := ⟨_, Tryd.func33, rfl, by kernel_rfl⟩
theorem pl34 : Plain Tryd.prog 34 := ⟨_, Tryd.func34, rfl, by kernel_rfl⟩
theorem pl35 : Plain Tryd.prog 35 := ⟨_, Tryd.func35, rfl, by kernel_rfl⟩
theorem pl36 : Plain Tryd.prog 36 := ⟨_, Tryd.func36, rfl, by kernel_rfl⟩
theorem pl37 : Plain Tryd.prog 37 := ⟨_, Tryd.func37, rfl, by kernel_rfl⟩
theorem pl38 : Plain Tryd.prog 38 := ⟨_, Tryd.func38, rfl, by kernel_rfl⟩
theorem pl39 : Plain Tryd.prog 39 := ⟨_, Tryd.func39, rfl, by kernel_rfl⟩
theorem pl40 : Plain Tryd.prog 40 := ⟨_, Tryd.func40, rfl, by kernel_rfl⟩
theorem pl41 : Plain Tryd.prog 41 := ⟨_, Tryd.func41, rfl, by kernel_rfl⟩
theorem pl42 : Plain Tryd.prog 42 := ⟨_, Tryd.func42, rfl, by kernel_rfl⟩
theorem pl43 : Plain Tryd.prog 43 := ⟨_, Tryd.func43, rfl, by kernel_rfl⟩
theorem pl45 : Plain Tryd.prog 45 := ⟨_, Tryd.func45, rfl, by kernel_rfl⟩
theorem pl46 : Plain Tryd.prog 46 := ⟨_, Tryd.func46, rfl, by kernel_rfl⟩
theorem pl47 : Plain Tryd.prog 47 := ⟨_, Tryd.func47, rfl, by kernel_rfl⟩
theorem pl48 : Plain Tryd.prog 48 := ⟨_, Tryd.func48, rfl, by kernel_rfl⟩
theorem pl49 : Plain Tryd.prog 49 := ⟨_, Tryd.func49, rfl, by kernel_rfl⟩
theorem pl50 : Plain Tryd.prog 50 := ⟨_, Tryd.func50, rfl, by kernel_rfl⟩
theorem pl51 : Plain Tryd.prog 51 := ⟨_, Tryd.func51, rfl, by kernel_rfl⟩
theorem pl52 : Plain Tryd.prog 52 := ⟨_, Tryd.func52, rfl, by kernel_rfl⟩
theorem pl53 : Plain Tryd.prog 53 := ⟨_, Tryd.func53, rfl, by kernel_rfl⟩
theorem pl54 : Plain Tryd.prog 54 := ⟨_, Tryd.func54, rfl, by kernel_rfl⟩
theorem pl55 : Plain Tryd.prog 55 := ⟨_, Tryd.func55, rfl, by kernel_rfl⟩
theorem pl56 : Plain Tryd.prog 56 := ⟨_, Tryd.func56, rfl, by kernel_rfl⟩
theorem pl57 : Plain Tryd.prog 57 := ⟨_, Tryd.func57, rfl, by kernel_rfl⟩
theorem pl58 : Plain Tryd.prog 58 := ⟨_, Tryd.func58, rfl, by kernel_rfl⟩
theorem pl59 : Plain Tryd.prog 59 := ⟨_, Tryd.func59, rfl, by kernel_rfl⟩
theorem pl60 : Plain Tryd.prog 60 := ⟨_, Tryd.func60, rfl, by kernel_rfl⟩
theorem pl61 : Plain Tryd.prog 61 := ⟨_, Tryd.func61, rfl, by kernel_rfl⟩
theorem pl62 : Plain Tryd.prog 62 := ⟨_, Tryd.func62, rfl, by kernel_rfl⟩
theorem pl63 : Plain Tryd.prog 63 := ⟨_, Tryd.func63, rfl, by kernel_rfl⟩
theorem pl64 : Plain Tryd.prog 64 := ⟨_, Tryd.func64, rfl, by kernel_rfl⟩
theorem pl65 : Plain Tryd.prog 65 := ⟨_, Tryd.func65, rfl, by kernel_rfl⟩
theorem pl66 : Plain Tryd.prog 66 := ⟨_, Tryd.func66, rfl, by kernel_rfl⟩
theorem pl67 : Plain Tryd.prog 67 := ⟨_, Tryd.func67, rfl, by kernel_rfl⟩
theorem pl68 : Plain Tryd.prog 68 := ⟨_, Tryd.func68, rfl, by kernel_rfl⟩
theorem pl69 : Plain Tryd.prog 69 := ⟨_, Tryd.func69, rfl, by kernel_rfl⟩
theorem pl72 : Plain Tryd.prog 72 := ⟨_, Tryd.func72, rfl, by kernel_rfl⟩
theorem pl73 : Plain Tryd.prog 73 := ⟨_, Tryd.func73, rfl, by kernel_rfl⟩
theorem pl74 : Plain Tryd.prog 74 := ⟨_, Tryd.func74, rfl, by kernel_rfl⟩
theorem pl75 : Plain Tryd.prog 75 := ⟨_, Tryd.func75, rfl, by kernel_rfl⟩
theorem pl76 : Plain Tryd.prog 76 := ⟨_, Tryd.func76, rfl, by kernel_rfl⟩
theorem pl77 : Plain Tryd.prog 77 := ⟨_, Tryd.func77, rfl, by kernel_rfl⟩
theorem pl78 : Plain Tryd.prog 78 := ⟨_, Tryd.func78, rfl, by kernel_rfl⟩
theorem pl79 : Plain Tryd.prog 79 := ⟨_, Tryd.func79, rfl, by kernel_rfl⟩
theorem pl80 : Plain Tryd.prog 80 := ⟨_, Tryd.func80, rfl, by kernel_rfl⟩
theorem pl81 : Plain Tryd.prog 81 := ⟨_, Tryd.func81, rfl, by kernel_rfl⟩
theorem pl83 : Plain Tryd.prog 83 := ⟨_, Tryd.func83, rfl, by kernel_rfl⟩
theorem pl84 : Plain Tryd.prog 84 := ⟨_, Tryd.func84, rfl, by kernel_rfl⟩
theorem pl85 : Plain Tryd.prog 85 := ⟨_, Tryd.func85, rfl, by kernel_rfl⟩
theorem pl86 : Plain Tryd.prog 86 := ⟨_, Tryd.func86, rfl, by kernel_rfl⟩
theorem pl87 : Plain Tryd.prog 87 := ⟨_, Tryd.func87, rfl, by kernel_rfl⟩
theorem pl88 : Plain Tryd.prog 88 := ⟨_, Tryd.func88, rfl, by kernel_rfl⟩
theorem pl89 : Plain Tryd.prog 89 := ⟨_, Tryd.func89, rfl, by kernel_rfl⟩
theorem pl90 : Plain Tryd.prog 90 := ⟨_, Tryd.func90, rfl, by kernel_rfl⟩
theorem pl91 : Plain Tryd.prog 91 := ⟨_, Tryd.func91, rfl, by kernel_rfl⟩
theorem pl93 : Plain Tryd.prog 93 := ⟨_, Tryd.func93, rfl, by kernel_rfl⟩
theorem pl94 : Plain Tryd.prog 94 := ⟨_, Tryd.func94, rfl, by kernel_rfl⟩
theorem pl95 : Plain Tryd.prog 95 := ⟨_, Tryd.func95, rfl, by kernel_rfl⟩
theorem pl96 : Plain Tryd.prog 96 := ⟨_, Tryd.func96, rfl, by kernel_rfl⟩
theorem pl97 : Plain Tryd.prog 97 := ⟨_, Tryd.func97, rfl, by kernel_rfl⟩
theorem pl98 : Plain Tryd.prog 98 := ⟨_, Tryd.func98, rfl, by kernel_rfl⟩
theorem pl99 : Plain Tryd.prog 99 := ⟨_, Tryd.func99, rfl, by kernel_rfl⟩
theorem pl100 : Plain Tryd.prog 100 := ⟨_, Tryd.func100, rfl, by kernel_rfl⟩
theorem pl101 : Plain Tryd.prog 101 := ⟨_, Tryd.func101, rfl, by kernel_rfl⟩
theorem pl102 : Plain Tryd.prog 102 := ⟨_, Tryd.func102, rfl, by kernel_rfl⟩
theorem pl103 : Plain Tryd.prog 103 := ⟨_, Tryd.func103, rfl, by kernel_rfl⟩
theorem pl105 : Plain Tryd.prog 105 := ⟨_, Tryd.func105, rfl, by kernel_rfl⟩
theorem pl106 : Plain Tryd.prog 106 := ⟨_, Tryd.func106, rfl, by kernel_rfl⟩
theorem pl107 : Plain Tryd.prog 107 := ⟨_, Tryd.func107, rfl, by kernel_rfl⟩
theorem pl129 : Plain Tryd.prog 129 := ⟨_, Tryd.func129, rfl, by kernel_rfl⟩
theorem ld1 {H : Hp} {K : Value → Hp → Prop} {X : List PanicEntry → Hp → Prop} {a : Addr} : loadA Tryd.prog 1 (.pointer (some a)) K X H = withc (cellH H a) fun v => K v H := loadA_1 Tryd.underlying1 rfl --1
theorem lq1 {H : Hp} {K : Value → Prop} {a : Addr} : loadQ Tryd.prog 1 (.pointer (some a)) K H = withc (cellH H a) K := loadQ_e Tryd.underlying1 rfl
theorem ld2 {H : Hp} {K : Value → Hp → Prop} {X : List PanicEntry → Hp → Prop} {a : Addr} : loadA Tryd.prog 2 (.pointer (some a)) K X H = withc (cellH H a) fun v => K v H := loadA_1 Tryd.underlying2 rfl --2
theorem lq2 {H : Hp} {K : Value → Prop} {a : Addr} : loadQ Tryd.prog 2 (.pointer (some a)) K H = withc (cellH H a) K := loadQ_e Tryd.underlying2 rfl
theorem ld3 {H : Hp} {K : Value → Hp → Prop} {X : List PanicEntry → Hp → Prop} {a : Addr} : loadA Tryd.prog 3 (.pointer (some a)) K X H = withc (cellH H a) fun v => K v H := loadA_1 Tryd.underlying3 rfl --3
theorem lq3 {H : Hp} {K : Value → Prop} {a : Addr} : loadQ Tryd.prog 3 (.pointer (some a)) K H = withc (cellH H a) K := loadQ_e Tryd.underlying3 rfl
theorem ld4 {H : Hp} {K : Value → Hp → Prop} {X : List PanicEntry → Hp → Prop} {a : Addr} : loadA Tryd.prog 4 (.pointer (some a)) K X H = withc (cellH H a) fun v => K v H := loadA_1 Tryd.underlying4 rfl --4
theorem lq4 {H : Hp} {K : Value → Prop} {a : Addr} : loadQ Tryd.prog 4 (.pointer (some a)) K H = withc (cellH H a) K := loadQ_e Tryd.underlying4 rfl
theorem ld5 {H : Hp} {K : Value → Hp → Prop} {X : List PanicEntry → Hp → Prop} {a : Addr} : loadA Tryd.prog 5 (.pointer (some a)) K X H = withc (cellH H a) fun v => K v H := loadA_1 Tryd.underlying5 rfl --5
theorem lq5 {H : Hp} {K : Value → Prop} {a : Addr} : loadQ Tryd.prog 5 (.pointer (some a)) K H = withc (cellH H a) K := loadQ_e Tryd.underlying5 rfl
theorem ld6 {H : Hp} {K : Value → Hp → Prop} {X : List PanicEntry → Hp → Prop} {a : Addr} : loadA Tryd.prog 6 (.pointer (some a)) K X H = withc (cellH H a) fun v => K v H := loadA_1 Tryd.underlying6 rfl --6
theorem lq6 {H : Hp} {K : Value → Prop} {a : Addr} : loadQ Tryd.prog 6 (.pointer (some a)) K H = withc (cellH H a) K := loadQ_e Tryd.underlying6 rfl
theorem ld7 {H : Hp} {K : Value → Hp → Prop} {X : List PanicEntry → Hp → Prop} {a : Addr} : loadA Tryd.prog 7 (.pointer (some a)) K X H = withcs (cellsH H a 0 4) fun l => K (.agg l.toArray) H := loadA_n Tryd.underlying7 rfl ty7
theorem rc7 {H : Hp} {K : Value → Prop} {a : Addr} {l : List Value} (hc : cellsH H a 0 4 = some l) : rcA Tryd.prog 7 (.pointer (some a)) H K = K (.agg l.toArray) := rcA_n Tryd.underlying7 rfl ty7 hc
theorem bl7 {H : Hp} {K : Value → Hp → Prop} {X : List PanicEntry → Hp → Prop} {ps : List (Nat × Value)} : bldA Tryd.prog 7 ps K X H = withO (bfill [(0, 1), (1, 1), (2, 1), (3, 1)] [.int .i64 0, .int .i64 0, .bool false, .int .u8 0] ps) fun v => K v H := bldA_e Tryd.underlying7 ty7 (by kernel_rfl)
theorem bq7 {H : Hp} {K : Value → Prop} {ps : List (Nat × Value)} : bldQ Tryd.prog 7 ps K H = withO (bfill [(0, 1), (1, 1), (2, 1), (3, 1)] [.int .i64 0, .int .i64 0, .bool false, .int .u8 0] ps) K := bldQ_e Tryd.underlying7 ty7 (by kernel_rfl)
theorem fa7_0 {H : Hp} {K : Value → Hp → Prop} {X : List PanicEntry → Hp → Prop} {b off : Nat} : fadA Tryd.prog 7 (.pointer (some ⟨b, off, none⟩)) 0 K X H = K (.pointer (some ⟨b, off, none⟩)) H := by rw [fadA_ok fld7_0, add_none]; rfl
theorem fq7_0 {H : Hp} {K : Value → Prop} {b off : Nat} : fadQ Tryd.prog 7 (.pointer (some ⟨b, off, none⟩)) 0 K H = K (.pointer (some ⟨b, off, none⟩)) := by rw [fadQ_ok fld7_0, add_none]; rfl
theorem fa7_1 {H : Hp} {K : Value → Hp → Prop} {X : List PanicEntry → Hp → Prop} {b off : Nat} : fadA Tryd.prog 7 (.pointer (some ⟨b, off, none⟩)) 1 K X H = K (.pointer (some ⟨b, off + 1, none⟩)) H := by rw [fadA_ok fld7_1, add_none]
theorem fq7_1 {H : Hp} {K : Value → Prop} {b off : Nat} : fadQ Tryd.prog 7 (.pointer (some ⟨b, off, none⟩)) 1 K H = K (.pointer (some ⟨b, off + 1, none⟩)) := by rw [fadQ_ok fld7_1, add_none]
theorem fa7_2 {H : Hp} {K : Value → Hp → Prop} {X : List PanicEntry → Hp → Prop} {b off : Nat} : fadA Tryd.prog 7 (.pointer (some ⟨b, off, none⟩)) 2 K X H = K (.pointer (some ⟨b, off + 2, none⟩)) H := by rw [fadA_ok fld7_2, add_none]
theorem fq7_2 {H : Hp} {K : Value → Prop} {b off : Nat} : fadQ Tryd.prog 7 (.pointer (some ⟨b, off, none⟩)) 2 K H = K (.pointer (some ⟨b, off + 2, none⟩)) := by rw [fadQ_ok fld7_2, add_none]
theorem fa7_3 {H : Hp} {K : Value → Hp → Prop} {X : List PanicEntry → Hp → Prop} {b off : Nat} : fadA Tryd.prog 7 (.pointer (some ⟨b, off, none⟩)) 3 K X H = K (.pointer (some ⟨b, off + 3, none⟩)) H := by rw [fadA_ok fld7_3, add_none]
theorem fq7_3 {H : Hp} {K : Value → Prop} {b off : Nat} : fadQ Tryd.prog 7 (.pointer (some ⟨b, off, none⟩)) 3 K H = K (.pointer (some ⟨b, off + 3, none⟩)) := by rw [fadQ_ok fld7_3, add_none]
theorem ld8 {H : Hp} {K : Value → Hp → Prop} {X : List PanicEntry → Hp → Prop} {a : Addr} : loadA Tryd.prog 8 (.pointer (some a)) K X H = withcs (cellsH H a 0 4) fun l => K (.agg l.toArray) H := loadA_n Tryd.underlying8 rfl ty8
theorem rc8 {H : Hp} {K : Value → Prop} {a : Addr} {l : List Value} (hc : cellsH H a 0 4 = some l) : rcA Tryd.prog 8 (.pointer (some a)) H K = K (.agg l.toArray) := rcA_n Tryd.underlying8 rfl ty8 hc
theorem bl8 {H : Hp} {K : Value → Hp → Prop} {X : List PanicEntry → Hp → Prop} {ps : List (Nat × Value)} : bldA Tryd.prog 8 ps K X H = withO (bfill [(0, 1), (1, 1), (2, 1), (3, 1)] [.int .i64 0, .int .i64 0, .bool false, .int .u8 0] ps) fun v => K v H := bldA_e Tryd.underlying8 ty8 (by kernel_rfl)
theorem bq8 {H : Hp} {K : Value → Prop} {ps : List (Nat × Value)} : bldQ Tryd.prog 8 ps K H = withO (bfill [(0, 1), (1, 1), (2, 1), (3, 1)] [.int .i64 0, .int .i64 0, .bool false, .int .u8 0] ps) K := bldQ_e Tryd.underlying8 ty8 (by kernel_rfl)
theorem fa8_0 {H : Hp} {K : Value → Hp → Prop} {X : List PanicEntry → Hp → Prop} {b off : Nat} : fadA Tryd.prog 8 (.pointer (some ⟨b, off, none⟩)) 0 K X H = K (.pointer (some ⟨b, off, none⟩)) H := by rw [fadA_ok fld8_0, add_none]; rfl
theorem fq8_0 {H : Hp} {K : Value → Prop} {b off : Nat} : fadQ Tryd.prog 8 (.pointer (some ⟨b, off, none⟩)) 0 K H = K (.pointer (some ⟨b, off, none⟩)) := by rw [fadQ_ok fld8_0, add_none]; rfl
theorem fa8_1 {H : Hp} {K : Value → Hp → Prop} {X : List PanicEntry → Hp → Prop} {b off : Nat} : fadA Tryd.prog 8 (.pointer (some ⟨b, off, none⟩)) 1 K X H = K (.pointer (some ⟨b, off + 1, none⟩)) H := by rw [fadA_ok fld8_1, add_none]
theorem fq8_1 {H : Hp} {K : Value → Prop} {b off : Nat} : fadQ Tryd.prog 8 (.pointer (some ⟨b, off, none⟩)) 1 K H = K (.pointer (some ⟨b, off + 1, none⟩)) := by rw [fadQ_ok fld8_1, add_none]
theorem fa8_2 {H : Hp} {K : Value → Hp → Prop} {X : List PanicEntry → Hp → Prop} {b off : Nat} : fadA Tryd.prog 8 (.pointer (some ⟨b, off, none⟩)) 2 K X H = K (.pointer (some ⟨b, off + 2, none⟩)) H := by rw [fadA_ok fld8_2, add_none]
theorem fq8_2 {H : Hp} {K : Value → Prop} {b off : Nat} : fadQ Tryd.prog 8 (.pointer (some ⟨b, off, none⟩)) 2 K H = K (.pointer (some ⟨b, off + 2, none⟩)) := by rw [fadQ_ok fld8_2, add_none]
theorem fa8_3 {H : Hp} {K : Value → Hp → Prop} {X : List PanicEntry → Hp → Prop} {b off : Nat} : fadA Tryd.prog 8 (.pointer (some ⟨b, off, none⟩)) 3 K X H = K (.pointer (some ⟨b, off + 3, none⟩)) H := by rw [fadA_ok fld8_3, add_none]
theorem fq8_3 {H : Hp} {K : Value → Prop} {b off : Nat} : fadQ Tryd.prog 8 (.pointer (some ⟨b, off, none⟩)) 3 K H = K (.pointer (some ⟨b, off + 3, none⟩)) := by rw [fadQ_ok fld8_3, add_none]
theorem ld9 {H : Hp} {K : Value → Hp → Prop} {X : List PanicEntry → Hp → Prop} {a : Addr} : loadA Tryd.prog 9 (.pointer (some a)) K X H = withc (cellH H a) fun v => K v H := loadA_1 Tryd.underlying9 rfl --9
theorem lq9 {H : Hp} {K : Value → Prop} {a : Addr} : loadQ Tryd.prog 9 (.pointer (some a)) K H = withc (cellH H a) K := loadQ_e Tryd.underlying9 rfl
theorem ld10 {H : Hp} {K : Value → Hp → Prop} {X : List PanicEntry → Hp → Prop} {a : Addr} : loadA Tryd.prog 10 (.pointer (some a)) K X H = withc (cellH H a) fun v => K v H := loadA_1 Tryd.underlying10 rfl --10
theorem lq10 {H : Hp} {K : Value → Prop} {a : Addr} : loadQ Tryd.prog 10 (.pointer (some a)) K H = withc (cellH H a) K := loadQ_e Tryd.underlying10 rfl
theorem ld11 {H : Hp} {K : Value → Hp → Prop} {X : List PanicEntry → Hp → Prop} {a : Addr} : loadA Tryd.prog 11 (.pointer (some a)) K X H = withc (cellH H a) fun v => K v H := loadA_1 Tryd.underlying11 rfl --11
theorem lq11 {H : Hp} {K : Value → Prop} {a : Addr} : loadQ Tryd.prog 11 (.pointer (some a)) K H = withc (cellH H a) K := loadQ_e Tryd.underlying11 rfl
theorem ld12 {H : Hp} {K : Value → Hp → Prop} {X : List PanicEntry → Hp → Prop} {a : Addr} : loadA Tryd.prog 12 (.pointer (some a)) K X H = withc (cellH H a) fun v => K v H := loadA_1 Tryd.underlying12 rfl --12
theorem lq12 {H : Hp} {K : Value → Prop} {a : Addr} : loadQ Tryd.prog 12 (.pointer (some a)) K H = withc (cellH H a) K := loadQ_e Tryd.underlying12 rfl
theorem ld13 {H : Hp} {K : Value → Hp → Prop} {X : List PanicEntry → Hp → Prop} {a : Addr} : loadA Tryd.prog 13 (.pointer (some a)) K X H = withcs (cellsH H a 0 2) fun l => K (.agg l.toArray) H := loadA_n Tryd.underlying13 rfl ty13
theorem rc13 {H : Hp} {K : Value → Prop} {a : Addr} {l : List Value} (hc : cellsH H a 0 2 = some l) : rcA Tryd.prog 13 (.pointer (some a)) H K = K (.agg l.toArray) := rcA_n Tryd.underlying13 rfl ty13 hc
theorem bl13 {H : Hp} {K : Value → Hp → Prop} {X : List PanicEntry → Hp → Prop} {ps : List (Nat × Value)} : bldA Tryd.prog 13 ps K X H = withO (bfill [(0, 1), (1, 1)] [.string ⟨#[]⟩, .int .u64 0] ps) fun v => K v H := bldA_e Tryd.underlying13 ty13 (by kernel_rfl)
theorem bq13 {H : Hp} {K : Value → Prop} {ps : List (Nat × Value)} : bldQ Tryd.prog 13 ps K H = withO (bfill [(0, 1), (1, 1)] [.string ⟨#[]⟩, .int .u64 0] ps) K := bldQ_e Tryd.underlying13 ty13 (by kernel_rfl)
theorem fa13_0 {H : Hp} {K : Value → Hp → Prop} {X : List PanicEntry → Hp → Prop} {b off : Nat} : fadA Tryd.prog 13 (.pointer (some ⟨b, off, none⟩)) 0 K X H = K (.pointer (some ⟨b, off, none⟩)) H := by rw [fadA_ok fld13_0, add_none]; rfl
theorem fq13_0 {H : Hp} {K : Value → Prop} {b off : Nat} : fadQ Tryd.prog 13 (.pointer (some ⟨b, off, none⟩)) 0 K H = K (.pointer (some ⟨b, off, none⟩)) := by rw [fadQ_ok fld13_0, add_none]; rfl
theorem fa13_1 {H : Hp} {K : Value → Hp → Prop} {X : List PanicEntry → Hp → Prop} {b off : Nat} : fadA Tryd.prog 13 (.pointer (some ⟨b, off, none⟩)) 1 K X H = K (.pointer (some ⟨b, off + 1, none⟩)) H := by rw [fadA_ok fld13_1, add_none]
theorem fq13_1 {H : Hp} {K : Value → Prop} {b off : Nat} : fadQ Tryd.prog 13 (.pointer (some ⟨b, off, none⟩)) 1 K H = K (.pointer (some ⟨b, off + 1, none⟩)) := by rw [fadQ_ok fld13_1, add_none]
theorem ld14 {H : Hp} {K : Value → Hp → Prop} {X : List PanicEntry → Hp → Prop} {a : Addr} : loadA Tryd.prog 14 (.pointer (some a)) K X H = withcs (cellsH H a 0 2) fun l => K (.agg l.toArray) H := loadA_n Tryd.underlying14 rfl ty14
theorem rc14 {H : Hp} {K : Value → Prop} {a : Addr} {l : List Value} (hc : cellsH H a 0 2 = some l) : rcA Tryd.prog 14 (.pointer (some a)) H K = K (.agg l.toArray) := rcA_n Tryd.underlying14 rfl ty14 hc
theorem bl14 {H : Hp} {K : Value → Hp → Prop} {X : List PanicEntry → Hp → Prop} {ps : List (Nat × Value)} : bldA Tryd.prog 14 ps K X H = withO (bfill [(0, 1), (1, 1)] [.string ⟨#[]⟩, .int .u64 0] ps) fun v => K v H := bldA_e Tryd.underlying14 ty14 (by kernel_rfl)
theorem bq14 {H : Hp} {K : Value → Prop} {ps : List (Nat × Value)} : bldQ Tryd.prog 14 ps K H = withO (bfill [(0, 1), (1, 1)] [.string ⟨#[]⟩, .int .u64 0] ps) K := bldQ_e Tryd.underlying14 ty14 (by kernel_rfl)
theorem fa14_0 {H : Hp} {K : Value → Hp → Prop} {X : List PanicEntry → Hp → Prop} {b off : Nat} : fadA Tryd.prog 14 (.pointer (some ⟨b, off, none⟩)) 0 K X H = K (.pointer (some ⟨b, off, none⟩)) H := by rw [fadA_ok fld14_0, add_none]; rfl
theorem fq14_0 {H : Hp} {K : Value → Prop} {b off : Nat} : fadQ Tryd.prog 14 (.pointer (some ⟨b, off, none⟩)) 0 K H = K (.pointer (some ⟨b, off, none⟩)) := by rw [fadQ_ok fld14_0, add_none]; rfl
theorem fa14_1 {H : Hp} {K : Value → Hp → Prop} {X : List PanicEntry → Hp → Prop} {b off : Nat} : fadA Tryd.prog 14 (.pointer (some ⟨b, off, none⟩)) 1 K X H = K (.pointer (some ⟨b, off + 1, none⟩)) H := by rw [fadA_ok fld14_1, add_none]
theorem fq14_1 {H : Hp} {K : Value → Prop} {b off : Nat} : fadQ Tryd.prog 14 (.pointer (some ⟨b, off, none⟩)) 1 K H = K (.pointer (some ⟨b, off + 1, none⟩)) := by rw [fadQ_ok fld14_1, add_none]
theorem ld15 {H : Hp} {K : Value → Hp → Prop} {X : List PanicEntry → Hp → Prop} {a : Addr} : loadA Tryd.prog 15 (.pointer (some a)) K X H = withc (cellH H a) fun v => K v H := loadA_1 Tryd.underlying15 rfl --15
theorem lq15 {H : Hp} {K : Value → Prop} {a : Addr} : loadQ Tryd.prog 15 (.pointer (some a)) K H = withc (cellH H a) K := loadQ_e Tryd.underlying15 rfl
theorem ld16 {H : Hp} {K : Value → Hp → Prop} {X : List PanicEntry → Hp → Prop} {a : Addr} : loadA Tryd.prog 16 (.pointer (some a)) K X H = withc (cellH H a) fun v => K v H := loadA_1 Tryd.underlying16 rfl --16
theorem lq16 {H : Hp} {K : Value → Prop} {a : Addr} : loadQ Tryd.prog 16 (.pointer (some a)) K H = withc (cellH H a) K := loadQ_e Tryd.underlying16 rfl
theorem ld17 {H : Hp} {K : Value → Hp → Prop} {X : List PanicEntry → Hp → Prop} {a : Addr} : loadA Tryd.prog 17 (.pointer (some a)) K X H = withc (cellH H a) fun v => K v H := loadA_1 Tryd.underlying17 rfl --17
theorem lq17 {H : Hp} {K : Value → Prop} {a : Addr} : loadQ Tryd.prog 17 (.pointer (some a)) K H = withc (cellH H a) K := loadQ_e Tryd.underlying17 rfl
theorem ld18 {H : Hp} {K : Value → Hp → Prop} {X : List PanicEntry → Hp → Prop} {a : Addr} : loadA Tryd.prog 18 (.pointer (some a)) K X H = withcs (cellsH H a 0 1) fun l => K (.agg l.toArray) H := loadA_n Tryd.underlying18 rfl ty18
theorem rc18 {H : Hp} {K : Value → Prop} {a : Addr} {l : List Value} (hc : cellsH H a 0 1 = some l) : rcA Tryd.prog 18 (.pointer (some a)) H K = K (.agg l.toArray) := rcA_n Tryd.underlying18 rfl ty18 hc
theorem bl18 {H : Hp} {K : Value → Hp → Prop} {X : List PanicEntry → Hp → Prop} {ps : List (Nat × Value)} : bldA Tryd.prog 18 ps K X H = withO (bfill [(0, 1)] [.pointer none] ps) fun v => K v H := bldA_e Tryd.underlying18 ty18 (by kernel_rfl)
theorem bq18 {H : Hp} {K : Value → Prop} {ps : List (Nat × Value)} : bldQ Tryd.prog 18 ps K H = withO (bfill [(0, 1)] [.pointer none] ps) K := bldQ_e Tryd.underlying18 ty18 (by kernel_rfl)
theorem fa18_0 {H : Hp} {K : Value → Hp → Prop} {X : List PanicEntry → Hp → Prop} {b off : Nat} : fadA Tryd.prog 18 (.pointer (some ⟨b, off, none⟩)) 0 K X H = K (.pointer (some ⟨b, off, none⟩)) H := by rw [fadA_ok fld18_0, add_none]; rfl
theorem fq18_0 {H : Hp} {K : Value → Prop} {b off : Nat} : fadQ Tryd.prog 18 (.pointer (some ⟨b, off, none⟩)) 0 K H = K (.pointer (some ⟨b, off, none⟩)) := by rw [fadQ_ok fld18_0, add_none]; rfl
theorem ld19 {H : Hp} {K : Value → Hp → Prop} {X : List PanicEntry → Hp → Prop} {a : Addr} : loadA Tryd.prog 19 (.pointer (some a)) K X H = withcs (cellsH H a 0 1) fun l => K (.agg l.toArray) H := loadA_n Tryd.underlying19 rfl ty19
theorem rc19 {H : Hp} {K : Value → Prop} {a : Addr} {l : List Value} (hc : cellsH H a 0 1 = some l) : rcA Tryd.prog 19 (.pointer (some a)) H K = K (.agg l.toArray) := rcA_n Tryd.underlying19 rfl ty19 hc
theorem bl19 {H : Hp} {K : Value → Hp → Prop} {X : List PanicEntry → Hp → Prop} {ps : List (Nat × Value)} : bldA Tryd.prog 19 ps K X H = withO (bfill [(0, 1)] [.pointer none] ps) fun v => K v H := bldA_e Tryd.underlying19 ty19 (by kernel_rfl)
theorem bq19 {H : Hp} {K : Value → Prop} {ps : List (Nat × Value)} : bldQ Tryd.prog 19 ps K H = withO (bfill [(0, 1)] [.pointer none] ps) K := bldQ_e Tryd.underlying19 ty19 (by kernel_rfl)
theorem fa19_0 {H : Hp} {K : Value → Hp → Prop} {X : List PanicEntry → Hp → Prop} {b off : Nat} : fadA Tryd.prog 19 (.pointer (some ⟨b, off, none⟩)) 0 K X H = K (.pointer (some ⟨b, off, none⟩)) H := by rw [fadA_ok fld19_0, add_none]; rfl
theorem fq19_0 {H : Hp} {K : Value → Prop} {b off : Nat} : fadQ Tryd.prog 19 (.pointer (some ⟨b, off, none⟩)) 0 K H = K (.pointer (some ⟨b, off, none⟩)) := by rw [fadQ_ok fld19_0, add_none]; rfl
theorem ld20 {H : Hp} {K : Value → Hp → Prop} {X : List PanicEntry → Hp → Prop} {a : Addr} : loadA Tryd.prog 20 (.pointer (some a)) K X H = withc (cellH H a) fun v => K v H := loadA_1 Tryd.underlying20 rfl --20
theorem lq20 {H : Hp} {K : Value → Prop} {a : Addr} : loadQ Tryd.prog 20 (.pointer (some a)) K H = withc (cellH H a) K := loadQ_e Tryd.underlying20 rfl
theorem ld21 {H : Hp} {K : Value → Hp → Prop} {X : List PanicEntry → Hp → Prop} {a : Addr} : loadA Tryd.prog 21 (.pointer (some a)) K X H = withc (cellH H a) fun v => K v H := loadA_1 Tryd.underlying21 rfl --21
theorem lq21 {H : Hp} {K : Value → Prop} {a : Addr} : loadQ Tryd.prog 21 (.pointer (some a)) K H = withc (cellH H a) K := loadQ_e Tryd.underlying21 rfl
theorem ld22 {H : Hp} {K : Value → Hp → Prop} {X : List PanicEntry → Hp → Prop} {a : Addr} : loadA Tryd.prog 22 (.pointer (some a)) K X H = withc (cellH H a) fun v => K v H := loadA_1 Tryd.underlying22 rfl --22
theorem lq22 {H : Hp} {K : Value → Prop} {a : Addr} : loadQ Tryd.prog 22 (.pointer (some a)) K H = withc (cellH H a) K := loadQ_e Tryd.underlying22 rfl
theorem ld23 {H : Hp} {K : Value → Hp → Prop} {X : List PanicEntry → Hp → Prop} {a : Addr} : loadA Tryd.prog 23 (.pointer (some a)) K X H = withc (cellH H a) fun v => K v H := loadA_1 Tryd.underlying23 rfl --23
theorem lq23 {H : Hp} {K : Value → Prop} {a : Addr} : loadQ Tryd.prog 23 (.pointer (some a)) K H = withc (cellH H a) K := loadQ_e Tryd.underlying23 rfl
theorem ld24 {H : Hp} {K : Value → Hp → Prop} {X : List PanicEntry → Hp → Prop} {a : Addr} : loadA Tryd.prog 24 (.pointer (some a)) K X H = withc (cellH H a) fun v => K v H := loadA_1 Tryd.underlying24 rfl --24
theorem lq24 {H : Hp} {K : Value → Prop} {a : Addr} : loadQ Tryd.prog 24 (.pointer (some a)) K H = withc (cellH H a) K := loadQ_e Tryd.underlying24 rfl
theorem ld25 {H : Hp} {K : Value → Hp → Prop} {X : List PanicEntry → Hp → Prop} {a : Addr} : loadA Tryd.prog 25 (.pointer (some a)) K X H = withc (cellH H a) fun v => K v H := loadA_1 Tryd.underlying25 rfl --25
theorem lq25 {H : Hp} {K : Value → Prop} {a : Addr} : loadQ Tryd.prog 25 (.pointer (some a)) K H = withc (cellH H a) K := loadQ_e Tryd.underlying25 rfl
theorem ld27 {H : Hp} {K : Value → Hp → Prop} {X : List PanicEntry → Hp → Prop} {a : Addr} : loadA Tryd.prog 27 (.pointer (some a)) K X H = withc (cellH H a) fun v => K v H := loadA_1 Tryd.underlying27 rfl --27
theorem lq27 {H : Hp} {K : Value → Prop} {a : Addr} : loadQ Tryd.prog 27 (.pointer (some a)) K H = withc (cellH H a) K := loadQ_e Tryd.underlying27 rfl
theorem ld29 {H : Hp} {K : Value → Hp → Prop} {X : List PanicEntry → Hp → Prop} {a : Addr} : loadA Tryd.prog 29 (.pointer (some a)) K X H = withc (cellH H a) fun v => K v H := loadA_1 Tryd.underlying29 rfl --29
theorem lq29 {H : Hp} {K : Value → Prop} {a : Addr} : loadQ Tryd.prog 29 (.pointer (some a)) K H = withc (cellH H a) K := loadQ_e Tryd.underlying29 rfl
theorem ld30 {H : Hp} {K : Value → Hp → Prop} {X : List PanicEntry → Hp → Prop} {a : Addr} : loadA Tryd.prog 30 (.pointer (some a)) K X H = withc (cellH H a) fun v => K v H := loadA_1 Tryd.underlying30 rfl --30
theorem lq30 {H : Hp} {K : Value → Prop} {a : Addr} : loadQ Tryd.prog 30 (.pointer (some a)) K H = withc (cellH H a) K := loadQ_e Tryd.underlying30 rfl
theorem ld31 {H : Hp} {K : Value → Hp → Prop} {X : List PanicEntry → Hp → Prop} {a : Addr} : loadA Tryd.prog 31 (.pointer (some a)) K X H = withc (cellH H a) fun v => K v H := loadA_1 Tryd.underlying31 rfl --31
theorem lq31 {H : Hp} {K : Value → Prop} {a : Addr} : loadQ Tryd.prog 31 (.pointer (some a)) K H = withc (cellH H a) K := loadQ_e Tryd.underlying31 rfl
theorem ld32 {H : Hp} {K : Value → Hp → Prop} {X : List PanicEntry → Hp → Prop} {a : Addr} : loadA Tryd.prog 32 (.pointer (some a)) K X H = withc (cellH H a) fun v => K v H := loadA_1 Tryd.underlying32 rfl --32
theorem lq32 {H : Hp} {K : Value → Prop} {a : Addr} : loadQ Tryd.prog 32 (.pointer (some a)) K H = withc (cellH H a) K := loadQ_e Tryd.underlying32 rfl
theorem ld33 {H : Hp} {K : Value → Hp → Prop} {X : List PanicEntry → Hp → Prop} {a : Addr} : loadA Tryd.prog 33 (.pointer (some a)) K X H = withc (cellH H a) fun v => K v H := loadA_1 Tryd.underlying33 rfl --33
theorem lq33 {H : Hp} {K : Value → Prop} {a : Addr} : loadQ Tryd.prog 33 (.pointer (some a)) K H = withc (cellH H a) K := loadQ_e Tryd.underlying33 rfl
theorem ld34 {H : Hp} {K : Value → Hp → Prop} {X : List PanicEntry → Hp → Prop} {a : Addr} : loadA Tryd.prog 34 (.pointer (some a)) K X H = withc (cellH H a) fun v => K v H := loadA_1 Tryd.underlying34 rfl --34
theorem lq34 {H : Hp} {K : Value → Prop} {a : Addr} : loadQ Tryd.prog 34 (.pointer (some a)) K H = withc (cellH H a) K := loadQ_e Tryd.underlying34 rfl
theorem ld35 {H : Hp} {K : Value → Hp → Prop} {X : List PanicEntry → Hp → Prop} {a : Addr} : loadA Tryd.prog 35 (.pointer (some a)) K X H = withc (cellH H a) fun v => K v H := loadA_1 Tryd.underlying35 rfl --35
theorem lq35 {H : Hp} {K : Value → Prop} {a : Addr} : loadQ Tryd.prog 35 (.pointer (some a)) K H = withc (cellH H a) K := loadQ_e Tryd.underlying35 rfl
theorem ld36 {H : Hp} {K : Value → Hp → Prop} {X : List PanicEntry → Hp → Prop} {a : Addr} : loadA Tryd.prog 36 (.pointer (some a)) K X H = withc (cellH H a) fun v => K v H := loadA_1 Tryd.underlying36 rfl --36
theorem lq36 {H : Hp} {K : Value → Prop} {a : Addr} : loadQ Tryd.prog 36 (.pointer (some a)) K H = withc (cellH H a) K := loadQ_e Tryd.underlying36 rfl
theorem ld38 {H : Hp} {K : Value → Hp → Prop} {X : List PanicEntry → Hp → Prop} {a : Addr} : loadA Tryd.prog 38 (.pointer (some a)) K X H = withc (cellH H a) fun v => K v H := loadA_1 Tryd.underlying38 rfl --38
theorem lq38 {H : Hp} {K : Value → Prop} {a : Addr} : loadQ Tryd.prog 38 (.pointer (some a)) K H = withc (cellH H a) K := loadQ_e Tryd.underlying38 rfl
theorem ld39 {H : Hp} {K : Value → Hp → Prop} {X : List PanicEntry → Hp → Prop} {a : Addr} : loadA Tryd.prog 39 (.pointer (some a)) K X H = withcs (cellsH H a 0 4) fun l => K (.agg l.toArray) H := loadA_n Tryd.underlying39 rfl ty39
theorem rc39 {H : Hp} {K : Value → Prop} {a : Addr} {l : List Value} (hc : cellsH H a 0 4 = some l) : rcA Tryd.prog 39 (.pointer (some a)) H K = K (.agg l.toArray) := rcA_n Tryd.underlying39 rfl ty39 hc
theorem bl39 {H : Hp} {K : Value → Hp → Prop} {X : List PanicEntry → Hp → Prop} {ps : List (Nat × Value)} : bldA Tryd.prog 39 ps K X H = withO (bfill [(0, 1), (1, 1), (2, 1), (3, 1)] [.int .i64 0, .string ⟨#[]⟩, .slice none 0 0, .slice none 0 0] ps) fun v => K v H := bldA_e Tryd.underlying39 ty39 (by kernel_rfl)
theorem bq39 {H : Hp} {K : Value → Prop} {ps : List (Nat × Value)} : bldQ Tryd.prog 39 ps K H = withO (bfill [(0, 1), (1, 1), (2, 1), (3, 1)] [.int .i64 0, .string ⟨#[]⟩, .slice none 0 0, .slice none 0 0] ps) K := bldQ_e Tryd.underlying39 ty39 (by kernel_rfl)
theorem fa39_0 {H : Hp} {K : Value → Hp → Prop} {X : List PanicEntry → Hp → Prop} {b off : Nat} : fadA Tryd.prog 39 (.pointer (some ⟨b, off, none⟩)) 0 K X H = K (.pointer (some ⟨b, off, none⟩)) H := by rw [fadA_ok fld39_0, add_none]; rfl
theorem fq39_0 {H : Hp} {K : Value → Prop} {b off : Nat} : fadQ Tryd.prog 39 (.pointer (some ⟨b, off, none⟩)) 0 K H = K (.pointer (some ⟨b, off, none⟩)) := by rw [fadQ_ok fld39_0, add_none]; rfl
theorem fa39_1 {H : Hp} {K : Value → Hp → Prop} {X : List PanicEntry → Hp → Prop} {b off : Nat} : fadA Tryd.prog 39 (.pointer (some ⟨b, off, none⟩)) 1 K X H = K (.pointer (some ⟨b, off + 1, none⟩)) H := by rw [fadA_ok fld39_1, add_none]
theorem fq39_1 {H : Hp} {K : Value → Prop} {b off : Nat} : fadQ Tryd.prog 39 (.pointer (some ⟨b, off, none⟩)) 1 K H = K (.pointer (some ⟨b, off + 1, none⟩)) := by rw [fadQ_ok fld39_1, add_none]
theorem fa39_2 {H : Hp} {K : Value → Hp → Prop} {X : List PanicEntry → Hp → Prop} {b off : Nat} : fadA Tryd.prog 39 (.pointer (some ⟨b, off, none⟩)) 2 K X H = K (.pointer (some ⟨b, off + 2, none⟩)) H := by rw [fadA_ok fld39_2, add_none]
theorem fq39_2 {H : Hp} {K : Value → Prop} {b off : Nat} : fadQ Tryd.prog 39 (.pointer (some ⟨b, off, none⟩)) 2 K H = K (.pointer (some ⟨b, off + 2, none⟩)) := by rw [fadQ_ok fld39_2, add_none]
theorem fa39_3 {H : Hp} {K : Value → Hp → Prop} {X : List PanicEntry → Hp → Prop} {b off : Nat} : fadA Tryd.prog 39 (.pointer (some ⟨b, off, none⟩)) 3 K X H = K (.pointer (some ⟨b, off + 3, none⟩)) H := by rw [fadA_ok fld39_3, add_none]
theorem fq39_3 {H : Hp} {K : Value → Prop} {b off : Nat} : fadQ Tryd.prog 39 (.pointer (some ⟨b, off, none⟩)) 3 K H = K (.pointer (some ⟨b, off + 3, none⟩)) := by rw [fadQ_ok fld39_3, add_none]
theorem ld40 {H : Hp} {K : Value → Hp → Prop} {X : List PanicEntry → Hp → Prop} {a : Addr} : loadA Tryd.prog 40 (.pointer (some a)) K X H = withcs (cellsH H a 0 4) fun l => K (.agg l.toArray) H := loadA_n Tryd.underlying40 rfl ty40
theorem rc40 {H : Hp} {K : Value → Prop} {a : Addr} {l : List Value} (hc : cellsH H a 0 4 = some l) : rcA Tryd.prog 40 (.pointer (some a)) H K = K (.agg l.toArray) := rcA_n Tryd.underlying40 rfl ty40 hc
theorem bl40 {H : Hp} {K : Value → Hp → Prop} {X : List PanicEntry → Hp → Prop} {ps : List (Nat × Value)} : bldA Tryd.prog 40 ps K X H = withO (bfill [(0, 1), (1, 1), (2, 1), (3, 1)] [.int .i64 0, .string ⟨#[]⟩, .slice none 0 0, .slice none 0 0] ps) fun v => K v H := bldA_e Tryd.underlying40 ty40 (by kernel_rfl)
theorem bq40 {H : Hp} {K : Value → Prop} {ps : List (Nat × Value)} : bldQ Tryd.prog 40 ps K H = withO (bfill [(0, 1), (1, 1), (2, 1), (3, 1)] [.int .i64 0, .string ⟨#[]⟩, .slice none 0 0, .slice none 0 0] ps) K := bldQ_e Tryd.underlying40 ty40 (by kernel_rfl)
theorem fa40_0 {H : Hp} {K : Value → Hp → Prop} {X : List PanicEntry → Hp → Prop} {b off : Nat} : fadA Tryd.prog 40 (.pointer (some ⟨b, off, none⟩)) 0 K X H = K (.pointer (some ⟨b, off, none⟩)) H := by rw [fadA_ok fld40_0, add_none]; rfl
theorem fq40_0 {H : Hp} {K : Value → Prop} {b off : Nat} : fadQ Tryd.prog 40 (.pointer (some ⟨b, off, none⟩)) 0 K H = K (.pointer (some ⟨b, off, none⟩)) := by rw [fadQ_ok fld40_0, add_none]; rfl
theorem fa40_1 {H : Hp} {K : Value → Hp → Prop} {X : List PanicEntry → Hp → Prop} {b off : Nat} : fadA Tryd.prog 40 (.pointer (some ⟨b, off, none⟩)) 1 K X H = K (.pointer (some ⟨b, off + 1, none⟩)) H := by rw [fadA_ok fld40_1, add_none]
theorem fq40_1 {H : Hp} {K : Value → Prop} {b off : Nat} : fadQ Tryd.prog 40 (.pointer (some ⟨b, off, none⟩)) 1 K H = K (.pointer (some ⟨b, off + 1, none⟩)) := by rw [fadQ_ok fld40_1, add_none]
theorem fa40_2 {H : Hp} {K : Value → Hp → Prop} {X : List PanicEntry → Hp → Prop} {b off : Nat} : fadA Tryd.prog 40 (.pointer (some ⟨b, off, none⟩)) 2 K X H = K (.pointer (some ⟨b, off + 2, none⟩)) H := by rw [fadA_ok fld40_2, add_none]
theorem fq40_2 {H : Hp} {K : Value → Prop} {b off : Nat} : fadQ Tryd.prog 40 (.pointer (some ⟨b, off, none⟩)) 2 K H = K (.pointer (some ⟨b, off + 2, none⟩)) := by rw [fadQ_ok fld40_2, add_none]
theorem fa40_3 {H : Hp} {K : Value → Hp → Prop} {X : List PanicEntry → Hp → Prop} {b off : Nat} : fadA Tryd.prog 40 (.pointer (some ⟨b, off, none⟩)) 3 K X H = K (.pointer (some ⟨b, off + 3, none⟩)) H := by rw [fadA_ok fld40_3, add_none]
theorem fq40_3 {H : Hp} {K : Value → Prop} {b off : Nat} : fadQ Tryd.prog 40 (.pointer (some ⟨b, off, none⟩)) 3 K H = K (.pointer (some ⟨b, off + 3, none⟩)) := by rw [fadQ_ok fld40_3, add_none]
theorem ld41 {H : Hp} {K : Value → Hp → Prop} {X : List PanicEntry → Hp → Prop} {a : Addr} : loadA Tryd.prog 41 (.pointer (some a)) K X H = withc (cellH H a) fun v => K v H := loadA_1 Tryd.underlying41 rfl --41
theorem lq41 {H : Hp} {K : Value → Prop} {a : Addr} : loadQ Tryd.prog 41 (.pointer (some a)) K H = withc (cellH H a) K := loadQ_e Tryd.underlying41 rfl
theorem ld42 {H : Hp} {K : Value → Hp → Prop} {X : List PanicEntry → Hp → Prop} {a : Addr} : loadA Tryd.prog 42 (.pointer (some a)) K X H = withc (cellH H a) fun v => K v H := loadA_1 Tryd.underlying42 rfl --42
theorem lq42 {H : Hp} {K : Value → Prop} {a : Addr} : loadQ Tryd.prog 42 (.pointer (some a)) K H = withc (cellH H a) K := loadQ_e Tryd.underlying42 rfl
theorem ld43 {H : Hp} {K : Value → Hp → Prop} {X : List PanicEntry → Hp → Prop} {a : Addr} : loadA Tryd.prog 43 (.pointer (some a)) K X H = withc (cellH H a) fun v => K v H := loadA_1 Tryd.underlying43 rfl --43
theorem lq43 {H : Hp} {K : Value → Prop} {a : Addr} : loadQ Tryd.prog 43 (.pointer (some a)) K H = withc (cellH H a) K := loadQ_e Tryd.underlying43 rfl
theorem ld44 {H : Hp} {K : Value → Hp → Prop} {X : List PanicEntry → Hp → Prop} {a : Addr} : loadA Tryd.prog 44 (.pointer (some a)) K X H = withc (cellH H a) fun v => K v H := loadA_1 Tryd.underlying44 rfl --44
theorem lq44 {H : Hp} {K : Value → Prop} {a : Addr} : loadQ Tryd.prog 44 (.pointer (some a)) K H = withc (cellH H a) K := loadQ_e Tryd.underlying44 rfl
theorem ld45 {H : Hp} {K : Value → Hp → Prop} {X : List PanicEntry → Hp → Prop} {a : Addr} : loadA Tryd.prog 45 (.pointer (some a)) K X H = withc (cellH H a) fun v => K v H := loadA_1 Tryd.underlying45 rfl --45
theorem lq45 {H : Hp} {K : Value → Prop} {a : Addr} : loadQ Tryd.prog 45 (.pointer (some a)) K H = withc (cellH H a) K := loadQ_e Tryd.underlying45 rfl
theorem ld46 {H : Hp} {K : Value → Hp → Prop} {X : List PanicEntry → Hp → Prop} {a : Addr} : loadA Tryd.prog 46 (.pointer (some a)) K X H = withc (cellH H a) fun v => K v H := loadA_1 Tryd.underlying46 rfl --46
theorem lq46 {H : Hp} {K : Value → Prop} {a : Addr} : loadQ Tryd.prog 46 (.pointer (some a)) K H = withc (cellH H a) K := loadQ_e Tryd.underlying46 rfl
theorem ld47 {H : Hp} {K : Value → Hp → Prop} {X : List PanicEntry → Hp → Prop} {a : Addr} : loadA Tryd.prog 47 (.pointer (some a)) K X H = withc (cellH H a) fun v => K v H := loadA_1 Tryd.underlying47 rfl --47
theorem lq47 {H : Hp} {K : Value → Prop} {a : Addr} : loadQ Tryd.prog 47 (.pointer (some a)) K H = withc (cellH H a) K := loadQ_e Tryd.underlying47 rfl
theorem ld48 {H : Hp} {K : Value → Hp → Prop} {X : List PanicEntry → Hp → Prop} {a : Addr} : loadA Tryd.prog 48 (.pointer (some a)) K X H = withc (cellH H a) fun v => K v H := loadA_1 Tryd.underlying48 rfl --48
theorem lq48 {H : Hp} {K : Value → Prop} {a : Addr} : loadQ Tryd.prog 48 (.pointer (some a)) K H = withc (cellH H a) K := loadQ_e Tryd.underlying48 rfl
theorem ld50 {H : Hp} {K : Value → Hp → Prop} {X : List PanicEntry → Hp → Prop} {a : Addr} : loadA Tryd.prog 50 (.pointer (some a)) K X H = withc (cellH H a) fun v => K v H := loadA_1 Tryd.underlying50 rfl --50
theorem lq50 {H : Hp} {K : Value → Prop} {a : Addr} : loadQ Tryd.prog 50 (.pointer (some a)) K H = withc (cellH H a) K := loadQ_e Tryd.underlying50 rfl
theorem ld51 {H : Hp} {K : Value → Hp → Prop} {X : List PanicEntry → Hp → Prop} {a : Addr} : loadA Tryd.prog 51 (.pointer (some a)) K X H = withc (cellH H a) fun v => K v H := loadA_1 Tryd.underlying51 rfl --51
theorem lq51 {H : Hp} {K : Value → Prop} {a : Addr} : loadQ Tryd.prog 51 (.pointer (some a)) K H = withc (cellH H a) K := loadQ_e Tryd.underlying51 rfl
theorem ld52 {H : Hp} {K : Value → Hp → Prop} {X : List PanicEntry → Hp → Prop} {a : Addr} : loadA Tryd.prog 52 (.pointer (some a)) K X H = withc (cellH H a) fun v => K v H := loadA_1 Tryd.underlying52 rfl --52
theorem lq52 {H : Hp} {K : Value → Prop} {a : Addr} : loadQ Tryd.prog 52 (.pointer (some a)) K H = withc (cellH H a) K := loadQ_e Tryd.underlying52 rfl
theorem ld53 {H : Hp} {K : Value → Hp → Prop} {X : List PanicEntry → Hp → Prop} {a : Addr} : loadA Tryd.prog 53 (.pointer (some a)) K X H = withcs (cellsH H a 0 2) fun l => K (.agg l.toArray) H := loadA_n Tryd.underlying53 rfl ty53
theorem rc53 {H : Hp} {K : Value → Prop} {a : Addr} {l : List Value} (hc : cellsH H a 0 2 = some l) : rcA Tryd.prog 53 (.pointer (some a)) H K = K (.agg l.toArray) := rcA_n Tryd.underlying53 rfl ty53 hc
theorem bl53 {H : Hp} {K : Value → Hp → Prop} {X : List PanicEntry → Hp → Prop} {ps : List (Nat × Value)} : bldA Tryd.prog 53 ps K X H = withO (bfill [(0, 1), (1, 1)] [.pointer none, .slice none 0 0] ps) fun v => K v H := bldA_e Tryd.underlying53 ty53 (by kernel_rfl)
theorem bq53 {H : Hp} {K : Value → Prop} {ps : List (Nat × Value)} : bldQ Tryd.prog 53 ps K H = withO (bfill [(0, 1), (1, 1)] [.pointer none, .slice none 0 0] ps) K := bldQ_e Tryd.underlying53 ty53 (by kernel_rfl)
theorem fa53_0 {H : Hp} {K : Value → Hp → Prop} {X : List PanicEntry → Hp → Prop} {b off : Nat} : fadA Tryd.prog 53 (.pointer (some ⟨b, off, none⟩)) 0 K X H = K (.pointer (some ⟨b, off, none⟩)) H := by rw [fadA_ok fld53_0, add_none]; rfl
theorem fq53_0 {H : Hp} {K : Value → Prop} {b off : Nat} : fadQ Tryd.prog 53 (.pointer (some ⟨b, off, none⟩)) 0 K H = K (.pointer (some ⟨b, off, none⟩)) := by rw [fadQ_ok fld53_0, add_none]; rfl
theorem fa53_1 {H : Hp} {K : Value → Hp → Prop} {X : List PanicEntry → Hp → Prop} {b off : Nat} : fadA Tryd.prog 53 (.pointer (some ⟨b, off, none⟩)) 1 K X H = K (.pointer (some ⟨b, off + 1, none⟩)) H := by rw [fadA_ok fld53_1, add_none]
theorem fq53_1 {H : Hp} {K : Value → Prop} {b off : Nat} : fadQ Tryd.prog 53 (.pointer (some ⟨b, off, none⟩)) 1 K H = K (.pointer (some ⟨b, off + 1, none⟩)) := by rw [fadQ_ok fld53_1, add_none]
theorem ld54 {H : Hp} {K : Value → Hp → Prop} {X : List PanicEntry → Hp → Prop} {a : Addr} : loadA Tryd.prog 54 (.pointer (some a)) K X H = withcs (cellsH H a 0 2) fun l => K (.agg l.toArray) H := loadA_n Tryd.underlying54 rfl ty54
theorem rc54 {H : Hp} {K : Value → Prop} {a : Addr} {l : List Value} (hc : cellsH H a 0 2 = some l) : rcA Tryd.prog 54 (.pointer (some a)) H K = K (.agg l.toArray) := rcA_n Tryd.underlying54 rfl ty54 hc
theorem bl54 {H : Hp} {K : Value → Hp → Prop} {X : List PanicEntry → Hp → Prop} {ps : List (Nat × Value)} : bldA Tryd.prog 54 ps K X H = withO (bfill [(0, 1), (1, 1)] [.pointer none, .slice none 0 0] ps) fun v => K v H := bldA_e Tryd.underlying54 ty54 (by kernel_rfl)
theorem bq54 {H : Hp} {K : Value → Prop} {ps : List (Nat × Value)} : bldQ Tryd.prog 54 ps K H = withO (bfill [(0, 1), (1, 1)] [.pointer none, .slice none 0 0] ps) K := bldQ_e Tryd.underlying54 ty54 (by kernel_rfl)
theorem fa54_0 {H : Hp} {K : Value → Hp → Prop} {X : List PanicEntry → Hp → Prop} {b off : Nat} : fadA Tryd.prog 54 (.pointer (some ⟨b, off, none⟩)) 0 K X H = K (.pointer (some ⟨b, off, none⟩)) H := by rw [fadA_ok fld54_0, add_none]; rfl
theorem fq54_0 {H : Hp} {K : Value → Prop} {b off : Nat} : fadQ Tryd.prog 54 (.pointer (some ⟨b, off, none⟩)) 0 K H = K (.pointer (some ⟨b, off, none⟩)) := by rw [fadQ_ok fld54_0, add_none]; rfl
theorem fa54_1 {H : Hp} {K : Value → Hp → Prop} {X : List PanicEntry → Hp → Prop} {b off : Nat} : fadA Tryd.prog 54 (.pointer (some ⟨b, off, none⟩)) 1 K X H = K (.pointer (some ⟨b, off + 1, none⟩)) H := by rw [fadA_ok fld54_1, add_none]
theorem fq54_1 {H : Hp} {K : Value → Prop} {b off : Nat} : fadQ Tryd.prog 54 (.pointer (some ⟨b, off, none⟩)) 1 K H = K (.pointer (some ⟨b, off + 1, none⟩)) := by rw [fadQ_ok fld54_1, add_none]
theorem ld55 {H : Hp} {K : Value → Hp → Prop} {X : List PanicEntry → Hp → Prop} {a : Addr} : loadA Tryd.prog 55 (.pointer (some a)) K X H = withc (cellH H a) fun v => K v H := loadA_1 Tryd.underlying55 rfl --55
theorem lq55 {H : Hp} {K : Value → Prop} {a : Addr} : loadQ Tryd.prog 55 (.pointer (some a)) K H = withc (cellH H a) K := loadQ_e Tryd.underlying55 rfl
theorem ld56 {H : Hp} {K : Value → Hp → Prop} {X : List PanicEntry → Hp → Prop} {a : Addr} : loadA Tryd.prog 56 (.pointer (some a)) K X H = withc (cellH H a) fun v => K v H := loadA_1 Tryd.underlying56 rfl --56
theorem lq56 {H : Hp} {K : Value → Prop} {a : Addr} : loadQ Tryd.prog 56 (.pointer (some a)) K H = withc (cellH H a) K := loadQ_e Tryd.underlying56 rfl
theorem ld57 {H : Hp} {K : Value → Hp → Prop} {X : List PanicEntry → Hp → Prop} {a : Addr} : loadA Tryd.prog 57 (.pointer (some a)) K X H = withc (cellH H a) fun v => K v H := loadA_1 Tryd.underlying57 rfl --57
theorem lq57 {H : Hp} {K : Value → Prop} {a : Addr} : loadQ Tryd.prog 57 (.pointer (some a)) K H = withc (cellH H a) K := loadQ_e Tryd.underlying57 rfl
theorem ld59 {H : Hp} {K : Value → Hp → Prop} {X : List PanicEntry → Hp → Prop} {a : Addr} : loadA Tryd.prog 59 (.pointer (some a)) K X H = withc (cellH H a) fun v => K v H := loadA_1 Tryd.underlying59 rfl --59
theorem lq59 {H : Hp} {K : Value → Prop} {a : Addr} : loadQ Tryd.prog 59 (.pointer (some a)) K H = withc (cellH H a) K := loadQ_e Tryd.underlying59 rfl
theorem ld60 {H : Hp} {K : Value → Hp → Prop} {X : List PanicEntry → Hp → Prop} {a : Addr} : loadA Tryd.prog 60 (.pointer (some a)) K X H = withc (cellH H a) fun v => K v H := loadA_1 Tryd.underlying60 rfl --60
theorem lq60 {H : Hp} {K : Value → Prop} {a : Addr} : loadQ Tryd.prog 60 (.pointer (some a)) K H = withc (cellH H a) K := loadQ_e Tryd.underlying60 rfl
theorem ld61 {H : Hp} {K : Value → Hp → Prop} {X : List PanicEntry → Hp → Prop} {a : Addr} : loadA Tryd.prog 61 (.pointer (some a)) K X H = withc (cellH H a) fun v => K v H := loadA_1 Tryd.underlying61 rfl --61
theorem lq61 {H : Hp} {K : Value → Prop} {a : Addr} : loadQ Tryd.prog 61 (.pointer (some a)) K H = withc (cellH H a) K := loadQ_e Tryd.underlying61 rfl
theorem ld62 {H : Hp} {K : Value → Hp → Prop} {X : List PanicEntry → Hp → Prop} {a : Addr} : loadA Tryd.prog 62 (.pointer (some a)) K X H = withc (cellH H a) fun v => K v H := loadA_1 Tryd.underlying62 rfl --62
theorem lq62 {H : Hp} {K : Value → Prop} {a : Addr} : loadQ Tryd.prog 62 (.pointer (some a)) K H = withc (cellH H a) K := loadQ_e Tryd.underlying62 rfl
theorem ld64 {H : Hp} {K : Value → Hp → Prop} {X : List PanicEntry → Hp → Prop} {a : Addr} : loadA Tryd.prog 64 (.pointer (some a)) K X H = withc (cellH H a) fun v => K v H := loadA_1 Tryd.underlying64 rfl --64
theorem lq64 {H : Hp} {K : Value → Prop} {a : Addr} : loadQ Tryd.prog 64 (.pointer (some a)) K H = withc (cellH H a) K := loadQ_e Tryd.underlying64 rfl
theorem ld65 {H : Hp} {K : Value → Hp → Prop} {X : List PanicEntry → Hp → Prop} {a : Addr} : loadA Tryd.prog 65 (.pointer (some a)) K X H = withc (cellH H a) fun v => K v H := loadA_1 Tryd.underlying65 rfl --65
theorem lq65 {H : Hp} {K : Value → Prop} {a : Addr} : loadQ Tryd.prog 65 (.pointer (some a)) K H = withc (cellH H a) K := loadQ_e Tryd.underlying65 rfl
theorem ld66 {H : Hp} {K : Value → Hp → Prop} {X : List PanicEntry → Hp → Prop} {a : Addr} : loadA Tryd.prog 66 (.pointer (some a)) K X H = withc (cellH H a) fun v => K v H := loadA_1 Tryd.underlying66 rfl --66
theorem lq66 {H : Hp} {K : Value → Prop} {a : Addr} : loadQ Tryd.prog 66 (.pointer (some a)) K H = withc (cellH H a) K := loadQ_e Tryd.underlying66 rfl
theorem ld67 {H : Hp} {K : Value → Hp → Prop} {X : List PanicEntry → Hp → Prop} {a : Addr} : loadA Tryd.prog 67 (.pointer (some a)) K X H = withc (cellH H a) fun v => K v H := loadA_1 Tryd.underlying67 rfl --67
theorem lq67 {H : Hp} {K : Value → Prop} {a : Addr} : loadQ Tryd.prog 67 (.pointer (some a)) K H = withc (cellH H a) K := loadQ_e Tryd.underlying67 rfl
theorem ld68 {H : Hp} {K : Value → Hp → Prop} {X : List PanicEntry → Hp → Prop} {a : Addr} : loadA Tryd.prog 68 (.pointer (some a)) K X H = withc (cellH H a) fun v => K v H := loadA_1 Tryd.underlying68 rfl --68
theorem lq68 {H : Hp} {K : Value → Prop} {a : Addr} : loadQ Tryd.prog 68 (.pointer (some a)) K H = withc (cellH H a) K := loadQ_e Tryd.underlying68 rfl
theorem ld69 {H : Hp} {K : Value → Hp → Prop} {X : List PanicEntry → Hp → Prop} {a : Addr} : loadA Tryd.prog 69 (.pointer (some a)) K X H = withc (cellH H a) fun v => K v H := loadA_1 Tryd.underlying69 rfl --69
theorem lq69 {H : Hp} {K : Value → Prop} {a : Addr} : loadQ Tryd.prog 69 (.pointer (some a)) K H = withc (cellH H a) K := loadQ_e Tryd.underlying69 rfl
theorem ld70 {H : Hp} {K : Value → Hp → Prop} {X : List PanicEntry → Hp → Prop} {a : Addr} : loadA Tryd.prog 70 (.pointer (some a)) K X H = withc (cellH H a) fun v => K v H := loadA_1 Tryd.underlying70 rfl --70
theorem lq70 {H : Hp} {K : Value → Prop} {a : Addr} : loadQ Tryd.prog 70 (.pointer (some a)) K H = withc (cellH H a) K := loadQ_e Tryd.underlying70 rfl
theorem ld71 {H : Hp} {K : Value → Hp → Prop} {X : List PanicEntry → Hp → Prop} {a : Addr} : loadA Tryd.prog 71 (.pointer (some a)) K X H = withc (cellH H a) fun v => K v H := loadA_1 Tryd.underlying71 rfl --71
theorem lq71 {H : Hp} {K : Value → Prop} {a : Addr} : loadQ Tryd.prog 71 (.pointer (some a)) K H = withc (cellH H a) K := loadQ_e Tryd.underlying71 rfl
theorem ld72 {H : Hp} {K : Value → Hp → Prop} {X : List PanicEntry → Hp → Prop} {a : Addr} : loadA Tryd.prog 72 (.pointer (some a)) K X H = withcs (cellsH H a 0 2) fun l => K (.agg l.toArray) H := loadA_n Tryd.underlying72 rfl ty72
theorem rc72 {H : Hp} {K : Value → Prop} {a : Addr} {l : List Value} (hc : cellsH H a 0 2 = some l) : rcA Tryd.prog 72 (.pointer (some a)) H K = K (.agg l.toArray) := rcA_n Tryd.underlying72 rfl ty72 hc
theorem bl72 {H : Hp} {K : Value → Hp → Prop} {X : List PanicEntry → Hp → Prop} {ps : List (Nat × Value)} : bldA Tryd.prog 72 ps K X H = withO (bfill [(0, 1), (1, 1)] [.int .i64 0, .string ⟨#[]⟩] ps) fun v => K v H := bldA_e Tryd.underlying72 ty72 (by kernel_rfl)
theorem bq72 {H : Hp} {K : Value → Prop} {ps : List (Nat × Value)} : bldQ Tryd.prog 72 ps K H = withO (bfill [(0, 1), (1, 1)] [.int .i64 0, .string ⟨#[]⟩] ps) K := bldQ_e Tryd.underlying72 ty72 (by kernel_rfl)
theorem fa72_0 {H : Hp} {K : Value → Hp → Prop} {X : List PanicEntry → Hp → Prop} {b off : Nat} : fadA Tryd.prog 72 (.pointer (some ⟨b, off, none⟩)) 0 K X H = K (.pointer (some ⟨b, off, none⟩)) H := by rw [fadA_ok fld72_0, add_none]; rfl
theorem fq72_0 {H : Hp} {K : Value → Prop} {b off : Nat} : fadQ Tryd.prog 72 (.pointer (some ⟨b, off, none⟩)) 0 K H = K (.pointer (some ⟨b, off, none⟩)) := by rw [fadQ_ok fld72_0, add_none]; rfl
theorem fa72_1 {H : Hp} {K : Value → Hp → Prop} {X : List PanicEntry → Hp → Prop} {b off : Nat} : fadA Tryd.prog 72 (.pointer (some ⟨b, off, none⟩)) 1 K X H = K (.pointer (some ⟨b, off + 1, none⟩)) H := by rw [fadA_ok fld72_1, add_none]
theorem fq72_1 {H : Hp} {K : Value → Prop} {b off : Nat} : fadQ Tryd.prog 72 (.pointer (some ⟨b, off, none⟩)) 1 K H = K (.pointer (some ⟨b, off + 1, none⟩)) := by rw [fadQ_ok fld72_1, add_none]
theorem ld73 {H : Hp} {K : Value → Hp → Prop} {X : List PanicEntry → Hp → Prop} {a : Addr} : loadA Tryd.prog 73 (.pointer (some a)) K X H = withcs (cellsH H a 0 2) fun l => K (.agg l.toArray) H := loadA_n Tryd.underlying73 rfl ty73
theorem rc73 {H : Hp} {K : Value → Prop} {a : Addr} {l : List Value} (hc : cellsH H a 0 2 = some l) : rcA Tryd.prog 73 (.pointer (some a)) H K = K (.agg l.toArray) := rcA_n Tryd.underlying73 rfl ty73 hc
theorem bl73 {H : Hp} {K : Value → Hp → Prop} {X : List PanicEntry → Hp → Prop} {ps : List (Nat × Value)} : bldA Tryd.prog 73 ps K X H = withO (bfill [(0, 1), (1, 1)] [.int .i64 0, .string ⟨#[]⟩] ps) fun v => K v H := bldA_e Tryd.underlying73 ty73 (by kernel_rfl)
theorem bq73 {H : Hp} {K : Value → Prop} {ps : List (Nat × Value)} : bldQ Tryd.prog 73 ps K H = withO (bfill [(0, 1), (1, 1)] [.int .i64 0, .string ⟨#[]⟩] ps) K := bldQ_e Tryd.underlying73 ty73 (by kernel_rfl)
theorem fa73_0 {H : Hp} {K : Value → Hp → Prop} {X : List PanicEntry → Hp → Prop} {b off : Nat} : fadA Tryd.prog 73 (.pointer (some ⟨b, off, none⟩)) 0 K X H = K (.pointer (some ⟨b, off, none⟩)) H := by rw [fadA_ok fld73_0, add_none]; rfl
theorem fq73_0 {H : Hp} {K : Value → Prop} {b off : Nat} : fadQ Tryd.prog 73 (.pointer (some ⟨b, off, none⟩)) 0 K H = K (.pointer (some ⟨b, off, none⟩)) := by rw [fadQ_ok fld73_0, add_none]; rfl
theorem fa73_1 {H : Hp} {K : Value → Hp → Prop} {X : List PanicEntry → Hp → Prop} {b off : Nat} : fadA Tryd.prog 73 (.pointer (some ⟨b, off, none⟩)) 1 K X H = K (.pointer (some ⟨b, off + 1, none⟩)) H := by rw [fadA_ok fld73_1, add_none]
theorem fq73_1 {H : Hp} {K : Value → Prop} {b off : Nat} : fadQ Tryd.prog 73 (.pointer (some ⟨b, off, none⟩)) 1 K H = K (.pointer (some ⟨b, off + 1, none⟩)) := by rw [fadQ_ok fld73_1, add_none]
theorem ld74 {H : Hp} {K : Value → Hp → Prop} {X : List PanicEntry → Hp → Prop} {a : Addr} : loadA Tryd.prog 74 (.pointer (some a)) K X H = withc (cellH H a) fun v => K v H := loadA_1 Tryd.underlying74 rfl --74
theorem lq74 {H : Hp} {K : Value → Prop} {a : Addr} : loadQ Tryd.prog 74 (.pointer (some a)) K H = withc (cellH H a) K := loadQ_e Tryd.underlying74 rfl
theorem ld75 {H : Hp} {K : Value → Hp → Prop} {X : List PanicEntry → Hp → Prop} {a : Addr} : loadA Tryd.prog 75 (.pointer (some a)) K X H = withc (cellH H a) fun v => K v H := loadA_1 Tryd.underlying75 rfl --75
theorem lq75 {H : Hp} {K : Value → Prop} {a : Addr} : loadQ Tryd.prog 75 (.pointer (some a)) K H = withc (cellH H a) K := loadQ_e Tryd.underlying75 rfl
theorem ld76 {H : Hp} {K : Value → Hp → Prop} {X : List PanicEntry → Hp → Prop} {a : Addr} : loadA Tryd.prog 76 (.pointer (some a)) K X H = withcs (cellsH H a 0 3) fun l => K (.agg l.toArray) H := loadA_n Tryd.underlying76 rfl ty76
theorem rc76 {H : Hp} {K : Value → Prop} {a : Addr} {l : List Value} (hc : cellsH H a 0 3 = some l) : rcA Tryd.prog 76 (.pointer (some a)) H K = K (.agg l.toArray) := rcA_n Tryd.underlying76 rfl ty76 hc
theorem bl76 {H : Hp} {K : Value → Hp → Prop} {X : List PanicEntry → Hp → Prop} {ps : List (Nat × Value)} : bldA Tryd.prog 76 ps K X H = withO (bfill [(0, 1), (1, 1), (2, 1)] [.map none, .map none, .slice none 0 0] ps) fun v => K v H := bldA_e Tryd.underlying76 ty76 (by kernel_rfl)
theorem bq76 {H : Hp} {K : Value → Prop} {ps : List (Nat × Value)} : bldQ Tryd.prog 76 ps K H = withO (bfill [(0, 1), (1, 1), (2, 1)] [.map none, .map none, .slice none 0 0] ps) K := bldQ_e Tryd.underlying76 ty76 (by kernel_rfl)
theorem fa76_0 {H : Hp} {K : Value → Hp → Prop} {X : List PanicEntry → Hp → Prop} {b off : Nat} : fadA Tryd.prog 76 (.pointer (some ⟨b, off, none⟩)) 0 K X H = K (.pointer (some ⟨b, off, none⟩)) H := by rw [fadA_ok fld76_0, add_none]; rfl
theorem fq76_0 {H : Hp} {K : Value → Prop} {b off : Nat} : fadQ Tryd.prog 76 (.pointer (some ⟨b, off, none⟩)) 0 K H = K (.pointer (some ⟨b, off, none⟩)) := by rw [fadQ_ok fld76_0, add_none]; rfl
theorem fa76_1 {H : Hp} {K : Value → Hp → Prop} {X : List PanicEntry → Hp → Prop} {b off : Nat} : fadA Tryd.prog 76 (.pointer (some ⟨b, off, none⟩)) 1 K X H = K (.pointer (some ⟨b, off + 1, none⟩)) H := by rw [fadA_ok fld76_1, add_none]
theorem fq76_1 {H : Hp} {K : Value → Prop} {b off : Nat} : fadQ Tryd.prog 76 (.pointer (some ⟨b, off, none⟩)) 1 K H = K (.pointer (some ⟨b, off + 1, none⟩)) := by rw [fadQ_ok fld76_1, add_none]
theorem fa76_2 {H : Hp} {K : Value → Hp → Prop} {X : List PanicEntry → Hp → Prop} {b off : Nat} : fadA Tryd.prog 76 (.pointer (some ⟨b, off, none⟩)) 2 K X H = K (.pointer (some ⟨b, off + 2, none⟩)) H := by rw [fadA_ok fld76_2, add_none]
theorem fq76_2 {H : Hp} {K : Value → Prop} {b off : Nat} : fadQ Tryd.prog 76 (.pointer (some ⟨b, off, none⟩)) 2 K H = K (.pointer (some ⟨b, off + 2, none⟩)) := by rw [fadQ_ok fld76_2, add_none]
theorem ld77 {H : Hp} {K : Value → Hp → Prop} {X : List PanicEntry → Hp → Prop} {a : Addr} : loadA Tryd.prog 77 (.pointer (some a)) K X H = withcs (cellsH H a 0 3) fun l => K (.agg l.toArray) H := loadA_n Tryd.underlying77 rfl ty77
theorem rc77 {H : Hp} {K : Value → Prop} {a : Addr} {l : List Value} (hc : cellsH H a 0 3 = some l) : rcA Tryd.prog 77 (.pointer (some a)) H K = K (.agg l.toArray) := rcA_n Tryd.underlying77 rfl ty77 hc
theorem bl77 {H : Hp} {K : Value → Hp → Prop} {X : List PanicEntry → Hp → Prop} {ps : List (Nat × Value)} : bldA Tryd.prog 77 ps K X H = withO (bfill [(0, 1), (1, 1), (2, 1)] [.map none, .map none, .slice none 0 0] ps) fun v => K v H := bldA_e Tryd.underlying77 ty77 (by kernel_rfl)
theorem bq77 {H : Hp} {K : Value → Prop} {ps : List (Nat × Value)} : bldQ Tryd.prog 77 ps K H = withO (bfill [(0, 1), (1, 1), (2, 1)] [.map none, .map none, .slice none 0 0] ps) K := bldQ_e Tryd.underlying77 ty77 (by kernel_rfl)
theorem fa77_0 {H : Hp} {K : Value → Hp → Prop} {X : List PanicEntry → Hp → Prop} {b off : Nat} : fadA Tryd.prog 77 (.pointer (some ⟨b, off, none⟩)) 0 K X H = K (.pointer (some ⟨b, off, none⟩)) H := by rw [fadA_ok fld77_0, add_none]; rfl
theorem fq77_0 {H : Hp} {K : Value → Prop} {b off : Nat} : fadQ Tryd.prog 77 (.pointer (some ⟨b, off, none⟩)) 0 K H = K (.pointer (some ⟨b, off, none⟩)) := by rw [fadQ_ok fld77_0, add_none]; rfl
theorem fa77_1 {H : Hp} {K : Value → Hp → Prop} {X : List PanicEntry → Hp → Prop} {b off : Nat} : fadA Tryd.prog 77 (.pointer (some ⟨b, off, none⟩)) 1 K X H = K (.pointer (some ⟨b, off + 1, none⟩)) H := by rw [fadA_ok fld77_1, add_none]
theorem fq77_1 {H : Hp} {K : Value → Prop} {b off : Nat} : fadQ Tryd.prog 77 (.pointer (some ⟨b, off, none⟩)) 1 K H = K (.pointer (some ⟨b, off + 1, none⟩)) := by rw [fadQ_ok fld77_1, add_none]
theorem fa77_2 {H : Hp} {K : Value → Hp → Prop} {X : List PanicEntry → Hp → Prop} {b off : Nat} : fadA Tryd.prog 77 (.pointer (some ⟨b, off, none⟩)) 2 K X H = K (.pointer (some ⟨b, off + 2, none⟩)) H := by rw [fadA_ok fld77_2, add_none]
theorem fq77_2 {H : Hp} {K : Value → Prop} {b off : Nat} : fadQ Tryd.prog 77 (.pointer (some ⟨b, off, none⟩)) 2 K H = K (.pointer (some ⟨b, off + 2, none⟩)) := by rw [fadQ_ok fld77_2, add_none]
theorem ld78 {H : Hp} {K : Value → Hp → Prop} {X : List PanicEntry → Hp → Prop} {a : Addr} : loadA Tryd.prog 78 (.pointer (some a)) K X H = withcs (cellsH H a 0 2) fun l => K (.agg l.toArray) H := loadA_n Tryd.underlying78 rfl ty78
theorem rc78 {H : Hp} {K : Value → Prop} {a : Addr} {l : List Value} (hc : cellsH H a 0 2 = some l) : rcA Tryd.prog 78 (.pointer (some a)) H K = K (.agg l.toArray) := rcA_n Tryd.underlying78 rfl ty78 hc
theorem bl78 {H : Hp} {K : Value → Hp → Prop} {X : List PanicEntry → Hp → Prop} {ps : List (Nat × Value)} : bldA Tryd.prog 78 ps K X H = withO (bfill [(0, 1), (1, 1)] [.int .i64 0, .int .i64 0] ps) fun v => K v H := bldA_e Tryd.underlying78 ty78 (by kernel_rfl)
theorem bq78 {H : Hp} {K : Value → Prop} {ps : List (Nat × Value)} : bldQ Tryd.prog 78 ps K H = withO (bfill [(0, 1), (1, 1)] [.int .i64 0, .int .i64 0] ps) K := bldQ_e Tryd.underlying78 ty78 (by kernel_rfl)
theorem fa78_0 {H : Hp} {K : Value → Hp → Prop} {X : List PanicEntry → Hp → Prop} {b off : Nat} : fadA Tryd.prog 78 (.pointer (some ⟨b, off, none⟩)) 0 K X H = K (.pointer (some ⟨b, off, none⟩)) H := by rw [fadA_ok fld78_0, add_none]; rfl
theorem fq78_0 {H : Hp} {K : Value → Prop} {b off : Nat} : fadQ Tryd.prog 78 (.pointer (some ⟨b, off, none⟩)) 0 K H = K (.pointer (some ⟨b, off, none⟩)) := by rw [fadQ_ok fld78_0, add_none]; rfl
theorem fa78_1 {H : Hp} {K : Value → Hp → Prop} {X : List PanicEntry → Hp → Prop} {b off : Nat} : fadA Tryd.prog 78 (.pointer (some ⟨b, off, none⟩)) 1 K X H = K (.pointer (some ⟨b, off + 1, none⟩)) H := by rw [fadA_ok fld78_1, add_none]
theorem fq78_1 {H : Hp} {K : Value → Prop} {b off : Nat} : fadQ Tryd.prog 78 (.pointer (some ⟨b, off, none⟩)) 1 K H = K (.pointer (some ⟨b, off + 1, none⟩)) := by rw [fadQ_ok fld78_1, add_none]
theorem ld79 {H : Hp} {K : Value → Hp → Prop} {X : List PanicEntry → Hp → Prop} {a : Addr} : loadA Tryd.prog 79 (.pointer (some a)) K X H = withcs (cellsH H a 0 2) fun l => K (.agg l.toArray) H := loadA_n Tryd.underlying79 rfl ty79
theorem rc79 {H : Hp} {K : Value → Prop} {a : Addr} {l : List Value} (hc : cellsH H a 0 2 = some l) : rcA Tryd.prog 79 (.pointer (some a)) H K = K (.agg l.toArray) := rcA_n Tryd.underlying79 rfl ty79 hc
theorem bl79 {H : Hp} {K : Value → Hp → Prop} {X : List PanicEntry → Hp → Prop} {ps : List (Nat × Value)} : bldA Tryd.prog 79 ps K X H = withO (bfill [(0, 1), (1, 1)] [.int .i64 0, .int .i64 0] ps) fun v => K v H := bldA_e Tryd.underlying79 ty79 (by kernel_rfl)
theorem bq79 {H : Hp} {K : Value → Prop} {ps : List (Nat × Value)} : bldQ Tryd.prog 79 ps K H = withO (bfill [(0, 1), (1, 1)] [.int .i64 0, .int .i64 0] ps) K := bldQ_e Tryd.underlying79 ty79 (by kernel_rfl)
theorem fa79_0 {H : Hp} {K : Value → Hp → Prop} {X : List PanicEntry → Hp → Prop} {b off : Nat} : fadA Tryd.prog 79 (.pointer (some ⟨b, off, none⟩)) 0 K X H = K (.pointer (some ⟨b, off, none⟩)) H := by rw [fadA_ok fld79_0, add_none]; rfl
theorem fq79_0 {H : Hp} {K : Value → Prop} {b off : Nat} : fadQ Tryd.prog 79 (.pointer (some ⟨b, off, none⟩)) 0 K H = K (.pointer (some ⟨b, off, none⟩)) := by rw [fadQ_ok fld79_0, add_none]; rfl
theorem fa79_1 {H : Hp} {K : Value → Hp → Prop} {X : List PanicEntry → Hp → Prop} {b off : Nat} : fadA Tryd.prog 79 (.pointer (some ⟨b, off, none⟩)) 1 K X H = K (.pointer (some ⟨b, off + 1, none⟩)) H := by rw [fadA_ok fld79_1, add_none]
theorem fq79_1 {H : Hp} {K : Value → Prop} {b off : Nat} : fadQ Tryd.prog 79 (.pointer (some ⟨b, off, none⟩)) 1 K H = K (.pointer (some ⟨b, off + 1, none⟩)) := by rw [fadQ_ok fld79_1, add_none]
theorem ld80 {H : Hp} {K : Value → Hp → Prop} {X : List PanicEntry → Hp → Prop} {a : Addr} : loadA Tryd.prog 80 (.pointer (some a)) K X H = withc (cellH H a) fun v => K v H := loadA_1 Tryd.underlying80 rfl --80
theorem lq80 {H : Hp} {K : Value → Prop} {a : Addr} : loadQ Tryd.prog 80 (.pointer (some a)) K H = withc (cellH H a) K := loadQ_e Tryd.underlying80 rfl
theorem ld81 {H : Hp} {K : Value → Hp → Prop} {X : List PanicEntry → Hp → Prop} {a : Addr} : loadA Tryd.prog 81 (.pointer (some a)) K X H = withcs (cellsH H a 0 3) fun l => K (.agg l.toArray) H := loadA_n Tryd.underlying81 rfl ty81
theorem rc81 {H : Hp} {K : Value → Prop} {a : Addr} {l : List Value} (hc : cellsH H a 0 3 = some l) : rcA Tryd.prog 81 (.pointer (some a)) H K = K (.agg l.toArray) := rcA_n Tryd.underlying81 rfl ty81 hc
theorem bl81 {H : Hp} {K : Value → Hp → Prop} {X : List PanicEntry → Hp → Prop} {ps : List (Nat × Value)} : bldA Tryd.prog 81 ps K X H = withO (bfill [(0, 1), (1, 1), (2, 1)] [.slice none 0 0, .string ⟨#[]⟩, .bool false] ps) fun v => K v H := bldA_e Tryd.underlying81 ty81 (by kernel_rfl)
theorem bq81 {H : Hp} {K : Value → Prop} {ps : List (Nat × Value)} : bldQ Tryd.prog 81 ps K H = withO (bfill [(0, 1), (1, 1), (2, 1)] [.slice none 0 0, .string ⟨#[]⟩, .bool false] ps) K := bldQ_e Tryd.underlying81 ty81 (by kernel_rfl)
theorem fa81_0 {H : Hp} {K : Value → Hp → Prop} {X : List PanicEntry → Hp → Prop} {b off : Nat} : fadA Tryd.prog 81 (.pointer (some ⟨b, off, none⟩)) 0 K X H = K (.pointer (some ⟨b, off, none⟩)) H := by rw [fadA_ok fld81_0, add_none]; rfl
theorem fq81_0 {H : Hp} {K : Value → Prop} {b off : Nat} : fadQ Tryd.prog 81 (.pointer (some ⟨b, off, none⟩)) 0 K H = K (.pointer (some ⟨b, off, none⟩)) := by rw [fadQ_ok fld81_0, add_none]; rfl
theorem fa81_1 {H : Hp} {K : Value → Hp → Prop} {X : List PanicEntry → Hp → Prop} {b off : Nat} : fadA Tryd.prog 81 (.pointer (some ⟨b, off, none⟩)) 1 K X H = K (.pointer (some ⟨b, off + 1, none⟩)) H := by rw [fadA_ok fld81_1, add_none]
theorem fq81_1 {H : Hp} {K : Value → Prop} {b off : Nat} : fadQ Tryd.prog 81 (.pointer (some ⟨b, off, none⟩)) 1 K H = K (.pointer (some ⟨b, off + 1, none⟩)) := by rw [fadQ_ok fld81_1, add_none]
theorem fa81_2 {H : Hp} {K : Value → Hp → Prop} {X : List PanicEntry → Hp → Prop} {b off : Nat} : fadA Tryd.prog 81 (.pointer (some ⟨b, off, none⟩)) 2 K X H = K (.pointer (some ⟨b, off + 2, none⟩)) H := by rw [fadA_ok fld81_2, add_none]
theorem fq81_2 {H : Hp} {K : Value → Prop} {b off : Nat} : fadQ Tryd.prog 81 (.pointer (some ⟨b, off, none⟩)) 2 K H = K (.pointer (some ⟨b, off + 2, none⟩)) := by rw [fadQ_ok fld81_2, add_none]
theorem ld82 {H : Hp} {K : Value → Hp → Prop} {X : List PanicEntry → Hp → Prop} {a : Addr} : loadA Tryd.prog 82 (.pointer (some a)) K X H = withcs (cellsH H a 0 3) fun l => K (.agg l.toArray) H := loadA_n Tryd.underlying82 rfl ty82
theorem rc82 {H : Hp} {K : Value → Prop} {a : Addr} {l : List Value} (hc : cellsH H a 0 3 = some l) : rcA Tryd.prog 82 (.pointer (some a)) H K = K (.agg l.toArray) := rcA_n Tryd.underlying82 rfl ty82 hc
theorem bl82 {H : Hp} {K : Value → Hp → Prop} {X : List PanicEntry → Hp → Prop} {ps : List (Nat × Value)} : bldA Tryd.prog 82 ps K X H = withO (bfill [(0, 1), (1, 1), (2, 1)] [.slice none 0 0, .string ⟨#[]⟩, .bool false] ps) fun v => K v H := bldA_e Tryd.underlying82 ty82 (by kernel_rfl)
theorem bq82 {H : Hp} {K : Value → Prop} {ps : List (Nat × Value)} : bldQ Tryd.prog 82 ps K H = withO (bfill [(0, 1), (1, 1), (2, 1)] [.slice none 0 0, .string ⟨#[]⟩, .bool false] ps) K := bldQ_e Tryd.underlying82 ty82 (by kernel_rfl)
theorem fa82_0 {H : Hp} {K : Value → Hp → Prop} {X : List PanicEntry → Hp → Prop} {b off : Nat} : fadA Tryd.prog 82 (.pointer (some ⟨b, off, none⟩)) 0 K X H = K (.pointer (some ⟨b, off, none⟩)) H := by rw [fadA_ok fld82_0, add_none]; rfl
theorem fq82_0 {H : Hp} {K : Value → Prop} {b off : Nat} : fadQ Tryd.prog 82 (.pointer (some ⟨b, off, none⟩)) 0 K H = K (.pointer (some ⟨b, off, none⟩)) := by rw [fadQ_ok fld82_0, add_none]; rfl
theorem fa82_1 {H : Hp} {K : Value → Hp → Prop} {X : List PanicEntry → Hp → Prop} {b off : Nat} : fadA Tryd.prog 82 (.pointer (some ⟨b, off, none⟩)) 1 K X H = K (.pointer (some ⟨b, off + 1, none⟩)) H := by rw [fadA_ok fld82_1, add_none]
theorem fq82_1 {H : Hp} {K : Value → Prop} {b off : Nat} : fadQ Tryd.prog 82 (.pointer (some ⟨b, off, none⟩)) 1 K H = K (.pointer (some ⟨b, off + 1, none⟩)) := by rw [fadQ_ok fld82_1, add_none]
theorem fa82_2 {H : Hp} {K : Value → Hp → Prop} {X : List PanicEntry → Hp → Prop} {b off : Nat} : fadA Tryd.prog 82 (.pointer (some ⟨b, off, none⟩)) 2 K X H = K (.pointer (some ⟨b, off + 2, none⟩)) H := by rw [fadA_ok fld82_2, add_none]
theorem fq82_2 {H : Hp} {K : Value → Prop} {b off : Nat} : fadQ Tryd.prog 82 (.pointer (some ⟨b, off, none⟩)) 2 K H = K (.pointer (some ⟨b, off + 2, none⟩)) := by rw [fadQ_ok fld82_2, add_none]
theorem ld83 {H : Hp} {K : Value → Hp → Prop} {X : List PanicEntry → Hp → Prop} {a : Addr} : loadA Tryd.prog 83 (.pointer (some a)) K X H = withc (cellH H a) fun v => K v H := loadA_1 Tryd.underlying83 rfl --83
theorem lq83 {H : Hp} {K : Value → Prop} {a : Addr} : loadQ Tryd.prog 83 (.pointer (some a)) K H = withc (cellH H a) K := loadQ_e Tryd.underlying83 rfl
theorem ld84 {H : Hp} {K : Value → Hp → Prop} {X : List PanicEntry → Hp → Prop} {a : Addr} : loadA Tryd.prog 84 (.pointer (some a)) K X H = withc (cellH H a) fun v => K v H := loadA_1 Tryd.underlying84 rfl --84
theorem lq84 {H : Hp} {K : Value → Prop} {a : Addr} : loadQ Tryd.prog 84 (.pointer (some a)) K H = withc (cellH H a) K := loadQ_e Tryd.underlying84 rfl
theorem ld86 {H : Hp} {K : Value → Hp → Prop} {X : List PanicEntry → Hp → Prop} {a : Addr} : loadA Tryd.prog 86 (.pointer (some a)) K X H = withc (cellH H a) fun v => K v H := loadA_1 Tryd.underlying86 rfl --86
theorem lq86 {H : Hp} {K : Value → Prop} {a : Addr} : loadQ Tryd.prog 86 (.pointer (some a)) K H = withc (cellH H a) K := loadQ_e Tryd.underlying86 rfl
theorem ld87 {H : Hp} {K : Value → Hp → Prop} {X : List PanicEntry → Hp → Prop} {a : Addr} : loadA Tryd.prog 87 (.pointer (some a)) K X H = withc (cellH H a) fun v => K v H := loadA_1 Tryd.underlying87 rfl --87
theorem lq87 {H : Hp} {K : Value → Prop} {a : Addr} : loadQ Tryd.prog 87 (.pointer (some a)) K H = withc (cellH H a) K := loadQ_e Tryd.underlying87 rfl
theorem ld88 {H : Hp} {K : Value → Hp → Prop} {X : List PanicEntry → Hp → Prop} {a : Addr} : loadA Tryd.prog 88 (.pointer (some a)) K X H = withc (cellH H a) fun v => K v H := loadA_1 Tryd.underlying88 rfl --88
theorem lq88 {H : Hp} {K : Value → Prop} {a : Addr} : loadQ Tryd.prog 88 (.pointer (some a)) K H = withc (cellH H a) K := loadQ_e Tryd.underlying88 rfl
theorem ld89 {H : Hp} {K : Value → Hp → Prop} {X : List PanicEntry → Hp → Prop} {a : Addr} : loadA Tryd.prog 89 (.pointer (some a)) K X H = withcs (cellsH H a 0 256) fun l => K (.agg l.toArray) H := loadA_n Tryd.underlying89 rfl ty89
theorem rc89 {H : Hp} {K : Value → Prop} {a : Addr} {l : List Value} (hc : cellsH H a 0 256 = some l) : rcA Tryd.prog 89 (.pointer (some a)) H K = K (.agg l.toArray) := rcA_n Tryd.underlying89 rfl ty89 hc
theorem ld90 {H : Hp} {K : Value → Hp → Prop} {X : List PanicEntry → Hp → Prop} {a : Addr} : loadA Tryd.prog 90 (.pointer (some a)) K X H = withcs (cellsH H a 0 256) fun l => K (.agg l.toArray) H := loadA_n Tryd.underlying90 rfl ty90
theorem rc90 {H : Hp} {K : Value → Prop} {a : Addr} {l : List Value} (hc : cellsH H a 0 256 = some l) : rcA Tryd.prog 90 (.pointer (some a)) H K = K (.agg l.toArray) := rcA_n Tryd.underlying90 rfl ty90 hc
theorem ld92 {H : Hp} {K : Value → Hp → Prop} {X : List PanicEntry → Hp → Prop} {a : Addr} : loadA Tryd.prog 92 (.pointer (some a)) K X H = withc (cellH H a) fun v => K v H := loadA_1 Tryd.underlying92 rfl --92
theorem lq92 {H : Hp} {K : Value → Prop} {a : Addr} : loadQ Tryd.prog 92 (.pointer (some a)) K H = withc (cellH H a) K := loadQ_e Tryd.underlying92 rfl
theorem ld93 {H : Hp} {K : Value → Hp → Prop} {X : List PanicEntry → Hp → Prop} {a : Addr} : loadA Tryd.prog 93 (.pointer (some a)) K X H = withc (cellH H a) fun v => K v H := loadA_1 Tryd.underlying93 rfl --93
theorem lq93 {H : Hp} {K : Value → Prop} {a : Addr} : loadQ Tryd.prog 93 (.pointer (some a)) K H = withc (cellH H a) K := loadQ_e Tryd.underlying93 rfl
theorem ld94 {H : Hp} {K : Value → Hp → Prop} {X : List PanicEntry → Hp → Prop} {a : Addr} : loadA Tryd.prog 94 (.pointer (some a)) K X H = withc (cellH H a) fun v => K v H := loadA_1 Tryd.underlying94 rfl --94
theorem lq94 {H : Hp} {K : Value → Prop} {a : Addr} : loadQ Tryd.prog 94 (.pointer (some a)) K H = withc (cellH H a) K := loadQ_e Tryd.underlying94 rfl
theorem ld95 {H : Hp} {K : Value → Hp → Prop} {X : List PanicEntry → Hp → Prop} {a : Addr} : loadA Tryd.prog 95 (.pointer (some a)) K X H = withc (cellH H a) fun v => K v H := loadA_1 Tryd.underlying95 rfl --95
theorem lq95 {H : Hp} {K : Value → Prop} {a : Addr} : loadQ Tryd.prog 95 (.pointer (some a)) K H = withc (cellH H a) K := loadQ_e Tryd.underlying95 rfl
theorem ld96 {H : Hp} {K : Value → Hp → Prop} {X : List PanicEntry → Hp → Prop} {a : Addr} : loadA Tryd.prog 96 (.pointer (some a)) K X H = withc (cellH H a) fun v => K v H := loadA_1 Tryd.underlying96 rfl --96
theorem lq96 {H : Hp} {K : Value → Prop} {a : Addr} : loadQ Tryd.prog 96 (.pointer (some a)) K H = withc (cellH H a) K := loadQ_e Tryd.underlying96 rfl
theorem ld97 {H : Hp} {K : Value → Hp → Prop} {X : List PanicEntry → Hp → Prop} {a : Addr} : loadA Tryd.prog 97 (.pointer (some a)) K X H = withc (cellH H a) fun v => K v H := loadA_1 Tryd.underlying97 rfl --97
theorem lq97 {H : Hp} {K : Value → Prop} {a : Addr} : loadQ Tryd.prog 97 (.pointer (some a)) K H = withc (cellH H a) K := loadQ_e Tryd.underlying97 rfl
theorem ld99 {H : Hp} {K : Value → Hp → Prop} {X : List PanicEntry → Hp → Prop} {a : Addr} : loadA Tryd.prog 99 (.pointer (some a)) K X H = withc (cellH H a) fun v => K v H := loadA_1 Tryd.underlying99 rfl --99
theorem lq99 {H : Hp} {K : Value → Prop} {a : Addr} : loadQ Tryd.prog 99 (.pointer (some a)) K H = withc (cellH H a) K := loadQ_e Tryd.underlying99 rfl
theorem ld100 {H : Hp} {K : Value → Hp → Prop} {X : List PanicEntry → Hp → Prop} {a : Addr} : loadA Tryd.prog 100 (.pointer (some a)) K X H = withc (cellH H a) fun v => K v H := loadA_1 Tryd.underlying100 rfl --100
theorem lq100 {H : Hp} {K : Value → Prop} {a : Addr} : loadQ Tryd.prog 100 (.pointer (some a)) K H = withc (cellH H a) K := loadQ_e Tryd.underlying100 rfl
theorem ld101 {H : Hp} {K : Value → Hp → Prop} {X : List PanicEntry → Hp → Prop} {a : Addr} : loadA Tryd.prog 101 (.pointer (some a)) K X H = withc (cellH H a) fun v => K v H := loadA_1 Tryd.underlying101 rfl --101
theorem lq101 {H : Hp} {K : Value → Prop} {a : Addr} : loadQ Tryd.prog 101 (.pointer (some a)) K H = withc (cellH H a) K := loadQ_e Tryd.underlying101 rfl
theorem ld103 {H : Hp} {K : Value → Hp → Prop} {X : List PanicEntry → Hp → Prop} {a : Addr} : loadA Tryd.prog 103 (.pointer (some a)) K X H = withc (cellH H a) fun v => K v H := loadA_1 Tryd.underlying103 rfl --103
theorem lq103 {H : Hp} {K : Value → Prop} {a : Addr} : loadQ Tryd.prog 103 (.pointer (some a)) K H = withc (cellH H a) K := loadQ_e Tryd.underlying103 rfl
theorem ld104 {H : Hp} {K : Value → Hp → Prop} {X : List PanicEntry → Hp → Prop} {a : Addr} : loadA Tryd.prog 104 (.pointer (some a)) K X H = withc (cellH H a) fun v => K v H := loadA_1 Tryd.underlying104 rfl --104
theorem lq104 {H : Hp} {K : Value → Prop} {a : Addr} : loadQ Tryd.prog 104 (.pointer (some a)) K H = withc (cellH H a) K := loadQ_e Tryd.underlying104 rfl
theorem ld106 {H : Hp} {K : Value → Hp → Prop} {X : List PanicEntry → Hp → Prop} {a : Addr} : loadA Tryd.prog 106 (.pointer (some a)) K X H = withc (cellH H a) fun v => K v H := loadA_1 Tryd.underlying106 rfl --106
theorem lq106 {H : Hp} {K : Value → Prop} {a : Addr} : loadQ Tryd.prog 106 (.pointer (some a)) K H = withc (cellH H a) K := loadQ_e Tryd.underlying106 rfl
theorem ld107 {H : Hp} {K : Value → Hp → Prop} {X : List PanicEntry → Hp → Prop} {a : Addr} : loadA Tryd.prog 107 (.pointer (some a)) K X H = withc (cellH H a) fun v => K v H := loadA_1 Tryd.underlying107 rfl --107
theorem lq107 {H : Hp} {K : Value → Prop} {a : Addr} : loadQ Tryd.prog 107 (.pointer (some a)) K H = withc (cellH H a) K := loadQ_e Tryd.underlying107 rfl
theorem ld109 {H : Hp} {K : Value → Hp → Prop} {X : List PanicEntry → Hp → Prop} {a : Addr} : loadA Tryd.prog 109 (.pointer (some a)) K X H = withc (cellH H a) fun v => K v H := loadA_1 Tryd.underlying109 rfl --109
theorem lq109 {H : Hp} {K : Value → Prop} {a : Addr} : loadQ Tryd.prog 109 (.pointer (some a)) K H = withc (cellH H a) K := loadQ_e Tryd.underlying109 rfl
theorem ld110 {H : Hp} {K : Value → Hp → Prop} {X : List PanicEntry → Hp → Prop} {a : Addr} : loadA Tryd.prog 110 (.pointer (some a)) K X H = withc (cellH H a) fun v => K v H := loadA_1 Tryd.underlying110 rfl --110
theorem lq110 {H : Hp} {K : Value → Prop} {a : Addr} : loadQ Tryd.prog 110 (.pointer (some a)) K H = withc (cellH H a) K := loadQ_e Tryd.underlying110 rfl
theorem ld111 {H : Hp} {K : Value → Hp → Prop} {X : List PanicEntry → Hp → Prop} {a : Addr} : loadA Tryd.prog 111 (.pointer (some a)) K X H = withc (cellH H a) fun v => K v H := loadA_1 Tryd.underlying111 rfl --111
theorem lq111 {H : Hp} {K : Value → Prop} {a : Addr} : loadQ Tryd.prog 111 (.pointer (some a)) K H = withc (cellH H a) K := loadQ_e Tryd.underlying111 rfl
theorem ld112 {H : Hp} {K : Value → Hp → Prop} {X : List PanicEntry → Hp → Prop} {a : Addr} : loadA Tryd.prog 112 (.pointer (some a)) K X H = withc (cellH H a) fun v => K v H := loadA_1 Tryd.underlying112 rfl --112
theorem lq112 {H : Hp} {K : Value → Prop} {a : Addr} : loadQ Tryd.prog 112 (.pointer (some a)) K H = withc (cellH H a) K := loadQ_e Tryd.underlying112 rfl
theorem ld113 {H : Hp} {K : Value → Hp → Prop} {X : List PanicEntry → Hp → Prop} {a : Addr} : loadA Tryd.prog 113 (.pointer (some a)) K X H = withc (cellH H a) fun v => K v H := loadA_1 Tryd.underlying113 rfl --113
theorem lq113 {H : Hp} {K : Value → Prop} {a : Addr} : loadQ Tryd.prog 113 (.pointer (some a)) K H = withc (cellH H a) K := loadQ_e Tryd.underlying113 rfl
theorem ld114 {H : Hp} {K : Value → Hp → Prop} {X : List PanicEntry → Hp → Prop} {a : Addr} : loadA Tryd.prog 114 (.pointer (some a)) K X H = withc (cellH H a) fun v => K v H := loadA_1 Tryd.underlying114 rfl --114
theorem lq114 {H : Hp} {K : Value → Prop} {a : Addr} : loadQ Tryd.prog 114 (.pointer (some a)) K H = withc (cellH H a) K := loadQ_e Tryd.underlying114 rfl
theorem ld115 {H : Hp} {K : Value → Hp → Prop} {X : List PanicEntry → Hp → Prop} {a : Addr} : loadA Tryd.prog 115 (.pointer (some a)) K X H = withc (cellH H a) fun v => K v H := loadA_1 Tryd.underlying115 rfl --115
theorem lq115 {H : Hp} {K : Value → Prop} {a : Addr} : loadQ Tryd.prog 115 (.pointer (some a)) K H = withc (cellH H a) K := loadQ_e Tryd.underlying115 rfl
theorem ld116 {H : Hp} {K : Value → Hp → Prop} {X : List PanicEntry → Hp → Prop} {a : Addr} : loadA Tryd.prog 116 (.pointer (some a)) K X H = withc (cellH H a) fun v => K v H := loadA_1 Tryd.underlying116 rfl --116
theorem lq116 {H : Hp} {K : Value → Prop} {a : Addr} : loadQ Tryd.prog 116 (.pointer (some a)) K H = withc (cellH H a) K := loadQ_e Tryd.underlying116 rfl
theorem ld117 {H : Hp} {K : Value → Hp → Prop} {X : List PanicEntry → Hp → Prop} {a : Addr} : loadA Tryd.prog 117 (.pointer (some a)) K X H = withc (cellH H a) fun v => K v H := loadA_1 Tryd.underlying117 rfl --117
theorem lq117 {H : Hp} {K : Value → Prop} {a : Addr} : loadQ Tryd.prog 117 (.pointer (some a)) K H = withc (cellH H a) K := loadQ_e Tryd.underlying117 rfl
theorem ld118 {H : Hp} {K : Value → Hp → Prop} {X : List PanicEntry → Hp → Prop} {a : Addr} : loadA Tryd.prog 118 (.pointer (some a)) K X H = withc (cellH H a) fun v => K v H := loadA_1 Tryd.underlying118 rfl --118
theorem lq118 {H : Hp} {K : Value → Prop} {a : Addr} : loadQ Tryd.prog 118 (.pointer (some a)) K H = withc (cellH H a) K := loadQ_e Tryd.underlying118 rfl
theorem ld119 {H : Hp} {K : Value → Hp → Prop} {X : List PanicEntry → Hp → Prop} {a : Addr} : loadA Tryd.prog 119 (.pointer (some a)) K X H = withc (cellH H a) fun v => K v H := loadA_1 Tryd.underlying119 rfl --119
theorem lq119 {H : Hp} {K : Value → Prop} {a : Addr} : loadQ Tryd.prog 119 (.pointer (some a)) K H = withc (cellH H a) K := loadQ_e Tryd.underlying119 rfl
theorem ld120 {H : Hp} {K : Value → Hp → Prop} {X : List PanicEntry → Hp → Prop} {a : Addr} : loadA Tryd.prog 120 (.pointer (some a)) K X H = withc (cellH H a) fun v => K v H := loadA_1 Tryd.underlying120 rfl --120
theorem lq120 {H : Hp} {K : Value → Prop} {a : Addr} : loadQ Tryd.prog 120 (.pointer (some a)) K H = withc (cellH H a) K := loadQ_e Tryd.underlying120 rfl
theorem ld121 {H : Hp} {K : Value → Hp → Prop} {X : List PanicEntry → Hp → Prop} {a : Addr} : loadA Tryd.prog 121 (.pointer (some a)) K X H = withc (cellH H a) fun v => K v H := loadA_1 Tryd.underlying121 rfl --121
theorem lq121 {H : Hp} {K : Value → Prop} {a : Addr} : loadQ Tryd.prog 121 (.pointer (some a)) K H = withc (cellH H a) K := loadQ_e Tryd.underlying121 rfl
theorem ld122 {H : Hp} {K : Value → Hp → Prop} {X : List PanicEntry → Hp → Prop} {a : Addr} : loadA Tryd.prog 122 (.pointer (some a)) K X H = withc (cellH H a) fun v => K v H := loadA_1 Tryd.underlying122 rfl --122
theorem lq122 {H : Hp} {K : Value → Prop} {a : Addr} : loadQ Tryd.prog 122 (.pointer (some a)) K H = withc (cellH H a) K := loadQ_e Tryd.underlying122 rfl
theorem ld123 {H : Hp} {K : Value → Hp → Prop} {X : List PanicEntry → Hp → Prop} {a : Addr} : loadA Tryd.prog 123 (.pointer (some a)) K X H = withc (cellH H a) fun v => K v H := loadA_1 Tryd.underlying123 rfl --123
theorem lq123 {H : Hp} {K : Value → Prop} {a : Addr} : loadQ Tryd.prog 123 (.pointer (some a)) K H = withc (cellH H a) K := loadQ_e Tryd.underlying123 rfl
theorem ld124 {H : Hp} {K : Value → Hp → Prop} {X : List PanicEntry → Hp → Prop} {a : Addr} : loadA Tryd.prog 124 (.pointer (some a)) K X H = withc (cellH H a) fun v => K v H := loadA_1 Tryd.underlying124 rfl --124
theorem lq124 {H : Hp} {K : Value → Prop} {a : Addr} : loadQ Tryd.prog 124 (.pointer (some a)) K H = withc (cellH H a) K := loadQ_e Tryd.underlying124 rfl
theorem ld126 {H : Hp} {K : Value → Hp → Prop} {X : List PanicEntry → Hp → Prop} {a : Addr} : loadA Tryd.prog 126 (.pointer (some a)) K X H = withc (cellH H a) fun v => K v H := loadA_1 Tryd.underlying126 rfl --126
theorem lq126 {H : Hp} {K : Value → Prop} {a : Addr} : loadQ Tryd.prog 126 (.pointer (some a)) K H = withc (cellH H a) K := loadQ_e Tryd.underlying126 rfl
theorem ld127 {H : Hp} {K : Value → Hp → Prop} {X : List PanicEntry → Hp → Prop} {a : Addr} : loadA Tryd.prog 127 (.pointer (some a)) K X H = withc (cellH H a) fun v => K v H := loadA_1 Tryd.underlying127 rfl --127
theorem lq127 {H : Hp} {K : Value → Prop} {a : Addr} : loadQ Tryd.prog 127 (.pointer (some a)) K H = withc (cellH H a) K := loadQ_e Tryd.underlying127 rfl
theorem ld128 {H : Hp} {K : Value → Hp → Prop} {X : List PanicEntry → Hp → Prop} {a : Addr} : loadA Tryd.prog 128 (.pointer (some a)) K X H = withc (cellH H a) fun v => K v H := loadA_1 Tryd.underlying128 rfl --128
theorem lq128 {H : Hp} {K : Value → Prop} {a : Addr} : loadQ Tryd.prog 128 (.pointer (some a)) K H = withc (cellH H a) K := loadQ_e Tryd.underlying128 rfl
theorem ld129 {H : Hp} {K : Value → Hp → Prop} {X : List PanicEntry → Hp → Prop} {a : Addr} : loadA Tryd.prog 129 (.pointer (some a)) K X H = withcs (cellsH H a 0 256) fun l => K (.agg l.toArray) H := loadA_n Tryd.underlying129 rfl ty129
theorem rc129 {H : Hp} {K : Value → Prop} {a : Addr} {l : List Value} (hc : cellsH H a 0 256 = some l) : rcA Tryd.prog 129 (.pointer (some a)) H K = K (.agg l.toArray) := rcA_n Tryd.underlying129 rfl ty129 hc
theorem ld130 {H : Hp} {K : Value → Hp → Prop} {X : List PanicEntry → Hp → Prop} {a : Addr} : loadA Tryd.prog 130 (.pointer (some a)) K X H = withcs (cellsH H a 0 2) fun l => K (.agg l.toArray) H := loadA_n Tryd.underlying130 rfl ty130
theorem rc130 {H : Hp} {K : Value → Prop} {a : Addr} {l : List Value} (hc : cellsH H a 0 2 = some l) : rcA Tryd.prog 130 (.pointer (some a)) H K = K (.agg l.toArray) := rcA_n Tryd.underlying130 rfl ty130 hc
theorem bl130 {H : Hp} {K : Value → Hp → Prop} {X : List PanicEntry → Hp → Prop} {ps : List (Nat × Value)} : bldA Tryd.prog 130 ps K X H = withO (bfill [(0, 1), (1, 1)] [.int .u8 0, .int .u8 0] ps) fun v => K v H := bldA_e Tryd.underlying130 ty130 (by kernel_rfl)
theorem bq130 {H : Hp} {K : Value → Prop} {ps : List (Nat × Value)} : bldQ Tryd.prog 130 ps K H = withO (bfill [(0, 1), (1, 1)] [.int .u8 0, .int .u8 0] ps) K := bldQ_e Tryd.underlying130 ty130 (by kernel_rfl)
theorem fa130_0 {H : Hp} {K : Value → Hp → Prop} {X : List PanicEntry → Hp → Prop} {b off : Nat} : fadA Tryd.prog 130 (.pointer (some ⟨b, off, none⟩)) 0 K X H = K (.pointer (some ⟨b, off, none⟩)) H := by rw [fadA_ok fld130_0, add_none]; rfl
theorem fq130_0 {H : Hp} {K : Value → Prop} {b off : Nat} : fadQ Tryd.prog 130 (.pointer (some ⟨b, off, none⟩)) 0 K H = K (.pointer (some ⟨b, off, none⟩)) := by rw [fadQ_ok fld130_0, add_none]; rfl
theorem fa130_1 {H : Hp} {K : Value → Hp → Prop} {X : List PanicEntry → Hp → Prop} {b off : Nat} : fadA Tryd.prog 130 (.pointer (some ⟨b, off, none⟩)) 1 K X H = K (.pointer (some ⟨b, off + 1, none⟩)) H := by rw [fadA_ok fld130_1, add_none]
theorem fq130_1 {H : Hp} {K : Value → Prop} {b off : Nat} : fadQ Tryd.prog 130 (.pointer (some ⟨b, off, none⟩)) 1 K H = K (.pointer (some ⟨b, off + 1, none⟩)) := by rw [fadQ_ok fld130_1, add_none]
theorem ld131 {H : Hp} {K : Value → Hp → Prop} {X : List PanicEntry → Hp → Prop} {a : Addr} : loadA Tryd.prog 131 (.pointer (some a)) K X H = withcs (cellsH H a 0 2) fun l => K (.agg l.toArray) H := loadA_n Tryd.underlying131 rfl ty131
theorem rc131 {H : Hp} {K : Value → Prop} {a : Addr} {l : List Value} (hc : cellsH H a 0 2 = some l) : rcA Tryd.prog 131 (.pointer (some a)) H K = K (.agg l.toArray) := rcA_n Tryd.underlying131 rfl ty131 hc
theorem bl131 {H : Hp} {K : Value → Hp → Prop} {X : List PanicEntry → Hp → Prop} {ps : List (Nat × Value)} : bldA Tryd.prog 131 ps K X H = withO (bfill [(0, 1), (1, 1)] [.int .u8 0, .int .u8 0] ps) fun v => K v H := bldA_e Tryd.underlying131 ty131 (by kernel_rfl)
theorem bq131 {H : Hp} {K : Value → Prop} {ps : List (Nat × Value)} : bldQ Tryd.prog 131 ps K H = withO (bfill [(0, 1), (1, 1)] [.int .u8 0, .int .u8 0] ps) K := bldQ_e Tryd.underlying131 ty131 (by kernel_rfl)
theorem fa131_0 {H : Hp} {K : Value → Hp → Prop} {X : List PanicEntry → Hp → Prop} {b off : Nat} : fadA Tryd.prog 131 (.pointer (some ⟨b, off, none⟩)) 0 K X H = K (.pointer (some ⟨b, off, none⟩)) H := by rw [fadA_ok fld131_0, add_none]; rfl
theorem fq131_0 {H : Hp} {K : Value → Prop} {b off : Nat} : fadQ Tryd.prog 131 (.pointer (some ⟨b, off, none⟩)) 0 K H = K (.pointer (some ⟨b, off, none⟩)) := by rw [fadQ_ok fld131_0, add_none]; rfl
theorem fa131_1 {H : Hp} {K : Value → Hp → Prop} {X : List PanicEntry → Hp → Prop} {b off : Nat} : fadA Tryd.prog 131 (.pointer (some ⟨b, off, none⟩)) 1 K X H = K (.pointer (some ⟨b, off + 1, none⟩)) H := by rw [fadA_ok fld131_1, add_none]
theorem fq131_1 {H : Hp} {K : Value → Prop} {b off : Nat} : fadQ Tryd.prog 131 (.pointer (some ⟨b, off, none⟩)) 1 K H = K (.pointer (some ⟨b, off + 1, none⟩)) := by rw [fadQ_ok fld131_1, add_none]
theorem ld132 {H : Hp} {K : Value → Hp → Prop} {X : List PanicEntry → Hp → Prop} {a : Addr} : loadA Tryd.prog 132 (.pointer (some a)) K X H = withcs (cellsH H a 0 32) fun l => K (.agg l.toArray) H := loadA_n Tryd.underlying132 rfl ty132
theorem rc132 {H : Hp} {K : Value → Prop} {a : Addr} {l : List Value} (hc : cellsH H a 0 32 = some l) : rcA Tryd.prog 132 (.pointer (some a)) H K = K (.agg l.toArray) := rcA_n Tryd.underlying132 rfl ty132 hc
theorem ld133 {H : Hp} {K : Value → Hp → Prop} {X : List PanicEntry → Hp → Prop} {a : Addr} : loadA Tryd.prog 133 (.pointer (some a)) K X H = withc (cellH H a) fun v => K v H := loadA_1 Tryd.underlying133 rfl --133
theorem lq133 {H : Hp} {K : Value → Prop} {a : Addr} : loadQ Tryd.prog 133 (.pointer (some a)) K H = withc (cellH H a) K := loadQ_e Tryd.underlying133 rfl
theorem ld135 {H : Hp} {K : Value → Hp → Prop} {X : List PanicEntry → Hp → Prop} {a : Addr} : loadA Tryd.prog 135 (.pointer (some a)) K X H = withc (cellH H a) fun v => K v H := loadA_1 Tryd.underlying135 rfl --135
theorem lq135 {H : Hp} {K : Value → Prop} {a : Addr} : loadQ Tryd.prog 135 (.pointer (some a)) K H = withc (cellH H a) K := loadQ_e Tryd.underlying135 rfl
theorem ld136 {H : Hp} {K : Value → Hp → Prop} {X : List PanicEntry → Hp → Prop} {a : Addr} : loadA Tryd.prog 136 (.pointer (some a)) K X H = withcs (cellsH H a 0 2) fun l => K (.agg l.toArray) H := loadA_n Tryd.underlying136 rfl ty136
theorem rc136 {H : Hp} {K : Value → Prop} {a : Addr} {l : List Value} (hc : cellsH H a 0 2 = some l) : rcA Tryd.prog 136 (.pointer (some a)) H K = K (.agg l.toArray) := rcA_n Tryd.underlying136 rfl ty136 hc
theorem bl136 {H : Hp} {K : Value → Hp → Prop} {X : List PanicEntry → Hp → Prop} {ps : List (Nat × Value)} : bldA Tryd.prog 136 ps K X H = withO (bfill [(0, 1), (1, 1)] [.map none, .slice none 0 0] ps) fun v => K v H := bldA_e Tryd.underlying136 ty136 (by kernel_rfl)
theorem bq136 {H : Hp} {K : Value → Prop} {ps : List (Nat × Value)} : bldQ Tryd.prog 136 ps K H = withO (bfill [(0, 1), (1, 1)] [.map none, .slice none 0 0] ps) K := bldQ_e Tryd.underlying136 ty136 (by kernel_rfl)
theorem fa136_0 {H : Hp} {K : Value → Hp → Prop} {X : List PanicEntry → Hp → Prop} {b off : Nat} : fadA Tryd.prog 136 (.pointer (some ⟨b, off, none⟩)) 0 K X H = K (.pointer (some ⟨b, off, none⟩)) H := by rw [fadA_ok fld136_0, add_none]; rfl
theorem fq136_0 {H : Hp} {K : Value → Prop} {b off : Nat} : fadQ Tryd.prog 136 (.pointer (some ⟨b, off, none⟩)) 0 K H = K (.pointer (some ⟨b, off, none⟩)) := by rw [fadQ_ok fld136_0, add_none]; rfl
theorem fa136_1 {H : Hp} {K : Value → Hp → Prop} {X : List PanicEntry → Hp → Prop} {b off : Nat} : fadA Tryd.prog 136 (.pointer (some ⟨b, off, none⟩)) 1 K X H = K (.pointer (some ⟨b, off + 1, none⟩)) H := by rw [fadA_ok fld136_1, add_none]
theorem fq136_1 {H : Hp} {K : Value → Prop} {b off : Nat} : fadQ Tryd.prog 136 (.pointer (some ⟨b, off, none⟩)) 1 K H = K (.pointer (some ⟨b, off + 1, none⟩)) := by rw [fadQ_ok fld136_1, add_none]
theorem ld137 {H : Hp} {K : Value → Hp → Prop} {X : List PanicEntry → Hp → Prop} {a : Addr} : loadA Tryd.prog 137 (.pointer (some a)) K X H = withcs (cellsH H a 0 2) fun l => K (.agg l.toArray) H := loadA_n Tryd.underlying137 rfl ty137
theorem rc137 {H : Hp} {K : Value → Prop} {a : Addr} {l : List Value} (hc : cellsH H a 0 2 = some l) : rcA Tryd.prog 137 (.pointer (some a)) H K = K (.agg l.toArray) := rcA_n Tryd.underlying137 rfl ty137 hc
theorem bl137 {H : Hp} {K : Value → Hp → Prop} {X : List PanicEntry → Hp → Prop} {ps : List (Nat × Value)} : bldA Tryd.prog 137 ps K X H = withO (bfill [(0, 1), (1, 1)] [.map none, .slice none 0 0] ps) fun v => K v H := bldA_e Tryd.underlying137 ty137 (by kernel_rfl)
theorem bq137 {H : Hp} {K : Value → Prop} {ps : List (Nat × Value)} : bldQ Tryd.prog 137 ps K H = withO (bfill [(0, 1), (1, 1)] [.map none, .slice none 0 0] ps) K := bldQ_e Tryd.underlying137 ty137 (by kernel_rfl)
theorem fa137_0 {H : Hp} {K : Value → Hp → Prop} {X : List PanicEntry → Hp → Prop} {b off : Nat} : fadA Tryd.prog 137 (.pointer (some ⟨b, off, none⟩)) 0 K X H = K (.pointer (some ⟨b, off, none⟩)) H := by rw [fadA_ok fld137_0, add_none]; rfl
theorem fq137_0 {H : Hp} {K : Value → Prop} {b off : Nat} : fadQ Tryd.prog 137 (.pointer (some ⟨b, off, none⟩)) 0 K H = K (.pointer (some ⟨b, off, none⟩)) := by rw [fadQ_ok fld137_0, add_none]; rfl
theorem fa137_1 {H : Hp} {K : Value → Hp → Prop} {X : List PanicEntry → Hp → Prop} {b off : Nat} : fadA Tryd.prog 137 (.pointer (some ⟨b, off, none⟩)) 1 K X H = K (.pointer (some ⟨b, off + 1, none⟩)) H := by rw [fadA_ok fld137_1, add_none]
theorem fq137_1 {H : Hp} {K : Value → Prop} {b off : Nat} : fadQ Tryd.prog 137 (.pointer (some ⟨b, off, none⟩)) 1 K H = K (.pointer (some ⟨b, off + 1, none⟩)) := by rw [fadQ_ok fld137_1, add_none]
theorem ld139 {H : Hp} {K : Value → Hp → Prop} {X : List PanicEntry → Hp → Prop} {a : Addr} : loadA Tryd.prog 139 (.pointer (some a)) K X H = withc (cellH H a) fun v => K v H := loadA_1 Tryd.underlying139 rfl --139
theorem lq139 {H : Hp} {K : Value → Prop} {a : Addr} : loadQ Tryd.prog 139 (.pointer (some a)) K H = withc (cellH H a) K := loadQ_e Tryd.underlying139 rfl
theorem ld140 {H : Hp} {K : Value → Hp → Prop} {X : List PanicEntry → Hp → Prop} {a : Addr} : loadA Tryd.prog 140 (.pointer (some a)) K X H = withc (cellH H a) fun v => K v H := loadA_1 Tryd.underlying140 rfl --140
theorem lq140 {H : Hp} {K : Value → Prop} {a : Addr} : loadQ Tryd.prog 140 (.pointer (some a)) K H = withc (cellH H a) K := loadQ_e Tryd.underlying140 rfl
theorem ld142 {H : Hp} {K : Value → Hp → Prop} {X : List PanicEntry → Hp → Prop} {a : Addr} : loadA Tryd.prog 142 (.pointer (some a)) K X H = withc (cellH H a) fun v => K v H := loadA_1 Tryd.underlying142 rfl --142
theorem lq142 {H : Hp} {K : Value → Prop} {a : Addr} : loadQ Tryd.prog 142 (.pointer (some a)) K H = withc (cellH H a) K := loadQ_e Tryd.underlying142 rfl
theorem ld143 {H : Hp} {K : Value → Hp → Prop} {X : List PanicEntry → Hp → Prop} {a : Addr} : loadA Tryd.prog 143 (.pointer (some a)) K X H = withc (cellH H a) fun v => K v H := loadA_1 Tryd.underlying143 rfl --143
theorem lq143 {H : Hp} {K : Value → Prop} {a : Addr} : loadQ Tryd.prog 143 (.pointer (some a)) K H = withc (cellH H a) K := loadQ_e Tryd.underlying143 rfl
theorem ld144 {H : Hp} {K : Value → Hp → Prop} {X : List PanicEntry → Hp → Prop} {a : Addr} : loadA Tryd.prog 144 (.pointer (some a)) K X H = withc (cellH H a) fun v => K v H := loadA_1 Tryd.underlying144 rfl --144
theorem lq144 {H : Hp} {K : Value → Prop} {a : Addr} : loadQ Tryd.prog 144 (.pointer (some a)) K H = withc (cellH H a) K := loadQ_e Tryd.underlying144 rfl
theorem ld145 {H : Hp} {K : Value → Hp → Prop} {X : List PanicEntry → Hp → Prop} {a : Addr} : loadA Tryd.prog 145 (.pointer (some a)) K X H = withc (cellH H a) fun v => K v H := loadA_1 Tryd.underlying145 rfl --145
theorem lq145 {H : Hp} {K : Value → Prop} {a : Addr} : loadQ Tryd.prog 145 (.pointer (some a)) K H = withc (cellH H a) K := loadQ_e Tryd.underlying145 rfl
theorem ld146 {H : Hp} {K : Value → Hp → Prop} {X : List PanicEntry → Hp → Prop} {a : Addr} : loadA Tryd.prog 146 (.pointer (some a)) K X H = withcs (cellsH H a 0 4) fun l => K (.agg l.toArray) H := loadA_n Tryd.underlying146 rfl ty146
theorem rc146 {H : Hp} {K : Value → Prop} {a : Addr} {l : List Value} (hc : cellsH H a 0 4 = some l) : rcA Tryd.prog 146 (.pointer (some a)) H K = K (.agg l.toArray) := rcA_n Tryd.underlying146 rfl ty146 hc
theorem bl146 {H : Hp} {K : Value → Hp → Prop} {X : List PanicEntry → Hp → Prop} {ps : List (Nat × Value)} : bldA Tryd.prog 146 ps K X H = withO (bfill [(0, 1), (1, 1), (2, 1), (3, 1)] [.pointer none, .pointer none, .pointer none, .string ⟨#[]⟩] ps) fun v => K v H := bldA_e Tryd.underlying146 ty146 (by kernel_rfl)
theorem bq146 {H : Hp} {K : Value → Prop} {ps : List (Nat × Value)} : bldQ Tryd.prog 146 ps K H = withO (bfill [(0, 1), (1, 1), (2, 1), (3, 1)] [.pointer none, .pointer none, .pointer none, .string ⟨#[]⟩] ps) K := bldQ_e Tryd.underlying146 ty146 (by kernel_rfl)
theorem fa146_0 {H : Hp} {K : Value → Hp → Prop} {X : List PanicEntry → Hp → Prop} {b off : Nat} : fadA Tryd.prog 146 (.pointer (some ⟨b, off, none⟩)) 0 K X H = K (.pointer (some ⟨b, off, none⟩)) H := by rw [fadA_ok fld146_0, add_none]; rfl
theorem fq146_0 {H : Hp} {K : Value → Prop} {b off : Nat} : fadQ Tryd.prog 146 (.pointer (some ⟨b, off, none⟩)) 0 K H = K (.pointer (some ⟨b, off, none⟩)) := by rw [fadQ_ok fld146_0, add_none]; rfl
theorem fa146_1 {H : Hp} {K : Value → Hp → Prop} {X : List PanicEntry → Hp → Prop} {b off : Nat} : fadA Tryd.prog 146 (.pointer (some ⟨b, off, none⟩)) 1 K X H = K (.pointer (some ⟨b, off + 1, none⟩)) H := by rw [fadA_ok fld146_1, add_none]
theorem fq146_1 {H : Hp} {K : Value → Prop} {b off : Nat} : fadQ Tryd.prog 146 (.pointer (some ⟨b, off, none⟩)) 1 K H = K (.pointer (some ⟨b, off + 1, none⟩)) := by rw [fadQ_ok fld146_1, add_none]
theorem fa146_2 {H : Hp} {K : Value → Hp → Prop} {X : List PanicEntry → Hp → Prop} {b off : Nat} : fadA Tryd.prog 146 (.pointer (some ⟨b, off, none⟩)) 2 K X H = K (.pointer (some ⟨b, off + 2, none⟩)) H := by rw [fadA_ok fld146_2, add_none]
theorem fq146_2 {H : Hp} {K : Value → Prop} {b off : Nat} : fadQ Tryd.prog 146 (.pointer (some ⟨b, off, none⟩)) 2 K H = K (.pointer (some ⟨b, off + 2, none⟩)) := by rw [fadQ_ok fld146_2, add_none]
theorem fa146_3 {H : Hp} {K : Value → Hp → Prop} {X : List PanicEntry → Hp → Prop} {b off : Nat} : fadA Tryd.prog 146 (.pointer (some ⟨b, off, none⟩)) 3 K X H = K (.pointer (some ⟨b, off + 3, none⟩)) H := by rw [fadA_ok fld146_3, add_none]
theorem fq146_3 {H : Hp} {K : Value → Prop} {b off : Nat} : fadQ Tryd.prog 146 (.pointer (some ⟨b, off, none⟩)) 3 K H = K (.pointer (some ⟨b, off + 3, none⟩)) := by rw [fadQ_ok fld146_3, add_none]
theorem ld147 {H : Hp} {K : Value → Hp → Prop} {X : List PanicEntry → Hp → Prop} {a : Addr} : loadA Tryd.prog 147 (.pointer (some a)) K X H = withcs (cellsH H a 0 4) fun l => K (.agg l.toArray) H := loadA_n Tryd.underlying147 rfl ty147
theorem rc147 {H : Hp} {K : Value → Prop} {a : Addr} {l : List Value} (hc : cellsH H a 0 4 = some l) : rcA Tryd.prog 147 (.pointer (some a)) H K = K (.agg l.toArray) := rcA_n Tryd.underlying147 rfl ty147 hc
theorem bl147 {H : Hp} {K : Value → Hp → Prop} {X : List PanicEntry → Hp → Prop} {ps : List (Nat × Value)} : bldA Tryd.prog 147 ps K X H = withO (bfill [(0, 1), (1, 1), (2, 1), (3, 1)] [.pointer none, .pointer none, .pointer none, .string ⟨#[]⟩] ps) fun v => K v H := bldA_e Tryd.underlying147 ty147 (by kernel_rfl)
theorem bq147 {H : Hp} {K : Value → Prop} {ps : List (Nat × Value)} : bldQ Tryd.prog 147 ps K H = withO (bfill [(0, 1), (1, 1), (2, 1), (3, 1)] [.pointer none, .pointer none, .pointer none, .string ⟨#[]⟩] ps) K := bldQ_e Tryd.underlying147 ty147 (by kernel_rfl)
theorem fa147_0 {H : Hp} {K : Value → Hp → Prop} {X : List PanicEntry → Hp → Prop} {b off : Nat} : fadA Tryd.prog 147 (.pointer (some ⟨b, off, none⟩)) 0 K X H = K (.pointer (some ⟨b, off, none⟩)) H := by rw [fadA_ok fld147_0, add_none]; rfl
theorem fq147_0 {H : Hp} {K : Value → Prop} {b off : Nat} : fadQ Tryd.prog 147 (.pointer (some ⟨b, off, none⟩)) 0 K H = K (.pointer (some ⟨b, off, none⟩)) := by rw [fadQ_ok fld147_0, add_none]; rfl
theorem fa147_1 {H : Hp} {K : Value → Hp → Prop} {X : List PanicEntry → Hp → Prop} {b off : Nat} : fadA Tryd.prog 147 (.pointer (some ⟨b, off, none⟩)) 1 K X H = K (.pointer (some ⟨b, off + 1, none⟩)) H := by rw [fadA_ok fld147_1, add_none]
theorem fq147_1 {H : Hp} {K : Value → Prop} {b off : Nat} : fadQ Tryd.prog 147 (.pointer (some ⟨b, off, none⟩)) 1 K H = K (.pointer (some ⟨b, off + 1, none⟩)) := by rw [fadQ_ok fld147_1, add_none]
theorem fa147_2 {H : Hp} {K : Value → Hp → Prop} {X : List PanicEntry → Hp → Prop} {b off : Nat} : fadA Tryd.prog 147 (.pointer (some ⟨b, off, none⟩)) 2 K X H = K (.pointer (some ⟨b, off + 2, none⟩)) H := by rw [fadA_ok fld147_2, add_none]
theorem fq147_2 {H : Hp} {K : Value → Prop} {b off : Nat} : fadQ Tryd.prog 147 (.pointer (some ⟨b, off, none⟩)) 2 K H = K (.pointer (some ⟨b, off + 2, none⟩)) := by rw [fadQ_ok fld147_2, add_none]
theorem fa147_3 {H : Hp} {K : Value → Hp → Prop} {X : List PanicEntry → Hp → Prop} {b off : Nat} : fadA Tryd.prog 147 (.pointer (some ⟨b, off, none⟩)) 3 K X H = K (.pointer (some ⟨b, off + 3, none⟩)) H := by rw [fadA_ok fld147_3, add_none]
theorem fq147_3 {H : Hp} {K : Value → Prop} {b off : Nat} : fadQ Tryd.prog 147 (.pointer (some ⟨b, off, none⟩)) 3 K H = K (.pointer (some ⟨b, off + 3, none⟩)) := by rw [fadQ_ok fld147_3, add_none]
theorem ld148 {H : Hp} {K : Value → Hp → Prop} {X : List PanicEntry → Hp → Prop} {a : Addr} : loadA Tryd.prog 148 (.pointer (some a)) K X H = withcs (cellsH H a 0 0) fun l => K (.agg l.toArray) H := loadA_n Tryd.underlying148 rfl ty148
theorem rc148 {H : Hp} {K : Value → Prop} {a : Addr} {l : List Value} (hc : cellsH H a 0 0 = some l) : rcA Tryd.prog 148 (.pointer (some a)) H K = K (.agg l.toArray) := rcA_n Tryd.underlying148 rfl ty148 hc
theorem ld149 {H : Hp} {K : Value → Hp → Prop} {X : List PanicEntry → Hp → Prop} {a : Addr} : loadA Tryd.prog 149 (.pointer (some a)) K X H = withcs (cellsH H a 0 0) fun l => K (.agg l.toArray) H := loadA_n Tryd.underlying149 rfl ty149
theorem rc149 {H : Hp} {K : Value → Prop} {a : Addr} {l : List Value} (hc : cellsH H a 0 0 = some l) : rcA Tryd.prog 149 (.pointer (some a)) H K = K (.agg l.toArray) := rcA_n Tryd.underlying149 rfl ty149 hc
theorem bl149 {H : Hp} {K : Value → Hp → Prop} {X : List PanicEntry → Hp → Prop} {ps : List (Nat × Value)} : bldA Tryd.prog 149 ps K X H = withO (bfill [(0, 0)] [] ps) fun v => K v H := bldA_e Tryd.underlying149 ty149 (by kernel_rfl)
theorem bq149 {H : Hp} {K : Value → Prop} {ps : List (Nat × Value)} : bldQ Tryd.prog 149 ps K H = withO (bfill [(0, 0)] [] ps) K := bldQ_e Tryd.underlying149 ty149 (by kernel_rfl)
theorem ld150 {H : Hp} {K : Value → Hp → Prop} {X : List PanicEntry → Hp → Prop} {a : Addr} : loadA Tryd.prog 150 (.pointer (some a)) K X H = withcs (cellsH H a 0 0) fun l => K (.agg l.toArray) H := loadA_n Tryd.underlying150 rfl ty150
theorem rc150 {H : Hp} {K : Value → Prop} {a : Addr} {l : List Value} (hc : cellsH H a 0 0 = some l) : rcA Tryd.prog 150 (.pointer (some a)) H K = K (.agg l.toArray) := rcA_n Tryd.underlying150 rfl ty150 hc
theorem bl150 {H : Hp} {K : Value → Hp → Prop} {X : List PanicEntry → Hp → Prop} {ps : List (Nat × Value)} : bldA Tryd.prog 150 ps K X H = withO (bfill [(0, 0)] [] ps) fun v => K v H := bldA_e Tryd.underlying150 ty150 (by kernel_rfl)
theorem bq150 {H : Hp} {K : Value → Prop} {ps : List (Nat × Value)} : bldQ Tryd.prog 150 ps K H = withO (bfill [(0, 0)] [] ps) K := bldQ_e Tryd.underlying150 ty150 (by kernel_rfl)
theorem ld151 {H : Hp} {K : Value → Hp → Prop} {X : List PanicEntry → Hp → Prop} {a : Addr} : loadA Tryd.prog 151 (.pointer (some a)) K X H = withc (cellH H a) fun v => K v H := loadA_1 Tryd.underlying151 rfl --151
theorem lq151 {H : Hp} {K : Value → Prop} {a : Addr} : loadQ Tryd.prog 151 (.pointer (some a)) K H = withc (cellH H a) K := loadQ_e Tryd.underlying151 rfl
theorem ld152 {H : Hp} {K : Value → Hp → Prop} {X : List PanicEntry → Hp → Prop} {a : Addr} : loadA Tryd.prog 152 (.pointer (some a)) K X H = withc (cellH H a) fun v => K v H := loadA_1 Tryd.underlying152 rfl --152
theorem lq152 {H : Hp} {K : Value → Prop} {a : Addr} : loadQ Tryd.prog 152 (.pointer (some a)) K H = withc (cellH H a) K := loadQ_e Tryd.underlying152 rfl
theorem ld153 {H : Hp} {K : Value → Hp → Prop} {X : List PanicEntry → Hp → Prop} {a : Addr} : loadA Tryd.prog 153 (.pointer (some a)) K X H = withc (cellH H a) fun v => K v H := loadA_1 Tryd.underlying153 rfl --153
theorem lq153 {H : Hp} {K : Value → Prop} {a : Addr} : loadQ Tryd.prog 153 (.pointer (some a)) K H = withc (cellH H a) K := loadQ_e Tryd.underlying153 rfl
theorem ld154 {H : Hp} {K : Value → Hp → Prop} {X : List PanicEntry → Hp → Prop} {a : Addr} : loadA Tryd.prog 154 (.pointer (some a)) K X H = withc (cellH H a) fun v => K v H := loadA_1 Tryd.underlying154 rfl --154
theorem lq154 {H : Hp} {K : Value → Prop} {a : Addr} : loadQ Tryd.prog 154 (.pointer (some a)) K H = withc (cellH H a) K := loadQ_e Tryd.underlying154 rfl
theorem ld155 {H : Hp} {K : Value → Hp → Prop} {X : List PanicEntry → Hp → Prop} {a : Addr} : loadA Tryd.prog 155 (.pointer (some a)) K X H = withc (cellH H a) fun v => K v H := loadA_1 Tryd.underlying155 rfl --155
theorem lq155 {H : Hp} {K : Value → Prop} {a : Addr} : loadQ Tryd.prog 155 (.pointer (some a)) K H = withc (cellH H a) K := loadQ_e Tryd.underlying155 rfl
theorem ld156 {H : Hp} {K : Value → Hp → Prop} {X : List PanicEntry → Hp → Prop} {a : Addr} : loadA Tryd.prog 156 (.pointer (some a)) K X H = withcs (cellsH H a 0 11) fun l => K (.agg l.toArray) H := loadA_n Tryd.underlying156 rfl ty156
theorem rc156 {H : Hp} {K : Value → Prop} {a : Addr} {l : List Value} (hc : cellsH H a 0 11 = some l) : rcA Tryd.prog 156 (.pointer (some a)) H K = K (.agg l.toArray) := rcA_n Tryd.underlying156 rfl ty156 hc
theorem bl156 {H : Hp} {K : Value → Hp → Prop} {X : List PanicEntry → Hp → Prop} {ps : List (Nat × Value)} : bldA Tryd.prog 156 ps K X H = withO (bfill [(0, 1), (1, 1), (2, 1), (3, 1), (4, 1), (5, 1), (6, 1), (7, 1), (8, 1), (9, 1), (10, 1)] [.int .u64 0, .int .u64 0, .int .u32 0, .int .u8 0, .int .u8 0, .int .u8 0, .int .u8 0, .nilFunc, .pointer none, .int .i32 0, .int .i32 0] ps) fun v => K v H := bldA_e Tryd.underlying156 ty156 (by kernel_rfl)
theorem bq156 {H : Hp} {K : Value → Prop} {ps : List (Nat × Value)} : bldQ Tryd.prog 156 ps K H = withO (bfill [(0, 1), (1, 1), (2, 1), (3, 1), (4, 1), (5, 1), (6, 1), (7, 1), (8, 1), (9, 1), (10, 1)] [.int .u64 0, .int .u64 0, .int .u32 0, .int .u8 0, .int .u8 0, .int .u8 0, .int .u8 0, .nilFunc, .pointer none, .int .i32 0, .int .i32 0] ps) K := bldQ_e Tryd.underlying156 ty156 (by kernel_rfl)
theorem fa156_0 {H : Hp} {K : Value → Hp → Prop} {X : List PanicEntry → Hp → Prop} {b off : Nat} : fadA Tryd.prog 156 (.pointer (some ⟨b, off, none⟩)) 0 K X H = K (.pointer (some ⟨b, off, none⟩)) H := by rw [fadA_ok fld156_0, add_none]; rfl
theorem fq156_0 {H : Hp} {K : Value → Prop} {b off : Nat} : fadQ Tryd.prog 156 (.pointer (some ⟨b, off, none⟩)) 0 K H = K (.pointer (some ⟨b, off, none⟩)) := by rw [fadQ_ok fld156_0, add_none]; rfl
theorem fa156_1 {H : Hp} {K : Value → Hp → Prop} {X : List PanicEntry → Hp → Prop} {b off : Nat} : fadA Tryd.prog 156 (.pointer (some ⟨b, off, none⟩)) 1 K X H = K (.pointer (some ⟨b, off + 1, none⟩)) H := by rw [fadA_ok fld156_1, add_none]
theorem fq156_1 {H : Hp} {K : Value → Prop} {b off : Nat} : fadQ Tryd.prog 156 (.pointer (some ⟨b, off, none⟩)) 1 K H = K (.pointer (some ⟨b, off + 1, none⟩)) := by rw [fadQ_ok fld156_1, add_none]
theorem fa156_2 {H : Hp} {K : Value → Hp → Prop} {X : List PanicEntry → Hp → Prop} {b off : Nat} : fadA Tryd.prog 156 (.pointer (some ⟨b, off, none⟩)) 2 K X H = K (.pointer (some ⟨b, off + 2, none⟩)) H := by rw [fadA_ok fld156_2, add_none]
theorem fq156_2 {H : Hp} {K : Value → Prop} {b off : Nat} : fadQ Tryd.prog 156 (.pointer (some ⟨b, off, none⟩)) 2 K H = K (.pointer (some ⟨b, off + 2, none⟩)) := by rw [fadQ_ok fld156_2, add_none]
theorem fa156_3 {H : Hp} {K : Value → Hp → Prop} {X : List PanicEntry → Hp → Prop} {b off : Nat} : fadA Tryd.prog 156 (.pointer (some ⟨b, off, none⟩)) 3 K X H = K (.pointer (some ⟨b, off + 3, none⟩)) H := by rw [fadA_ok fld156_3, add_none]
theorem fq156_3 {H : Hp} {K : Value → Prop} {b off : Nat} : fadQ Tryd.prog 156 (.pointer (some ⟨b, off, none⟩)) 3 K H = K (.pointer (some ⟨b, off + 3, none⟩)) := by rw [fadQ_ok fld156_3, add_none]
theorem fa156_4 {H : Hp} {K : Value → Hp → Prop} {X : List PanicEntry → Hp → Prop} {b off : Nat} : fadA Tryd.prog 156 (.pointer (some ⟨b, off, none⟩)) 4 K X H = K (.pointer (some ⟨b, off + 4, none⟩)) H := by rw [fadA_ok fld156_4, add_none]
theorem fq156_4 {H : Hp} {K : Value → Prop} {b off : Nat} : fadQ Tryd.prog 156 (.pointer (some ⟨b, off, none⟩)) 4 K H = K (.pointer (some ⟨b, off + 4, none⟩)) := by rw [fadQ_ok fld156_4, add_none]
theorem fa156_5 {H : Hp} {K : Value → Hp → Prop} {X : List PanicEntry → Hp → Prop} {b off : Nat} : fadA Tryd.prog 156 (.pointer (some ⟨b, off, none⟩)) 5 K X H = K (.pointer (some ⟨b, off + 5, none⟩)) H := by rw [fadA_ok fld156_5, add_none]
theorem fq156_5 {H : Hp} {K : Value → Prop} {b off : Nat} : fadQ Tryd.prog 156 (.pointer (some ⟨b, off, none⟩)) 5 K H = K (.pointer (some ⟨b, off + 5, none⟩)) := by rw [fadQ_ok fld156_5, add_none]
theorem fa156_6 {H : Hp} {K : Value → Hp → Prop} {X : List PanicEntry → Hp → Prop} {b off : Nat} : fadA Tryd.prog 156 (.pointer (some ⟨b, off, none⟩)) 6 K X H = K (.pointer (some ⟨b, off + 6, none⟩)) H := by rw [fadA_ok fld156_6, add_none]
theorem fq156_6 {H : Hp} {K : Value → Prop} {b off : Nat} : fadQ Tryd.prog 156 (.pointer (some ⟨b, off, none⟩)) 6 K H = K (.pointer (some ⟨b, off + 6, none⟩)) := by rw [fadQ_ok fld156_6, add_none]
theorem fa156_7 {H : Hp} {K : Value → Hp → Prop} {X : List PanicEntry → Hp → Prop} {b off : Nat} : fadA Tryd.prog 156 (.pointer (some ⟨b, off, none⟩)) 7 K X H = K (.pointer (some ⟨b, off + 7, none⟩)) H := by rw [fadA_ok fld156_7, add_none]
theorem fq156_7 {H : Hp} {K : Value → Prop} {b off : Nat} : fadQ Tryd.prog 156 (.pointer (some ⟨b, off, none⟩)) 7 K H = K (.pointer (some ⟨b, off + 7, none⟩)) := by rw [fadQ_ok fld156_7, add_none]
theorem fa156_8 {H : Hp} {K : Value → Hp → Prop} {X : List PanicEntry → Hp → Prop} {b off : Nat} : fadA Tryd.prog 156 (.pointer (some ⟨b, off, none⟩)) 8 K X H = K (.pointer (some ⟨b, off + 8, none⟩)) H := by rw [fadA_ok fld156_8, add_none]
theorem fq156_8 {H : Hp} {K : Value → Prop} {b off : Nat} : fadQ Tryd.prog 156 (.pointer (some ⟨b, off, none⟩)) 8 K H = K (.pointer (some ⟨b, off + 8, none⟩)) := by rw [fadQ_ok fld156_8, add_none]
theorem fa156_9 {H : Hp} {K : Value → Hp → Prop} {X : List PanicEntry → Hp → Prop} {b off : Nat} : fadA Tryd.prog 156 (.pointer (some ⟨b, off, none⟩)) 9 K X H = K (.pointer (some ⟨b, off + 9, none⟩)) H := by rw [fadA_ok fld156_9, add_none]
theorem fq156_9 {H : Hp} {K : Value → Prop} {b off : Nat} : fadQ Tryd.prog 156 (.pointer (some ⟨b, off, none⟩)) 9 K H = K (.pointer (some ⟨b, off + 9, none⟩)) := by rw [fadQ_ok fld156_9, add_none]
theorem fa156_10 {H : Hp} {K : Value → Hp → Prop} {X : List PanicEntry → Hp → Prop} {b off : Nat} : fadA Tryd.prog 156 (.pointer (some ⟨b, off, none⟩)) 10 K X H = K (.pointer (some ⟨b, off + 10, none⟩)) H := by rw [fadA_ok fld156_10, add_none]
theorem fq156_10 {H : Hp} {K : Value → Prop} {b off : Nat} : fadQ Tryd.prog 156 (.pointer (some ⟨b, off, none⟩)) 10 K H = K (.pointer (some ⟨b, off + 10, none⟩)) := by rw [fadQ_ok fld156_10, add_none]
theorem ld157 {H : Hp} {K : Value → Hp → Prop} {X : List PanicEntry → Hp → Prop} {a : Addr} : loadA Tryd.prog 157 (.pointer (some a)) K X H = withcs (cellsH H a 0 11) fun l => K (.agg l.toArray) H := loadA_n Tryd.underlying157 rfl ty157
theorem rc157 {H : Hp} {K : Value → Prop} {a : Addr} {l : List Value} (hc : cellsH H a 0 11 = some l) : rcA Tryd.prog 157 (.pointer (some a)) H K = K (.agg l.toArray) := rcA_n Tryd.underlying157 rfl ty157 hc
theorem bl157 {H : Hp} {K : Value → Hp → Prop} {X : List PanicEntry → Hp → Prop} {ps : List (Nat × Value)} : bldA Tryd.prog 157 ps K X H = withO (bfill [(0, 1), (1, 1), (2, 1), (3, 1), (4, 1), (5, 1), (6, 1), (7, 1), (8, 1), (9, 1), (10, 1)] [.int .u64 0, .int .u64 0, .int .u32 0, .int .u8 0, .int .u8 0, .int .u8 0, .int .u8 0, .nilFunc, .pointer none, .int .i32 0, .int .i32 0] ps) fun v => K v H := bldA_e Tryd.underlying157 ty157 (by kernel_rfl)
theorem bq157 {H : Hp} {K : Value → Prop} {ps : List (Nat × Value)} : bldQ Tryd.prog 157 ps K H = withO (bfill [(0, 1), (1, 1), (2, 1), (3, 1), (4, 1), (5, 1), (6, 1), (7, 1), (8, 1), (9, 1), (10, 1)] [.int .u64 0, .int .u64 0, .int .u32 0, .int .u8 0, .int .u8 0, .int .u8 0, .int .u8 0, .nilFunc, .pointer none, .int .i32 0, .int .i32 0] ps) K := bldQ_e Tryd.underlying157 ty157 (by kernel_rfl)
theorem fa157_0 {H : Hp} {K : Value → Hp → Prop} {X : List PanicEntry → Hp → Prop} {b off : Nat} : fadA Tryd.prog 157 (.pointer (some ⟨b, off, none⟩)) 0 K X H = K (.pointer (some ⟨b, off, none⟩)) H := by rw [fadA_ok fld157_0, add_none]; rfl
theorem fq157_0 {H : Hp} {K : Value → Prop} {b off : Nat} : fadQ Tryd.prog 157 (.pointer (some ⟨b, off, none⟩)) 0 K H = K (.pointer (some ⟨b, off, none⟩)) := by rw [fadQ_ok fld157_0, add_none]; rfl
theorem fa157_1 {H : Hp} {K : Value → Hp → Prop} {X : List PanicEntry → Hp → Prop} {b off : Nat} : fadA Tryd.prog 157 (.pointer (some ⟨b, off, none⟩)) 1 K X H = K (.pointer (some ⟨b, off + 1, none⟩)) H := by rw [fadA_ok fld157_1, add_none]
theorem fq157_1 {H : Hp} {K : Value → Prop} {b off : Nat} : fadQ Tryd.prog 157 (.pointer (some ⟨b, off, none⟩)) 1 K H = K (.pointer (some ⟨b, off + 1, none⟩)) := by rw [fadQ_ok fld157_1, add_none]
theorem fa157_2 {H : Hp} {K : Value → Hp → Prop} {X : List PanicEntry → Hp → Prop} {b off : Nat} : fadA Tryd.prog 157 (.pointer (some ⟨b, off, none⟩)) 2 K X H = K (.pointer (some ⟨b, off + 2, none⟩)) H := by rw [fadA_ok fld157_2, add_none]
theorem fq157_2 {H : Hp} {K : Value → Prop} {b off : Nat} : fadQ Tryd.prog 157 (.pointer (some ⟨b, off, none⟩)) 2 K H = K (.pointer (some ⟨b, off + 2, none⟩)) := by rw [fadQ_ok fld157_2, add_none]
theorem fa157_3 {H : Hp} {K : Value → Hp → Prop} {X : List PanicEntry → Hp → Prop} {b off : Nat} : fadA Tryd.prog 157 (.pointer (some ⟨b, off, none⟩)) 3 K X H = K (.pointer (some ⟨b, off + 3, none⟩)) H := by rw [fadA_ok fld157_3, add_none]
theorem fq157_3 {H : Hp} {K : Value → Prop} {b off : Nat} : fadQ Tryd.prog 157 (.pointer (some ⟨b, off, none⟩)) 3 K H = K (.pointer (some ⟨b, off + 3, none⟩)) := by rw [fadQ_ok fld157_3, add_none]
theorem fa157_4 {H : Hp} {K : Value → Hp → Prop} {X : List PanicEntry → Hp → Prop} {b off : Nat} : fadA Tryd.prog 157 (.pointer (some ⟨b, off, none⟩)) 4 K X H = K (.pointer (some ⟨b, off + 4, none⟩)) H := by rw [fadA_ok fld157_4, add_none]
theorem fq157_4 {H : Hp} {K : Value → Prop} {b off : Nat} : fadQ Tryd.prog 157 (.pointer (some ⟨b, off, none⟩)) 4 K H = K (.pointer (some ⟨b, off + 4, none⟩)) := by rw [fadQ_ok fld157_4, add_none]
theorem fa157_5 {H : Hp} {K : Value → Hp → Prop} {X : List PanicEntry → Hp → Prop} {b off : Nat} : fadA Tryd.prog 157 (.pointer (some ⟨b, off, none⟩)) 5 K X H = K (.pointer (some ⟨b, off + 5, none⟩)) H := by rw [fadA_ok fld157_5, add_none]
theorem fq157_5 {H : Hp} {K : Value → Prop} {b off : Nat} : fadQ Tryd.prog 157 (.pointer (some ⟨b, off, none⟩)) 5 K H = K (.pointer (some ⟨b, off + 5, none⟩)) := by rw [fadQ_ok fld157_5, add_none]
theorem fa157_6 {H : Hp} {K : Value → Hp → Prop} {X : List PanicEntry → Hp → Prop} {b off : Nat} : fadA Tryd.prog 157 (.pointer (some ⟨b, off, none⟩)) 6 K X H = K (.pointer (some ⟨b, off + 6, none⟩)) H := by rw [fadA_ok fld157_6, add_none]
theorem fq157_6 {H : Hp} {K : Value → Prop} {b off : Nat} : fadQ Tryd.prog 157 (.pointer (some ⟨b, off, none⟩)) 6 K H = K (.pointer (some ⟨b, off + 6, none⟩)) := by rw [fadQ_ok fld157_6, add_none]
theorem fa157_7 {H : Hp} {K : Value → Hp → Prop} {X : List PanicEntry → Hp → Prop} {b off : Nat} : fadA Tryd.prog 157 (.pointer (some ⟨b, off, none⟩)) 7 K X H = K (.pointer (some ⟨b, off + 7, none⟩)) H := by rw [fadA_ok fld157_7, add_none]
theorem fq157_7 {H : Hp} {K : Value → Prop} {b off : Nat} : fadQ Tryd.prog 157 (.pointer (some ⟨b, off, none⟩)) 7 K H = K (.pointer (some ⟨b, off + 7, none⟩)) := by rw [fadQ_ok fld157_7, add_none]
theorem fa157_8 {H : Hp} {K : Value → Hp → Prop} {X : List PanicEntry → Hp → Prop} {b off : Nat} : fadA Tryd.prog 157 (.pointer (some ⟨b, off, none⟩)) 8 K X H = K (.pointer (some ⟨b, off + 8, none⟩)) H := by rw [fadA_ok fld157_8, add_none]
theorem fq157_8 {H : Hp} {K : Value → Prop} {b off : Nat} : fadQ Tryd.prog 157 (.pointer (some ⟨b, off, none⟩)) 8 K H = K (.pointer (some ⟨b, off + 8, none⟩)) := by rw [fadQ_ok fld157_8, add_none]
theorem fa157_9 {H : Hp} {K : Value → Hp → Prop} {X : List PanicEntry → Hp → Prop} {b off : Nat} : fadA Tryd.prog 157 (.pointer (some ⟨b, off, none⟩)) 9 K X H = K (.pointer (some ⟨b, off + 9, none⟩)) H := by rw [fadA_ok fld157_9, add_none]
theorem fq157_9 {H : Hp} {K : Value → Prop} {b off : Nat} : fadQ Tryd.prog 157 (.pointer (some ⟨b, off, none⟩)) 9 K H = K (.pointer (some ⟨b, off + 9, none⟩)) := by rw [fadQ_ok fld157_9, add_none]
theorem fa157_10 {H : Hp} {K : Value → Hp → Prop} {X : List PanicEntry → Hp → Prop} {b off : Nat} : fadA Tryd.prog 157 (.pointer (some ⟨b, off, none⟩)) 10 K X H = K (.pointer (some ⟨b, off + 10, none⟩)) H := by rw [fadA_ok fld157_10, add_none]
theorem fq157_10 {H : Hp} {K : Value → Prop} {b off : Nat} : fadQ Tryd.prog 157 (.pointer (some ⟨b, off, none⟩)) 10 K H = K (.pointer (some ⟨b, off + 10, none⟩)) := by rw [fadQ_ok fld157_10, add_none]
end Go.Proofs.YtoabcmhiaknjiaaDoor

set_option maxRecDepth 100000
namespace Go.Proofs.YtoabcmhiaknjiaaDoor
open Go.Hw
/-! ### 45 strings.trimLeftByte -/
def r45_0 : List O := [⟨some 4, .assign (.const (.string ⟨#[]⟩)), 9, none⟩]
def r45_1 : List O := [⟨some 5, .move (.tmp 0), 9, none⟩,
  ⟨some 6, .call { callee := .builtin .len, args := #[.tmp 5], argTypes := #[9] }, 3, none⟩,
  ⟨some 7, .binOp .gtr 3 (.tmp 6) (.const (.int .i64 0)) 3, 4, none⟩,
  ⟨some 8, .move (.tmp 7), 4, none⟩,
  ⟨some 9, .move (.tmp 0), 9, some (8, true)⟩,
  ⟨some 10, .index 9 (.tmp 9) (.const (.int .i64 0)), 5, some (8, true)⟩,
  ⟨some 11, .move (.tmp 1), 5, some (8, true)⟩,
  ⟨some 12, .binOp .eql 5 (.tmp 10) (.tmp 11) 5, 4, some (8, true)⟩,
  ⟨some 13, .pick (.tmp 8) (.tmp 12) (.const (.bool false)), 4, none⟩]
def r45_2 : List O := [⟨some 14, .move (.tmp 0), 9, none⟩,
  ⟨some 15, .slice 9 (.tmp 14) (some (.const (.int .i64 1))) none none, 9, none⟩,
  ⟨some 0, .assign (.tmp 15), 9, none⟩]
def r45_3 : List O := [⟨some 16, .move (.tmp 0), 9, none⟩,
  ⟨some 4, .assign (.tmp 16), 9, none⟩]
def c45_0 : A := .cond (.tmp 13) .skip (.exit 0)
def c45_1 : A := .block 1 (.reg r45_2 [0, 1])
def c45_2 : A := .seq (.seq (.reg r45_1 [0, 1, 13]) c45_0) (.seq (.keep [0, 1]) c45_1)
def c45_3 : A := .seq c45_2 (.keep [0, 1])
def c45_4 : A := .loop c45_3
def c45_5 : A := .seq (.reg r45_3 [4]) .ret
def c45_6 : A := .seq (.block 0 c45_4) c45_5
def c45 : A := .seq (.reg r45_0 [0, 1]) c45_6
theorem B45 : Body Tryd.prog 45 17 [.tmp 4] c45 := ⟨by kernel_rfl, _, _, [(0, [0, 1]), (1, [0, 1, 13]), (2, [0, 1]), (3, [4]), (1001, [0, 1]), (2002, [0, 1])], Tryd.func45, rfl, rfl, rfl, by kernel_rfl⟩
/-! ### 23 strings.TrimLeft -/
def r23_0 : List O := [⟨some 4, .assign (.const (.string ⟨#[]⟩)), 9, none⟩]
def r23_1 : List O := [⟨some 7, .move (.tmp 0), 9, none⟩,
  ⟨some 8, .binOp .eql 9 (.tmp 7) (.const (.string ⟨#[]⟩)) 9, 4, none⟩,
  ⟨some 9, .move (.tmp 8), 4, none⟩,
  ⟨some 10, .move (.tmp 1), 9, some (9, false)⟩,
  ⟨some 11, .binOp .eql 9 (.tmp 10) (.const (.string ⟨#[]⟩)) 9, 4, some (9, false)⟩,
  ⟨some 12, .pick (.tmp 9) (.const (.bool true)) (.tmp 11), 4, none⟩]
def r23_2 : List O := [⟨some 13, .move (.tmp 0), 9, none⟩,
  ⟨some 4, .assign (.tmp 13), 9, none⟩]
def r23_3 : List O := [⟨some 14, .move (.tmp 1), 9, none⟩,
  ⟨some 15, .call { callee := .builtin .len, args := #[.tmp 14], argTypes := #[9] }, 3, none⟩,
  ⟨some 16, .binOp .eql 3 (.tmp 15) (.const (.int .i64 1)) 3, 4, none⟩,
  ⟨some 17, .move (.tmp 16), 4, none⟩,
  ⟨some 18, .move (.tmp 1), 9, some (17, true)⟩,
  ⟨some 19, .index 9 (.tmp 18) (.const (.int .i64 0)), 5, some (17, true)⟩,
  ⟨some 20, .binOp .lss 5 (.tmp 19) (.const (.int .u8 128)) 5, 4, some (17, true)⟩,
  ⟨some 21, .pick (.tmp 17) (.tmp 20) (.const (.bool false)), 4, none⟩]
def r23_4 : List O := [⟨some 22, .move (.tmp 0), 9, none⟩,
  ⟨some 23, .move (.tmp 1), 9, none⟩,
  ⟨some 24, .index 9 (.tmp 23) (.const (.int .i64 0)), 5, none⟩,
  ⟨some 25, .call { callee := .value (.func 45), args := #[.tmp 22, .tmp 24], argTypes := #[9, 5] }, 9, none⟩,
  ⟨some 4, .assign (.tmp 25), 9, none⟩]
def r23_5 : List O := [⟨some 27, .move (.tmp 1), 9, none⟩,
  ⟨some 28, .call { callee := .value (.func 46), args := #[.tmp 27], argTypes := #[9] }, 91, none⟩,
  ⟨some 26, .move (.tmp 28), 91, none⟩,
  ⟨some 29, .extract (.tmp 26) 0, 90, none⟩,
  ⟨some 30, .extract (.tmp 26) 1, 4, none⟩,
  ⟨some 5, .alloc 90, 0, none⟩,
  ⟨none, .store 90 (.tmp 5) (.tmp 29), 0, none⟩,
  ⟨some 6, .assign (.tmp 30), 4, none⟩]
def r23_6 : List O := [⟨some 31, .move (.tmp 6), 4, none⟩]
def r23_7 : List O := [⟨some 32, .move (.tmp 0), 9, none⟩,
  ⟨some 33, .call { callee := .value (.func 47), args := #[.tmp 32, .tmp 5], argTypes := #[9, 94] }, 9, none⟩,
  ⟨some 4, .assign (.tmp 33), 9, none⟩]
def r23_8 : List O := [⟨some 34, .move (.tmp 0), 9, none⟩,
  ⟨some 35, .move (.tmp 1), 9, none⟩,
  ⟨some 36, .call { callee := .value (.func 48), args := #[.tmp 34, .tmp 35], argTypes := #[9, 9] }, 9, none⟩,
  ⟨some 4, .assign (.tmp 36), 9, none⟩]
def c23_0 : A := .seq (.reg r23_2 [4]) .ret
def c23_1 : A := .cond (.tmp 12) c23_0 .skip
def c23_2 : A := .seq (.reg r23_4 [4]) .ret
def c23_3 : A := .cond (.tmp 21) c23_2 .skip
def c23_4 : A := .seq (.reg r23_7 [4]) .ret
def c23_5 : A := .cond (.tmp 31) c23_4 .skip
def c23_6 : A := .seq (.reg r23_6 [0, 1, 5, 31]) c23_5
def c23_7 : A := .seq (.reg r23_8 [4]) .ret
def c23_8 : A := .seq (.seq (.reg r23_5 [0, 1, 5, 6]) c23_6) (.seq (.keep [0, 1]) c23_7)
def c23_9 : A := .seq (.seq (.reg r23_3 [0, 1, 21]) c23_3) (.seq (.keep [0, 1]) c23_8)
def c23_10 : A := .seq (.seq (.reg r23_1 [0, 1, 12]) c23_1) (.seq (.keep [0, 1]) c23_9)
def c23 : A := .seq (.reg r23_0 [0, 1]) c23_10
theorem B23 : Body Tryd.prog 23 37 [.tmp 4] c23 := ⟨by kernel_rfl, _, _, [(0, [0, 1]), (1, [0, 1, 12]), (2, [4]), (3, [0, 1, 21]), (4, [4]), (5, [0, 1, 5, 6]), (6, [0, 1, 5, 31]), (7, [4]), (8, [4]), (2003, [0, 1]), (2005, [0, 1]), (2008, [0, 1])], Tryd.func23, rfl, rfl, rfl, by kernel_rfl⟩
/-! ### 69 strings.indexFunc -/
def r69_0 : List O := [⟨some 6, .assign (.const (.int .i64 0)), 3, none⟩]
def r69_1 : List O := [⟨some 9, .move (.tmp 0), 9, none⟩,
  ⟨some 10, .range 9 (.tmp 9), 0, none⟩]
def r69_2 : List O := [⟨some 11, .next (.tmp 10) true, 0, none⟩,
  ⟨some 12, .extract (.tmp 11) 0, 4, none⟩]
def r69_3 : List O := [⟨some 13, .extract (.tmp 11) 1, 3, none⟩,
  ⟨some 14, .extract (.tmp 11) 2, 21, none⟩,
  ⟨some 7, .assign (.tmp 13), 3, none⟩,
  ⟨some 8, .assign (.tmp 14), 21, none⟩]
def r69_4 : List O := [⟨some 15, .move (.tmp 1), 96, none⟩,
  ⟨some 16, .move (.tmp 8), 21, none⟩,
  ⟨some 17, .call { callee := .value (.tmp 15), args := #[.tmp 16], argTypes := #[21] }, 4, none⟩,
  ⟨some 18, .move (.tmp 2), 4, none⟩,
  ⟨some 19, .binOp .eql 4 (.tmp 17) (.tmp 18) 4, 4, none⟩]
def r69_5 : List O := [⟨some 20, .move (.tmp 7), 3, none⟩,
  ⟨some 6, .assign (.tmp 20), 3, none⟩]
def r69_6 : List O := [⟨some 6, .assign (.const (.int .i64 (-1))), 3, none⟩]
def c69_0 : A := .seq (.reg r69_5 [6]) .ret
def c69_1 : A := .cond (.tmp 19) c69_0 .skip
def c69_2 : A := .seq (.reg r69_4 [1, 2, 7, 10, 19]) c69_1
def c69_3 : A := .seq (.reg r69_3 [1, 2, 7, 8, 10]) c69_2
def c69_4 : A := .block 1 c69_3
def c69_5 : A := .seq (.cond (.tmp 12) .skip (.exit 0)) (.seq (.keep [1, 2, 10, 11]) c69_4)
def c69_6 : A := .seq (.reg r69_2 [1, 2, 10, 11, 12]) c69_5
def c69_7 : A := .seq c69_6 (.keep [1, 2, 10])
def c69_8 : A := .loop c69_7
def c69_9 : A := .block 0 c69_8
def c69_10 : A := .seq (.reg r69_6 [6]) .ret
def c69_11 : A := .seq (.seq (.reg r69_1 [1, 2, 10]) c69_9) c69_10
def c69 : A := .seq (.reg r69_0 [0, 1, 2]) c69_11
theorem B69 : Body Tryd.prog 69 21 [.tmp 6] c69 := ⟨by kernel_rfl, _, _, [(0, [0, 1, 2]), (1, [1, 2, 10]), (2, [1, 2, 10, 11, 12]), (3, [1, 2, 7, 8, 10]), (4, [1, 2, 7, 10, 19]), (5, [6]), (6, [6]), (1002, [1, 2, 10]), (2003, [1, 2, 10, 11])], Tryd.func69, rfl, rfl, rfl, by kernel_rfl⟩
/-! ### 49 strings.IndexFunc -/
def r49_0 : List O := [⟨some 4, .assign (.const (.int .i64 0)), 3, none⟩]
def r49_1 : List O := [⟨some 5, .move (.tmp 0), 9, none⟩,
  ⟨some 6, .move (.tmp 1), 96, none⟩,
  ⟨some 7, .call { callee := .value (.func 69), args := #[.tmp 5, .tmp 6, .const (.bool true)], argTypes := #[9, 96, 4] }, 3, none⟩,
  ⟨some 4, .assign (.tmp 7), 3, none⟩]
def c49_0 : A := .seq (.reg r49_1 [4]) .ret
def c49 : A := .seq (.reg r49_0 [0, 1]) c49_0
theorem B49 : Body Tryd.prog 49 8 [.tmp 4] c49 := ⟨by kernel_rfl, _, _, [(0, [0, 1]), (1, [4])], Tryd.func49, rfl, rfl, rfl, by kernel_rfl⟩
end Go.Proofs.YtoabcmhiaknjiaaDoor

set_option maxRecDepth 100000
set_option linter.unusedSimpArgs false
set_option linter.unusedVariables false
namespace Go.Proofs.YtoabcmhiaknjiaaDoor
open Go.Hw
theorem uStr : Tryd.prog.underlying 9 = some .string := Tryd.underlying9
theorem uStrs : Tryd.prog.underlying 24 = some (.slice 9) := Tryd.underlying24
theorem append_str {G H : Hp} {K : Value → Hp → Prop} {X : List PanicEntry → Hp → Prop} {ty : TypeId} {cs : Array Bool} {v : Value} {n : Nat} {l : List (List UInt8)} (c : List UInt8)
    (own : OwnS (H.size ≤ ·) 9 1 G v n (strs l)) (hE : Ext H G) (hlen : n ≤ 1000000000)
    (k : ∀ v' G', OwnS (H.size ≤ ·) 9 1 G' v' (n + 1) (strs (l ++ [c])) → Ext H G' → K v' G') :
    callA Tryd.prog (.builtin .append) #[24, 24] ty cs [v, .slice (some ⟨G.size, 0, none⟩) 1 1] K X (G.push (.cells (Value.cells (.string (B c))) 9)) := by
  refine append_lit (ok := (H.size ≤ ·)) own uStrs ty9 rfl rfl (by intro u hu; simp [Value.cells] at hu; subst hu; rfl) (fun b hb => Nat.le_trans hE.size hb) (by omega) (by omega) fun v' G' h1 h2 h3 => k v' G' ?_ ?_
  · have : strs (l ++ [c]) = strs l ++ (Value.cells (.string (B c))).toList := by simp [strs, Value.cells]
    rw [this]; exact h1
  · exact hE.own own (fun b hb => hb) h2

theorem uBool : Tryd.prog.underlying 4 = some .bool := Tryd.underlying4

theorem u8_inj {a b : UInt8} : ((a.toNat : Int) = (b.toNat : Int)) ↔ a = b := by
  constructor
  · intro h; exact UInt8.toNat_inj.1 (by omega)
  · intro h; rw [h]

theorem trimLeftByte (c : UInt8) (H : Hp) : ∀ (l : List UInt8) {K : Ending → Hp → Prop} (_ : l.length < 9223372036854775807) (_ : K (.returned (.string (B (l.dropWhile (· == c))))) H),
    HCall Tryd.prog 45 #[.string (B l), .int .u8 c.toNat] H K := by
  intro l K hl h
  refine hcall mixed B45 (args := [.string (B l), .int .u8 c.toNat]) (by simp) ?_
  simp only [go_sem, reduceCtorEq, Nat.reduceEqDiff, Nat.reduceAdd, c45, r45_0, c45_6]
  revert hl h
  induction l with
  | nil =>
    intro hl h
    refine aw_loopq (L := c45_4) rfl ?_
    simp only [go_sem, reduceCtorEq, Nat.reduceEqDiff, Nat.reduceAdd, c45_3, c45_2, r45_1, len_B uStr, List.length_nil, Int.natCast_zero, Int.lt_irrefl, decide_false, c45_0, c45_5, r45_3]
    exact h
  | cons b r ih =>
    intro hl h
    refine aw_loopq (L := c45_4) rfl ?_
    have h0 : (0 : Int) < ((b :: r).length : Int) := by simp only [List.length_cons]; omega
    simp only [go_sem, reduceCtorEq, Nat.reduceEqDiff, Nat.reduceAdd, c45_3, c45_2, r45_1, len_B uStr, decide_eq_true h0]
    rw [idxA_B uStr (by omega) (by omega)]
    simp only [Int.toNat_zero, List.getD_cons_zero]
    by_cases hbc : b = c
    · subst hbc
      simp only [go_sem, reduceCtorEq, Nat.reduceEqDiff, Nat.reduceAdd, decide_true, c45_0, c45_1, r45_2]
      rw [sliA_lo uStr (by omega) (by simp only [List.length_cons]; omega)]
      simp only [go_sem, reduceCtorEq, Nat.reduceEqDiff, Nat.reduceAdd, Int.toNat_one, List.drop_one, List.tail_cons]
      refine ih (by simp only [List.length_cons] at hl; omega) ?_
      simpa using h
    · have hne : decide ((b.toNat : Int) = (c.toNat : Int)) = false := by rw [decide_eq_false_iff_not, u8_inj]; exact hbc
      simp only [go_sem, reduceCtorEq, Nat.reduceEqDiff, Nat.reduceAdd, hne, c45_0, c45_5, r45_3]
      have : (b :: r).dropWhile (· == c) = b :: r := by rw [List.dropWhile_cons, if_neg (by simpa using hbc)]
      rw [this] at h
      exact h

theorem trimLeft_blank (H : Hp) (l : List UInt8) {K : Ending → Hp → Prop} (hl : l.length < 9223372036854775807) (h : K (.returned (.string (B (l.dropWhile (· == 32))))) H) :
    HCall Tryd.prog 23 #[.string (B l), .string ⟨#[32]⟩] H K := by
  refine hcall mixed B23 (args := [.string (B l), .string (B [32])]) (by simp) ?_
  simp only [go_sem, reduceCtorEq, Nat.reduceEqDiff, Nat.reduceAdd, c23, r23_0, c23_10, r23_1, B_lit, B_toList]
  cases l with
  | nil =>
    simp only [go_sem, reduceCtorEq, Nat.reduceEqDiff, Nat.reduceAdd, c23_1, c23_0, r23_2, beq_self_eq_true]
    exact h
  | cons b r =>
    have e1 : ((b :: r : List UInt8) == []) = false := rfl
    have e2 : (([32] : List UInt8) == []) = false := rfl
    simp only [go_sem, reduceCtorEq, Nat.reduceEqDiff, Nat.reduceAdd, e1, e2, B_toList, c23_1, c23_9, r23_3, len_B uStr]
    have e3 : decide ((([32] : List UInt8).length : Int) = 1) = true := rfl
    simp only [go_sem, reduceCtorEq, Nat.reduceEqDiff, Nat.reduceAdd, e3]
    rw [idxA_B uStr (by omega) (by decide)]
    have e4 : decide ((((([32] : List UInt8).getD (Int.toNat 0) 0).toNat : Nat) : Int) < 128) = true := rfl
    simp only [go_sem, reduceCtorEq, Nat.reduceEqDiff, Nat.reduceAdd, e4, c23_3, c23_2, r23_4]
    rw [idxA_B uStr (by omega) (by decide)]
    simp only [go_sem, reduceCtorEq, Nat.reduceEqDiff, Nat.reduceAdd, callA_fn0 pl45]
    refine trimLeftByte 32 H (b :: r) hl ?_
    simp only [go_sem, reduceCtorEq, Nat.reduceEqDiff, Nat.reduceAdd, ]
    exact h


/-- The index that IndexFunc finds. -/
def idxOf (p : Int → Bool) (l : List UInt8) : Int := match l.findIdx? (fun b => p b.toNat) with | some i => i | none => -1

theorem indexFunc (f : Nat) (hpl : Plain Tryd.prog f) (p : Int → Bool) (hcall' : ∀ (c : Int) (H : Hp) {K : Ending → Hp → Prop}, K (.returned (.bool (p c))) H → HCall Tryd.prog f #[.int .i32 c] H K) (hhigh : ∀ c : Int, 128 ≤ c → p c = true)
    (l : List UInt8) (H : Hp) {K : Ending → Hp → Prop} (h : ∀ H', Ext H H' → K (.returned (.int .i64 (idxOf p l))) H') : HCall Tryd.prog 69 #[.string (B l), .func (.func f) #[] #[], .bool true] H K := by
  refine hcall mixed B69 (args := [.string (B l), .func (.func f) #[] #[], .bool true]) (by simp) ?_
  simp only [go_sem, reduceCtorEq, Nat.reduceEqDiff, Nat.reduceAdd, c69, r69_0, c69_11, r69_1]
  rw [rngA_string uStr]
  simp only [go_sem, reduceCtorEq, Nat.reduceEqDiff, Nat.reduceAdd, c69_9]
  have key : ∀ (n pos : Nat) (G : Hp), l.length - pos = n → pos ≤ l.length → (∀ i, i < pos → p ((l.getD i 0).toNat) = false) → G[H.size]? = some (.stringIter (B l) pos) → Ext H G →
      aw Tryd.prog 21 c69_8 (blkE 0 (seqQ Tryd.prog 21 c69_10 (retK Tryd.prog [.tmp 6] K))) [(1, .func (.func f) #[] #[]), (2, .bool true), (10, .pointer (some ⟨H.size, 0, none⟩))] G := by
    intro n
    induction n with
    | zero =>
      intro pos G hn hpos hall hG hE
      refine aw_loopq (L := c69_8) rfl ?_
      simp only [go_sem, reduceCtorEq, Nat.reduceEqDiff, Nat.reduceAdd, c69_7, c69_6, r69_2]
      rw [nxtA_string_end hG (by rw [B_size]; omega)]
      simp only [go_sem, reduceCtorEq, Nat.reduceEqDiff, Nat.reduceAdd, c69_5, c69_10, r69_6]
      have : idxOf p l = -1 := by
        unfold idxOf
        rw [List.findIdx?_eq_none_iff.2]
        intro b hb
        obtain ⟨i, hi, rfl⟩ := List.getElem_of_mem hb
        have := hall i (by omega)
        rwa [getD_lt hi] at this
      rw [← this]
      exact h G hE
    | succ n ih =>
      intro pos G hn hpos hall hG hE
      have hlt : pos < l.length := by omega
      have hb : l[pos]? = some (l[pos]) := List.getElem?_eq_getElem hlt
      refine aw_loopq (L := c69_8) rfl ?_
      simp only [go_sem, reduceCtorEq, Nat.reduceEqDiff, Nat.reduceAdd, c69_7, c69_6, r69_2]
      rw [nxtA_string hG (by rw [B_size]; omega)]
      simp only [go_sem, reduceCtorEq, Nat.reduceEqDiff, Nat.reduceAdd, c69_5, c69_4, c69_3, r69_3, c69_2, r69_4, callA_fn0 hpl]
      refine hcall' _ _ ?_
      simp only [go_sem, reduceCtorEq, Nat.reduceEqDiff, Nat.reduceAdd, ]
      rw [binA_beql uBool]
      have found : p (Utf8.decode (B l) pos).1 = true → p ((l[pos]).toNat) = true → idxOf p l = pos := by
        intro _ hp
        unfold idxOf
        have : l.findIdx? (fun b => p b.toNat) = some pos := by
          rw [List.findIdx?_eq_some_iff_getElem]
          refine ⟨hlt, hp, fun j hj => ?_⟩
          have := hall j hj
          rw [getD_lt (by omega)] at this
          simp [this]
        rw [this]
      by_cases hhi : 128 ≤ (l[pos]).toNat
      · have hd := dec_high hb hhi
        have hp1 := hhigh (Utf8.decode (B l) pos).1 (by omega)
        have hp2 := hhigh (l[pos]).toNat (by omega)
        have hf := found hp1 hp2
        simp only [go_sem, reduceCtorEq, Nat.reduceEqDiff, Nat.reduceAdd, hp1, beq_self_eq_true, c69_1, c69_0, r69_5]
        rw [← hf]
        exact h _ (hE.set (Nat.le_refl _))
      · have hd := decode_low hb (by omega)
        rw [hd] at found ⊢
        by_cases hp : p (l[pos]).toNat = true
        · have hf := found hp hp
          simp only [go_sem, reduceCtorEq, Nat.reduceEqDiff, Nat.reduceAdd, hp, beq_self_eq_true, c69_1, c69_0, r69_5]
          rw [← hf]
          exact h _ (hE.set (Nat.le_refl _))
        · have hp' : p (l[pos]).toNat = false := by simpa using hp
          simp only [go_sem, reduceCtorEq, Nat.reduceEqDiff, Nat.reduceAdd, hp', show (false == true) = false from rfl, c69_1]
          refine ih (pos + 1) _ (by omega) (by omega) (fun i hi => ?_) (get_set hG) (hE.set (Nat.le_refl _))
          by_cases hip : i = pos
          · subst hip; rw [getD_lt hlt]; exact hp'
          · exact hall i (by omega)
  exact key _ 0 _ rfl (Nat.zero_le _) (fun i hi => by omega) get_push_eq (Ext.push _ _)

theorem indexFuncE (f : Nat) (hpl : Plain Tryd.prog f) (p : Int → Bool) (hcall' : ∀ (c : Int) (H : Hp) {K : Ending → Hp → Prop}, K (.returned (.bool (p c))) H → HCall Tryd.prog f #[.int .i32 c] H K) (hhigh : ∀ c : Int, 128 ≤ c → p c = true)
    (l : List UInt8) (H : Hp) {K : Ending → Hp → Prop} (h : ∀ H', Ext H H' → K (.returned (.int .i64 (idxOf p l))) H') : HCall Tryd.prog 49 #[.string (B l), .func (.func f) #[] #[]] H K := by
  refine hcall mixed B49 (args := [.string (B l), .func (.func f) #[] #[]]) (by simp) ?_
  simp only [go_sem, reduceCtorEq, Nat.reduceEqDiff, Nat.reduceAdd, c49, r49_0, c49_0, r49_1, callA_fn0 pl69]
  refine indexFunc f hpl p hcall' hhigh l H fun H' hE => ?_
  simp only [go_sem, reduceCtorEq, Nat.reduceEqDiff, Nat.reduceAdd, ]
  exact h H' hE

end Go.Proofs.YtoabcmhiaknjiaaDoor

set_option maxRecDepth 100000
namespace Go.Proofs.YtoabcmhiaknjiaaDoor
open Go.Hw
/-! ### 79 strings.IndexRune -/
def r79_0 : List O := [⟨some 4, .assign (.const (.int .i64 0)), 3, none⟩]
def r79_34 : List O := [⟨some 161, .move (.tmp 1), 21, none⟩,
  ⟨some 162, .binOp .leq 21 (.const (.int .i32 0)) (.tmp 161) 21, 4, none⟩,
  ⟨some 163, .move (.tmp 162), 4, none⟩,
  ⟨some 164, .move (.tmp 1), 21, some (163, true)⟩,
  ⟨some 165, .binOp .lss 21 (.tmp 164) (.const (.int .i32 128)) 21, 4, some (163, true)⟩,
  ⟨some 166, .pick (.tmp 163) (.tmp 165) (.const (.bool false)), 4, none⟩,
  ⟨some 160, .assign (.tmp 166), 4, none⟩]
def r79_35 : List O := [⟨some 167, .move (.tmp 0), 9, none⟩,
  ⟨some 168, .move (.tmp 1), 21, none⟩,
  ⟨some 169, .convert 21 5 (.tmp 168), 5, none⟩,
  ⟨some 170, .call { callee := .value (.func 25), args := #[.tmp 167, .tmp 169], argTypes := #[9, 5] }, 3, none⟩,
  ⟨some 4, .assign (.tmp 170), 3, none⟩]
def r79_36 : List O := [⟨some 172, .move (.tmp 1), 21, none⟩,
  ⟨some 173, .binOp .eql 21 (.tmp 172) (.const (.int .i32 65533)) 21, 4, none⟩,
  ⟨some 171, .assign (.tmp 173), 4, none⟩]
def r79_37 : List O := [⟨some 174, .move (.tmp 0), 9, none⟩,
  ⟨some 175, .range 9 (.tmp 174), 0, none⟩]
def r79_38 : List O := [⟨some 176, .next (.tmp 175) true, 0, none⟩,
  ⟨some 177, .extract (.tmp 176) 0, 4, none⟩]
def r79_39 : List O := [⟨some 178, .extract (.tmp 176) 1, 3, none⟩,
  ⟨some 179, .extract (.tmp 176) 2, 21, none⟩,
  ⟨some 5, .assign (.tmp 178), 3, none⟩,
  ⟨some 6, .assign (.tmp 179), 21, none⟩]
def r79_40 : List O := [⟨some 180, .move (.tmp 6), 21, none⟩,
  ⟨some 181, .binOp .eql 21 (.tmp 180) (.const (.int .i32 65533)) 21, 4, none⟩]
def r79_41 : List O := [⟨some 182, .move (.tmp 5), 3, none⟩,
  ⟨some 4, .assign (.tmp 182), 3, none⟩]
def r79_42 : List O := [⟨some 4, .assign (.const (.int .i64 (-1))), 3, none⟩]
def r79_43 : List O := [⟨some 184, .move (.tmp 1), 21, none⟩,
  ⟨some 185, .call { callee := .value (.func 96), args := #[.tmp 184], argTypes := #[21] }, 4, none⟩,
  ⟨some 186, .unOp .not 4 (.tmp 185), 4, none⟩,
  ⟨some 183, .assign (.tmp 186), 4, none⟩]
def r79_44 : List O := [⟨some 4, .assign (.const (.int .i64 (-1))), 3, none⟩]
def r79_1 : List O := [⟨some 17, .move (.tmp 1), 21, none⟩,
  ⟨some 18, .convert 21 9 (.tmp 17), 9, none⟩,
  ⟨some 7, .assign (.tmp 18), 9, none⟩]
def r79_2 : List O := [⟨some 19, .move (.tmp 7), 9, none⟩,
  ⟨some 20, .call { callee := .builtin .len, args := #[.tmp 19], argTypes := #[9] }, 3, none⟩,
  ⟨some 21, .binOp .sub 3 (.tmp 20) (.const (.int .i64 1)) 3, 3, none⟩,
  ⟨some 8, .assign (.tmp 21), 3, none⟩]
def r79_3 : List O := [⟨some 22, .move (.tmp 8), 3, none⟩,
  ⟨some 9, .assign (.tmp 22), 3, none⟩]
def r79_4 : List O := [⟨some 10, .assign (.const (.int .i64 0)), 3, none⟩]
def r79_5 : List O := [⟨some 23, .move (.tmp 9), 3, none⟩,
  ⟨some 24, .move (.tmp 0), 9, none⟩,
  ⟨some 25, .call { callee := .builtin .len, args := #[.tmp 24], argTypes := #[9] }, 3, none⟩,
  ⟨some 26, .binOp .lss 3 (.tmp 23) (.tmp 25) 3, 4, none⟩]
def r79_6 : List O := [⟨some 27, .move (.tmp 0), 9, none⟩,
  ⟨some 28, .move (.tmp 9), 3, none⟩,
  ⟨some 29, .index 9 (.tmp 27) (.tmp 28), 5, none⟩,
  ⟨some 30, .move (.tmp 7), 9, none⟩,
  ⟨some 31, .move (.tmp 8), 3, none⟩,
  ⟨some 32, .index 9 (.tmp 30) (.tmp 31), 5, none⟩,
  ⟨some 33, .binOp .neq 5 (.tmp 29) (.tmp 32) 5, 4, none⟩]
def r79_7 : List O := [⟨some 34, .move (.tmp 0), 9, none⟩,
  ⟨some 35, .move (.tmp 9), 3, none⟩,
  ⟨some 36, .binOp .add 3 (.tmp 35) (.const (.int .i64 1)) 3, 3, none⟩,
  ⟨some 37, .slice 9 (.tmp 34) (some (.tmp 36)) none none, 9, none⟩,
  ⟨some 38, .move (.tmp 7), 9, none⟩,
  ⟨some 39, .move (.tmp 8), 3, none⟩,
  ⟨some 40, .index 9 (.tmp 38) (.tmp 39), 5, none⟩,
  ⟨some 41, .call { callee := .value (.func 25), args := #[.tmp 37, .tmp 40], argTypes := #[9, 5] }, 3, none⟩,
  ⟨some 11, .assign (.tmp 41), 3, none⟩]
def r79_8 : List O := [⟨some 42, .move (.tmp 11), 3, none⟩,
  ⟨some 43, .binOp .lss 3 (.tmp 42) (.const (.int .i64 0)) 3, 4, none⟩]
def r79_9 : List O := [⟨some 4, .assign (.const (.int .i64 (-1))), 3, none⟩]
def r79_10 : List O := [⟨some 44, .move (.tmp 9), 3, none⟩,
  ⟨some 45, .move (.tmp 11), 3, none⟩,
  ⟨some 46, .binOp .add 3 (.tmp 45) (.const (.int .i64 1)) 3, 3, none⟩,
  ⟨some 47, .binOp .add 3 (.tmp 44) (.tmp 46) 3, 3, none⟩,
  ⟨some 9, .assign (.tmp 47), 3, none⟩]
def r79_11 : List O := [⟨some 12, .assign (.const (.int .i64 1)), 3, none⟩]
def r79_12 : List O := [⟨some 48, .move (.tmp 12), 3, none⟩,
  ⟨some 49, .move (.tmp 7), 9, none⟩,
  ⟨some 50, .call { callee := .builtin .len, args := #[.tmp 49], argTypes := #[9] }, 3, none⟩,
  ⟨some 51, .binOp .lss 3 (.tmp 48) (.tmp 50) 3, 4, none⟩]
def r79_14 : List O := [⟨some 54, .move (.tmp 0), 9, none⟩,
  ⟨some 55, .move (.tmp 9), 3, none⟩,
  ⟨some 56, .move (.tmp 12), 3, none⟩,
  ⟨some 57, .binOp .sub 3 (.tmp 55) (.tmp 56) 3, 3, none⟩,
  ⟨some 58, .index 9 (.tmp 54) (.tmp 57), 5, none⟩,
  ⟨some 59, .move (.tmp 7), 9, none⟩,
  ⟨some 60, .move (.tmp 8), 3, none⟩,
  ⟨some 61, .move (.tmp 12), 3, none⟩,
  ⟨some 62, .binOp .sub 3 (.tmp 60) (.tmp 61) 3, 3, none⟩,
  ⟨some 63, .index 9 (.tmp 59) (.tmp 62), 5, none⟩,
  ⟨some 64, .binOp .neq 5 (.tmp 58) (.tmp 63) 5, 4, none⟩]
def r79_13 : List O := [⟨some 52, .move (.tmp 12), 3, none⟩,
  ⟨some 53, .binOp .add 3 (.tmp 52) (.const (.int .i64 1)) 3, 3, none⟩,
  ⟨some 12, .assign (.tmp 53), 3, none⟩]
def r79_15 : List O := [⟨some 65, .move (.tmp 9), 3, none⟩,
  ⟨some 66, .move (.tmp 8), 3, none⟩,
  ⟨some 67, .binOp .sub 3 (.tmp 65) (.tmp 66) 3, 3, none⟩,
  ⟨some 4, .assign (.tmp 67), 3, none⟩]
def r79_16 : List O := [⟨some 68, .move (.tmp 10), 3, none⟩,
  ⟨some 69, .binOp .add 3 (.tmp 68) (.const (.int .i64 1)) 3, 3, none⟩,
  ⟨some 10, .assign (.tmp 69), 3, none⟩]
def r79_17 : List O := [⟨some 70, .move (.tmp 9), 3, none⟩,
  ⟨some 71, .binOp .add 3 (.tmp 70) (.const (.int .i64 1)) 3, 3, none⟩,
  ⟨some 9, .assign (.tmp 71), 3, none⟩]
def r79_18 : List O := [⟨some 72, .move (.const (.bool true)), 4, none⟩,
  ⟨some 73, .move (.tmp 10), 3, some (72, true)⟩,
  ⟨some 74, .move (.tmp 9), 3, some (72, true)⟩,
  ⟨some 75, .call { callee := .value (.func 83), args := #[.tmp 74], argTypes := #[3] }, 3, some (72, true)⟩,
  ⟨some 76, .binOp .gtr 3 (.tmp 73) (.tmp 75) 3, 4, some (72, true)⟩,
  ⟨some 77, .pick (.tmp 72) (.tmp 76) (.const (.bool false)), 4, none⟩,
  ⟨some 78, .move (.tmp 77), 4, none⟩,
  ⟨some 79, .move (.tmp 9), 3, some (78, true)⟩,
  ⟨some 80, .move (.tmp 0), 9, some (78, true)⟩,
  ⟨some 81, .call { callee := .builtin .len, args := #[.tmp 80], argTypes := #[9] }, 3, some (78, true)⟩,
  ⟨some 82, .binOp .lss 3 (.tmp 79) (.tmp 81) 3, 4, some (78, true)⟩,
  ⟨some 83, .pick (.tmp 78) (.tmp 82) (.const (.bool false)), 4, none⟩,
  ⟨some 84, .move (.tmp 83), 4, none⟩,
  ⟨some 85, .move (.const (.bool false)), 4, some (84, false)⟩,
  ⟨some 86, .move (.tmp 10), 3, some (85, true)⟩,
  ⟨some 87, .move (.tmp 9), 3, some (85, true)⟩,
  ⟨some 88, .binOp .shr 3 (.tmp 87) (.const (.int .u64 4)) 84, 3, some (85, true)⟩,
  ⟨some 89, .binOp .add 3 (.const (.int .i64 4)) (.tmp 88) 3, 3, some (85, true)⟩,
  ⟨some 90, .binOp .geq 3 (.tmp 86) (.tmp 89) 3, 4, some (85, true)⟩,
  ⟨some 91, .pick (.tmp 85) (.tmp 90) (.const (.bool false)), 4, some (84, false)⟩,
  ⟨some 92, .move (.tmp 91), 4, some (84, false)⟩,
  ⟨some 93, .move (.tmp 9), 3, some (92, true)⟩,
  ⟨some 94, .move (.tmp 0), 9, some (92, true)⟩,
  ⟨some 95, .call { callee := .builtin .len, args := #[.tmp 94], argTypes := #[9] }, 3, some (92, true)⟩,
  ⟨some 96, .binOp .lss 3 (.tmp 93) (.tmp 95) 3, 4, some (92, true)⟩,
  ⟨some 97, .pick (.tmp 92) (.tmp 96) (.const (.bool false)), 4, some (84, false)⟩,
  ⟨some 98, .pick (.tmp 84) (.const (.bool true)) (.tmp 97), 4, none⟩]
def r79_19 : List O := [⟨some 4, .assign (.const (.int .i64 (-1))), 3, none⟩]
def r79_20 : List O := [⟨some 99, .move (.tmp 0), 9, none⟩,
  ⟨some 100, .move (.tmp 9), 3, none⟩,
  ⟨some 101, .move (.tmp 8), 3, none⟩,
  ⟨some 102, .binOp .sub 3 (.tmp 100) (.tmp 101) 3, 3, none⟩,
  ⟨some 103, .slice 9 (.tmp 99) (some (.tmp 102)) none none, 9, none⟩,
  ⟨some 104, .move (.tmp 1), 21, none⟩,
  ⟨some 105, .convert 21 9 (.tmp 104), 9, none⟩,
  ⟨some 106, .call { callee := .value (.func 82), args := #[.tmp 103, .tmp 105], argTypes := #[9, 9] }, 3, none⟩,
  ⟨some 13, .assign (.tmp 106), 3, none⟩]
def r79_21 : List O := [⟨some 107, .move (.tmp 13), 3, none⟩,
  ⟨some 108, .binOp .geq 3 (.tmp 107) (.const (.int .i64 0)) 3, 4, none⟩]
def r79_22 : List O := [⟨some 109, .move (.tmp 9), 3, none⟩,
  ⟨some 110, .move (.tmp 13), 3, none⟩,
  ⟨some 111, .binOp .add 3 (.tmp 109) (.tmp 110) 3, 3, none⟩,
  ⟨some 112, .move (.tmp 8), 3, none⟩,
  ⟨some 113, .binOp .sub 3 (.tmp 111) (.tmp 112) 3, 3, none⟩,
  ⟨some 4, .assign (.tmp 113), 3, none⟩]
def r79_23 : List O := [⟨some 114, .move (.tmp 7), 9, none⟩,
  ⟨some 115, .move (.tmp 8), 3, none⟩,
  ⟨some 116, .index 9 (.tmp 114) (.tmp 115), 5, none⟩,
  ⟨some 14, .assign (.tmp 116), 5, none⟩]
def r79_24 : List O := [⟨some 117, .move (.tmp 7), 9, none⟩,
  ⟨some 118, .move (.tmp 8), 3, none⟩,
  ⟨some 119, .binOp .sub 3 (.tmp 118) (.const (.int .i64 1)) 3, 3, none⟩,
  ⟨some 120, .index 9 (.tmp 117) (.tmp 119), 5, none⟩,
  ⟨some 15, .assign (.tmp 120), 5, none⟩]
def r79_25 : List O := [⟨some 121, .move (.tmp 9), 3, none⟩,
  ⟨some 122, .move (.tmp 0), 9, none⟩,
  ⟨some 123, .call { callee := .builtin .len, args := #[.tmp 122], argTypes := #[9] }, 3, none⟩,
  ⟨some 124, .binOp .lss 3 (.tmp 121) (.tmp 123) 3, 4, none⟩]
def r79_27 : List O := [⟨some 127, .move (.tmp 0), 9, none⟩,
  ⟨some 128, .move (.tmp 9), 3, none⟩,
  ⟨some 129, .index 9 (.tmp 127) (.tmp 128), 5, none⟩,
  ⟨some 130, .move (.tmp 14), 5, none⟩,
  ⟨some 131, .binOp .eql 5 (.tmp 129) (.tmp 130) 5, 4, none⟩,
  ⟨some 132, .move (.tmp 131), 4, none⟩,
  ⟨some 133, .move (.tmp 0), 9, some (132, true)⟩,
  ⟨some 134, .move (.tmp 9), 3, some (132, true)⟩,
  ⟨some 135, .binOp .sub 3 (.tmp 134) (.const (.int .i64 1)) 3, 3, some (132, true)⟩,
  ⟨some 136, .index 9 (.tmp 133) (.tmp 135), 5, some (132, true)⟩,
  ⟨some 137, .move (.tmp 15), 5, some (132, true)⟩,
  ⟨some 138, .binOp .eql 5 (.tmp 136) (.tmp 137) 5, 4, some (132, true)⟩,
  ⟨some 139, .pick (.tmp 132) (.tmp 138) (.const (.bool false)), 4, none⟩]
def r79_28 : List O := [⟨some 16, .assign (.const (.int .i64 2)), 3, none⟩]
def r79_29 : List O := [⟨some 140, .move (.tmp 16), 3, none⟩,
  ⟨some 141, .move (.tmp 7), 9, none⟩,
  ⟨some 142, .call { callee := .builtin .len, args := #[.tmp 141], argTypes := #[9] }, 3, none⟩,
  ⟨some 143, .binOp .lss 3 (.tmp 140) (.tmp 142) 3, 4, none⟩]
def r79_31 : List O := [⟨some 146, .move (.tmp 0), 9, none⟩,
  ⟨some 147, .move (.tmp 9), 3, none⟩,
  ⟨some 148, .move (.tmp 16), 3, none⟩,
  ⟨some 149, .binOp .sub 3 (.tmp 147) (.tmp 148) 3, 3, none⟩,
  ⟨some 150, .index 9 (.tmp 146) (.tmp 149), 5, none⟩,
  ⟨some 151, .move (.tmp 7), 9, none⟩,
  ⟨some 152, .move (.tmp 8), 3, none⟩,
  ⟨some 153, .move (.tmp 16), 3, none⟩,
  ⟨some 154, .binOp .sub 3 (.tmp 152) (.tmp 153) 3, 3, none⟩,
  ⟨some 155, .index 9 (.tmp 151) (.tmp 154), 5, none⟩,
  ⟨some 156, .binOp .neq 5 (.tmp 150) (.tmp 155) 5, 4, none⟩]
def r79_30 : List O := [⟨some 144, .move (.tmp 16), 3, none⟩,
  ⟨some 145, .binOp .add 3 (.tmp 144) (.const (.int .i64 1)) 3, 3, none⟩,
  ⟨some 16, .assign (.tmp 145), 3, none⟩]
def r79_32 : List O := [⟨some 157, .move (.tmp 9), 3, none⟩,
  ⟨some 158, .move (.tmp 8), 3, none⟩,
  ⟨some 159, .binOp .sub 3 (.tmp 157) (.tmp 158) 3, 3, none⟩,
  ⟨some 4, .assign (.tmp 159), 3, none⟩]
def r79_26 : List O := [⟨some 125, .move (.tmp 9), 3, none⟩,
  ⟨some 126, .binOp .add 3 (.tmp 125) (.const (.int .i64 1)) 3, 3, none⟩,
  ⟨some 9, .assign (.tmp 126), 3, none⟩]
def r79_33 : List O := [⟨some 4, .assign (.const (.int .i64 (-1))), 3, none⟩]
def c79_0 : A := .seq (.reg r79_35 [4]) .ret
def c79_1 : A := .seq (.reg r79_41 [4]) .ret
def c79_2 : A := .cond (.tmp 181) c79_1 .skip
def c79_3 : A := .seq (.reg r79_40 [5, 175, 181]) c79_2
def c79_4 : A := .seq (.reg r79_39 [5, 6, 175]) c79_3
def c79_5 : A := .block 10 c79_4
def c79_6 : A := .seq (.cond (.tmp 177) .skip (.exit 9)) (.seq (.keep [175, 176]) c79_5)
def c79_7 : A := .seq (.reg r79_38 [175, 176, 177]) c79_6
def c79_8 : A := .seq c79_7 (.keep [175])
def c79_9 : A := .loop c79_8
def c79_10 : A := .block 9 c79_9
def c79_11 : A := .seq (.reg r79_42 [4]) .ret
def c79_12 : A := .seq (.seq (.reg r79_37 [175]) c79_10) c79_11
def c79_13 : A := .seq (.reg r79_44 [4]) .ret
def c79_14 : A := .cond (.tmp 26) .skip (.exit 1)
def c79_15 : A := .seq (.reg r79_9 [4]) .ret
def c79_16 : A := .cond (.tmp 43) c79_15 .skip
def c79_17 : A := .seq (.seq (.reg r79_8 [0, 7, 8, 9, 11, 43]) c79_16) (.seq (.keep [0, 7, 8, 9, 11]) (.reg r79_10 [0, 7, 8, 9]))
def c79_18 : A := .seq (.draw 7 r79_7 [0, 7, 8, 9, 11]) c79_17
def c79_19 : A := .cond (.tmp 33) c79_18 .skip
def c79_20 : A := .cond (.tmp 51) .skip (.exit 3)
def c79_21 : A := .raw (Go.Code.goto 0)
def c79_22 : A := .cond (.tmp 64) c79_21 .skip
def c79_23 : A := .seq (.draw 10 r79_14 [0, 7, 8, 9, 12, 64]) c79_22
def c79_24 : A := .seq (.block 4 c79_23) (.reg r79_13 [0, 7, 8, 9, 12])
def c79_25 : A := .seq (.seq (.reg r79_12 [0, 7, 8, 9, 12, 51]) c79_20) (.seq (.keep [0, 7, 8, 9, 12]) c79_24)
def c79_26 : A := .seq c79_25 (.keep [0, 7, 8, 9, 12])
def c79_27 : A := .loop c79_26
def c79_28 : A := .block 3 c79_27
def c79_29 : A := .raw (Go.Code.goto 1)
def c79_30 : A := .cond (.tmp 98) c79_29 .skip
def c79_31 : A := .seq (.reg r79_18 [0, 7, 8, 9, 98]) c79_30
def c79_32 : A := .seq (.reg r79_17 [0, 7, 8, 9, 10]) c79_31
def c79_33 : A := .seq (.reg r79_16 [0, 7, 8, 9, 10]) c79_32
def c79_34 : A := .seq .skip c79_33
def c79_35 : A := .seq (.seq (.reg r79_15 [4]) .ret) c79_34
def c79_36 : A := .seq (.seq (.reg r79_11 [0, 7, 8, 9, 12]) c79_28) c79_35
def c79_37 : A := .seq (.seq (.draw 6 r79_6 [0, 7, 8, 9, 33]) c79_19) (.seq (.keep [0, 7, 8, 9]) c79_36)
def c79_38 : A := .block 2 c79_37
def c79_39 : A := .seq (.seq (.reg r79_5 [0, 7, 8, 9, 26]) c79_14) (.seq (.keep [0, 7, 8, 9]) c79_38)
def c79_40 : A := .seq c79_39 (.keep [0, 7, 8, 9])
def c79_41 : A := .loop c79_40
def c79_42 : A := .seq (.reg r79_22 [4]) .ret
def c79_43 : A := .cond (.tmp 108) c79_42 .skip
def c79_44 : A := .seq (.reg r79_21 [8, 9, 13, 108]) c79_43
def c79_45 : A := .seq (.reg r79_20 [8, 9, 13]) c79_44
def c79_46 : A := .cond (.tmp 124) .skip (.exit 5)
def c79_47 : A := .cond (.tmp 143) .skip (.exit 7)
def c79_48 : A := .cond (.tmp 156) (.exit 6) .skip
def c79_49 : A := .seq (.draw 10 r79_31 [0, 7, 8, 9, 14, 15, 16, 156]) c79_48
def c79_50 : A := .seq (.block 8 c79_49) (.reg r79_30 [0, 7, 8, 9, 14, 15, 16])
def c79_51 : A := .seq (.seq (.reg r79_29 [0, 7, 8, 9, 14, 15, 16, 143]) c79_47) (.seq (.keep [0, 7, 8, 9, 14, 15, 16]) c79_50)
def c79_52 : A := .seq c79_51 (.keep [0, 7, 8, 9, 14, 15, 16])
def c79_53 : A := .loop c79_52
def c79_54 : A := .block 7 c79_53
def c79_55 : A := .seq (.reg r79_32 [4]) .ret
def c79_56 : A := .seq (.seq (.reg r79_28 [0, 7, 8, 9, 14, 15, 16]) c79_54) c79_55
def c79_57 : A := .cond (.tmp 139) c79_56 .skip
def c79_58 : A := .seq (.reg r79_27 [0, 7, 8, 9, 14, 15, 139]) c79_57
def c79_59 : A := .seq (.block 6 c79_58) (.reg r79_26 [0, 7, 8, 9, 14, 15])
def c79_60 : A := .seq (.seq (.reg r79_25 [0, 7, 8, 9, 14, 15, 124]) c79_46) (.seq (.keep [0, 7, 8, 9, 14, 15]) c79_59)
def c79_61 : A := .seq c79_60 (.keep [0, 7, 8, 9, 14, 15])
def c79_62 : A := .loop c79_61
def c79_63 : A := .block 5 c79_62
def c79_64 : A := .seq .skip c79_63
def c79_65 : A := .seq (.reg r79_24 [0, 7, 8, 9, 14, 15]) c79_64
def c79_66 : A := .seq (.reg r79_23 [0, 7, 8, 9, 14]) c79_65
def c79_67 : A := .seq (.reg r79_33 [4]) .ret
def c79_68 : A := .seq (.cond (.const (.bool true)) c79_45 c79_66) (.seq (.keep []) c79_67)
def c79_69 : A := .seq .skip c79_68
def c79_70 : A := .seq (.seq (.reg r79_19 [4]) .ret) c79_69
def c79_71 : A := .seq (.block 1 c79_41) c79_70
def c79_72 : A := .seq (.reg r79_4 [0, 7, 8, 9]) c79_71
def c79_73 : A := .seq (.reg r79_3 [0, 7, 8, 9]) c79_72
def c79_74 : A := .seq (.reg r79_2 [0, 7, 8]) c79_73
def c79_75 : A := .seq (.reg r79_1 [0, 7]) c79_74
def c79_76 : A := .cond (.tmp 183) c79_13 c79_75
def c79_77 : A := .seq (.reg r79_43 [0, 1, 183]) c79_76
def c79_78 : A := .cond (.tmp 171) c79_12 c79_77
def c79_79 : A := .seq (.reg r79_36 [0, 1, 171]) c79_78
def c79_80 : A := .cond (.tmp 160) c79_0 c79_79
def c79_81 : A := .seq (.reg r79_34 [0, 1, 160]) c79_80
def c79_82 : A := .block 0 c79_81
def c79 : A := .seq (.reg r79_0 [0, 1]) c79_82
theorem B79 : Body Tryd.prog 79 187 [.tmp 4] c79 := ⟨by kernel_rfl, _, _, [(0, [0, 1]), (1, [0, 7]), (2, [0, 7, 8]), (3, [0, 7, 8, 9]), (4, [0, 7, 8, 9]), (5, [0, 7, 8, 9, 26]), (6, [0, 7, 8, 9, 33]), (7, [0, 7, 8, 9, 11]), (8, [0, 7, 8, 9, 11, 43]), (9, [4]), (10, [0, 7, 8, 9]), (11, [0, 7, 8, 9, 12]), (12, [0, 7, 8, 9, 12, 51]), (13, [0, 7, 8, 9, 12]), (14, [0, 7, 8, 9, 12, 64]), (15, [4]), (16, [0, 7, 8, 9, 10]), (17, [0, 7, 8, 9, 10]), (18, [0, 7, 8, 9, 98]), (19, [4]), (20, [8, 9, 13]), (21, [8, 9, 13, 108]), (22, [4]), (23, [0, 7, 8, 9, 14]), (24, [0, 7, 8, 9, 14, 15]), (25, [0, 7, 8, 9, 14, 15, 124]), (26, [0, 7, 8, 9, 14, 15]), (27, [0, 7, 8, 9, 14, 15, 139]), (28, [0, 7, 8, 9, 14, 15, 16]), (29, [0, 7, 8, 9, 14, 15, 16, 143]), (30, [0, 7, 8, 9, 14, 15, 16]), (31, [0, 7, 8, 9, 14, 15, 16, 156]), (32, [4]), (33, [4]), (34, [0, 1, 160]), (35, [4]), (36, [0, 1, 171]), (37, [175]), (38, [175, 176, 177]), (39, [5, 6, 175]), (40, [5, 175, 181]), (41, [4]), (42, [4]), (43, [0, 1, 183]), (44, [4]), (1005, [0, 7, 8, 9]), (1012, [0, 7, 8, 9, 12]), (1025, [0, 7, 8, 9, 14, 15]), (1029, [0, 7, 8, 9, 14, 15, 16]), (1038, [175]), (2006, [0, 7, 8, 9]), (2010, [0, 7, 8, 9, 11]), (2011, [0, 7, 8, 9]), (2014, [0, 7, 8, 9, 12]), (2027, [0, 7, 8, 9, 14, 15]), (2031, [0, 7, 8, 9, 14, 15, 16]), (2033, []), (2039, [175, 176])], Tryd.func79, rfl, rfl, rfl, by kernel_rfl⟩
/-! ### 57 strings.IndexAny -/
def r57_0 : List O := [⟨some 4, .assign (.const (.int .i64 0)), 3, none⟩]
def r57_1 : List O := [⟨some 11, .move (.tmp 1), 9, none⟩,
  ⟨some 12, .binOp .eql 9 (.tmp 11) (.const (.string ⟨#[]⟩)) 9, 4, none⟩]
def r57_2 : List O := [⟨some 4, .assign (.const (.int .i64 (-1))), 3, none⟩]
def r57_3 : List O := [⟨some 13, .move (.tmp 1), 9, none⟩,
  ⟨some 14, .call { callee := .builtin .len, args := #[.tmp 13], argTypes := #[9] }, 3, none⟩,
  ⟨some 15, .binOp .eql 3 (.tmp 14) (.const (.int .i64 1)) 3, 4, none⟩]
def r57_4 : List O := [⟨some 16, .move (.tmp 1), 9, none⟩,
  ⟨some 17, .index 9 (.tmp 16) (.const (.int .i64 0)), 5, none⟩,
  ⟨some 18, .convert 5 21 (.tmp 17), 21, none⟩,
  ⟨some 5, .assign (.tmp 18), 21, none⟩]
def r57_5 : List O := [⟨some 19, .move (.tmp 5), 21, none⟩,
  ⟨some 20, .binOp .geq 21 (.tmp 19) (.const (.int .i32 128)) 21, 4, none⟩]
def r57_6 : List O := [⟨some 5, .assign (.const (.int .i32 65533)), 21, none⟩]
def r57_7 : List O := [⟨some 21, .move (.tmp 0), 9, none⟩,
  ⟨some 22, .move (.tmp 5), 21, none⟩,
  ⟨some 23, .call { callee := .value (.func 79), args := #[.tmp 21, .tmp 22], argTypes := #[9, 21] }, 3, none⟩,
  ⟨some 4, .assign (.tmp 23), 3, none⟩]
def r57_8 : List O := [⟨some 24, .move (.tmp 0), 9, none⟩,
  ⟨some 25, .call { callee := .builtin .len, args := #[.tmp 24], argTypes := #[9] }, 3, none⟩,
  ⟨some 26, .call { callee := .value (.func 80), args := #[.tmp 25], argTypes := #[3] }, 4, none⟩]
def r57_9 : List O := [⟨some 28, .move (.tmp 1), 9, none⟩,
  ⟨some 29, .call { callee := .value (.func 46), args := #[.tmp 28], argTypes := #[9] }, 91, none⟩,
  ⟨some 27, .move (.tmp 29), 91, none⟩,
  ⟨some 30, .extract (.tmp 27) 0, 90, none⟩,
  ⟨some 31, .extract (.tmp 27) 1, 4, none⟩,
  ⟨some 6, .alloc 90, 0, none⟩,
  ⟨none, .store 90 (.tmp 6) (.tmp 30), 0, none⟩,
  ⟨some 7, .assign (.tmp 31), 4, none⟩]
def r57_10 : List O := [⟨some 32, .move (.tmp 7), 4, none⟩]
def r57_11 : List O := [⟨some 8, .assign (.const (.int .i64 0)), 3, none⟩]
def r57_12 : List O := [⟨some 33, .move (.tmp 8), 3, none⟩,
  ⟨some 34, .move (.tmp 0), 9, none⟩,
  ⟨some 35, .call { callee := .builtin .len, args := #[.tmp 34], argTypes := #[9] }, 3, none⟩,
  ⟨some 36, .binOp .lss 3 (.tmp 33) (.tmp 35) 3, 4, none⟩]
def r57_14 : List O := [⟨some 39, .move (.tmp 0), 9, none⟩,
  ⟨some 40, .move (.tmp 8), 3, none⟩,
  ⟨some 41, .index 9 (.tmp 39) (.tmp 40), 5, none⟩,
  ⟨some 42, .call { callee := .value (.func 67), args := #[.tmp 6, .tmp 41], argTypes := #[90, 5] }, 4, none⟩]
def r57_15 : List O := [⟨some 43, .move (.tmp 8), 3, none⟩,
  ⟨some 4, .assign (.tmp 43), 3, none⟩]
def r57_13 : List O := [⟨some 37, .move (.tmp 8), 3, none⟩,
  ⟨some 38, .binOp .add 3 (.tmp 37) (.const (.int .i64 1)) 3, 3, none⟩,
  ⟨some 8, .assign (.tmp 38), 3, none⟩]
def r57_16 : List O := [⟨some 4, .assign (.const (.int .i64 (-1))), 3, none⟩]
def r57_17 : List O := [⟨some 44, .move (.tmp 0), 9, none⟩,
  ⟨some 45, .range 9 (.tmp 44), 0, none⟩]
def r57_18 : List O := [⟨some 46, .next (.tmp 45) true, 0, none⟩,
  ⟨some 47, .extract (.tmp 46) 0, 4, none⟩]
def r57_19 : List O := [⟨some 48, .extract (.tmp 46) 1, 3, none⟩,
  ⟨some 49, .extract (.tmp 46) 2, 21, none⟩,
  ⟨some 9, .assign (.tmp 48), 3, none⟩,
  ⟨some 10, .assign (.tmp 49), 21, none⟩]
def r57_20 : List O := [⟨some 50, .move (.tmp 1), 9, none⟩,
  ⟨some 51, .move (.tmp 10), 21, none⟩,
  ⟨some 52, .call { callee := .value (.func 79), args := #[.tmp 50, .tmp 51], argTypes := #[9, 21] }, 3, none⟩,
  ⟨some 53, .binOp .geq 3 (.tmp 52) (.const (.int .i64 0)) 3, 4, none⟩]
def r57_21 : List O := [⟨some 54, .move (.tmp 9), 3, none⟩,
  ⟨some 4, .assign (.tmp 54), 3, none⟩]
def r57_22 : List O := [⟨some 4, .assign (.const (.int .i64 (-1))), 3, none⟩]
def c57_0 : A := .seq (.reg r57_2 [4]) .ret
def c57_1 : A := .cond (.tmp 12) c57_0 .skip
def c57_2 : A := .cond (.tmp 20) (.reg r57_6 [0, 5]) .skip
def c57_3 : A := .seq (.reg r57_7 [4]) .ret
def c57_4 : A := .seq (.seq (.reg r57_5 [0, 5, 20]) c57_2) (.seq (.keep [0, 5]) c57_3)
def c57_5 : A := .seq (.reg r57_4 [0, 5]) c57_4
def c57_6 : A := .cond (.tmp 15) c57_5 .skip
def c57_7 : A := .cond (.tmp 36) .skip (.exit 0)
def c57_8 : A := .seq (.reg r57_15 [4]) .ret
def c57_9 : A := .cond (.tmp 42) c57_8 .skip
def c57_10 : A := .seq (.reg r57_14 [0, 6, 8, 42]) c57_9
def c57_11 : A := .seq (.block 1 c57_10) (.reg r57_13 [0, 6, 8])
def c57_12 : A := .seq (.seq (.reg r57_12 [0, 6, 8, 36]) c57_7) (.seq (.keep [0, 6, 8]) c57_11)
def c57_13 : A := .seq c57_12 (.keep [0, 6, 8])
def c57_14 : A := .loop c57_13
def c57_15 : A := .block 0 c57_14
def c57_16 : A := .seq (.reg r57_16 [4]) .ret
def c57_17 : A := .seq (.seq (.reg r57_11 [0, 6, 8]) c57_15) c57_16
def c57_18 : A := .cond (.tmp 32) c57_17 .skip
def c57_19 : A := .seq (.reg r57_10 [0, 1, 6, 32]) c57_18
def c57_20 : A := .seq (.reg r57_9 [0, 1, 6, 7]) c57_19
def c57_21 : A := .cond (.tmp 26) c57_20 .skip
def c57_22 : A := .seq (.reg r57_21 [4]) .ret
def c57_23 : A := .cond (.tmp 53) c57_22 .skip
def c57_24 : A := .seq (.reg r57_20 [1, 9, 45, 53]) c57_23
def c57_25 : A := .seq (.reg r57_19 [1, 9, 10, 45]) c57_24
def c57_26 : A := .block 3 c57_25
def c57_27 : A := .seq (.cond (.tmp 47) .skip (.exit 2)) (.seq (.keep [1, 45, 46]) c57_26)
def c57_28 : A := .seq (.reg r57_18 [1, 45, 46, 47]) c57_27
def c57_29 : A := .seq c57_28 (.keep [1, 45])
def c57_30 : A := .loop c57_29
def c57_31 : A := .block 2 c57_30
def c57_32 : A := .seq (.reg r57_22 [4]) .ret
def c57_33 : A := .seq (.seq (.reg r57_17 [1, 45]) c57_31) c57_32
def c57_34 : A := .seq (.seq (.reg r57_8 [0, 1, 26]) c57_21) (.seq (.keep [0, 1]) c57_33)
def c57_35 : A := .seq (.seq (.reg r57_3 [0, 1, 15]) c57_6) (.seq (.keep [0, 1]) c57_34)
def c57_36 : A := .seq (.seq (.reg r57_1 [0, 1, 12]) c57_1) (.seq (.keep [0, 1]) c57_35)
def c57 : A := .seq (.reg r57_0 [0, 1]) c57_36
theorem B57 : Body Tryd.prog 57 55 [.tmp 4] c57 := ⟨by kernel_rfl, _, _, [(0, [0, 1]), (1, [0, 1, 12]), (2, [4]), (3, [0, 1, 15]), (4, [0, 5]), (5, [0, 5, 20]), (6, [0, 5]), (7, [4]), (8, [0, 1, 26]), (9, [0, 1, 6, 7]), (10, [0, 1, 6, 32]), (11, [0, 6, 8]), (12, [0, 6, 8, 36]), (13, [0, 6, 8]), (14, [0, 6, 8, 42]), (15, [4]), (16, [4]), (17, [1, 45]), (18, [1, 45, 46, 47]), (19, [1, 9, 10, 45]), (20, [1, 9, 45, 53]), (21, [4]), (22, [4]), (1012, [0, 6, 8]), (1018, [1, 45]), (2003, [0, 1]), (2007, [0, 5]), (2008, [0, 1]), (2014, [0, 6, 8]), (2017, [0, 1]), (2019, [1, 45, 46])], Tryd.func57, rfl, rfl, rfl, by kernel_rfl⟩
/-! ### 34 strings.ContainsAny -/
def r34_0 : List O := [⟨some 4, .assign (.const (.bool false)), 4, none⟩]
def r34_1 : List O := [⟨some 5, .move (.tmp 0), 9, none⟩,
  ⟨some 6, .move (.tmp 1), 9, none⟩,
  ⟨some 7, .call { callee := .value (.func 57), args := #[.tmp 5, .tmp 6], argTypes := #[9, 9] }, 3, none⟩,
  ⟨some 8, .binOp .geq 3 (.tmp 7) (.const (.int .i64 0)) 3, 4, none⟩,
  ⟨some 4, .assign (.tmp 8), 4, none⟩]
def c34_0 : A := .seq (.reg r34_1 [4]) .ret
def c34 : A := .seq (.reg r34_0 [0, 1]) c34_0
theorem B34 : Body Tryd.prog 34 9 [.tmp 4] c34 := ⟨by kernel_rfl, _, _, [(0, [0, 1]), (1, [4])], Tryd.func34, rfl, rfl, rfl, by kernel_rfl⟩
end Go.Proofs.YtoabcmhiaknjiaaDoor

/- IndexAny and ContainsAny for a blank and an apostrophe, at any bytes. -/
set_option maxRecDepth 100000
set_option linter.unusedSimpArgs false
set_option linter.unusedVariables false
namespace Go.Proofs.YtoabcmhiaknjiaaDoor
open Go.Hw
variable {H : Hp} {K : Ending → Hp → Prop}
theorem uI32 : Tryd.prog.underlying 21 = some (.int .i32) := Tryd.underlying21
theorem uU8' : Tryd.prog.underlying 5 = some (.int .u8) := Tryd.underlying5

/-- Where bytes beyond ASCII are decoded, all that is taken is beyond ASCII. -/
theorem decode_span {l : List UInt8} {i : Nat} {c : UInt8} (h : l[i]? = some c) (hc : 128 ≤ c.toNat) :
    i + (Utf8.decode (B l) i).2 ≤ l.length ∧ ∀ j, i ≤ j → j < i + (Utf8.decode (B l) i).2 → ∃ b, l[j]? = some b ∧ 128 ≤ b.toNat := by
  have hi : i < l.length := by
    rcases Nat.lt_or_ge i l.length with h1 | h1
    · exact h1
    · rw [List.getElem?_eq_none h1] at h; cases h
  have hget : ∀ k, i + k < l.length → ((B l).get! (i + k)) = l.getD (i + k) 0 := by
    intro k hk
    show l.toArray[i + k]! = l.getD (i + k) 0
    rw [List.getD_eq_getElem?_getD, List.getElem?_eq_getElem hk]
    simp [hk]
  have hcont : ∀ k, (i + k < (B l).size && ((B l).get! (i + k)).toNat / 64 == 2) = true → i + k < l.length ∧ ∃ b, l[i + k]? = some b ∧ 128 ≤ b.toNat := by
    intro k hk
    rw [Bool.and_eq_true, decide_eq_true_eq, B_size, beq_iff_eq] at hk
    obtain ⟨h1, h2⟩ := hk
    rw [hget k h1] at h2
    refine ⟨h1, l[i + k], List.getElem?_eq_getElem h1, ?_⟩
    rw [getD_lt h1] at h2
    omega
  have one : i + 1 ≤ l.length ∧ ∀ j, i ≤ j → j < i + 1 → ∃ b, l[j]? = some b ∧ 128 ≤ b.toNat :=
    ⟨hi, fun j h1 h2 => ⟨c, by rw [show j = i by omega]; exact h, hc⟩⟩
  unfold Utf8.decode
  simp only
  split
  · exact one
  · split
    · rename_i h1 h2
      rw [Bool.and_eq_true] at h2
      obtain ⟨l1, b1⟩ := hcont 1 h2.2
      split
      · refine ⟨by show i + 2 ≤ _; omega, fun j h3 h4 => ?_⟩
        have h4 : j < i + 2 := h4
        rcases Nat.lt_or_ge j (i + 1) with h5 | h5
        · exact one.2 j h3 h5
        · rw [show j = i + 1 by omega]; exact b1
      · exact one
    · split
      · rename_i h1 h2 h3
        rw [Bool.and_eq_true, Bool.and_eq_true] at h3
        obtain ⟨l1, b1⟩ := hcont 1 h3.1.2
        obtain ⟨l2, b2⟩ := hcont 2 h3.2
        split
        · refine ⟨by show i + 3 ≤ _; omega, fun j h4 h5 => ?_⟩
          have h5 : j < i + 3 := h5
          rcases Nat.lt_or_ge j (i + 1) with h6 | h6
          · exact one.2 j h4 h6
          · rcases Nat.lt_or_ge j (i + 2) with h7 | h7
            · rw [show j = i + 1 by omega]; exact b1
            · rw [show j = i + 2 by omega]; exact b2
        · exact one
      · split
        · rename_i h1 h2 h3 h4
          rw [Bool.and_eq_true, Bool.and_eq_true, Bool.and_eq_true] at h4
          obtain ⟨l1, b1⟩ := hcont 1 h4.1.1.2
          obtain ⟨l2, b2⟩ := hcont 2 h4.1.2
          obtain ⟨l3, b3⟩ := hcont 3 h4.2
          split
          · refine ⟨by show i + 4 ≤ _; omega, fun j h5 h6 => ?_⟩
            have h6 : j < i + 4 := h6
            rcases Nat.lt_or_ge j (i + 1) with h7 | h7
            · exact one.2 j h5 h7
            · rcases Nat.lt_or_ge j (i + 2) with h8 | h8
              · rw [show j = i + 1 by omega]; exact b1
              · rcases Nat.lt_or_ge j (i + 3) with h9 | h9
                · rw [show j = i + 2 by omega]; exact b2
                · rw [show j = i + 3 by omega]; exact b3
          · exact one
        · exact one

/-- The bytes of a rune beyond ASCII. -/
theorem encode_high (r : Int) (h : 128 ≤ r) : ∃ e : List UInt8, Utf8.encode r = B e ∧ 2 ≤ e.length ∧ e.length ≤ 4 ∧ ∀ b ∈ e, 128 ≤ b.toNat := by
  have key : ∀ n : Nat, 128 ≤ n → n < 256 → 128 ≤ (UInt8.ofNat n).toNat := by
    intro n h1 h2
    rw [UInt8.toNat_ofNat']
    omega
  unfold Utf8.encode
  simp only
  have hc : 128 ≤ (if Utf8.valid r = true then r.toNat else Utf8.runeError) ∧ (if Utf8.valid r = true then r.toNat else Utf8.runeError) ≤ 1114111 := by
    split
    · rename_i hv
      unfold Utf8.valid at hv
      simp only [Bool.or_eq_true, Bool.and_eq_true, decide_eq_true_eq] at hv
      omega
    · unfold Utf8.runeError; omega
  generalize (if Utf8.valid r = true then r.toNat else Utf8.runeError) = c at hc
  rw [if_neg (by omega)]
  split
  · refine ⟨_, rfl, by simp, by simp, ?_⟩
    intro b hb
    simp only [List.mem_cons, List.not_mem_nil, or_false] at hb
    rcases hb with rfl | rfl <;> exact key _ (by omega) (by omega)
  · split
    · refine ⟨_, rfl, by simp, by simp, ?_⟩
      intro b hb
      simp only [List.mem_cons, List.not_mem_nil, or_false] at hb
      rcases hb with rfl | rfl | rfl <;> exact key _ (by omega) (by omega)
    · refine ⟨_, rfl, by simp, by simp, ?_⟩
      intro b hb
      simp only [List.mem_cons, List.not_mem_nil, or_false] at hb
      rcases hb with rfl | rfl | rfl | rfl <;> exact key _ (by omega) (by omega)

theorem cnvA_i2s {P : Program} {K : Value → Hp → Prop} {X : List PanicEntry → Hp → Prop} {H : Hp} {s t : TypeId} {k j : IntKind} {n : Int} (hs : P.underlying s = some (.int k)) (ht : P.underlying t = some .string) : cnvA P s t (.int j n) K X H = K (.string (Utf8.encode n)) H := by
  unfold cnvA hv convert
  show hwx P ((underlying s).bind _) _ _ H = _
  rw [hw_und hs]
  show hwx P ((underlying t).bind _) _ _ H = _
  rw [hw_und ht]
  rfl

theorem validRune_c (r : Int) (h : K (.returned (.bool (Lib.validRune r))) H) : HCall Tryd.prog 96 #[.int .i32 r] H K := HCall.of_same (fun w _ => Tryd.utf8_ValidRune r w) h

theorem indexRune_c (c : Int) (hc0 : 0 ≤ c) (h : ∀ r G, Ext H G → (decide (0 ≤ r) = (decide (c = 32) || decide (c = 39))) → K (.returned (.int .i64 r)) G) : HCall Tryd.prog 79 #[.string (B [32, 39]), .int .i32 c] H K := by
  refine hcall mixed B79 (args := [.string (B [32, 39]), .int .i32 c]) (by simp) ?_
  have e0 : decide ((0 : Int) ≤ c) = true := decide_eq_true hc0
  have none_ : ¬ (c = 32) → ¬ (c = 39) → ∀ G, Ext H G → K (.returned (.int .i64 (-1))) G := by
    intro h1 h2 G hE
    refine h (-1) G hE ?_
    rw [decide_eq_false h1, decide_eq_false h2]; rfl
  by_cases h1 : c < 128
  · simp only [go_sem, reduceCtorEq, Nat.reduceEqDiff, Nat.reduceAdd, c79, r79_0, c79_82, c79_81, r79_34, e0, decide_eq_true h1, c79_80, c79_0, r79_35]
    rw [cnvA_int uI32 uU8', wrap_u8 (by omega) (by omega)]
    simp only [go_sem, reduceCtorEq, Nat.reduceEqDiff, Nat.reduceAdd, callA_fn0 pl25]
    have e : c = ((UInt8.ofNat c.toNat).toNat : Int) := by rw [UInt8.toNat_ofNat']; omega
    generalize UInt8.ofNat c.toNat = u at e
    subst e
    refine indexByte_c [32, 39] u ?_
    simp only [go_sem, reduceCtorEq, Nat.reduceEqDiff, Nat.reduceAdd, ]
    refine h _ H (Ext.refl _) ?_
    unfold Lib.indexByte Lib.indexByte Lib.indexByte
    by_cases hu : u = 32
    · subst hu; rfl
    · by_cases hu2 : u = 39
      · subst hu2; rfl
      · have e1 : ((32 : UInt8) == u) = false := by simpa using fun h => hu h.symm
        have e2 : ((39 : UInt8) == u) = false := by simpa using fun h => hu2 h.symm
        have e3 : ¬ ((u.toNat : Int) = 32) := fun h => hu (UInt8.toNat_inj.1 (by simpa using Int.ofNat_inj.1 h))
        have e4 : ¬ ((u.toNat : Int) = 39) := fun h => hu2 (UInt8.toNat_inj.1 (by simpa using Int.ofNat_inj.1 h))
        rw [e1, e2, decide_eq_false e3, decide_eq_false e4]
        rfl
  have h1f := decide_eq_false h1
  by_cases h2 : c = 65533
  · simp only [go_sem, reduceCtorEq, Nat.reduceEqDiff, Nat.reduceAdd, c79, r79_0, c79_82, c79_81, r79_34, e0, h1f, c79_80, c79_79, r79_36, decide_eq_true h2, c79_78, c79_12, r79_37]
    rw [rngA_string uStr]
    simp only [go_sem, reduceCtorEq, Nat.reduceEqDiff, Nat.reduceAdd, c79_10]
    have hr0 : (H.push (.stringIter (B [32, 39]) 0))[H.size]? = some (.stringIter (B [32, 39]) 0) := by simp
    have hE0 : Ext H (H.push (.stringIter (B [32, 39]) 0)) := Ext.push _ _
    have d0 : Utf8.decode (B [32, 39]) 0 = (32, 1) := decode_low (c := 32) rfl (by decide)
    have d1 : Utf8.decode (B [32, 39]) 1 = (39, 1) := decode_low (c := 39) rfl (by decide)
    refine aw_loopq (L := c79_9) rfl ?_
    simp only [go_sem, reduceCtorEq, Nat.reduceEqDiff, Nat.reduceAdd, c79_8, c79_7, r79_38]
    rw [nxtA_string hr0 (by rw [B_size]; decide), d0]
    simp only [go_sem, reduceCtorEq, Nat.reduceEqDiff, Nat.reduceAdd, c79_6, c79_5, c79_4, r79_39, c79_3, r79_40, show decide (((32 : Nat) : Int) = 65533) = false from rfl, c79_2]
    refine aw_loopq (L := c79_9) rfl ?_
    have hr1 := get_set (o := .stringIter (B [32, 39]) (0 + 1)) hr0
    simp only [go_sem, reduceCtorEq, Nat.reduceEqDiff, Nat.reduceAdd, c79_8, c79_7, r79_38]
    rw [nxtA_string hr1 (by rw [B_size]; decide), d1]
    simp only [go_sem, reduceCtorEq, Nat.reduceEqDiff, Nat.reduceAdd, c79_6, c79_5, c79_4, r79_39, c79_3, r79_40, show decide (((39 : Nat) : Int) = 65533) = false from rfl, c79_2]
    refine aw_loopq (L := c79_9) rfl ?_
    have hr2 := get_set (o := .stringIter (B [32, 39]) (0 + 1 + 1)) hr1
    simp only [go_sem, reduceCtorEq, Nat.reduceEqDiff, Nat.reduceAdd, c79_8, c79_7, r79_38]
    rw [nxtA_string_end hr2 (by rw [B_size]; decide)]
    simp only [go_sem, reduceCtorEq, Nat.reduceEqDiff, Nat.reduceAdd, c79_6, c79_11, r79_42]
    refine none_ (by omega) (by omega) _ ?_
    exact (hE0.set (Nat.le_refl _)).set (Nat.le_refl _)
  have h2f := decide_eq_false h2
  simp only [go_sem, reduceCtorEq, Nat.reduceEqDiff, Nat.reduceAdd, c79, r79_0, c79_82, c79_81, r79_34, e0, h1f, c79_80, c79_79, r79_36, h2f, c79_78, c79_77, r79_43, callA_fn0 pl96]
  refine validRune_c c ?_
  cases hv : Lib.validRune c with
  | false =>
    simp only [go_sem, reduceCtorEq, Nat.reduceEqDiff, Nat.reduceAdd, c79_76, c79_13, r79_44]
    exact none_ (by omega) (by omega) _ (Ext.refl _)
  | true =>
    simp only [go_sem, reduceCtorEq, Nat.reduceEqDiff, Nat.reduceAdd, c79_76, c79_75, r79_1]
    rw [cnvA_i2s uI32 uStr]
    obtain ⟨e, he, hl2, hl4, hb⟩ := encode_high c (by omega)
    rw [he]
    simp only [go_sem, reduceCtorEq, Nat.reduceEqDiff, Nat.reduceAdd, c79_74, r79_2, len_B uStr]
    rw [wrap_i64 (by omega) (by omega)]
    simp only [go_sem, reduceCtorEq, Nat.reduceEqDiff, Nat.reduceAdd, c79_73, r79_3, c79_72, r79_4, c79_71]
    refine aw_loopq (L := c79_41) rfl ?_
    by_cases h3 : e.length = 2
    · have e3 : decide ((e.length : Int) - 1 < (([32, 39] : List UInt8).length : Int)) = true := by rw [h3]; rfl
      simp only [go_sem, reduceCtorEq, Nat.reduceEqDiff, Nat.reduceAdd, c79_40, c79_39, r79_5, len_B uStr, e3, c79_14, c79_38, c79_37, r79_6]
      rw [idxQ_B uStr (by omega) (by rw [h3]; decide)]
      simp only [go_sem, reduceCtorEq, Nat.reduceEqDiff, Nat.reduceAdd, ]
      rw [idxQ_B uStr (by omega) (by omega)]
      simp only [go_sem, reduceCtorEq, Nat.reduceEqDiff, Nat.reduceAdd, ]
      have hl : (e.getD ((e.length : Int) - 1).toNat 0) ∈ e := by
        rw [getD_lt (by omega)]; exact List.getElem_mem _
      have hb2 := hb _ hl
      generalize hu' : e.getD ((e.length : Int) - 1).toNat 0 = u at hb2
      have e4 : ([32, 39] : List UInt8).getD ((e.length : Int) - 1).toNat 0 = 39 := by rw [h3]; rfl
      rw [e4]
      have e5 : decide (((39 : UInt8).toNat : Int) = (u.toNat : Int)) = false := by
        rw [decide_eq_false_iff_not]
        have : (39 : UInt8).toNat = 39 := rfl
        rw [this]; omega
      have hu : (e.getD ((e.length : Int) - 1).toNat 0) = u := hu'
      simp only [go_sem, reduceCtorEq, Nat.reduceEqDiff, Nat.reduceAdd, e5, c79_19, c79_18, r79_7]
      rw [wrap_i64 (by omega) (by omega)]
      rw [sliQ_lo uStr (by omega) (by rw [h3]; decide)]
      simp only [go_sem, reduceCtorEq, Nat.reduceEqDiff, Nat.reduceAdd, ]
      rw [idxQ_B uStr (by omega) (by omega), hu]
      have e6 : ([32, 39] : List UInt8).drop ((e.length : Int) - 1 + 1).toNat = [] := by rw [h3]; rfl
      rw [e6]
      simp only [go_sem, reduceCtorEq, Nat.reduceEqDiff, Nat.reduceAdd, callA_fn0 pl25]
      refine indexByte_c [] u ?_
      have e7 : Lib.indexByte [] u = -1 := rfl
      rw [e7]
      simp only [go_sem, reduceCtorEq, Nat.reduceEqDiff, Nat.reduceAdd, c79_17, r79_8, show decide ((-1 : Int) < 0) = true from rfl, c79_16, c79_15, r79_9]
      exact none_ (by omega) (by omega) _ (Ext.refl _)
    · have e3 : decide ((e.length : Int) - 1 < (([32, 39] : List UInt8).length : Int)) = false := by
        rw [decide_eq_false_iff_not]
        have : (([32, 39] : List UInt8).length : Int) = 2 := rfl
        rw [this]; omega
      simp only [go_sem, reduceCtorEq, Nat.reduceEqDiff, Nat.reduceAdd, c79_40, c79_39, r79_5, len_B uStr, e3, c79_14, c79_70, r79_19]
      exact none_ (by omega) (by omega) _ (Ext.refl _)


theorem shouldUse_c (n : Int) (h : K (.returned (.bool (decide (8 < n)))) H) : HCall Tryd.prog 80 #[.int .i64 n] H K := HCall.of_same (fun w _ => Tryd.strings_shouldUseASCIISet n w) h

/-- Has it a blank or an apostrophe? -/
def hasSq (l : List UInt8) : Bool := l.any fun b => b == 32 || b == 39

theorem indexAny_sq : ∀ l : List UInt8, decide (0 ≤ Lib.indexAny l [32, 39]) = hasSq l
  | [] => rfl
  | b :: r => by
    have ih := indexAny_sq r
    have hge := Lib.indexAny_ge [32, 39] r
    have hs : hasSq (b :: r) = ((b == 32 || b == 39) || hasSq r) := rfl
    unfold Lib.indexAny
    have e : ([32, 39] : List UInt8).contains b = (b == 32 || b == 39) := by simp only [List.contains_cons, List.contains_nil, Bool.or_false]
    rw [hs, e]
    cases (b == 32 || b == 39) with
    | true => rfl
    | false =>
      simp only [Bool.false_eq_true, if_false, Bool.false_or]
      rw [← ih]
      by_cases h1 : Lib.indexAny r [32, 39] = -1
      · rw [h1]; rfl
      · rw [if_neg (by simpa using h1)]
        have : 0 ≤ Lib.indexAny r [32, 39] := by omega
        rw [decide_eq_true this, decide_eq_true (by omega)]

theorem indexAny_c (l : List UInt8) (hl : l.length < 100000000) (h : ∀ r G, Ext H G → (decide (0 ≤ r) = hasSq l) → K (.returned (.int .i64 r)) G) : HCall Tryd.prog 57 #[.string (B l), .string (B [32, 39])] H K := by
  by_cases h8 : 8 < l.length
  · intro w hw
    subst hw
    refine (Tryd.strings_IndexAny_long (Tryd.zeroValue90) (B l) (B [32, 39]) w (by rw [B_size]; decide) (by rw [B_size]; exact h8) (by rw [B_size]; omega) (by rw [B_size]; decide) ?_).mono ?_
    · rw [B_list]
      intro j b hb
      match j, hb with
      | 0, hb => cases hb; decide
      | 1, hb => cases hb; decide
    · rintro e w' ⟨rfl, rfl⟩
      refine ⟨(EnvEq.push w _).trans (EnvEq.push _ _), ?_⟩
      rw [B_list, B_list]
      exact h _ _ ((Ext.push _ _).trans (Ext.push _ _)) (indexAny_sq l)
  · refine hcall mixed B57 (args := [.string (B l), .string (B [32, 39])]) (by simp) ?_
    have e1 : (([32, 39] : List UInt8) == []) = false := rfl
    have e2 : decide ((([32, 39] : List UInt8).length : Int) = 1) = false := rfl
    have e3 : decide ((8 : Int) < (l.length : Int)) = false := by rw [decide_eq_false_iff_not]; omega
    simp only [go_sem, reduceCtorEq, Nat.reduceEqDiff, Nat.reduceAdd, c57, r57_0, c57_36, r57_1, B_lit, B_toList, e1, c57_1, c57_35, r57_3, len_B uStr, e2, c57_6, c57_34, r57_8, callA_fn0 pl80]
    refine shouldUse_c _ ?_
    simp only [go_sem, reduceCtorEq, Nat.reduceEqDiff, Nat.reduceAdd, e3, c57_21, c57_33, r57_17]
    rw [rngA_string uStr]
    simp only [go_sem, reduceCtorEq, Nat.reduceEqDiff, Nat.reduceAdd, c57_31]
    have hr0 : (H.push (.stringIter (B l) 0))[H.size]? = some (.stringIter (B l) 0) := by simp
    have hE0 : Ext H (H.push (.stringIter (B l) 0)) := Ext.push _ _
    refine aw_while (L := c57_30) rfl (fun m F G => ∃ i : Nat, m = l.length - i ∧ F = [(1, .string (B [32, 39])), (45, .pointer (some ⟨H.size, 0, none⟩))] ∧ G[H.size]? = some (.stringIter (B l) i) ∧ Ext H G ∧ i ≤ l.length ∧ hasSq l = hasSq (l.drop i)) (m := l.length)
      ⟨0, rfl, rfl, hr0, hE0, Nat.zero_le _, rfl⟩ ?_
    rintro m F G ih ⟨i, rfl, rfl, hr, hE, hi, hq⟩
    by_cases hlt : i < l.length
    · simp only [go_sem, reduceCtorEq, Nat.reduceEqDiff, Nat.reduceAdd, c57_29, c57_28, r57_18]
      rw [nxtA_string hr (by rw [B_size]; exact hlt)]
      have hc : l[i]? = some l[i] := List.getElem?_eq_getElem hlt
      have hdrop : l.drop i = l[i] :: l.drop (i + 1) := List.drop_eq_getElem_cons hlt
      have hr1 := get_set (o := .stringIter (B l) (i + (Utf8.decode (B l) i).2)) hr
      have hE1 : Ext H (G.setIfInBounds H.size (.stringIter (B l) (i + (Utf8.decode (B l) i).2))) := hE.set (Nat.le_refl _)
      simp only [go_sem, reduceCtorEq, Nat.reduceEqDiff, Nat.reduceAdd, c57_27, c57_26, c57_25, r57_19, c57_24, r57_20, callA_fn0 pl79]
      refine indexRune_c _ (by omega) fun r G2 he2 hr2 => ?_
      have hE2 := hE1.trans he2
      have hr3 := he2.get hr1
      by_cases hlow : l[i].toNat < 128
      · rw [decode_low hc hlow] at hr2 hr3 ⊢
        simp only at hr2 hr3
        have hq2 : hasSq l = ((l[i] == 32 || l[i] == 39) || hasSq (l.drop (i + 1))) := by rw [hq, hdrop]; rfl
        have e4 : decide ((l[i].toNat : Int) = 32) = (l[i] == 32) := by
          rw [Bool.eq_iff_iff]; simp only [decide_eq_true_eq, beq_iff_eq]
          exact ⟨fun h => UInt8.toNat_inj.1 (by simpa using Int.ofNat_inj.1 h), fun h => by rw [h]; rfl⟩
        have e5 : decide ((l[i].toNat : Int) = 39) = (l[i] == 39) := by
          rw [Bool.eq_iff_iff]; simp only [decide_eq_true_eq, beq_iff_eq]
          exact ⟨fun h => UInt8.toNat_inj.1 (by simpa using Int.ofNat_inj.1 h), fun h => by rw [h]; rfl⟩
        rw [e4, e5] at hr2
        cases hyes : (l[i] == 32 || l[i] == 39) with
        | true =>
          rw [hyes] at hr2 hq2
          simp only [go_sem, reduceCtorEq, Nat.reduceEqDiff, Nat.reduceAdd, hr2, c57_23, c57_22, r57_21]
          refine h _ G2 hE2 ?_
          rw [hq2]; simp
        | false =>
          rw [hyes] at hr2 hq2
          simp only [go_sem, reduceCtorEq, Nat.reduceEqDiff, Nat.reduceAdd, hr2, c57_23]
          exact ih _ _ _ (by omega) ⟨i + 1, rfl, rfl, hr3, hE2, by omega, by rw [hq2]; rfl⟩
      · obtain ⟨d1, d2⟩ := Go.Hw.dec_high hc (by omega)
        obtain ⟨s1, s2⟩ := decode_span hc (by omega)
        have e4 : decide (((Utf8.decode (B l) i).1 : Int) = 32) = false := by rw [decide_eq_false_iff_not]; omega
        have e5 : decide (((Utf8.decode (B l) i).1 : Int) = 39) = false := by rw [decide_eq_false_iff_not]; omega
        rw [e4, e5] at hr2
        have skip : ∀ k, k ≤ (Utf8.decode (B l) i).2 → hasSq (l.drop i) = hasSq (l.drop (i + k)) := by
          intro k
          induction k with
          | zero => intro _; rfl
          | succ k ihk =>
            intro hk
            rw [ihk (by omega)]
            obtain ⟨b, hb1, hb2⟩ := s2 (i + k) (by omega) (by omega)
            have hb3 : i + k < l.length := by omega
            rw [List.getElem?_eq_getElem hb3] at hb1
            have hb4 := Option.some.inj hb1
            rw [List.drop_eq_getElem_cons hb3, hb4]
            have hb5 : (b == 32 || b == 39) = false := by
              rw [Bool.or_eq_false_iff]
              constructor
              · rw [beq_eq_false_iff_ne]; intro h; rw [h] at hb2; exact absurd hb2 (by decide)
              · rw [beq_eq_false_iff_ne]; intro h; rw [h] at hb2; exact absurd hb2 (by decide)
            show ((b == 32 || b == 39) || hasSq (l.drop (i + k + 1))) = _
            rw [hb5]
            rfl
        simp only [go_sem, reduceCtorEq, Nat.reduceEqDiff, Nat.reduceAdd, hr2, Bool.or_self, c57_23]
        exact ih _ _ _ (by omega) ⟨i + (Utf8.decode (B l) i).2, rfl, rfl, hr3, hE2, s1, by rw [hq]; exact skip _ (Nat.le_refl _)⟩
    · simp only [go_sem, reduceCtorEq, Nat.reduceEqDiff, Nat.reduceAdd, c57_29, c57_28, r57_18]
      rw [nxtA_string_end hr (by rw [B_size]; exact hlt)]
      simp only [go_sem, reduceCtorEq, Nat.reduceEqDiff, Nat.reduceAdd, c57_27, c57_32, r57_22]
      refine h _ G hE ?_
      rw [hq, List.drop_eq_nil_of_le (by omega)]
      rfl

theorem containsAny_c (l : List UInt8) (hl : l.length < 100000000) (h : ∀ G, Ext H G → K (.returned (.bool (hasSq l))) G) : HCall Tryd.prog 34 #[.string (B l), .string (B [32, 39])] H K := by
  refine hcall mixed B34 (args := [.string (B l), .string (B [32, 39])]) (by simp) ?_
  simp only [go_sem, reduceCtorEq, Nat.reduceEqDiff, Nat.reduceAdd, c34, r34_0, c34_0, r34_1, callA_fn0 pl57]
  refine indexAny_c l hl fun r G hE hr => ?_
  simp only [go_sem, reduceCtorEq, Nat.reduceEqDiff, Nat.reduceAdd, hr]
  exact h G hE
end Go.Proofs.YtoabcmhiaknjiaaDoor

set_option maxRecDepth 100000
namespace Go.Proofs.YtoabcmhiaknjiaaDoor
open Go.Hw
/-! ### 15 dasd/jobtext.Quote -/
def r15_0 : List O := [⟨some 2, .assign (.const (.string ⟨#[]⟩)), 9, none⟩]
def r15_1 : List O := [⟨some 3, .move (.tmp 0), 9, none⟩,
  ⟨some 4, .binOp .neq 9 (.tmp 3) (.const (.string ⟨#[]⟩)) 9, 4, none⟩,
  ⟨some 5, .move (.tmp 4), 4, none⟩,
  ⟨some 6, .move (.tmp 0), 9, some (5, true)⟩,
  ⟨some 7, .call { callee := .value (.func 34), args := #[.tmp 6, .const (.string ⟨#[32, 39]⟩)], argTypes := #[9, 9] }, 4, some (5, true)⟩,
  ⟨some 8, .unOp .not 4 (.tmp 7), 4, some (5, true)⟩,
  ⟨some 9, .pick (.tmp 5) (.tmp 8) (.const (.bool false)), 4, none⟩]
def r15_2 : List O := [⟨some 10, .move (.tmp 0), 9, none⟩,
  ⟨some 2, .assign (.tmp 10), 9, none⟩]
def r15_3 : List O := [⟨some 11, .move (.tmp 0), 9, none⟩,
  ⟨some 12, .call { callee := .value (.func 17), args := #[.tmp 11, .const (.string ⟨#[39]⟩), .const (.string ⟨#[39, 39]⟩)], argTypes := #[9, 9, 9] }, 9, none⟩,
  ⟨some 13, .binOp .add 9 (.const (.string ⟨#[39]⟩)) (.tmp 12) 9, 9, none⟩,
  ⟨some 14, .binOp .add 9 (.tmp 13) (.const (.string ⟨#[39]⟩)) 9, 9, none⟩,
  ⟨some 2, .assign (.tmp 14), 9, none⟩]
def c15_0 : A := .seq (.reg r15_2 [2]) .ret
def c15_1 : A := .cond (.tmp 9) c15_0 .skip
def c15_2 : A := .seq (.reg r15_3 [2]) .ret
def c15_3 : A := .seq (.seq (.reg r15_1 [0, 9]) c15_1) (.seq (.keep [0]) c15_2)
def c15 : A := .seq (.reg r15_0 [0]) c15_3
theorem B15 : Body Tryd.prog 15 15 [.tmp 2] c15 := ⟨by kernel_rfl, _, _, [(0, [0]), (1, [0, 9]), (2, [2]), (3, [2]), (2003, [0])], Tryd.func15, rfl, rfl, rfl, by kernel_rfl⟩
end Go.Proofs.YtoabcmhiaknjiaaDoor

/- The contract of Quote. -/
set_option maxRecDepth 100000
set_option linter.unusedSimpArgs false
set_option linter.unusedVariables false
namespace Go.Proofs.YtoabcmhiaknjiaaDoor
open Go.Hw
variable {H : Hp} {K : Ending → Hp → Prop}

/-- A word as it can be written. -/
def quoteW (l : List UInt8) : List UInt8 := if l ≠ [] ∧ hasSq l = false then l else 39 :: (Lib.replaceAll l [39] [39, 39] ++ [39])

theorem replaceK_len (old new : List UInt8) : ∀ (k : Nat) (s : List UInt8), (Lib.replaceK old new k s).length ≤ s.length + k * new.length
  | 0, s => by simp [Lib.replaceK]
  | k + 1, s => by
    unfold Lib.replaceK
    split
    · omega
    · have := replaceK_len old new k (s.drop ((Lib.index s old).toNat + old.length))
      simp only [List.length_append, List.length_take, List.length_drop, Nat.succ_mul] at this ⊢
      omega

theorem replaceAll_len (s old new : List UInt8) : (Lib.replaceAll s old new).length ≤ s.length + (s.length + 1) * new.length := by
  unfold Lib.replaceAll Lib.replace
  split
  · exact Nat.le_add_right _ _
  · refine Nat.le_trans (replaceK_len old new _ s) ?_
    have : Lib.replaceNum s old (-1) ≤ s.length + 1 := by
      unfold Lib.replaceNum
      have := Lib.count_le s old
      simp
      omega
    exact Nat.add_le_add_left (Nat.mul_le_mul_right _ this) _

theorem quote_c (l : List UInt8) (hl : l.length < 100000000) (g : G0 H) (h : ∀ G, Ext H G → K (.returned (.string (B (quoteW l)))) G) : HCall Tryd.prog 15 #[.string (B l)] H K := by
  refine hcall mixed B15 (args := [.string (B l)]) (by simp) ?_
  have tail : ∀ (G : Hp) (x : Nat), Ext H G → quoteW l = 39 :: (Lib.replaceAll l [39] [39, 39] ++ [39]) → aw Tryd.prog 15 c15_1 (seqQ Tryd.prog 15 (.seq (.keep [0]) c15_2) (retK Tryd.prog [.tmp 2] K)) [(0, .string (B l)), (9, .bool false)] G := by
    intro G x hE hq
    simp only [go_sem, reduceCtorEq, Nat.reduceEqDiff, Nat.reduceAdd, c15_1, c15_2, r15_3, callA_fn0 pl17, B_lit]
    have hcl := Lib.count_le l [39]
    have hrl := replaceAll_len l [39] [39, 39]
    refine replaceAll_c l [39] [39, 39] (by omega) (g.ext hE) (by simp) (by simp; omega) fun G2 he2 => ?_
    simp only [go_sem, reduceCtorEq, Nat.reduceEqDiff, Nat.reduceAdd, ]
    simp only [List.length_cons, List.length_nil] at hrl
    rw [binA_cat (by simp; omega)]
    simp only [go_sem, reduceCtorEq, Nat.reduceEqDiff, Nat.reduceAdd, ]
    rw [binA_cat (by simp; omega)]
    simp only [go_sem, reduceCtorEq, Nat.reduceEqDiff, Nat.reduceAdd, ]
    have := h G2 (hE.trans he2)
    rw [hq] at this
    exact this
  match l, hl, h, tail with
  | [], hl, h, tail =>
    have e1 : (([] : List UInt8) == []) = true := rfl
    simp only [go_sem, reduceCtorEq, Nat.reduceEqDiff, Nat.reduceAdd, c15, r15_0, c15_3, r15_1, B_lit, B_toList, e1]
    exact tail H 0 (Ext.refl _) rfl
  | b :: r, hl, h, tail =>
    have e1 : ((b :: r : List UInt8) == []) = false := rfl
    simp only [go_sem, reduceCtorEq, Nat.reduceEqDiff, Nat.reduceAdd, c15, r15_0, c15_3, r15_1, B_lit, B_toList, e1, callA_fn0 pl34]
    refine containsAny_c (b :: r) hl fun G hE => ?_
    cases hs : hasSq (b :: r) with
    | true =>
      simp only [go_sem, reduceCtorEq, Nat.reduceEqDiff, Nat.reduceAdd, ]
      refine tail G 0 hE ?_
      unfold quoteW
      rw [if_neg (by rw [hs]; simp)]
    | false =>
      simp only [go_sem, reduceCtorEq, Nat.reduceEqDiff, Nat.reduceAdd, c15_1, c15_0, r15_2]
      have := h G hE
      unfold quoteW at this
      rw [if_pos ⟨by simp, hs⟩] at this
      exact this
end Go.Proofs.YtoabcmhiaknjiaaDoor

/- The example of chapter 39: what the functions answer there. -/
set_option maxRecDepth 100000
set_option linter.unusedVariables false
namespace Go.Proofs.YtoabcmhiaknjiaaDoor
open Go.Hw

def exScan : List UInt8 := [115, 116, 101, 112, 32, 83, 49, 32, 112, 114, 111, 103, 114, 97, 109, 32, 115, 111, 114, 116, 32, 112, 97, 114, 109, 32, 39, 98, 121, 32, 49, 32, 56, 39]
def exRepl : List UInt8 := [100, 100, 32, 79, 85, 84, 32, 100, 97, 116, 97, 32, 80, 65, 89, 46, 68, 38, 68, 65, 89, 59, 32, 110, 101, 119]
def exStep : List UInt8 := [115, 116, 101, 112, 32, 83, 49, 32, 112, 114, 111, 103, 114, 97, 109, 32, 99, 111, 112, 121]
def exText : List UInt8 := exStep ++ [10]

theorem exScan_eq : scanF exScan = some [[115, 116, 101, 112], [83, 49], [112, 114, 111, 103, 114, 97, 109], [115, 111, 114, 116], [112, 97, 114, 109], [98, 121, 32, 49, 32, 56]] := by
  have e : exScan.dropWhile blank = exScan := rfl
  unfold scanF
  rw [e, scanT_step _ (by decide) (by decide) (by decide)]
  rw [show ((firstV exScan).2.1.dropWhile blank) = exScan.drop 5 from rfl, scanT_step _ (by decide) (by decide) (by decide)]
  rw [show ((firstV (exScan.drop 5)).2.1.dropWhile blank) = exScan.drop 8 from rfl, scanT_step _ (by decide) (by decide) (by decide)]
  rw [show ((firstV (exScan.drop 8)).2.1.dropWhile blank) = exScan.drop 16 from rfl, scanT_step _ (by decide) (by decide) (by decide)]
  rw [show ((firstV (exScan.drop 16)).2.1.dropWhile blank) = exScan.drop 21 from rfl, scanT_step _ (by decide) (by decide) (by decide)]
  rw [show ((firstV (exScan.drop 21)).2.1.dropWhile blank) = exScan.drop 26 from rfl]
  have e6 : firstV (exScan.drop 26) = ([98, 121, 32, 49, 32, 56], [], true) := by
    show firstV (39 :: [98, 121, 32, 49, 32, 56, 39]) = _
    rw [firstV_quote]
    simp [quoteF]
  rw [scanT_step _ (by decide) (by rw [e6]) (by rw [e6]; simp), e6]
  show scanT [] _ = _
  rw [scanT_nil]
  rfl
theorem exStep_scan : scanF exStep = some [[115, 116, 101, 112], [83, 49], [112, 114, 111, 103, 114, 97, 109], [99, 111, 112, 121]] := by
  have e : exStep.dropWhile blank = exStep := rfl
  unfold scanF
  rw [e, scanT_step _ (by decide) (by decide) (by decide)]
  rw [show ((firstV exStep).2.1.dropWhile blank) = exStep.drop 5 from rfl, scanT_step _ (by decide) (by decide) (by decide)]
  rw [show ((firstV (exStep.drop 5)).2.1.dropWhile blank) = exStep.drop 8 from rfl, scanT_step _ (by decide) (by decide) (by decide)]
  rw [show ((firstV (exStep.drop 8)).2.1.dropWhile blank) = exStep.drop 16 from rfl, scanT_step _ (by decide) (by decide) (by decide)]
  show scanT [] _ = _
  rw [scanT_nil]
  rfl
theorem exRepl_eq : replR (List.lookup · [([68, 65, 89], [55])]) exRepl = ([100, 100, 32, 79, 85, 84, 32, 100, 97, 116, 97, 32, 80, 65, 89, 46, 68, 55, 32, 110, 101, 119], 0) := by decide
theorem exStep_repl : replR (fun x => List.lookup x ([] : List (List UInt8 × List UInt8))) exStep = (exStep, 0) := by decide
theorem exQuote_eq : quoteW [97, 32, 98] = [39, 97, 32, 98, 39] := by decide
theorem exText_lines : linesF exText = [exStep] := by decide
theorem exStep_word : lineW (fun x => List.lookup x ([] : List (List UInt8 × List UInt8))) exStep = .ok [[115, 116, 101, 112], [83, 49], [112, 114, 111, 103, 114, 97, 109], [99, 111, 112, 121]] := by
  unfold lineW
  rw [if_neg (by decide), exStep_repl, if_pos rfl]
  simp only [exStep_scan]
end Go.Proofs.YtoabcmhiaknjiaaDoor

set_option maxRecDepth 100000
namespace Go.Proofs.YtoabcmhiaknjiaaDoor
open Go.Hw
/-! ### 26 (*strings.Builder).WriteString -/
def r26_0 : List O := [⟨some 4, .assign (.const (.int .i64 0)), 3, none⟩,
  ⟨some 5, .assign (.const .nilIface), 57, none⟩]
def r26_1 : List O := [⟨some 6, .move (.tmp 0), 51, none⟩,
  ⟨some 7, .call { callee := .value (.func 52), args := #[.tmp 6], argTypes := #[51] }, 0, none⟩]
def r26_2 : List O := [⟨some 8, .move (.tmp 0), 51, none⟩,
  ⟨some 9, .move (.tmp 0), 51, none⟩,
  ⟨some 10, .nilCheck (.tmp 9), 0, none⟩,
  ⟨some 11, .fieldAddr 54 (.tmp 10) 1, 0, none⟩,
  ⟨some 12, .load 52 (.tmp 11), 52, none⟩,
  ⟨some 13, .move (.tmp 1), 9, none⟩,
  ⟨some 14, .call { callee := .builtin .append, args := #[.tmp 12, .tmp 13], argTypes := #[52, 9] }, 52, none⟩,
  ⟨some 15, .nilCheck (.tmp 8), 0, none⟩,
  ⟨some 16, .fieldAddr 54 (.tmp 15) 1, 0, none⟩,
  ⟨none, .store 52 (.tmp 16) (.tmp 14), 0, none⟩]
def r26_3 : List O := [⟨some 17, .move (.tmp 1), 9, none⟩,
  ⟨some 18, .call { callee := .builtin .len, args := #[.tmp 17], argTypes := #[9] }, 3, none⟩,
  ⟨some 4, .assign (.tmp 18), 3, none⟩,
  ⟨some 5, .assign (.const .nilIface), 57, none⟩]
def c26_0 : A := .seq (.reg r26_3 [4, 5]) .ret
def c26_1 : A := .seq (.reg r26_2 [1]) c26_0
def c26_2 : A := .seq (.reg r26_1 [0, 1]) c26_1
def c26 : A := .seq (.reg r26_0 [0, 1]) c26_2
theorem B26 : Body Tryd.prog 26 19 [.tmp 4, .tmp 5] c26 := ⟨by kernel_rfl, _, _, [(0, [0, 1]), (1, [0, 1]), (2, [1]), (3, [4, 5])], Tryd.func26, rfl, rfl, rfl, by kernel_rfl⟩
/-! ### 28 (*strings.Builder).WriteByte -/
def r28_0 : List O := [⟨some 4, .assign (.const .nilIface), 57, none⟩]
def r28_1 : List O := [⟨some 5, .move (.tmp 0), 51, none⟩,
  ⟨some 6, .call { callee := .value (.func 52), args := #[.tmp 5], argTypes := #[51] }, 0, none⟩]
def r28_2 : List O := [⟨some 7, .move (.tmp 0), 51, none⟩,
  ⟨some 8, .move (.tmp 0), 51, none⟩,
  ⟨some 9, .nilCheck (.tmp 8), 0, none⟩,
  ⟨some 10, .fieldAddr 54 (.tmp 9) 1, 0, none⟩,
  ⟨some 11, .load 52 (.tmp 10), 52, none⟩,
  ⟨some 12, .move (.tmp 1), 5, none⟩,
  ⟨some 13, .buildSlice 52 1 #[(0, .tmp 12)], 52, none⟩,
  ⟨some 14, .call { callee := .builtin .append, args := #[.tmp 11, .tmp 13], argTypes := #[52, 52] }, 52, none⟩,
  ⟨some 15, .nilCheck (.tmp 7), 0, none⟩,
  ⟨some 16, .fieldAddr 54 (.tmp 15) 1, 0, none⟩,
  ⟨none, .store 52 (.tmp 16) (.tmp 14), 0, none⟩]
def r28_3 : List O := [⟨some 4, .assign (.const .nilIface), 57, none⟩]
def c28_0 : A := .seq (.reg r28_3 [4]) .ret
def c28_1 : A := .seq (.reg r28_2 []) c28_0
def c28_2 : A := .seq (.reg r28_1 [0, 1]) c28_1
def c28 : A := .seq (.reg r28_0 [0, 1]) c28_2
theorem B28 : Body Tryd.prog 28 17 [.tmp 4] c28 := ⟨by kernel_rfl, _, _, [(0, [0, 1]), (1, [0, 1]), (2, []), (3, [4])], Tryd.func28, rfl, rfl, rfl, by kernel_rfl⟩
/-! ### 32 (*strings.Builder).String -/
def r32_0 : List O := [⟨some 2, .assign (.const (.string ⟨#[]⟩)), 9, none⟩]
def r32_1 : List O := [⟨some 3, .move (.tmp 0), 51, none⟩,
  ⟨some 4, .nilCheck (.tmp 3), 0, none⟩,
  ⟨some 5, .fieldAddr 54 (.tmp 4) 1, 0, none⟩,
  ⟨some 6, .load 52 (.tmp 5), 52, none⟩,
  ⟨some 7, .call { callee := .builtin .unsafeSliceData, args := #[.tmp 6], argTypes := #[52] }, 97, none⟩,
  ⟨some 8, .move (.tmp 0), 51, none⟩,
  ⟨some 9, .nilCheck (.tmp 8), 0, none⟩,
  ⟨some 10, .fieldAddr 54 (.tmp 9) 1, 0, none⟩,
  ⟨some 11, .load 52 (.tmp 10), 52, none⟩,
  ⟨some 12, .call { callee := .builtin .len, args := #[.tmp 11], argTypes := #[52] }, 3, none⟩,
  ⟨some 13, .call { callee := .builtin .unsafeString, args := #[.tmp 7, .tmp 12], argTypes := #[97, 3] }, 9, none⟩,
  ⟨some 2, .assign (.tmp 13), 9, none⟩]
def c32_0 : A := .seq (.draw 10 r32_1 [2]) .ret
def c32 : A := .seq (.reg r32_0 [0]) c32_0
theorem B32 : Body Tryd.prog 32 14 [.tmp 2] c32 := ⟨by kernel_rfl, _, _, [(0, [0]), (1, [2])], Tryd.func32, rfl, rfl, rfl, by kernel_rfl⟩
/-! ### 31 (*strings.Builder).Len -/
def r31_0 : List O := [⟨some 2, .assign (.const (.int .i64 0)), 3, none⟩]
def r31_1 : List O := [⟨some 3, .move (.tmp 0), 51, none⟩,
  ⟨some 4, .nilCheck (.tmp 3), 0, none⟩,
  ⟨some 5, .fieldAddr 54 (.tmp 4) 1, 0, none⟩,
  ⟨some 6, .load 52 (.tmp 5), 52, none⟩,
  ⟨some 7, .call { callee := .builtin .len, args := #[.tmp 6], argTypes := #[52] }, 3, none⟩,
  ⟨some 2, .assign (.tmp 7), 3, none⟩]
def c31_0 : A := .seq (.reg r31_1 [2]) .ret
def c31 : A := .seq (.reg r31_0 [0]) c31_0
theorem B31 : Body Tryd.prog 31 8 [.tmp 2] c31 := ⟨by kernel_rfl, _, _, [(0, [0]), (1, [2])], Tryd.func31, rfl, rfl, rfl, by kernel_rfl⟩
end Go.Proofs.YtoabcmhiaknjiaaDoor

/- The shelf's contracts for writing into a strings.Builder, laid from the numbers of strings.Replace's closure. -/
set_option linter.unusedVariables false
set_option linter.unusedSimpArgs false
set_option maxRecDepth 100000
namespace Go.Proofs
theorem Tryd.layz166 : Go.Proofs.Lays.n166 Tryd.prog Tryd.lays154_ren := {mixed := Tryd.lays154.mixed, f166 := Tryd.lays154.f166, f240 := Tryd.lays154.f240, f276 := Tryd.lays154.f276, t0 := Tryd.lays154.t0, a0 := Tryd.lays154.a0, z0 := Tryd.lays154.z0, v0 := Tryd.lays154.v0, t3 := Tryd.lays154.t3, a3 := Tryd.lays154.a3, z3 := Tryd.lays154.z3, v3 := Tryd.lays154.v3, t4 := Tryd.lays154.t4, a4 := Tryd.lays154.a4, z4 := Tryd.lays154.z4, v4 := Tryd.lays154.v4, t9 := Tryd.lays154.t9, a9 := Tryd.lays154.a9, z9 := Tryd.lays154.z9, v9 := Tryd.lays154.v9, t20 := Tryd.lays154.t20, a20 := Tryd.lays154.a20, z20 := Tryd.lays154.z20, v20 := Tryd.lays154.v20, t37 := Tryd.lays154.t37, a37 := Tryd.lays154.a37, z37 := Tryd.lays154.z37, v37 := Tryd.lays154.v37, t70 := Tryd.lays154.t70, a70 := Tryd.lays154.a70, z70 := Tryd.lays154.z70, v70 := Tryd.lays154.v70, t72 := Tryd.lays154.t72, a72 := Tryd.lays154.a72, z72 := Tryd.lays154.z72, v72 := Tryd.lays154.v72, t75 := Tryd.lays154.t75, a75 := Tryd.lays154.a75, z75 := Tryd.lays154.z75, v75 := Tryd.lays154.v75, t164 := Tryd.lays154.t164, a164 := Tryd.lays154.a164, z164 := Tryd.lays154.z164, v164 := Tryd.lays154.v164 }
theorem Tryd.layz240 : Go.Proofs.Lays.n240 Tryd.prog Tryd.lays154_ren := {mixed := Tryd.lays154.mixed, f240 := Tryd.lays154.f240, f276 := Tryd.lays154.f276, t0 := Tryd.lays154.t0, a0 := Tryd.lays154.a0, z0 := Tryd.lays154.z0, v0 := Tryd.lays154.v0, t4 := Tryd.lays154.t4, a4 := Tryd.lays154.a4, z4 := Tryd.lays154.z4, v4 := Tryd.lays154.v4, t9 := Tryd.lays154.t9, a9 := Tryd.lays154.a9, z9 := Tryd.lays154.z9, v9 := Tryd.lays154.v9, t20 := Tryd.lays154.t20, a20 := Tryd.lays154.a20, z20 := Tryd.lays154.z20, v20 := Tryd.lays154.v20, t70 := Tryd.lays154.t70, a70 := Tryd.lays154.a70, z70 := Tryd.lays154.z70, v70 := Tryd.lays154.v70, t72 := Tryd.lays154.t72, a72 := Tryd.lays154.a72, z72 := Tryd.lays154.z72, v72 := Tryd.lays154.v72, t164 := Tryd.lays154.t164, a164 := Tryd.lays154.a164, z164 := Tryd.lays154.z164, v164 := Tryd.lays154.v164 }
def Tryd.layz167_ren : Go.Shelf.Ren := ⟨fun | 167 => 28 | n => Tryd.lays154_ren.f n, Tryd.lays154_ren.t, Tryd.lays154_ren.g⟩
theorem Tryd.layz167 : Go.Proofs.Lays.n167 Tryd.prog Tryd.layz167_ren := {mixed := Tryd.lays154.mixed, f167 := Tryd.func28.trans (congrArg some (by kernel_rfl)), f240 := Tryd.lays154.f240, f276 := Tryd.lays154.f276, t0 := Tryd.lays154.t0, a0 := Tryd.lays154.a0, z0 := Tryd.lays154.z0, v0 := Tryd.lays154.v0, t4 := Tryd.lays154.t4, a4 := Tryd.lays154.a4, z4 := Tryd.lays154.z4, v4 := Tryd.lays154.v4, t5 := Tryd.lays154.t5, a5 := Tryd.lays154.a5, z5 := Tryd.lays154.z5, v5 := Tryd.lays154.v5, t9 := Tryd.lays154.t9, a9 := Tryd.lays154.a9, z9 := Tryd.lays154.z9, v9 := Tryd.lays154.v9, t20 := Tryd.lays154.t20, a20 := Tryd.lays154.a20, z20 := Tryd.lays154.z20, v20 := Tryd.lays154.v20, t37 := Tryd.lays154.t37, a37 := Tryd.lays154.a37, z37 := Tryd.lays154.z37, v37 := Tryd.lays154.v37, t70 := Tryd.lays154.t70, a70 := Tryd.lays154.a70, z70 := Tryd.lays154.z70, v70 := Tryd.lays154.v70, t72 := Tryd.lays154.t72, a72 := Tryd.lays154.a72, z72 := Tryd.lays154.z72, v72 := Tryd.lays154.v72, t75 := Tryd.lays154.t75, a75 := Tryd.lays154.a75, z75 := Tryd.lays154.z75, v75 := Tryd.lays154.v75, t164 := Tryd.lays154.t164, a164 := Tryd.lays154.a164, z164 := Tryd.lays154.z164, v164 := Tryd.lays154.v164 }
theorem Tryd.Builder_Extra_z167 : Builder.Extra Tryd.prog Tryd.layz167_ren := {sizeBuilder := Tryd.Builder_Extra_154.sizeBuilder, liesBuilder := Tryd.Builder_Extra_154.liesBuilder, t5 := Tryd.Builder_Extra_154.t5, a5 := Tryd.Builder_Extra_154.a5, z5 := Tryd.Builder_Extra_154.z5, v5 := Tryd.Builder_Extra_154.v5, infoByte := Tryd.Builder_Extra_154.infoByte, cellsByte := Tryd.Builder_Extra_154.cellsByte, sizeByte := Tryd.Builder_Extra_154.sizeByte, neB5 := Tryd.Builder_Extra_154.neB5}

end Go.Proofs

namespace Go.Proofs.YtoabcmhiaknjiaaDoor
open Go.Hw Go.RowKit
/-- Below B0 all is as it was. -/
def BelowH (B0 : Nat) (H H' : Hp) : Prop := H.size ≤ H'.size ∧ ∀ k, k < B0 → H'[k]? = H[k]?
/-- A strings.Builder at block b that holds bs; it and its buffer lie at or behind B0. -/
def Bld (B0 b : Nat) (bs : List UInt8) (H : Hp) : Prop :=
  B0 ≤ b ∧ ∃ p v, (p = .pointer none ∨ p = .pointer (some ⟨b, 0, none⟩)) ∧ H[b]? = some (.cells #[p, v] 54 (0, 0)) ∧ OwnS (fun g => B0 ≤ g ∧ g ≠ b) 5 1 H v bs.length (bytesV bs) ∧ (v = .slice none 0 0 ∨ ∃ a n c, v = .slice (some a) n c ∧ c ≠ 0)
theorem Bld.ext {B0 b : Nat} {bs : List UInt8} {H H' : Hp} (h : Bld B0 b bs H) (e : Ext H H') : Bld B0 b bs H' := by
  obtain ⟨h0, p, v, h1, h2, h3, h4⟩ := h
  exact ⟨h0, p, v, h1, e.get h2, h3.ext e, h4⟩
theorem Bld.new {H : Hp} : Bld H.size H.size [] (H.push (.cells #[.pointer none, .slice none 0 0] 54 (0, 0))) :=
  ⟨Nat.le_refl _, .pointer none, .slice none 0 0, .inl rfl, get_push_eq, OwnS.nil _ _ _ _, .inl rfl⟩
theorem _root_.Go.Hw.Ext.belowH {H G G' : Hp} (h : Ext H G) (b : BelowH H.size G G') : Ext H G' := ⟨Nat.le_trans h.size b.1, fun k hk => (b.2 k hk).trans (h.blk k hk)⟩

section
variable {H : Hp} {K : Ending → Hp → Prop} {B0 b : Nat} {bs : List UInt8}
theorem set_self {H : Hp} {b : Nat} {o : Obj} (h : H[b]? = some o) : H.setIfInBounds b o = H := by
  apply Array.ext_getElem?
  intro j
  rw [Array.getElem?_setIfInBounds]
  by_cases hj : b = j
  · subst hj; have := get_lt h; simp [get_eq h, this]
  · simp [hj]
theorem copyCheck_c {p v : Value} (hp : p = .pointer none ∨ p = .pointer (some ⟨b, 0, none⟩)) (hb : H[b]? = some (.cells #[p, v] 54 (0, 0))) (k : K (.returned (.tuple #[])) (H.setIfInBounds b (.cells #[.pointer (some ⟨b, 0, none⟩), v] 54 (0, 0)))) :
    HCall Tryd.prog 52 #[.pointer (some ⟨b, 0, none⟩)] H K := by
  intro w hw
  subst hw
  have c0 : w.cell? ⟨b, 0, none⟩ = some p := by rw [cellH_eq, cell_of_blk hb]; rfl
  rcases hp with rfl | rfl
  · refine (Any.Builder_copyCheck_fresh Tryd.layz240 Tryd.Builder_Extra_154.toX72 b w c0 (by simp [World.shape?, hb]; rfl) (by simp [World.frozen?, hb])).mono ?_
    rintro e w' ⟨rfl, rfl⟩
    refine ⟨EnvEq.modify w _ _ fun d => rfl, ?_⟩
    have : (w.setCell ⟨b, 0, none⟩ (.pointer (some ⟨b, 0, none⟩))).heap = w.heap.setIfInBounds b (.cells #[.pointer (some ⟨b, 0, none⟩), v] 54 (0, 0)) := setCell_blk hb
    rw [this]
    exact k
  · refine (Any.Builder_copyCheck_used Tryd.layz240 Tryd.Builder_Extra_154.toX72 b w c0).mono ?_
    rintro e w' ⟨rfl, rfl⟩
    rw [set_self hb] at k
    exact ⟨.refl _, k⟩

theorem uBy : Tryd.prog.underlying 52 = some (.slice 5) := Tryd.underlying52
theorem bld_put {B0 b : Nat} {bs' : List UInt8} {G : Hp} {p v' : Value} (h0 : B0 ≤ b) (hG : G[b]? = some (.cells #[.pointer (some ⟨b, 0, none⟩), p] 54 (0, 0))) (own : OwnS (fun g => B0 ≤ g ∧ g ≠ b) 5 1 G v' bs'.length (bytesV bs')) (hv : v' = .slice none 0 0 ∨ ∃ a n c, v' = .slice (some a) n c ∧ c ≠ 0) :
    Bld B0 b bs' (G.setIfInBounds b (.cells #[.pointer (some ⟨b, 0, none⟩), v'] 54 (0, 0))) := by
  refine ⟨h0, _, v', .inr rfl, ?_, ?_, hv⟩
  · rw [Array.getElem?_setIfInBounds]
    have := get_lt hG
    simp [this]
  · refine own.keep (S := fun x => x = b) ⟨by simp, fun i hi hn => ?_⟩ fun g hg hgb => (own.ok g hg).2 hgb
    rw [Array.getElem?_setIfInBounds_ne (fun e => hn e.symm)]

theorem bWriteString (s : List UInt8) (h : Bld B0 b bs H) (hl : bs.length + s.length ≤ 140000000000000) (hB : B0 ≤ H.size) (k : ∀ H', Bld B0 b (bs ++ s) H' → BelowH B0 H H' → K (.returned (.tuple #[.int .i64 s.length, .nilIface])) H') :
    HCall Tryd.prog 26 #[.pointer (some ⟨b, 0, none⟩), .string (B s)] H K := by
  obtain ⟨h0, p, v, hp, hb, own, hv⟩ := h
  refine hcall mixed B26 (args := [.pointer (some ⟨b, 0, none⟩), .string (B s)]) (by simp) ?_
  simp only [go_sem, reduceCtorEq, Nat.reduceEqDiff, Nat.reduceAdd, c26, r26_0, c26_2, r26_1, callA_fn0 pl52]
  refine copyCheck_c hp hb ?_
  have hlt := get_lt hb
  have hG1 : (H.setIfInBounds b (.cells #[.pointer (some ⟨b, 0, none⟩), v] 54 (0, 0)))[b]? = some (.cells #[.pointer (some ⟨b, 0, none⟩), v] 54 (0, 0)) := by
    rw [Array.getElem?_setIfInBounds]; simp [hlt]
  have own1 : OwnS (fun g => B0 ≤ g ∧ g ≠ b) 5 1 (H.setIfInBounds b (.cells #[.pointer (some ⟨b, 0, none⟩), v] 54 (0, 0))) v bs.length (bytesV bs) :=
    own.keep (S := fun x => x = b) ⟨by simp, fun i hi hn => by rw [Array.getElem?_setIfInBounds_ne (fun e => hn e.symm)]⟩ fun g hg hgb => (own.ok g hg).2 hgb
  have hBel : BelowH B0 H (H.setIfInBounds b (.cells #[.pointer (some ⟨b, 0, none⟩), v] 54 (0, 0))) := ⟨by simp, fun k hk => by rw [Array.getElem?_setIfInBounds_ne (by omega)]⟩
  have hsz1 : (H.setIfInBounds b (.cells #[.pointer (some ⟨b, 0, none⟩), v] 54 (0, 0))).size = H.size := by simp
  generalize (H.setIfInBounds b (.cells #[.pointer (some ⟨b, 0, none⟩), v] 54 (0, 0))) = G at *
  simp only [go_sem, reduceCtorEq, Nat.reduceEqDiff, Nat.reduceAdd, c26_1, r26_2, fadA_ok fld54_1, add_none]
  rw [loadA_cell (v := v) uBy rfl (by rw [cell_of_blk hG1]; rfl)]
  simp only [go_sem, reduceCtorEq, Nat.reduceEqDiff, Nat.reduceAdd, ]
  have fin : ∀ (v' : Value) (G' : Hp), G'[b]? = some (.cells #[.pointer (some ⟨b, 0, none⟩), v] 54 (0, 0)) → OwnS (fun g => B0 ≤ g ∧ g ≠ b) 5 1 G' v' (bs ++ s).length (bytesV (bs ++ s)) → (v' = .slice none 0 0 ∨ ∃ a n c, v' = .slice (some a) n c ∧ c ≠ 0) → BelowH B0 H G' →
      K (.returned (.tuple #[.int .i64 s.length, .nilIface])) (G'.setIfInBounds b (.cells #[.pointer (some ⟨b, 0, none⟩), v'] 54 (0, 0))) := by
    intro v' G' g1 g2 g3 g4
    refine k _ (bld_put h0 g1 g2 g3) ⟨by simpa using g4.1, fun j hj => ?_⟩
    rw [Array.getElem?_setIfInBounds_ne (by omega)]
    exact g4.2 j hj
  have hput : ∀ (v' : Value) (G' : Hp), (∃ a n c, v' = .slice a n c) → G'[b]? = some (.cells #[.pointer (some ⟨b, 0, none⟩), v] 54 (0, 0)) → putH G' ⟨b, 1, none⟩ 0 v'.cells.toList = some (G'.setIfInBounds b (.cells #[.pointer (some ⟨b, 0, none⟩), v'] 54 (0, 0))) := by
    rintro v' G' ⟨a, n, c, rfl⟩ hg
    have := putH_blk (b := b) (off := 1) (e := 54) (f := (0, 0)) [.slice a n c] 0 G' #[.pointer (some ⟨b, 0, none⟩), v] hg (by simp [oneC]) (by simp) (by simp)
    simpa [Value.cells, splice] using this
  by_cases hs : s = []
  · subst hs
    obtain ⟨a, n, c, rfl⟩ : ∃ a n c, v = .slice a n c := by
      obtain ⟨a, c, h⟩ := own.form; exact ⟨a, _, c, h⟩
    have hnc : n ≤ c := by
      rcases own with ⟨h, _, _⟩ | ⟨b', cap, c', f, h1, _, _, _, h5, _⟩
      · cases h; omega
      · cases h1; exact h5
    rw [append_empty hnc uBy ty5 uStr rfl]
    simp only [go_sem, reduceCtorEq, Nat.reduceEqDiff, Nat.reduceAdd, fadA_ok fld54_1, add_none]
    rw [storeA_put ty52 rfl (hput _ _ ⟨_, _, _, rfl⟩ hG1)]
    simp only [go_sem, reduceCtorEq, Nat.reduceEqDiff, Nat.reduceAdd, c26_0, r26_3, len_B uStr]
    exact fin _ _ hG1 (by simpa using own1) hv hBel
  · have hs0 := List.length_pos_iff.2 hs
    refine append_own (ok := fun g => B0 ≤ g ∧ g ≠ b) own1 (l2 := bytesV s) (m := s.length) (.inr (.inr ⟨B s, rfl, (B_size s).symm, by rw [B_list]; rfl⟩)) uBy ty5 uStr rfl rfl (fun _ => rfl) (by intro u hu; simp only [bytesV, List.mem_map] at hu; obtain ⟨c, _, rfl⟩ := hu; rfl) (fun g hg => ⟨by omega, by omega⟩) (by omega) (by omega) ?_
    intro v' G' o1 o2 o3
    have hG2 : G'[b]? = some (.cells #[.pointer (some ⟨b, 0, none⟩), v] 54 (0, 0)) := o2.get hG1 (fun hb' => (own1.ok b hb').2 rfl)
    obtain ⟨a, c, rfl⟩ := o1.form
    have hc : a.isSome = true ∧ c ≠ 0 := by
      rcases o1 with ⟨h, h2, _⟩ | ⟨b', cap, c', f, h1, _, _, _, h5, _⟩
      · omega
      · cases h1; exact ⟨rfl, by omega⟩
    simp only [go_sem, reduceCtorEq, Nat.reduceEqDiff, Nat.reduceAdd, fadA_ok fld54_1, add_none]
    rw [storeA_put ty52 rfl (hput _ _ ⟨_, _, _, rfl⟩ hG2)]
    simp only [go_sem, reduceCtorEq, Nat.reduceEqDiff, Nat.reduceAdd, c26_0, r26_3, len_B uStr]
    refine fin _ _ hG2 ?_ ?_ ⟨Nat.le_trans hBel.1 o2.size, fun j hj => ?_⟩
    · have e1 : bytesV (bs ++ s) = bytesV bs ++ bytesV s := by simp [bytesV]
      rw [e1, List.length_append]; exact o1
    · obtain ⟨a, rfl⟩ := Option.isSome_iff_exists.1 hc.1
      exact .inr ⟨a, _, c, rfl, hc.2⟩
    · rw [← hBel.2 j hj]
      refine o2.blk j (by omega) fun hb' => ?_
      have := (own1.ok j hb').1
      omega

theorem bWriteByte (c : UInt8) (h : Bld B0 b bs H) (hl : bs.length + 1 ≤ 140000000000000) (hB : B0 ≤ H.size) (k : ∀ H', Bld B0 b (bs ++ [c]) H' → BelowH B0 H H' → K (.returned .nilIface) H') :
    HCall Tryd.prog 28 #[.pointer (some ⟨b, 0, none⟩), .int .u8 c.toNat] H K := by
  obtain ⟨h0, p, v, hp, hb, own, hv⟩ := h
  refine hcall mixed B28 (args := [.pointer (some ⟨b, 0, none⟩), .int .u8 c.toNat]) (by simp) ?_
  simp only [go_sem, reduceCtorEq, Nat.reduceEqDiff, Nat.reduceAdd, c28, r28_0, c28_2, r28_1, callA_fn0 pl52]
  refine copyCheck_c hp hb ?_
  have hlt := get_lt hb
  have hG1 : (H.setIfInBounds b (.cells #[.pointer (some ⟨b, 0, none⟩), v] 54 (0, 0)))[b]? = some (.cells #[.pointer (some ⟨b, 0, none⟩), v] 54 (0, 0)) := by
    rw [Array.getElem?_setIfInBounds]; simp [hlt]
  have own1 : OwnS (fun g => B0 ≤ g ∧ g ≠ b) 5 1 (H.setIfInBounds b (.cells #[.pointer (some ⟨b, 0, none⟩), v] 54 (0, 0))) v bs.length (bytesV bs) :=
    own.keep (S := fun x => x = b) ⟨by simp, fun i hi hn => by rw [Array.getElem?_setIfInBounds_ne (fun e => hn e.symm)]⟩ fun g hg hgb => (own.ok g hg).2 hgb
  have hBel : BelowH B0 H (H.setIfInBounds b (.cells #[.pointer (some ⟨b, 0, none⟩), v] 54 (0, 0))) := ⟨by simp, fun k hk => by rw [Array.getElem?_setIfInBounds_ne (by omega)]⟩
  have hsz1 : (H.setIfInBounds b (.cells #[.pointer (some ⟨b, 0, none⟩), v] 54 (0, 0))).size = H.size := by simp
  generalize (H.setIfInBounds b (.cells #[.pointer (some ⟨b, 0, none⟩), v] 54 (0, 0))) = G at *
  simp only [go_sem, reduceCtorEq, Nat.reduceEqDiff, Nat.reduceAdd, c28_1, r28_2, fadA_ok fld54_1, add_none]
  rw [loadA_cell (v := v) uBy rfl (by rw [cell_of_blk hG1]; rfl)]
  simp only [go_sem, reduceCtorEq, Nat.reduceEqDiff, Nat.reduceAdd, ]
  rw [bslA_one uBy ty5 rfl]
  simp only [go_sem, reduceCtorEq, Nat.reduceEqDiff, Nat.reduceAdd, ]
  refine append_lit (ok := fun g => B0 ≤ g ∧ g ≠ b) (m := 1) own1 uBy ty5 rfl rfl (by intro u hu; simp at hu; subst hu; rfl) (fun g hg => ⟨by omega, by omega⟩) (by omega) (by omega) ?_
  intro v' G' o1 o2 o3
  have hG2 : G'[b]? = some (.cells #[.pointer (some ⟨b, 0, none⟩), v] 54 (0, 0)) := o2.get hG1 (fun hb' => (own1.ok b hb').2 rfl)
  obtain ⟨a, cp, rfl⟩ := o1.form
  have hc : a.isSome = true ∧ cp ≠ 0 := by
    rcases o1 with ⟨h, h2, _⟩ | ⟨b', cap, c', f, h1, _, _, _, h5, _⟩
    · omega
    · cases h1; exact ⟨rfl, by omega⟩
  have hput : putH G' ⟨b, 1, none⟩ 0 (Value.slice a (bs.length + 1) cp).cells.toList = some (G'.setIfInBounds b (.cells #[.pointer (some ⟨b, 0, none⟩), .slice a (bs.length + 1) cp] 54 (0, 0))) := by
    have := putH_blk (b := b) (off := 1) (e := 54) (f := (0, 0)) [.slice a (bs.length + 1) cp] 0 G' #[.pointer (some ⟨b, 0, none⟩), v] hG2 (by simp [oneC]) (by simp) (by simp)
    simpa [Value.cells, splice] using this
  simp only [go_sem, reduceCtorEq, Nat.reduceEqDiff, Nat.reduceAdd, fadA_ok fld54_1, add_none]
  rw [storeA_put ty52 rfl hput]
  simp only [go_sem, reduceCtorEq, Nat.reduceEqDiff, Nat.reduceAdd, c28_0, r28_3]
  refine k _ (bld_put h0 hG2 ?_ ?_) ⟨?_, fun j hj => ?_⟩
  · have e1 : bytesV (bs ++ [c]) = bytesV bs ++ [.int .u8 c.toNat] := by simp [bytesV]
    rw [e1, List.length_append]; exact o1
  · obtain ⟨a, rfl⟩ := Option.isSome_iff_exists.1 hc.1
    exact .inr ⟨a, _, cp, rfl, hc.2⟩
  · simpa using Nat.le_trans hBel.1 o2.size
  · rw [Array.getElem?_setIfInBounds_ne (by omega), ← hBel.2 j hj]
    refine o2.blk j (by omega) fun hb' => ?_
    have := (own1.ok j hb').1
    omega

theorem bLen (h : Bld B0 b bs H) (k : K (.returned (.int .i64 bs.length)) H) : HCall Tryd.prog 31 #[.pointer (some ⟨b, 0, none⟩)] H K := by
  obtain ⟨h0, p, v, hp, hb, own, hv⟩ := h
  obtain ⟨a, c, rfl⟩ := own.form
  refine hcall mixed B31 (args := [.pointer (some ⟨b, 0, none⟩)]) (by simp) ?_
  simp only [go_sem, reduceCtorEq, Nat.reduceEqDiff, Nat.reduceAdd, c31, r31_0, c31_0, r31_1, fadA_ok fld54_1, add_none]
  rw [loadA_cell (v := .slice a bs.length c) uBy rfl (by rw [cell_of_blk hb]; rfl)]
  simp only [go_sem, reduceCtorEq, Nat.reduceEqDiff, Nat.reduceAdd, len_slice uBy]
  exact k

theorem bString (h : Bld B0 b bs H) (hl : bs.length ≤ 140000000000000) (hB : B0 ≤ H.size) (k : ∀ H', BelowH B0 H H' → K (.returned (.string (B bs))) H') : HCall Tryd.prog 32 #[.pointer (some ⟨b, 0, none⟩)] H K := by
  obtain ⟨h0, p, v, hp, hb, own, hv⟩ := h
  obtain ⟨a, c, rfl⟩ := own.form
  refine hcall mixed B32 (args := [.pointer (some ⟨b, 0, none⟩)]) (by simp) ?_
  simp only [go_sem, reduceCtorEq, Nat.reduceEqDiff, Nat.reduceAdd, c32, r32_0, c32_0, r32_1, fadQ_ok fld54_1, add_none]
  rw [loadQ_cell (v := .slice a bs.length c) uBy rfl (by rw [cell_of_blk hb]; rfl)]
  simp only [go_sem, reduceCtorEq, Nat.reduceEqDiff, Nat.reduceAdd, ]
  have hcell : cellH H ⟨b, 1, none⟩ = some (.slice a bs.length c) := by rw [cell_of_blk hb]; rfl
  rcases own with ⟨h1, h2, h3⟩ | ⟨g, cap, cs, f, h1, h2, h3, h4, h5, h6, h7, h8⟩
  · have hbs : bs = [] := List.length_eq_zero_iff.1 h2
    subst hbs
    cases h1
    simp only [go_sem, reduceCtorEq, Nat.reduceEqDiff, Nat.reduceAdd, callQ_usd0, fadQ_ok fld54_1, add_none]
    rw [loadQ_cell uBy rfl hcell]
    simp only [go_sem, reduceCtorEq, Nat.reduceEqDiff, Nat.reduceAdd, lenQ_slice uBy]
    simp only [go_sem, reduceCtorEq, Nat.reduceEqDiff, Nat.reduceAdd, List.length_nil, Int.natCast_zero, callA_ustr0]
    exact k H ⟨Nat.le_refl _, fun _ _ => rfl⟩
  · cases h1
    have hc : c ≠ 0 := by
      rcases hv with h | ⟨a', n', c', h, h'⟩
      · cases h
      · cases h; exact h'
    simp only [go_sem, reduceCtorEq, Nat.reduceEqDiff, Nat.reduceAdd, callQ_usd hc, fadQ_ok fld54_1, add_none]
    rw [loadQ_cell uBy rfl hcell]
    simp only [go_sem, reduceCtorEq, Nat.reduceEqDiff, Nat.reduceAdd, lenQ_slice uBy]
    by_cases hbs : bs = []
    · subst hbs
      simp only [go_sem, reduceCtorEq, Nat.reduceEqDiff, Nat.reduceAdd, List.length_nil, Int.natCast_zero, callA_ustr0]
      exact k H ⟨Nat.le_refl _, fun _ _ => rfl⟩
    · rw [callA_ustr Tryd.underlying97 (by kernel_rfl) h3 hbs (by simp only [Nat.mul_one] at h4; omega) (by simpa using h7) (by omega)]
      simp only [go_sem, reduceCtorEq, Nat.reduceEqDiff, Nat.reduceAdd, ]
      refine k _ ⟨?_, fun j hj => ?_⟩
      · unfold freezeH; split <;> simp
      · unfold freezeH
        split
        · rfl
        · rw [Array.getElem?_modify, if_neg (by have := h2.1; simp only; omega)]
end
end Go.Proofs.YtoabcmhiaknjiaaDoor

set_option maxRecDepth 100000
namespace Go.Proofs.YtoabcmhiaknjiaaDoor
open Go.Hw
/-! ### 75 dasd/dsname.upper -/
def r75_0 : List O := [⟨some 2, .assign (.const (.bool false)), 4, none⟩]
def r75_1 : List O := [⟨some 3, .move (.tmp 0), 5, none⟩,
  ⟨some 4, .binOp .geq 5 (.tmp 3) (.const (.int .u8 65)) 5, 4, none⟩,
  ⟨some 5, .move (.tmp 4), 4, none⟩,
  ⟨some 6, .move (.tmp 0), 5, some (5, true)⟩,
  ⟨some 7, .binOp .leq 5 (.tmp 6) (.const (.int .u8 90)) 5, 4, some (5, true)⟩,
  ⟨some 8, .pick (.tmp 5) (.tmp 7) (.const (.bool false)), 4, none⟩,
  ⟨some 2, .assign (.tmp 8), 4, none⟩]
def c75_0 : A := .seq (.reg r75_1 [2]) .ret
def c75 : A := .seq (.reg r75_0 [0]) c75_0
theorem B75 : Body Tryd.prog 75 9 [.tmp 2] c75 := ⟨by kernel_rfl, _, _, [(0, [0]), (1, [2])], Tryd.func75, rfl, rfl, rfl, by kernel_rfl⟩
/-! ### 94 dasd/dsname.digit -/
def r94_0 : List O := [⟨some 2, .assign (.const (.bool false)), 4, none⟩]
def r94_1 : List O := [⟨some 3, .move (.tmp 0), 5, none⟩,
  ⟨some 4, .binOp .geq 5 (.tmp 3) (.const (.int .u8 48)) 5, 4, none⟩,
  ⟨some 5, .move (.tmp 4), 4, none⟩,
  ⟨some 6, .move (.tmp 0), 5, some (5, true)⟩,
  ⟨some 7, .binOp .leq 5 (.tmp 6) (.const (.int .u8 57)) 5, 4, some (5, true)⟩,
  ⟨some 8, .pick (.tmp 5) (.tmp 7) (.const (.bool false)), 4, none⟩,
  ⟨some 2, .assign (.tmp 8), 4, none⟩]
def c94_0 : A := .seq (.reg r94_1 [2]) .ret
def c94 : A := .seq (.reg r94_0 [0]) c94_0
theorem B94 : Body Tryd.prog 94 9 [.tmp 2] c94 := ⟨by kernel_rfl, _, _, [(0, [0]), (1, [2])], Tryd.func94, rfl, rfl, rfl, by kernel_rfl⟩
/-! ### 76 dasd/dsname.plain -/
def r76_0 : List O := [⟨some 2, .assign (.const (.bool false)), 4, none⟩]
def r76_1 : List O := [⟨some 3, .move (.tmp 0), 5, none⟩,
  ⟨some 4, .call { callee := .value (.func 75), args := #[.tmp 3], argTypes := #[5] }, 4, none⟩,
  ⟨some 5, .move (.tmp 4), 4, none⟩,
  ⟨some 6, .move (.tmp 0), 5, some (5, false)⟩,
  ⟨some 7, .call { callee := .value (.func 94), args := #[.tmp 6], argTypes := #[5] }, 4, some (5, false)⟩,
  ⟨some 8, .pick (.tmp 5) (.const (.bool true)) (.tmp 7), 4, none⟩,
  ⟨some 2, .assign (.tmp 8), 4, none⟩]
def c76_0 : A := .seq (.reg r76_1 [2]) .ret
def c76 : A := .seq (.reg r76_0 [0]) c76_0
theorem B76 : Body Tryd.prog 76 9 [.tmp 2] c76 := ⟨by kernel_rfl, _, _, [(0, [0]), (1, [2])], Tryd.func76, rfl, rfl, rfl, by kernel_rfl⟩
/-! ### 74 dasd/dsname.qualifier -/
def r74_0 : List O := [⟨some 6, .assign (.const (.bool false)), 4, none⟩]
def r74_1 : List O := [⟨some 8, .move (.tmp 0), 9, none⟩,
  ⟨some 9, .call { callee := .builtin .len, args := #[.tmp 8], argTypes := #[9] }, 3, none⟩,
  ⟨some 10, .binOp .lss 3 (.tmp 9) (.const (.int .i64 1)) 3, 4, none⟩,
  ⟨some 11, .move (.tmp 10), 4, none⟩,
  ⟨some 12, .move (.tmp 0), 9, some (11, false)⟩,
  ⟨some 13, .call { callee := .builtin .len, args := #[.tmp 12], argTypes := #[9] }, 3, some (11, false)⟩,
  ⟨some 14, .binOp .gtr 3 (.tmp 13) (.const (.int .i64 8)) 3, 4, some (11, false)⟩,
  ⟨some 15, .pick (.tmp 11) (.const (.bool true)) (.tmp 14), 4, none⟩,
  ⟨some 16, .move (.tmp 15), 4, none⟩,
  ⟨some 17, .move (.tmp 1), 110, some (16, false)⟩,
  ⟨some 18, .move (.tmp 0), 9, some (16, false)⟩,
  ⟨some 19, .index 9 (.tmp 18) (.const (.int .i64 0)), 5, some (16, false)⟩,
  ⟨some 20, .call { callee := .value (.tmp 17), args := #[.tmp 19], argTypes := #[5] }, 4, some (16, false)⟩,
  ⟨some 21, .unOp .not 4 (.tmp 20), 4, some (16, false)⟩,
  ⟨some 22, .pick (.tmp 16) (.const (.bool true)) (.tmp 21), 4, none⟩]
def r74_2 : List O := [⟨some 6, .assign (.const (.bool false)), 4, none⟩]
def r74_3 : List O := [⟨some 7, .assign (.const (.int .i64 1)), 3, none⟩]
def r74_4 : List O := [⟨some 23, .move (.tmp 7), 3, none⟩,
  ⟨some 24, .move (.tmp 0), 9, none⟩,
  ⟨some 25, .call { callee := .builtin .len, args := #[.tmp 24], argTypes := #[9] }, 3, none⟩,
  ⟨some 26, .binOp .lss 3 (.tmp 23) (.tmp 25) 3, 4, none⟩]
def r74_6 : List O := [⟨some 29, .move (.tmp 2), 110, none⟩,
  ⟨some 30, .move (.tmp 0), 9, none⟩,
  ⟨some 31, .move (.tmp 7), 3, none⟩,
  ⟨some 32, .index 9 (.tmp 30) (.tmp 31), 5, none⟩,
  ⟨some 33, .call { callee := .value (.tmp 29), args := #[.tmp 32], argTypes := #[5] }, 4, none⟩,
  ⟨some 34, .unOp .not 4 (.tmp 33), 4, none⟩]
def r74_7 : List O := [⟨some 6, .assign (.const (.bool false)), 4, none⟩]
def r74_5 : List O := [⟨some 27, .move (.tmp 7), 3, none⟩,
  ⟨some 28, .binOp .add 3 (.tmp 27) (.const (.int .i64 1)) 3, 3, none⟩,
  ⟨some 7, .assign (.tmp 28), 3, none⟩]
def r74_8 : List O := [⟨some 6, .assign (.const (.bool true)), 4, none⟩]
def c74_0 : A := .seq (.reg r74_2 [6]) .ret
def c74_1 : A := .cond (.tmp 22) c74_0 .skip
def c74_2 : A := .cond (.tmp 26) .skip (.exit 0)
def c74_3 : A := .seq (.reg r74_7 [6]) .ret
def c74_4 : A := .cond (.tmp 34) c74_3 .skip
def c74_5 : A := .seq (.reg r74_6 [0, 2, 7, 34]) c74_4
def c74_6 : A := .seq (.block 1 c74_5) (.reg r74_5 [0, 2, 7])
def c74_7 : A := .seq (.seq (.reg r74_4 [0, 2, 7, 26]) c74_2) (.seq (.keep [0, 2, 7]) c74_6)
def c74_8 : A := .seq c74_7 (.keep [0, 2, 7])
def c74_9 : A := .loop c74_8
def c74_10 : A := .block 0 c74_9
def c74_11 : A := .seq (.reg r74_8 [6]) .ret
def c74_12 : A := .seq (.seq (.reg r74_3 [0, 2, 7]) c74_10) c74_11
def c74_13 : A := .seq (.seq (.reg r74_1 [0, 2, 22]) c74_1) (.seq (.keep [0, 2]) c74_12)
def c74 : A := .seq (.reg r74_0 [0, 1, 2]) c74_13
theorem B74 : Body Tryd.prog 74 35 [.tmp 6] c74 := ⟨by kernel_rfl, _, _, [(0, [0, 1, 2]), (1, [0, 2, 22]), (2, [6]), (3, [0, 2, 7]), (4, [0, 2, 7, 26]), (5, [0, 2, 7]), (6, [0, 2, 7, 34]), (7, [6]), (8, [6]), (1004, [0, 2, 7]), (2003, [0, 2]), (2006, [0, 2, 7])], Tryd.func74, rfl, rfl, rfl, by kernel_rfl⟩
/-! ### 73 dasd/dsname.Valid$1 -/
def r73_0 : List O := [⟨some 2, .assign (.const (.bool false)), 4, none⟩]
def r73_1 : List O := [⟨some 3, .move (.tmp 0), 9, none⟩,
  ⟨some 4, .call { callee := .value (.func 74), args := #[.tmp 3, .func 75, .func 76], argTypes := #[9, 110, 110] }, 4, none⟩,
  ⟨some 2, .assign (.tmp 4), 4, none⟩]
def c73_0 : A := .seq (.reg r73_1 [2]) .ret
def c73 : A := .seq (.reg r73_0 [0]) c73_0
theorem B73 : Body Tryd.prog 73 5 [.tmp 2] c73 := ⟨by kernel_rfl, _, _, [(0, [0]), (1, [2])], Tryd.func73, rfl, rfl, rfl, by kernel_rfl⟩
/-! ### 72 dasd/dsname.all -/
def r72_0 : List O := [⟨some 6, .assign (.const (.bool false)), 4, none⟩]
def r72_1 : List O := [⟨some 9, .move (.tmp 0), 9, none⟩,
  ⟨some 10, .call { callee := .builtin .len, args := #[.tmp 9], argTypes := #[9] }, 3, none⟩,
  ⟨some 11, .binOp .lss 3 (.tmp 10) (.const (.int .i64 1)) 3, 4, none⟩,
  ⟨some 12, .move (.tmp 11), 4, none⟩,
  ⟨some 13, .move (.tmp 0), 9, some (12, false)⟩,
  ⟨some 14, .call { callee := .builtin .len, args := #[.tmp 13], argTypes := #[9] }, 3, some (12, false)⟩,
  ⟨some 15, .move (.tmp 1), 3, some (12, false)⟩,
  ⟨some 16, .binOp .gtr 3 (.tmp 14) (.tmp 15) 3, 4, some (12, false)⟩,
  ⟨some 17, .pick (.tmp 12) (.const (.bool true)) (.tmp 16), 4, none⟩]
def r72_2 : List O := [⟨some 6, .assign (.const (.bool false)), 4, none⟩]
def r72_3 : List O := [⟨some 18, .move (.tmp 0), 9, none⟩,
  ⟨some 19, .call { callee := .value (.func 93), args := #[.tmp 18, .const (.string ⟨#[46]⟩)], argTypes := #[9, 9] }, 24, none⟩,
  ⟨some 20, .call { callee := .builtin .len, args := #[.tmp 19], argTypes := #[24] }, 3, none⟩,
  ⟨some 21, .move (.const (.int .i64 0)), 3, none⟩]
def r72_4 : List O := [⟨some 22, .binOp .lss 3 (.tmp 21) (.tmp 20) 3, 0, none⟩]
def r72_5 : List O := [⟨some 23, .indexAddr 24 (.tmp 19) (.tmp 21), 0, none⟩,
  ⟨some 24, .load 9 (.tmp 23), 9, none⟩,
  ⟨some 8, .assign (.tmp 24), 9, none⟩]
def r72_6 : List O := [⟨some 25, .move (.tmp 2), 62, none⟩,
  ⟨some 26, .move (.tmp 8), 9, none⟩,
  ⟨some 27, .call { callee := .value (.tmp 25), args := #[.tmp 26], argTypes := #[9] }, 4, none⟩,
  ⟨some 28, .unOp .not 4 (.tmp 27), 4, none⟩]
def r72_7 : List O := [⟨some 6, .assign (.const (.bool false)), 4, none⟩]
def r72_8 : List O := [⟨some 29, .binOp .add 3 (.tmp 21) (.const (.int .i64 1)) 3, 3, none⟩,
  ⟨some 21, .move (.tmp 29), 3, none⟩]
def r72_9 : List O := [⟨some 6, .assign (.const (.bool true)), 4, none⟩]
def c72_0 : A := .seq (.reg r72_2 [6]) .ret
def c72_1 : A := .cond (.tmp 17) c72_0 .skip
def c72_2 : A := .seq (.reg r72_7 [6]) .ret
def c72_3 : A := .cond (.tmp 28) c72_2 .skip
def c72_4 : A := .seq (.reg r72_6 [2, 19, 20, 21, 28]) c72_3
def c72_5 : A := .seq (.reg r72_5 [2, 8, 19, 20, 21]) c72_4
def c72_6 : A := .seq (.block 1 c72_5) (.reg r72_8 [2, 19, 20, 21])
def c72_7 : A := .seq (.cond (.tmp 22) .skip (.exit 0)) (.seq (.keep [2, 19, 20, 21]) c72_6)
def c72_8 : A := .seq (.reg r72_4 [2, 19, 20, 21, 22]) c72_7
def c72_9 : A := .seq c72_8 (.keep [2, 19, 20, 21])
def c72_10 : A := .loop c72_9
def c72_11 : A := .block 0 c72_10
def c72_12 : A := .seq (.reg r72_9 [6]) .ret
def c72_13 : A := .seq (.seq (.reg r72_3 [2, 19, 20, 21]) c72_11) c72_12
def c72_14 : A := .seq (.seq (.reg r72_1 [0, 2, 17]) c72_1) (.seq (.keep [0, 2]) c72_13)
def c72 : A := .seq (.reg r72_0 [0, 1, 2]) c72_14
theorem B72 : Body Tryd.prog 72 30 [.tmp 6] c72 := ⟨by kernel_rfl, _, _, [(0, [0, 1, 2]), (1, [0, 2, 17]), (2, [6]), (3, [2, 19, 20, 21]), (4, [2, 19, 20, 21, 22]), (5, [2, 8, 19, 20, 21]), (6, [2, 19, 20, 21, 28]), (7, [6]), (8, [2, 19, 20, 21]), (9, [6]), (1004, [2, 19, 20, 21]), (2003, [0, 2]), (2005, [2, 19, 20, 21])], Tryd.func72, rfl, rfl, rfl, by kernel_rfl⟩
/-! ### 55 dasd/dsname.Valid -/
def r55_0 : List O := [⟨some 2, .assign (.const (.bool false)), 4, none⟩]
def r55_1 : List O := [⟨some 3, .move (.tmp 0), 9, none⟩,
  ⟨some 4, .call { callee := .value (.func 72), args := #[.tmp 3, .const (.int .i64 31), .func 73], argTypes := #[9, 3, 62] }, 4, none⟩,
  ⟨some 2, .assign (.tmp 4), 4, none⟩]
def c55_0 : A := .seq (.reg r55_1 [2]) .ret
def c55 : A := .seq (.reg r55_0 [0]) c55_0
theorem B55 : Body Tryd.prog 55 5 [.tmp 2] c55 := ⟨by kernel_rfl, _, _, [(0, [0]), (1, [2])], Tryd.func55, rfl, rfl, rfl, by kernel_rfl⟩
/-! ### 30 dasd/jobtext.symbol -/
def r30_0 : List O := [⟨some 2, .assign (.const (.bool false)), 4, none⟩]
def r30_1 : List O := [⟨some 3, .move (.tmp 0), 9, none⟩,
  ⟨some 4, .call { callee := .value (.func 55), args := #[.tmp 3], argTypes := #[9] }, 4, none⟩,
  ⟨some 5, .move (.tmp 4), 4, none⟩,
  ⟨some 6, .move (.tmp 0), 9, some (5, true)⟩,
  ⟨some 7, .call { callee := .value (.func 18), args := #[.tmp 6, .const (.string ⟨#[46]⟩)], argTypes := #[9, 9] }, 4, some (5, true)⟩,
  ⟨some 8, .unOp .not 4 (.tmp 7), 4, some (5, true)⟩,
  ⟨some 9, .pick (.tmp 5) (.tmp 8) (.const (.bool false)), 4, none⟩,
  ⟨some 2, .assign (.tmp 9), 4, none⟩]
def c30_0 : A := .seq (.reg r30_1 [2]) .ret
def c30 : A := .seq (.reg r30_0 [0]) c30_0
theorem B30 : Body Tryd.prog 30 10 [.tmp 2] c30 := ⟨by kernel_rfl, _, _, [(0, [0]), (1, [2])], Tryd.func30, rfl, rfl, rfl, by kernel_rfl⟩
end Go.Proofs.YtoabcmhiaknjiaaDoor
