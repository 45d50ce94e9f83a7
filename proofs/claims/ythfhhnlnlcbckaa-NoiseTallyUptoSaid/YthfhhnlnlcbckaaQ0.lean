/- Printed by a program of this project. -/
import Derived.Test.YthfhhnlnlcbckaaGo
import Derived.Test.YthfhhnlnlcbckaaProg
namespace Go.Proofs.Ythfhhnlnlcbckaa.Gw
open Go Go.RowKit
set_option linter.unusedVariables false
set_option linter.unusedSimpArgs false
theorem sl_42 : Sl Try.prog 42 5 1 1 (.int .u8 0) := sl_of Try.underlying42 (by kernel_rfl) rfl (by decide)
theorem en_41 : En Try.prog 41 := ⟨_, _, Try.func41, by kernel_rfl, rfl⟩
theorem bd_81 : Bd Try.prog 81 #[.slice none 0 0, .map none] [(0, 1), (1, 1)] := ⟨_, .agg #[.slice none 0 0, .map none], Try.underlying81, by kernel_rfl, rfl, fun w => by kernel_rfl⟩
theorem ul_43 : ((#[43] : Array TypeId)[0]?).bind Try.prog.underlying = some (.slice 48) := bind_ul Try.underlying43
theorem sl_43 : Sl Try.prog 43 48 4 16 (.agg #[.int .i64 0, .int .u8 0, .bool false, .bool false]) := sl_of Try.underlying43 (by kernel_rfl) rfl (by decide)
theorem ag_48 : Ag Try.prog 48 4 := ⟨_, Try.underlying48, rfl, by kernel_rfl⟩
theorem zr_48 : Zr Try.prog 48 #[.int .i64 0, .int .u8 0, .bool false, .bool false] := ⟨.agg #[.int .i64 0, .int .u8 0, .bool false, .bool false], by kernel_rfl, rfl⟩
theorem sz_48 : Sz Try.prog 48 4 := by show _ = _; kernel_rfl
theorem en_42 : En Try.prog 42 := ⟨_, _, Try.func42, by kernel_rfl, rfl⟩
theorem fa_48_0 : Fa Try.prog 48 0 0 := ⟨_, _, Try.underlying48, rfl, rfl, 0, by kernel_rfl⟩
theorem sc_3 : Sc Try.prog 3 := ⟨_, Try.underlying3, rfl⟩
theorem en_55 : En Try.prog 55 := ⟨_, _, Try.func55, by kernel_rfl, rfl⟩
theorem fa_81_0 : Fa Try.prog 81 0 0 := ⟨_, _, Try.underlying81, rfl, rfl, 0, by kernel_rfl⟩
theorem sc_42 : Sc Try.prog 42 := ⟨_, Try.underlying42, rfl⟩
theorem ul_42 : ((#[42] : Array TypeId)[0]?).bind Try.prog.underlying = some (.slice 5) := bind_ul Try.underlying42
theorem fa_48_2 : Fa Try.prog 48 2 2 := ⟨_, _, Try.underlying48, rfl, rfl, 0, by kernel_rfl⟩
theorem sc_4 : Sc Try.prog 4 := ⟨_, Try.underlying4, rfl⟩
theorem mo : Try.prog.follows .mixedOrders = true := by kernel_rfl
theorem fa_48_1 : Fa Try.prog 48 1 1 := ⟨_, _, Try.underlying48, rfl, rfl, 0, by kernel_rfl⟩
theorem sc_5 : Sc Try.prog 5 := ⟨_, Try.underlying5, rfl⟩
theorem sz_5 : Sz Try.prog 5 1 := by show _ = _; kernel_rfl
theorem fa_48_3 : Fa Try.prog 48 3 3 := ⟨_, _, Try.underlying48, rfl, rfl, 0, by kernel_rfl⟩
theorem fa_81_1 : Fa Try.prog 81 1 1 := ⟨_, _, Try.underlying81, rfl, rfl, 0, by kernel_rfl⟩
theorem sc_79 : Sc Try.prog 79 := ⟨_, Try.underlying79, rfl⟩
theorem bd_87 : Bd Try.prog 87 #[] [] := ⟨_, .agg #[], Try.underlying87, by kernel_rfl, rfl, fun w => by kernel_rfl⟩
theorem ul_44 : ((#[44] : Array TypeId)[0]?).bind Try.prog.underlying = some (.slice 3) := bind_ul Try.underlying44
theorem sl_44 : Sl Try.prog 44 3 1 8 (.int .i64 0) := sl_of Try.underlying44 (by kernel_rfl) rfl (by decide)
theorem fa_23_1 : Fa Try.prog 23 1 1 := ⟨_, _, Try.underlying23, rfl, rfl, 0, by kernel_rfl⟩
theorem fa_23_0 : Fa Try.prog 23 0 0 := ⟨_, _, Try.underlying23, rfl, rfl, 0, by kernel_rfl⟩
theorem fa_23_2 : Fa Try.prog 23 2 2 := ⟨_, _, Try.underlying23, rfl, rfl, 0, by kernel_rfl⟩
theorem ag_23 : Ag Try.prog 23 3 := ⟨_, Try.underlying23, rfl, by kernel_rfl⟩
theorem en_32 : En Try.prog 32 := ⟨_, _, Try.func32, by kernel_rfl, rfl⟩
theorem en_36 : En Try.prog 36 := ⟨_, _, Try.func36, by kernel_rfl, rfl⟩
theorem zr_3 : Zr Try.prog 3 #[.int .i64 0] := ⟨.int .i64 0, by kernel_rfl, rfl⟩
theorem sz_3 : Sz Try.prog 3 1 := by show _ = _; kernel_rfl
theorem en_46 : En Try.prog 46 := ⟨_, _, Try.func46, by kernel_rfl, rfl⟩
theorem en_59 : En Try.prog 59 := ⟨_, _, Try.func59, by kernel_rfl, rfl⟩
theorem ul_53 : ((#[53] : Array TypeId)[0]?).bind Try.prog.underlying = some (.slice 44) := bind_ul Try.underlying53
theorem sl_53 : Sl Try.prog 53 44 1 24 (.slice none 0 0) := sl_of Try.underlying53 (by kernel_rfl) rfl (by decide)
theorem sc_44 : Sc Try.prog 44 := ⟨_, Try.underlying44, rfl⟩
theorem en_45 : En Try.prog 45 := ⟨_, _, Try.func45, by kernel_rfl, rfl⟩
theorem bd_48 : Bd Try.prog 48 #[.int .i64 0, .int .u8 0, .bool false, .bool false] [(0, 1), (1, 1), (2, 1), (3, 1)] := ⟨_, .agg #[.int .i64 0, .int .u8 0, .bool false, .bool false], Try.underlying48, by kernel_rfl, rfl, fun w => by kernel_rfl⟩
theorem en_19 : En Try.prog 19 := ⟨_, _, Try.func19, by kernel_rfl, rfl⟩
theorem en_20 : En Try.prog 20 := ⟨_, _, Try.func20, by kernel_rfl, rfl⟩
theorem en_21 : En Try.prog 21 := ⟨_, _, Try.func21, by kernel_rfl, rfl⟩
theorem bd_23 : Bd Try.prog 23 #[.int .i64 0, .int .i64 0, .int .i64 0] [(0, 1), (1, 1), (2, 1)] := ⟨_, .agg #[.int .i64 0, .int .i64 0, .int .i64 0], Try.underlying23, by kernel_rfl, rfl, fun w => by kernel_rfl⟩
theorem en_23 : En Try.prog 23 := ⟨_, _, Try.func23, by kernel_rfl, rfl⟩
theorem zr_23 : Zr Try.prog 23 #[.int .i64 0, .int .i64 0, .int .i64 0] := ⟨.agg #[.int .i64 0, .int .i64 0, .int .i64 0], by kernel_rfl, rfl⟩
theorem sz_23 : Sz Try.prog 23 3 := by show _ = _; kernel_rfl
theorem en_12 : En Try.prog 12 := ⟨_, _, Try.func12, by kernel_rfl, rfl⟩
theorem fa_25_0 : Fa Try.prog 25 0 0 := ⟨_, _, Try.underlying25, rfl, rfl, 0, by kernel_rfl⟩
theorem fa_25_1 : Fa Try.prog 25 1 1 := ⟨_, _, Try.underlying25, rfl, rfl, 0, by kernel_rfl⟩
theorem en_54 : En Try.prog 54 := ⟨_, _, Try.func54, by kernel_rfl, rfl⟩
theorem en_47 : En Try.prog 47 := ⟨_, _, Try.func47, by kernel_rfl, rfl⟩
theorem ul_92 : ((#[92] : Array TypeId)[0]?).bind Try.prog.underlying = some (.slice 42) := bind_ul Try.underlying92
theorem sl_92 : Sl Try.prog 92 42 1 24 (.slice none 0 0) := sl_of Try.underlying92 (by kernel_rfl) rfl (by decide)
theorem en_89 : En Try.prog 89 := ⟨_, _, Try.func89, by kernel_rfl, rfl⟩
theorem en_74 : En Try.prog 74 := ⟨_, _, Try.func74, by kernel_rfl, rfl⟩
theorem en_106 : En Try.prog 106 := ⟨_, _, Try.func106, by kernel_rfl, rfl⟩
theorem en_105 : En Try.prog 105 := ⟨_, _, Try.func105, by kernel_rfl, rfl⟩
theorem en_102 : En Try.prog 102 := ⟨_, _, Try.func102, by kernel_rfl, rfl⟩
theorem en_101 : En Try.prog 101 := ⟨_, _, Try.func101, by kernel_rfl, rfl⟩
theorem en_64 : En Try.prog 64 := ⟨_, _, Try.func64, by kernel_rfl, rfl⟩
theorem en_90 : En Try.prog 90 := ⟨_, _, Try.func90, by kernel_rfl, rfl⟩
theorem en_92 : En Try.prog 92 := ⟨_, _, Try.func92, by kernel_rfl, rfl⟩
theorem en_62 : En Try.prog 62 := ⟨_, _, Try.func62, by kernel_rfl, rfl⟩
theorem en_91 : En Try.prog 91 := ⟨_, _, Try.func91, by kernel_rfl, rfl⟩
theorem en_73 : En Try.prog 73 := ⟨_, _, Try.func73, by kernel_rfl, rfl⟩
theorem en_93 : En Try.prog 93 := ⟨_, _, Try.func93, by kernel_rfl, rfl⟩
theorem en_103 : En Try.prog 103 := ⟨_, _, Try.func103, by kernel_rfl, rfl⟩
theorem en_60 : En Try.prog 60 := ⟨_, _, Try.func60, by kernel_rfl, rfl⟩
theorem en_94 : En Try.prog 94 := ⟨_, _, Try.func94, by kernel_rfl, rfl⟩
theorem en_76 : En Try.prog 76 := ⟨_, _, Try.func76, by kernel_rfl, rfl⟩
theorem en_75 : En Try.prog 75 := ⟨_, _, Try.func75, by kernel_rfl, rfl⟩
theorem en_63 : En Try.prog 63 := ⟨_, _, Try.func63, by kernel_rfl, rfl⟩
theorem en_61 : En Try.prog 61 := ⟨_, _, Try.func61, by kernel_rfl, rfl⟩
theorem en_65 : En Try.prog 65 := ⟨_, _, Try.func65, by kernel_rfl, rfl⟩
theorem ag_25 : Ag Try.prog 25 2 := ⟨_, Try.underlying25, rfl, by kernel_rfl⟩
theorem en_31 : En Try.prog 31 := ⟨_, _, Try.func31, by kernel_rfl, rfl⟩
theorem en_48 : En Try.prog 48 := ⟨_, _, Try.func48, by kernel_rfl, rfl⟩
theorem en_49 : En Try.prog 49 := ⟨_, _, Try.func49, by kernel_rfl, rfl⟩
theorem en_50 : En Try.prog 50 := ⟨_, _, Try.func50, by kernel_rfl, rfl⟩
theorem fa_111_1 : Fa Try.prog 111 1 3 := ⟨_, _, Try.underlying111, rfl, rfl, 0, by kernel_rfl⟩
theorem fa_111_0 : Fa Try.prog 111 0 0 := ⟨_, _, Try.underlying111, rfl, rfl, 2, by kernel_rfl⟩
theorem bd_111 : Bd Try.prog 111 #[.int .i64 0, .int .i64 0, .int .i64 0, .int .i64 0] [(0, 3), (3, 1)] := ⟨_, .agg #[.int .i64 0, .int .i64 0, .int .i64 0, .int .i64 0], Try.underlying111, by kernel_rfl, rfl, fun w => by kernel_rfl⟩
theorem zr_111 : Zr Try.prog 111 #[.int .i64 0, .int .i64 0, .int .i64 0, .int .i64 0] := ⟨.agg #[.int .i64 0, .int .i64 0, .int .i64 0, .int .i64 0], by kernel_rfl, rfl⟩
theorem sz_111 : Sz Try.prog 111 4 := by show _ = _; kernel_rfl
theorem ag_111 : Ag Try.prog 111 4 := ⟨_, Try.underlying111, rfl, by kernel_rfl⟩
theorem en_66 : En Try.prog 66 := ⟨_, _, Try.func66, by kernel_rfl, rfl⟩
theorem en_67 : En Try.prog 67 := ⟨_, _, Try.func67, by kernel_rfl, rfl⟩
theorem zr_92 : Zr Try.prog 92 #[.slice none 0 0] := ⟨.slice none 0 0, by kernel_rfl, rfl⟩
theorem en_68 : En Try.prog 68 := ⟨_, _, Try.func68, by kernel_rfl, rfl⟩
theorem sc_92 : Sc Try.prog 92 := ⟨_, Try.underlying92, rfl⟩
theorem sz_92 : Sz Try.prog 92 1 := by show _ = _; kernel_rfl
theorem en_69 : En Try.prog 69 := ⟨_, _, Try.func69, by kernel_rfl, rfl⟩
theorem en_51 : En Try.prog 51 := ⟨_, _, Try.func51, by kernel_rfl, rfl⟩
theorem sz_44 : Sz Try.prog 44 1 := by show _ = _; kernel_rfl
theorem en_52 : En Try.prog 52 := ⟨_, _, Try.func52, by kernel_rfl, rfl⟩
theorem en_53 : En Try.prog 53 := ⟨_, _, Try.func53, by kernel_rfl, rfl⟩
theorem en_18 : En Try.prog 18 := ⟨_, _, Try.func18, by kernel_rfl, rfl⟩
theorem en_22 : En Try.prog 22 := ⟨_, _, Try.func22, by kernel_rfl, rfl⟩
theorem en_25 : En Try.prog 25 := ⟨_, _, Try.func25, by kernel_rfl, rfl⟩
theorem bd_25 : Bd Try.prog 25 #[.int .i64 0, .int .i64 0] [(0, 1), (1, 1)] := ⟨_, .agg #[.int .i64 0, .int .i64 0], Try.underlying25, by kernel_rfl, rfl, fun w => by kernel_rfl⟩
theorem en_26 : En Try.prog 26 := ⟨_, _, Try.func26, by kernel_rfl, rfl⟩
theorem en_27 : En Try.prog 27 := ⟨_, _, Try.func27, by kernel_rfl, rfl⟩
theorem en_28 : En Try.prog 28 := ⟨_, _, Try.func28, by kernel_rfl, rfl⟩
theorem en_29 : En Try.prog 29 := ⟨_, _, Try.func29, by kernel_rfl, rfl⟩
end Go.Proofs.Ythfhhnlnlcbckaa.Gw
