/- PRINTED by gwmain.py of this project. -/
import Derived.Test.YthfhhnlnlcbckaaGq
import Derived.Test.YthfhhnlnlcbckaaProg
namespace Go.Proofs.Ythfhhnlnlcbckaa.Gw
open Go Go.RowKit
set_option linter.unusedVariables false
theorem en_100 : En Try.prog 100 := ⟨_, _, Try.func100, by kernel_rfl, rfl⟩
theorem mo : Try.prog.follows .mixedOrders = true := by kernel_rfl
theorem sl_44 : Sl Try.prog 44 3 1 8 (.int .i64 0) := sl_of Try.underlying44 (by kernel_rfl) rfl (by decide)
theorem sc_3 : Sc Try.prog 3 := ⟨_, Try.underlying3, rfl⟩
theorem en_84 : En Try.prog 84 := ⟨_, _, Try.func84, by kernel_rfl, rfl⟩
theorem en_95 : En Try.prog 95 := ⟨_, _, Try.func95, by kernel_rfl, rfl⟩
theorem en_88 : En Try.prog 88 := ⟨_, _, Try.func88, by kernel_rfl, rfl⟩
theorem en_72 : En Try.prog 72 := ⟨_, _, Try.func72, by kernel_rfl, rfl⟩
theorem zr_141 : Zr Try.prog 141 #[.int .u64 0] := ⟨.int .u64 0, by kernel_rfl, rfl⟩
theorem sz_141 : Sz Try.prog 141 1 := by show _ = _; kernel_rfl
theorem en_96 : En Try.prog 96 := ⟨_, _, Try.func96, by kernel_rfl, rfl⟩
theorem zr_3 : Zr Try.prog 3 #[.int .i64 0] := ⟨.int .i64 0, by kernel_rfl, rfl⟩
theorem en_98 : En Try.prog 98 := ⟨_, _, Try.func98, by kernel_rfl, rfl⟩
theorem en_99 : En Try.prog 99 := ⟨_, _, Try.func99, by kernel_rfl, rfl⟩
theorem en_104 : En Try.prog 104 := ⟨_, _, Try.func104, by kernel_rfl, rfl⟩
theorem en_78 : En Try.prog 78 := ⟨_, _, Try.func78, by kernel_rfl, rfl⟩
theorem ul_44 : ((#[44] : Array TypeId)[0]?).bind Try.prog.underlying = some (.slice 3) := bind_ul Try.underlying44
theorem en_41 : En Try.prog 41 := ⟨_, _, Try.func41, by kernel_rfl, rfl⟩
theorem ul_42 : ((#[42] : Array TypeId)[0]?).bind Try.prog.underlying = some (.slice 5) := bind_ul Try.underlying42
theorem sl_42 : Sl Try.prog 42 5 1 1 (.int .u8 0) := sl_of Try.underlying42 (by kernel_rfl) rfl (by decide)
theorem sc_5 : Sc Try.prog 5 := ⟨_, Try.underlying5, rfl⟩
theorem fa_23_1 : Fa Try.prog 23 1 1 := ⟨_, _, Try.underlying23, rfl, rfl, 0, by kernel_rfl⟩
theorem fa_23_0 : Fa Try.prog 23 0 0 := ⟨_, _, Try.underlying23, rfl, rfl, 0, by kernel_rfl⟩
theorem fa_23_2 : Fa Try.prog 23 2 2 := ⟨_, _, Try.underlying23, rfl, rfl, 0, by kernel_rfl⟩
theorem ag_23 : Ag Try.prog 23 3 := ⟨_, Try.underlying23, rfl, by kernel_rfl⟩
theorem en_32 : En Try.prog 32 := ⟨_, _, Try.func32, by kernel_rfl, rfl⟩
theorem en_36 : En Try.prog 36 := ⟨_, _, Try.func36, by kernel_rfl, rfl⟩
theorem sz_3 : Sz Try.prog 3 1 := by show _ = _; kernel_rfl
theorem en_46 : En Try.prog 46 := ⟨_, _, Try.func46, by kernel_rfl, rfl⟩
theorem en_59 : En Try.prog 59 := ⟨_, _, Try.func59, by kernel_rfl, rfl⟩
theorem ul_53 : ((#[53] : Array TypeId)[0]?).bind Try.prog.underlying = some (.slice 44) := bind_ul Try.underlying53
theorem sl_53 : Sl Try.prog 53 44 1 24 (.slice none 0 0) := sl_of Try.underlying53 (by kernel_rfl) rfl (by decide)
theorem sc_44 : Sc Try.prog 44 := ⟨_, Try.underlying44, rfl⟩
theorem en_45 : En Try.prog 45 := ⟨_, _, Try.func45, by kernel_rfl, rfl⟩
theorem bd_48 : Bd Try.prog 48 #[.int .i64 0, .int .u8 0, .bool false, .bool false] [(0, 1), (1, 1), (2, 1), (3, 1)] := ⟨_, .agg #[.int .i64 0, .int .u8 0, .bool false, .bool false], Try.underlying48, by kernel_rfl, rfl, fun w => by kernel_rfl⟩
theorem sl_43 : Sl Try.prog 43 48 4 16 (.agg #[.int .i64 0, .int .u8 0, .bool false, .bool false]) := sl_of Try.underlying43 (by kernel_rfl) rfl (by decide)
theorem en_19 : En Try.prog 19 := ⟨_, _, Try.func19, by kernel_rfl, rfl⟩
theorem zr_23 : Zr Try.prog 23 #[.int .i64 0, .int .i64 0, .int .i64 0] := ⟨.agg #[.int .i64 0, .int .i64 0, .int .i64 0], by kernel_rfl, rfl⟩
theorem bd_23 : Bd Try.prog 23 #[.int .i64 0, .int .i64 0, .int .i64 0] [(0, 1), (1, 1), (2, 1)] := ⟨_, .agg #[.int .i64 0, .int .i64 0, .int .i64 0], Try.underlying23, by kernel_rfl, rfl, fun w => by kernel_rfl⟩
theorem sz_23 : Sz Try.prog 23 3 := by show _ = _; kernel_rfl
theorem en_12 : En Try.prog 12 := ⟨_, _, Try.func12, by kernel_rfl, rfl⟩
theorem fa_25_0 : Fa Try.prog 25 0 0 := ⟨_, _, Try.underlying25, rfl, rfl, 0, by kernel_rfl⟩
theorem fa_25_1 : Fa Try.prog 25 1 1 := ⟨_, _, Try.underlying25, rfl, rfl, 0, by kernel_rfl⟩
theorem en_54 : En Try.prog 54 := ⟨_, _, Try.func54, by kernel_rfl, rfl⟩
theorem en_47 : En Try.prog 47 := ⟨_, _, Try.func47, by kernel_rfl, rfl⟩
theorem en_89 : En Try.prog 89 := ⟨_, _, Try.func89, by kernel_rfl, rfl⟩
theorem en_74 : En Try.prog 74 := ⟨_, _, Try.func74, by kernel_rfl, rfl⟩
theorem en_106 : En Try.prog 106 := ⟨_, _, Try.func106, by kernel_rfl, rfl⟩
theorem en_105 : En Try.prog 105 := ⟨_, _, Try.func105, by kernel_rfl, rfl⟩
theorem en_102 : En Try.prog 102 := ⟨_, _, Try.func102, by kernel_rfl, rfl⟩
theorem en_101 : En Try.prog 101 := ⟨_, _, Try.func101, by kernel_rfl, rfl⟩
theorem en_64 : En Try.prog 64 := ⟨_, _, Try.func64, by kernel_rfl, rfl⟩
theorem en_90 : En Try.prog 90 := ⟨_, _, Try.func90, by kernel_rfl, rfl⟩
theorem sz_5 : Sz Try.prog 5 1 := by show _ = _; kernel_rfl
theorem en_92 : En Try.prog 92 := ⟨_, _, Try.func92, by kernel_rfl, rfl⟩
theorem en_62 : En Try.prog 62 := ⟨_, _, Try.func62, by kernel_rfl, rfl⟩
theorem en_91 : En Try.prog 91 := ⟨_, _, Try.func91, by kernel_rfl, rfl⟩
theorem en_73 : En Try.prog 73 := ⟨_, _, Try.func73, by kernel_rfl, rfl⟩
theorem en_93 : En Try.prog 93 := ⟨_, _, Try.func93, by kernel_rfl, rfl⟩
theorem en_103 : En Try.prog 103 := ⟨_, _, Try.func103, by kernel_rfl, rfl⟩
theorem en_60 : En Try.prog 60 := ⟨_, _, Try.func60, by kernel_rfl, rfl⟩
theorem en_94 : En Try.prog 94 := ⟨_, _, Try.func94, by kernel_rfl, rfl⟩
theorem en_76 : En Try.prog 76 := ⟨_, _, Try.func76, by kernel_rfl, rfl⟩
theorem en_75 : En Try.prog 75 := ⟨_, _, Try.func75, by kernel_rfl, rfl⟩
theorem en_63 : En Try.prog 63 := ⟨_, _, Try.func63, by kernel_rfl, rfl⟩
theorem en_61 : En Try.prog 61 := ⟨_, _, Try.func61, by kernel_rfl, rfl⟩
theorem ul_92 : ((#[92] : Array TypeId)[0]?).bind Try.prog.underlying = some (.slice 42) := bind_ul Try.underlying92
theorem sl_92 : Sl Try.prog 92 42 1 24 (.slice none 0 0) := sl_of Try.underlying92 (by kernel_rfl) rfl (by decide)
theorem sc_42 : Sc Try.prog 42 := ⟨_, Try.underlying42, rfl⟩
theorem en_65 : En Try.prog 65 := ⟨_, _, Try.func65, by kernel_rfl, rfl⟩
theorem ag_25 : Ag Try.prog 25 2 := ⟨_, Try.underlying25, rfl, by kernel_rfl⟩
theorem en_31 : En Try.prog 31 := ⟨_, _, Try.func31, by kernel_rfl, rfl⟩
theorem en_48 : En Try.prog 48 := ⟨_, _, Try.func48, by kernel_rfl, rfl⟩
theorem fa_111_1 : Fa Try.prog 111 1 3 := ⟨_, _, Try.underlying111, rfl, rfl, 0, by kernel_rfl⟩
theorem fa_111_0 : Fa Try.prog 111 0 0 := ⟨_, _, Try.underlying111, rfl, rfl, 2, by kernel_rfl⟩
theorem bd_111 : Bd Try.prog 111 #[.int .i64 0, .int .i64 0, .int .i64 0, .int .i64 0] [(0, 3), (3, 1)] := ⟨_, .agg #[.int .i64 0, .int .i64 0, .int .i64 0, .int .i64 0], Try.underlying111, by kernel_rfl, rfl, fun w => by kernel_rfl⟩
theorem zr_111 : Zr Try.prog 111 #[.int .i64 0, .int .i64 0, .int .i64 0, .int .i64 0] := ⟨.agg #[.int .i64 0, .int .i64 0, .int .i64 0, .int .i64 0], by kernel_rfl, rfl⟩
theorem sz_111 : Sz Try.prog 111 4 := by show _ = _; kernel_rfl
theorem ag_111 : Ag Try.prog 111 4 := ⟨_, Try.underlying111, rfl, by kernel_rfl⟩
theorem en_66 : En Try.prog 66 := ⟨_, _, Try.func66, by kernel_rfl, rfl⟩
theorem en_67 : En Try.prog 67 := ⟨_, _, Try.func67, by kernel_rfl, rfl⟩
theorem en_69 : En Try.prog 69 := ⟨_, _, Try.func69, by kernel_rfl, rfl⟩
theorem en_18 : En Try.prog 18 := ⟨_, _, Try.func18, by kernel_rfl, rfl⟩
theorem fa_70_0 : Fa Try.prog 70 0 0 := ⟨_, _, Try.underlying70, rfl, rfl, 2, by kernel_rfl⟩
theorem fa_70_1 : Fa Try.prog 70 1 3 := ⟨_, _, Try.underlying70, rfl, rfl, 0, by kernel_rfl⟩
theorem zr_25 : Zr Try.prog 25 #[.int .i64 0, .int .i64 0] := ⟨.agg #[.int .i64 0, .int .i64 0], by kernel_rfl, rfl⟩
theorem bd_25 : Bd Try.prog 25 #[.int .i64 0, .int .i64 0] [(0, 1), (1, 1)] := ⟨_, .agg #[.int .i64 0, .int .i64 0], Try.underlying25, by kernel_rfl, rfl, fun w => by kernel_rfl⟩
theorem sz_25 : Sz Try.prog 25 2 := by show _ = _; kernel_rfl
theorem en_17 : En Try.prog 17 := ⟨_, _, Try.func17, by kernel_rfl, rfl⟩
theorem bd_70 : Bd Try.prog 70 #[.int .i64 0, .int .i64 0, .int .i64 0, .int .i64 0] [(0, 3), (3, 1)] := ⟨_, .agg #[.int .i64 0, .int .i64 0, .int .i64 0, .int .i64 0], Try.underlying70, by kernel_rfl, rfl, fun w => by kernel_rfl⟩
theorem zr_70 : Zr Try.prog 70 #[.int .i64 0, .int .i64 0, .int .i64 0, .int .i64 0] := ⟨.agg #[.int .i64 0, .int .i64 0, .int .i64 0, .int .i64 0], by kernel_rfl, rfl⟩
theorem sz_70 : Sz Try.prog 70 4 := by show _ = _; kernel_rfl
theorem ag_70 : Ag Try.prog 70 4 := ⟨_, Try.underlying70, rfl, by kernel_rfl⟩
theorem bd_74 : Bd Try.prog 74 #[.nilFunc, .int .i64 0] [(0, 1), (1, 1)] := ⟨_, .agg #[.nilFunc, .int .i64 0], Try.underlying74, by kernel_rfl, rfl, fun w => by kernel_rfl⟩
theorem sl_76 : Sl Try.prog 76 74 2 16 (.agg #[.nilFunc, .int .i64 0]) := sl_of Try.underlying76 (by kernel_rfl) rfl (by decide)
theorem en_33 : En Try.prog 33 := ⟨_, _, Try.func33, by kernel_rfl, rfl⟩
theorem ul_76 : ((#[76] : Array TypeId)[0]?).bind Try.prog.underlying = some (.slice 74) := bind_ul Try.underlying76
theorem ag_74 : Ag Try.prog 74 2 := ⟨_, Try.underlying74, rfl, by kernel_rfl⟩
theorem zr_74 : Zr Try.prog 74 #[.nilFunc, .int .i64 0] := ⟨.agg #[.nilFunc, .int .i64 0], by kernel_rfl, rfl⟩
theorem sz_74 : Sz Try.prog 74 2 := by show _ = _; kernel_rfl
theorem fa_74_0 : Fa Try.prog 74 0 0 := ⟨_, _, Try.underlying74, rfl, rfl, 0, by kernel_rfl⟩
theorem sc_72 : Sc Try.prog 72 := ⟨_, Try.underlying72, rfl⟩
theorem en_34 : En Try.prog 34 := ⟨_, _, Try.func34, by kernel_rfl, rfl⟩
theorem fa_74_1 : Fa Try.prog 74 1 1 := ⟨_, _, Try.underlying74, rfl, rfl, 0, by kernel_rfl⟩
theorem en_35 : En Try.prog 35 := ⟨_, _, Try.func35, by kernel_rfl, rfl⟩
theorem en_37 : En Try.prog 37 := ⟨_, _, Try.func37, by kernel_rfl, rfl⟩
theorem en_38 : En Try.prog 38 := ⟨_, _, Try.func38, by kernel_rfl, rfl⟩
theorem en_39 : En Try.prog 39 := ⟨_, _, Try.func39, by kernel_rfl, rfl⟩
theorem en_40 : En Try.prog 40 := ⟨_, _, Try.func40, by kernel_rfl, rfl⟩
theorem sl_35 : Sl Try.prog 35 25 2 16 (.agg #[.int .i64 0, .int .i64 0]) := sl_of Try.underlying35 (by kernel_rfl) rfl (by decide)
theorem eqs0_25 (w : World) (a0 b0 : Int) (a1 b1 : Int) : (Op.equalIn 10000 25 (.agg #[.int .i64 (a0), .int .i64 (a1)]) (.agg #[.int .i64 (b0), .int .i64 (b1)])).run Try.prog w = .ok ((a0 == b0) && (a1 == b1)) w := by
  refine eqA_of Try.underlying25 (by kernel_rfl) ?_
  refine eqf_cons (by rfl) (by go_simp; rfl) (by go_simp; rfl) (by go_simp) ?_
  exact eqf_last (by rfl) (by go_simp; rfl) (by go_simp; rfl) (by go_simp)
theorem en_15 : En Try.prog 15 := ⟨_, _, Try.func15, by kernel_rfl, rfl⟩
theorem en_16 : En Try.prog 16 := ⟨_, _, Try.func16, by kernel_rfl, rfl⟩
theorem ul_35 : ((#[35] : Array TypeId)[0]?).bind Try.prog.underlying = some (.slice 25) := bind_ul Try.underlying35
theorem en_30 : En Try.prog 30 := ⟨_, _, Try.func30, by kernel_rfl, rfl⟩
theorem en_13 : En Try.prog 13 := ⟨_, _, Try.func13, by kernel_rfl, rfl⟩
theorem en_14 : En Try.prog 14 := ⟨_, _, Try.func14, by kernel_rfl, rfl⟩
theorem sz_48 : Sz Try.prog 48 4 := by show _ = _; kernel_rfl
theorem ul_43 : ((#[43] : Array TypeId)[0]?).bind Try.prog.underlying = some (.slice 48) := bind_ul Try.underlying43
end Go.Proofs.Ythfhhnlnlcbckaa.Gw
