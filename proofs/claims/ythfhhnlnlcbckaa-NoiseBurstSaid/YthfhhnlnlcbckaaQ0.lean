/- PRINTED by gwmain.py of this project. -/
import Derived.Test.YthfhhnlnlcbckaaGa
import Derived.Test.YthfhhnlnlcbckaaProg
namespace Go.Proofs.Ythfhhnlnlcbckaa.Gw
open Go Go.RowKit
set_option linter.unusedVariables false
set_option linter.unusedSimpArgs false
theorem sl_42 : Sl Try.prog 42 5 1 1 (.int .u8 0) := sl_of Try.underlying42 (by kernel_rfl) rfl (by decide)
theorem zr_23 : Zr Try.prog 23 #[.int .i64 0, .int .i64 0, .int .i64 0] := ⟨.agg #[.int .i64 0, .int .i64 0, .int .i64 0], by kernel_rfl, rfl⟩
theorem bd_23 : Bd Try.prog 23 #[.int .i64 0, .int .i64 0, .int .i64 0] [(0, 1), (1, 1), (2, 1)] := ⟨_, .agg #[.int .i64 0, .int .i64 0, .int .i64 0], Try.underlying23, by kernel_rfl, rfl, fun w => by kernel_rfl⟩
theorem sz_23 : Sz Try.prog 23 3 := by show _ = _; kernel_rfl
theorem fa_23_0 : Fa Try.prog 23 0 0 := ⟨_, _, Try.underlying23, rfl, rfl, 0, by kernel_rfl⟩
theorem sz_3 : Sz Try.prog 3 1 := by show _ = _; kernel_rfl
theorem sc_3 : Sc Try.prog 3 := ⟨_, Try.underlying3, rfl⟩
theorem fa_23_1 : Fa Try.prog 23 1 1 := ⟨_, _, Try.underlying23, rfl, rfl, 0, by kernel_rfl⟩
theorem ag_23 : Ag Try.prog 23 3 := ⟨_, Try.underlying23, rfl, by kernel_rfl⟩
theorem fa_25_0 : Fa Try.prog 25 0 0 := ⟨_, _, Try.underlying25, rfl, rfl, 0, by kernel_rfl⟩
theorem fa_25_1 : Fa Try.prog 25 1 1 := ⟨_, _, Try.underlying25, rfl, rfl, 0, by kernel_rfl⟩
theorem fa_23_2 : Fa Try.prog 23 2 2 := ⟨_, _, Try.underlying23, rfl, rfl, 0, by kernel_rfl⟩
theorem fa_70_0 : Fa Try.prog 70 0 0 := ⟨_, _, Try.underlying70, rfl, rfl, 2, by kernel_rfl⟩
theorem en_32 : En Try.prog 32 := ⟨_, _, Try.func32, by kernel_rfl, rfl⟩
theorem mo : Try.prog.follows .mixedOrders = true := by kernel_rfl
theorem fa_70_1 : Fa Try.prog 70 1 3 := ⟨_, _, Try.underlying70, rfl, rfl, 0, by kernel_rfl⟩
theorem en_36 : En Try.prog 36 := ⟨_, _, Try.func36, by kernel_rfl, rfl⟩
theorem zr_25 : Zr Try.prog 25 #[.int .i64 0, .int .i64 0] := ⟨.agg #[.int .i64 0, .int .i64 0], by kernel_rfl, rfl⟩
theorem bd_25 : Bd Try.prog 25 #[.int .i64 0, .int .i64 0] [(0, 1), (1, 1)] := ⟨_, .agg #[.int .i64 0, .int .i64 0], Try.underlying25, by kernel_rfl, rfl, fun w => by kernel_rfl⟩
theorem sz_25 : Sz Try.prog 25 2 := by show _ = _; kernel_rfl
theorem ag_25 : Ag Try.prog 25 2 := ⟨_, Try.underlying25, rfl, by kernel_rfl⟩
theorem en_17 : En Try.prog 17 := ⟨_, _, Try.func17, by kernel_rfl, rfl⟩
theorem bd_70 : Bd Try.prog 70 #[.int .i64 0, .int .i64 0, .int .i64 0, .int .i64 0] [(0, 3), (3, 1)] := ⟨_, .agg #[.int .i64 0, .int .i64 0, .int .i64 0, .int .i64 0], Try.underlying70, by kernel_rfl, rfl, fun w => by kernel_rfl⟩
theorem zr_70 : Zr Try.prog 70 #[.int .i64 0, .int .i64 0, .int .i64 0, .int .i64 0] := ⟨.agg #[.int .i64 0, .int .i64 0, .int .i64 0, .int .i64 0], by kernel_rfl, rfl⟩
theorem sz_70 : Sz Try.prog 70 4 := by show _ = _; kernel_rfl
theorem ag_70 : Ag Try.prog 70 4 := ⟨_, Try.underlying70, rfl, by kernel_rfl⟩
theorem bd_74 : Bd Try.prog 74 #[.nilFunc, .int .i64 0] [(0, 1), (1, 1)] := ⟨_, .agg #[.nilFunc, .int .i64 0], Try.underlying74, by kernel_rfl, rfl, fun w => by kernel_rfl⟩
theorem sl_76 : Sl Try.prog 76 74 2 16 (.agg #[.nilFunc, .int .i64 0]) := sl_of Try.underlying76 (by kernel_rfl) rfl (by decide)
theorem en_33 : En Try.prog 33 := ⟨_, _, Try.func33, by kernel_rfl, rfl⟩
theorem ul_76 : ((#[76] : Array TypeId)[0]?).bind Try.prog.underlying = some (.slice 74) := bind_ul Try.underlying76
theorem ag_74 : Ag Try.prog 74 2 := ⟨_, Try.underlying74, rfl, by kernel_rfl⟩
theorem zr_74 : Zr Try.prog 74 #[.nilFunc, .int .i64 0] := ⟨.agg #[.nilFunc, .int .i64 0], by kernel_rfl, rfl⟩
theorem sz_74 : Sz Try.prog 74 2 := by show _ = _; kernel_rfl
theorem fa_74_0 : Fa Try.prog 74 0 0 := ⟨_, _, Try.underlying74, rfl, rfl, 0, by kernel_rfl⟩
theorem sc_72 : Sc Try.prog 72 := ⟨_, Try.underlying72, rfl⟩
theorem en_34 : En Try.prog 34 := ⟨_, _, Try.func34, by kernel_rfl, rfl⟩
theorem fa_74_1 : Fa Try.prog 74 1 1 := ⟨_, _, Try.underlying74, rfl, rfl, 0, by kernel_rfl⟩
theorem en_35 : En Try.prog 35 := ⟨_, _, Try.func35, by kernel_rfl, rfl⟩
theorem en_37 : En Try.prog 37 := ⟨_, _, Try.func37, by kernel_rfl, rfl⟩
theorem en_38 : En Try.prog 38 := ⟨_, _, Try.func38, by kernel_rfl, rfl⟩
theorem en_39 : En Try.prog 39 := ⟨_, _, Try.func39, by kernel_rfl, rfl⟩
theorem en_40 : En Try.prog 40 := ⟨_, _, Try.func40, by kernel_rfl, rfl⟩
theorem sl_35 : Sl Try.prog 35 25 2 16 (.agg #[.int .i64 0, .int .i64 0]) := sl_of Try.underlying35 (by kernel_rfl) rfl (by decide)
theorem eqs0_25 (w : World) (a0 b0 : Int) (a1 b1 : Int) : (Op.equalIn 10000 25 (.agg #[.int .i64 (a0), .int .i64 (a1)]) (.agg #[.int .i64 (b0), .int .i64 (b1)])).run Try.prog w = .ok ((a0 == b0) && (a1 == b1)) w := by
  refine eqA_of Try.underlying25 (by kernel_rfl) ?_
  refine eqf_cons (by rfl) (by go_simp; rfl) (by go_simp; rfl) (by go_simp) ?_
  exact eqf_last (by rfl) (by go_simp; rfl) (by go_simp; rfl) (by go_simp)
theorem en_15 : En Try.prog 15 := ⟨_, _, Try.func15, by kernel_rfl, rfl⟩
theorem en_16 : En Try.prog 16 := ⟨_, _, Try.func16, by kernel_rfl, rfl⟩
theorem ul_35 : ((#[35] : Array TypeId)[0]?).bind Try.prog.underlying = some (.slice 25) := bind_ul Try.underlying35
theorem en_54 : En Try.prog 54 := ⟨_, _, Try.func54, by kernel_rfl, rfl⟩
theorem en_31 : En Try.prog 31 := ⟨_, _, Try.func31, by kernel_rfl, rfl⟩
theorem en_30 : En Try.prog 30 := ⟨_, _, Try.func30, by kernel_rfl, rfl⟩
theorem en_12 : En Try.prog 12 := ⟨_, _, Try.func12, by kernel_rfl, rfl⟩
theorem en_13 : En Try.prog 13 := ⟨_, _, Try.func13, by kernel_rfl, rfl⟩
theorem en_14 : En Try.prog 14 := ⟨_, _, Try.func14, by kernel_rfl, rfl⟩
theorem en_41 : En Try.prog 41 := ⟨_, _, Try.func41, by kernel_rfl, rfl⟩
theorem bd_81 : Bd Try.prog 81 #[.slice none 0 0, .map none] [(0, 1), (1, 1)] := ⟨_, .agg #[.slice none 0 0, .map none], Try.underlying81, by kernel_rfl, rfl, fun w => by kernel_rfl⟩
theorem ul_43 : ((#[43] : Array TypeId)[0]?).bind Try.prog.underlying = some (.slice 48) := bind_ul Try.underlying43
theorem sl_43 : Sl Try.prog 43 48 4 16 (.agg #[.int .i64 0, .int .u8 0, .bool false, .bool false]) := sl_of Try.underlying43 (by kernel_rfl) rfl (by decide)
theorem ag_48 : Ag Try.prog 48 4 := ⟨_, Try.underlying48, rfl, by kernel_rfl⟩
theorem zr_48 : Zr Try.prog 48 #[.int .i64 0, .int .u8 0, .bool false, .bool false] := ⟨.agg #[.int .i64 0, .int .u8 0, .bool false, .bool false], by kernel_rfl, rfl⟩
theorem sz_48 : Sz Try.prog 48 4 := by show _ = _; kernel_rfl
theorem en_42 : En Try.prog 42 := ⟨_, _, Try.func42, by kernel_rfl, rfl⟩
theorem fa_48_0 : Fa Try.prog 48 0 0 := ⟨_, _, Try.underlying48, rfl, rfl, 0, by kernel_rfl⟩
theorem en_55 : En Try.prog 55 := ⟨_, _, Try.func55, by kernel_rfl, rfl⟩
theorem fa_81_0 : Fa Try.prog 81 0 0 := ⟨_, _, Try.underlying81, rfl, rfl, 0, by kernel_rfl⟩
theorem sc_42 : Sc Try.prog 42 := ⟨_, Try.underlying42, rfl⟩
theorem ul_42 : ((#[42] : Array TypeId)[0]?).bind Try.prog.underlying = some (.slice 5) := bind_ul Try.underlying42
theorem fa_48_2 : Fa Try.prog 48 2 2 := ⟨_, _, Try.underlying48, rfl, rfl, 0, by kernel_rfl⟩
theorem sc_4 : Sc Try.prog 4 := ⟨_, Try.underlying4, rfl⟩
theorem fa_48_1 : Fa Try.prog 48 1 1 := ⟨_, _, Try.underlying48, rfl, rfl, 0, by kernel_rfl⟩
theorem sc_5 : Sc Try.prog 5 := ⟨_, Try.underlying5, rfl⟩
theorem sz_5 : Sz Try.prog 5 1 := by show _ = _; kernel_rfl
theorem fa_48_3 : Fa Try.prog 48 3 3 := ⟨_, _, Try.underlying48, rfl, rfl, 0, by kernel_rfl⟩
theorem fa_81_1 : Fa Try.prog 81 1 1 := ⟨_, _, Try.underlying81, rfl, rfl, 0, by kernel_rfl⟩
theorem sc_79 : Sc Try.prog 79 := ⟨_, Try.underlying79, rfl⟩
theorem bd_87 : Bd Try.prog 87 #[] [] := ⟨_, .agg #[], Try.underlying87, by kernel_rfl, rfl, fun w => by kernel_rfl⟩
theorem ul_44 : ((#[44] : Array TypeId)[0]?).bind Try.prog.underlying = some (.slice 3) := bind_ul Try.underlying44
theorem sl_44 : Sl Try.prog 44 3 1 8 (.int .i64 0) := sl_of Try.underlying44 (by kernel_rfl) rfl (by decide)
theorem zr_3 : Zr Try.prog 3 #[.int .i64 0] := ⟨.int .i64 0, by kernel_rfl, rfl⟩
theorem en_46 : En Try.prog 46 := ⟨_, _, Try.func46, by kernel_rfl, rfl⟩
theorem en_59 : En Try.prog 59 := ⟨_, _, Try.func59, by kernel_rfl, rfl⟩
theorem ul_53 : ((#[53] : Array TypeId)[0]?).bind Try.prog.underlying = some (.slice 44) := bind_ul Try.underlying53
theorem sl_53 : Sl Try.prog 53 44 1 24 (.slice none 0 0) := sl_of Try.underlying53 (by kernel_rfl) rfl (by decide)
theorem sc_44 : Sc Try.prog 44 := ⟨_, Try.underlying44, rfl⟩
theorem en_45 : En Try.prog 45 := ⟨_, _, Try.func45, by kernel_rfl, rfl⟩
theorem bd_48 : Bd Try.prog 48 #[.int .i64 0, .int .u8 0, .bool false, .bool false] [(0, 1), (1, 1), (2, 1), (3, 1)] := ⟨_, .agg #[.int .i64 0, .int .u8 0, .bool false, .bool false], Try.underlying48, by kernel_rfl, rfl, fun w => by kernel_rfl⟩
theorem en_19 : En Try.prog 19 := ⟨_, _, Try.func19, by kernel_rfl, rfl⟩
theorem en_20 : En Try.prog 20 := ⟨_, _, Try.func20, by kernel_rfl, rfl⟩
theorem en_21 : En Try.prog 21 := ⟨_, _, Try.func21, by kernel_rfl, rfl⟩
theorem en_23 : En Try.prog 23 := ⟨_, _, Try.func23, by kernel_rfl, rfl⟩
theorem en_18 : En Try.prog 18 := ⟨_, _, Try.func18, by kernel_rfl, rfl⟩
theorem en_24 : En Try.prog 24 := ⟨_, _, Try.func24, by kernel_rfl, rfl⟩
theorem sz_4 : Sz Try.prog 4 1 := by show _ = _; kernel_rfl
theorem en_22 : En Try.prog 22 := ⟨_, _, Try.func22, by kernel_rfl, rfl⟩
end Go.Proofs.Ythfhhnlnlcbckaa.Gw
