/- The card of the law that what a desk encodes is read back from what it tells: a part of its proof. The conditions are those of the statement. -/
import Derived.Test.YtkndgkbgbmhjoaaGreatDoorQ3
import Derived.Test.YtkndgkbgbmhjoaaGreatDoorProg
namespace Go.Proofs.YtkndgkbgbmhjoaaGreatDoor.Gw
open Go Go.RowKit
set_option linter.unusedVariables false
set_option linter.unusedSimpArgs false
set_option linter.unusedSectionVars false
variable [LibO]
set_option linter.unnecessarySimpa false
set_option maxRecDepth 100000
set_option maxHeartbeats 4000000
open Go.IntKind (i8 i16 i32 i64 u8 u16 u32 u64)
theorem j_sl_22 : Sl Tryz.prog 22 5 1 1 (.int .u8 0):=sl_of Tryz.underlying22 (by kernel_rfl) z (by decide)
theorem j_en_379 : En Tryz.prog 379:=⟨_,_,Tryz.func379,by kernel_rfl,z⟩
theorem j_fa_235_1 : Fa Tryz.prog 235 1 510:=⟨_,_,Tryz.underlying235,z,z,255,by kernel_rfl⟩
theorem j_ar_233 : Ar Tryz.prog 233 256 1:=⟨_,Tryz.underlying233,by kernel_rfl⟩
theorem j_sc_5 : Sc Tryz.prog 5:=⟨_,Tryz.underlying5,z⟩
theorem j_en_377 : En Tryz.prog 377:=⟨_,_,Tryz.func377,by kernel_rfl,z⟩
theorem j_fa_235_0 : Fa Tryz.prog 235 0 0:=⟨_,_,Tryz.underlying235,z,z,509,by kernel_rfl⟩
theorem j_ar_232 : Ar Tryz.prog 232 510 1:=⟨_,Tryz.underlying232,by kernel_rfl⟩
theorem j_en_380 : En Tryz.prog 380:=⟨_,_,Tryz.func380,by kernel_rfl,z⟩
theorem j_mo : Tryz.prog.follows .mixedOrders = true:=by kernel_rfl
theorem j_en_378 : En Tryz.prog 378:=⟨_,_,Tryz.func378,by kernel_rfl,z⟩
theorem j_fa_146_0 : Fa Tryz.prog 146 0 0:=⟨_,_,Tryz.underlying146,z,z,0,by kernel_rfl⟩
theorem j_sc_143 : Sc Tryz.prog 143:=⟨_,Tryz.underlying143,z⟩
theorem j_en_388 : En Tryz.prog 388:=⟨_,_,Tryz.func388,by kernel_rfl,z⟩
theorem j_ul_22 : ((#[22] : Array TypeId)[0]?).bind Tryz.prog.underlying = some (.slice 5):=bind_ul Tryz.underlying22
theorem j_en_374 : En Tryz.prog 374:=⟨_,_,Tryz.func374,by kernel_rfl,z⟩
theorem j_sz_5 : Sz Tryz.prog 5 1:=by show _ = _; kernel_rfl
theorem j_fa_150_0 : Fa Tryz.prog 150 0 0:=⟨_,_,Tryz.underlying150,z,z,0,by kernel_rfl⟩
theorem j_sc_148 : Sc Tryz.prog 148:=⟨_,Tryz.underlying148,z⟩
theorem j_mt_146_Mul (t : Nat) (w : World) : (Go.method (Tryz.prog.types.size + Made.depth) 146 (.agg #[pt t]) "Mul").run Tryz.prog w = .ok (374,pt t) w:=by kernel_rfl
theorem j_mt_151_Mul (w : World) : (Go.method (Tryz.prog.types.size + Made.depth) 151 (.agg #[]) "Mul").run Tryz.prog w = .ok (390,.agg #[]) w:=by kernel_rfl
theorem j_en_390 : En Tryz.prog 390:=⟨_,_,Tryz.func390,by kernel_rfl,z⟩
theorem j_mt_146_Inv (t : Nat) (w : World) : (Go.method (Tryz.prog.types.size + Made.depth) 146 (.agg #[pt t]) "Inv").run Tryz.prog w = .ok (373,pt t) w:=by kernel_rfl
theorem j_en_373 : En Tryz.prog 373:=⟨_,_,Tryz.func373,by kernel_rfl,z⟩
theorem j_mt_151_Inv (w : World) : (Go.method (Tryz.prog.types.size + Made.depth) 151 (.agg #[]) "Inv").run Tryz.prog w = .ok (389,.agg #[]) w:=by kernel_rfl
theorem j_en_389 : En Tryz.prog 389:=⟨_,_,Tryz.func389,by kernel_rfl,z⟩
theorem j_mt_146_Pow (t : Nat) (w : World) : (Go.method (Tryz.prog.types.size + Made.depth) 146 (.agg #[pt t]) "Pow").run Tryz.prog w = .ok (375,pt t) w:=by kernel_rfl
theorem j_en_375 : En Tryz.prog 375:=⟨_,_,Tryz.func375,by kernel_rfl,z⟩
theorem j_mt_151_Pow (w : World) : (Go.method (Tryz.prog.types.size + Made.depth) 151 (.agg #[]) "Pow").run Tryz.prog w = .ok (391,.agg #[]) w:=by kernel_rfl
theorem j_en_391 : En Tryz.prog 391:=⟨_,_,Tryz.func391,by kernel_rfl,z⟩
theorem j_mt_146_pairs (t : Nat) (w : World) : (Go.method (Tryz.prog.types.size + Made.depth) 146 (.agg #[pt t]) "erratum/field.pairs").run Tryz.prog w = .ok (387,.agg #[pt t]) w:=by kernel_rfl
theorem j_en_387 : En Tryz.prog 387:=⟨_,_,Tryz.func387,by kernel_rfl,z⟩
theorem j_mt_151_pairs (w : World) : (Go.method (Tryz.prog.types.size + Made.depth) 151 (.agg #[]) "erratum/field.pairs").run Tryz.prog w = .ok (392,.agg #[]) w:=by kernel_rfl
theorem j_en_392 : En Tryz.prog 392:=⟨_,_,Tryz.func392,by kernel_rfl,z⟩
end Go.Proofs.YtkndgkbgbmhjoaaGreatDoor.Gw
