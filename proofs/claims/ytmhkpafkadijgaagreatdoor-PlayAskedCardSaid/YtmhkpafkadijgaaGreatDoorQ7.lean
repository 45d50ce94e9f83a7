/- A part of the proof of Rows.PlayAskedCardSaid; the conditions are that card's own. -/
import Derived.Test.YtmhkpafkadijgaaGreatDoorQ2
set_option linter.all false
set_option maxRecDepth 100000
set_option maxHeartbeats 4000000
namespace Go.Proofs.YtmhkpafkadijgaaGreatDoor.Gw
open Go Go.RowKit
variable[de]
open Go.IntKind (i8 i16 i32 i64 u8 u16 u32 u64)
open Tryz renaming prog → aa
theorem mG:Sl aa 22 5 1 1 (iu 0):=ja Tryz.underlying22 (by kernel_rfl) z (by decide)
theorem vQ:En aa 409:=⟨_,_,Tryz.func409,by kernel_rfl,z⟩
theorem JN:Fa aa 276 1 510:=⟨_,_,Tryz.underlying276,z,z,255,by kernel_rfl⟩
theorem JD:Ar aa 274 256 1:=⟨_,Tryz.underlying274,by kernel_rfl⟩
theorem rA:Sc aa 5:=⟨_,Tryz.underlying5,z⟩
theorem tz:En aa 407:=⟨_,_,Tryz.func407,by kernel_rfl,z⟩
theorem A5:Fa aa 276 0 0:=⟨_,_,Tryz.underlying276,z,z,509,by kernel_rfl⟩
theorem AZ:Ar aa 273 510 1:=⟨_,Tryz.underlying273,by kernel_rfl⟩
theorem A4:En aa 410:=⟨_,_,Tryz.func410,by kernel_rfl,z⟩
theorem tA:Tryz.prog.follows .mixedOrders=true:=by kernel_rfl
theorem A3:En aa 408:=⟨_,_,Tryz.func408,by kernel_rfl,z⟩
theorem JM:Fa aa 182 0 0:=⟨_,_,Tryz.underlying182,z,z,0,by kernel_rfl⟩
theorem JY:Sc aa 179:=⟨_,Tryz.underlying179,z⟩
theorem JH:En aa 418:=⟨_,_,Tryz.func418,by kernel_rfl,z⟩
theorem pN:((#[22]:Array TypeId)[0]?).bind Tryz.prog.underlying=some (.slice 5):=iD Tryz.underlying22
theorem A0:En aa 404:=⟨_,_,Tryz.func404,by kernel_rfl,z⟩
theorem JZ:Sz aa 5 1:=by show _=_;kernel_rfl
theorem mE:Fa aa 186 0 0:=⟨_,_,Tryz.underlying186,z,z,0,by kernel_rfl⟩
theorem mF:Sc aa 184:=⟨_,Tryz.underlying184,z⟩
theorem JP(t:Nat)(w:World):(Go.method (Tryz.prog.types.size+Made.depth) 182 (.agg #[pt t]) "Mul").run aa w= .ok (404,pt t) w:=by kernel_rfl
theorem JU(w:World):(Go.method (Tryz.prog.types.size+Made.depth) 187 (.agg #[]) "Mul").run aa w= .ok (420,.agg #[]) w:=by kernel_rfl
theorem JJ:En aa 420:=⟨_,_,Tryz.func420,by kernel_rfl,z⟩
theorem JO(t:Nat)(w:World):(Go.method (Tryz.prog.types.size+Made.depth) 182 (.agg #[pt t]) "Inv").run aa w= .ok (403,pt t) w:=by kernel_rfl
theorem JE:En aa 403:=⟨_,_,Tryz.func403,by kernel_rfl,z⟩
theorem JS(w:World):(Go.method (Tryz.prog.types.size+Made.depth) 187 (.agg #[]) "Inv").run aa w= .ok (419,.agg #[]) w:=by kernel_rfl
theorem JI:En aa 419:=⟨_,_,Tryz.func419,by kernel_rfl,z⟩
theorem JQ(t:Nat)(w:World):(Go.method (Tryz.prog.types.size+Made.depth) 182 (.agg #[pt t]) "Pow").run aa w= .ok (405,pt t) w:=by kernel_rfl
theorem JF:En aa 405:=⟨_,_,Tryz.func405,by kernel_rfl,z⟩
theorem JV(w:World):(Go.method (Tryz.prog.types.size+Made.depth) 187 (.agg #[]) "Pow").run aa w= .ok (421,.agg #[]) w:=by kernel_rfl
theorem JK:En aa 421:=⟨_,_,Tryz.func421,by kernel_rfl,z⟩
theorem JR(t:Nat)(w:World):(Go.method (Tryz.prog.types.size+Made.depth) 182 (.agg #[pt t]) "erratum/field.pairs").run aa w= .ok (417,.agg #[pt t]) w:=by kernel_rfl
theorem JG:En aa 417:=⟨_,_,Tryz.func417,by kernel_rfl,z⟩
theorem JX(w:World):(Go.method (Tryz.prog.types.size+Made.depth) 187 (.agg #[]) "erratum/field.pairs").run aa w= .ok (422,.agg #[]) w:=by kernel_rfl
theorem JL:En aa 422:=⟨_,_,Tryz.func422,by kernel_rfl,z⟩
end Go.Proofs.YtmhkpafkadijgaaGreatDoor.Gw
