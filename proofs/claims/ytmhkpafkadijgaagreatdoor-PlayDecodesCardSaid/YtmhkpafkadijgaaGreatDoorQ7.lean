/- A part of the proof of Rows.PlayDecodesCardSaid; the conditions are that card's own. -/
import Derived.Test.YtmhkpafkadijgaaGreatDoorQA
set_option linter.all false
set_option maxRecDepth 100000
set_option maxHeartbeats 4000000
namespace Go.Proofs.YtmhkpafkadijgaaGreatDoor.Gw
open Go Go.RowKit
variable[de]
open Go.IntKind (i8 i16 i32 i64 u8 u16 u32 u64)
open Tryz hiding prog
open Tryz renaming prog → aa
theorem mG:Sl aa 22 5 1 1 (iu 0):=ja underlying22 d_ z f_
theorem vQ:En aa 409:=⟨_,_,func409,d_,z⟩
theorem JN:Fa aa 276 1 510:=⟨_,_,underlying276,z,z,255,d_⟩
theorem JD:Ar aa 274 256 1:=⟨_,underlying274,d_⟩
theorem rA:Sc aa 5:=⟨_,underlying5,z⟩
theorem tz:En aa 407:=⟨_,_,func407,d_,z⟩
theorem A5:Fa aa 276 0 0:=⟨_,_,underlying276,z,z,509,d_⟩
theorem AZ:Ar aa 273 510 1:=⟨_,underlying273,d_⟩
theorem A4:En aa 410:=⟨_,_,func410,d_,z⟩
theorem tA:Tryz.prog.follows .mixedOrders=true:=d_
theorem A3:En aa 408:=⟨_,_,func408,d_,z⟩
theorem JM:Fa aa 182 0 0:=⟨_,_,underlying182,z,z,0,d_⟩
theorem JY:Sc aa 179:=⟨_,underlying179,z⟩
theorem JH:En aa 418:=⟨_,_,func418,d_,z⟩
theorem pN:((#[22]:Array TypeId)[0]?).bind Tryz.prog.underlying=some (.slice 5):=iD underlying22
theorem A0:En aa 404:=⟨_,_,func404,d_,z⟩
theorem JZ:Sz aa 5 1:=K_
theorem mE:Fa aa 186 0 0:=⟨_,_,underlying186,z,z,0,d_⟩
theorem mF:Sc aa 184:=⟨_,underlying184,z⟩
theorem JP(t:Nat)(w:World):(Go.method (Tryz.prog.types.size+Made.depth) 182 (.agg #[pt t]) "Mul").run aa w= .ok (404,pt t) w:=d_
theorem JU(w:World):(Go.method (Tryz.prog.types.size+Made.depth) 187 (.agg #[]) "Mul").run aa w= .ok (420,.agg #[]) w:=d_
theorem JJ:En aa 420:=⟨_,_,func420,d_,z⟩
theorem JO(t:Nat)(w:World):(Go.method (Tryz.prog.types.size+Made.depth) 182 (.agg #[pt t]) "Inv").run aa w= .ok (403,pt t) w:=d_
theorem JE:En aa 403:=⟨_,_,func403,d_,z⟩
theorem JS(w:World):(Go.method (Tryz.prog.types.size+Made.depth) 187 (.agg #[]) "Inv").run aa w= .ok (419,.agg #[]) w:=d_
theorem JI:En aa 419:=⟨_,_,func419,d_,z⟩
theorem JQ(t:Nat)(w:World):(Go.method (Tryz.prog.types.size+Made.depth) 182 (.agg #[pt t]) "Pow").run aa w= .ok (405,pt t) w:=d_
theorem JF:En aa 405:=⟨_,_,func405,d_,z⟩
theorem JV(w:World):(Go.method (Tryz.prog.types.size+Made.depth) 187 (.agg #[]) "Pow").run aa w= .ok (421,.agg #[]) w:=d_
theorem JK:En aa 421:=⟨_,_,func421,d_,z⟩
theorem JR(t:Nat)(w:World):(Go.method (Tryz.prog.types.size+Made.depth) 182 (.agg #[pt t]) "erratum/field.pairs").run aa w= .ok (417,.agg #[pt t]) w:=d_
theorem JG:En aa 417:=⟨_,_,func417,d_,z⟩
theorem JX(w:World):(Go.method (Tryz.prog.types.size+Made.depth) 187 (.agg #[]) "erratum/field.pairs").run aa w= .ok (422,.agg #[]) w:=d_
theorem JL:En aa 422:=⟨_,_,func422,d_,z⟩
end Go.Proofs.YtmhkpafkadijgaaGreatDoor.Gw
