/- A part of the proof of Rows.PlayAskedCardSaid; the conditions are that card's own. -/
import Derived.Test.YtmhkpafkadijgaaGreatDoorQ2
set_option linter.all false
set_option maxRecDepth 100000
set_option maxHeartbeats 4000000
namespace Go.Proofs.YtmhkpafkadijgaaGreatDoor.Gw
open Go Go.RowKit
variable[de]
open Go.IntKind (i8 i16 i32 i64 u8 u16 u32 u64)
open Tryz renaming prog → aa
theorem aN:Sl aa 22 5 1 1 (iu 0):=ja Tryz.underlying22 (by kernel_rfl) z (by decide)
theorem jh:Fa aa 24 1 1:=⟨_,_,Tryz.underlying24,z,z,0,by kernel_rfl⟩
theorem bf:Sc aa 3:=⟨_,Tryz.underlying3,z⟩
theorem eJ:Fa aa 24 0 0:=⟨_,_,Tryz.underlying24,z,z,0,by kernel_rfl⟩
theorem nE:Fa aa 24 2 2:=⟨_,_,Tryz.underlying24,z,z,0,by kernel_rfl⟩
theorem cv:Ag aa 24 3:=⟨_,Tryz.underlying24,z,by kernel_rfl⟩
theorem jF:En aa 67:=⟨_,_,Tryz.func67,by kernel_rfl,z⟩
theorem vA:Zr aa 3 #[ii 0]:=⟨ii 0,by kernel_rfl,z⟩
theorem zt:En aa 264:=⟨_,_,Tryz.func264,by kernel_rfl,z⟩
theorem bQ:Sc aa 22:=⟨_,Tryz.underlying22,z⟩
theorem vl:En aa 231:=⟨_,_,Tryz.func231,by kernel_rfl,z⟩
theorem bI:((#[22]:Array TypeId)[0]?).bind Tryz.prog.underlying=some (.slice 5):=iD Tryz.underlying22
theorem bC:Sc aa 5:=⟨_,Tryz.underlying5,z⟩
theorem zF:Sc aa 367:=⟨_,Tryz.underlying367,z⟩
theorem gJ:Sz aa 3 1:=by show _=_;kernel_rfl
theorem qW:En aa 252:=⟨_,_,Tryz.func252,by kernel_rfl,z⟩
theorem nD:En aa 117:=⟨_,_,Tryz.func117,by kernel_rfl,z⟩
theorem HW:En aa 353:=⟨_,_,Tryz.func353,by kernel_rfl,z⟩
theorem HQ:En aa 333:=⟨_,_,Tryz.func333,by kernel_rfl,z⟩
theorem bZ:Tryz.prog.follows .mixedOrders=true:=by kernel_rfl
theorem Hz:En aa 301:=⟨_,_,Tryz.func301,by kernel_rfl,z⟩
theorem vp:En aa 280:=⟨_,_,Tryz.func280,by kernel_rfl,z⟩
theorem qX:En aa 253:=⟨_,_,Tryz.func253,by kernel_rfl,z⟩
theorem eS:En aa 254:=⟨_,_,Tryz.func254,by kernel_rfl,z⟩
theorem pg:En aa 232:=⟨_,_,Tryz.func232,by kernel_rfl,z⟩
theorem dB:Sz aa 5 1:=by show _=_;kernel_rfl
theorem ph:En aa 255:=⟨_,_,Tryz.func255,by kernel_rfl,z⟩
theorem zl:En aa 209:=⟨_,_,Tryz.func209,by kernel_rfl,z⟩
theorem zI:Zr aa 22 #[sn]:=⟨.slice none 0 0,by kernel_rfl,z⟩
theorem pA:Sz aa 22 1:=by show _=_;kernel_rfl
theorem Hi:En aa 233:=⟨_,_,Tryz.func233,by kernel_rfl,z⟩
theorem dk:Sc aa 111:=⟨_,Tryz.underlying111,z⟩
theorem vn:En aa 234:=⟨_,_,Tryz.func234,by kernel_rfl,z⟩
theorem pf:En aa 152:=⟨_,_,Tryz.func152,by kernel_rfl,z⟩
theorem vh:En aa 179:=⟨_,_,Tryz.func179,by kernel_rfl,z⟩
theorem G7:En aa 178:=⟨_,_,Tryz.func178,by kernel_rfl,z⟩
theorem qV:En aa 217:=⟨_,_,Tryz.func217,by kernel_rfl,z⟩
theorem ve:En aa 112:=⟨_,_,Tryz.func112,by kernel_rfl,z⟩
theorem zm:En aa 210:=⟨_,_,Tryz.func210,by kernel_rfl,z⟩
theorem sL:Bd aa 249 #[.nilFunc,.int .u16 0] [(0,1),(1,1)]:=⟨_,.agg #[.nilFunc,.int .u16 0],Tryz.underlying249,by kernel_rfl,z,fun w=>by kernel_rfl⟩
theorem py:Sl aa 250 249 2 16 (.agg #[.nilFunc,.int .u16 0]):=ja Tryz.underlying250 (by kernel_rfl) z (by decide)
theorem zk:En aa 157:=⟨_,_,Tryz.func157,by kernel_rfl,z⟩
theorem zH:((#[250]:Array TypeId)[0]?).bind Tryz.prog.underlying=some (.slice 249):=iD Tryz.underlying250
theorem sK:Ag aa 249 2:=⟨_,Tryz.underlying249,z,by kernel_rfl⟩
theorem sU:Zr aa 249 #[.nilFunc,.int .u16 0]:=⟨.agg #[.nilFunc,.int .u16 0],by kernel_rfl,z⟩
theorem sQ:Sz aa 249 2:=by show _=_;kernel_rfl
theorem sN:Fa aa 249 0 0:=⟨_,_,Tryz.underlying249,z,z,0,by kernel_rfl⟩
theorem q8:Sc aa 38:=⟨_,Tryz.underlying38,z⟩
theorem GU:En aa 158:=⟨_,_,Tryz.func158,by kernel_rfl,z⟩
theorem sO:Fa aa 249 1 1:=⟨_,_,Tryz.underlying249,z,z,0,by kernel_rfl⟩
theorem sP:Sc aa 125:=⟨_,Tryz.underlying125,z⟩
theorem GV:En aa 159:=⟨_,_,Tryz.func159,by kernel_rfl,z⟩
theorem GX:En aa 161:=⟨_,_,Tryz.func161,by kernel_rfl,z⟩
theorem GW:En aa 160:=⟨_,_,Tryz.func160,by kernel_rfl,z⟩
theorem Ip:Zr aa 5 #[iu 0]:=⟨iu 0,by kernel_rfl,z⟩
theorem G6:En aa 176:=⟨_,_,Tryz.func176,by kernel_rfl,z⟩
theorem vg:En aa 177:=⟨_,_,Tryz.func177,by kernel_rfl,z⟩
theorem qU:En aa 111:=⟨_,_,Tryz.func111,by kernel_rfl,z⟩
theorem gK:((#[28]:Array TypeId)[0]?).bind Tryz.prog.underlying=some (.slice 3):=iD Tryz.underlying28
theorem gl:Sl aa 28 3 1 8 (ii 0):=ja Tryz.underlying28 (by kernel_rfl) z (by decide)
theorem gh:Fa aa 260 0 0:=⟨_,_,Tryz.underlying260,z,z,0,by kernel_rfl⟩
theorem km:Fa aa 260 1 1:=⟨_,_,Tryz.underlying260,z,z,2,by kernel_rfl⟩
theorem pn:Fa aa 260 2 4:=⟨_,_,Tryz.underlying260,z,z,0,by kernel_rfl⟩
theorem Ia:En aa 76:=⟨_,_,Tryz.func76,by kernel_rfl,z⟩
theorem mn:Fa aa 260 3 5:=⟨_,_,Tryz.underlying260,z,z,0,by kernel_rfl⟩
theorem eU:Sc aa 28:=⟨_,Tryz.underlying28,z⟩
theorem Hl:En aa 260:=⟨_,_,Tryz.func260,by kernel_rfl,z⟩
theorem Hm:En aa 261:=⟨_,_,Tryz.func261,by kernel_rfl,z⟩
theorem vo:En aa 270:=⟨_,_,Tryz.func270,by kernel_rfl,z⟩
theorem nF:((#[85]:Array TypeId)[0]?).bind Tryz.prog.underlying=some (.slice 22):=iD Tryz.underlying85
theorem ko:Sl aa 85 22 1 24 sn:=ja Tryz.underlying85 (by kernel_rfl) z (by decide)
theorem Io:Zr aa 352 #[sn,ii 0,sn,iu 0,ii 0]:=⟨.agg #[sn,ii 0,sn,iu 0,ii 0],by kernel_rfl,z⟩
theorem Hd:En aa 223:=⟨_,_,Tryz.func223,by kernel_rfl,z⟩
theorem zB:Fa aa 352 0 0:=⟨_,_,Tryz.underlying352,z,z,0,by kernel_rfl⟩
theorem zD:Fa aa 352 4 4:=⟨_,_,Tryz.underlying352,z,z,0,by kernel_rfl⟩
theorem zu:En aa 271:=⟨_,_,Tryz.func271,by kernel_rfl,z⟩
theorem zC:Fa aa 352 1 1:=⟨_,_,Tryz.underlying352,z,z,0,by kernel_rfl⟩
theorem Ij:Sz aa 352 5:=by show _=_;kernel_rfl
theorem GJ:Bd aa 352 #[sn,ii 0,sn,iu 0,ii 0] [(0,1),(1,1),(2,1),(3,1),(4,1)]:=⟨_,.agg #[sn,ii 0,sn,iu 0,ii 0],Tryz.underlying352,by kernel_rfl,z,fun w=>by kernel_rfl⟩
theorem Hn:En aa 262:=⟨_,_,Tryz.func262,by kernel_rfl,z⟩
theorem GZ:En aa 166:=⟨_,_,Tryz.func166,by kernel_rfl,z⟩
theorem G9:En aa 214:=⟨_,_,Tryz.func214,by kernel_rfl,z⟩
theorem GY:En aa 165:=⟨_,_,Tryz.func165,by kernel_rfl,z⟩
theorem G0:En aa 167:=⟨_,_,Tryz.func167,by kernel_rfl,z⟩
theorem HU:En aa 349:=⟨_,_,Tryz.func349,by kernel_rfl,z⟩
theorem H4:En aa 373:=⟨_,_,Tryz.func373,by kernel_rfl,z⟩
theorem HV:En aa 350:=⟨_,_,Tryz.func350,by kernel_rfl,z⟩
theorem Ht:En aa 273:=⟨_,_,Tryz.func273,by kernel_rfl,z⟩
theorem zr:En aa 229:=⟨_,_,Tryz.func229,by kernel_rfl,z⟩
theorem vk:En aa 222:=⟨_,_,Tryz.func222,by kernel_rfl,z⟩
theorem qS:Ba aa 406 4 1 #[.nilFunc,.nilFunc,.nilFunc,.nilFunc]:=⟨_,.agg #[.nilFunc,.nilFunc,.nilFunc,.nilFunc],Tryz.underlying406,by kernel_rfl,z,by kernel_rfl,q8⟩
theorem HJ:En aa 320:=⟨_,_,Tryz.func320,by kernel_rfl,z⟩
theorem HK:En aa 321:=⟨_,_,Tryz.func321,by kernel_rfl,z⟩
theorem zi:En aa 106:=⟨_,_,Tryz.func106,by kernel_rfl,z⟩
theorem HL:En aa 322:=⟨_,_,Tryz.func322,by kernel_rfl,z⟩
theorem HM:En aa 323:=⟨_,_,Tryz.func323,by kernel_rfl,z⟩
theorem HN:En aa 324:=⟨_,_,Tryz.func324,by kernel_rfl,z⟩
theorem HP:En aa 326:=⟨_,_,Tryz.func326,by kernel_rfl,z⟩
theorem HO:En aa 325:=⟨_,_,Tryz.func325,by kernel_rfl,z⟩
theorem zw:En aa 279:=⟨_,_,Tryz.func279,by kernel_rfl,z⟩
theorem HA:En aa 309:=⟨_,_,Tryz.func309,by kernel_rfl,z⟩
theorem G8:En aa 186:=⟨_,_,Tryz.func186,by kernel_rfl,z⟩
theorem Hj:En aa 237:=⟨_,_,Tryz.func237,by kernel_rfl,z⟩
theorem vy:Sz aa 28 1:=by show _=_;kernel_rfl
theorem zv:En aa 272:=⟨_,_,Tryz.func272,by kernel_rfl,z⟩
theorem HB:En aa 310:=⟨_,_,Tryz.func310,by kernel_rfl,z⟩
theorem Ho:En aa 265:=⟨_,_,Tryz.func265,by kernel_rfl,z⟩
theorem Hp:En aa 266:=⟨_,_,Tryz.func266,by kernel_rfl,z⟩
theorem jC:Ag aa 260 6:=⟨_,Tryz.underlying260,z,by kernel_rfl⟩
theorem Hq:En aa 267:=⟨_,_,Tryz.func267,by kernel_rfl,z⟩
theorem zq:En aa 225:=⟨_,_,Tryz.func225,by kernel_rfl,z⟩
theorem Hr:En aa 268:=⟨_,_,Tryz.func268,by kernel_rfl,z⟩
theorem pq:Fa aa 263 0 0:=⟨_,_,Tryz.underlying263,z,z,5,by kernel_rfl⟩
theorem zn:En aa 215:=⟨_,_,Tryz.func215,by kernel_rfl,z⟩
theorem Ha:En aa 216:=⟨_,_,Tryz.func216,by kernel_rfl,z⟩
theorem Hb:En aa 219:=⟨_,_,Tryz.func219,by kernel_rfl,z⟩
theorem zo:En aa 218:=⟨_,_,Tryz.func218,by kernel_rfl,z⟩
theorem kp:Zr aa 395 #[sn,sn,sn,sn]:=⟨.agg #[sn,sn,sn,sn],by kernel_rfl,z⟩
theorem HC:En aa 311:=⟨_,_,Tryz.func311,by kernel_rfl,z⟩
theorem fq:Ba aa 393 2 1 #[sn,sn]:=⟨_,.agg #[sn,sn],Tryz.underlying393,by kernel_rfl,z,by kernel_rfl,bQ⟩
theorem jE:Bd aa 395 #[sn,sn,sn,sn] [(0,2),(2,2)]:=⟨_,.agg #[sn,sn,sn,sn],Tryz.underlying395,by kernel_rfl,z,fun w=>by kernel_rfl⟩
theorem vz:Sz aa 395 4:=by show _=_;kernel_rfl
theorem zg:Ag aa 395 4:=⟨_,Tryz.underlying395,z,by kernel_rfl⟩
theorem zE:Fa aa 395 0 0:=⟨_,_,Tryz.underlying395,z,z,1,by kernel_rfl⟩
theorem vc:Ar aa 393 2 1:=⟨_,Tryz.underlying393,by kernel_rfl⟩
theorem Ie:Fa aa 395 1 2:=⟨_,_,Tryz.underlying395,z,z,1,by kernel_rfl⟩
theorem Hs:En aa 269:=⟨_,_,Tryz.func269,by kernel_rfl,z⟩
theorem qY:Fa aa 264 0 0:=⟨_,_,Tryz.underlying264,z,z,5,by kernel_rfl⟩
theorem Hc:En aa 220:=⟨_,_,Tryz.func220,by kernel_rfl,z⟩
def pz:ByteArray:=⟨#[0,1,2,2,3,3,3,3,4,4,4,4,4,4,4,4,5,5,5,5,5,5,5,5,5,5,5,5,5,5,5,5,6,6,6,6,6,6,6,6,6,6,6,6,6,6,6,6,6,6,6,6,6,6,6,6,6,6,6,6,6,6,6,6,7,7,7,7,7,7,7,7,7,7,7,7,7,7,7,7,7,7,7,7,7,7,7,7,7,7,7,7,7,7,7,7,7,7,7,7,7,7,7,7,7,7,7,7,7,7,7,7,7,7,7,7,7,7,7,7,7,7,7,7,7,7,7,7,8,8,8,8,8,8,8,8,8,8,8,8,8,8,8,8,8,8,8,8,8,8,8,8,8,8,8,8,8,8,8,8,8,8,8,8,8,8,8,8,8,8,8,8,8,8,8,8,8,8,8,8,8,8,8,8,8,8,8,8,8,8,8,8,8,8,8,8,8,8,8,8,8,8,8,8,8,8,8,8,8,8,8,8,8,8,8,8,8,8,8,8,8,8,8,8,8,8,8,8,8,8,8,8,8,8,8,8,8,8,8,8,8,8,8,8,8,8,8,8,8,8,8,8,8,8,8,8]⟩
theorem GL:En aa 136:=⟨_,_,Tryz.func136,by kernel_rfl,z⟩
theorem zy:En aa 377:=⟨_,_,Tryz.func377,by kernel_rfl,z⟩
theorem kN:En aa 367:=⟨_,_,Tryz.func367,by kernel_rfl,z⟩
theorem Hk:En aa 239:=⟨_,_,Tryz.func239,by kernel_rfl,z⟩
theorem H5:En aa 376:=⟨_,_,Tryz.func376,by kernel_rfl,z⟩
theorem vu:En aa 380:=⟨_,_,Tryz.func380,by kernel_rfl,z⟩
theorem vt:En aa 361:=⟨_,_,Tryz.func361,by kernel_rfl,z⟩
theorem HX:En aa 364:=⟨_,_,Tryz.func364,by kernel_rfl,z⟩
theorem HY:En aa 366:=⟨_,_,Tryz.func366,by kernel_rfl,z⟩
theorem HZ:En aa 369:=⟨_,_,Tryz.func369,by kernel_rfl,z⟩
theorem vq:En aa 346:=⟨_,_,Tryz.func346,by kernel_rfl,z⟩
theorem H0:En aa 370:=⟨_,_,Tryz.func370,by kernel_rfl,z⟩
theorem HS:En aa 347:=⟨_,_,Tryz.func347,by kernel_rfl,z⟩
theorem ra:Zr aa 88 #[ii 0,ii 0,sn]:=⟨.agg #[ii 0,ii 0,sn],by kernel_rfl,z⟩
theorem pb:Bd aa 88 #[ii 0,ii 0,sn] [(0,1),(1,1),(2,1)]:=⟨_,.agg #[ii 0,ii 0,sn],Tryz.underlying88,by kernel_rfl,z,fun w=>by kernel_rfl⟩
theorem lA:Sz aa 88 3:=by show _=_;kernel_rfl
theorem mq:Fa aa 88 0 0:=⟨_,_,Tryz.underlying88,z,z,0,by kernel_rfl⟩
theorem cS:Fa aa 88 1 1:=⟨_,_,Tryz.underlying88,z,z,0,by kernel_rfl⟩
theorem jD:Ag aa 88 3:=⟨_,Tryz.underlying88,z,by kernel_rfl⟩
theorem gI:Fa aa 88 2 2:=⟨_,_,Tryz.underlying88,z,z,0,by kernel_rfl⟩
theorem zA:En aa 378:=⟨_,_,Tryz.func378,by kernel_rfl,z⟩
theorem H2:En aa 371:=⟨_,_,Tryz.func371,by kernel_rfl,z⟩
theorem H3:En aa 372:=⟨_,_,Tryz.func372,by kernel_rfl,z⟩
theorem GK:Bd aa 442 #[ii 0,ii 0,sn,.pointer none,sn] [(0,3),(3,1),(4,1)]:=⟨_,.agg #[ii 0,ii 0,sn,.pointer none,sn],Tryz.underlying442,by kernel_rfl,z,fun w=>by kernel_rfl⟩
theorem cM:Fa aa 442 0 0:=⟨_,_,Tryz.underlying442,z,z,2,by kernel_rfl⟩
theorem H6:En aa 379:=⟨_,_,Tryz.func379,by kernel_rfl,z⟩
theorem qZ:Fa aa 442 2 4:=⟨_,_,Tryz.underlying442,z,z,0,by kernel_rfl⟩
theorem ly:En aa 381:=⟨_,_,Tryz.func381,by kernel_rfl,z⟩
theorem H7:En aa 382:=⟨_,_,Tryz.func382,by kernel_rfl,z⟩
theorem H8:En aa 383:=⟨_,_,Tryz.func383,by kernel_rfl,z⟩
theorem vx:Fa aa 442 1 3:=⟨_,_,Tryz.underlying442,z,z,0,by kernel_rfl⟩
theorem HT:En aa 348:=⟨_,_,Tryz.func348,by kernel_rfl,z⟩
theorem zJ:Zr aa 363 #[sn,.bool false]:=⟨.agg #[sn,.bool false],by kernel_rfl,z⟩
theorem zx:En aa 315:=⟨_,_,Tryz.func315,by kernel_rfl,z⟩
theorem HF:En aa 316:=⟨_,_,Tryz.func316,by kernel_rfl,z⟩
theorem HG:En aa 317:=⟨_,_,Tryz.func317,by kernel_rfl,z⟩
theorem vd:Bd aa 363 #[sn,.bool false] [(0,1),(1,1)]:=⟨_,.agg #[sn,.bool false],Tryz.underlying363,by kernel_rfl,z,fun w=>by kernel_rfl⟩
theorem sS:Sz aa 363 2:=by show _=_;kernel_rfl
theorem vb:Ag aa 363 2:=⟨_,Tryz.underlying363,z,by kernel_rfl⟩
theorem HH:En aa 318:=⟨_,_,Tryz.func318,by kernel_rfl,z⟩
theorem HI:En aa 319:=⟨_,_,Tryz.func319,by kernel_rfl,z⟩
theorem Hw:En aa 276:=⟨_,_,Tryz.func276,by kernel_rfl,z⟩
theorem Hv:En aa 275:=⟨_,_,Tryz.func275,by kernel_rfl,z⟩
theorem HD:En aa 312:=⟨_,_,Tryz.func312,by kernel_rfl,z⟩
theorem HR:En aa 345:=⟨_,_,Tryz.func345,by kernel_rfl,z⟩
theorem HE:En aa 313:=⟨_,_,Tryz.func313,by kernel_rfl,z⟩
theorem Hu:En aa 274:=⟨_,_,Tryz.func274,by kernel_rfl,z⟩
theorem Hx:En aa 277:=⟨_,_,Tryz.func277,by kernel_rfl,z⟩
theorem Ic:Fa aa 363 1 1:=⟨_,_,Tryz.underlying363,z,z,0,by kernel_rfl⟩
theorem Ig:Sc aa 4:=⟨_,Tryz.underlying4,z⟩
theorem vw:Fa aa 363 0 0:=⟨_,_,Tryz.underlying363,z,z,0,by kernel_rfl⟩
theorem Hy:En aa 278:=⟨_,_,Tryz.func278,by kernel_rfl,z⟩
theorem zp:En aa 221:=⟨_,_,Tryz.func221,by kernel_rfl,z⟩
theorem kO:Fa aa 265 0 0:=⟨_,_,Tryz.underlying265,z,z,5,by kernel_rfl⟩
theorem He:En aa 224:=⟨_,_,Tryz.func224,by kernel_rfl,z⟩
theorem Hf:En aa 226:=⟨_,_,Tryz.func226,by kernel_rfl,z⟩
theorem GD:Bd aa 260 #[.pointer none,ii 0,ii 0,ii 0,sn,sn] [(0,1),(1,3),(4,1),(5,1)]:=⟨_,.agg #[.pointer none,ii 0,ii 0,ii 0,sn,sn],Tryz.underlying260,by kernel_rfl,z,fun w=>by kernel_rfl⟩
theorem Il:Zr aa 260 #[.pointer none,ii 0,ii 0,ii 0,sn,sn]:=⟨.agg #[.pointer none,ii 0,ii 0,ii 0,sn,sn],by kernel_rfl,z⟩
theorem Ii:Sz aa 260 6:=by show _=_;kernel_rfl
theorem GG:Bd aa 263 #[.pointer none,ii 0,ii 0,ii 0,sn,sn] [(0,6)]:=⟨_,.agg #[.pointer none,ii 0,ii 0,ii 0,sn,sn],Tryz.underlying263,by kernel_rfl,z,fun w=>by kernel_rfl⟩
theorem GH:Bd aa 264 #[.pointer none,ii 0,ii 0,ii 0,sn,sn] [(0,6)]:=⟨_,.agg #[.pointer none,ii 0,ii 0,ii 0,sn,sn],Tryz.underlying264,by kernel_rfl,z,fun w=>by kernel_rfl⟩
theorem GI:Bd aa 265 #[.pointer none,ii 0,ii 0,ii 0,sn,sn] [(0,6)]:=⟨_,.agg #[.pointer none,ii 0,ii 0,ii 0,sn,sn],Tryz.underlying265,by kernel_rfl,z,fun w=>by kernel_rfl⟩
theorem sT:(Tryz.prog.info? 261).bind (·.zero)=some .nilFunc:=by kernel_rfl
theorem vf:En aa 172:=⟨_,_,Tryz.func172,by kernel_rfl,z⟩
theorem G1:En aa 169:=⟨_,_,Tryz.func169,by kernel_rfl,z⟩
theorem G2:En aa 170:=⟨_,_,Tryz.func170,by kernel_rfl,z⟩
theorem G3:En aa 171:=⟨_,_,Tryz.func171,by kernel_rfl,z⟩
theorem Hg:En aa 227:=⟨_,_,Tryz.func227,by kernel_rfl,z⟩
theorem Hh:En aa 228:=⟨_,_,Tryz.func228,by kernel_rfl,z⟩
theorem Im:Zr aa 28 #[sn]:=⟨.slice none 0 0,by kernel_rfl,z⟩
theorem vB:Zr aa 33 #[sn,sn,sn]:=⟨.agg #[sn,sn,sn],by kernel_rfl,z⟩
theorem G4:En aa 173:=⟨_,_,Tryz.func173,by kernel_rfl,z⟩
theorem zh:Bd aa 33 #[sn,sn,sn] [(0,1),(1,1),(2,1)]:=⟨_,.agg #[sn,sn,sn],Tryz.underlying33,by kernel_rfl,z,fun w=>by kernel_rfl⟩
theorem sR:Sz aa 33 3:=by show _=_;kernel_rfl
theorem zf:Ag aa 33 3:=⟨_,Tryz.underlying33,z,by kernel_rfl⟩
theorem G5:En aa 174:=⟨_,_,Tryz.func174,by kernel_rfl,z⟩
theorem pw:Fa aa 60 0 0:=⟨_,_,Tryz.underlying60,z,z,0,by kernel_rfl⟩
theorem mo:Fa aa 60 1 1:=⟨_,_,Tryz.underlying60,z,z,0,by kernel_rfl⟩
theorem sM:Fa aa 241 0 0:=⟨_,_,Tryz.underlying241,z,z,2,by kernel_rfl⟩
theorem Ib:Fa aa 241 1 3:=⟨_,_,Tryz.underlying241,z,z,0,by kernel_rfl⟩
theorem q9:Zr aa 60 #[ii 0,ii 0]:=⟨.agg #[ii 0,ii 0],by kernel_rfl,z⟩
theorem qT:Bd aa 60 #[ii 0,ii 0] [(0,1),(1,1)]:=⟨_,.agg #[ii 0,ii 0],Tryz.underlying60,by kernel_rfl,z,fun w=>by kernel_rfl⟩
theorem lz:Sz aa 60 2:=by show _=_;kernel_rfl
theorem gH:Ag aa 60 2:=⟨_,Tryz.underlying60,z,by kernel_rfl⟩
theorem H9:En aa 69:=⟨_,_,Tryz.func69,by kernel_rfl,z⟩
theorem GC:Bd aa 241 #[ii 0,ii 0,ii 0,ii 0] [(0,3),(3,1)]:=⟨_,.agg #[ii 0,ii 0,ii 0,ii 0],Tryz.underlying241,by kernel_rfl,z,fun w=>by kernel_rfl⟩
theorem Ik:Zr aa 241 #[ii 0,ii 0,ii 0,ii 0]:=⟨.agg #[ii 0,ii 0,ii 0,ii 0],by kernel_rfl,z⟩
theorem Ih:Sz aa 241 4:=by show _=_;kernel_rfl
theorem mm:Ag aa 241 4:=⟨_,Tryz.underlying241,z,by kernel_rfl⟩
theorem pa:Bd aa 245 #[.nilFunc,ii 0] [(0,1),(1,1)]:=⟨_,.agg #[.nilFunc,ii 0],Tryz.underlying245,by kernel_rfl,z,fun w=>by kernel_rfl⟩
theorem mw:Sl aa 246 245 2 16 (.agg #[.nilFunc,ii 0]):=ja Tryz.underlying246 (by kernel_rfl) z (by decide)
theorem zj:En aa 149:=⟨_,_,Tryz.func149,by kernel_rfl,z⟩
theorem zG:((#[246]:Array TypeId)[0]?).bind Tryz.prog.underlying=some (.slice 245):=iD Tryz.underlying246
theorem o9:Ag aa 245 2:=⟨_,Tryz.underlying245,z,by kernel_rfl⟩
theorem pC:Zr aa 245 #[.nilFunc,ii 0]:=⟨.agg #[.nilFunc,ii 0],by kernel_rfl,z⟩
theorem pB:Sz aa 245 2:=by show _=_;kernel_rfl
theorem pj:Fa aa 245 0 0:=⟨_,_,Tryz.underlying245,z,z,0,by kernel_rfl⟩
theorem px:Sc aa 243:=⟨_,Tryz.underlying243,z⟩
theorem GM:En aa 150:=⟨_,_,Tryz.func150,by kernel_rfl,z⟩
theorem pk:Fa aa 245 1 1:=⟨_,_,Tryz.underlying245,z,z,0,by kernel_rfl⟩
theorem GN:En aa 151:=⟨_,_,Tryz.func151,by kernel_rfl,z⟩
theorem GO:En aa 153:=⟨_,_,Tryz.func153,by kernel_rfl,z⟩
theorem GP:En aa 154:=⟨_,_,Tryz.func154,by kernel_rfl,z⟩
theorem GQ:En aa 155:=⟨_,_,Tryz.func155,by kernel_rfl,z⟩
theorem GR:En aa 156:=⟨_,_,Tryz.func156,by kernel_rfl,z⟩
def dh.f(a0:Int×Int×Int):Option (Int):=bif decide (a0.2.1<1)then(some 10)else(bif decide (a0.1≤a0.2.1)then(some 10)else(bif decide (255<a0.1)then(some 10)else(bif decide (a0.2.2<0)then(some 10)else(bif decide (255≤a0.2.2)then(some 10)else(some 0)))))
theorem dh.calls{w0:World}{a0:Int×Int×Int}{r:Int}(E:dh.f a0=some r):
 Calls aa 67 #[.agg #[ii a0.1,ii a0.2.1,ii a0.2.2]] w0 fun e w'=>e= .returned (.int .u16 r)∧St no w0 w' []:=by
 have H:=St.nil no w0
 unfold dh.f at E
 refine aP (N:=21) (args:=[.agg #[ii a0.1,ii a0.2.1,ii a0.2.2]]) Tryz.func67 z z (by simp) ?_
 refine rg (ye (bc (cs:=#[ii a0.1,ii a0.2.1,ii a0.2.2]) H z (fun b1 w H=>va (.int .u16 0) (nl (ae (aG (ae (rg (vr (az jh z) (vr (av bf z (ak (H.Gt 0 z) z)) (vr (aZ z z) (va (.bool (decide (a0.2.1<1))) (nl ?_)))))))))))))
 refine aE E z (fun c2 E=>?_) (fun c2 E=>?_)
 ·refine aA (ab (qo z c2 (rg (va (.int .u16 10) (nl (aj ?_))))))
  cases E
  exact(bG (aL ⟨.inl z,_,tk0 z ⟨aB z (ad ai),z,H.bs⟩⟩))
 ·refine rg (vr (az eJ z) (vr (av bf z (ak (H.Gt 0 z) z)) (vr (az jh z) (vr (av bf z (ak (H.Gt 0 z) z)) (vr (gS z z) (va (.bool (decide (a0.1≤a0.2.1))) (nl ?_)))))))
  refine aE E z (fun c3 E=>?_) (fun c3 E=>?_)
  ·refine aA (ab (qo z c3 (rg (va (.int .u16 10) (nl (aj ?_))))))
   cases E
   exact(bG (aL ⟨.inl z,_,tk0 z ⟨aB z (ad ai),z,H.bs⟩⟩))
  ·refine rg (vr (az eJ z) (vr (av bf z (ak (H.Gt 0 z) z)) (vr (dy z z) (va (.bool (decide (255<a0.1))) (nl ?_)))))
   refine aE E z (fun c4 E=>?_) (fun c4 E=>?_)
   ·refine aA (ab (qo z c4 (rg (va (.int .u16 10) (nl (aj ?_))))))
    cases E
    exact(bG (aL ⟨.inl z,_,tk0 z ⟨aB z (ad ai),z,H.bs⟩⟩))
   ·refine rg (vr (az nE z) (vr (av bf z (ak (H.Gt 0 z) z)) (vr (aZ z z) (va (.bool (decide (a0.2.2<0))) (nl ?_)))))
    refine aE E z (fun c5 E=>?_) (fun c5 E=>?_)
    ·refine aA (ab (qo z c5 (rg (va (.int .u16 10) (nl (aj ?_))))))
     cases E
     exact(bG (aL ⟨.inl z,_,tk0 z ⟨aB z (ad ai),z,H.bs⟩⟩))
    ·refine aH (vr (az nE z) (vr (av bf z (ak (H.Gt 0 z) z)) (vr (dq z z) (va (.bool (decide (255≤a0.2.2))) (nl ?_)))))
     refine aE E z (fun c6 E=>?_) (fun c6 E=>?_)
     ·refine rg (va (.int .u16 10) (nl (aj ?_)))
      cases E
      exact(bG (aL ⟨.inl z,_,tk0 z ⟨aB z (ad ai),z,H.bs⟩⟩))
     ·refine aA (aR (ab (rg (va (.int .u16 0) (nl (aj ?_))))))
      cases E
      exact⟨.inl z,_,tk0 z ⟨aB z (ad ai),z,H.bs⟩⟩
def gf.f(a0:Int×Int×Int):Option (Int):=(dh.f (a0.1,a0.2.1,a0.2.2)).bind fun x2=>bif !decide (x2=0)then(some 0)else(some (i64.wrap (a0.1-a0.2.1)))
theorem gf.calls{w0:World}{a0:Int×Int×Int}{r:Int}(E:gf.f a0=some r):
 Calls aa 152 #[.agg #[ii a0.1,ii a0.2.1,ii a0.2.2]] w0 fun e w'=>e= .returned (ii r)∧St no w0 w' []:=by
 have H:=St.nil no w0
 unfold gf.f at E
 refine aP (N:=11) (args:=[.agg #[ii a0.1,ii a0.2.1,ii a0.2.2]]) Tryz.func152 z z (by simp) ?_
 refine rg (ye (bc (cs:=#[ii a0.1,ii a0.2.1,ii a0.2.2]) H z (fun b1 w H=>va (ii 0) (nl (ae (rg (vr (bp (l:=[ii a0.1,ii a0.2.1,ii a0.2.2]) cv (H.Gt 0 z) z z z) ?_)))))))
 obtain⟨x2,E3,E⟩:=ay E
 refine ye (au jF z ((dh.calls E3).mono ?_))
 rintro _ w ⟨rfl,K⟩
 have H:=H.app K
 refine⟨_,z,vr (cx z z) (nl ?_)⟩
 refine aE E z (fun c4 E=>?_) (fun c4 E=>?_)
 ·refine rg (va (ii 0) (nl (aj ?_)))
  cases E
  exact(aL ⟨.inl z,_,tk0 z ⟨aB z (ad ai),z,H.bs⟩⟩)
 ·refine aA (ab (rg (vr (az eJ z) (vr (av bf z (ak (H.Gt 0 z) z)) (vr (az jh z) (vr (av bf z (ak (H.Gt 0 z) z)) (vr (bV z z) (va (ii (i64.wrap (a0.1-a0.2.1))) (nl (aj ?_))))))))))
  cases E
  exact⟨.inl z,_,tk0 z ⟨aB z (ad ai),z,H.bs⟩⟩
def eN.l0:Nat→List Int→Int→Option (Int)
 |0,_,_=>none
 |k+1,a0,x1=>bif decide (0≤x1)then(an (decide ((0:Int)≤x1∧x1<(a0.length:Int))) (bif !decide (at_ 0 a0 x1=0)then(some x1)else(eN.l0 k a0 (i64.wrap (x1-1)))))else(some (-1))
def eN.f(k:Nat)(a0:List Int):Option (Int):=eN.l0 k a0 (i64.wrap ((a0.length:Int)-1))
theorem eN.calls{w0:World}{k:Nat}{a0:List Int}{v0_:Value}{r:Int}(h0:Rd (.of (.int .u8)) w0 (Ol no w0) v0_ a0)(E:eN.f k a0=some r):
 Calls aa 252 #[v0_] w0 fun e w'=>e= .returned (ii r)∧St no w0 w' []:=by
 have H:=St.nil no w0
 unfold eN.f at E
 refine aP (N:=9) (args:=[v0_]) Tryz.func252 z z (by simp) ?_
 have H:=H.mk0
 refine rg (ye (cr vA H (fun b1 w H=>nl (ae (rg (vm v0_ (ye (cm 4 [v0_] zt Tryz.func264 z z z z (rg ?_)))))))))
 obtain⟨p6,n7,c8,rfl⟩:=eO h0
 refine ye (bc (cs:=#[(.slice p6 n7 c8)]) H z (fun b9 w H=>va (.nilFunc) (nl (rg (vr (dt [pt b9] z) (va (.func (.func 308) #[] #[pt b9]) (nl (aj (⟨.inl z,.func (.func 308) #[] #[pt b9],tk0 z ⟨ba z (ad ai) z,nl (aG (je 18 [pt b9] z Tryz.func308 z z z z z H 0 z z (fun v1 b2 o1 w hO1 H=>?_)))⟩⟩)))))))))
 have H:=H.mk0
 refine rg (ye (bc (cs:=#[.func (.yield b2) #[] #[]]) H z (fun b3 w H=>nl (rg (vr (av bQ z (ak (H.Gt 2 z) z)) (ye (cm 4 [(.slice p6 n7 c8)] vl Tryz.func231 z z z z (rg (ye (bc (cs:=#[(.slice p6 n7 c8)]) H z (fun b4 w H=>?_)))))))))))
 have H:St no w0 _ [.bO v1,.blk b1 #[ii 0] 3,.blk b9 #[(.slice p6 n7 c8)] 22,.obj b2 (.loop o1),.bO undef,.blk b3 #[.func (.yield b2) #[] #[]] 367,.blk b4 #[(.slice p6 n7 c8)] 22]:=H
 refine va (.nilFunc) (nl (rg (vr (dt [pt b4] z) (va (.func (.func 283) #[] #[pt b4]) (nl (aj (⟨.inl z,.func (.func 283) #[] #[pt b4],tk0 z ⟨ba z (ad ai) z,nl (aG (je 19 [pt b4] z Tryz.func283 z z z z z H 4 z z (fun v2 b5 o2 w hO2 H=>rg (vr (av bQ z (ak (H.Gt 6 z) z)) (vr (aY bI (H.rd h0) z) (vr (bV z z) (va (ii (i64.wrap ((a0.length:Int)-1))) (nl (aG ?_)))))))))⟩⟩)))))))
 refine bx (fun kk t w=>∃(x1:Int)(t1:Fr),kk≤k∧eN.l0 kk a0 x1=some r∧t=aU t1 [(0,.func (.yield b5) #[] #[]),(1,pt b4),(3,ii x1),(1000000,undef)]∧St no w0 w [.bO v1,.blk b1 #[ii 0] 3,.blk b9 #[(.slice p6 n7 c8)] 22,.obj b2 (.loop o1),.bO v2,.blk b3 #[.func (.yield b2) #[] #[]] 367,.blk b4 #[(.slice p6 n7 c8)] 22,.obj b5 (.loop o2)]) k ?_ ?_
 ·exact⟨_,_,aI _,E,aD ⟨z,z,z,z,trivial⟩,H⟩
 rintro kk t w ⟨x1,t1,hk1,E,rfl,H⟩
 obtain⟨k1,rfl⟩|rfl:=ks kk
 rotate_left
 ·cases E
 rw[eN.l0]at E
 refine ae (rg (vm (ii x1) (vr (dq z z) (nl ?_))))
 refine aE E z (fun c1 E=>?_) (fun c1 E=>?_)
 ·refine aA (ab (ae (aG (rg (vm (.func (.yield b5) #[] #[]) (vm (ii x1) (vr (av bQ z (ak (H.Gt 6 z) z)) (vm (ii x1) ?_))))))))
  obtain⟨⟨g1,g2⟩,E⟩:=ar E
  refine vr (bo aN (H.rd h0) z z g1 g2) (vr (bq bC (H.rd h0) g1 g2 z) (ye (jf [ii x1,iu (at_ 0 a0 x1)] z z H 7 z hO2 z z (rg (va (ii x1) (nl (aH (va (iu (at_ 0 a0 x1)) (aK (yB H 7 z hO2 (fun w H=>aG (rg (vm (iu (at_ 0 a0 x1)) (vr (cx z z) (vm (.bool (!decide (at_ 0 a0 x1=0))) ?_)))))))))))))))
  rcases bR (!decide (at_ 0 a0 x1=0))with c2|c2
  ·have E:=iT c2 E
   refine oo c2 z (av zF z (ak (H.Gt 5 z) z)) (oo c2 z (mv (ii x1) z) (oo c2 z (mv (iu (at_ 0 a0 x1)) z) (dP z c2 z (jf [ii x1,iu (at_ 0 a0 x1)] z z H 3 z hO1 z z (aH (va (ii x1) (aK (yB H 3 z hO1 (fun w H=>aG (rg (vm (ii x1) (s_ (cQ gJ H 1 z z z z z (fun w H=>nl (aj (bG (yR H 3 z (fun w H=>oo c2 z (bJ (v':=.bool true) (cp z) z) (vr (pT (.bool true) z z c2) (nl (cl z (aj (bG (yR H 7 z (fun w H=>vr (bJ (v':=.bool true) (cp z) z) (nl (cl z (aj (bG (aL (aL (bG ⟨.inl z,.tuple #[],tk0 z ⟨ba z ai z,zO H 7 z (fun w H=>bG ⟨.inl z,.tuple #[],gT H 4 z z (fun w H=>⟨ba z ai z,zO H 3 z (fun w H=>?_)⟩)⟩)⟩⟩))))))))))))))))))))))))))))))))
   cases E
   exact(bG (aL ⟨.inl z,_,gT H 0 z z (fun w H=>⟨aB z (Df z bf (ak (H.Gt 1 z) z) ai),z,H.bs⟩)⟩))
  ·have E:=iF c2 E
   refine ow c2 z (ow c2 z (ow c2 z (ow c2 z (ow c2 z (vr (pF (.bool false) z z c2) (nl (bS z (aA (aR (yN H 7 z hO2 (fun w H=>vr (bJ (v':=.bool false) (cp z) z) (nl (bS z (aA (aR (ab (aH (vm (ii x1) (vr (bV z z) (va (ii (i64.wrap (x1-1))) (aK ?_)))))))))))))))))))))
   exact⟨k1,bL _,_,_,bK hk1,E,aD ⟨z,z,z,z,trivial⟩,H⟩
 ·refine bt (aM (aM (bu (⟨.inr z,.tuple #[],tk0 z ⟨ba z ai z,ji H 7 z hO2 (fun w H=>aR (⟨.inr z,.tuple #[],gT H 4 z z (fun w H=>⟨ba z ai z,ji H 3 z hO1 (fun w H=>aR (ab (rg (s_ (cQ gJ H 1 z z z z z (fun w H=>nl (aj ?_)))))))⟩)⟩))⟩⟩))))
  cases E
  exact⟨.inl z,_,gT H 0 z z (fun w H=>⟨aB z (Df z bf (ak (H.Gt 1 z) z) ai),z,H.bs⟩)⟩
def dM.f(a0:List Int):Option (List Int):=an (decide (a0.length*1≤140737488355328)) (some a0)
theorem dM.calls{w0:World}{a0:List (Int)}{v0_:Value}{r:List (Int)}(h0:Rd (.of (.int .u8)) w0 (Ol no w0) v0_ a0)(E:dM.f a0=some r):
 Calls aa 117 #[v0_] w0 fun e w'=>∃u0:Value,e= .returned (u0)∧St no w0 w' [.own (.int .u8) 5 u0 r]:=by
 have H:=St.nil no w0
 unfold dM.f at E
 obtain⟨g1,E⟩:=ar E
 cases E
 obtain⟨p,c,rfl,h2,h3,h4⟩:=id h0
 cases p with
 |none=>
  obtain rfl:a0=[]:=by
   rcases h4 with⟨h,_,_⟩|⟨b,o,h,_⟩
   ·exact h
   ·cases h
  refine aP (N:=8) (args:=[.slice none ([]:List Int).length c]) Tryz.func117 z z (by simp) ?_
  refine rg (va sn (nl (ae (rg (vm (.slice none ([]:List Int).length c) (vr (CJ Tryz.underlying22 z z) (nl (qo z z (rg (va sn (nl ?_)))))))))))
  have H:=H.bB (.int .u8) 5
  refine aj ?_
  exact aL ⟨.inl z,_,tk0 z ⟨aB z (ad ai),_,z,H.bA 0 z⟩⟩
 |some p=>
  refine aP (N:=8) (args:=[.slice (some p) a0.length c]) Tryz.func117 z z (by simp) ?_
  refine rg (va sn (nl (ae (rg (vm (.slice (some p) a0.length c) (vr (CJ Tryz.underlying22 z z) (nl (QB z z (aA (ab ?_))))))))))
  refine rg (ye (QV (e:=(.int .u8)) aN H (fun v1 w H=>vm (.slice (some p) a0.length c) (ye (dZ aN H 0 z (H.rd h0) z z (by simpa using g1) (by unfold maxLen;simp;omega) (fun v2 w H=>va v2 (nl ?_)))))))
  rw[List.nil_append]at H
  refine aj ?_
  exact⟨.inl z,_,tk0 z ⟨aB z (ad ai),_,z,H.bA 0 z⟩⟩
def cX.f(k:Nat)(a0:List Int):Option (List Int):=(eN.f k a0).bind fun x1=>an (decide ((0:Int)≤i64.wrap (x1+1)∧i64.wrap (x1+1)≤(a0.length:Int))) ((dM.f ((a0.take ((i64.wrap (x1+1)).toNat)).drop 0)).bind fun x8=>some x8)
theorem cX.calls{w0:World}{k:Nat}{a0:List Int}{v0_:Value}{r:List Int}(h0:Rd (.of (.int .u8)) w0 (Ol no w0) v0_ a0)(E:cX.f k a0=some r):
 Calls aa 254 #[v0_] w0 fun e w'=>∃(u0:Value),e= .returned (u0)∧St no w0 w' [.own (.int .u8) 5 u0 r]:=by
 have H:=St.nil no w0
 unfold cX.f at E
 refine aP (N:=9) (args:=[v0_]) Tryz.func254 z z (by simp) ?_
 refine rg (va sn (nl (rg (vm v0_ (vm v0_ ?_)))))
 obtain⟨x1,E2,E⟩:=ay E
 refine ye (au qW z ((eN.calls (H.arg (H.rd h0)) E2).mono ?_))
 rintro _ w ⟨rfl,K⟩
 have H:=H.app K
 refine⟨_,z,(vr (aO z z) ?_)⟩
 obtain⟨⟨g3,g4⟩,E⟩:=ar E
 have p6:0≤(i64.wrap (x1+1)).toNat:=by omega
 have p7:(i64.wrap (x1+1)).toNat≤a0.length:=by omega
 refine vr (fU aN (H.rd h0) z z g3 g4) ?_
 obtain⟨x8,E9,E⟩:=ay E
 refine ye (au nD z ((dM.calls (H.arg (Rd.bz (H.rd h0) p6 p7)) E9).mono ?_))
 rintro _ w ⟨v1,rfl,K⟩
 have H:=H.app K
 refine⟨_,z,va v1 (nl (aj ?_))⟩
 cases E
 exact⟨.inl z,_,tk0 z ⟨aB z (ad ai),_,z,H.bA 0 z⟩⟩
def rE.f(a0 a1:Int):Option (Int×Int):=some (u64.wrap (u64.wrap (u64.wrap (Int.fdiv a0 (2^min (32:Int).toNat 64)*Int.fdiv a1 (2^min (32:Int).toNat 64))+Int.fdiv (u64.wrap (u64.wrap (Int.fdiv a0 (2^min (32:Int).toNat 64)*bits .and .u64 a1 4294967295)+Int.fdiv (u64.wrap (bits .and .u64 a0 4294967295*bits .and .u64 a1 4294967295)) (2^min (32:Int).toNat 64))) (2^min (32:Int).toNat 64))+Int.fdiv (u64.wrap (bits .and .u64 (u64.wrap (u64.wrap (Int.fdiv a0 (2^min (32:Int).toNat 64)*bits .and .u64 a1 4294967295)+Int.fdiv (u64.wrap (bits .and .u64 a0 4294967295*bits .and .u64 a1 4294967295)) (2^min (32:Int).toNat 64))) 4294967295+u64.wrap (bits .and .u64 a0 4294967295*Int.fdiv a1 (2^min (32:Int).toNat 64)))) (2^min (32:Int).toNat 64)),u64.wrap (a0*a1))
theorem rE.calls{w0:World}{a0 a1:Int}{r:Int×Int}(E:rE.f a0 a1=some r):
 Calls aa 353 #[.int .u64 a0,.int .u64 a1] w0 fun e w'=>e= .returned (.tuple #[.int .u64 r.1,.int .u64 r.2])∧St no w0 w' []:=by
 have H:=St.nil no w0
 unfold rE.f at E
 refine aP (N:=51) (args:=[.int .u64 a0,.int .u64 a1]) Tryz.func353 z z (by simp) ?_
 refine rg (va (.int .u64 0) (va (.int .u64 0) (nl (rg (vm (.int .u64 a0) (vr (jo z z) (va (.int .u64 (bits .and .u64 a0 4294967295)) (nl (rg (vm (.int .u64 a0) (vr (fT z z (by decide)) (va (.int .u64 (Int.fdiv a0 (2^min (32:Int).toNat 64))) (nl (rg (vm (.int .u64 a1) (vr (jo z z) (va (.int .u64 (bits .and .u64 a1 4294967295)) (nl (rg (vm (.int .u64 a1) (vr (fT z z (by decide)) (va (.int .u64 (Int.fdiv a1 (2^min (32:Int).toNat 64))) (nl (rg (vm (.int .u64 (bits .and .u64 a0 4294967295)) (vm (.int .u64 (bits .and .u64 a1 4294967295)) (vr (cF z z) (va (.int .u64 (u64.wrap (bits .and .u64 a0 4294967295*bits .and .u64 a1 4294967295))) (nl (rg (vm (.int .u64 (Int.fdiv a0 (2^min (32:Int).toNat 64))) (vm (.int .u64 (bits .and .u64 a1 4294967295)) (vr (cF z z) (vm (.int .u64 (u64.wrap (bits .and .u64 a0 4294967295*bits .and .u64 a1 4294967295))) (vr (fT z z (by decide)) (vr (aO z z) (va (.int .u64 (u64.wrap (u64.wrap (Int.fdiv a0 (2^min (32:Int).toNat 64)*bits .and .u64 a1 4294967295)+Int.fdiv (u64.wrap (bits .and .u64 a0 4294967295*bits .and .u64 a1 4294967295)) (2^min (32:Int).toNat 64)))) (nl (rg (vm (.int .u64 (u64.wrap (u64.wrap (Int.fdiv a0 (2^min (32:Int).toNat 64)*bits .and .u64 a1 4294967295)+Int.fdiv (u64.wrap (bits .and .u64 a0 4294967295*bits .and .u64 a1 4294967295)) (2^min (32:Int).toNat 64)))) ?_))))))))))))))))))))))))))))))))))))))))
 refine vr (jo z z) (va (.int .u64 (bits .and .u64 (u64.wrap (u64.wrap (Int.fdiv a0 (2^min (32:Int).toNat 64)*bits .and .u64 a1 4294967295)+Int.fdiv (u64.wrap (bits .and .u64 a0 4294967295*bits .and .u64 a1 4294967295)) (2^min (32:Int).toNat 64))) 4294967295)) (nl (rg (vm (.int .u64 (u64.wrap (u64.wrap (Int.fdiv a0 (2^min (32:Int).toNat 64)*bits .and .u64 a1 4294967295)+Int.fdiv (u64.wrap (bits .and .u64 a0 4294967295*bits .and .u64 a1 4294967295)) (2^min (32:Int).toNat 64)))) (vr (fT z z (by decide)) (va (.int .u64 (Int.fdiv (u64.wrap (u64.wrap (Int.fdiv a0 (2^min (32:Int).toNat 64)*bits .and .u64 a1 4294967295)+Int.fdiv (u64.wrap (bits .and .u64 a0 4294967295*bits .and .u64 a1 4294967295)) (2^min (32:Int).toNat 64))) (2^min (32:Int).toNat 64))) (nl (rg (vm (.int .u64 (bits .and .u64 (u64.wrap (u64.wrap (Int.fdiv a0 (2^min (32:Int).toNat 64)*bits .and .u64 a1 4294967295)+Int.fdiv (u64.wrap (bits .and .u64 a0 4294967295*bits .and .u64 a1 4294967295)) (2^min (32:Int).toNat 64))) 4294967295)) (vm (.int .u64 (bits .and .u64 a0 4294967295)) (vm (.int .u64 (Int.fdiv a1 (2^min (32:Int).toNat 64))) (vr (cF z z) (vr (aO z z) (va (.int .u64 (u64.wrap (bits .and .u64 (u64.wrap (u64.wrap (Int.fdiv a0 (2^min (32:Int).toNat 64)*bits .and .u64 a1 4294967295)+Int.fdiv (u64.wrap (bits .and .u64 a0 4294967295*bits .and .u64 a1 4294967295)) (2^min (32:Int).toNat 64))) 4294967295+u64.wrap (bits .and .u64 a0 4294967295*Int.fdiv a1 (2^min (32:Int).toNat 64))))) (nl (rg (vm (.int .u64 (Int.fdiv a0 (2^min (32:Int).toNat 64))) (vm (.int .u64 (Int.fdiv a1 (2^min (32:Int).toNat 64))) (vr (cF z z) (vm (.int .u64 (Int.fdiv (u64.wrap (u64.wrap (Int.fdiv a0 (2^min (32:Int).toNat 64)*bits .and .u64 a1 4294967295)+Int.fdiv (u64.wrap (bits .and .u64 a0 4294967295*bits .and .u64 a1 4294967295)) (2^min (32:Int).toNat 64))) (2^min (32:Int).toNat 64))) (vr (aO z z) (vm (.int .u64 (u64.wrap (bits .and .u64 (u64.wrap (u64.wrap (Int.fdiv a0 (2^min (32:Int).toNat 64)*bits .and .u64 a1 4294967295)+Int.fdiv (u64.wrap (bits .and .u64 a0 4294967295*bits .and .u64 a1 4294967295)) (2^min (32:Int).toNat 64))) 4294967295+u64.wrap (bits .and .u64 a0 4294967295*Int.fdiv a1 (2^min (32:Int).toNat 64))))) (vr (fT z z (by decide)) (vr (aO z z) (va (.int .u64 (u64.wrap (u64.wrap (u64.wrap (Int.fdiv a0 (2^min (32:Int).toNat 64)*Int.fdiv a1 (2^min (32:Int).toNat 64))+Int.fdiv (u64.wrap (u64.wrap (Int.fdiv a0 (2^min (32:Int).toNat 64)*bits .and .u64 a1 4294967295)+Int.fdiv (u64.wrap (bits .and .u64 a0 4294967295*bits .and .u64 a1 4294967295)) (2^min (32:Int).toNat 64))) (2^min (32:Int).toNat 64))+Int.fdiv (u64.wrap (bits .and .u64 (u64.wrap (u64.wrap (Int.fdiv a0 (2^min (32:Int).toNat 64)*bits .and .u64 a1 4294967295)+Int.fdiv (u64.wrap (bits .and .u64 a0 4294967295*bits .and .u64 a1 4294967295)) (2^min (32:Int).toNat 64))) 4294967295+u64.wrap (bits .and .u64 a0 4294967295*Int.fdiv a1 (2^min (32:Int).toNat 64)))) (2^min (32:Int).toNat 64)))) (nl (rg (vm (.int .u64 a0) (vm (.int .u64 a1) (vr (cF z z) (va (.int .u64 (u64.wrap (a0*a1))) (nl (aj ?_)))))))))))))))))))))))))))))))))
 cases E
 exact⟨.inl z,_,tk0 z ⟨aB z (ad (ad ai)),z,H.bs⟩⟩
end Go.Proofs.YtmhkpafkadijgaaGreatDoor.Gw
