/- A part of the proof of Rows.PlayDecodesCardSaid; the conditions are that card's own. -/
import Derived.Test.YtmhkpafkadijgaaGreatDoorQA
set_option linter.all false
set_option maxRecDepth 100000
set_option maxHeartbeats 4000000
namespace Go.Proofs.YtmhkpafkadijgaaGreatDoor.Gw
open Go Go.RowKit
variable[de]
open Go.IntKind (i8 i16 i32 i64 u8 u16 u32 u64)
open Tryz hiding prog
open Tryz renaming prog → aa
theorem aN:Sl aa 22 5 1 1 (iu 0):=ja underlying22 d_ z f_
theorem jh:Fa aa 24 1 1:=⟨_,_,underlying24,z,z,0,d_⟩
theorem bf:Sc aa 3:=⟨_,underlying3,z⟩
theorem eJ:Fa aa 24 0 0:=⟨_,_,underlying24,z,z,0,d_⟩
theorem nE:Fa aa 24 2 2:=⟨_,_,underlying24,z,z,0,d_⟩
theorem cv:Ag aa 24 3:=⟨_,underlying24,z,d_⟩
theorem jF:En aa 67:=⟨_,_,func67,d_,z⟩
theorem vA:Zr aa 3 #[ii 0]:=⟨ii 0,d_,z⟩
theorem zt:En aa 264:=⟨_,_,func264,d_,z⟩
theorem bQ:Sc aa 22:=⟨_,underlying22,z⟩
theorem vl:En aa 231:=⟨_,_,func231,d_,z⟩
theorem bI:((#[22]:Array TypeId)[0]?).bind Tryz.prog.underlying=some (.slice 5):=iD underlying22
theorem bC:Sc aa 5:=⟨_,underlying5,z⟩
theorem zF:Sc aa 367:=⟨_,underlying367,z⟩
theorem gJ:Sz aa 3 1:=K_
theorem qW:En aa 252:=⟨_,_,func252,d_,z⟩
theorem nD:En aa 117:=⟨_,_,func117,d_,z⟩
theorem HW:En aa 353:=⟨_,_,func353,d_,z⟩
theorem HQ:En aa 333:=⟨_,_,func333,d_,z⟩
theorem bZ:Tryz.prog.follows .mixedOrders=true:=d_
theorem Hz:En aa 301:=⟨_,_,func301,d_,z⟩
theorem vp:En aa 280:=⟨_,_,func280,d_,z⟩
theorem qX:En aa 253:=⟨_,_,func253,d_,z⟩
theorem eS:En aa 254:=⟨_,_,func254,d_,z⟩
theorem pg:En aa 232:=⟨_,_,func232,d_,z⟩
theorem dB:Sz aa 5 1:=K_
theorem ph:En aa 255:=⟨_,_,func255,d_,z⟩
theorem zl:En aa 209:=⟨_,_,func209,d_,z⟩
theorem zI:Zr aa 22 #[sn]:=⟨.slice none 0 0,d_,z⟩
theorem pA:Sz aa 22 1:=K_
theorem Hi:En aa 233:=⟨_,_,func233,d_,z⟩
theorem dk:Sc aa 111:=⟨_,underlying111,z⟩
theorem vn:En aa 234:=⟨_,_,func234,d_,z⟩
theorem pf:En aa 152:=⟨_,_,func152,d_,z⟩
theorem vh:En aa 179:=⟨_,_,func179,d_,z⟩
theorem G7:En aa 178:=⟨_,_,func178,d_,z⟩
theorem qV:En aa 217:=⟨_,_,func217,d_,z⟩
theorem ve:En aa 112:=⟨_,_,func112,d_,z⟩
theorem zm:En aa 210:=⟨_,_,func210,d_,z⟩
theorem sL:Bd aa 249 #[.nilFunc,.int .u16 0] [(0,1),(1,1)]:=⟨_,.agg #[.nilFunc,.int .u16 0],underlying249,d_,z,fun w=>d_⟩
theorem py:Sl aa 250 249 2 16 (.agg #[.nilFunc,.int .u16 0]):=ja underlying250 d_ z f_
theorem zk:En aa 157:=⟨_,_,func157,d_,z⟩
theorem zH:((#[250]:Array TypeId)[0]?).bind Tryz.prog.underlying=some (.slice 249):=iD underlying250
theorem sK:Ag aa 249 2:=⟨_,underlying249,z,d_⟩
theorem sU:Zr aa 249 #[.nilFunc,.int .u16 0]:=⟨.agg #[.nilFunc,.int .u16 0],d_,z⟩
theorem sQ:Sz aa 249 2:=K_
theorem sN:Fa aa 249 0 0:=⟨_,_,underlying249,z,z,0,d_⟩
theorem q8:Sc aa 38:=⟨_,underlying38,z⟩
theorem GU:En aa 158:=⟨_,_,func158,d_,z⟩
theorem sO:Fa aa 249 1 1:=⟨_,_,underlying249,z,z,0,d_⟩
theorem sP:Sc aa 125:=⟨_,underlying125,z⟩
theorem GV:En aa 159:=⟨_,_,func159,d_,z⟩
theorem GX:En aa 161:=⟨_,_,func161,d_,z⟩
theorem GW:En aa 160:=⟨_,_,func160,d_,z⟩
theorem Ip:Zr aa 5 #[iu 0]:=⟨iu 0,d_,z⟩
theorem G6:En aa 176:=⟨_,_,func176,d_,z⟩
theorem vg:En aa 177:=⟨_,_,func177,d_,z⟩
theorem qU:En aa 111:=⟨_,_,func111,d_,z⟩
theorem gK:((#[28]:Array TypeId)[0]?).bind Tryz.prog.underlying=some (.slice 3):=iD underlying28
theorem gl:Sl aa 28 3 1 8 (ii 0):=ja underlying28 d_ z f_
theorem gh:Fa aa 260 0 0:=⟨_,_,underlying260,z,z,0,d_⟩
theorem km:Fa aa 260 1 1:=⟨_,_,underlying260,z,z,2,d_⟩
theorem pn:Fa aa 260 2 4:=⟨_,_,underlying260,z,z,0,d_⟩
theorem Ia:En aa 76:=⟨_,_,func76,d_,z⟩
theorem mn:Fa aa 260 3 5:=⟨_,_,underlying260,z,z,0,d_⟩
theorem eU:Sc aa 28:=⟨_,underlying28,z⟩
theorem Hl:En aa 260:=⟨_,_,func260,d_,z⟩
theorem Hm:En aa 261:=⟨_,_,func261,d_,z⟩
theorem vo:En aa 270:=⟨_,_,func270,d_,z⟩
theorem nF:((#[85]:Array TypeId)[0]?).bind Tryz.prog.underlying=some (.slice 22):=iD underlying85
theorem ko:Sl aa 85 22 1 24 sn:=ja underlying85 d_ z f_
theorem Wp:En aa 341:=⟨_,_,func341,d_,z⟩
theorem Io:Zr aa 352 #[sn,ii 0,sn,iu 0,ii 0]:=⟨.agg #[sn,ii 0,sn,iu 0,ii 0],d_,z⟩
theorem Ws:Fa aa 352 3 3:=⟨_,_,underlying352,z,z,0,d_⟩
theorem Hd:En aa 223:=⟨_,_,func223,d_,z⟩
theorem zB:Fa aa 352 0 0:=⟨_,_,underlying352,z,z,0,d_⟩
theorem Wr:Fa aa 352 2 2:=⟨_,_,underlying352,z,z,0,d_⟩
theorem zD:Fa aa 352 4 4:=⟨_,_,underlying352,z,z,0,d_⟩
theorem Wo:En aa 307:=⟨_,_,func307,d_,z⟩
theorem zu:En aa 271:=⟨_,_,func271,d_,z⟩
theorem Ug:En aa 306:=⟨_,_,func306,d_,z⟩
theorem zC:Fa aa 352 1 1:=⟨_,_,underlying352,z,z,0,d_⟩
theorem S4:Ag aa 352 5:=⟨_,underlying352,z,d_⟩
theorem Ij:Sz aa 352 5:=K_
theorem GJ:Bd aa 352 #[sn,ii 0,sn,iu 0,ii 0] [(0,1),(1,1),(2,1),(3,1),(4,1)]:=⟨_,.agg #[sn,ii 0,sn,iu 0,ii 0],underlying352,d_,z,fun w=>d_⟩
theorem Hn:En aa 262:=⟨_,_,func262,d_,z⟩
theorem Wn:En aa 263:=⟨_,_,func263,d_,z⟩
theorem Wv:(Tryz.prog.info? 97).bind (·.zero)=some (.agg #[]):=d_
theorem Ww:Zr aa 97 #[]:=⟨.agg #[],d_,z⟩
theorem Wt:Sz aa 97 0:=K_
theorem Wm:Bd aa 97 #[] []:=⟨_,.agg #[],underlying97,d_,z,fun w=>d_⟩
theorem GZ:En aa 166:=⟨_,_,func166,d_,z⟩
theorem G9:En aa 214:=⟨_,_,func214,d_,z⟩
theorem GY:En aa 165:=⟨_,_,func165,d_,z⟩
theorem G0:En aa 167:=⟨_,_,func167,d_,z⟩
theorem HU:En aa 349:=⟨_,_,func349,d_,z⟩
theorem H4:En aa 373:=⟨_,_,func373,d_,z⟩
theorem HV:En aa 350:=⟨_,_,func350,d_,z⟩
theorem Ht:En aa 273:=⟨_,_,func273,d_,z⟩
theorem zr:En aa 229:=⟨_,_,func229,d_,z⟩
theorem vk:En aa 222:=⟨_,_,func222,d_,z⟩
theorem qS:Ba aa 406 4 1 #[.nilFunc,.nilFunc,.nilFunc,.nilFunc]:=⟨_,.agg #[.nilFunc,.nilFunc,.nilFunc,.nilFunc],underlying406,d_,z,d_,q8⟩
theorem HJ:En aa 320:=⟨_,_,func320,d_,z⟩
theorem HK:En aa 321:=⟨_,_,func321,d_,z⟩
theorem zi:En aa 106:=⟨_,_,func106,d_,z⟩
theorem HL:En aa 322:=⟨_,_,func322,d_,z⟩
theorem HM:En aa 323:=⟨_,_,func323,d_,z⟩
theorem HN:En aa 324:=⟨_,_,func324,d_,z⟩
theorem HP:En aa 326:=⟨_,_,func326,d_,z⟩
theorem HO:En aa 325:=⟨_,_,func325,d_,z⟩
theorem zw:En aa 279:=⟨_,_,func279,d_,z⟩
theorem HA:En aa 309:=⟨_,_,func309,d_,z⟩
theorem G8:En aa 186:=⟨_,_,func186,d_,z⟩
theorem Hj:En aa 237:=⟨_,_,func237,d_,z⟩
theorem vy:Sz aa 28 1:=K_
theorem zv:En aa 272:=⟨_,_,func272,d_,z⟩
theorem HB:En aa 310:=⟨_,_,func310,d_,z⟩
theorem Ho:En aa 265:=⟨_,_,func265,d_,z⟩
theorem Hp:En aa 266:=⟨_,_,func266,d_,z⟩
theorem jC:Ag aa 260 6:=⟨_,underlying260,z,d_⟩
theorem Hq:En aa 267:=⟨_,_,func267,d_,z⟩
theorem zq:En aa 225:=⟨_,_,func225,d_,z⟩
theorem Hr:En aa 268:=⟨_,_,func268,d_,z⟩
theorem pq:Fa aa 263 0 0:=⟨_,_,underlying263,z,z,5,d_⟩
theorem zn:En aa 215:=⟨_,_,func215,d_,z⟩
theorem Ha:En aa 216:=⟨_,_,func216,d_,z⟩
theorem Hb:En aa 219:=⟨_,_,func219,d_,z⟩
theorem zo:En aa 218:=⟨_,_,func218,d_,z⟩
theorem kp:Zr aa 395 #[sn,sn,sn,sn]:=⟨.agg #[sn,sn,sn,sn],d_,z⟩
theorem HC:En aa 311:=⟨_,_,func311,d_,z⟩
theorem fq:Ba aa 393 2 1 #[sn,sn]:=⟨_,.agg #[sn,sn],underlying393,d_,z,d_,bQ⟩
theorem jE:Bd aa 395 #[sn,sn,sn,sn] [(0,2),(2,2)]:=⟨_,.agg #[sn,sn,sn,sn],underlying395,d_,z,fun w=>d_⟩
theorem vz:Sz aa 395 4:=K_
theorem zg:Ag aa 395 4:=⟨_,underlying395,z,d_⟩
theorem zE:Fa aa 395 0 0:=⟨_,_,underlying395,z,z,1,d_⟩
theorem vc:Ar aa 393 2 1:=⟨_,underlying393,d_⟩
theorem Wq:En aa 344:=⟨_,_,func344,d_,z⟩
theorem Uh:Sz aa 393 2:=K_
theorem Ie:Fa aa 395 1 2:=⟨_,_,underlying395,z,z,1,d_⟩
theorem Hs:En aa 269:=⟨_,_,func269,d_,z⟩
theorem qY:Fa aa 264 0 0:=⟨_,_,underlying264,z,z,5,d_⟩
theorem Hc:En aa 220:=⟨_,_,func220,d_,z⟩
def pz:ByteArray:=⟨#[0,1,2,2,3,3,3,3,4,4,4,4,4,4,4,4,5,5,5,5,5,5,5,5,5,5,5,5,5,5,5,5,6,6,6,6,6,6,6,6,6,6,6,6,6,6,6,6,6,6,6,6,6,6,6,6,6,6,6,6,6,6,6,6,7,7,7,7,7,7,7,7,7,7,7,7,7,7,7,7,7,7,7,7,7,7,7,7,7,7,7,7,7,7,7,7,7,7,7,7,7,7,7,7,7,7,7,7,7,7,7,7,7,7,7,7,7,7,7,7,7,7,7,7,7,7,7,7,8,8,8,8,8,8,8,8,8,8,8,8,8,8,8,8,8,8,8,8,8,8,8,8,8,8,8,8,8,8,8,8,8,8,8,8,8,8,8,8,8,8,8,8,8,8,8,8,8,8,8,8,8,8,8,8,8,8,8,8,8,8,8,8,8,8,8,8,8,8,8,8,8,8,8,8,8,8,8,8,8,8,8,8,8,8,8,8,8,8,8,8,8,8,8,8,8,8,8,8,8,8,8,8,8,8,8,8,8,8,8,8,8,8,8,8,8,8,8,8,8,8,8,8,8,8,8,8]⟩
theorem GL:En aa 136:=⟨_,_,func136,d_,z⟩
theorem zy:En aa 377:=⟨_,_,func377,d_,z⟩
theorem kN:En aa 367:=⟨_,_,func367,d_,z⟩
theorem Hk:En aa 239:=⟨_,_,func239,d_,z⟩
theorem H5:En aa 376:=⟨_,_,func376,d_,z⟩
theorem vu:En aa 380:=⟨_,_,func380,d_,z⟩
theorem vt:En aa 361:=⟨_,_,func361,d_,z⟩
theorem HX:En aa 364:=⟨_,_,func364,d_,z⟩
theorem HY:En aa 366:=⟨_,_,func366,d_,z⟩
theorem HZ:En aa 369:=⟨_,_,func369,d_,z⟩
theorem vq:En aa 346:=⟨_,_,func346,d_,z⟩
theorem H0:En aa 370:=⟨_,_,func370,d_,z⟩
theorem HS:En aa 347:=⟨_,_,func347,d_,z⟩
theorem ra:Zr aa 88 #[ii 0,ii 0,sn]:=⟨.agg #[ii 0,ii 0,sn],d_,z⟩
theorem pb:Bd aa 88 #[ii 0,ii 0,sn] [(0,1),(1,1),(2,1)]:=⟨_,.agg #[ii 0,ii 0,sn],underlying88,d_,z,fun w=>d_⟩
theorem lA:Sz aa 88 3:=K_
theorem mq:Fa aa 88 0 0:=⟨_,_,underlying88,z,z,0,d_⟩
theorem cS:Fa aa 88 1 1:=⟨_,_,underlying88,z,z,0,d_⟩
theorem jD:Ag aa 88 3:=⟨_,underlying88,z,d_⟩
theorem gI:Fa aa 88 2 2:=⟨_,_,underlying88,z,z,0,d_⟩
theorem zA:En aa 378:=⟨_,_,func378,d_,z⟩
theorem H2:En aa 371:=⟨_,_,func371,d_,z⟩
theorem H3:En aa 372:=⟨_,_,func372,d_,z⟩
theorem GK:Bd aa 442 #[ii 0,ii 0,sn,.pointer none,sn] [(0,3),(3,1),(4,1)]:=⟨_,.agg #[ii 0,ii 0,sn,.pointer none,sn],underlying442,d_,z,fun w=>d_⟩
theorem cM:Fa aa 442 0 0:=⟨_,_,underlying442,z,z,2,d_⟩
theorem H6:En aa 379:=⟨_,_,func379,d_,z⟩
theorem qZ:Fa aa 442 2 4:=⟨_,_,underlying442,z,z,0,d_⟩
theorem ly:En aa 381:=⟨_,_,func381,d_,z⟩
theorem H7:En aa 382:=⟨_,_,func382,d_,z⟩
theorem H8:En aa 383:=⟨_,_,func383,d_,z⟩
theorem vx:Fa aa 442 1 3:=⟨_,_,underlying442,z,z,0,d_⟩
theorem HT:En aa 348:=⟨_,_,func348,d_,z⟩
theorem zJ:Zr aa 363 #[sn,.bool false]:=⟨.agg #[sn,.bool false],d_,z⟩
theorem zx:En aa 315:=⟨_,_,func315,d_,z⟩
theorem HF:En aa 316:=⟨_,_,func316,d_,z⟩
theorem HG:En aa 317:=⟨_,_,func317,d_,z⟩
theorem vd:Bd aa 363 #[sn,.bool false] [(0,1),(1,1)]:=⟨_,.agg #[sn,.bool false],underlying363,d_,z,fun w=>d_⟩
theorem sS:Sz aa 363 2:=K_
theorem vb:Ag aa 363 2:=⟨_,underlying363,z,d_⟩
theorem HH:En aa 318:=⟨_,_,func318,d_,z⟩
theorem HI:En aa 319:=⟨_,_,func319,d_,z⟩
theorem Hw:En aa 276:=⟨_,_,func276,d_,z⟩
theorem Hv:En aa 275:=⟨_,_,func275,d_,z⟩
theorem HD:En aa 312:=⟨_,_,func312,d_,z⟩
theorem HR:En aa 345:=⟨_,_,func345,d_,z⟩
theorem HE:En aa 313:=⟨_,_,func313,d_,z⟩
theorem Hu:En aa 274:=⟨_,_,func274,d_,z⟩
theorem Hx:En aa 277:=⟨_,_,func277,d_,z⟩
theorem Ic:Fa aa 363 1 1:=⟨_,_,underlying363,z,z,0,d_⟩
theorem Ig:Sc aa 4:=⟨_,underlying4,z⟩
theorem vw:Fa aa 363 0 0:=⟨_,_,underlying363,z,z,0,d_⟩
theorem Hy:En aa 278:=⟨_,_,func278,d_,z⟩
theorem zp:En aa 221:=⟨_,_,func221,d_,z⟩
theorem kO:Fa aa 265 0 0:=⟨_,_,underlying265,z,z,5,d_⟩
theorem He:En aa 224:=⟨_,_,func224,d_,z⟩
theorem Hf:En aa 226:=⟨_,_,func226,d_,z⟩
theorem GD:Bd aa 260 #[.pointer none,ii 0,ii 0,ii 0,sn,sn] [(0,1),(1,3),(4,1),(5,1)]:=⟨_,.agg #[.pointer none,ii 0,ii 0,ii 0,sn,sn],underlying260,d_,z,fun w=>d_⟩
theorem Il:Zr aa 260 #[.pointer none,ii 0,ii 0,ii 0,sn,sn]:=⟨.agg #[.pointer none,ii 0,ii 0,ii 0,sn,sn],d_,z⟩
theorem Ii:Sz aa 260 6:=K_
theorem GG:Bd aa 263 #[.pointer none,ii 0,ii 0,ii 0,sn,sn] [(0,6)]:=⟨_,.agg #[.pointer none,ii 0,ii 0,ii 0,sn,sn],underlying263,d_,z,fun w=>d_⟩
theorem GH:Bd aa 264 #[.pointer none,ii 0,ii 0,ii 0,sn,sn] [(0,6)]:=⟨_,.agg #[.pointer none,ii 0,ii 0,ii 0,sn,sn],underlying264,d_,z,fun w=>d_⟩
theorem GI:Bd aa 265 #[.pointer none,ii 0,ii 0,ii 0,sn,sn] [(0,6)]:=⟨_,.agg #[.pointer none,ii 0,ii 0,ii 0,sn,sn],underlying265,d_,z,fun w=>d_⟩
theorem sT:(Tryz.prog.info? 261).bind (·.zero)=some .nilFunc:=d_
theorem vf:En aa 172:=⟨_,_,func172,d_,z⟩
theorem G1:En aa 169:=⟨_,_,func169,d_,z⟩
theorem G2:En aa 170:=⟨_,_,func170,d_,z⟩
theorem G3:En aa 171:=⟨_,_,func171,d_,z⟩
theorem Hg:En aa 227:=⟨_,_,func227,d_,z⟩
theorem Hh:En aa 228:=⟨_,_,func228,d_,z⟩
theorem Im:Zr aa 28 #[sn]:=⟨.slice none 0 0,d_,z⟩
theorem vB:Zr aa 33 #[sn,sn,sn]:=⟨.agg #[sn,sn,sn],d_,z⟩
theorem G4:En aa 173:=⟨_,_,func173,d_,z⟩
theorem zh:Bd aa 33 #[sn,sn,sn] [(0,1),(1,1),(2,1)]:=⟨_,.agg #[sn,sn,sn],underlying33,d_,z,fun w=>d_⟩
theorem sR:Sz aa 33 3:=K_
theorem zf:Ag aa 33 3:=⟨_,underlying33,z,d_⟩
theorem G5:En aa 174:=⟨_,_,func174,d_,z⟩
theorem pw:Fa aa 60 0 0:=⟨_,_,underlying60,z,z,0,d_⟩
theorem mo:Fa aa 60 1 1:=⟨_,_,underlying60,z,z,0,d_⟩
theorem sM:Fa aa 241 0 0:=⟨_,_,underlying241,z,z,2,d_⟩
theorem Ib:Fa aa 241 1 3:=⟨_,_,underlying241,z,z,0,d_⟩
theorem q9:Zr aa 60 #[ii 0,ii 0]:=⟨.agg #[ii 0,ii 0],d_,z⟩
theorem qT:Bd aa 60 #[ii 0,ii 0] [(0,1),(1,1)]:=⟨_,.agg #[ii 0,ii 0],underlying60,d_,z,fun w=>d_⟩
theorem lz:Sz aa 60 2:=K_
theorem gH:Ag aa 60 2:=⟨_,underlying60,z,d_⟩
theorem H9:En aa 69:=⟨_,_,func69,d_,z⟩
theorem GC:Bd aa 241 #[ii 0,ii 0,ii 0,ii 0] [(0,3),(3,1)]:=⟨_,.agg #[ii 0,ii 0,ii 0,ii 0],underlying241,d_,z,fun w=>d_⟩
theorem Ik:Zr aa 241 #[ii 0,ii 0,ii 0,ii 0]:=⟨.agg #[ii 0,ii 0,ii 0,ii 0],d_,z⟩
theorem Ih:Sz aa 241 4:=K_
theorem mm:Ag aa 241 4:=⟨_,underlying241,z,d_⟩
theorem pa:Bd aa 245 #[.nilFunc,ii 0] [(0,1),(1,1)]:=⟨_,.agg #[.nilFunc,ii 0],underlying245,d_,z,fun w=>d_⟩
theorem mw:Sl aa 246 245 2 16 (.agg #[.nilFunc,ii 0]):=ja underlying246 d_ z f_
theorem zj:En aa 149:=⟨_,_,func149,d_,z⟩
theorem zG:((#[246]:Array TypeId)[0]?).bind Tryz.prog.underlying=some (.slice 245):=iD underlying246
theorem o9:Ag aa 245 2:=⟨_,underlying245,z,d_⟩
theorem pC:Zr aa 245 #[.nilFunc,ii 0]:=⟨.agg #[.nilFunc,ii 0],d_,z⟩
theorem pB:Sz aa 245 2:=K_
theorem pj:Fa aa 245 0 0:=⟨_,_,underlying245,z,z,0,d_⟩
theorem px:Sc aa 243:=⟨_,underlying243,z⟩
theorem GM:En aa 150:=⟨_,_,func150,d_,z⟩
theorem pk:Fa aa 245 1 1:=⟨_,_,underlying245,z,z,0,d_⟩
theorem GN:En aa 151:=⟨_,_,func151,d_,z⟩
theorem GO:En aa 153:=⟨_,_,func153,d_,z⟩
theorem GP:En aa 154:=⟨_,_,func154,d_,z⟩
theorem GQ:En aa 155:=⟨_,_,func155,d_,z⟩
theorem GR:En aa 156:=⟨_,_,func156,d_,z⟩
def dh.f(a0:Int×Int×Int):Option (Int):=bif decide (a0.2.1<1)then(some 10)else(bif decide (a0.1≤a0.2.1)then(some 10)else(bif decide (255<a0.1)then(some 10)else(bif decide (a0.2.2<0)then(some 10)else(bif decide (255≤a0.2.2)then(some 10)else(some 0)))))
theorem dh.calls{w0:World}{a0:Int×Int×Int}{r:Int}(E:dh.f a0=some r):
 Calls aa 67 #[.agg #[ii a0.1,ii a0.2.1,ii a0.2.2]] w0 fun e w'=>e= .returned (.int .u16 r)∧St no w0 w' []:=by
 have H:=St.nil no w0
 unfold dh.f at E
 refine Zb func67 ?_
 refine rg (ye (bc (cs:=#[ii a0.1,ii a0.2.1,ii a0.2.2]) H z (fun b1 w H=>A_ ?_)))
 refine aE E z ?_ ?_<;>intro c2 E
 ·refine aA (ab (qo z c2 (A_ ?_)))
  cases E
  exact(bG (aL ⟨.inl z,_,tk0 z ⟨aB z (ad ai),z,H.bs⟩⟩))
 refine A_ ?_
 refine aE E z ?_ ?_<;>intro c3 E
 ·refine aA (ab (qo z c3 (A_ ?_)))
  cases E
  exact(bG (aL ⟨.inl z,_,tk0 z ⟨aB z (ad ai),z,H.bs⟩⟩))
 refine A_ ?_
 refine aE E z ?_ ?_<;>intro c4 E
 ·refine aA (ab (qo z c4 (A_ ?_)))
  cases E
  exact(bG (aL ⟨.inl z,_,tk0 z ⟨aB z (ad ai),z,H.bs⟩⟩))
 refine A_ ?_
 refine aE E z ?_ ?_<;>intro c5 E
 ·refine aA (ab (qo z c5 (A_ ?_)))
  cases E
  exact(bG (aL ⟨.inl z,_,tk0 z ⟨aB z (ad ai),z,H.bs⟩⟩))
 refine A_ ?_
 refine aE E z ?_ ?_<;>intro c6 E<;>refine A_ ?_
 ·cases E
  exact(bG (aL ⟨.inl z,_,tk0 z ⟨aB z (ad ai),z,H.bs⟩⟩))
 cases E
 exact⟨.inl z,_,tk0 z ⟨aB z (ad ai),z,H.bs⟩⟩
def gf.f(a0:Int×Int×Int):Option (Int):=(dh.f (a0.1,a0.2.1,a0.2.2)).bind fun x2=>bif !decide (x2=0)then(some 0)else(some (i64.wrap (a0.1-a0.2.1)))
theorem gf.calls{w0:World}{a0:Int×Int×Int}{r:Int}(E:gf.f a0=some r):
 Calls aa 152 #[.agg #[ii a0.1,ii a0.2.1,ii a0.2.2]] w0 fun e w'=>e= .returned (ii r)∧St no w0 w' []:=by
 have H:=St.nil no w0
 unfold gf.f at E
 refine Zb func152 ?_
 refine rg (ye (bc (cs:=#[ii a0.1,ii a0.2.1,ii a0.2.2]) H z (fun b1 w H=>A_ ?_)))
 refine vr (bp (l:=[ii a0.1,ii a0.2.1,ii a0.2.2]) cv (H.Gt 0 z) z z z) ?_
 refine ye (E9 jF H E (fun _=>dh.calls) (fun x2 E w H=>A_ ?_))
 refine aE E z ?_ ?_<;>intro c4 E<;>refine A_ ?_
 ·cases E
  exact(aL ⟨.inl z,_,tk0 z ⟨aB z (ad ai),z,H.bs⟩⟩)
 cases E
 exact⟨.inl z,_,tk0 z ⟨aB z (ad ai),z,H.bs⟩⟩
def eN.l0:Nat→List Int→Int→Option (Int)
 |0,_,_=>none
 |k+1,a0,x1=>bif decide (0≤x1)then(an (decide ((0:Int)≤x1∧x1<(a0.length:Int))) (bif !decide (at_ 0 a0 x1=0)then(some x1)else(eN.l0 k a0 (i64.wrap (x1-1)))))else(some (-1))
def eN.f(k:Nat)(a0:List Int):Option (Int):=eN.l0 k a0 (i64.wrap ((a0.length:Int)-1))
theorem eN.calls{w0:World}{k:Nat}{a0:List Int}{v0_:Value}{r:Int}(h0:Zf no w0 v0_ a0)(E:eN.f k a0=some r):
 Calls aa 252 #[v0_] w0 fun e w'=>e= .returned (ii r)∧St no w0 w' []:=by
 have H:=St.nil no w0
 unfold eN.f at E
 refine Zb func252 ?_
 have H:=H.mk0
 refine rg (ye (cr vA H (fun b1 w H=>A_ ?_)))
 refine ye (cm 4 [v0_] zt func264 z z z z (rg ?_))
 obtain⟨p6,n7,c8,rfl⟩:=eO h0
 refine ye (bc (cs:=#[(.slice p6 n7 c8)]) H z (fun b9 w H=>A_ ?_))
 refine vr (dt [pt b9] z) (A_ ?_)
 refine⟨.inl z,.func (.func 308) #[] #[pt b9],tk0 z ⟨ba z (ad ai) z,nl (aG (je 18 [pt b9] z func308 z z z z z H 0 z z (fun v1 b2 o1 w hO1 H=>?_)))⟩⟩
 have H:=H.mk0
 refine rg (ye (bc (cs:=#[.func (.yield b2) #[] #[]]) H z (fun b3 w H=>A_ ?_)))
 refine ye (cm 4 [(.slice p6 n7 c8)] vl func231 z z z z (rg (ye (bc (cs:=#[(.slice p6 n7 c8)]) H z (fun b4 w H=>?_)))))
 have H:St _ _ _ [_,_,_,_,_,_,_]:=H
 refine A_ ?_
 refine vr (dt [pt b4] z) (A_ ?_)
 refine⟨.inl z,.func (.func 283) #[] #[pt b4],tk0 z ⟨ba z (ad ai) z,nl (aG (je 19 [pt b4] z func283 z z z z z H 4 z z (fun v2 b5 o2 w hO2 H=>rg (vr (av bQ z (ak (H.Gt 6 z) z)) (vr (aY bI (H.rd h0) z) (vr (bV z z) (va (ii (i64.wrap ((a0.length:Int)-1))) (nl (aG ?_)))))))))⟩⟩
 refine bx (fun kk t w=>∃(x1:Int)(t1:Fr),kk≤k∧eN.l0 kk a0 x1=some r∧t=aU t1 [(0,.func (.yield b5) #[] #[]),(1,pt b4),(3,ii x1),Zc]∧St no w0 w [.bO v1,.blk b1 #[ii 0] 3,.blk b9 #[(.slice p6 n7 c8)] 22,.obj b2 (.loop o1),.bO v2,.blk b3 #[.func (.yield b2) #[] #[]] 367,.blk b4 #[(.slice p6 n7 c8)] 22,.obj b5 (.loop o2)]) k Ze ?_
 rintro kk t w ⟨x1,t1,hk1,E,rfl,H⟩
 obtain⟨k1,rfl⟩:=Zd kk
 rw[eN.l0]at E
 refine A_ ?_
 refine aE E z ?_ ?_<;>intro c1 E<;>refine A_ ?_
 ·obtain⟨⟨g1,g2⟩,E⟩:=ar E
  refine A_ ?_
  refine ye (jf [ii x1,iu (at_ 0 a0 x1)] z z H 7 z hO2 z z (A_ ?_))
  refine yB H 7 z hO2 (fun w H=>A_ ?_)
  rcases bR (!decide (at_ 0 a0 x1=0))with c2|c2
  ·have E:=iT c2 E
   refine A_ ?_
   refine dP z c2 z (jf [ii x1,iu (at_ 0 a0 x1)] z z H 3 z hO1 z z (A_ ?_))
   refine yB H 3 z hO1 (fun w H=>A_ ?_)
   refine s_ (cQ gJ H 1 z z z z z (fun w H=>nl (aj (bG (yR H 3 z (fun w H=>A_ ?_))))))
   refine bG (yR H 7 z (fun w H=>A_ ?_))
   refine bG (aL (aL (bG ⟨.inl z,.tuple #[],tk0 z ⟨ba z ai z,zO H 7 z (fun w H=>bG ⟨.inl z,.tuple #[],gT H 4 z z (fun w H=>⟨ba z ai z,zO H 3 z (fun w H=>?_)⟩)⟩)⟩⟩)))
   cases E
   exact(bG (aL ⟨.inl z,_,gT H 0 z z (fun w H=>⟨aB z (Df z bf (ak (H.Gt 1 z) z) ai),z,H.bs⟩)⟩))
  have E:=iF c2 E
  refine A_ ?_
  refine yN H 7 z hO2 (fun w H=>A_ ?_)
  exact⟨k1,bL _,_,_,bK hk1,E,Za,H⟩
 refine⟨.inr z,.tuple #[],tk0 z ⟨ba z ai z,ji H 7 z hO2 (fun w H=>aR (⟨.inr z,.tuple #[],gT H 4 z z (fun w H=>⟨ba z ai z,ji H 3 z hO1 (fun w H=>aR (ab (rg (s_ (cQ gJ H 1 z z z z z (fun w H=>nl (aj ?_)))))))⟩)⟩))⟩⟩
 cases E
 exact⟨.inl z,_,gT H 0 z z (fun w H=>⟨aB z (Df z bf (ak (H.Gt 1 z) z) ai),z,H.bs⟩)⟩
def dM.f(a0:List Int):Option (List Int):=an (decide (a0.length*1≤140737488355328)) (some a0)
theorem dM.calls{w0:World}{a0:List (Int)}{v0_:Value}{r:List (Int)}(h0:Zf no w0 v0_ a0)(E:dM.f a0=some r):
 Calls aa 117 #[v0_] w0 fun e w'=>∃u0:Value,e= .returned (u0)∧St no w0 w' [Y9 u0 r]:=by
 have H:=St.nil no w0
 unfold dM.f at E
 obtain⟨g1,E⟩:=ar E
 cases E
 obtain⟨p,c,rfl,h2,h3,h4⟩:=id h0
 cases p with
 |none=>
  obtain rfl:a0=[]:=by
   rcases h4 with⟨h,_,_⟩|⟨b,o,h,_⟩
   ·exact h
   cases h
  refine Zb func117 ?_
  refine A_ ?_
  refine vr (CJ underlying22 z z) (nl (qo z z (A_ ?_)))
  have H:=H.bB (.int .u8) 5
  refine A_ ?_
  exact aL ⟨.inl z,_,tk0 z ⟨aB z (ad ai),_,z,H.bA 0 z⟩⟩
 |some p=>
  refine Zb func117 ?_
  refine A_ ?_
  refine vr (CJ underlying22 z z) (nl (QB z z (A_ ?_)))
  refine ye (QV (e:=(.int .u8)) aN H (fun v1 w H=>A_ ?_))
  refine ye (dZ aN H 0 z (H.rd h0) z z (by simpa using g1) (by unfold maxLen;simp;omega) (fun v2 w H=>va v2 (nl ?_)))
  rw[ψ]at H
  refine aj ?_
  exact⟨.inl z,_,tk0 z ⟨aB z (ad ai),_,z,H.bA 0 z⟩⟩
def cX.f(k:Nat)(a0:List Int):Option (List Int):=(eN.f k a0).bind fun x1=>an (decide ((0:Int)≤i64.wrap (x1+1)∧i64.wrap (x1+1)≤(a0.length:Int))) ((dM.f ((a0.take ((i64.wrap (x1+1)).toNat)).drop 0)).bind fun x8=>some x8)
theorem cX.calls{w0:World}{k:Nat}{a0:List Int}{v0_:Value}{r:List Int}(h0:Zf no w0 v0_ a0)(E:cX.f k a0=some r):
 Calls aa 254 #[v0_] w0 fun e w'=>∃(u0:Value),e= .returned (u0)∧St no w0 w' [Y9 u0 r]:=by
 have H:=St.nil no w0
 unfold cX.f at E
 refine Zb func254 ?_
 refine A_ ?_
 refine ye (E9 qW H E (fun _=>eN.calls (H.arg (H.rd h0))) (fun x1 E w H=>A_ ?_))
 obtain⟨⟨g3,g4⟩,E⟩:=ar E
 have p6:0≤(i64.wrap (x1+1)).toNat:=a_
 have p7:(i64.wrap (x1+1)).toNat≤a0.length:=a_
 refine vr (fU aN (H.rd h0) z z g3 g4) ?_
 refine ye (YM nD H E (fun _=>dM.calls (H.arg (Rd.bz (H.rd h0) p6 p7))) (fun x8 E v1 w H=>A_ ?_))
 cases E
 exact⟨.inl z,_,tk0 z ⟨aB z (ad ai),_,z,H.bA 0 z⟩⟩
def rE.f(a0 a1:Int):Option (Int×Int):=some (u64.wrap (u64.wrap (u64.wrap (Int.fdiv a0 (2^min (32:Int).toNat 64)*Int.fdiv a1 (2^min (32:Int).toNat 64))+Int.fdiv (u64.wrap (u64.wrap (Int.fdiv a0 (2^min (32:Int).toNat 64)*bits .and .u64 a1 4294967295)+Int.fdiv (u64.wrap (bits .and .u64 a0 4294967295*bits .and .u64 a1 4294967295)) (2^min (32:Int).toNat 64))) (2^min (32:Int).toNat 64))+Int.fdiv (u64.wrap (bits .and .u64 (u64.wrap (u64.wrap (Int.fdiv a0 (2^min (32:Int).toNat 64)*bits .and .u64 a1 4294967295)+Int.fdiv (u64.wrap (bits .and .u64 a0 4294967295*bits .and .u64 a1 4294967295)) (2^min (32:Int).toNat 64))) 4294967295+u64.wrap (bits .and .u64 a0 4294967295*Int.fdiv a1 (2^min (32:Int).toNat 64)))) (2^min (32:Int).toNat 64)),u64.wrap (a0*a1))
theorem rE.calls{w0:World}{a0 a1:Int}{r:Int×Int}(E:rE.f a0 a1=some r):
 Calls aa 353 #[.int .u64 a0,.int .u64 a1] w0 fun e w'=>e= .returned (.tuple #[.int .u64 r.1,.int .u64 r.2])∧St no w0 w' []:=by
 have H:=St.nil no w0
 unfold rE.f at E
 refine Zb func353 ?_
 refine A_ ?_
 cases E
 exact⟨.inl z,_,tk0 z ⟨aB z (ad (ad ai)),z,H.bs⟩⟩
end Go.Proofs.YtmhkpafkadijgaaGreatDoor.Gw
