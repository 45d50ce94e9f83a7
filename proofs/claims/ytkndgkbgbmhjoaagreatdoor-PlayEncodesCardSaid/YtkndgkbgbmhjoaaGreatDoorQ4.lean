/- The card of the law that what a desk encodes is read back from what it tells: a part of its proof. The conditions are those of the statement. -/
import Derived.Test.YtkndgkbgbmhjoaaGreatDoorQ3
import Derived.Test.YtkndgkbgbmhjoaaGreatDoorProg
namespace Go.Proofs.YtkndgkbgbmhjoaaGreatDoor.Gw
open Go Go.RowKit
set_option linter.unusedVariables false
set_option linter.unusedSimpArgs false
set_option linter.unusedSectionVars false
variable [LibO]
set_option linter.unnecessarySimpa false
set_option maxRecDepth 100000
set_option maxHeartbeats 4000000
open Go.IntKind (i8 i16 i32 i64 u8 u16 u32 u64)
theorem e_sl_22 : Sl Tryz.prog 22 5 1 1 (.int .u8 0):=sl_of Tryz.underlying22 (by kernel_rfl) z (by decide)
theorem e_fa_24_1 : Fa Tryz.prog 24 1 1:=⟨_,_,Tryz.underlying24,z,z,0,by kernel_rfl⟩
theorem e_sc_3 : Sc Tryz.prog 3:=⟨_,Tryz.underlying3,z⟩
theorem e_fa_24_0 : Fa Tryz.prog 24 0 0:=⟨_,_,Tryz.underlying24,z,z,0,by kernel_rfl⟩
theorem e_fa_24_2 : Fa Tryz.prog 24 2 2:=⟨_,_,Tryz.underlying24,z,z,0,by kernel_rfl⟩
theorem e_ag_24 : Ag Tryz.prog 24 3:=⟨_,Tryz.underlying24,z,by kernel_rfl⟩
theorem e_en_38 : En Tryz.prog 38:=⟨_,_,Tryz.func38,by kernel_rfl,z⟩
theorem e_zr_3 : Zr Tryz.prog 3 #[.int .i64 0]:=⟨.int .i64 0,by kernel_rfl,z⟩
theorem e_en_232 : En Tryz.prog 232:=⟨_,_,Tryz.func232,by kernel_rfl,z⟩
theorem e_sc_22 : Sc Tryz.prog 22:=⟨_,Tryz.underlying22,z⟩
theorem e_en_194 : En Tryz.prog 194:=⟨_,_,Tryz.func194,by kernel_rfl,z⟩
theorem e_ul_22 : ((#[22] : Array TypeId)[0]?).bind Tryz.prog.underlying = some (.slice 5):=bind_ul Tryz.underlying22
theorem e_sc_5 : Sc Tryz.prog 5:=⟨_,Tryz.underlying5,z⟩
theorem e_sc_337 : Sc Tryz.prog 337:=⟨_,Tryz.underlying337,z⟩
theorem e_sz_3 : Sz Tryz.prog 3 1:=by show _ = _; kernel_rfl
theorem e_en_220 : En Tryz.prog 220:=⟨_,_,Tryz.func220,by kernel_rfl,z⟩
theorem e_en_84 : En Tryz.prog 84:=⟨_,_,Tryz.func84,by kernel_rfl,z⟩
theorem e_en_323 : En Tryz.prog 323:=⟨_,_,Tryz.func323,by kernel_rfl,z⟩
theorem e_en_303 : En Tryz.prog 303:=⟨_,_,Tryz.func303,by kernel_rfl,z⟩
theorem e_mo : Tryz.prog.follows .mixedOrders = true:=by kernel_rfl
theorem e_en_271 : En Tryz.prog 271:=⟨_,_,Tryz.func271,by kernel_rfl,z⟩
theorem e_en_248 : En Tryz.prog 248:=⟨_,_,Tryz.func248,by kernel_rfl,z⟩
theorem e_en_221 : En Tryz.prog 221:=⟨_,_,Tryz.func221,by kernel_rfl,z⟩
theorem e_en_222 : En Tryz.prog 222:=⟨_,_,Tryz.func222,by kernel_rfl,z⟩
theorem e_en_195 : En Tryz.prog 195:=⟨_,_,Tryz.func195,by kernel_rfl,z⟩
theorem e_sz_5 : Sz Tryz.prog 5 1:=by show _ = _; kernel_rfl
theorem e_en_223 : En Tryz.prog 223:=⟨_,_,Tryz.func223,by kernel_rfl,z⟩
theorem e_en_172 : En Tryz.prog 172:=⟨_,_,Tryz.func172,by kernel_rfl,z⟩
theorem e_zr_22 : Zr Tryz.prog 22 #[.slice none 0 0]:=⟨.slice none 0 0,by kernel_rfl,z⟩
theorem e_sz_22 : Sz Tryz.prog 22 1:=by show _ = _; kernel_rfl
theorem e_en_196 : En Tryz.prog 196:=⟨_,_,Tryz.func196,by kernel_rfl,z⟩
theorem e_sc_79 : Sc Tryz.prog 79:=⟨_,Tryz.underlying79,z⟩
theorem e_en_197 : En Tryz.prog 197:=⟨_,_,Tryz.func197,by kernel_rfl,z⟩
theorem e_en_113 : En Tryz.prog 113:=⟨_,_,Tryz.func113,by kernel_rfl,z⟩
theorem e_en_140 : En Tryz.prog 140:=⟨_,_,Tryz.func140,by kernel_rfl,z⟩
theorem e_en_139 : En Tryz.prog 139:=⟨_,_,Tryz.func139,by kernel_rfl,z⟩
theorem e_en_180 : En Tryz.prog 180:=⟨_,_,Tryz.func180,by kernel_rfl,z⟩
theorem e_en_79 : En Tryz.prog 79:=⟨_,_,Tryz.func79,by kernel_rfl,z⟩
theorem e_en_173 : En Tryz.prog 173:=⟨_,_,Tryz.func173,by kernel_rfl,z⟩
theorem e_bd_205 : Bd Tryz.prog 205 #[.nilFunc,.int .u16 0] [(0,1),(1,1)]:=⟨_,.agg #[.nilFunc,.int .u16 0],Tryz.underlying205,by kernel_rfl,z,fun w=>by kernel_rfl⟩
theorem e_sl_206 : Sl Tryz.prog 206 205 2 16 (.agg #[.nilFunc,.int .u16 0]):=sl_of Tryz.underlying206 (by kernel_rfl) z (by decide)
theorem e_en_118 : En Tryz.prog 118:=⟨_,_,Tryz.func118,by kernel_rfl,z⟩
theorem e_ul_206 : ((#[206] : Array TypeId)[0]?).bind Tryz.prog.underlying = some (.slice 205):=bind_ul Tryz.underlying206
theorem e_ag_205 : Ag Tryz.prog 205 2:=⟨_,Tryz.underlying205,z,by kernel_rfl⟩
theorem e_zr_205 : Zr Tryz.prog 205 #[.nilFunc,.int .u16 0]:=⟨.agg #[.nilFunc,.int .u16 0],by kernel_rfl,z⟩
theorem e_sz_205 : Sz Tryz.prog 205 2:=by show _ = _; kernel_rfl
theorem e_fa_205_0 : Fa Tryz.prog 205 0 0:=⟨_,_,Tryz.underlying205,z,z,0,by kernel_rfl⟩
theorem e_sc_30 : Sc Tryz.prog 30:=⟨_,Tryz.underlying30,z⟩
theorem e_en_119 : En Tryz.prog 119:=⟨_,_,Tryz.func119,by kernel_rfl,z⟩
theorem e_fa_205_1 : Fa Tryz.prog 205 1 1:=⟨_,_,Tryz.underlying205,z,z,0,by kernel_rfl⟩
theorem e_sc_93 : Sc Tryz.prog 93:=⟨_,Tryz.underlying93,z⟩
theorem e_en_120 : En Tryz.prog 120:=⟨_,_,Tryz.func120,by kernel_rfl,z⟩
theorem e_en_122 : En Tryz.prog 122:=⟨_,_,Tryz.func122,by kernel_rfl,z⟩
theorem e_en_121 : En Tryz.prog 121:=⟨_,_,Tryz.func121,by kernel_rfl,z⟩
theorem e_zr_5 : Zr Tryz.prog 5 #[.int .u8 0]:=⟨.int .u8 0,by kernel_rfl,z⟩
theorem e_en_137 : En Tryz.prog 137:=⟨_,_,Tryz.func137,by kernel_rfl,z⟩
theorem e_en_138 : En Tryz.prog 138:=⟨_,_,Tryz.func138,by kernel_rfl,z⟩
theorem e_en_78 : En Tryz.prog 78:=⟨_,_,Tryz.func78,by kernel_rfl,z⟩
theorem e_ul_45 : ((#[45] : Array TypeId)[0]?).bind Tryz.prog.underlying = some (.slice 3):=bind_ul Tryz.underlying45
theorem e_sl_45 : Sl Tryz.prog 45 3 1 8 (.int .i64 0):=sl_of Tryz.underlying45 (by kernel_rfl) z (by decide)
theorem e_fa_218_0 : Fa Tryz.prog 218 0 0:=⟨_,_,Tryz.underlying218,z,z,0,by kernel_rfl⟩
theorem e_fa_218_1 : Fa Tryz.prog 218 1 1:=⟨_,_,Tryz.underlying218,z,z,2,by kernel_rfl⟩
theorem e_fa_218_2 : Fa Tryz.prog 218 2 4:=⟨_,_,Tryz.underlying218,z,z,0,by kernel_rfl⟩
theorem e_en_47 : En Tryz.prog 47:=⟨_,_,Tryz.func47,by kernel_rfl,z⟩
theorem e_fa_218_3 : Fa Tryz.prog 218 3 5:=⟨_,_,Tryz.underlying218,z,z,0,by kernel_rfl⟩
theorem e_sc_45 : Sc Tryz.prog 45:=⟨_,Tryz.underlying45,z⟩
theorem e_en_228 : En Tryz.prog 228:=⟨_,_,Tryz.func228,by kernel_rfl,z⟩
theorem e_en_229 : En Tryz.prog 229:=⟨_,_,Tryz.func229,by kernel_rfl,z⟩
theorem e_en_238 : En Tryz.prog 238:=⟨_,_,Tryz.func238,by kernel_rfl,z⟩
theorem e_ul_154 : ((#[154] : Array TypeId)[0]?).bind Tryz.prog.underlying = some (.slice 22):=bind_ul Tryz.underlying154
theorem e_sl_154 : Sl Tryz.prog 154 22 1 24 (.slice none 0 0):=sl_of Tryz.underlying154 (by kernel_rfl) z (by decide)
theorem e_zr_321 : Zr Tryz.prog 321 #[.slice none 0 0,.int .i64 0,.slice none 0 0,.int .u8 0,.int .i64 0]:=⟨.agg #[.slice none 0 0,.int .i64 0,.slice none 0 0,.int .u8 0,.int .i64 0],by kernel_rfl,z⟩
theorem e_en_186 : En Tryz.prog 186:=⟨_,_,Tryz.func186,by kernel_rfl,z⟩
theorem e_fa_321_0 : Fa Tryz.prog 321 0 0:=⟨_,_,Tryz.underlying321,z,z,0,by kernel_rfl⟩
theorem e_fa_321_4 : Fa Tryz.prog 321 4 4:=⟨_,_,Tryz.underlying321,z,z,0,by kernel_rfl⟩
theorem e_fa_321_1 : Fa Tryz.prog 321 1 1:=⟨_,_,Tryz.underlying321,z,z,0,by kernel_rfl⟩
theorem e_sz_321 : Sz Tryz.prog 321 5:=by show _ = _; kernel_rfl
theorem e_bd_321 : Bd Tryz.prog 321 #[.slice none 0 0,.int .i64 0,.slice none 0 0,.int .u8 0,.int .i64 0] [(0,1),(1,1),(2,1),(3,1),(4,1)]:=⟨_,.agg #[.slice none 0 0,.int .i64 0,.slice none 0 0,.int .u8 0,.int .i64 0],Tryz.underlying321,by kernel_rfl,z,fun w=>by kernel_rfl⟩
theorem e_en_230 : En Tryz.prog 230:=⟨_,_,Tryz.func230,by kernel_rfl,z⟩
theorem e_en_127 : En Tryz.prog 127:=⟨_,_,Tryz.func127,by kernel_rfl,z⟩
theorem e_en_177 : En Tryz.prog 177:=⟨_,_,Tryz.func177,by kernel_rfl,z⟩
theorem e_en_126 : En Tryz.prog 126:=⟨_,_,Tryz.func126,by kernel_rfl,z⟩
theorem e_en_128 : En Tryz.prog 128:=⟨_,_,Tryz.func128,by kernel_rfl,z⟩
theorem e_en_319 : En Tryz.prog 319:=⟨_,_,Tryz.func319,by kernel_rfl,z⟩
theorem e_en_343 : En Tryz.prog 343:=⟨_,_,Tryz.func343,by kernel_rfl,z⟩
theorem e_en_320 : En Tryz.prog 320:=⟨_,_,Tryz.func320,by kernel_rfl,z⟩
theorem e_en_241 : En Tryz.prog 241:=⟨_,_,Tryz.func241,by kernel_rfl,z⟩
theorem e_en_192 : En Tryz.prog 192:=⟨_,_,Tryz.func192,by kernel_rfl,z⟩
theorem e_en_185 : En Tryz.prog 185:=⟨_,_,Tryz.func185,by kernel_rfl,z⟩
theorem e_ba_381 : Ba Tryz.prog 381 4 1 #[.nilFunc,.nilFunc,.nilFunc,.nilFunc]:=⟨_,.agg #[.nilFunc,.nilFunc,.nilFunc,.nilFunc],Tryz.underlying381,by kernel_rfl,z,by kernel_rfl,e_sc_30⟩
theorem e_en_290 : En Tryz.prog 290:=⟨_,_,Tryz.func290,by kernel_rfl,z⟩
theorem e_en_291 : En Tryz.prog 291:=⟨_,_,Tryz.func291,by kernel_rfl,z⟩
theorem e_en_73 : En Tryz.prog 73:=⟨_,_,Tryz.func73,by kernel_rfl,z⟩
theorem e_en_292 : En Tryz.prog 292:=⟨_,_,Tryz.func292,by kernel_rfl,z⟩
theorem e_en_293 : En Tryz.prog 293:=⟨_,_,Tryz.func293,by kernel_rfl,z⟩
theorem e_en_294 : En Tryz.prog 294:=⟨_,_,Tryz.func294,by kernel_rfl,z⟩
theorem e_en_296 : En Tryz.prog 296:=⟨_,_,Tryz.func296,by kernel_rfl,z⟩
theorem e_en_295 : En Tryz.prog 295:=⟨_,_,Tryz.func295,by kernel_rfl,z⟩
theorem e_en_247 : En Tryz.prog 247:=⟨_,_,Tryz.func247,by kernel_rfl,z⟩
theorem e_en_279 : En Tryz.prog 279:=⟨_,_,Tryz.func279,by kernel_rfl,z⟩
theorem e_en_147 : En Tryz.prog 147:=⟨_,_,Tryz.func147,by kernel_rfl,z⟩
theorem e_en_200 : En Tryz.prog 200:=⟨_,_,Tryz.func200,by kernel_rfl,z⟩
theorem e_sz_45 : Sz Tryz.prog 45 1:=by show _ = _; kernel_rfl
theorem e_en_240 : En Tryz.prog 240:=⟨_,_,Tryz.func240,by kernel_rfl,z⟩
theorem e_en_280 : En Tryz.prog 280:=⟨_,_,Tryz.func280,by kernel_rfl,z⟩
theorem e_en_233 : En Tryz.prog 233:=⟨_,_,Tryz.func233,by kernel_rfl,z⟩
theorem e_en_234 : En Tryz.prog 234:=⟨_,_,Tryz.func234,by kernel_rfl,z⟩
theorem e_ag_218 : Ag Tryz.prog 218 6:=⟨_,Tryz.underlying218,z,by kernel_rfl⟩
theorem e_en_235 : En Tryz.prog 235:=⟨_,_,Tryz.func235,by kernel_rfl,z⟩
theorem e_en_188 : En Tryz.prog 188:=⟨_,_,Tryz.func188,by kernel_rfl,z⟩
theorem e_en_236 : En Tryz.prog 236:=⟨_,_,Tryz.func236,by kernel_rfl,z⟩
theorem e_fa_221_0 : Fa Tryz.prog 221 0 0:=⟨_,_,Tryz.underlying221,z,z,5,by kernel_rfl⟩
theorem e_en_178 : En Tryz.prog 178:=⟨_,_,Tryz.func178,by kernel_rfl,z⟩
theorem e_en_179 : En Tryz.prog 179:=⟨_,_,Tryz.func179,by kernel_rfl,z⟩
theorem e_en_182 : En Tryz.prog 182:=⟨_,_,Tryz.func182,by kernel_rfl,z⟩
theorem e_en_181 : En Tryz.prog 181:=⟨_,_,Tryz.func181,by kernel_rfl,z⟩
theorem e_fa_222_0 : Fa Tryz.prog 222 0 0:=⟨_,_,Tryz.underlying222,z,z,5,by kernel_rfl⟩
theorem e_en_183 : En Tryz.prog 183:=⟨_,_,Tryz.func183,by kernel_rfl,z⟩
def e_str0 : ByteArray:=⟨#[0,1,2,2,3,3,3,3,4,4,4,4,4,4,4,4,5,5,5,5,5,5,5,5,5,5,5,5,5,5,5,5,6,6,6,6,6,6,6,6,6,6,6,6,6,6,6,6,6,6,6,6,6,6,6,6,6,6,6,6,6,6,6,6,7,7,7,7,7,7,7,7,7,7,7,7,7,7,7,7,7,7,7,7,7,7,7,7,7,7,7,7,7,7,7,7,7,7,7,7,7,7,7,7,7,7,7,7,7,7,7,7,7,7,7,7,7,7,7,7,7,7,7,7,7,7,7,7,8,8,8,8,8,8,8,8,8,8,8,8,8,8,8,8,8,8,8,8,8,8,8,8,8,8,8,8,8,8,8,8,8,8,8,8,8,8,8,8,8,8,8,8,8,8,8,8,8,8,8,8,8,8,8,8,8,8,8,8,8,8,8,8,8,8,8,8,8,8,8,8,8,8,8,8,8,8,8,8,8,8,8,8,8,8,8,8,8,8,8,8,8,8,8,8,8,8,8,8,8,8,8,8,8,8,8,8,8,8,8,8,8,8,8,8,8,8,8,8,8,8,8,8,8,8,8,8]⟩
theorem e_en_211 : En Tryz.prog 211:=⟨_,_,Tryz.func211,by kernel_rfl,z⟩
theorem e_en_347 : En Tryz.prog 347:=⟨_,_,Tryz.func347,by kernel_rfl,z⟩
theorem e_en_337 : En Tryz.prog 337:=⟨_,_,Tryz.func337,by kernel_rfl,z⟩
theorem e_en_202 : En Tryz.prog 202:=⟨_,_,Tryz.func202,by kernel_rfl,z⟩
theorem e_en_331 : En Tryz.prog 331:=⟨_,_,Tryz.func331,by kernel_rfl,z⟩
theorem e_en_316 : En Tryz.prog 316:=⟨_,_,Tryz.func316,by kernel_rfl,z⟩
theorem e_en_340 : En Tryz.prog 340:=⟨_,_,Tryz.func340,by kernel_rfl,z⟩
theorem e_en_317 : En Tryz.prog 317:=⟨_,_,Tryz.func317,by kernel_rfl,z⟩
theorem e_zr_374 : Zr Tryz.prog 374 #[.int .i64 0,.int .i64 0,.slice none 0 0]:=⟨.agg #[.int .i64 0,.int .i64 0,.slice none 0 0],by kernel_rfl,z⟩
theorem e_bd_374 : Bd Tryz.prog 374 #[.int .i64 0,.int .i64 0,.slice none 0 0] [(0,1),(1,1),(2,1)]:=⟨_,.agg #[.int .i64 0,.int .i64 0,.slice none 0 0],Tryz.underlying374,by kernel_rfl,z,fun w=>by kernel_rfl⟩
theorem e_sz_374 : Sz Tryz.prog 374 3:=by show _ = _; kernel_rfl
theorem e_fa_374_0 : Fa Tryz.prog 374 0 0:=⟨_,_,Tryz.underlying374,z,z,0,by kernel_rfl⟩
theorem e_fa_374_1 : Fa Tryz.prog 374 1 1:=⟨_,_,Tryz.underlying374,z,z,0,by kernel_rfl⟩
theorem e_ag_374 : Ag Tryz.prog 374 3:=⟨_,Tryz.underlying374,z,by kernel_rfl⟩
theorem e_fa_374_2 : Fa Tryz.prog 374 2 2:=⟨_,_,Tryz.underlying374,z,z,0,by kernel_rfl⟩
theorem e_en_348 : En Tryz.prog 348:=⟨_,_,Tryz.func348,by kernel_rfl,z⟩
theorem e_en_341 : En Tryz.prog 341:=⟨_,_,Tryz.func341,by kernel_rfl,z⟩
theorem e_en_342 : En Tryz.prog 342:=⟨_,_,Tryz.func342,by kernel_rfl,z⟩
theorem e_bd_421 : Bd Tryz.prog 421 #[.int .i64 0,.int .i64 0,.slice none 0 0,.pointer none,.slice none 0 0] [(0,3),(3,1),(4,1)]:=⟨_,.agg #[.int .i64 0,.int .i64 0,.slice none 0 0,.pointer none,.slice none 0 0],Tryz.underlying421,by kernel_rfl,z,fun w=>by kernel_rfl⟩
theorem e_fa_421_0 : Fa Tryz.prog 421 0 0:=⟨_,_,Tryz.underlying421,z,z,2,by kernel_rfl⟩
theorem e_en_349 : En Tryz.prog 349:=⟨_,_,Tryz.func349,by kernel_rfl,z⟩
theorem e_fa_421_2 : Fa Tryz.prog 421 2 4:=⟨_,_,Tryz.underlying421,z,z,0,by kernel_rfl⟩
theorem e_en_351 : En Tryz.prog 351:=⟨_,_,Tryz.func351,by kernel_rfl,z⟩
theorem e_en_352 : En Tryz.prog 352:=⟨_,_,Tryz.func352,by kernel_rfl,z⟩
theorem e_en_353 : En Tryz.prog 353:=⟨_,_,Tryz.func353,by kernel_rfl,z⟩
theorem e_fa_421_1 : Fa Tryz.prog 421 1 3:=⟨_,_,Tryz.underlying421,z,z,0,by kernel_rfl⟩
theorem e_en_318 : En Tryz.prog 318:=⟨_,_,Tryz.func318,by kernel_rfl,z⟩
theorem e_zr_333 : Zr Tryz.prog 333 #[.slice none 0 0,.bool false]:=⟨.agg #[.slice none 0 0,.bool false],by kernel_rfl,z⟩
theorem e_en_285 : En Tryz.prog 285:=⟨_,_,Tryz.func285,by kernel_rfl,z⟩
theorem e_en_286 : En Tryz.prog 286:=⟨_,_,Tryz.func286,by kernel_rfl,z⟩
theorem e_en_287 : En Tryz.prog 287:=⟨_,_,Tryz.func287,by kernel_rfl,z⟩
theorem e_bd_333 : Bd Tryz.prog 333 #[.slice none 0 0,.bool false] [(0,1),(1,1)]:=⟨_,.agg #[.slice none 0 0,.bool false],Tryz.underlying333,by kernel_rfl,z,fun w=>by kernel_rfl⟩
theorem e_sz_333 : Sz Tryz.prog 333 2:=by show _ = _; kernel_rfl
theorem e_ag_333 : Ag Tryz.prog 333 2:=⟨_,Tryz.underlying333,z,by kernel_rfl⟩
theorem e_en_288 : En Tryz.prog 288:=⟨_,_,Tryz.func288,by kernel_rfl,z⟩
theorem e_en_289 : En Tryz.prog 289:=⟨_,_,Tryz.func289,by kernel_rfl,z⟩
theorem e_en_244 : En Tryz.prog 244:=⟨_,_,Tryz.func244,by kernel_rfl,z⟩
theorem e_en_243 : En Tryz.prog 243:=⟨_,_,Tryz.func243,by kernel_rfl,z⟩
theorem e_en_282 : En Tryz.prog 282:=⟨_,_,Tryz.func282,by kernel_rfl,z⟩
theorem e_en_315 : En Tryz.prog 315:=⟨_,_,Tryz.func315,by kernel_rfl,z⟩
theorem e_en_283 : En Tryz.prog 283:=⟨_,_,Tryz.func283,by kernel_rfl,z⟩
theorem e_en_242 : En Tryz.prog 242:=⟨_,_,Tryz.func242,by kernel_rfl,z⟩
theorem e_en_245 : En Tryz.prog 245:=⟨_,_,Tryz.func245,by kernel_rfl,z⟩
theorem e_fa_333_1 : Fa Tryz.prog 333 1 1:=⟨_,_,Tryz.underlying333,z,z,0,by kernel_rfl⟩
theorem e_sc_4 : Sc Tryz.prog 4:=⟨_,Tryz.underlying4,z⟩
theorem e_fa_333_0 : Fa Tryz.prog 333 0 0:=⟨_,_,Tryz.underlying333,z,z,0,by kernel_rfl⟩
theorem e_en_246 : En Tryz.prog 246:=⟨_,_,Tryz.func246,by kernel_rfl,z⟩
theorem e_en_184 : En Tryz.prog 184:=⟨_,_,Tryz.func184,by kernel_rfl,z⟩
theorem e_fa_223_0 : Fa Tryz.prog 223 0 0:=⟨_,_,Tryz.underlying223,z,z,5,by kernel_rfl⟩
theorem e_en_187 : En Tryz.prog 187:=⟨_,_,Tryz.func187,by kernel_rfl,z⟩
theorem e_en_189 : En Tryz.prog 189:=⟨_,_,Tryz.func189,by kernel_rfl,z⟩
theorem e_bd_218 : Bd Tryz.prog 218 #[.pointer none,.int .i64 0,.int .i64 0,.int .i64 0,.slice none 0 0,.slice none 0 0] [(0,1),(1,3),(4,1),(5,1)]:=⟨_,.agg #[.pointer none,.int .i64 0,.int .i64 0,.int .i64 0,.slice none 0 0,.slice none 0 0],Tryz.underlying218,by kernel_rfl,z,fun w=>by kernel_rfl⟩
theorem e_zr_218 : Zr Tryz.prog 218 #[.pointer none,.int .i64 0,.int .i64 0,.int .i64 0,.slice none 0 0,.slice none 0 0]:=⟨.agg #[.pointer none,.int .i64 0,.int .i64 0,.int .i64 0,.slice none 0 0,.slice none 0 0],by kernel_rfl,z⟩
theorem e_sz_218 : Sz Tryz.prog 218 6:=by show _ = _; kernel_rfl
theorem e_bd_221 : Bd Tryz.prog 221 #[.pointer none,.int .i64 0,.int .i64 0,.int .i64 0,.slice none 0 0,.slice none 0 0] [(0,6)]:=⟨_,.agg #[.pointer none,.int .i64 0,.int .i64 0,.int .i64 0,.slice none 0 0,.slice none 0 0],Tryz.underlying221,by kernel_rfl,z,fun w=>by kernel_rfl⟩
theorem e_bd_222 : Bd Tryz.prog 222 #[.pointer none,.int .i64 0,.int .i64 0,.int .i64 0,.slice none 0 0,.slice none 0 0] [(0,6)]:=⟨_,.agg #[.pointer none,.int .i64 0,.int .i64 0,.int .i64 0,.slice none 0 0,.slice none 0 0],Tryz.underlying222,by kernel_rfl,z,fun w=>by kernel_rfl⟩
theorem e_bd_223 : Bd Tryz.prog 223 #[.pointer none,.int .i64 0,.int .i64 0,.int .i64 0,.slice none 0 0,.slice none 0 0] [(0,6)]:=⟨_,.agg #[.pointer none,.int .i64 0,.int .i64 0,.int .i64 0,.slice none 0 0,.slice none 0 0],Tryz.underlying223,by kernel_rfl,z,fun w=>by kernel_rfl⟩
theorem e_zf_219 : (Tryz.prog.info? 219).bind (·.zero) = some .nilFunc:=by kernel_rfl
theorem e_en_133 : En Tryz.prog 133:=⟨_,_,Tryz.func133,by kernel_rfl,z⟩
theorem e_en_130 : En Tryz.prog 130:=⟨_,_,Tryz.func130,by kernel_rfl,z⟩
theorem e_en_131 : En Tryz.prog 131:=⟨_,_,Tryz.func131,by kernel_rfl,z⟩
theorem e_en_132 : En Tryz.prog 132:=⟨_,_,Tryz.func132,by kernel_rfl,z⟩
theorem e_en_190 : En Tryz.prog 190:=⟨_,_,Tryz.func190,by kernel_rfl,z⟩
theorem e_en_191 : En Tryz.prog 191:=⟨_,_,Tryz.func191,by kernel_rfl,z⟩
theorem e_zr_45 : Zr Tryz.prog 45 #[.slice none 0 0]:=⟨.slice none 0 0,by kernel_rfl,z⟩
theorem e_zr_101 : Zr Tryz.prog 101 #[.slice none 0 0,.slice none 0 0,.slice none 0 0]:=⟨.agg #[.slice none 0 0,.slice none 0 0,.slice none 0 0],by kernel_rfl,z⟩
theorem e_en_134 : En Tryz.prog 134:=⟨_,_,Tryz.func134,by kernel_rfl,z⟩
theorem e_bd_101 : Bd Tryz.prog 101 #[.slice none 0 0,.slice none 0 0,.slice none 0 0] [(0,1),(1,1),(2,1)]:=⟨_,.agg #[.slice none 0 0,.slice none 0 0,.slice none 0 0],Tryz.underlying101,by kernel_rfl,z,fun w=>by kernel_rfl⟩
theorem e_sz_101 : Sz Tryz.prog 101 3:=by show _ = _; kernel_rfl
theorem e_ag_101 : Ag Tryz.prog 101 3:=⟨_,Tryz.underlying101,z,by kernel_rfl⟩
theorem e_en_135 : En Tryz.prog 135:=⟨_,_,Tryz.func135,by kernel_rfl,z⟩
theorem e_fa_44_0 : Fa Tryz.prog 44 0 0:=⟨_,_,Tryz.underlying44,z,z,0,by kernel_rfl⟩
theorem e_fa_44_1 : Fa Tryz.prog 44 1 1:=⟨_,_,Tryz.underlying44,z,z,0,by kernel_rfl⟩
theorem e_fa_197_0 : Fa Tryz.prog 197 0 0:=⟨_,_,Tryz.underlying197,z,z,2,by kernel_rfl⟩
theorem e_fa_197_1 : Fa Tryz.prog 197 1 3:=⟨_,_,Tryz.underlying197,z,z,0,by kernel_rfl⟩
theorem e_zr_44 : Zr Tryz.prog 44 #[.int .i64 0,.int .i64 0]:=⟨.agg #[.int .i64 0,.int .i64 0],by kernel_rfl,z⟩
theorem e_bd_44 : Bd Tryz.prog 44 #[.int .i64 0,.int .i64 0] [(0,1),(1,1)]:=⟨_,.agg #[.int .i64 0,.int .i64 0],Tryz.underlying44,by kernel_rfl,z,fun w=>by kernel_rfl⟩
theorem e_sz_44 : Sz Tryz.prog 44 2:=by show _ = _; kernel_rfl
theorem e_ag_44 : Ag Tryz.prog 44 2:=⟨_,Tryz.underlying44,z,by kernel_rfl⟩
theorem e_en_40 : En Tryz.prog 40:=⟨_,_,Tryz.func40,by kernel_rfl,z⟩
theorem e_bd_197 : Bd Tryz.prog 197 #[.int .i64 0,.int .i64 0,.int .i64 0,.int .i64 0] [(0,3),(3,1)]:=⟨_,.agg #[.int .i64 0,.int .i64 0,.int .i64 0,.int .i64 0],Tryz.underlying197,by kernel_rfl,z,fun w=>by kernel_rfl⟩
theorem e_zr_197 : Zr Tryz.prog 197 #[.int .i64 0,.int .i64 0,.int .i64 0,.int .i64 0]:=⟨.agg #[.int .i64 0,.int .i64 0,.int .i64 0,.int .i64 0],by kernel_rfl,z⟩
theorem e_sz_197 : Sz Tryz.prog 197 4:=by show _ = _; kernel_rfl
theorem e_ag_197 : Ag Tryz.prog 197 4:=⟨_,Tryz.underlying197,z,by kernel_rfl⟩
theorem e_bd_201 : Bd Tryz.prog 201 #[.nilFunc,.int .i64 0] [(0,1),(1,1)]:=⟨_,.agg #[.nilFunc,.int .i64 0],Tryz.underlying201,by kernel_rfl,z,fun w=>by kernel_rfl⟩
theorem e_sl_202 : Sl Tryz.prog 202 201 2 16 (.agg #[.nilFunc,.int .i64 0]):=sl_of Tryz.underlying202 (by kernel_rfl) z (by decide)
theorem e_en_110 : En Tryz.prog 110:=⟨_,_,Tryz.func110,by kernel_rfl,z⟩
theorem e_ul_202 : ((#[202] : Array TypeId)[0]?).bind Tryz.prog.underlying = some (.slice 201):=bind_ul Tryz.underlying202
theorem e_ag_201 : Ag Tryz.prog 201 2:=⟨_,Tryz.underlying201,z,by kernel_rfl⟩
theorem e_zr_201 : Zr Tryz.prog 201 #[.nilFunc,.int .i64 0]:=⟨.agg #[.nilFunc,.int .i64 0],by kernel_rfl,z⟩
theorem e_sz_201 : Sz Tryz.prog 201 2:=by show _ = _; kernel_rfl
theorem e_fa_201_0 : Fa Tryz.prog 201 0 0:=⟨_,_,Tryz.underlying201,z,z,0,by kernel_rfl⟩
theorem e_sc_199 : Sc Tryz.prog 199:=⟨_,Tryz.underlying199,z⟩
theorem e_en_111 : En Tryz.prog 111:=⟨_,_,Tryz.func111,by kernel_rfl,z⟩
theorem e_fa_201_1 : Fa Tryz.prog 201 1 1:=⟨_,_,Tryz.underlying201,z,z,0,by kernel_rfl⟩
theorem e_en_112 : En Tryz.prog 112:=⟨_,_,Tryz.func112,by kernel_rfl,z⟩
theorem e_en_114 : En Tryz.prog 114:=⟨_,_,Tryz.func114,by kernel_rfl,z⟩
theorem e_en_115 : En Tryz.prog 115:=⟨_,_,Tryz.func115,by kernel_rfl,z⟩
theorem e_en_116 : En Tryz.prog 116:=⟨_,_,Tryz.func116,by kernel_rfl,z⟩
theorem e_en_117 : En Tryz.prog 117:=⟨_,_,Tryz.func117,by kernel_rfl,z⟩
def code_Right.f (a0 : Int × Int × Int) : Option (Int):=bif decide (a0.2.1 < 1) then (some 10) else (bif decide (a0.1 ≤ a0.2.1) then (some 10) else (bif decide (255 < a0.1) then (some 10) else (bif decide (a0.2.2 < 0) then (some 10) else (bif decide (255 ≤ a0.2.2) then (some 10) else (some 0)))))
theorem code_Right.calls {w0 : World} {a0 : Int × Int × Int} {r : Int}  (E : code_Right.f a0 = some r) :
   Calls Tryz.prog 38 #[.agg #[.int .i64 a0.1,.int .i64 a0.2.1,.int .i64 a0.2.2]] w0 fun e w'=>e = .returned (.int .u16 r) ∧ St no w0 w' []:=by
 have H:=St.nil no w0
 unfold code_Right.f at E
 refine calls_of_wc (N:=21) (args:=[.agg #[.int .i64 a0.1,.int .i64 a0.2.1,.int .i64 a0.2.2]]) Tryz.func38 z z (by simp) ?_
 refine rg (e_ z (y_boxS (cs:=#[.int .i64 a0.1,.int .i64 a0.2.1,.int .i64 a0.2.2]) H z (fun b1 w H=>(v_ z (sg (.int .u16 0) z) (nl (wc_seq (wc_block (wc_seq (rg (v_ z (r_faddr e_fa_24_1 z) (v_ z (r_load e_sc_3 z (blk_cell (H.get 0 z) z)) (v_ z (r_lss z z) (v_ z (sg (.bool (decide (a0.2.1 < 1))) z) (nl ?_))))))))))))))
 refine wc_cond z (fun c2=>?_) (fun c2=>?_)
 · have E:=iT c2 E
   refine wc_skip (n_thn (wc_condT2 z c2 (rg (v_ z (sg (.int .u16 10) z) (nl (wc_ret ?_))))))
   cases E
   exact (r_bk (r_thn ⟨.inl z,_,tk0 z ⟨resN z (rv_t rv_nil),z,H.sub0⟩⟩))
 · have E:=iF c2 E
   refine rg (v_ z (r_faddr e_fa_24_0 z) (v_ z (r_load e_sc_3 z (blk_cell (H.get 0 z) z)) (v_ z (r_faddr e_fa_24_1 z) (v_ z (r_load e_sc_3 z (blk_cell (H.get 0 z) z)) (v_ z (r_leq z z) (v_ z (sg (.bool (decide (a0.1 ≤ a0.2.1))) z) (nl ?_)))))))
   refine wc_cond z (fun c3=>?_) (fun c3=>?_)
   · have E:=iT c3 E
     refine wc_skip (n_thn (wc_condT2 z c3 (rg (v_ z (sg (.int .u16 10) z) (nl (wc_ret ?_))))))
     cases E
     exact (r_bk (r_thn ⟨.inl z,_,tk0 z ⟨resN z (rv_t rv_nil),z,H.sub0⟩⟩))
   · have E:=iF c3 E
     refine rg (v_ z (r_faddr e_fa_24_0 z) (v_ z (r_load e_sc_3 z (blk_cell (H.get 0 z) z)) (v_ z (r_gtr z z) (v_ z (sg (.bool (decide (255 < a0.1))) z) (nl ?_)))))
     refine wc_cond z (fun c4=>?_) (fun c4=>?_)
     · have E:=iT c4 E
       refine wc_skip (n_thn (wc_condT2 z c4 (rg (v_ z (sg (.int .u16 10) z) (nl (wc_ret ?_))))))
       cases E
       exact (r_bk (r_thn ⟨.inl z,_,tk0 z ⟨resN z (rv_t rv_nil),z,H.sub0⟩⟩))
     · have E:=iF c4 E
       refine rg (v_ z (r_faddr e_fa_24_2 z) (v_ z (r_load e_sc_3 z (blk_cell (H.get 0 z) z)) (v_ z (r_lss z z) (v_ z (sg (.bool (decide (a0.2.2 < 0))) z) (nl ?_)))))
       refine wc_cond z (fun c5=>?_) (fun c5=>?_)
       · have E:=iT c5 E
         refine wc_skip (n_thn (wc_condT2 z c5 (rg (v_ z (sg (.int .u16 10) z) (nl (wc_ret ?_))))))
         cases E
         exact (r_bk (r_thn ⟨.inl z,_,tk0 z ⟨resN z (rv_t rv_nil),z,H.sub0⟩⟩))
       · have E:=iF c5 E
         refine wc_region (v_ z (r_faddr e_fa_24_2 z) (v_ z (r_load e_sc_3 z (blk_cell (H.get 0 z) z)) (v_ z (r_geq z z) (v_ z (sg (.bool (decide (255 ≤ a0.2.2))) z) (nl ?_)))))
         refine wc_cond z (fun c6=>?_) (fun c6=>?_)
         · have E:=iT c6 E
           refine rg (v_ z (sg (.int .u16 10) z) (nl (wc_ret ?_)))
           cases E
           exact (r_bk (r_thn ⟨.inl z,_,tk0 z ⟨resN z (rv_t rv_nil),z,H.sub0⟩⟩))
         · have E:=iF c6 E
           refine wc_skip (n_bk (n_thn (rg (v_ z (sg (.int .u16 0) z) (nl (wc_ret ?_))))))
           cases E
           exact ⟨.inl z,_,tk0 z ⟨resN z (rv_t rv_nil),z,H.sub0⟩⟩
def code_Space.f (a0 : Int × Int × Int) : Option (Int):=(code_Right.f (a0.1,a0.2.1,a0.2.2)).bind fun x2=>bif !decide (x2 = 0) then (some 0) else (some (i64.wrap (a0.1 - a0.2.1)))
theorem code_Space.calls {w0 : World} {a0 : Int × Int × Int} {r : Int}  (E : code_Space.f a0 = some r) :
   Calls Tryz.prog 113 #[.agg #[.int .i64 a0.1,.int .i64 a0.2.1,.int .i64 a0.2.2]] w0 fun e w'=>e = .returned (.int .i64 r) ∧ St no w0 w' []:=by
 have H:=St.nil no w0
 unfold code_Space.f at E
 refine calls_of_wc (N:=11) (args:=[.agg #[.int .i64 a0.1,.int .i64 a0.2.1,.int .i64 a0.2.2]]) Tryz.func113 z z (by simp) ?_
 refine rg (e_ z (y_boxS (cs:=#[.int .i64 a0.1,.int .i64 a0.2.1,.int .i64 a0.2.2]) H z (fun b1 w H=>(v_ z (sg (.int .i64 0) z) (nl (wc_seq (rg (v_ z (r_loadB (l:=[.int .i64 a0.1,.int .i64 a0.2.1,.int .i64 a0.2.2]) e_ag_24 (H.get 0 z) z z z) ?_))))))))
 obtain ⟨x2,E3,E⟩:=bind_some E
 refine e_ z (y_callL e_en_38 z ((code_Right.calls E3).mono ?_))
 rintro _ w ⟨rfl,K⟩
 have H:=H.app K
 refine ⟨_,z,(v_ z (r_neq z z) (nl ?_))⟩
 refine wc_cond z (fun c4=>?_) (fun c4=>?_)
 · have E:=iT c4 E
   refine rg (v_ z (sg (.int .i64 0) z) (nl (wc_ret ?_)))
   cases E
   exact (r_thn ⟨.inl z,_,tk0 z ⟨resN z (rv_t rv_nil),z,H.sub0⟩⟩)
 · have E:=iF c4 E
   refine wc_skip (n_thn (rg (v_ z (r_faddr e_fa_24_0 z) (v_ z (r_load e_sc_3 z (blk_cell (H.get 0 z) z)) (v_ z (r_faddr e_fa_24_1 z) (v_ z (r_load e_sc_3 z (blk_cell (H.get 0 z) z)) (v_ z (r_sub z z) (v_ z (sg (.int .i64 (i64.wrap (a0.1 - a0.2.1))) z) (nl (wc_ret ?_))))))))))
   cases E
   exact ⟨.inl z,_,tk0 z ⟨resN z (rv_t rv_nil),z,H.sub0⟩⟩
def poly_Deg.l0 : Nat → List Int → Int → Option (Int)
 | 0,_,_=>none
 | k + 1,a0,x26=>bif decide (0 ≤ x26) then (grd (decide ((0 : Int) ≤ x26 ∧ x26 < (a0.length : Int))) (bif !decide (at_ 0 a0 x26 = 0) then (some x26) else (poly_Deg.l0 k a0 (i64.wrap (x26 - 1))))) else (some (-1))
def poly_Deg.f (k : Nat) (a0 : List Int) : Option (Int):=poly_Deg.l0 k a0 (i64.wrap ((a0.length : Int) - 1))
theorem poly_Deg.calls {w0 : World} {k : Nat} {a0 : List Int} {v0_ : Value} {r : Int} (h0 : Rd (.of (.int .u8)) w0 (Ol no w0) v0_ a0) (E : poly_Deg.f k a0 = some r) :
   Calls Tryz.prog 220 #[v0_] w0 fun e w'=>e = .returned (.int .i64 r) ∧ St no w0 w' []:=by
 have H:=St.nil no w0
 unfold poly_Deg.f at E
 refine calls_of_wc (N:=9) (args:=[v0_]) Tryz.func220 z z (by simp) ?_
 have H:=H.mk0
 refine rg (e_ z (y_allocS e_zr_3 H (fun b1 w H=>(nl (wc_seq (rg (v_ z (mv v0_ z) (e_ z (y_in 4 [v0_] e_en_232 Tryz.func232 z z z z (rg ?_))))))))))
 obtain ⟨p6,n7,c8,rfl⟩:=rd_form h0
 refine e_ z (y_boxS (cs:=#[(.slice p6 n7 c8)]) H z (fun b9 w H=>(v_ z (sg (.nilFunc) z) (nl (rg (v_ z (r_mkf [pt b9] z) (v_ z (sg (.func (.func 278) #[] #[pt b9]) z) (nl (wc_ret (⟨.inl z,.func (.func 278) #[] #[pt b9],tk0 z ⟨resM z (rv_t rv_nil) z,(nl (wc_block (wc_rf 18 [pt b9] z Tryz.func278 z z z z z H 0 z z (fun v13 b10 o11 w hO12 H=>?_))))⟩⟩))))))))))
 have H:=H.mk0
 refine rg (e_ z (y_boxS (cs:=#[.func (.yield b10) #[] #[]]) H z (fun b14 w H=>(nl (rg (v_ z (r_load e_sc_22 z (blk_cell (H.get 2 z) z)) (e_ z (y_in 4 [(.slice p6 n7 c8)] e_en_194 Tryz.func194 z z z z (rg (e_ z (y_boxS (cs:=#[(.slice p6 n7 c8)]) H z (fun b16 w H=>?_))))))))))))
 have H : St no w0 _ [.mks v13,.blk b1 #[.int .i64 0] 3,.blk b9 #[(.slice p6 n7 c8)] 22,.obj b10 (.loop o11),.mks undef,.blk b14 #[.func (.yield b10) #[] #[]] 337,.blk b16 #[(.slice p6 n7 c8)] 22]:=H
 refine v_ z (sg (.nilFunc) z) (nl (rg (v_ z (r_mkf [pt b16] z) (v_ z (sg (.func (.func 251) #[] #[pt b16]) z) (nl (wc_ret (⟨.inl z,.func (.func 251) #[] #[pt b16],tk0 z ⟨resM z (rv_t rv_nil) z,(nl (wc_block (wc_rf 19 [pt b16] z Tryz.func251 z z z z z H 4 z z (fun v20 b17 o18 w hO19 H=>(rg (v_ z (r_load e_sc_22 z (blk_cell (H.get 6 z) z)) (v_ z (r_lenR e_ul_22 (H.rd h0) z) (v_ z (r_sub z z) (v_ z (sg (.int .i64 (i64.wrap ((a0.length : Int) - 1))) z) (nl (wc_block ?_)))))))))))⟩⟩)))))))
 refine wc_loop (fun kk t w=>∃ (x26 : Int) (t34 : Fr),kk ≤ k ∧ poly_Deg.l0 kk a0 x26 = some r ∧ t = upds t34 [(0,.func (.yield b17) #[] #[]),(1,pt b16),(3,.int .i64 x26),(1000000,undef)] ∧ St no w0 w [.mks v13,.blk b1 #[.int .i64 0] 3,.blk b9 #[(.slice p6 n7 c8)] 22,.obj b10 (.loop o11),.mks v20,.blk b14 #[.func (.yield b10) #[] #[]] 337,.blk b16 #[(.slice p6 n7 c8)] 22,.obj b17 (.loop o18)]) k ?_ ?_
 · exact ⟨_,_,Nat.le_refl _,E,upds_eq ⟨z,z,z,z,trivial⟩,H⟩
 rintro kk t w ⟨x26,t34,hk33,E,rfl,H⟩
 obtain ⟨k32,rfl⟩ | rfl : (∃ k',kk = k' + 1) ∨ kk = 0:=by cases kk; exact .inr rfl; exact .inl ⟨_,rfl⟩
 rotate_left
 · cases E
 rw [poly_Deg.l0] at E
 refine wc_seq (rg (v_ z (mv (.int .i64 x26) z) (v_ z (r_geq z z) (nl ?_))))
 refine wc_cond z (fun c36=>?_) (fun c36=>?_)
 · have E:=iT c36 E
   refine wc_skip (n_thn (wc_seq (wc_block (rg (v_ z (mv (.func (.yield b17) #[] #[]) z) (v_ z (mv (.int .i64 x26) z) (v_ z (r_load e_sc_22 z (blk_cell (H.get 6 z) z)) (v_ z (mv (.int .i64 x26) z) ?_))))))))
   obtain ⟨⟨g37,g38⟩,E⟩:=grd_some E
   refine v_ z (r_idx e_sl_22 (H.rd h0) z z g37 g38) (v_ z (r_ldI e_sc_5 (H.rd h0) g37 g38 z) (e_ z (y_yld [.int .i64 x26,.int .u8 (at_ 0 a0 x26)] z z H 7 z hO19 z z (rg (v_ z (sg (.int .i64 x26) z) (nl (wc_region (v_ z (sg (.int .u8 (at_ 0 a0 x26)) z) (wl_nil (yB H 7 z hO19 (fun w H=>(wc_block (rg (v_ z (mv (.int .u8 (at_ 0 a0 x26)) z) (v_ z (r_neq z z) (v_ z (mv (.bool (!decide (at_ 0 a0 x26 = 0))) z) ?_))))))))))))))))
   rcases Bool.eq_false_or_eq_true (!decide (at_ 0 a0 x26 = 0)) with c39 | c39
   · have E:=iT c39 E
     refine on_ c39 z z (r_load e_sc_337 z (blk_cell (H.get 5 z) z)) (on_ c39 z z (mv (.int .i64 x26) z) (on_ c39 z z (mv (.int .u8 (at_ 0 a0 x26)) z) (wl_on z c39 z (y_yld [.int .i64 x26,.int .u8 (at_ 0 a0 x26)] z z H 3 z hO12 z z (wc_region (v_ z (sg (.int .i64 x26) z) (wl_nil (yB H 3 z hO12 (fun w H=>(wc_block (rg (v_ z (mv (.int .i64 x26) z) (s_ (y_storeB e_sz_3 H 1 z z z z z (fun w H=>(nl (wc_ret ((r_bk (yR H 3 z (fun w H=>(on_ c39 z z (rv_eq (v':=.bool true) (r_not z) z) (v_ z (pT (.bool true) z z c39) (nl (wc_condT z (wc_ret ((r_bk (yR H 7 z (fun w H=>(v_ z (rv_eq (v':=.bool true) (r_not z) z) (nl (wc_condT z (wc_ret ((r_bk (r_thn (r_thn (r_bk ⟨.inl z,.tuple #[],tk0 z ⟨resM z rv_nil z,(el_r H 7 z (fun w H=>((r_bk ⟨.inl z,.tuple #[],tkA H 4 z z (fun w H=>⟨resM z rv_nil z,(el_r H 3 z (fun w H=>?_))⟩)⟩))))⟩⟩)))))))))))))))))))))))))))))))))))))))
     cases E
     exact (r_bk (r_thn ⟨.inl z,_,tkA H 0 z z (fun w H=>⟨resN z (rv_c1 z e_sc_3 (blk_cell (H.get 1 z) z) rv_nil),z,H.sub0⟩)⟩))
   · have E:=iF c39 E
     refine off_ c39 z z z (off_ c39 z z z (off_ c39 z z z (off_ c39 z z z (off_ c39 z z z (v_ z (pF (.bool false) z z c39) (nl (wc_condF z (wc_skip (n_bk (yN H 7 z hO19 (fun w H=>(v_ z (rv_eq (v':=.bool false) (r_not z) z) (nl (wc_condF z (wc_skip (n_bk (n_thn (wc_region (v_ z (mv (.int .i64 x26) z) (v_ z (r_sub z z) (v_ z (sg (.int .i64 (i64.wrap (x26 - 1))) z) (wl_nil ?_))))))))))))))))))))))
     exact ⟨k32,Nat.lt_succ_self _,_,_,Nat.le_of_succ_le hk33,E,upds_eq ⟨z,z,z,z,trivial⟩,H⟩
 · have E:=iF c36 E
   refine wc_exit (x_thn (x_thn (x_bk (⟨.inr z,.tuple #[],tk0 z ⟨resM z rv_nil z,(el_n H 7 z hO19 (fun w H=>(n_bk (⟨.inr z,.tuple #[],tkA H 4 z z (fun w H=>⟨resM z rv_nil z,(el_n H 3 z hO12 (fun w H=>(n_bk (n_thn (rg (s_ (y_storeB e_sz_3 H 1 z z z z z (fun w H=>(nl (wc_ret ?_))))))))))⟩)⟩))))⟩⟩))))
   cases E
   exact ⟨.inl z,_,tkA H 0 z z (fun w H=>⟨resN z (rv_c1 z e_sc_3 (blk_cell (H.get 1 z) z) rv_nil),z,H.sub0⟩)⟩
def slices_Clone.f (a0 : List (Int)) : Option (List (Int)):=grd (decide (a0.length * 1 ≤ 140737488355328)) (some a0)
theorem slices_Clone.calls {w0 : World} {a0 : List (Int)} {v0_ : Value} {r : List (Int)} (h0 : Rd (.of (.int .u8)) w0 (Ol no w0) v0_ a0) (E : slices_Clone.f a0 = some r) :
   Calls Tryz.prog 84 #[v0_] w0 fun e w'=>∃ u0 : Value,e = .returned (u0) ∧ St no w0 w' [.own (.int .u8) 5 u0 r]:=by
 have H:=St.nil no w0
 unfold slices_Clone.f at E
 obtain ⟨g1,E⟩:=grd_some E
 cases E
 obtain ⟨p,c,rfl,h2,h3,h4⟩:=id h0
 cases p with
 | none =>
   obtain rfl : a0 = []:=by
     rcases h4 with ⟨h,_,_⟩ | ⟨b,o,h,_⟩
     · exact h
     · cases h
   refine calls_of_wc (N:=8) (args:=[.slice none ([] : List (Int)).length c]) Tryz.func84 z z (by simp) ?_
   refine rg (v_ z (sg (.slice none 0 0) z) (nl (wc_seq (rg (v_ z (mv (.slice none ([] : List (Int)).length c) z) (v_ z (r_snil Tryz.underlying22 z z) (nl (wc_condT2 z z (rg (v_ z (sg (.slice none 0 0) z) (nl ?_)))))))))))
   have H:=H.nilOwn (.int .u8) 5
   refine wc_ret ?_
   exact r_thn ⟨.inl z,_,tk0 z ⟨resN z (rv_t rv_nil),_,z,H.sub1 0 z⟩⟩
 | some p =>
   refine calls_of_wc (N:=8) (args:=[.slice (some p) a0.length c]) Tryz.func84 z z (by simp) ?_
   refine rg (v_ z (sg (.slice none 0 0) z) (nl (wc_seq (rg (v_ z (mv (.slice (some p) a0.length c) z) (v_ z (r_snil Tryz.underlying22 z z) (nl (wc_condF2 z z (wc_skip (n_thn ?_))))))))))
   refine rg (e_ z (y_bs0 (e:=(.int .u8)) e_sl_22 H (fun v1 w H=>(v_ z (mv (.slice (some p) a0.length c) z) (e_ z (y_app e_sl_22 H 0 z (H.rd h0) z z (by simpa using g1) (by unfold maxLen; simp; omega) (fun v2 w H=>(v_ z (sg v2 z) (nl ?_)))))))))
   rw [List.nil_append] at H
   refine wc_ret ?_
   exact ⟨.inl z,_,tk0 z ⟨resN z (rv_t rv_nil),_,z,H.sub1 0 z⟩⟩
def poly_Norm.f (k : Nat) (a0 : List Int) : Option (List Int):=(poly_Deg.f k a0).bind fun x1=>grd (decide ((0 : Int) ≤ i64.wrap (x1 + 1) ∧ i64.wrap (x1 + 1) ≤ (a0.length : Int))) ((slices_Clone.f ((a0.take ((i64.wrap (x1 + 1)).toNat)).drop 0)).bind fun x8=>some x8)
theorem poly_Norm.calls {w0 : World} {k : Nat} {a0 : List Int} {v0_ : Value} {r : List Int} (h0 : Rd (.of (.int .u8)) w0 (Ol no w0) v0_ a0) (E : poly_Norm.f k a0 = some r) :
   Calls Tryz.prog 222 #[v0_] w0 fun e w'=>∃ (u0 : Value),e = .returned (u0) ∧ St no w0 w' [.own (.int .u8) 5 u0 r]:=by
 have H:=St.nil no w0
 unfold poly_Norm.f at E
 refine calls_of_wc (N:=9) (args:=[v0_]) Tryz.func222 z z (by simp) ?_
 refine rg (v_ z (sg (.slice none 0 0) z) (nl (rg (v_ z (mv v0_ z) (v_ z (mv v0_ z) ?_)))))
 obtain ⟨x1,E2,E⟩:=bind_some E
 refine e_ z (y_callL e_en_220 z ((poly_Deg.calls (H.arg (H.rd h0)) E2).mono ?_))
 rintro _ w ⟨rfl,K⟩
 have H:=H.app K
 refine ⟨_,z,(v_ z (r_add z z) ?_)⟩
 obtain ⟨⟨g3,g4⟩,E⟩:=grd_some E
 have p6 : 0 ≤ (i64.wrap (x1 + 1)).toNat:=by omega
 have p7 : (i64.wrap (x1 + 1)).toNat ≤ a0.length:=by omega
 refine v_ z (r_slcHR e_sl_22 (H.rd h0) z z g3 g4) ?_
 obtain ⟨x8,E9,E⟩:=bind_some E
 refine e_ z (y_callL e_en_84 z ((slices_Clone.calls (H.arg (Rd.slv (H.rd h0) p6 p7)) E9).mono ?_))
 rintro _ w ⟨v10,rfl,K⟩
 have H:=H.app K
 refine ⟨_,z,(v_ z (sg v10 z) (nl (wc_ret ?_)))⟩
 cases E
 exact ⟨.inl z,_,tk0 z ⟨resN z (rv_t rv_nil),_,z,H.sub1 0 z⟩⟩
def math_bits_Mul64.f (a0 : Int) (a1 : Int) : Option (Int × Int):=some (u64.wrap ((u64.wrap ((u64.wrap ((Int.fdiv a0 (2 ^ (min (32 : Int).toNat 64))) * (Int.fdiv a1 (2 ^ (min (32 : Int).toNat 64))))) + (Int.fdiv (u64.wrap ((u64.wrap ((Int.fdiv a0 (2 ^ (min (32 : Int).toNat 64))) * (bits .and .u64 a1 4294967295))) + (Int.fdiv (u64.wrap ((bits .and .u64 a0 4294967295) * (bits .and .u64 a1 4294967295))) (2 ^ (min (32 : Int).toNat 64))))) (2 ^ (min (32 : Int).toNat 64))))) + (Int.fdiv (u64.wrap ((bits .and .u64 (u64.wrap ((u64.wrap ((Int.fdiv a0 (2 ^ (min (32 : Int).toNat 64))) * (bits .and .u64 a1 4294967295))) + (Int.fdiv (u64.wrap ((bits .and .u64 a0 4294967295) * (bits .and .u64 a1 4294967295))) (2 ^ (min (32 : Int).toNat 64))))) 4294967295) + (u64.wrap ((bits .and .u64 a0 4294967295) * (Int.fdiv a1 (2 ^ (min (32 : Int).toNat 64))))))) (2 ^ (min (32 : Int).toNat 64)))),u64.wrap (a0 * a1))
theorem math_bits_Mul64.calls {w0 : World} {a0 : Int} {a1 : Int} {r : Int × Int}  (E : math_bits_Mul64.f a0 a1 = some r) :
   Calls Tryz.prog 323 #[.int .u64 a0,.int .u64 a1] w0 fun e w'=>e = .returned (.tuple #[.int .u64 r.1,.int .u64 r.2]) ∧ St no w0 w' []:=by
 have H:=St.nil no w0
 unfold math_bits_Mul64.f at E
 refine calls_of_wc (N:=51) (args:=[.int .u64 a0,.int .u64 a1]) Tryz.func323 z z (by simp) ?_
 refine rg (v_ z (sg (.int .u64 0) z) (v_ z (sg (.int .u64 0) z) (nl (rg (v_ z (mv (.int .u64 a0) z) (v_ z (r_and z z) (v_ z (sg (.int .u64 (bits .and .u64 a0 4294967295)) z) (nl (rg (v_ z (mv (.int .u64 a0) z) (v_ z (r_shr z z (by decide)) (v_ z (sg (.int .u64 (Int.fdiv a0 (2 ^ (min (32 : Int).toNat 64)))) z) (nl (rg (v_ z (mv (.int .u64 a1) z) (v_ z (r_and z z) (v_ z (sg (.int .u64 (bits .and .u64 a1 4294967295)) z) (nl (rg (v_ z (mv (.int .u64 a1) z) (v_ z (r_shr z z (by decide)) (v_ z (sg (.int .u64 (Int.fdiv a1 (2 ^ (min (32 : Int).toNat 64)))) z) (nl (rg (v_ z (mv (.int .u64 (bits .and .u64 a0 4294967295)) z) (v_ z (mv (.int .u64 (bits .and .u64 a1 4294967295)) z) (v_ z (r_mul z z) (v_ z (sg (.int .u64 (u64.wrap ((bits .and .u64 a0 4294967295) * (bits .and .u64 a1 4294967295)))) z) (nl (rg (v_ z (mv (.int .u64 (Int.fdiv a0 (2 ^ (min (32 : Int).toNat 64)))) z) (v_ z (mv (.int .u64 (bits .and .u64 a1 4294967295)) z) (v_ z (r_mul z z) (v_ z (mv (.int .u64 (u64.wrap ((bits .and .u64 a0 4294967295) * (bits .and .u64 a1 4294967295)))) z) (v_ z (r_shr z z (by decide)) (v_ z (r_add z z) (v_ z (sg (.int .u64 (u64.wrap ((u64.wrap ((Int.fdiv a0 (2 ^ (min (32 : Int).toNat 64))) * (bits .and .u64 a1 4294967295))) + (Int.fdiv (u64.wrap ((bits .and .u64 a0 4294967295) * (bits .and .u64 a1 4294967295))) (2 ^ (min (32 : Int).toNat 64)))))) z) (nl (rg (v_ z (mv (.int .u64 (u64.wrap ((u64.wrap ((Int.fdiv a0 (2 ^ (min (32 : Int).toNat 64))) * (bits .and .u64 a1 4294967295))) + (Int.fdiv (u64.wrap ((bits .and .u64 a0 4294967295) * (bits .and .u64 a1 4294967295))) (2 ^ (min (32 : Int).toNat 64)))))) z) ?_))))))))))))))))))))))))))))))))))))))))
 refine v_ z (r_and z z) (v_ z (sg (.int .u64 (bits .and .u64 (u64.wrap ((u64.wrap ((Int.fdiv a0 (2 ^ (min (32 : Int).toNat 64))) * (bits .and .u64 a1 4294967295))) + (Int.fdiv (u64.wrap ((bits .and .u64 a0 4294967295) * (bits .and .u64 a1 4294967295))) (2 ^ (min (32 : Int).toNat 64))))) 4294967295)) z) (nl (rg (v_ z (mv (.int .u64 (u64.wrap ((u64.wrap ((Int.fdiv a0 (2 ^ (min (32 : Int).toNat 64))) * (bits .and .u64 a1 4294967295))) + (Int.fdiv (u64.wrap ((bits .and .u64 a0 4294967295) * (bits .and .u64 a1 4294967295))) (2 ^ (min (32 : Int).toNat 64)))))) z) (v_ z (r_shr z z (by decide)) (v_ z (sg (.int .u64 (Int.fdiv (u64.wrap ((u64.wrap ((Int.fdiv a0 (2 ^ (min (32 : Int).toNat 64))) * (bits .and .u64 a1 4294967295))) + (Int.fdiv (u64.wrap ((bits .and .u64 a0 4294967295) * (bits .and .u64 a1 4294967295))) (2 ^ (min (32 : Int).toNat 64))))) (2 ^ (min (32 : Int).toNat 64)))) z) (nl (rg (v_ z (mv (.int .u64 (bits .and .u64 (u64.wrap ((u64.wrap ((Int.fdiv a0 (2 ^ (min (32 : Int).toNat 64))) * (bits .and .u64 a1 4294967295))) + (Int.fdiv (u64.wrap ((bits .and .u64 a0 4294967295) * (bits .and .u64 a1 4294967295))) (2 ^ (min (32 : Int).toNat 64))))) 4294967295)) z) (v_ z (mv (.int .u64 (bits .and .u64 a0 4294967295)) z) (v_ z (mv (.int .u64 (Int.fdiv a1 (2 ^ (min (32 : Int).toNat 64)))) z) (v_ z (r_mul z z) (v_ z (r_add z z) (v_ z (sg (.int .u64 (u64.wrap ((bits .and .u64 (u64.wrap ((u64.wrap ((Int.fdiv a0 (2 ^ (min (32 : Int).toNat 64))) * (bits .and .u64 a1 4294967295))) + (Int.fdiv (u64.wrap ((bits .and .u64 a0 4294967295) * (bits .and .u64 a1 4294967295))) (2 ^ (min (32 : Int).toNat 64))))) 4294967295) + (u64.wrap ((bits .and .u64 a0 4294967295) * (Int.fdiv a1 (2 ^ (min (32 : Int).toNat 64)))))))) z) (nl (rg (v_ z (mv (.int .u64 (Int.fdiv a0 (2 ^ (min (32 : Int).toNat 64)))) z) (v_ z (mv (.int .u64 (Int.fdiv a1 (2 ^ (min (32 : Int).toNat 64)))) z) (v_ z (r_mul z z) (v_ z (mv (.int .u64 (Int.fdiv (u64.wrap ((u64.wrap ((Int.fdiv a0 (2 ^ (min (32 : Int).toNat 64))) * (bits .and .u64 a1 4294967295))) + (Int.fdiv (u64.wrap ((bits .and .u64 a0 4294967295) * (bits .and .u64 a1 4294967295))) (2 ^ (min (32 : Int).toNat 64))))) (2 ^ (min (32 : Int).toNat 64)))) z) (v_ z (r_add z z) (v_ z (mv (.int .u64 (u64.wrap ((bits .and .u64 (u64.wrap ((u64.wrap ((Int.fdiv a0 (2 ^ (min (32 : Int).toNat 64))) * (bits .and .u64 a1 4294967295))) + (Int.fdiv (u64.wrap ((bits .and .u64 a0 4294967295) * (bits .and .u64 a1 4294967295))) (2 ^ (min (32 : Int).toNat 64))))) 4294967295) + (u64.wrap ((bits .and .u64 a0 4294967295) * (Int.fdiv a1 (2 ^ (min (32 : Int).toNat 64)))))))) z) (v_ z (r_shr z z (by decide)) (v_ z (r_add z z) (v_ z (sg (.int .u64 (u64.wrap ((u64.wrap ((u64.wrap ((Int.fdiv a0 (2 ^ (min (32 : Int).toNat 64))) * (Int.fdiv a1 (2 ^ (min (32 : Int).toNat 64))))) + (Int.fdiv (u64.wrap ((u64.wrap ((Int.fdiv a0 (2 ^ (min (32 : Int).toNat 64))) * (bits .and .u64 a1 4294967295))) + (Int.fdiv (u64.wrap ((bits .and .u64 a0 4294967295) * (bits .and .u64 a1 4294967295))) (2 ^ (min (32 : Int).toNat 64))))) (2 ^ (min (32 : Int).toNat 64))))) + (Int.fdiv (u64.wrap ((bits .and .u64 (u64.wrap ((u64.wrap ((Int.fdiv a0 (2 ^ (min (32 : Int).toNat 64))) * (bits .and .u64 a1 4294967295))) + (Int.fdiv (u64.wrap ((bits .and .u64 a0 4294967295) * (bits .and .u64 a1 4294967295))) (2 ^ (min (32 : Int).toNat 64))))) 4294967295) + (u64.wrap ((bits .and .u64 a0 4294967295) * (Int.fdiv a1 (2 ^ (min (32 : Int).toNat 64))))))) (2 ^ (min (32 : Int).toNat 64)))))) z) (nl (rg (v_ z (mv (.int .u64 a0) z) (v_ z (mv (.int .u64 a1) z) (v_ z (r_mul z z) (v_ z (sg (.int .u64 (u64.wrap (a0 * a1))) z) (nl (wc_ret ?_)))))))))))))))))))))))))))))))))
 cases E
 exact ⟨.inl z,_,tk0 z ⟨resN z (rv_t (rv_t rv_nil)),z,H.sub0⟩⟩
end Go.Proofs.YtkndgkbgbmhjoaaGreatDoor.Gw
