/- A part of the proof of Rows.PlayAskedCardSaid; the conditions are that card's own. -/
import Derived.Test.YtmhkpafkadijgaaGreatDoorQ4
set_option linter.all false
set_option maxRecDepth 100000
set_option maxHeartbeats 4000000
namespace Go.Proofs.YtmhkpafkadijgaaGreatDoor.Gw
open Go Go.RowKit
variable[de]
open Go.IntKind (i8 i16 i32 i64 u8 u16 u32 u64)
open Tryz renaming prog → aa
theorem tn:Sl aa 22 5 1 1 (iu 0):=ja Tryz.underlying22 (by kernel_rfl) z (by decide)
def hZ:ByteArray:=⟨#[0,1,2,2,3,3,3,3,4,4,4,4,4,4,4,4,5,5,5,5,5,5,5,5,5,5,5,5,5,5,5,5,6,6,6,6,6,6,6,6,6,6,6,6,6,6,6,6,6,6,6,6,6,6,6,6,6,6,6,6,6,6,6,6,7,7,7,7,7,7,7,7,7,7,7,7,7,7,7,7,7,7,7,7,7,7,7,7,7,7,7,7,7,7,7,7,7,7,7,7,7,7,7,7,7,7,7,7,7,7,7,7,7,7,7,7,7,7,7,7,7,7,7,7,7,7,7,7,8,8,8,8,8,8,8,8,8,8,8,8,8,8,8,8,8,8,8,8,8,8,8,8,8,8,8,8,8,8,8,8,8,8,8,8,8,8,8,8,8,8,8,8,8,8,8,8,8,8,8,8,8,8,8,8,8,8,8,8,8,8,8,8,8,8,8,8,8,8,8,8,8,8,8,8,8,8,8,8,8,8,8,8,8,8,8,8,8,8,8,8,8,8,8,8,8,8,8,8,8,8,8,8,8,8,8,8,8,8,8,8,8,8,8,8,8,8,8,8,8,8,8,8,8,8,8,8]⟩
theorem AG:En aa 414:=⟨_,_,Tryz.func414,by kernel_rfl,z⟩
theorem Jf:Ar aa 339 64 1:=⟨_,Tryz.underlying339,by kernel_rfl⟩
theorem lE:Sc aa 5:=⟨_,Tryz.underlying5,z⟩
theorem Jh:En aa 200:=⟨_,_,Tryz.func200,by kernel_rfl,z⟩
theorem Jw:Zr aa 124 #[.int .u16 0]:=⟨.int .u16 0,by kernel_rfl,z⟩
theorem AH:En aa 415:=⟨_,_,Tryz.func415,by kernel_rfl,z⟩
theorem mB:Sc aa 167:=⟨_,Tryz.underlying167,z⟩
theorem AF:En aa 139:=⟨_,_,Tryz.func139,by kernel_rfl,z⟩
theorem pL:Tryz.prog.follows .mixedOrders=true:=by kernel_rfl
theorem AK:Sc aa 124:=⟨_,Tryz.underlying124,z⟩
theorem Jt:Sz aa 124 1:=by show _=_;kernel_rfl
theorem AL:Sz aa 167 1:=by show _=_;kernel_rfl
theorem Jj:En aa 413:=⟨_,_,Tryz.func413,by kernel_rfl,z⟩
theorem Ji:En aa 412:=⟨_,_,Tryz.func412,by kernel_rfl,z⟩
theorem tl:En aa 411:=⟨_,_,Tryz.func411,by kernel_rfl,z⟩
theorem Jz:Zr aa 5 #[iu 0]:=⟨iu 0,by kernel_rfl,z⟩
theorem Jy:Zr aa 3 #[ii 0]:=⟨ii 0,by kernel_rfl,z⟩
theorem nQ:Sz aa 5 1:=by show _=_;kernel_rfl
theorem AM:Sz aa 3 1:=by show _=_;kernel_rfl
theorem Jx:Zr aa 268 #[.nilFunc]:=⟨.nilFunc,by kernel_rfl,z⟩
theorem Ju:Sz aa 268 1:=by show _=_;kernel_rfl
theorem Js:Sc aa 268:=⟨_,Tryz.underlying268,z⟩
theorem jO:Sc aa 3:=⟨_,Tryz.underlying3,z⟩
theorem Jo:En aa 426:=⟨_,_,Tryz.func426,by kernel_rfl,z⟩
theorem AI:En aa 425:=⟨_,_,Tryz.func425,by kernel_rfl,z⟩
theorem Jm:En aa 423:=⟨_,_,Tryz.func423,by kernel_rfl,z⟩
theorem Jn:En aa 424:=⟨_,_,Tryz.func424,by kernel_rfl,z⟩
theorem Jc:Ag aa 187 0:=⟨_,Tryz.underlying187,z,by kernel_rfl⟩
theorem Jk:En aa 418:=⟨_,_,Tryz.func418,by kernel_rfl,z⟩
theorem tp:((#[22]:Array TypeId)[0]?).bind Tryz.prog.underlying=some (.slice 5):=iD Tryz.underlying22
theorem Jl:En aa 420:=⟨_,_,Tryz.func420,by kernel_rfl,z⟩
theorem JA:sx aa 276 766:=by show _=_;kernel_rfl
theorem AJ:Fa aa 276 0 0:=⟨_,_,Tryz.underlying276,z,z,509,by kernel_rfl⟩
theorem AE:Ar aa 273 510 1:=⟨_,Tryz.underlying273,by kernel_rfl⟩
theorem Jp:Fa aa 276 1 510:=⟨_,_,Tryz.underlying276,z,z,255,by kernel_rfl⟩
theorem Je:Ar aa 274 256 1:=⟨_,Tryz.underlying274,by kernel_rfl⟩
theorem Jd:Ag aa 276 766:=⟨_,Tryz.underlying276,z,by kernel_rfl⟩
theorem Jr:Fa aa 278 2 4:=⟨_,_,Tryz.underlying278,z,z,765,by kernel_rfl⟩
theorem Jv:Sz aa 276 766:=by show _=_;kernel_rfl
theorem Jq:Fa aa 278 1 3:=⟨_,_,Tryz.underlying278,z,z,0,by kernel_rfl⟩
theorem Jg:En aa 164:=⟨_,_,Tryz.func164,by kernel_rfl,z⟩
def jP.f(a0:Int):Option (Int):=bif decide (256≤a0)then(an (decide ((0:Int)≤u8.wrap (Int.fdiv a0 (2^min (8:Int).toNat 16))∧u8.wrap (Int.fdiv a0 (2^min (8:Int).toNat 16))<(hZ.size:Int))) (some (i64.wrap (8+i64.wrap (sat hZ (u8.wrap (Int.fdiv a0 (2^min (8:Int).toNat 16))))))))else(an (decide ((0:Int)≤u8.wrap a0∧u8.wrap a0<(hZ.size:Int))) (some (i64.wrap (0+i64.wrap (sat hZ (u8.wrap a0))))))
theorem jP.calls{w0:World}{a0 r:Int}(E:jP.f a0=some r):
 Calls aa 414 #[.int .u16 a0] w0 fun e w'=>e= .returned (ii r)∧St no w0 w' []:=by
 have H:=St.nil no w0
 unfold jP.f at E
 refine aP (N:=13) (args:=[.int .u16 a0]) Tryz.func414 z z (by simp) ?_
 refine rg (va (ii 0) (nl (ae (rg (vm (.int .u16 a0) (vr (dq z z) (nl ?_)))))))
 refine aE E z (fun c1 E=>?_) (fun c1 E=>?_)
 ·refine rg (vm (.int .u16 a0) (vr (fT z z (by decide)) (va (.int .u16 (Int.fdiv a0 (2^min (8:Int).toNat 16))) (nl (aH (va (ii 8) (nl (rg (vm (ii 8) (vm (.int .u16 (Int.fdiv a0 (2^min (8:Int).toNat 16))) (vr (cD z Tryz.underlying124 Tryz.underlying5) ?_)))))))))))
  obtain⟨⟨g2,g3⟩,E⟩:=ar E
  refine vr (mY Tryz.underlying9 z z g2 g3) (vr (cD z Tryz.underlying5 Tryz.underlying3) (vr (aO z z) (va (ii (i64.wrap (8+i64.wrap (sat hZ (u8.wrap (Int.fdiv a0 (2^min (8:Int).toNat 16))))))) (nl (aj ?_)))))
  cases E
  exact⟨.inl z,_,tk0 z ⟨aB z (ad ai),z,H.bs⟩⟩
 ·refine aA (ab (rg (vm (ii 0) (vm (.int .u16 a0) (vr (cD z Tryz.underlying124 Tryz.underlying5) ?_)))))
  obtain⟨⟨g4,g5⟩,E⟩:=ar E
  refine vr (mY Tryz.underlying9 z z g4 g5) (vr (cD z Tryz.underlying5 Tryz.underlying3) (vr (aO z z) (va (ii (i64.wrap (0+i64.wrap (sat hZ (u8.wrap a0))))) (nl (aj ?_)))))
  cases E
  exact⟨.inl z,_,tk0 z ⟨aB z (ad ai),z,H.bs⟩⟩
def iw.l0:Nat→Int→Int→Option (Int)
 |0,_,_=>none
 |k+1,x8,x9=>bif decide (8<x9)then(an (decide (0≤i64.wrap ((i64.wrap (x9-1))-8))) ((jP.f (bits .xor .u16 x8 (u16.wrap (285*2^min (i64.wrap ((i64.wrap (x9-1))-8)).toNat 16)))).bind fun x1=>iw.l0 k (bits .xor .u16 x8 (u16.wrap (285*2^min (i64.wrap ((i64.wrap (x9-1))-8)).toNat 16))) x1))else(some (u8.wrap x8))
def iw.f(k:Nat)(a0:Int):Option (Int):=(jP.f a0).bind fun x1=>iw.l0 k a0 x1
theorem iw.calls{w0:World}{k:Nat}{a0 r:Int}(E:iw.f k a0=some r):
 Calls aa 412 #[.int .u16 a0] w0 fun e w'=>e= .returned (iu r)∧St no w0 w' []:=by
 have H:=St.nil no w0
 unfold iw.f at E
 refine aP (N:=18) (args:=[.int .u16 a0]) Tryz.func412 z z (by simp) ?_
 refine rg (va (iu 0) (nl (ae (rg (vm (.int .u16 a0) ?_)))))
 obtain⟨x1,E2,E⟩:=ay E
 refine ye (au AG z ((jP.calls E2).mono ?_))
 rintro _ w ⟨rfl,K⟩
 have H:=H.app K
 refine⟨_,z,va (ii x1) (nl (aG ?_))⟩
 refine bx (fun kk t w=>∃(x8 x9:Int)(t1:Fr),kk≤k∧iw.l0 kk x8 x9=some r∧t=aU t1 [(0,.int .u16 x8),(2,iu 0),(3,ii x9),(1000000,undef)]∧St no w0 w []) k ?_ ?_
 ·exact⟨_,_,_,aI _,E,aD ⟨z,z,z,z,trivial⟩,H⟩
 rintro kk t w ⟨x8,x9,t1,hk1,E,rfl,H⟩
 obtain⟨k15,rfl⟩|rfl:=ks kk
 rotate_left
 ·cases E
 rw[iw.l0]at E
 refine ae (rg (vm (ii x9) (vr (dy z z) (nl ?_))))
 refine aE E z (fun c1 E=>?_) (fun c1 E=>?_)
 ·refine aA (ab (ae (aG (aH (vm (.int .u16 x8) (vm (ii x9) (vr (bV z z) (vr (bV z z) ?_))))))))
  obtain⟨g1,E⟩:=ar E
  refine vr (ox z z g1) (vr (ij z z) (va (.int .u16 (bits .xor .u16 x8 (u16.wrap (285*2^min (i64.wrap ((i64.wrap (x9-1))-8)).toNat 16)))) (aK (aR (ab (aH (vm (.int .u16 (bits .xor .u16 x8 (u16.wrap (285*2^min (i64.wrap ((i64.wrap (x9-1))-8)).toNat 16)))) ?_)))))))
  obtain⟨x2,E1,E⟩:=ay E
  refine ye (au AG z ((jP.calls E1).mono ?_))
  rintro _ w ⟨rfl,K⟩
  have H:=H.app K
  refine⟨_,z,va (ii x2) (aK ?_)⟩
  exact⟨k15,bL _,_,_,_,bK hk1,E,aD ⟨z,z,z,z,trivial⟩,H⟩
 ·refine bt (aM (aM (bu (ab (rg (vm (.int .u16 x8) (vr (cD z Tryz.underlying124 Tryz.underlying5) (va (iu (u8.wrap x8)) (nl (aj ?_))))))))))
  cases E
  exact⟨.inl z,_,tk0 z ⟨aB z (ad ai),z,H.bs⟩⟩
def rF.f(a0:Int):Option (Int):=bif decide (a0=0)then(some 64)else(an (decide ((0:Int)≤Int.fdiv (u64.wrap (bits .and .u64 a0 (u64.wrap (-a0))*285870213051353865)) (2^min (58:Int).toNat 64)∧Int.fdiv (u64.wrap (bits .and .u64 a0 (u64.wrap (-a0))*285870213051353865)) (2^min (58:Int).toNat 64)<64)) (some (i64.wrap (at_ 0 nC (Int.fdiv (u64.wrap (bits .and .u64 a0 (u64.wrap (-a0))*285870213051353865)) (2^min (58:Int).toNat 64))))))
theorem rF.calls{w0:World}{a0 r:Int}(hf:(Rs.gt).inv w0)(E:rF.f a0=some r):
 Calls aa 200 #[.int .u64 a0] w0 fun e w'=>e= .returned (ii r)∧St (Rs.gt).fp w0 w' [.gt]:=by
 have H:=St.start hf
 unfold rF.f at E
 refine aP (N:=14) (args:=[.int .u64 a0]) Tryz.func200 z z (by simp) ?_
 refine rg (va (ii 0) (nl (ae (rg (vm (.int .u64 a0) (vr (cg z z) (nl ?_)))))))
 refine aE E z (fun c1 E=>?_) (fun c1 E=>?_)
 ·refine rg (va (ii 64) (nl (aj ?_)))
  cases E
  exact(aL ⟨.inl z,_,tk0 z ⟨aB z (ad ai),z,H.bA 0 z⟩⟩)
 ·refine aA (ab (rg (vm (.int .u64 a0) (vm (.int .u64 a0) (vr (um z) (vr (jo z z) (vr (cF z z) (vr (fT z z (by decide)) ?_))))))))
  obtain⟨⟨g2,g3⟩,E⟩:=ar E
  refine vr (dm Jf z z g2 g3) (vr (av lE z (Ja (H.Gt 0 z) g2 g3)) (vr (cD z Tryz.underlying5 Tryz.underlying3) (va (ii (i64.wrap (at_ 0 nC (Int.fdiv (u64.wrap (bits .and .u64 a0 (u64.wrap (-a0))*285870213051353865)) (2^min (58:Int).toNat 64))))) (nl (aj ?_)))))
  cases E
  exact⟨.inl z,_,tk0 z ⟨aB z (ad ai),z,H.bA 0 z⟩⟩
def kv.f(a0:Int):Option (Int):=(rF.f a0).bind fun x1=>some x1
theorem kv.calls{w0:World}{a0 r:Int}(hf:(Rs.gt).inv w0)(E:kv.f a0=some r):
 Calls aa 139 #[.int .u64 a0] w0 fun e w'=>e= .returned (ii r)∧St (Rs.gt).fp w0 w' [.gt]:=by
 have H:=St.start hf
 unfold kv.f at E
 refine aP (N:=8) (args:=[.int .u64 a0]) Tryz.func139 z z (by simp) ?_
 refine rg (va (ii 0) (nl (ae (bS z (aA (ab (rg (vm (.int .u64 a0) ?_))))))))
 obtain⟨x1,E2,E⟩:=ay E
 refine ye (au Jh z ((rF.calls (H.Gt 0 z) E2).mono ?_))
 rintro _ w ⟨rfl,K⟩
 have H:=H.aV 0 z K
 refine⟨_,z,va (ii x1) (nl (aj ?_))⟩
 cases E
 exact⟨.inl z,_,tk0 z ⟨aB z (ad ai),z,H.bA 0 z⟩⟩
def ix.l0:Nat→Int→Int→Int→Option (Int)
 |0,_,_,_=>none
 |k+1,a0,x1,x2=>bif !decide (x2=0)then((kv.f x2).bind fun x3=>an (decide (0≤x3)) (ix.l0 k a0 (bits .xor .u16 x1 (u16.wrap (u16.wrap a0*2^min x3.toNat 16))) (bits .and .u64 x2 (u64.wrap (x2-1)))))else(some x1)
def ix.f(k:Nat)(a0 a1:Int):Option (Int):=ix.l0 k a0 0 (u64.wrap a1)
theorem ix.calls{w0:World}{k:Nat}{a0 a1 r:Int}(hf:(Rs.gt).inv w0)(E:ix.f k a0 a1=some r):
 Calls aa 413 #[iu a0,iu a1] w0 fun e w'=>e= .returned (.int .u16 r)∧St (Rs.gt).fp w0 w' [.gt]:=by
 have H:=St.start hf
 unfold ix.f at E
 refine aP (N:=18) (args:=[iu a0,iu a1]) Tryz.func413 z z (by simp) ?_
 have H:=H.mk0
 refine rg (ye (bc (cs:=#[iu a0]) H z (fun b1 w H=>va (.int .u16 0) (nl (rg (ye (cr Jw H (fun b2 w H=>nl (ae (rg (vm (iu a1) (vr (cD z Tryz.underlying5 Tryz.underlying167) (ye (cm 4 [.int .u64 (u64.wrap a1)] AH Tryz.func415 z z z z (rg (ye (bc (cs:=#[.int .u64 (u64.wrap a1)]) H z (fun b4 w H=>va (.nilFunc) (nl (rg (vr (dt [pt b4] z) (va (.func (.func 416) #[] #[pt b4]) (nl (aj (⟨.inl z,.func (.func 416) #[] #[pt b4],tk0 z ⟨ba z (ad ai) z,nl (aG (je 14 [pt b4] z Tryz.func416 z z z z z H 1 z z (fun v8 b5 o6 w hO7 H=>(aG ?_))))⟩⟩)))))))))))))))))))))))))
 refine bx (fun kk t w=>∃(x1 x2:Int)(t1:Fr),kk≤k∧ix.l0 kk a0 x1 x2=some r∧t=aU t1 [(0,.func (.yield b5) #[] #[]),(1,pt b4),(1000000,undef)]∧St (Rs.gt).fp w0 w [.gt,.bO v8,.blk b1 #[iu a0] 5,.blk b2 #[.int .u16 x1] 124,.blk b4 #[.int .u64 x2] 167,.obj b5 (.loop o6)]) k ?_ ?_
 ·exact⟨_,_,_,aI _,E,aD ⟨z,z,z,trivial⟩,H⟩
 rintro kk t w ⟨x1,x2,t1,hk1,E,rfl,H⟩
 obtain⟨k21,rfl⟩|rfl:=ks kk
 rotate_left
 ·cases E
 rw[ix.l0]at E
 refine ae (rg (vr (av mB z (ak (H.Gt 4 z) z)) (vr (cx z z) (nl ?_))))
 refine aE E z (fun c1 E=>?_) (fun c1 E=>?_)
 ·refine aA (ab (ae (aG (rg (vm (.func (.yield b5) #[] #[]) (vr (av mB z (ak (H.Gt 4 z) z)) ?_))))))
  obtain⟨x3,E1,E⟩:=ay E
  refine ye (au AF z ((kv.calls (H.Gt 0 z) E1).mono ?_))
  rintro _ w ⟨rfl,K⟩
  have H:=H.aV 0 z K
  refine⟨_,z,ye (jf [ii x3] z z H 5 z hO7 z z (aH (va (ii x3) (aK (yB H 5 z hO7 (fun w H=>aG (cd (ds:=[6]) pL H z z ?_)))))))⟩
  have H:=H.drew
  refine wz 0 z H (fun w H=>av AK z (ak (H.Gt 3 z) z)) (wz 1 z H (fun w H=>av lE z (ak (H.Gt 2 z) z)) (wg 2 z H (cD z Tryz.underlying5 Tryz.underlying124) (wm 3 z H (ii x3) ?_)))
  obtain⟨g1,E⟩:=ar E
  refine wg 4 z H (ox z z g1) (wg 5 z H (ij z z) (wo 6 z (cQ Jt H 3 z z z z z (fun w H=>⟨fun h=>(h (by decide)).elim,wd (aR (yN H 5 z hO7 (fun w H=>vr (bJ (v':=.bool false) (cp z) z) (nl (bS z (aA (aR (ab (aH (vr (av mB z (ak (H.Gt 4 z) z)) (vr (av mB z (ak (H.Gt 4 z) z)) (vr (bV z z) (vr (jo z z) (s_ (cQ AL H 4 z z z z z (fun w H=>aK ?_))))))))))))))))⟩))))
  exact⟨k21,bL _,_,_,_,bK hk1,E,aD ⟨z,z,z,trivial⟩,H⟩
 ·refine bt (aM (aM (bu (⟨.inr z,.tuple #[],tk0 z ⟨ba z ai z,ji H 5 z hO7 (fun w H=>aR (ab (rg (vr (av AK z (ak (H.Gt 3 z) z)) (va (.int .u16 x1) (nl (aj ?_)))))))⟩⟩))))
  cases E
  exact⟨.inl z,_,gT H 1 z z (fun w H=>⟨aB z (ad ai),z,H.bA 0 z⟩)⟩
def ju.f(k:Nat)(a0 a1:Int):Option (Int):=(ix.f k a0 a1).bind fun x1=>(iw.f k x1).bind fun x3=>some x3
theorem ju.calls{w0:World}{k:Nat}{a0 a1 r:Int}(hf:(Rs.gt).inv w0)(E:ju.f k a0 a1=some r):
 Calls aa 411 #[iu a0,iu a1] w0 fun e w'=>e= .returned (iu r)∧St (Rs.gt).fp w0 w' [.gt]:=by
 have H:=St.start hf
 unfold ju.f at E
 refine aP (N:=9) (args:=[iu a0,iu a1]) Tryz.func411 z z (by simp) ?_
 refine rg (va (iu 0) (nl (rg (vm (iu a0) (vm (iu a1) ?_)))))
 obtain⟨x1,E2,E⟩:=ay E
 refine ye (au Jj z ((ix.calls (H.Gt 0 z) E2).mono ?_))
 rintro _ w ⟨rfl,K⟩
 have H:=H.aV 0 z K
 refine⟨_,z,?_⟩
 obtain⟨x3,E4,E⟩:=ay E
 refine ye (au Ji z ((iw.calls E4).mono ?_))
 rintro _ w ⟨rfl,K⟩
 have H:=H.app K
 refine⟨_,z,va (iu x3) (nl (aj ?_))⟩
 cases E
 exact⟨.inl z,_,tk0 z ⟨aB z (ad ai),z,H.bA 0 z⟩⟩
def kP.f(k:Nat)(a1 a2:Int):Option (Int):=(ju.f k a1 a2).bind fun x2=>some x2
theorem kP.calls{w0:World}{k:Nat}{a1 a2 r:Int}(hf:(Rs.gt).inv w0)(E:kP.f k a1 a2=some r):
 Calls aa 420 #[.agg #[],iu a1,iu a2] w0 fun e w'=>e= .returned (iu r)∧St (Rs.gt).fp w0 w' [.gt]:=by
 have H:=St.start hf
 unfold kP.f at E
 refine aP (N:=10) (args:=[.agg #[],iu a1,iu a2]) Tryz.func420 z z (by simp) ?_
 refine rg (ye (bc (cs:=#[]) H z (fun b1 w H=>va (iu 0) (nl (rg (vm (iu a1) (vm (iu a2) ?_)))))))
 obtain⟨x2,E3,E⟩:=ay E
 refine ye (au tl z ((ju.calls (H.Gt 0 z) E3).mono ?_))
 rintro _ w ⟨rfl,K⟩
 have H:=H.aV 0 z K
 refine⟨_,z,va (iu x2) (nl (aj ?_))⟩
 cases E
 exact⟨.inl z,_,tk0 z ⟨aB z (ad ai),z,H.bA 0 z⟩⟩
mutual
def dC.l0:Nat→Int→Int→Int→Int→Option (Int)
 |0,_,_,_,_=>none
 |k+1,x1,x2,x3,x4=>bif !decide (x4=0)then((kv.f x4).bind fun x5=>dC.l1 k x2 x3 x4 x5 x1 0)else(some x2)
def dC.l1:Nat→Int→Int→Int→Int→Int→Int→Option (Int)
 |0,_,_,_,_,_,_=>none
 |k+1,x2,x3,x4,x5,x6,x7=>bif decide (x7<i64.wrap (x5-x3))then((ju.f k x6 x6).bind fun x8=>dC.l1 k x2 x3 x4 x5 x8 (i64.wrap (x7+1)))else((ju.f k x2 x6).bind fun x9=>dC.l0 k x6 x9 x5 (bits .and .u64 x4 (u64.wrap (x4-1))))
end
def dC.f(k:Nat)(a0 a1:Int):Option (Int):=dC.l0 k a0 1 0 a1
theorem dC.calls{w0:World}{k:Nat}{a0 a1 r:Int}(hf:(Rs.gt).inv w0)(E:dC.f k a0 a1=some r):
 Calls aa 425 #[iu a0,.int .u64 a1] w0 fun e w'=>e= .returned (iu r)∧St (Rs.gt).fp w0 w' [.gt]:=by
 have H:=St.start hf
 unfold dC.f at E
 refine aP (N:=23) (args:=[iu a0,.int .u64 a1]) Tryz.func425 z z (by simp) ?_
 have H:=H.mk0
 refine rg (ye (bc (cs:=#[iu a0]) H z (fun b1 w H=>va (iu 0) (nl (rg (ye (cr Jz H (fun b2 w H=>ye (cr Jy H (fun b3 w H=>s_ (cQ nQ H 3 z z z z z (fun w H=>s_ (cQ AM H 4 z z z z z (fun w H=>nl (rg ?_)))))))))))))))
 have H:St (Rs.gt).fp w0 _ [.gt,.bO undef,.blk b1 #[iu a0] 5,.blk b2 #[iu 1] 5,.blk b3 #[ii 0] 3]:=H
 refine vr (dt [pt b1] z) (ye (cr Jx H (fun b4 w H=>s_ (cQ Ju H 5 z z z z z (fun w H=>nl (ae (rg (vm (.int .u64 a1) (ye (cm 4 [.int .u64 a1] AH Tryz.func415 z z z z (rg (ye (bc (cs:=#[.int .u64 a1]) H z (fun b6 w H=>va (.nilFunc) (nl (rg (vr (dt [pt b6] z) (va (.func (.func 416) #[] #[pt b6]) (nl (aj (⟨.inl z,.func (.func 416) #[] #[pt b6],tk0 z ⟨ba z (ad ai) z,nl (aG (je 14 [pt b6] z Tryz.func416 z z z z z H 1 z z (fun v1 b7 o8 w hO9 H=>(aG ?_))))⟩⟩)))))))))))))))))))))
 refine bx (fun kk t w=>∃(x1 x2 x3 x4:Int)(t1:Fr),kk≤k∧dC.l0 kk x1 x2 x3 x4=some r∧t=aU t1 [(0,.func (.yield b7) #[] #[]),(1,pt b6),(1000000,undef)]∧St (Rs.gt).fp w0 w [.gt,.bO v1,.blk b1 #[iu x1] 5,.blk b2 #[iu x2] 5,.blk b3 #[ii x3] 3,.blk b4 #[.func (.func 426) #[] #[pt b1]] 268,.blk b6 #[.int .u64 x4] 167,.obj b7 (.loop o8)]) k ?_ ?_
 ·exact⟨_,_,_,_,_,aI _,E,aD ⟨z,z,z,trivial⟩,H⟩
 rintro kk t w ⟨x1,x2,x3,x4,t1,hk1,E,rfl,H⟩
 obtain⟨k1,rfl⟩|rfl:=ks kk
 rotate_left
 ·cases E
 rw[dC.l0]at E
 refine ae (rg (vr (av mB z (ak (H.Gt 6 z) z)) (vr (cx z z) (nl ?_))))
 refine aE E z (fun c1 E=>?_) (fun c1 E=>?_)
 ·refine aA (ab (ae (aG (rg (vm (.func (.yield b7) #[] #[]) (vr (av mB z (ak (H.Gt 6 z) z)) ?_))))))
  obtain⟨x5,E1,E⟩:=ay E
  refine ye (au AF z ((kv.calls (H.Gt 0 z) E1).mono ?_))
  rintro _ w ⟨rfl,K⟩
  have H:=H.aV 0 z K
  refine⟨_,z,ye (jf [ii x5] z z H 7 z hO9 z z (aH (va (ii x5) (aK (yB H 7 z hO9 (fun w H=>aG (rg (vr (av Js z (ak (H.Gt 5 z) z)) (vm (ii x5) (vr (av jO z (ak (H.Gt 4 z) z)) (vr (bV z z) (ye (kK 10 [ii (i64.wrap (x5-x3)),pt b1] z Jo Tryz.func426 z z z z (rg (vm (ii (i64.wrap (x5-x3))) (vm (ii 0) (nl (aG ?_))))))))))))))))))⟩
  refine bx (fun kk t w=>∃(x6 x7:Int)(t2:Fr),kk≤k1∧dC.l1 kk x2 x3 x4 x5 x6 x7=some r∧t=aU t2 [(1,pt b1),(3,ii (i64.wrap (x5-x3))),(4,ii x7),(1000000,undef)]∧St (Rs.gt).fp w0 w [.gt,.bO v1,.blk b1 #[iu x6] 5,.blk b2 #[iu x2] 5,.blk b3 #[ii x3] 3,.blk b4 #[.func (.func 426) #[] #[pt b1]] 268,.blk b6 #[.int .u64 x4] 167,.obj b7 (.loop (ku o8))]) k1 ?_ ?_
  ·exact⟨_,_,_,aI _,E,aD ⟨z,z,z,z,trivial⟩,H⟩
  rintro kk t w ⟨x6,x7,t2,hk2,E,rfl,H⟩
  obtain⟨k2,rfl⟩|rfl:=ks kk
  rotate_left
  ·cases E
  rw[dC.l1]at E
  refine rg (vr (aZ z z) (nl (ae ?_)))
  refine aE E z (fun c2 E=>?_) (fun c2 E=>?_)
  ·refine aA (ab (ae (aG (aH (vr (av lE z (ak (H.Gt 2 z) z)) (vr (av lE z (ak (H.Gt 2 z) z)) ?_))))))
   obtain⟨x8,E2,E⟩:=ay E
   refine ye (au tl z ((ju.calls (H.Gt 0 z) E2).mono ?_))
   rintro _ w ⟨rfl,K⟩
   have H:=H.aV 0 z K
   refine⟨_,z,s_ (cQ nQ H 2 z z z z z (fun w H=>aK (aR (ab (aH (vr (aO z z) (vm (ii (i64.wrap (x7+1))) (aK ?_))))))))⟩
   exact⟨k2,bL _,_,_,_,bK hk2,E,aD ⟨z,z,z,z,trivial⟩,H⟩
  ·refine bt (aM (aM (bu (⟨.inr z,.tuple #[],tk0 z ⟨ba z ai z,nl (aH (vr (av lE z (ak (H.Gt 3 z) z)) (vr (av lE z (ak (H.Gt 2 z) z)) ?_)))⟩⟩))))
   obtain⟨x9,E3,E⟩:=ay E
   refine ye (au tl z ((ju.calls (H.Gt 0 z) E3).mono ?_))
   rintro _ w ⟨rfl,K⟩
   have H:=H.aV 0 z K
   refine⟨_,z,vm (ii x5) (s_ (cQ nQ H 3 z z z z z (fun w H=>s_ (cQ AM H 4 z z z z z (fun w H=>aK (aR (yN H 7 z hO9 (fun w H=>vr (bJ (v':=.bool false) (cp z) z) (nl (bS z (aA (aR (ab (aH (vr (av mB z (ak (H.Gt 6 z) z)) (vr (av mB z (ak (H.Gt 6 z) z)) (vr (bV z z) (vr (jo z z) (s_ (cQ AL H 6 z z z z z (fun w H=>aK ?_)))))))))))))))))))))⟩
   exact⟨k2,by omega,_,_,_,_,_,by omega,E,aD ⟨z,z,z,trivial⟩,H⟩
 ·refine bt (aM (aM (bu (⟨.inr z,.tuple #[],tk0 z ⟨ba z ai z,ji H 7 z hO9 (fun w H=>aR (ab (rg (vr (av lE z (ak (H.Gt 3 z) z)) (va (iu x2) (nl (aj ?_)))))))⟩⟩))))
  cases E
  exact⟨.inl z,_,gT H 1 z z (fun w H=>⟨aB z (ad ai),z,H.bA 0 z⟩)⟩
def ql.f(k:Nat)(a0:Int):Option (Int×Bool):=bif decide (a0=0)then(some (0,false))else((dC.f k a0 254).bind fun x3=>some (x3,true))
theorem ql.calls{w0:World}{k:Nat}{a0:Int}{r:Int×Bool}(hf:(Rs.gt).inv w0)(E:ql.f k a0=some r):
 Calls aa 423 #[iu a0] w0 fun e w'=>e= .returned (.tuple #[iu r.1,.bool r.2])∧St (Rs.gt).fp w0 w' [.gt]:=by
 have H:=St.start hf
 unfold ql.f at E
 refine aP (N:=8) (args:=[iu a0]) Tryz.func423 z z (by simp) ?_
 refine rg (va (iu 0) (va (.bool false) (nl (ae (rg (vm (iu a0) (vr (cg z z) (nl ?_))))))))
 refine aE E z (fun c2 E=>?_) (fun c2 E=>?_)
 ·refine rg (va (iu 0) (va (.bool false) (nl (aj ?_))))
  cases E
  exact(aL ⟨.inl z,_,tk0 z ⟨aB z (ad (ad ai)),z,H.bA 0 z⟩⟩)
 ·refine aA (ab (rg (vm (iu a0) ?_)))
  obtain⟨x3,E4,E⟩:=ay E
  refine ye (au AI z ((dC.calls (H.Gt 0 z) E4).mono ?_))
  rintro _ w ⟨rfl,K⟩
  have H:=H.aV 0 z K
  refine⟨_,z,va (iu x3) (va (.bool true) (nl (aj ?_)))⟩
  cases E
  exact⟨.inl z,_,tk0 z ⟨aB z (ad (ad ai)),z,H.bA 0 z⟩⟩
def nL.f(k:Nat)(a1:Int):Option (Int×Bool):=(ql.f k a1).bind fun x2=>some (x2.1,x2.2)
theorem nL.calls{w0:World}{k:Nat}{a1:Int}{r:Int×Bool}(hf:(Rs.gt).inv w0)(E:nL.f k a1=some r):
 Calls aa 419 #[.agg #[],iu a1] w0 fun e w'=>e= .returned (.tuple #[iu r.1,.bool r.2])∧St (Rs.gt).fp w0 w' [.gt]:=by
 have H:=St.start hf
 unfold nL.f at E
 refine aP (N:=10) (args:=[.agg #[],iu a1]) Tryz.func419 z z (by simp) ?_
 refine rg (ye (bc (cs:=#[]) H z (fun b1 w H=>va (iu 0) (va (.bool false) (nl (rg (vm (iu a1) ?_)))))))
 obtain⟨x2,E3,E⟩:=ay E
 refine ye (au Jm z ((ql.calls (H.Gt 0 z) E3).mono ?_))
 rintro _ w ⟨rfl,K⟩
 have H:=H.aV 0 z K
 refine⟨_,z,vr (aX z z) (vr (aX z z) (va (iu x2.1) (va (.bool x2.2) (nl (aj ?_)))))⟩
 cases E
 exact⟨.inl z,_,tk0 z ⟨aB z (ad (ad ai)),z,H.bA 0 z⟩⟩
def fy.j1(k:Nat)(a0 x1:Int):Option (Int):=(dC.f k a0 (u64.wrap x1)).bind fun x2=>some x2
def fy.j0(k:Nat)(a0 x4:Int):Option (Int):=bif decide (Int.tmod x4 255<0)then(fy.j1 k a0 (i64.wrap (Int.tmod x4 255+255)))else(fy.j1 k a0 (Int.tmod x4 255))
def fy.f(k:Nat)(a0 a1:Int):Option (Int):=bif decide (a0=0)then(bif !decide (a1=0)then(some 0)else(fy.j0 k a0 a1))else(fy.j0 k a0 a1)
theorem fy.calls{w0:World}{k:Nat}{a0 a1 r:Int}(hf:(Rs.gt).inv w0)(E:fy.f k a0 a1=some r):
 Calls aa 424 #[iu a0,ii a1] w0 fun e w'=>e= .returned (iu r)∧St (Rs.gt).fp w0 w' [.gt]:=by
 have H:=St.start hf
 unfold fy.f at E
 refine aP (N:=21) (args:=[iu a0,ii a1]) Tryz.func424 z z (by simp) ?_
 refine rg (va (iu 0) (nl ?_))
 refine cA (fun t w=>∃(k6:Nat)(x4:Int)(t5:Fr),k6≤k∧fy.j0 k6 a0 x4=some r∧t=aU t5 [(0,iu a0),(1,ii x4),(4,iu 0),(1000000,undef)]∧St (Rs.gt).fp w0 w [.gt]) ?_ ?_
 ·refine rg (vm (iu a0) (vr (cg z z) (vm (.bool (decide (a0=0))) ?_)))
  rcases bR (decide (a0=0))with c8|c8
  ·have E:=iT c8 E
   refine oo c8 z (mv (ii a1) z) (oo c8 z (cx z z) (vr (pT (.bool (!decide (a1=0))) z z c8) (nl ?_)))
   refine aE E z (fun c9 E=>?_) (fun c9 E=>?_)
   ·refine rg (va (iu 0) (nl (aj ?_)))
    cases E
    exact(aL ⟨.inl z,_,tk0 z ⟨aB z (ad ai),z,H.bA 0 z⟩⟩)
   ·refine aA ?_
    exact⟨k,_,_,aI _,E,aD ⟨z,z,z,z,trivial⟩,H⟩
  ·have E:=iF c8 E
   refine ow c8 z (ow c8 z (vr (pF (.bool false) z z c8) (nl (bS z (aA ?_)))))
   exact⟨k,_,_,aI _,E,aD ⟨z,z,z,z,trivial⟩,H⟩
 rintro t w ⟨k6,x4,t5,hk7,E,rfl,H⟩
 unfold fy.j0 at E
 refine rg (vm (ii x4) (vr (fg z z (by decide)) (va (ii (Int.tmod x4 255)) (nl ?_))))
 refine cA (fun t w=>∃(k14:Nat)(x1:Int)(t1:Fr),k14≤k6∧fy.j1 k14 a0 x1=some r∧t=aU t1 [(0,iu a0),(1,ii x1),(4,iu 0),(1000000,undef)]∧St (Rs.gt).fp w0 w [.gt]) ?_ ?_
 ·refine rg (vm (ii (Int.tmod x4 255)) (vr (aZ z z) (nl ?_)))
  refine aE E z (fun c1 E=>?_) (fun c1 E=>?_)
  ·refine aH (vm (ii (Int.tmod x4 255)) (vr (aO z z) (va (ii (i64.wrap (Int.tmod x4 255+255))) (aK ?_))))
   exact⟨k6,_,_,aI _,E,aD ⟨z,z,z,z,trivial⟩,H⟩
  ·refine aA ?_
   exact⟨k6,_,_,aI _,E,aD ⟨z,z,z,z,trivial⟩,H⟩
 rintro t w ⟨k14,x1,t1,hk1,E,rfl,H⟩
 unfold fy.j1 at E
 refine rg (vm (iu a0) (vm (ii x1) (vr (cD z Tryz.underlying3 Tryz.underlying167) ?_)))
 obtain⟨x2,E1,E⟩:=ay E
 refine ye (au AI z ((dC.calls (H.Gt 0 z) E1).mono ?_))
 rintro _ w ⟨rfl,K⟩
 have H:=H.aV 0 z K
 refine⟨_,z,va (iu x2) (nl (aj ?_))⟩
 cases E
 exact⟨.inl z,_,tk0 z ⟨aB z (ad ai),z,H.bA 0 z⟩⟩
def nM.f(k:Nat)(a1 a2:Int):Option (Int):=(fy.f k a1 a2).bind fun x2=>some x2
theorem nM.calls{w0:World}{k:Nat}{a1 a2 r:Int}(hf:(Rs.gt).inv w0)(E:nM.f k a1 a2=some r):
 Calls aa 421 #[.agg #[],iu a1,ii a2] w0 fun e w'=>e= .returned (iu r)∧St (Rs.gt).fp w0 w' [.gt]:=by
 have H:=St.start hf
 unfold nM.f at E
 refine aP (N:=10) (args:=[.agg #[],iu a1,ii a2]) Tryz.func421 z z (by simp) ?_
 refine rg (ye (bc (cs:=#[]) H z (fun b1 w H=>va (iu 0) (nl (rg (vm (iu a1) (vm (ii a2) ?_)))))))
 obtain⟨x2,E3,E⟩:=ay E
 refine ye (au Jn z ((fy.calls (H.Gt 0 z) E3).mono ?_))
 rintro _ w ⟨rfl,K⟩
 have H:=H.aV 0 z K
 refine⟨_,z,va (iu x2) (nl (aj ?_))⟩
 cases E
 exact⟨.inl z,_,tk0 z ⟨aB z (ad ai),z,H.bA 0 z⟩⟩
def iL.l0:Nat→List Int→List Int→List (Int)→Int→Option (List Int)
 |0,_,_,_,_=>none
 |k+1,a1,a2,l1,x1=>bif decide (x1<(a1.length:Int))then(an (decide ((0:Int)≤x1∧x1<(a1.length:Int))) (an (decide ((0:Int)≤x1∧x1<(a2.length:Int))) ((kP.f k (at_ 0 a1 x1) (at_ 0 a2 x1)).bind fun x2=>an (decide ((0:Int)≤x1∧x1<(l1.length:Int))) (iL.l0 k a1 a2 (l1.set x1.toNat x2) (i64.wrap (x1+1))))))else(some l1)
def iL.f(k:Nat)(a1 a2:List Int):Option (List Int):=an (decide ((0:Int)≤(a1.length:Int)∧(a1.length:Int)≤(a1.length:Int)∧(a1.length:Int)≤140737488355328)) (iL.l0 k a1 a2 (List.replicate (a1.length:Int).toNat (0:Int)) 0)
theorem iL.calls{w0:World}{k:Nat}{a1 a2:List Int}{v1_ v2_:Value}{r:List Int}(hf:(Rs.gt).inv w0)(h1:Rd (.of (.int .u8)) w0 (Ol (Rs.gt).fp w0) v1_ a1)(h2:Rd (.of (.int .u8)) w0 (Ol (Rs.gt).fp w0) v2_ a2)(E:iL.f k a1 a2=some r):
 Calls aa 422 #[.agg #[],v1_,v2_] w0 fun e w'=>∃(u0:Value),e= .returned (u0)∧St (Rs.gt).fp w0 w' [.gt,.own (.int .u8) 5 u0 r]:=by
 have H:=St.start hf
 unfold iL.f at E
 refine aP (N:=12) (args:=[.agg #[],v1_,v2_]) Tryz.func422 z z (by simp) ?_
 refine rg (ye (bc (cs:=#[]) H z (fun b1 w H=>va sn (nl (rg (vr (bp (l:=[]) Jc (H.Gt 1 z) z z z) (vr (gw [.agg #[]] [] z z) (vm v1_ (vm v2_ (ye (cm 32 [.func (.func 420) #[.agg #[]] #[],v1_,v2_] Jk Tryz.func418 z z z z (rg (va sn (nl (rg (vm v1_ (vr (aY tp (H.rd h1) z) ?_)))))))))))))))))
 obtain⟨⟨g1,g2,g3⟩,E⟩:=ar E
 refine ye (ee (e:=(.int .u8)) (z0:=0) tn z H z z g1 g2 (by omega) (by omega) (fun v1 w H=>va v1 (nl (ae (rg (vm v1_ (vr (aY tp (H.rd h1) z) (vm (ii 0) (nl (aG ?_))))))))))
 refine bx (fun kk t w=>∃(l1:List Int)(x1:Int)(t1:Fr),kk≤k∧iL.l0 kk a1 a2 l1 x1=some r∧t=aU t1 [(0,.func (.func 420) #[.agg #[]] #[]),(1,v1_),(2,v2_),(6,sn),(7,v1),(13,ii (a1.length:Int)),(14,ii x1),(1000000,undef)]∧St (Rs.gt).fp w0 w [.gt,.blk b1 #[] 187,.own (.int .u8) 5 v1 l1]) k ?_ ?_
 ·exact⟨_,_,_,aI _,E,aD ⟨z,z,z,z,z,z,z,z,trivial⟩,H⟩
 rintro kk t w ⟨l1,x1,t1,hk1,E,rfl,H⟩
 obtain⟨k1,rfl⟩|rfl:=ks kk
 rotate_left
 ·cases E
 rw[iL.l0]at E
 refine rg (vr (aZ z z) (nl (ae ?_)))
 refine aE E z (fun c1 E=>?_) (fun c1 E=>?_)
 ·refine aA (ab (ae (aG (rg (vm (ii x1) (va (ii x1) (nl (cd (ds:=[13]) pL H z z ?_))))))))
  have H:=H.drew
  refine wm 0 z H v1 (wm 1 z H (ii x1) (wm 2 z H (.func (.func 420) #[.agg #[]] #[]) (wm 3 z H v1_ (wm 4 z H (ii x1) ?_))))
  obtain⟨⟨g4,g5⟩,E⟩:=ar E
  refine wz 5 z H (fun w H=>bo tn (H.rd h1) z z g4 g5) (wz 6 z H (fun w H=>bq lE (H.rd h1) g4 g5 z) (wm 7 z H v2_ (wm 8 z H (ii x1) ?_)))
  obtain⟨⟨g6,g7⟩,E⟩:=ar E
  refine wz 9 z H (fun w H=>bo tn (H.rd h2) z z g6 g7) (wz 10 z H (fun w H=>bq lE (H.rd h2) g6 g7 z) ?_)
  obtain⟨x2,E1,E⟩:=ay E
  refine wo 11 z (qv z Jl z ((kP.calls (H.Gt 0 z) E1).mono ?_))
  rintro _ w ⟨rfl,K⟩
  have H:=H.aV 0 z K
  refine⟨_,z,⟨fun _=>H.ag [0,1,2] z z,?_⟩⟩
  obtain⟨⟨g8,g9⟩,E⟩:=ar E
  refine wz 12 z (H.ag [0,1,2] z z) (fun w H=>bo tn (ao (H.Gt 2 z)) z z g8 g9) (wo 13 z (dc nQ H 2 z g8 g9 z z (fun w H=>⟨fun h=>(h (by decide)).elim,wd (aR (ab (aH (vr (aO z z) (vm (ii (i64.wrap (x1+1))) (aK ?_))))))⟩)))
  exact⟨k1,bL _,_,_,_,bK hk1,E,aD ⟨z,z,z,z,z,z,z,z,trivial⟩,H⟩
 ·refine bt (aM (aM (bu (ab (rg (vm v1 (va v1 (nl (aj (⟨.inl z,v1,tk0 z ⟨ba z (ad ai) z,va v1 (nl (aj ?_))⟩⟩))))))))))
  cases E
  exact⟨.inl z,_,tk0 z ⟨aB z (ad ai),_,z,H.bN 0 2 z z z⟩⟩
def fX.j0(k:Nat)(l1:List Int):Option (List Int):=some l1
def fX.l0:Nat→List Int→Int→Int→Option (List Int)
 |0,_,_,_=>none
 |k+1,l1,x1,x2=>bif decide (x2<255)then(an (decide ((0:Int)≤x2∧x2<510)) (an (decide ((0:Int)≤i64.wrap (x2+255)∧i64.wrap (x2+255)<510)) (an (decide ((0:Int)≤x1∧x1<256)) ((ju.f k x1 2).bind fun x3=>fX.l0 k (((l1.set (0+x2.toNat) x1).set (0+(i64.wrap (x2+255)).toNat) x1).set (510+x1.toNat) (u8.wrap x2)) x3 (i64.wrap (x2+1))))))else(fX.j0 k l1)
def fX.f(k:Nat):Option (List Int):=fX.l0 k (List.replicate 766 (0:Int)) 1 0
theorem fX.calls{w0:World}{k t0_:Nat}{r:List Int}(hf:St (Rs.cn t0_ true).fp w0 w0 [.blk t0_ (([.int .u32 0,.int .i32 1,.int .u32 0,.int .i32 0]:List Value)++(List.replicate 766 (0:Int)).map (Value.int .u8)).toArray 278,.gt])(E:fX.f k=some r):
 Calls aa 406 #[pt t0_] w0 fun e w'=>e= .returned (.tuple #[])∧St (Rs.cn t0_ true).fp w0 w' [.blk t0_ (([.int .u32 0,.int .i32 1,.int .u32 0,.int .i32 1]:List Value)++r.map (Value.int .u8)).toArray 278,.gt]:=by
 have H:=hf
 unfold fX.f at E
 refine aP (N:=33) (args:=[pt t0_]) Tryz.func406 z z (by simp) ?_
 refine rg (ye (D6 (n:=766) JA H (fun b1 w H=>nl (rg (va (iu 1) (nl ?_))))))
 refine cA (fun t w=>∃(k1:Nat)(l1:List Int)(t1:Fr),k1≤k∧fX.j0 k1 l1=some r∧t=aU t1 [(0,pt t0_),(2,pt b1),(1000000,undef)]∧St (Rs.cn t0_ true).fp w0 w [.blk t0_ (([.int .u32 0,.int .i32 1,.int .u32 0,.int .i32 0]:List Value)++(List.replicate 766 (0:Int)).map (Value.int .u8)).toArray 278,.gt,.own (.int .u8) 276 (.slice (some ⟨b1,0,none⟩) 766 766) l1]) ?_ ?_
 ·refine rg (vm (ii 0) (nl (aG ?_)))
  refine bx (fun kk t w=>∃(l2:List Int)(x1 x2:Int)(t2:Fr),kk≤k∧fX.l0 kk l2 x1 x2=some r∧t=aU t2 [(0,pt t0_),(2,pt b1),(3,iu x1),(5,ii x2),(1000000,undef)]∧St (Rs.cn t0_ true).fp w0 w [.blk t0_ (([.int .u32 0,.int .i32 1,.int .u32 0,.int .i32 0]:List Value)++(List.replicate 766 (0:Int)).map (Value.int .u8)).toArray 278,.gt,.own (.int .u8) 276 (.slice (some ⟨b1,0,none⟩) 766 766) l2]) k ?_ ?_
  ·exact⟨_,_,_,_,aI _,E,aD ⟨z,z,z,z,z,trivial⟩,H⟩
  rintro kk t w ⟨l2,x1,x2,t2,hk1,E,rfl,H⟩
  obtain⟨k2,rfl⟩|rfl:=ks kk
  rotate_left
  ·cases E
  rw[fX.l0]at E
  refine rg (vr (aZ z z) (nl (ae ?_)))
  refine aE E z (fun c1 E=>?_) (fun c1 E=>?_)
  ·refine aA (ab (ae (aG (rg (vm (ii x2) (va (ii x2) (nl (rg (vm (ii x2) (vm (ii x2) (vr (aO z z) (vm (iu x1) (vm (iu x1) (vr (az AJ z) ?_))))))))))))))
   obtain⟨⟨g1,g2⟩,E⟩:=ar E
   refine vr (dm AE z z g1 g2) (s_ (nn nQ H 2 z (by omega) z z (fun w H=>vr (az AJ z) ?_)))
   obtain⟨⟨g3,g4⟩,E⟩:=ar E
   refine vr (dm AE z z g3 g4) (s_ (nn nQ H 2 z (by omega) z z (fun w H=>nl (rg (vm (iu x1) (vm (ii x2) (vr (cD z Tryz.underlying3 Tryz.underlying5) (vr (az Jp z) ?_))))))))
   obtain⟨⟨g5,g6⟩,E⟩:=ar E
   refine vr (dm Je z z g5 g6) (s_ (nn nQ H 2 z (by omega) z z (fun w H=>nl (aH (vm (iu x1) ?_)))))
   obtain⟨x3,E1,E⟩:=ay E
   refine ye (au tl z ((ju.calls (H.Gt 1 z) E1).mono ?_))
   rintro _ w ⟨rfl,K⟩
   have H:=H.aV 1 z K
   refine⟨_,z,va (iu x3) (aK (aR (ab (aH (vr (aO z z) (vm (ii (i64.wrap (x2+1))) (aK ?_)))))))⟩
   exact⟨k2,bL _,_,_,_,_,bK hk1,E,aD ⟨z,z,z,z,z,trivial⟩,H⟩
  ·refine bt (aM (aM (bu ?_)))
   exact⟨k2,_,_,by omega,E,aD ⟨z,z,z,trivial⟩,H⟩
 rintro t w ⟨k1,l1,t1,hk2,E,rfl,H⟩
 unfold fX.j0 at E
 refine rg (vm (pt t0_) (vr (OC Jd (H.Gt 2 z) z) (vr (bw z) (vr (az Jr z) (s_ (Rb Jv H 0 2 z z (by simp) z z (fun w H=>nl (aH (vm (pt t0_) (vr (bw z) (vr (az Jq z) (ye (QO Jg H 0 z z trivial (fun w H=>aK ?_))))))))))))))
 cases E
 exact⟨.inr z,_,tk0 z ⟨aB z ai,z,H.bN 0 1 z z z⟩⟩
end Go.Proofs.YtmhkpafkadijgaaGreatDoor.Gw
