/- A part of the proof of Rows.PlayDecodesCardSaid; the conditions are that card's own. -/
import Derived.Test.YtmhkpafkadijgaaGreatDoorQ4
import Derived.Test.YtmhkpafkadijgaaGreatDoorQA
set_option linter.all false
set_option maxRecDepth 100000
set_option maxHeartbeats 4000000
namespace Go.Proofs.YtmhkpafkadijgaaGreatDoor.Gw
open Go Go.RowKit
variable[de]
open Go.IntKind (i8 i16 i32 i64 u8 u16 u32 u64)
open Tryz hiding prog
open Tryz renaming prog → aa
theorem tn:Sl aa 22 5 1 1 (iu 0):=ja underlying22 d_ z f_
def hZ:ByteArray:=⟨#[0,1,2,2,3,3,3,3,4,4,4,4,4,4,4,4,5,5,5,5,5,5,5,5,5,5,5,5,5,5,5,5,6,6,6,6,6,6,6,6,6,6,6,6,6,6,6,6,6,6,6,6,6,6,6,6,6,6,6,6,6,6,6,6,7,7,7,7,7,7,7,7,7,7,7,7,7,7,7,7,7,7,7,7,7,7,7,7,7,7,7,7,7,7,7,7,7,7,7,7,7,7,7,7,7,7,7,7,7,7,7,7,7,7,7,7,7,7,7,7,7,7,7,7,7,7,7,7,8,8,8,8,8,8,8,8,8,8,8,8,8,8,8,8,8,8,8,8,8,8,8,8,8,8,8,8,8,8,8,8,8,8,8,8,8,8,8,8,8,8,8,8,8,8,8,8,8,8,8,8,8,8,8,8,8,8,8,8,8,8,8,8,8,8,8,8,8,8,8,8,8,8,8,8,8,8,8,8,8,8,8,8,8,8,8,8,8,8,8,8,8,8,8,8,8,8,8,8,8,8,8,8,8,8,8,8,8,8,8,8,8,8,8,8,8,8,8,8,8,8,8,8,8,8,8,8]⟩
theorem AG:En aa 414:=⟨_,_,func414,d_,z⟩
theorem Jf:Ar aa 339 64 1:=⟨_,underlying339,d_⟩
theorem lE:Sc aa 5:=⟨_,underlying5,z⟩
theorem Jh:En aa 200:=⟨_,_,func200,d_,z⟩
theorem Jw:Zr aa 124 #[.int .u16 0]:=⟨.int .u16 0,d_,z⟩
theorem AH:En aa 415:=⟨_,_,func415,d_,z⟩
theorem mB:Sc aa 167:=⟨_,underlying167,z⟩
theorem AF:En aa 139:=⟨_,_,func139,d_,z⟩
theorem pL:Tryz.prog.follows .mixedOrders=true:=d_
theorem AK:Sc aa 124:=⟨_,underlying124,z⟩
theorem Jt:Sz aa 124 1:=K_
theorem AL:Sz aa 167 1:=K_
theorem Jj:En aa 413:=⟨_,_,func413,d_,z⟩
theorem Ji:En aa 412:=⟨_,_,func412,d_,z⟩
theorem tl:En aa 411:=⟨_,_,func411,d_,z⟩
theorem Jz:Zr aa 5 #[iu 0]:=⟨iu 0,d_,z⟩
theorem Jy:Zr aa 3 #[ii 0]:=⟨ii 0,d_,z⟩
theorem nQ:Sz aa 5 1:=K_
theorem AM:Sz aa 3 1:=K_
theorem Jx:Zr aa 268 #[.nilFunc]:=⟨.nilFunc,d_,z⟩
theorem Ju:Sz aa 268 1:=K_
theorem Js:Sc aa 268:=⟨_,underlying268,z⟩
theorem jO:Sc aa 3:=⟨_,underlying3,z⟩
theorem Jo:En aa 426:=⟨_,_,func426,d_,z⟩
theorem AI:En aa 425:=⟨_,_,func425,d_,z⟩
theorem Jm:En aa 423:=⟨_,_,func423,d_,z⟩
theorem Jn:En aa 424:=⟨_,_,func424,d_,z⟩
theorem Jc:Ag aa 187 0:=⟨_,underlying187,z,d_⟩
theorem Jk:En aa 418:=⟨_,_,func418,d_,z⟩
theorem tp:((#[22]:Array TypeId)[0]?).bind Tryz.prog.underlying=some (.slice 5):=iD underlying22
theorem Jl:En aa 420:=⟨_,_,func420,d_,z⟩
theorem JA:sx aa 276 766:=K_
theorem AJ:Fa aa 276 0 0:=⟨_,_,underlying276,z,z,509,d_⟩
theorem AE:Ar aa 273 510 1:=⟨_,underlying273,d_⟩
theorem Jp:Fa aa 276 1 510:=⟨_,_,underlying276,z,z,255,d_⟩
theorem Je:Ar aa 274 256 1:=⟨_,underlying274,d_⟩
theorem Jd:Ag aa 276 766:=⟨_,underlying276,z,d_⟩
theorem Jr:Fa aa 278 2 4:=⟨_,_,underlying278,z,z,765,d_⟩
theorem Jv:Sz aa 276 766:=K_
theorem Jq:Fa aa 278 1 3:=⟨_,_,underlying278,z,z,0,d_⟩
theorem Jg:En aa 164:=⟨_,_,func164,d_,z⟩
def jP.f(a0:Int):Option (Int):=bif decide (256≤a0)then(an (decide ((0:Int)≤u8.wrap (Int.fdiv a0 (2^min (8:Int).toNat 16))∧u8.wrap (Int.fdiv a0 (2^min (8:Int).toNat 16))<(hZ.size:Int))) (some (i64.wrap (8+i64.wrap (sat hZ (u8.wrap (Int.fdiv a0 (2^min (8:Int).toNat 16))))))))else(an (decide ((0:Int)≤u8.wrap a0∧u8.wrap a0<(hZ.size:Int))) (some (i64.wrap (0+i64.wrap (sat hZ (u8.wrap a0))))))
theorem jP.calls{w0:World}{a0 r:Int}(E:jP.f a0=some r):
 Calls aa 414 #[.int .u16 a0] w0 fun e w'=>e= .returned (ii r)∧St no w0 w' []:=by
 have H:=St.nil no w0
 unfold jP.f at E
 refine Zb func414 ?_
 refine A_ ?_
 refine aE E z ?_ ?_<;>intro c1 E<;>refine A_ ?_
 ·obtain⟨⟨g2,g3⟩,E⟩:=ar E
  refine vr (mY underlying9 z z g2 g3) (A_ ?_)
  cases E
  exact⟨.inl z,_,tk0 z ⟨aB z (ad ai),z,H.bs⟩⟩
 obtain⟨⟨g4,g5⟩,E⟩:=ar E
 refine vr (mY underlying9 z z g4 g5) (A_ ?_)
 cases E
 exact⟨.inl z,_,tk0 z ⟨aB z (ad ai),z,H.bs⟩⟩
def iw.l0:Nat→Int→Int→Option (Int)
 |0,_,_=>none
 |k+1,x8,x9=>bif decide (8<x9)then(an (decide (0≤i64.wrap ((i64.wrap (x9-1))-8))) ((jP.f (bits .xor .u16 x8 (u16.wrap (285*2^min (i64.wrap ((i64.wrap (x9-1))-8)).toNat 16)))).bind fun x1=>iw.l0 k (bits .xor .u16 x8 (u16.wrap (285*2^min (i64.wrap ((i64.wrap (x9-1))-8)).toNat 16))) x1))else(some (u8.wrap x8))
def iw.f(k:Nat)(a0:Int):Option (Int):=(jP.f a0).bind fun x1=>iw.l0 k a0 x1
theorem iw.calls{w0:World}{k:Nat}{a0 r:Int}(E:iw.f k a0=some r):
 Calls aa 412 #[.int .u16 a0] w0 fun e w'=>e= .returned (iu r)∧St no w0 w' []:=by
 have H:=St.nil no w0
 unfold iw.f at E
 refine Zb func412 ?_
 refine A_ ?_
 refine ye (E9 AG H E (fun _=>jP.calls) (fun x1 E w H=>A_ ?_))
 refine bx (fun kk t w=>∃(x8 x9:Int)(t1:Fr),kk≤k∧iw.l0 kk x8 x9=some r∧t=aU t1 [(0,.int .u16 x8),(2,iu 0),(3,ii x9),Zc]∧St no w0 w []) k Ze ?_
 rintro kk t w ⟨x8,x9,t1,hk1,E,rfl,H⟩
 obtain⟨k15,rfl⟩:=Zd kk
 rw[iw.l0]at E
 refine A_ ?_
 refine aE E z ?_ ?_<;>intro c1 E<;>refine A_ ?_
 ·obtain⟨g1,E⟩:=ar E
  refine A_ ?_
  refine ye (E9 AG H E (fun _=>jP.calls) (fun x2 E w H=>A_ ?_))
  exact⟨k15,bL _,_,_,_,bK hk1,E,Za,H⟩
 cases E
 exact⟨.inl z,_,tk0 z ⟨aB z (ad ai),z,H.bs⟩⟩
def rF.f(a0:Int):Option (Int):=bif decide (a0=0)then(some 64)else(an (decide ((0:Int)≤Int.fdiv (u64.wrap (bits .and .u64 a0 (u64.wrap (-a0))*285870213051353865)) (2^min (58:Int).toNat 64)∧Int.fdiv (u64.wrap (bits .and .u64 a0 (u64.wrap (-a0))*285870213051353865)) (2^min (58:Int).toNat 64)<64)) (some (i64.wrap (at_ 0 nC (Int.fdiv (u64.wrap (bits .and .u64 a0 (u64.wrap (-a0))*285870213051353865)) (2^min (58:Int).toNat 64))))))
theorem rF.calls{w0:World}{a0 r:Int}(hf:(Rs.gt).inv w0)(E:rF.f a0=some r):
 Calls aa 200 #[.int .u64 a0] w0 fun e w'=>e= .returned (ii r)∧St (Rs.gt).fp w0 w' [.gt]:=by
 have H:=St.start hf
 unfold rF.f at E
 refine Zb func200 ?_
 refine A_ ?_
 refine aE E z ?_ ?_<;>intro c1 E<;>refine A_ ?_
 ·cases E
  exact(aL ⟨.inl z,_,tk0 z ⟨aB z (ad ai),z,H.bA 0 z⟩⟩)
 obtain⟨⟨g2,g3⟩,E⟩:=ar E
 refine vr (dm Jf z z g2 g3) (vr (av lE z (Ja (H.Gt 0 z) g2 g3)) (A_ ?_))
 cases E
 exact⟨.inl z,_,tk0 z ⟨aB z (ad ai),z,H.bA 0 z⟩⟩
def kv.f(a0:Int):Option (Int):=(rF.f a0).bind fun x1=>some x1
theorem kv.calls{w0:World}{a0 r:Int}(hf:(Rs.gt).inv w0)(E:kv.f a0=some r):
 Calls aa 139 #[.int .u64 a0] w0 fun e w'=>e= .returned (ii r)∧St (Rs.gt).fp w0 w' [.gt]:=by
 have H:=St.start hf
 unfold kv.f at E
 refine Zb func139 ?_
 refine A_ ?_
 refine ye (YL Jh H 0 E z (fun _=>rF.calls (H.Gt 0 z)) (fun x1 E w H=>A_ ?_))
 cases E
 exact⟨.inl z,_,tk0 z ⟨aB z (ad ai),z,H.bA 0 z⟩⟩
def ix.l0:Nat→Int→Int→Int→Option (Int)
 |0,_,_,_=>none
 |k+1,a0,x1,x2=>bif !decide (x2=0)then((kv.f x2).bind fun x3=>an (decide (0≤x3)) (ix.l0 k a0 (bits .xor .u16 x1 (u16.wrap (u16.wrap a0*2^min x3.toNat 16))) (bits .and .u64 x2 (u64.wrap (x2-1)))))else(some x1)
def ix.f(k:Nat)(a0 a1:Int):Option (Int):=ix.l0 k a0 0 (u64.wrap a1)
theorem ix.calls{w0:World}{k:Nat}{a0 a1 r:Int}(hf:(Rs.gt).inv w0)(E:ix.f k a0 a1=some r):
 Calls aa 413 #[iu a0,iu a1] w0 fun e w'=>e= .returned (.int .u16 r)∧St (Rs.gt).fp w0 w' [.gt]:=by
 have H:=St.start hf
 unfold ix.f at E
 refine Zb func413 ?_
 have H:=H.mk0
 refine rg (ye (bc (cs:=#[iu a0]) H z (fun b1 w H=>A_ ?_)))
 refine ye (cr Jw H (fun b2 w H=>A_ ?_))
 refine ye (cm 4 [.int .u64 (u64.wrap a1)] AH func415 z z z z (rg (ye (bc (cs:=#[.int .u64 (u64.wrap a1)]) H z (fun b4 w H=>A_ ?_)))))
 refine vr (dt [pt b4] z) (A_ ?_)
 refine⟨.inl z,.func (.func 416) #[] #[pt b4],tk0 z ⟨ba z (ad ai) z,nl (aG (je 14 [pt b4] z func416 z z z z z H 1 z z (fun v8 b5 o6 w hO7 H=>(aG ?_))))⟩⟩
 refine bx (fun kk t w=>∃(x1 x2:Int)(t1:Fr),kk≤k∧ix.l0 kk a0 x1 x2=some r∧t=aU t1 [(0,.func (.yield b5) #[] #[]),(1,pt b4),Zc]∧St (Rs.gt).fp w0 w [.gt,.bO v8,.blk b1 #[iu a0] 5,.blk b2 #[.int .u16 x1] 124,.blk b4 #[.int .u64 x2] 167,.obj b5 (.loop o6)]) k Ze ?_
 rintro kk t w ⟨x1,x2,t1,hk1,E,rfl,H⟩
 obtain⟨k21,rfl⟩:=Zd kk
 rw[ix.l0]at E
 refine A_ ?_
 refine aE E z ?_ ?_<;>intro c1 E<;>refine A_ ?_
 ·refine ye (YL AF H 0 E z (fun _=>kv.calls (H.Gt 0 z)) (fun x3 E w H=>ye (jf [ii x3] z z H 5 z hO7 z z (A_ ?_))))
  refine yB H 5 z hO7 (fun w H=>aG (cd (ds:=[6]) pL H z z ?_))
  have H:=H.drew
  refine B_ [0,1,2,3] H ?_
  obtain⟨g1,E⟩:=ar E
  refine B_ [4,5] H ?_
  refine wo 6 z (cQ Jt H 3 z z z z z (fun w H=>⟨fun h=>(h f_).elim,wd (aR (yN H 5 z hO7 (fun w H=>A_ ?_)))⟩))
  refine s_ (cQ AL H 4 z z z z z (fun w H=>aK ?_))
  exact⟨k21,bL _,_,_,_,bK hk1,E,Za,H⟩
 refine⟨.inr z,.tuple #[],tk0 z ⟨ba z ai z,ji H 5 z hO7 (fun w H=>aR (ab (rg (vr (av AK z (ak (H.Gt 3 z) z)) (va (.int .u16 x1) (nl (aj ?_)))))))⟩⟩
 cases E
 exact⟨.inl z,_,gT H 1 z z (fun w H=>⟨aB z (ad ai),z,H.bA 0 z⟩)⟩
def ju.f(k:Nat)(a0 a1:Int):Option (Int):=(ix.f k a0 a1).bind fun x1=>(iw.f k x1).bind fun x3=>some x3
theorem ju.calls{w0:World}{k:Nat}{a0 a1 r:Int}(hf:(Rs.gt).inv w0)(E:ju.f k a0 a1=some r):
 Calls aa 411 #[iu a0,iu a1] w0 fun e w'=>e= .returned (iu r)∧St (Rs.gt).fp w0 w' [.gt]:=by
 have H:=St.start hf
 unfold ju.f at E
 refine Zb func411 ?_
 refine A_ ?_
 refine ye (YL Jj H 0 E z (fun _=>ix.calls (H.Gt 0 z)) (fun x1 E w H=>?_))
 refine ye (E9 Ji H E (fun _=>iw.calls) (fun x3 E w H=>A_ ?_))
 cases E
 exact⟨.inl z,_,tk0 z ⟨aB z (ad ai),z,H.bA 0 z⟩⟩
def kP.f(k:Nat)(a1 a2:Int):Option (Int):=(ju.f k a1 a2).bind fun x2=>some x2
theorem kP.calls{w0:World}{k:Nat}{a1 a2 r:Int}(hf:(Rs.gt).inv w0)(E:kP.f k a1 a2=some r):
 Calls aa 420 #[.agg #[],iu a1,iu a2] w0 fun e w'=>e= .returned (iu r)∧St (Rs.gt).fp w0 w' [.gt]:=by
 have H:=St.start hf
 unfold kP.f at E
 refine Zb func420 ?_
 refine rg (ye (bc (cs:=#[]) H z (fun b1 w H=>A_ ?_)))
 refine ye (YL tl H 0 E z (fun _=>ju.calls (H.Gt 0 z)) (fun x2 E w H=>A_ ?_))
 cases E
 exact⟨.inl z,_,tk0 z ⟨aB z (ad ai),z,H.bA 0 z⟩⟩
mutual
def dC.l0:Nat→Int→Int→Int→Int→Option (Int)
 |0,_,_,_,_=>none
 |k+1,x1,x2,x3,x4=>bif !decide (x4=0)then((kv.f x4).bind fun x5=>dC.l1 k x2 x3 x4 x5 x1 0)else(some x2)
def dC.l1:Nat→Int→Int→Int→Int→Int→Int→Option (Int)
 |0,_,_,_,_,_,_=>none
 |k+1,x2,x3,x4,x5,x6,x7=>bif decide (x7<i64.wrap (x5-x3))then((ju.f k x6 x6).bind fun x8=>dC.l1 k x2 x3 x4 x5 x8 (i64.wrap (x7+1)))else((ju.f k x2 x6).bind fun x9=>dC.l0 k x6 x9 x5 (bits .and .u64 x4 (u64.wrap (x4-1))))
end
def dC.f(k:Nat)(a0 a1:Int):Option (Int):=dC.l0 k a0 1 0 a1
theorem dC.calls{w0:World}{k:Nat}{a0 a1 r:Int}(hf:(Rs.gt).inv w0)(E:dC.f k a0 a1=some r):
 Calls aa 425 #[iu a0,.int .u64 a1] w0 fun e w'=>e= .returned (iu r)∧St (Rs.gt).fp w0 w' [.gt]:=by
 have H:=St.start hf
 unfold dC.f at E
 refine Zb func425 ?_
 have H:=H.mk0
 refine rg (ye (bc (cs:=#[iu a0]) H z (fun b1 w H=>A_ ?_)))
 refine ye (cr Jz H (fun b2 w H=>ye (cr Jy H (fun b3 w H=>s_ (cQ nQ H 3 z z z z z (fun w H=>s_ (cQ AM H 4 z z z z z (fun w H=>A_ ?_))))))))
 have H:St _ _ _ [_,_,_,_,_]:=H
 refine vr (dt [pt b1] z) (ye (cr Jx H (fun b4 w H=>s_ (cQ Ju H 5 z z z z z (fun w H=>A_ ?_)))))
 refine ye (cm 4 [.int .u64 a1] AH func415 z z z z (rg (ye (bc (cs:=#[.int .u64 a1]) H z (fun b6 w H=>A_ ?_)))))
 refine vr (dt [pt b6] z) (A_ ?_)
 refine⟨.inl z,.func (.func 416) #[] #[pt b6],tk0 z ⟨ba z (ad ai) z,nl (aG (je 14 [pt b6] z func416 z z z z z H 1 z z (fun v1 b7 o8 w hO9 H=>(aG ?_))))⟩⟩
 refine bx (fun kk t w=>∃(x1 x2 x3 x4:Int)(t1:Fr),kk≤k∧dC.l0 kk x1 x2 x3 x4=some r∧t=aU t1 [(0,.func (.yield b7) #[] #[]),(1,pt b6),Zc]∧St (Rs.gt).fp w0 w [.gt,.bO v1,.blk b1 #[iu x1] 5,.blk b2 #[iu x2] 5,.blk b3 #[ii x3] 3,.blk b4 #[.func (.func 426) #[] #[pt b1]] 268,.blk b6 #[.int .u64 x4] 167,.obj b7 (.loop o8)]) k Ze ?_
 rintro kk t w ⟨x1,x2,x3,x4,t1,hk1,E,rfl,H⟩
 obtain⟨k1,rfl⟩:=Zd kk
 rw[dC.l0]at E
 refine A_ ?_
 refine aE E z ?_ ?_<;>intro c1 E<;>refine A_ ?_
 ·refine ye (YL AF H 0 E z (fun _=>kv.calls (H.Gt 0 z)) (fun x5 E w H=>ye (jf [ii x5] z z H 7 z hO9 z z (A_ ?_))))
  refine yB H 7 z hO9 (fun w H=>A_ ?_)
  refine ye (kK 10 [ii (i64.wrap (x5-x3)),pt b1] z Jo func426 z z z z (A_ ?_))
  refine bx (fun kk t w=>∃(x6 x7:Int)(t2:Fr),kk≤k1∧dC.l1 kk x2 x3 x4 x5 x6 x7=some r∧t=aU t2 [(1,pt b1),(3,ii (i64.wrap (x5-x3))),(4,ii x7),Zc]∧St (Rs.gt).fp w0 w [.gt,.bO v1,.blk b1 #[iu x6] 5,.blk b2 #[iu x2] 5,.blk b3 #[ii x3] 3,.blk b4 #[.func (.func 426) #[] #[pt b1]] 268,.blk b6 #[.int .u64 x4] 167,.obj b7 (.loop (ku o8))]) k1 Ze ?_
  rintro kk t w ⟨x6,x7,t2,hk2,E,rfl,H⟩
  obtain⟨k2,rfl⟩:=Zd kk
  rw[dC.l1]at E
  refine A_ ?_
  refine aE E z ?_ ?_<;>intro c2 E<;>refine A_ ?_
  ·refine ye (YL tl H 0 E z (fun _=>ju.calls (H.Gt 0 z)) (fun x8 E w H=>s_ (cQ nQ H 2 z z z z z (fun w H=>A_ ?_))))
   exact⟨k2,bL _,_,_,_,bK hk2,E,Za,H⟩
  refine⟨.inr z,.tuple #[],tk0 z ⟨ba z ai z,nl (aH (vr (av lE z (ak (H.Gt 3 z) z)) (vr (av lE z (ak (H.Gt 2 z) z)) ?_)))⟩⟩
  refine ye (YL tl H 0 E z (fun _=>ju.calls (H.Gt 0 z)) (fun x9 E w H=>vm (ii x5) (s_ (cQ nQ H 3 z z z z z (fun w H=>s_ (cQ AM H 4 z z z z z (fun w H=>aK (aR (yN H 7 z hO9 (fun w H=>A_ ?_))))))))))
  refine s_ (cQ AL H 6 z z z z z (fun w H=>aK ?_))
  exact⟨k2,a_,_,_,_,_,_,a_,E,Za,H⟩
 refine⟨.inr z,.tuple #[],tk0 z ⟨ba z ai z,ji H 7 z hO9 (fun w H=>aR (ab (rg (vr (av lE z (ak (H.Gt 3 z) z)) (va (iu x2) (nl (aj ?_)))))))⟩⟩
 cases E
 exact⟨.inl z,_,gT H 1 z z (fun w H=>⟨aB z (ad ai),z,H.bA 0 z⟩)⟩
def ql.f(k:Nat)(a0:Int):Option (Int×Bool):=bif decide (a0=0)then(some (0,false))else((dC.f k a0 254).bind fun x3=>some (x3,true))
theorem ql.calls{w0:World}{k:Nat}{a0:Int}{r:Int×Bool}(hf:(Rs.gt).inv w0)(E:ql.f k a0=some r):
 Calls aa 423 #[iu a0] w0 fun e w'=>e= .returned (.tuple #[iu r.1,.bool r.2])∧St (Rs.gt).fp w0 w' [.gt]:=by
 have H:=St.start hf
 unfold ql.f at E
 refine Zb func423 ?_
 refine A_ ?_
 refine aE E z ?_ ?_<;>intro c2 E<;>refine A_ ?_
 ·cases E
  exact(aL ⟨.inl z,_,tk0 z ⟨aB z (ad (ad ai)),z,H.bA 0 z⟩⟩)
 refine ye (YL AI H 0 E z (fun _=>dC.calls (H.Gt 0 z)) (fun x3 E w H=>A_ ?_))
 cases E
 exact⟨.inl z,_,tk0 z ⟨aB z (ad (ad ai)),z,H.bA 0 z⟩⟩
def nL.f(k:Nat)(a1:Int):Option (Int×Bool):=(ql.f k a1).bind fun x2=>some (x2.1,x2.2)
theorem nL.calls{w0:World}{k:Nat}{a1:Int}{r:Int×Bool}(hf:(Rs.gt).inv w0)(E:nL.f k a1=some r):
 Calls aa 419 #[.agg #[],iu a1] w0 fun e w'=>e= .returned (.tuple #[iu r.1,.bool r.2])∧St (Rs.gt).fp w0 w' [.gt]:=by
 have H:=St.start hf
 unfold nL.f at E
 refine Zb func419 ?_
 refine rg (ye (bc (cs:=#[]) H z (fun b1 w H=>A_ ?_)))
 refine ye (YL Jm H 0 E z (fun _=>ql.calls (H.Gt 0 z)) (fun x2 E w H=>A_ ?_))
 cases E
 exact⟨.inl z,_,tk0 z ⟨aB z (ad (ad ai)),z,H.bA 0 z⟩⟩
def fy.j1(k:Nat)(a0 x1:Int):Option (Int):=(dC.f k a0 (u64.wrap x1)).bind fun x2=>some x2
def fy.j0(k:Nat)(a0 x4:Int):Option (Int):=bif decide (Int.tmod x4 255<0)then(fy.j1 k a0 (i64.wrap (Int.tmod x4 255+255)))else(fy.j1 k a0 (Int.tmod x4 255))
def fy.f(k:Nat)(a0 a1:Int):Option (Int):=bif decide (a0=0)then(bif !decide (a1=0)then(some 0)else(fy.j0 k a0 a1))else(fy.j0 k a0 a1)
theorem fy.calls{w0:World}{k:Nat}{a0 a1 r:Int}(hf:(Rs.gt).inv w0)(E:fy.f k a0 a1=some r):
 Calls aa 424 #[iu a0,ii a1] w0 fun e w'=>e= .returned (iu r)∧St (Rs.gt).fp w0 w' [.gt]:=by
 have H:=St.start hf
 unfold fy.f at E
 refine Zb func424 ?_
 refine J_ ?_
 refine cA (fun t w=>∃(k6:Nat)(x4:Int)(t5:Fr),k6≤k∧fy.j0 k6 a0 x4=some r∧t=aU t5 [(0,iu a0),(1,ii x4),(4,iu 0),Zc]∧St (Rs.gt).fp w0 w [.gt]) ?_ ?_
 ·refine A_ ?_
  rcases bR (decide (a0=0))with c8|c8
  ·have E:=iT c8 E
   refine A_ ?_
   refine aE E z ?_ ?_<;>intro c9 E
   ·refine A_ ?_
    cases E
    exact(aL ⟨.inl z,_,tk0 z ⟨aB z (ad ai),z,H.bA 0 z⟩⟩)
   refine aA ?_
   exact⟨k,_,_,aI _,E,Za,H⟩
  have E:=iF c8 E
  refine A_ ?_
  exact⟨k,_,_,aI _,E,Za,H⟩
 rintro t w ⟨k6,x4,t5,hk7,E,rfl,H⟩
 unfold fy.j0 at E
 refine J_ ?_
 refine cA (fun t w=>∃(k14:Nat)(x1:Int)(t1:Fr),k14≤k6∧fy.j1 k14 a0 x1=some r∧t=aU t1 [(0,iu a0),(1,ii x1),(4,iu 0),Zc]∧St (Rs.gt).fp w0 w [.gt]) ?_ ?_
 ·refine A_ ?_
  refine aE E z ?_ ?_<;>intro c1 E
  ·refine A_ ?_
   exact⟨k6,_,_,aI _,E,Za,H⟩
  refine aA ?_
  exact⟨k6,_,_,aI _,E,Za,H⟩
 rintro t w ⟨k14,x1,t1,hk1,E,rfl,H⟩
 unfold fy.j1 at E
 refine A_ ?_
 refine ye (YL AI H 0 E z (fun _=>dC.calls (H.Gt 0 z)) (fun x2 E w H=>A_ ?_))
 cases E
 exact⟨.inl z,_,tk0 z ⟨aB z (ad ai),z,H.bA 0 z⟩⟩
def nM.f(k:Nat)(a1 a2:Int):Option (Int):=(fy.f k a1 a2).bind fun x2=>some x2
theorem nM.calls{w0:World}{k:Nat}{a1 a2 r:Int}(hf:(Rs.gt).inv w0)(E:nM.f k a1 a2=some r):
 Calls aa 421 #[.agg #[],iu a1,ii a2] w0 fun e w'=>e= .returned (iu r)∧St (Rs.gt).fp w0 w' [.gt]:=by
 have H:=St.start hf
 unfold nM.f at E
 refine Zb func421 ?_
 refine rg (ye (bc (cs:=#[]) H z (fun b1 w H=>A_ ?_)))
 refine ye (YL Jn H 0 E z (fun _=>fy.calls (H.Gt 0 z)) (fun x2 E w H=>A_ ?_))
 cases E
 exact⟨.inl z,_,tk0 z ⟨aB z (ad ai),z,H.bA 0 z⟩⟩
def iL.l0:Nat→List Int→List Int→List (Int)→Int→Option (List Int)
 |0,_,_,_,_=>none
 |k+1,a1,a2,l1,x1=>bif decide (x1<(a1.length:Int))then(an (decide ((0:Int)≤x1∧x1<(a1.length:Int))) (an (decide ((0:Int)≤x1∧x1<(a2.length:Int))) ((kP.f k (at_ 0 a1 x1) (at_ 0 a2 x1)).bind fun x2=>an (decide ((0:Int)≤x1∧x1<(l1.length:Int))) (iL.l0 k a1 a2 (l1.set x1.toNat x2) (i64.wrap (x1+1))))))else(some l1)
def iL.f(k:Nat)(a1 a2:List Int):Option (List Int):=an (decide ((0:Int)≤(a1.length:Int)∧(a1.length:Int)≤(a1.length:Int)∧(a1.length:Int)≤140737488355328)) (iL.l0 k a1 a2 (List.replicate (a1.length:Int).toNat (0:Int)) 0)
theorem iL.calls{w0:World}{k:Nat}{a1 a2:List Int}{v1_ v2_:Value}{r:List Int}(hf:(Rs.gt).inv w0)(h1:Zf (Rs.gt).fp w0 v1_ a1)(h2:Zf (Rs.gt).fp w0 v2_ a2)(E:iL.f k a1 a2=some r):
 Calls aa 422 #[.agg #[],v1_,v2_] w0 fun e w'=>∃(u0:Value),e= .returned (u0)∧St (Rs.gt).fp w0 w' [.gt,Y9 u0 r]:=by
 have H:=St.start hf
 unfold iL.f at E
 refine Zb func422 ?_
 refine rg (ye (bc (cs:=#[]) H z (fun b1 w H=>A_ ?_)))
 refine vr (bp (l:=[]) Jc (H.Gt 1 z) z z z) (vr (gw [.agg #[]] [] z z) (A_ ?_))
 refine ye (cm 32 [.func (.func 420) #[.agg #[]] #[],v1_,v2_] Jk func418 z z z z (A_ ?_))
 obtain⟨⟨g1,g2,g3⟩,E⟩:=ar E
 refine ye (ee (e:=(.int .u8)) (z0:=0) tn z H z z g1 g2 a_ a_ (fun v1 w H=>A_ ?_))
 refine bx (fun kk t w=>∃(l1:List Int)(x1:Int)(t1:Fr),kk≤k∧iL.l0 kk a1 a2 l1 x1=some r∧t=aU t1 [(0,.func (.func 420) #[.agg #[]] #[]),(1,v1_),(2,v2_),(6,sn),(7,v1),(13,ii (a1.length:Int)),(14,ii x1),Zc]∧St (Rs.gt).fp w0 w [.gt,.blk b1 #[] 187,Y9 v1 l1]) k Ze ?_
 rintro kk t w ⟨l1,x1,t1,hk1,E,rfl,H⟩
 obtain⟨k1,rfl⟩:=Zd kk
 rw[iL.l0]at E
 refine A_ ?_
 refine aE E z ?_ ?_<;>intro c1 E<;>refine A_ ?_
 ·refine cd (ds:=[13]) pL H z z ?_
  have H:=H.drew
  refine B_ [0,1,2,3,4] H ?_
  obtain⟨⟨g4,g5⟩,E⟩:=ar E
  refine B_ [5,6,7,8] H ?_
  obtain⟨⟨g6,g7⟩,E⟩:=ar E
  refine B_ [9,10] H ?_
  obtain⟨x2,E1,E⟩:=ay E
  refine wo 11 z (qv z Jl z ((kP.calls (H.Gt 0 z) E1).mono ?_))
  rintro _ w ⟨rfl,K⟩
  have H:=H.aV 0 z K
  refine⟨_,z,⟨fun _=>H.Y8 [0,1,2],?_⟩⟩
  obtain⟨⟨g8,g9⟩,E⟩:=ar E
  refine B_ [12] (H.Y8 [0,1,2]) ?_
  refine wo 13 z (dc nQ H 2 z g8 g9 z z (fun w H=>⟨fun h=>(h f_).elim,wd (A_ ?_)⟩))
  exact⟨k1,bL _,_,_,_,bK hk1,E,Za,H⟩
 refine⟨.inl z,v1,tk0 z ⟨ba z (ad ai) z,va v1 (nl (aj ?_))⟩⟩
 cases E
 exact⟨.inl z,_,tk0 z ⟨aB z (ad ai),_,z,H.bN 0 2 z z z⟩⟩
def fX.j0(k:Nat)(l1:List Int):Option (List Int):=some l1
def fX.l0:Nat→List Int→Int→Int→Option (List Int)
 |0,_,_,_=>none
 |k+1,l1,x1,x2=>bif decide (x2<255)then(an (decide ((0:Int)≤x2∧x2<510)) (an (decide ((0:Int)≤i64.wrap (x2+255)∧i64.wrap (x2+255)<510)) (an (decide ((0:Int)≤x1∧x1<256)) ((ju.f k x1 2).bind fun x3=>fX.l0 k (((l1.set (0+x2.toNat) x1).set (0+(i64.wrap (x2+255)).toNat) x1).set (510+x1.toNat) (u8.wrap x2)) x3 (i64.wrap (x2+1))))))else(fX.j0 k l1)
def fX.f(k:Nat):Option (List Int):=fX.l0 k (List.replicate 766 (0:Int)) 1 0
theorem fX.calls{w0:World}{k t0_:Nat}{r:List Int}(hf:St (Rs.cn t0_ true).fp w0 w0 [.blk t0_ (([.int .u32 0,.int .i32 1,.int .u32 0,.int .i32 0]:List Value)++(List.replicate 766 (0:Int)).map (Value.int .u8)).toArray 278,.gt])(E:fX.f k=some r):
 Calls aa 406 #[pt t0_] w0 fun e w'=>e= .returned (.tuple #[])∧St (Rs.cn t0_ true).fp w0 w' [.blk t0_ (([.int .u32 0,.int .i32 1,.int .u32 0,.int .i32 1]:List Value)++r.map (Value.int .u8)).toArray 278,.gt]:=by
 have H:=hf
 unfold fX.f at E
 refine Zb func406 ?_
 refine rg (ye (D6 (n:=766) JA H (fun b1 w H=>J_ ?_)))
 refine cA (fun t w=>∃(k1:Nat)(l1:List Int)(t1:Fr),k1≤k∧fX.j0 k1 l1=some r∧t=aU t1 [(0,pt t0_),(2,pt b1),Zc]∧St (Rs.cn t0_ true).fp w0 w [.blk t0_ (([.int .u32 0,.int .i32 1,.int .u32 0,.int .i32 0]:List Value)++(List.replicate 766 (0:Int)).map (Value.int .u8)).toArray 278,.gt,.own (.int .u8) 276 (.slice (some ⟨b1,0,none⟩) 766 766) l1]) ?_ ?_
 ·refine A_ ?_
  refine bx (fun kk t w=>∃(l2:List Int)(x1 x2:Int)(t2:Fr),kk≤k∧fX.l0 kk l2 x1 x2=some r∧t=aU t2 [(0,pt t0_),(2,pt b1),(3,iu x1),(5,ii x2),Zc]∧St (Rs.cn t0_ true).fp w0 w [.blk t0_ (([.int .u32 0,.int .i32 1,.int .u32 0,.int .i32 0]:List Value)++(List.replicate 766 (0:Int)).map (Value.int .u8)).toArray 278,.gt,.own (.int .u8) 276 (.slice (some ⟨b1,0,none⟩) 766 766) l2]) k Ze ?_
  rintro kk t w ⟨l2,x1,x2,t2,hk1,E,rfl,H⟩
  obtain⟨k2,rfl⟩:=Zd kk
  rw[fX.l0]at E
  refine A_ ?_
  refine aE E z ?_ ?_<;>intro c1 E<;>refine A_ ?_
  ·obtain⟨⟨g1,g2⟩,E⟩:=ar E
   refine vr (dm AE z z g1 g2) (s_ (nn nQ H 2 z a_ z z (fun w H=>A_ ?_)))
   obtain⟨⟨g3,g4⟩,E⟩:=ar E
   refine vr (dm AE z z g3 g4) (s_ (nn nQ H 2 z a_ z z (fun w H=>A_ ?_)))
   obtain⟨⟨g5,g6⟩,E⟩:=ar E
   refine vr (dm Je z z g5 g6) (s_ (nn nQ H 2 z a_ z z (fun w H=>A_ ?_)))
   refine ye (YL tl H 1 E z (fun _=>ju.calls (H.Gt 1 z)) (fun x3 E w H=>A_ ?_))
   exact⟨k2,bL _,_,_,_,_,bK hk1,E,Za,H⟩
  exact⟨k2,_,_,a_,E,Za,H⟩
 rintro t w ⟨k1,l1,t1,hk2,E,rfl,H⟩
 unfold fX.j0 at E
 refine A_ ?_
 refine vr (OC Jd (H.Gt 2 z) z) (A_ ?_)
 refine s_ (Rb Jv H 0 2 z z j_ z z (fun w H=>nl (aH (vm (pt t0_) (vr (bw z) (vr (az Jq z) (ye (QO Jg H 0 z z trivial (fun w H=>aK ?_)))))))))
 cases E
 exact⟨.inr z,_,tk0 z ⟨aB z ai,z,H.bN 0 1 z z z⟩⟩
end Go.Proofs.YtmhkpafkadijgaaGreatDoor.Gw
