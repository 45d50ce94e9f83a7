/- A part of the proof of Rows.PlayDecodesCardSaid; the conditions are that card's own. -/
import Derived.Test.YtmhkpafkadijgaaGreatDoorQ25
import Derived.Test.YtmhkpafkadijgaaGreatDoorQ26
set_option linter.all false
set_option maxRecDepth 100000
set_option maxHeartbeats 4000000
namespace Go.Proofs.YtmhkpafkadijgaaGreatDoor.Gw
open Go.IntKind renaming wrap→I,i64→W
open Go Go.RowKit
variable[de]
open Go.IntKind (i8 i16 i32 i64 u8 u16 u32 u64)
open Tryz hiding prog
open Tryz renaming prog → aa
variable{w0:World}{k:Nat}{v0_ v1_:Value}
theorem Ki:En aa 18:=⟨_,_,func18,d_,z⟩
theorem vT:En aa 20:=⟨_,_,func20,d_,z⟩
theorem Ku:En aa 92:=⟨_,_,func92,d_,z⟩
theorem Kt:En aa 91:=⟨_,_,func91,d_,z⟩
theorem rC:En aa 53:=⟨_,_,func53,d_,z⟩
theorem Kp:En aa 54:=⟨_,_,func54,d_,z⟩
theorem A8:En aa 59:=⟨_,_,func59,d_,z⟩
theorem pO:En aa 88:=⟨_,_,func88,d_,z⟩
theorem tD:En aa 50:=⟨_,_,func50,d_,z⟩
theorem Kj:En aa 24:=⟨_,_,func24,d_,z⟩
theorem Kc:En aa 131:=⟨_,_,func131,d_,z⟩
theorem A7:En aa 48:=⟨_,_,func48,d_,z⟩
theorem Kb:En aa 130:=⟨_,_,func130,d_,z⟩
theorem Kq:En aa 87:=⟨_,_,func87,d_,z⟩
theorem Ke:En aa 132:=⟨_,_,func132,d_,z⟩
theorem Ko:En aa 52:=⟨_,_,func52,d_,z⟩
theorem A6:En aa 46:=⟨_,_,func46,d_,z⟩
theorem Kn:En aa 51:=⟨_,_,func51,d_,z⟩
theorem Ks:En aa 90:=⟨_,_,func90,d_,z⟩
theorem Kr:En aa 89:=⟨_,_,func89,d_,z⟩
theorem Kl:En aa 49:=⟨_,_,func49,d_,z⟩
theorem Kk:En aa 47:=⟨_,_,func47,d_,z⟩
theorem S7:En aa 23:=⟨_,_,func23,d_,z⟩
theorem Kh:En aa 17:=⟨_,_,func17,d_,z⟩
theorem Kg:En aa 16:=⟨_,_,func16,d_,z⟩
theorem WN:En aa 19:=⟨_,_,func19,d_,z⟩
theorem WO:En aa 197:=⟨_,_,func197,d_,z⟩
theorem WQ:En aa 198:=⟨_,_,func198,d_,z⟩
theorem WK:En aa 133:=⟨_,_,func133,d_,z⟩
theorem WL:En aa 134:=⟨_,_,func134,d_,z⟩
theorem W7:En aa 93:=⟨_,_,func93,d_,z⟩
theorem TC:En aa 61:=⟨_,_,func61,d_,z⟩
theorem WV:En aa 55:=⟨_,_,func55,d_,z⟩
theorem WX:En aa 57:=⟨_,_,func57,d_,z⟩
theorem WW:En aa 56:=⟨_,_,func56,d_,z⟩
theorem WY:En aa 58:=⟨_,_,func58,d_,z⟩
theorem W0:En aa 60:=⟨_,_,func60,d_,z⟩
theorem Ut:En aa 22:=⟨_,_,func22,d_,z⟩
theorem Uu:En aa 29:=⟨_,_,func29,d_,z⟩
theorem Us:En aa 21:=⟨_,_,func21,d_,z⟩
theorem W1:En aa 62:=⟨_,_,func62,d_,z⟩
theorem W3:En aa 64:=⟨_,_,func64,d_,z⟩
theorem W2:En aa 63:=⟨_,_,func63,d_,z⟩
theorem WR:En aa 25:=⟨_,_,func25,d_,z⟩
theorem WS:En aa 26:=⟨_,_,func26,d_,z⟩
theorem WT:En aa 27:=⟨_,_,func27,d_,z⟩
theorem WU:En aa 28:=⟨_,_,func28,d_,z⟩
def A9:ByteArray:=⟨#[]⟩
def Kv:ByteArray:=⟨#[99,111,100,101,32,52,32,50,32,48,10,101,110,99,111,100,101,32,48,49,48,48,10]⟩
theorem vS:En aa 13:=⟨_,_,func13,d_,z⟩
def vW:ByteArray:=⟨#[111,107,10,48,50,48,51,48,49,48,48,10]⟩
def Kw:ByteArray:=⟨#[99,111,100,101,32,52,32,50,32,48,10,100,101,99,111,100,101,32,48,50,48,55,48,49,48,48,10,99,111,100,101,32,52,32,52,32,48,10,120,10]⟩
def vX:ByteArray:=⟨#[111,107,10,48,49,48,48,32,48,50,48,51,48,49,48,48,32,49,10,101,114,114,111,114,32,49,48,10,98,97,100,10]⟩
def mI:ByteArray:=⟨#[32]⟩
theorem vR:En aa 10:=⟨_,_,func10,d_,z⟩
theorem Km:En aa 5:=⟨_,_,func5,d_,z⟩
theorem WZ:En aa 6:=⟨_,_,func6,d_,z⟩
theorem W4:En aa 7:=⟨_,_,func7,d_,z⟩
theorem W5:En aa 8:=⟨_,_,func8,d_,z⟩
def fu:ByteArray:=⟨#[101,114,114,111,114,32,49,51]⟩
def fE:ByteArray:=⟨#[101,114,114,111,114,32,49,52]⟩
theorem W6:En aa 9:=⟨_,_,func9,d_,z⟩
def vU:ByteArray:=⟨#[45]⟩
def lG:ByteArray:=⟨#[44]⟩
theorem rB:En aa 11:=⟨_,_,func11,d_,z⟩
def nS:ByteArray:=⟨#[112,105,99,107,32]⟩
def mH:ByteArray:=⟨#[10]⟩
theorem Ka:En aa 12:=⟨_,_,func12,d_,z⟩
theorem Kf:En aa 14:=⟨_,_,func14,d_,z⟩
def vV:ByteArray:=⟨#[100,101,99,111,100,101,32]⟩
theorem WM:En aa 15:=⟨_,_,func15,d_,z⟩
def SK:ByteArray:=⟨#[111,107,10,111,107,10]⟩
def jj.j0(a1 a2 x5:Int):Option (Int×Int×Int):=an (decide (I W (x5-1)≠0)) (some (x5,I W (1+Int.tmod (I W a1) (I W (x5-1))),Int.tmod (I W a2) 255))
def jj.f(a0 a1 a2:Int):Option (Int×Int×Int):=bif decide (Int.tmod a0 32=31)then(jj.j0 a1 a2 (I W (30+I W (Int.tmod a1 40))))else(jj.j0 a1 a2 (I W (2+I W (Int.tmod a0 21))))
theorem jj.calls{a0 a1 a2:Int}{r:(Int×Int×Int)}(E:jj.f a0 a1 a2=some r):
 Calls aa 18 #[iu a0,iu a1,iu a2] w0 fun e w'=>e= .returned (.agg #[ii r.1,ii r.2.1,ii r.2.2])∧St no w0 w' []:=by
 have H:=St.nil no w0
 unfold jj.f at E
 refine Zb func18 ?_
 obtain⟨k,_⟩:∃k:Nat,k=0:=⟨0,rfl⟩
 refine rg (ye (cr rU H (fun b1 w H=>A_ ?_)))
 refine vr (cf (cs:=[ii (I W (2+I W (Int.tmod a0 21))),ii 0,ii (Int.tmod (I W a2) 255)]) xb z) (ye (cr rU H (fun b2 w H=>s_ (cy qj H 1 z z z z z z (fun w H=>nl ?_)))))
 refine cA (fun t w=>∃(k7:Nat)(x5:Int)(t6:Fr),k7≤k∧jj.j0 a1 a2 x5=some r∧t=aU t6 [(1,iu a1),(6,pt b1),(7,pt b2),Zc]∧St no w0 w [.blk b1 #[ii 0,ii 0,ii 0] 24,.blk b2 #[ii x5,ii 0,ii (Int.tmod (I W a2) 255)] 24]) ?_ ?_
 ·refine A_ ?_
  refine aE E z ?_ ?_<;>intro c9 E
  ·refine A_ ?_
   refine s_ (cQ gJ H 1 z z z z z (fun w H=>aK ?_))
   exact⟨k,_,_,aI _,E,Za,H⟩
  refine aA ?_
  exact⟨k,_,_,aI _,E,Za,H⟩
 rintro t w ⟨k7,x5,t6,hk8,E,rfl,H⟩
 unfold jj.j0 at E
 refine A_ ?_
 obtain⟨g1,E⟩:=ar E
 refine A_ ?_
 refine s_ (cQ gJ H 1 z z z z z (fun w H=>nl (rg (vr (bp (l:=[ii x5,ii (I W (1+Int.tmod (I W a1) (I W (x5-1)))),ii (Int.tmod (I W a2) 255)]) cv (H.Gt 1 z) z z z) (s_ (cy qj H 0 z z z z z z (fun w H=>A_ ?_)))))))
 cases E
 exact⟨.inl z,_,tk0 z ⟨aB z (dL z cv (eG (n:=3) (H.Gt 0 z) z) z ai),z,H.bs⟩⟩
def nU.f(a0 a1 a2:Int):Option (Int×Int×Int):=(jj.f (Int.tmod a0 31) a1 a2).bind fun x2=>some (x2.1,x2.2.1,x2.2.2)
theorem nU.calls{a0 a1 a2:Int}{r:(Int×Int×Int)}(E:nU.f a0 a1 a2=some r):
 Calls aa 5 #[iu a0,iu a1,iu a2] w0 fun e w'=>e= .returned (.agg #[ii r.1,ii r.2.1,ii r.2.2])∧St no w0 w' []:=by
 have H:=St.nil no w0
 unfold nU.f at E
 refine Zb func5 ?_
 refine rg (ye (cr rU H (fun b1 w H=>A_ ?_)))
 refine ye (E9 Ki H E (fun _=>jj.calls) (fun x2 E w H=>s_ (cy qj H 0 z z z z z z (fun w H=>A_ ?_))))
 cases E
 exact⟨.inl z,_,tk0 z ⟨aB z (dL z cv (eG (n:=3) (H.Gt 0 z) z) z ai),z,H.bs⟩⟩
def kC.f(a0:Int×Int×Int):Option (Int):=bif decide (a0.2.1<1)then(some 10)else(bif decide (a0.1≤a0.2.1)then(some 10)else(bif decide (255<a0.1)then(some 10)else(bif decide (a0.2.2<0)then(some 10)else(bif decide (254<a0.2.2)then(some 10)else(some 0)))))
theorem kC.calls{a0:Int×Int×Int}{r:Int}(E:kC.f a0=some r):
 Calls aa 20 #[.agg #[ii a0.1,ii a0.2.1,ii a0.2.2]] w0 fun e w'=>e= .returned (ii r)∧St no w0 w' []:=by
 have H:=St.nil no w0
 unfold kC.f at E
 refine Zb func20 ?_
 refine rg (ye (bc (cs:=#[ii a0.1,ii a0.2.1,ii a0.2.2]) H z (fun b1 w H=>A_ ?_)))
 rcases bR (decide (a0.2.1<1))with c2|c2
 ·have E:=iT c2 E
  refine A_ ?_
  cases E
  exact(aL ⟨.inl z,_,tk0 z ⟨aB z (ad ai),z,H.bs⟩⟩)
 have E:=iF c2 E
 refine A_ ?_
 rcases bR (decide (a0.1≤a0.2.1))with c3|c3
 ·have E:=iT c3 E
  refine A_ ?_
  cases E
  exact(aL ⟨.inl z,_,tk0 z ⟨aB z (ad ai),z,H.bs⟩⟩)
 have E:=iF c3 E
 refine A_ ?_
 rcases bR (decide (255<a0.1))with c4|c4
 ·have E:=iT c4 E
  refine A_ ?_
  cases E
  exact(aL ⟨.inl z,_,tk0 z ⟨aB z (ad ai),z,H.bs⟩⟩)
 have E:=iF c4 E
 refine A_ ?_
 rcases bR (decide (a0.2.2<0))with c5|c5
 ·have E:=iT c5 E
  refine A_ ?_
  cases E
  exact(aL ⟨.inl z,_,tk0 z ⟨aB z (ad ai),z,H.bs⟩⟩)
 have E:=iF c5 E
 refine A_ ?_
 refine aE E z ?_ ?_<;>intro c6 E<;>refine A_ ?_
 ·cases E
  exact(aL ⟨.inl z,_,tk0 z ⟨aB z (ad ai),z,H.bs⟩⟩)
 cases E
 exact⟨.inl z,_,tk0 z ⟨aB z (ad ai),z,H.bs⟩⟩
def lR.f(a0:Int×Int×Int):Option (Int):=(kC.f (a0.1,a0.2.1,a0.2.2)).bind fun x2=>bif !decide (x2=0)then(some 0)else(some (I W (a0.1-a0.2.1)))
theorem lR.calls{a0:Int×Int×Int}{r:Int}(E:lR.f a0=some r):
 Calls aa 46 #[.agg #[ii a0.1,ii a0.2.1,ii a0.2.2]] w0 fun e w'=>e= .returned (ii r)∧St no w0 w' []:=by
 have H:=St.nil no w0
 unfold lR.f at E
 refine Zb func46 ?_
 refine rg (ye (bc (cs:=#[ii a0.1,ii a0.2.1,ii a0.2.2]) H z (fun b1 w H=>A_ ?_)))
 refine vr (bp (l:=[ii a0.1,ii a0.2.1,ii a0.2.2]) cv (H.Gt 0 z) z z z) ?_
 refine ye (E9 vT H E (fun _=>kC.calls) (fun x2 E w H=>A_ ?_))
 refine aE E z ?_ ?_<;>intro c4 E<;>refine A_ ?_
 ·cases E
  exact(aL ⟨.inl z,_,tk0 z ⟨aB z (ad ai),z,H.bs⟩⟩)
 cases E
 exact⟨.inl z,_,tk0 z ⟨aB z (ad ai),z,H.bs⟩⟩
def il.l0:Nat→Int→Int→Option (Int)
 |0,_,_=>none
 |k+1,x4,x5=>bif decide (8≤x5)then(an (decide (0≤u64.wrap x5)) (bif decide (Int.tmod (Int.fdiv x4 (2^min (u64.wrap x5).toNat 16)) 2=1)then(an (decide (0≤u64.wrap (I W (x5-8)))) (il.l0 k (bits .xor .u16 x4 (u16.wrap (285*2^min (u64.wrap (I W (x5-8))).toNat 16))) (I W (x5-1))))else(il.l0 k x4 (I W (x5-1)))))else(some (u8.wrap x4))
def il.f(k:Nat)(a0:Int):Option (Int):=il.l0 k a0 15
theorem il.calls{a0 r:Int}(E:il.f k a0=some r):
 Calls aa 91 #[.int .u16 a0] w0 fun e w'=>e= .returned (iu r)∧St no w0 w' []:=by
 have H:=St.nil no w0
 unfold il.f at E
 refine Zb func91 ?_
 refine A_ ?_
 refine bx (fun kk t w=>∃(x4 x5:Int)(t1:Fr),kk≤k∧il.l0 kk x4 x5=some r∧t=aU t1 [(0,.int .u16 x4),(2,iu 0),(3,ii x5),Zc]∧St no w0 w []) k Ze ?_
 rintro kk t w ⟨x4,x5,t1,hk1,E,rfl,H⟩
 obtain⟨k11,rfl⟩:=Zd kk
 rw[il.l0]at E
 refine A_ ?_
 refine aE E z ?_ ?_<;>intro c1 E<;>refine A_ ?_
 ·obtain⟨g1,E⟩:=ar E
  refine A_ ?_
  refine aE E z ?_ ?_<;>intro c2 E<;>refine A_ ?_
  ·obtain⟨g2,E⟩:=ar E
   refine A_ ?_
   exact⟨k11,bL _,_,_,_,bK hk1,E,Za,H⟩
  exact⟨k11,bL _,_,_,_,bK hk1,E,Za,H⟩
 cases E
 exact⟨.inl z,_,tk0 z ⟨aB z (ad ai),z,H.bs⟩⟩
def im.l0:Nat→Int→Int→Int→Int→Option (Int)
 |0,_,_,_,_=>none
 |k+1,a0,a1,x4,x5=>bif decide (x5<8)then(an (decide (0≤u64.wrap x5)) (bif decide (Int.tmod (Int.fdiv a1 (2^min (u64.wrap x5).toNat 8)) 2=1)then(an (decide (0≤u64.wrap x5)) (im.l0 k a0 a1 (bits .xor .u16 x4 (u16.wrap (u16.wrap a0*2^min (u64.wrap x5).toNat 16))) (I W (x5+1))))else(im.l0 k a0 a1 x4 (I W (x5+1)))))else(some x4)
def im.f(k:Nat)(a0 a1:Int):Option (Int):=im.l0 k a0 a1 0 0
theorem im.calls{a0 a1 r:Int}(E:im.f k a0 a1=some r):
 Calls aa 92 #[iu a0,iu a1] w0 fun e w'=>e= .returned (.int .u16 r)∧St no w0 w' []:=by
 have H:=St.nil no w0
 unfold im.f at E
 refine Zb func92 ?_
 refine A_ ?_
 refine bx (fun kk t w=>∃(x4 x5:Int)(t1:Fr),kk≤k∧im.l0 kk a0 a1 x4 x5=some r∧t=aU t1 [(0,iu a0),(1,iu a1),(4,.int .u16 0),(5,.int .u16 x4),(6,ii x5),Zc]∧St no w0 w []) k Ze ?_
 rintro kk t w ⟨x4,x5,t1,hk1,E,rfl,H⟩
 obtain⟨k11,rfl⟩:=Zd kk
 rw[im.l0]at E
 refine A_ ?_
 refine aE E z ?_ ?_<;>intro c1 E<;>refine A_ ?_
 ·obtain⟨g1,E⟩:=ar E
  refine A_ ?_
  refine aE E z ?_ ?_<;>intro c2 E<;>refine A_ ?_
  ·obtain⟨g2,E⟩:=ar E
   refine A_ ?_
   exact⟨k11,bL _,_,_,_,bK hk1,E,Za,H⟩
  exact⟨k11,bL _,_,_,_,bK hk1,E,Za,H⟩
 cases E
 exact⟨.inl z,_,tk0 z ⟨aB z (ad ai),z,H.bs⟩⟩
def ik.f(k:Nat)(a0 a1:Int):Option (Int):=(im.f k a0 a1).bind fun x1=>(il.f k x1).bind fun x3=>some x3
theorem ik.calls{a0 a1 r:Int}(E:ik.f k a0 a1=some r):
 Calls aa 53 #[iu a0,iu a1] w0 fun e w'=>e= .returned (iu r)∧St no w0 w' []:=by
 have H:=St.nil no w0
 unfold ik.f at E
 refine Zb func53 ?_
 refine A_ ?_
 refine ye (E9 Ku H E (fun _=>im.calls) (fun x1 E w H=>?_))
 refine ye (E9 Kt H E (fun _=>il.calls) (fun x3 E w H=>A_ ?_))
 cases E
 exact⟨.inl z,_,tk0 z ⟨aB z (ad ai),z,H.bs⟩⟩
def iX.l0:Nat→Int→Int→Option (Int×Bool)
 |0,_,_=>none
 |k+1,a0,x4=>bif decide (x4<256)then((ik.f k a0 (u8.wrap x4)).bind fun x1=>bif decide (x1=1)then(some (u8.wrap x4,true))else(iX.l0 k a0 (I W (x4+1))))else(some (0,false))
def iX.f(k:Nat)(a0:Int):Option (Int×Bool):=iX.l0 k a0 0
theorem iX.calls{a0:Int}{r:Int×Bool}(E:iX.f k a0=some r):
 Calls aa 54 #[iu a0] w0 fun e w'=>e= .returned (.tuple #[iu r.1,.bool r.2])∧St no w0 w' []:=by
 have H:=St.nil no w0
 unfold iX.f at E
 refine Zb func54 ?_
 refine A_ ?_
 refine bx (fun kk t w=>∃(x4:Int)(t1:Fr),kk≤k∧iX.l0 kk a0 x4=some r∧t=aU t1 [(0,iu a0),(2,iu 0),(3,.bool false),(4,ii x4),Zc]∧St no w0 w []) k Ze ?_
 rintro kk t w ⟨x4,t1,hk1,E,rfl,H⟩
 obtain⟨k10,rfl⟩:=Zd kk
 rw[iX.l0]at E
 refine A_ ?_
 refine aE E z ?_ ?_<;>intro c1 E<;>refine A_ ?_
 ·refine ye (E9 rC H E (fun _=>ik.calls) (fun x1 E w H=>A_ ?_))
  refine aE E z ?_ ?_<;>intro c2 E<;>refine A_ ?_
  ·cases E
   exact(bG (aL (aL (bG (aL ⟨.inl z,_,tk0 z ⟨aB z (ad (ad ai)),z,H.bs⟩⟩)))))
  exact⟨k10,bL _,_,_,bK hk1,E,Za,H⟩
 cases E
 exact⟨.inl z,_,tk0 z ⟨aB z (ad (ad ai)),z,H.bs⟩⟩
def oz.f(k:Nat)(a0 a1:Int):Option (Int):=(iX.f k a1).bind fun x1=>(ik.f k a0 x1.1).bind fun x3=>some x3
theorem oz.calls{a0 a1 r:Int}(E:oz.f k a0 a1=some r):
 Calls aa 24 #[iu a0,iu a1] w0 fun e w'=>e= .returned (iu r)∧St no w0 w' []:=by
 have H:=St.nil no w0
 unfold oz.f at E
 refine Zb func24 ?_
 refine A_ ?_
 refine ye (E9 Kp H E (fun _=>iX.calls) (fun x1 E w H=>A_ ?_))
 refine ye (E9 rC H E (fun _=>ik.calls) (fun x3 E w H=>A_ ?_))
 cases E
 exact⟨.inl z,_,tk0 z ⟨aB z (ad ai),z,H.bs⟩⟩
def fV.l0:Nat→List Int→Int→Option (Int)
 |0,_,_=>none
 |k+1,a0,x6=>bif decide (0≤x6)then(an (decide ((0:Int)≤x6∧x6<(a0.length:Int))) (bif !decide (at_ 0 a0 x6=0)then(some x6)else(fV.l0 k a0 (I W (x6-1)))))else(some (-1))
def fV.f(k:Nat)(a0:List Int):Option (Int):=fV.l0 k a0 (I W ((a0.length:Int)-1))
theorem fV.calls{a0:List Int}{r:Int}(h0:Zf no w0 v0_ a0)(E:fV.f k a0=some r):
 Calls aa 59 #[v0_] w0 fun e w'=>e= .returned (ii r)∧St no w0 w' []:=by
 have H:=St.nil no w0
 unfold fV.f at E
 refine Zb func59 ?_
 refine A_ ?_
 refine bx (fun kk t w=>∃(x6:Int)(t1:Fr),kk≤k∧fV.l0 kk a0 x6=some r∧t=aU t1 [(0,v0_),(2,ii 0),(3,ii x6),Zc]∧St no w0 w []) k Ze ?_
 rintro kk t w ⟨x6,t1,hk1,E,rfl,H⟩
 obtain⟨k12,rfl⟩:=Zd kk
 rw[fV.l0]at E
 refine A_ ?_
 refine aE E z ?_ ?_<;>intro c1 E<;>refine A_ ?_
 ·obtain⟨⟨g1,g2⟩,E⟩:=ar E
  refine A_ ?_
  refine aE E z ?_ ?_<;>intro c2 E<;>refine A_ ?_
  ·cases E
   exact(bG (aL (aL (bG (aL ⟨.inl z,_,tk0 z ⟨aB z (ad ai),z,H.bs⟩⟩)))))
  exact⟨k12,bL _,_,_,bK hk1,E,Za,H⟩
 cases E
 exact⟨.inl z,_,tk0 z ⟨aB z (ad ai),z,H.bs⟩⟩
def gx.f(k:Nat)(a0:List Int):Option (List Int):=(fV.f k a0).bind fun x1=>an (decide ((0:Int)≤I W (x1+1)∧I W (x1+1)≤(a0.length:Int))) (an (decide ((([]:List Int).length+((a0.take ((I W (x1+1)).toNat)).drop 0).length)*1≤140737488355328)) (some (([]:List Int)++(a0.take ((I W (x1+1)).toNat)).drop 0)))
theorem gx.calls{a0:List Int}{r:List Int}(h0:Zf no w0 v0_ a0)(E:gx.f k a0=some r):
 Calls aa 88 #[v0_] w0 fun e w'=>∃(u0:Value),e= .returned (u0)∧St no w0 w' [Y9 u0 r]:=by
 have H:=St.nil no w0
 unfold gx.f at E
 refine Zb func88 ?_
 refine A_ ?_
 refine ye (E9 A8 H E (fun _=>fV.calls (H.arg (H.rd h0))) (fun x1 E w H=>A_ ?_))
 obtain⟨⟨g3,g4⟩,E⟩:=ar E
 have p6:0≤(I W (x1+1)).toNat:=a_
 have p7:(I W (x1+1)).toNat≤a0.length:=a_
 refine vr (fU aN (H.rd h0) z z g3 g4) ?_
 have H:=H.bB (.int .u8) 5
 obtain⟨g9,E⟩:=ar E
 refine ye (dZ aN H 0 z (Rd.bz (H.rd h0) p6 p7) z z a_ u_ (fun v8 w H=>A_ ?_))
 cases E
 exact⟨.inl z,_,tk0 z ⟨aB z (ad ai),_,z,H.bA 0 z⟩⟩
def lQ.f(k:Nat)(a0:List Int)(a1:Int):Option (List Int):=an (decide ((0:Int)≤a1∧a1≤a1∧a1≤140737488355328)) (an (decide (((List.replicate a1.toNat (0:Int)).length+a0.length)*1≤140737488355328)) ((gx.f k (List.replicate a1.toNat (0:Int)++a0)).bind fun x7=>some x7))
theorem lQ.calls{a0:List Int}{a1:Int}{r:List Int}(h0:Zf no w0 v0_ a0)(E:lQ.f k a0 a1=some r):
 Calls aa 48 #[v0_,ii a1] w0 fun e w'=>∃(u0:Value),e= .returned (u0)∧St no w0 w' [Y9 u0 r]:=by
 have H:=St.nil no w0
 unfold lQ.f at E
 refine Zb func48 ?_
 refine A_ ?_
 obtain⟨⟨g2,g3,g4⟩,E⟩:=ar E
 refine ye (ee (e:=(.int .u8)) (z0:=0) aN z H z z g2 g3 a_ a_ (fun v1 w H=>A_ ?_))
 obtain⟨g6,E⟩:=ar E
 refine ye (dZ aN H 0 z (H.rd h0) z z a_ u_ (fun v5 w H=>A_ ?_))
 refine ye (YM pO H E (fun _=>gx.calls (H.own 0 z (ao (H.Gt 0 z)))) (fun x7 E v9 w H=>A_ ?_))
 cases E
 exact⟨.inl z,_,tk0 z ⟨aB z (ad ai),_,z,H.bA 1 z⟩⟩
def jr.f(a0:List Int)(a1:Int):Option (Int):=bif decide (a1<0)then(some 0)else(bif decide ((a0.length:Int)≤a1)then(some 0)else(an (decide ((0:Int)≤a1∧a1<(a0.length:Int))) (some (at_ 0 a0 a1))))
theorem jr.calls{a0:List Int}{a1:Int}{r:Int}(h0:Zf no w0 v0_ a0)(E:jr.f a0 a1=some r):
 Calls aa 50 #[v0_,ii a1] w0 fun e w'=>e= .returned (iu r)∧St no w0 w' []:=by
 have H:=St.nil no w0
 unfold jr.f at E
 refine Zb func50 ?_
 refine A_ ?_
 rcases bR (decide (a1<0))with c1|c1
 ·have E:=iT c1 E
  refine A_ ?_
  cases E
  exact(aL ⟨.inl z,_,tk0 z ⟨aB z (ad ai),z,H.bs⟩⟩)
 have E:=iF c1 E
 refine A_ ?_
 refine aE E z ?_ ?_<;>intro c2 E<;>refine A_ ?_
 ·cases E
  exact(aL ⟨.inl z,_,tk0 z ⟨aB z (ad ai),z,H.bs⟩⟩)
 obtain⟨⟨g3,g4⟩,E⟩:=ar E
 refine A_ ?_
 cases E
 exact⟨.inl z,_,tk0 z ⟨aB z (ad ai),z,H.bs⟩⟩
def iY.l0:Nat→List Int→List Int→List (Int)→Int→Option (List Int)
 |0,_,_,_,_=>none
 |k+1,a0,a1,l1,x1=>bif decide (x1<max2 (a0.length:Int) (a1.length:Int))then((jr.f a0 x1).bind fun x2=>(jr.f a1 x1).bind fun x3=>an (decide ((l1.length+([bits .xor .u8 x2 x3]).length)*1≤140737488355328)) (iY.l0 k a0 a1 (l1++([bits .xor .u8 x2 x3])) (I W (x1+1))))else((gx.f k l1).bind fun x4=>some x4)
def iY.f(k:Nat)(a0 a1:List Int):Option (List Int):=iY.l0 k a0 a1 ([]:List Int) 0
theorem iY.calls{a0 a1:List Int}{r:List Int}(h0:Zf no w0 v0_ a0)(h1:Zf no w0 v1_ a1)(E:iY.f k a0 a1=some r):
 Calls aa 130 #[v0_,v1_] w0 fun e w'=>∃(u0:Value),e= .returned (u0)∧St no w0 w' [Y9 u0 r]:=by
 have H:=St.nil no w0
 unfold iY.f at E
 refine Zb func130 ?_
 refine A_ ?_
 have H:=H.bB (.int .u8) 5
 refine bx (fun kk t w=>∃(l1:List Int)(x1:Int)(v1:Value)(t1:Fr),kk≤k∧iY.l0 kk a0 a1 l1 x1=some r∧t=aU t1 [(0,v0_),(1,v1_),(4,sn),(5,v1),(6,ii x1),Zc]∧St no w0 w [Y9 v1 l1]) k Ze ?_
 rintro kk t w ⟨l1,x1,v1,t1,hk1,E,rfl,H⟩
 obtain⟨k31,rfl⟩:=Zd kk
 rw[iY.l0]at E
 refine A_ ?_
 refine aE E z ?_ ?_<;>intro c1 E<;>refine A_ ?_
 ·refine ye (E9 tD H E (fun _=>jr.calls (H.arg (H.rd h0))) (fun x2 E w H=>A_ ?_))
  refine ye (E9 tD H E (fun _=>jr.calls (H.arg (H.rd h1))) (fun x3 E w H=>vr (ij z z) (ye (cL (e:=(.int .u8)) (l:=[bits .xor .u8 x2 x3]) aN H z f_ ⟨z,z,acu⟩ f_ (fun v2 w H=>?_)))))
  obtain⟨g1,E⟩:=ar E
  refine ye (dZ aN H 0 z (ao (H.Gt 1 z)) z z a_ u_ (fun v3 w H=>A_ ?_))
  exact⟨k31,bL _,_,_,_,_,bK hk1,E,Za,H.Y8 [0]⟩
 refine ye (YM pO H E (fun _=>gx.calls (H.own 0 z (ao (H.Gt 0 z)))) (fun x4 E v4 w H=>A_ ?_))
 cases E
 exact⟨.inl z,_,tk0 z ⟨aB z (ad ai),_,z,H.bA 1 z⟩⟩
def iZ.l0:Nat→Int→List Int→List (Int)→Int→Option (List Int)
 |0,_,_,_,_=>none
 |k+1,a0,a1,l1,x1=>bif decide (x1<(a1.length:Int))then(an (decide ((0:Int)≤x1∧x1<(a1.length:Int))) ((ik.f k a0 (at_ 0 a1 x1)).bind fun x2=>an (decide ((l1.length+([x2]).length)*1≤140737488355328)) (iZ.l0 k a0 a1 (l1++([x2])) (I W (x1+1)))))else((gx.f k l1).bind fun x3=>some x3)
def iZ.f(k:Nat)(a0:Int)(a1:List Int):Option (List Int):=iZ.l0 k a0 a1 ([]:List Int) 0
theorem iZ.calls{a0:Int}{a1:List Int}{r:List Int}(h1:Zf no w0 v1_ a1)(E:iZ.f k a0 a1=some r):
 Calls aa 131 #[iu a0,v1_] w0 fun e w'=>∃(u0:Value),e= .returned (u0)∧St no w0 w' [Y9 u0 r]:=by
 have H:=St.nil no w0
 unfold iZ.f at E
 refine Zb func131 ?_
 refine A_ ?_
 have H:=H.bB (.int .u8) 5
 refine bx (fun kk t w=>∃(l1:List Int)(x1:Int)(v1:Value)(t1:Fr),kk≤k∧iZ.l0 kk a0 a1 l1 x1=some r∧t=aU t1 [(0,iu a0),(1,v1_),(4,sn),(5,v1),(6,ii x1),Zc]∧St no w0 w [Y9 v1 l1]) k Ze ?_
 rintro kk t w ⟨l1,x1,v1,t1,hk1,E,rfl,H⟩
 obtain⟨k31,rfl⟩:=Zd kk
 rw[iZ.l0]at E
 refine A_ ?_
 refine aE E z ?_ ?_<;>intro c1 E<;>refine A_ ?_
 ·obtain⟨⟨g1,g2⟩,E⟩:=ar E
  refine A_ ?_
  refine ye (E9 rC H E (fun _=>ik.calls) (fun x2 E w H=>ye (cL (e:=(.int .u8)) (l:=[x2]) aN H z f_ ⟨z,z,acu⟩ f_ (fun v2 w H=>?_))))
  obtain⟨g3,E⟩:=ar E
  refine ye (dZ aN H 0 z (ao (H.Gt 1 z)) z z a_ u_ (fun v3 w H=>A_ ?_))
  exact⟨k31,bL _,_,_,_,_,bK hk1,E,Za,H.Y8 [0]⟩
 refine ye (YM pO H E (fun _=>gx.calls (H.own 0 z (ao (H.Gt 0 z)))) (fun x3 E v4 w H=>A_ ?_))
 cases E
 exact⟨.inl z,_,tk0 z ⟨aB z (ad ai),_,z,H.bA 1 z⟩⟩
def eC.j0(k:Nat)(l1 l2:List Int):Option (List Int×List Int×Bool):=(gx.f k l2).bind fun x1=>some (x1,l1,true)
def eC.l0:Nat→List Int→Int→List (Int)→List (Int)→Int→Option (List Int×List Int×Bool)
 |0,_,_,_,_,_=>none
 |k+1,a1,x1,l1,l2,x2=>bif decide (x1≤x2)then(an (decide ((0:Int)≤x1∧x1<(a1.length:Int))) ((jr.f l1 x2).bind fun x3=>(oz.f k x3 (at_ 0 a1 x1)).bind fun x4=>an (decide ((0:Int)≤I W (x2-x1)∧I W (x2-x1)<(l2.length:Int))) ((iZ.f k x4 a1).bind fun x5=>(lQ.f k x5 (I W (x2-x1))).bind fun x6=>(iY.f k l1 x6).bind fun x7=>eC.l0 k a1 x1 x7 (l2.set (I W (x2-x1)).toNat x4) (I W (x2-1)))))else(eC.j0 k l1 l2)
def eC.f(k:Nat)(a0 a1:List Int):Option (List Int×List Int×Bool):=(fV.f k a1).bind fun x1=>bif decide (x1<0)then(some (([]:List Int),([]:List Int),false))else((gx.f k a0).bind fun x5=>an (decide ((0:Int)≤I W ((a0.length:Int)+1)∧I W ((a0.length:Int)+1)≤I W ((a0.length:Int)+1)∧I W ((a0.length:Int)+1)≤140737488355328)) (eC.l0 k a1 x1 x5 (List.replicate (I W ((a0.length:Int)+1)).toNat (0:Int)) (a0.length:Int)))
theorem eC.calls{a0 a1:List Int}{r:List Int×List Int×Bool}(h0:Zf no w0 v0_ a0)(h1:Zf no w0 v1_ a1)(E:eC.f k a0 a1=some r):
 Calls aa 87 #[v0_,v1_] w0 fun e w'=>∃(u0 u1:Value),e= .returned (.tuple #[u0,u1,.bool r.2.2])∧St no w0 w' [Y9 u0 r.1,Y9 u1 r.2.1]:=by
 have H:=St.nil no w0
 unfold eC.f at E
 refine Zb func87 ?_
 refine A_ ?_
 refine ye (E9 A8 H E (fun _=>fV.calls (H.arg (H.rd h1))) (fun x1 E w H=>A_ ?_))
 refine aE E z ?_ ?_<;>intro c4 E<;>refine A_ ?_
 ·have H:=H.bB (.int .u8) 5
  have H:=H.bB (.int .u8) 5
  cases E
  exact(aL ⟨.inl z,_,tk0 z ⟨aB z (ad (ad (ad ai))),_,_,z,H.bN 0 1 z z z⟩⟩)
 refine ye (YM pO H E (fun _=>gx.calls (H.arg (H.rd h0))) (fun x5 E v7 w H=>A_ ?_))
 obtain⟨⟨g9,g1,g2⟩,E⟩:=ar E
 refine ye (ee (e:=(.int .u8)) (z0:=0) aN z H z z g9 g1 a_ a_ (fun v8 w H=>J_ ?_))
 refine cA (fun t w=>∃(k1:Nat)(l1 l2:List Int)(v1:Value)(t1:Fr),k1≤k∧eC.j0 k1 l1 l2=some r∧t=aU t1 [(4,sn),(5,sn),(6,.bool false),(8,v1),(9,v8),Zc]∧St no w0 w [Y9 v1 l1,Y9 v8 l2]) ?_ ?_
 ·refine A_ ?_
  refine bx (fun kk t w=>∃(l3 l4:List Int)(x2:Int)(v2:Value)(t2:Fr),kk≤k∧eC.l0 kk a1 x1 l3 l4 x2=some r∧t=aU t2 [(1,v1_),(4,sn),(5,sn),(6,.bool false),(7,ii x1),(8,v2),(9,v8),(10,ii x2),Zc]∧St no w0 w [Y9 v2 l3,Y9 v8 l4]) k Ze ?_
  rintro kk t w ⟨l3,l4,x2,v2,t2,hk1,E,rfl,H⟩
  obtain⟨k2,rfl⟩:=Zd kk
  rw[eC.l0]at E
  refine A_ ?_
  refine aE E z ?_ ?_<;>intro c1 E<;>refine A_ ?_
  ·refine cd (ds:=[]) bZ H z z ?_
   have H:=H.drew
   refine B_ [0,1,3,4] H ?_
   obtain⟨⟨g3,g4⟩,E⟩:=ar E
   refine B_ [5,6] H ?_
   refine wo 2 z (E9 tD H E (fun _=>jr.calls (H.own 0 z (ao (H.Gt 0 z)))) (fun x3 E w H=>⟨fun _=>H.Y8 [0,1],?_⟩))
   refine wo 7 z (E9 Kj H E (fun _=>oz.calls) (fun x4 E w H=>⟨fun _=>H.Y8 [0,1],B_ [8] (H.Y8 [0,1]) ?_⟩))
   obtain⟨⟨g5,g6⟩,E⟩:=ar E
   refine A_ ?_
   refine s_ (dc dB H 1 z g5 g6 z z (fun w H=>A_ ?_))
   refine ye (YM Kc H E (fun _=>iZ.calls (H.arg (H.rd h1))) (fun x6 E v3 w H=>A_ ?_))
   refine ye (YM A7 H E (fun _=>lQ.calls (H.own 2 z (ao (H.Gt 2 z)))) (fun x7 E v4 w H=>?_))
   have H:St _ _ _ [_,_,_,_]:=H
   refine ye (YM Kb H E (fun _=>iY.calls (H.own 0 z (ao (H.Gt 0 z))) (H.own 3 z (ao (H.Gt 3 z)))) (fun x8 E v5 w H=>A_ ?_))
   exact⟨k2,bL _,_,_,_,_,_,bK hk1,E,Za,H.Y8 [4,1]⟩
  exact⟨k2,_,_,_,_,a_,E,Za,H⟩
 rintro t w ⟨k1,l1,l2,v1,t1,hk2,E,rfl,H⟩
 unfold eC.j0 at E
 refine A_ ?_
 refine ye (YM pO H E (fun _=>gx.calls (H.own 1 z (ao (H.Gt 1 z)))) (fun x9 E v6 w H=>A_ ?_))
 cases E
 exact⟨.inl z,_,tk0 z ⟨aB z (ad (ad (ad ai))),_,_,z,H.bN 2 0 z z z⟩⟩
def oA.f(k:Nat)(a0 a1:List Int):Option (List Int×Bool):=(eC.f k a0 a1).bind fun x1=>some (x1.2.1,x1.2.2)
theorem oA.calls{a0 a1:List Int}{r:List Int×Bool}(h0:Zf no w0 v0_ a0)(h1:Zf no w0 v1_ a1)(E:oA.f k a0 a1=some r):
 Calls aa 47 #[v0_,v1_] w0 fun e w'=>∃(u0:Value),e= .returned (.tuple #[u0,.bool r.2])∧St no w0 w' [Y9 u0 r.1]:=by
 have H:=St.nil no w0
 unfold oA.f at E
 refine Zb func47 ?_
 refine A_ ?_
 obtain⟨x1,E2,E⟩:=ay E
 refine ye (au Kq z ((eC.calls (H.arg (H.rd h0)) (H.arg (H.rd h1)) E2).mono ?_))
 rintro _ w ⟨v3,v4,rfl,K⟩
 have H:=H.app K
 refine⟨_,z,A_ ?_⟩
 cases E
 exact⟨.inl z,_,tk0 z ⟨aB z (ad (ad ai)),_,z,H.bA 1 z⟩⟩
mutual
def dX.l0:Nat→List Int→List Int→List (Int)→Int→Option (List Int)
 |0,_,_,_,_=>none
 |k+1,a0,a1,l1,x1=>bif decide (x1<(a0.length:Int))then(dX.l1 k a0 a1 x1 l1 0)else((gx.f k l1).bind fun x2=>some x2)
def dX.l1:Nat→List Int→List Int→Int→List (Int)→Int→Option (List Int)
 |0,_,_,_,_,_=>none
 |k+1,a0,a1,x1,l2,x3=>bif decide (x3<(a1.length:Int))then(an (decide ((0:Int)≤I W (x1+x3)∧I W (x1+x3)<(l2.length:Int))) (an (decide ((0:Int)≤x1∧x1<(a0.length:Int))) (an (decide ((0:Int)≤x3∧x3<(a1.length:Int))) ((ik.f k (at_ 0 a0 x1) (at_ 0 a1 x3)).bind fun x4=>an (decide ((0:Int)≤I W (x1+x3)∧I W (x1+x3)<(l2.length:Int))) (dX.l1 k a0 a1 x1 (l2.set (I W (x1+x3)).toNat (bits .xor .u8 (at_ 0 l2 (I W (x1+x3))) x4)) (I W (x3+1)))))))else(dX.l0 k a0 a1 l2 (I W (x1+1)))
end
def dX.f(k:Nat)(a0 a1:List Int):Option (List Int):=an (decide ((0:Int)≤I W ((a0.length:Int)+(a1.length:Int))∧I W ((a0.length:Int)+(a1.length:Int))≤I W ((a0.length:Int)+(a1.length:Int))∧I W ((a0.length:Int)+(a1.length:Int))≤140737488355328)) (dX.l0 k a0 a1 (List.replicate (I W ((a0.length:Int)+(a1.length:Int))).toNat (0:Int)) 0)
theorem dX.calls{a0 a1:List Int}{r:List Int}(h0:Zf no w0 v0_ a0)(h1:Zf no w0 v1_ a1)(E:dX.f k a0 a1=some r):
 Calls aa 132 #[v0_,v1_] w0 fun e w'=>∃(u0:Value),e= .returned (u0)∧St no w0 w' [Y9 u0 r]:=by
 have H:=St.nil no w0
 unfold dX.f at E
 refine Zb func132 ?_
 refine A_ ?_
 obtain⟨⟨g2,g3,g4⟩,E⟩:=ar E
 refine ye (ee (e:=(.int .u8)) (z0:=0) aN z H z z g2 g3 a_ a_ (fun v1 w H=>A_ ?_))
 refine bx (fun kk t w=>∃(l1:List Int)(x1:Int)(t1:Fr),kk≤k∧dX.l0 kk a0 a1 l1 x1=some r∧t=aU t1 [(0,v0_),(1,v1_),(4,sn),(5,v1),(6,ii x1),Zc]∧St no w0 w [Y9 v1 l1]) k Ze ?_
 rintro kk t w ⟨l1,x1,t1,hk1,E,rfl,H⟩
 obtain⟨k1,rfl⟩:=Zd kk
 rw[dX.l0]at E
 refine A_ ?_
 refine aE E z ?_ ?_<;>intro c1 E<;>refine A_ ?_
 ·refine bx (fun kk t w=>∃(l2:List Int)(x2:Int)(t2:Fr),kk≤k1∧dX.l1 kk a0 a1 x1 l2 x2=some r∧t=aU t2 [(0,v0_),(1,v1_),(4,sn),(5,v1),(6,ii x1),(7,ii x2),Zc]∧St no w0 w [Y9 v1 l2]) k1 Ze ?_
  rintro kk t w ⟨l2,x2,t2,hk2,E,rfl,H⟩
  obtain⟨k2,rfl⟩:=Zd kk
  rw[dX.l1]at E
  refine A_ ?_
  refine aE E z ?_ ?_<;>intro c2 E<;>refine A_ ?_
  ·refine cd (ds:=[21]) bZ H z z ?_
   have H:=H.drew
   refine B_ [0,1,2,3,4,5,6,7] H ?_
   obtain⟨⟨g1,g5⟩,E⟩:=ar E
   refine B_ [8,9,10,11] H ?_
   obtain⟨⟨g6,g7⟩,E⟩:=ar E
   refine B_ [12,13,14,15] H ?_
   obtain⟨⟨g8,g9⟩,E⟩:=ar E
   refine B_ [16,17] H ?_
   refine wo 18 z (E9 rC H E (fun _=>ik.calls) (fun x3 E w H=>⟨fun _=>H.Y8 [0],B_ [19] (H.Y8 [0]) ?_⟩))
   obtain⟨⟨g10,g11⟩,E⟩:=ar E
   refine B_ [20] (H.Y8 [0]) ?_
   refine wo 21 z (dc dB H 0 z g10 g11 z z (fun w H=>⟨fun h=>(h f_).elim,wd (A_ ?_)⟩))
   exact⟨k2,bL _,_,_,_,bK hk2,E,Za,H⟩
  exact⟨k2,a_,_,_,_,a_,E,Za,H⟩
 refine ye (YM pO H E (fun _=>gx.calls (H.own 0 z (ao (H.Gt 0 z)))) (fun x4 E v2 w H=>A_ ?_))
 cases E
 exact⟨.inl z,_,tk0 z ⟨aB z (ad ai),_,z,H.bA 1 z⟩⟩
def iq.l0:Nat→List Int→List (Int)→Int→Option (List Int)
 |0,_,_,_=>none
 |k+1,a0,l1,x1=>bif decide (x1<(a0.length:Int))then(an (decide ((0:Int)≤x1∧x1<(a0.length:Int))) ((dX.f k l1 ([at_ 0 a0 x1,1])).bind fun x2=>iq.l0 k a0 x2 (I W (x1+1))))else(some l1)
def iq.f(k:Nat)(a0:List Int):Option (List Int):=iq.l0 k a0 ([1]) 0
theorem iq.calls{a0:List Int}{r:List Int}(h0:Zf no w0 v0_ a0)(E:iq.f k a0=some r):
 Calls aa 89 #[v0_] w0 fun e w'=>∃(u0:Value),e= .returned (u0)∧St no w0 w' [Y9 u0 r]:=by
 have H:=St.nil no w0
 unfold iq.f at E
 refine Zb func89 ?_
 refine A_ ?_
 refine ye (cL (e:=(.int .u8)) (l:=[1]) aN H z f_ ⟨z,z,acu⟩ f_ (fun v1 w H=>A_ ?_))
 refine bx (fun kk t w=>∃(l1:List Int)(x1:Int)(v2:Value)(t1:Fr),kk≤k∧iq.l0 kk a0 l1 x1=some r∧t=aU t1 [(0,v0_),(2,sn),(3,v2),(4,ii x1),Zc]∧St no w0 w [Y9 v2 l1]) k Ze ?_
 rintro kk t w ⟨l1,x1,v2,t1,hk1,E,rfl,H⟩
 obtain⟨k21,rfl⟩:=Zd kk
 rw[iq.l0]at E
 refine A_ ?_
 refine aE E z ?_ ?_<;>intro c1 E<;>refine A_ ?_
 ·obtain⟨⟨g1,g2⟩,E⟩:=ar E
  refine A_ ?_
  refine ye (cL (e:=(.int .u8)) (l:=[at_ 0 a0 x1,1]) aN H z f_ ⟨z,z,z,z,acu⟩ f_ (fun v3 w H=>?_))
  refine ye (YM Ke H E (fun _=>dX.calls (H.own 0 z (ao (H.Gt 0 z))) (H.own 1 z (ao (H.Gt 1 z)))) (fun x2 E v4 w H=>A_ ?_))
  exact⟨k21,bL _,_,_,_,_,bK hk1,E,Za,H.Y8 [2]⟩
 cases E
 exact⟨.inl z,_,tk0 z ⟨aB z (ad ai),_,z,H.bA 0 z⟩⟩
def eX.j0(l0r:Int→Int→Int→Int→Option Int)(k:Nat)(a0 x7:Int):Option (Int):=l0r a0 x7 1 0
def eX.l0:Nat→Int→Int→Int→Int→Option (Int)
 |0,_,_,_,_=>none
 |k+1,a0,x7,x1,x2=>bif decide (x2<x7)then((ik.f k x1 a0).bind fun x3=>eX.l0 k a0 x7 x3 (I W (x2+1)))else(some x1)
def eX.f(k:Nat)(a0 a1:Int):Option (Int):=bif decide (a1=0)then(some 1)else(bif decide (a0=0)then(some 0)else(bif decide (Int.tmod a1 255<0)then(eX.j0 (eX.l0 k) k a0 (I W (Int.tmod a1 255+255)))else(eX.j0 (eX.l0 k) k a0 (Int.tmod a1 255))))
theorem eX.calls{a0 a1 r:Int}(E:eX.f k a0 a1=some r):
 Calls aa 52 #[iu a0,ii a1] w0 fun e w'=>e= .returned (iu r)∧St no w0 w' []:=by
 have H:=St.nil no w0
 unfold eX.f at E
 refine Zb func52 ?_
 refine A_ ?_
 refine aE E z ?_ ?_<;>intro c2 E<;>refine A_ ?_
 ·cases E
  exact(aL ⟨.inl z,_,tk0 z ⟨aB z (ad ai),z,H.bs⟩⟩)
 refine aE E z ?_ ?_<;>intro c4 E
 ·refine A_ ?_
  cases E
  exact(aL ⟨.inl z,_,tk0 z ⟨aB z (ad ai),z,H.bs⟩⟩)
 refine J_ ?_
 refine cA (fun t w=>∃(k9:Nat)(x7:Int)(t8:Fr),k9≤k∧eX.j0 (eX.l0 k9) k9 a0 x7=some r∧t=aU t8 [(0,iu a0),(4,iu 0),(5,ii x7),Zc]∧St no w0 w []) ?_ ?_
 ·refine A_ ?_
  refine aE E z ?_ ?_<;>intro c1 E
  ·refine A_ ?_
   exact⟨k,_,_,aI _,E,Za,H⟩
  refine aA ?_
  exact⟨k,_,_,aI _,E,Za,H⟩
 rintro t w ⟨k9,x7,t8,hk1,E,rfl,H⟩
 unfold eX.j0 at E
 refine A_ ?_
 refine bx (fun kk t w=>∃(x1 x2:Int)(t1:Fr),kk≤k9∧eX.l0 kk a0 x7 x1 x2=some r∧t=aU t1 [(0,iu a0),(4,iu 0),(5,ii x7),(6,iu x1),(7,ii x2),Zc]∧St no w0 w []) k9 Ze ?_
 rintro kk t w ⟨x1,x2,t1,hk2,E,rfl,H⟩
 obtain⟨k22,rfl⟩:=Zd kk
 rw[eX.l0]at E
 refine A_ ?_
 refine aE E z ?_ ?_<;>intro c3 E<;>refine A_ ?_
 ·refine ye (E9 rC H E (fun _=>ik.calls) (fun x3 E w H=>A_ ?_))
  exact⟨k22,bL _,_,_,_,bK hk2,E,Za,H⟩
 cases E
 exact⟨.inl z,_,tk0 z ⟨aB z (ad ai),z,H.bs⟩⟩
def oC.f(k:Nat)(a0:Int):Option (Int):=(eX.f k 2 a0).bind fun x1=>some x1
theorem oC.calls{a0 r:Int}(E:oC.f k a0=some r):
 Calls aa 51 #[ii a0] w0 fun e w'=>e= .returned (iu r)∧St no w0 w' []:=by
 have H:=St.nil no w0
 unfold oC.f at E
 refine Zb func51 ?_
 refine A_ ?_
 refine ye (E9 Ko H E (fun _=>eX.calls) (fun x1 E w H=>A_ ?_))
 cases E
 exact⟨.inl z,_,tk0 z ⟨aB z (ad ai),z,H.bs⟩⟩
def js.l0:Nat→(Int×Int×Int)→List (Int)→Int→Option (List Int)
 |0,_,_,_=>none
 |k+1,a0,l1,x1=>(lR.f (a0.1,a0.2.1,a0.2.2)).bind fun x2=>bif decide (x1<x2)then((oC.f k (I W (a0.2.2+x1))).bind fun x3=>an (decide ((l1.length+([x3]).length)*1≤140737488355328)) (js.l0 k a0 (l1++([x3])) (I W (x1+1))))else(some l1)
def js.f(k:Nat)(a0:Int×Int×Int):Option (List Int):=js.l0 k a0 ([]:List Int) 0
theorem js.calls{a0:Int×Int×Int}{r:List Int}(E:js.f k a0=some r):
 Calls aa 90 #[.agg #[ii a0.1,ii a0.2.1,ii a0.2.2]] w0 fun e w'=>∃(u0:Value),e= .returned (u0)∧St no w0 w' [Y9 u0 r]:=by
 have H:=St.nil no w0
 unfold js.f at E
 refine Zb func90 ?_
 refine rg (ye (bc (cs:=#[ii a0.1,ii a0.2.1,ii a0.2.2]) H z (fun b1 w H=>A_ ?_)))
 have H:=H.bB (.int .u8) 5
 refine bx (fun kk t w=>∃(l1:List Int)(x1:Int)(v1:Value)(t1:Fr),kk≤k∧js.l0 kk a0 l1 x1=some r∧t=aU t1 [(1,pt b1),(2,sn),(3,v1),(4,ii x1),Zc]∧St no w0 w [.blk b1 #[ii a0.1,ii a0.2.1,ii a0.2.2] 24,Y9 v1 l1]) k Ze ?_
 rintro kk t w ⟨l1,x1,v1,t1,hk1,E,rfl,H⟩
 obtain⟨k1,rfl⟩:=Zd kk
 rw[js.l0]at E
 refine A_ ?_
 refine vr (bp (l:=[ii a0.1,ii a0.2.1,ii a0.2.2]) cv (H.Gt 0 z) z z z) ?_
 refine ye (E9 A6 H E (fun _=>lR.calls) (fun x2 E w H=>A_ ?_))
 refine aE E z ?_ ?_<;>intro c1 E<;>refine A_ ?_
 ·refine ye (E9 Kn H E (fun _=>oC.calls) (fun x3 E w H=>ye (cL (e:=(.int .u8)) (l:=[x3]) aN H z f_ ⟨z,z,acu⟩ f_ (fun v2 w H=>?_))))
  obtain⟨g1,E⟩:=ar E
  refine ye (dZ aN H 1 z (ao (H.Gt 2 z)) z z a_ u_ (fun v3 w H=>A_ ?_))
  exact⟨k1,bL _,_,_,_,_,bK hk1,E,Za,H.Y8 [0,1]⟩
 cases E
 exact⟨.inl z,_,tk0 z ⟨aB z (ad ai),_,z,H.bA 1 z⟩⟩
def oB.f(k:Nat)(a0:Int×Int×Int):Option (List Int):=(kC.f (a0.1,a0.2.1,a0.2.2)).bind fun x5=>bif !decide (x5=0)then(some ([]:List Int))else((js.f k (a0.1,a0.2.1,a0.2.2)).bind fun x8=>(iq.f k x8).bind fun x1=>some x1)
theorem oB.calls{a0:Int×Int×Int}{r:List Int}(E:oB.f k a0=some r):
 Calls aa 49 #[.agg #[ii a0.1,ii a0.2.1,ii a0.2.2]] w0 fun e w'=>∃(u0:Value),e= .returned (u0)∧St no w0 w' [Y9 u0 r]:=by
 have H:=St.nil no w0
 unfold oB.f at E
 refine Zb func49 ?_
 refine rg (ye (bc (cs:=#[ii a0.1,ii a0.2.1,ii a0.2.2]) H z (fun b1 w H=>A_ ?_)))
 refine vr (bp (l:=[ii a0.1,ii a0.2.1,ii a0.2.2]) cv (H.Gt 0 z) z z z) ?_
 refine ye (E9 vT H E (fun _=>kC.calls) (fun x5 E w H=>A_ ?_))
 refine aE E z ?_ ?_<;>intro c7 E
 ·refine A_ ?_
  have H:=H.bB (.int .u8) 5
  cases E
  exact(aL ⟨.inl z,_,tk0 z ⟨aB z (ad ai),_,z,H.bA 1 z⟩⟩)
 refine aA (ab (rg (vr (bp (l:=[ii a0.1,ii a0.2.1,ii a0.2.2]) cv (H.Gt 0 z) z z z) ?_)))
 refine ye (YM Ks H E (fun _=>js.calls) (fun x8 E v1 w H=>?_))
 refine ye (YM Kr H E (fun _=>iq.calls (H.own 1 z (ao (H.Gt 1 z)))) (fun x1 E v2 w H=>A_ ?_))
 cases E
 exact⟨.inl z,_,tk0 z ⟨aB z (ad ai),_,z,H.bA 2 z⟩⟩
end Go.Proofs.YtmhkpafkadijgaaGreatDoor.Gw
