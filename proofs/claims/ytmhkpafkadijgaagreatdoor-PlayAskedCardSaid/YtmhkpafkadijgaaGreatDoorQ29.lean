/- A part of the proof of Rows.PlayAskedCardSaid; the conditions are that card's own. -/
import Derived.Test.YtmhkpafkadijgaaGreatDoorQ28
set_option linter.all false
set_option maxRecDepth 100000
set_option maxHeartbeats 4000000
namespace Go.Proofs.YtmhkpafkadijgaaGreatDoor.Gw
open Go Go.RowKit
variable[de]
open Go.IntKind (i8 i16 i32 i64 u8 u16 u32 u64)
open Tryz renaming prog → aa
theorem Ki:En aa 18:=⟨_,_,Tryz.func18,by kernel_rfl,z⟩
def A9:ByteArray:=⟨#[]⟩
def Kv:ByteArray:=⟨#[99,111,100,101,32,52,32,50,32,48,10,101,110,99,111,100,101,32,48,49,48,48,10]⟩
theorem vS:En aa 13:=⟨_,_,Tryz.func13,by kernel_rfl,z⟩
def vW:ByteArray:=⟨#[111,107,10,48,50,48,51,48,49,48,48,10]⟩
def Kw:ByteArray:=⟨#[99,111,100,101,32,52,32,50,32,48,10,100,101,99,111,100,101,32,48,50,48,55,48,49,48,48,10,99,111,100,101,32,52,32,52,32,48,10,120,10]⟩
def vX:ByteArray:=⟨#[111,107,10,48,49,48,48,32,48,50,48,51,48,49,48,48,32,49,10,101,114,114,111,114,32,49,48,10,98,97,100,10]⟩
theorem vT:En aa 20:=⟨_,_,Tryz.func20,by kernel_rfl,z⟩
theorem Ku:En aa 92:=⟨_,_,Tryz.func92,by kernel_rfl,z⟩
theorem Kt:En aa 91:=⟨_,_,Tryz.func91,by kernel_rfl,z⟩
theorem rC:En aa 53:=⟨_,_,Tryz.func53,by kernel_rfl,z⟩
theorem Kp:En aa 54:=⟨_,_,Tryz.func54,by kernel_rfl,z⟩
theorem A8:En aa 59:=⟨_,_,Tryz.func59,by kernel_rfl,z⟩
theorem pO:En aa 88:=⟨_,_,Tryz.func88,by kernel_rfl,z⟩
theorem tD:En aa 50:=⟨_,_,Tryz.func50,by kernel_rfl,z⟩
theorem Kj:En aa 24:=⟨_,_,Tryz.func24,by kernel_rfl,z⟩
theorem Kc:En aa 131:=⟨_,_,Tryz.func131,by kernel_rfl,z⟩
theorem A7:En aa 48:=⟨_,_,Tryz.func48,by kernel_rfl,z⟩
theorem Kb:En aa 130:=⟨_,_,Tryz.func130,by kernel_rfl,z⟩
theorem Kq:En aa 87:=⟨_,_,Tryz.func87,by kernel_rfl,z⟩
theorem Ke:En aa 132:=⟨_,_,Tryz.func132,by kernel_rfl,z⟩
theorem Ko:En aa 52:=⟨_,_,Tryz.func52,by kernel_rfl,z⟩
theorem A6:En aa 46:=⟨_,_,Tryz.func46,by kernel_rfl,z⟩
theorem Kn:En aa 51:=⟨_,_,Tryz.func51,by kernel_rfl,z⟩
theorem Ks:En aa 90:=⟨_,_,Tryz.func90,by kernel_rfl,z⟩
theorem Kr:En aa 89:=⟨_,_,Tryz.func89,by kernel_rfl,z⟩
theorem Kl:En aa 49:=⟨_,_,Tryz.func49,by kernel_rfl,z⟩
theorem Kk:En aa 47:=⟨_,_,Tryz.func47,by kernel_rfl,z⟩
theorem Km:En aa 5:=⟨_,_,Tryz.func5,by kernel_rfl,z⟩
theorem Kh:En aa 17:=⟨_,_,Tryz.func17,by kernel_rfl,z⟩
theorem Kg:En aa 16:=⟨_,_,Tryz.func16,by kernel_rfl,z⟩
theorem Kf:En aa 14:=⟨_,_,Tryz.func14,by kernel_rfl,z⟩
def mI:ByteArray:=⟨#[112,105,99,107,32]⟩
theorem vR:En aa 10:=⟨_,_,Tryz.func10,by kernel_rfl,z⟩
def fu:ByteArray:=⟨#[32]⟩
def fE:ByteArray:=⟨#[10]⟩
def vU:ByteArray:=⟨#[111,107,10,111,107,10]⟩
theorem rB:En aa 11:=⟨_,_,Tryz.func11,by kernel_rfl,z⟩
def lG:ByteArray:=⟨#[100,101,99,111,100,101,32]⟩
def nS:ByteArray:=⟨#[10,115,121,110,100,32]⟩
def mH:ByteArray:=⟨#[32,45,10]⟩
theorem Ka:En aa 12:=⟨_,_,Tryz.func12,by kernel_rfl,z⟩
def vV:ByteArray:=⟨#[97,115,107,101,100,10]⟩
def jj.j0(a1 a2 x5:Int):Option (Int×Int×Int):=an (decide (i64.wrap (x5-1)≠0)) (some (x5,i64.wrap (1+Int.tmod (i64.wrap a1) (i64.wrap (x5-1))),Int.tmod (i64.wrap a2) 255))
def jj.f(a0 a1 a2:Int):Option (Int×Int×Int):=bif decide (Int.tmod a0 32=31)then(jj.j0 a1 a2 (i64.wrap (30+i64.wrap (Int.tmod a1 40))))else(jj.j0 a1 a2 (i64.wrap (2+i64.wrap (Int.tmod a0 21))))
theorem jj.calls{w0:World}{a0 a1 a2:Int}{r:(Int×Int×Int)}(E:jj.f a0 a1 a2=some r):
 Calls aa 18 #[iu a0,iu a1,iu a2] w0 fun e w'=>e= .returned (.agg #[ii r.1,ii r.2.1,ii r.2.2])∧St no w0 w' []:=by
 have H:=St.nil no w0
 unfold jj.f at E
 refine aP (N:=33) (args:=[iu a0,iu a1,iu a2]) Tryz.func18 z z (by simp) ?_
 obtain⟨k,_⟩:∃k:Nat,k=0:=⟨0,rfl⟩
 refine rg (ye (cr rU H (fun b1 w H=>nl (rg (vm (iu a0) (vr (fg z z (by decide)) (vr (cD z Tryz.underlying5 Tryz.underlying3) (vr (aO z z) (vm (iu a2) (vr (cD z Tryz.underlying5 Tryz.underlying3) (vr (fg z z (by decide)) (vr (cf (cs:=[ii (i64.wrap (2+i64.wrap (Int.tmod a0 21))),ii 0,ii (Int.tmod (i64.wrap a2) 255)]) xb z) (ye (cr rU H (fun b2 w H=>s_ (cy qj H 1 z z z z z z (fun w H=>nl ?_)))))))))))))))))
 refine cA (fun t w=>∃(k7:Nat)(x5:Int)(t6:Fr),k7≤k∧jj.j0 a1 a2 x5=some r∧t=aU t6 [(1,iu a1),(6,pt b1),(7,pt b2),(1000000,undef)]∧St no w0 w [.blk b1 #[ii 0,ii 0,ii 0] 24,.blk b2 #[ii x5,ii 0,ii (Int.tmod (i64.wrap a2) 255)] 24]) ?_ ?_
 ·refine rg (vm (iu a0) (vr (fg z z (by decide)) (vr (cg z z) (nl ?_))))
  refine aE E z (fun c9 E=>?_) (fun c9 E=>?_)
  ·refine aH (vm (iu a1) (vr (fg z z (by decide)) (vr (cD z Tryz.underlying5 Tryz.underlying3) (vr (aO z z) (vr (az eJ z) (s_ (cQ gJ H 1 z z z z z (fun w H=>aK ?_))))))))
   exact⟨k,_,_,aI _,E,aD ⟨z,z,z,z,trivial⟩,H⟩
  ·refine aA ?_
   exact⟨k,_,_,aI _,E,aD ⟨z,z,z,z,trivial⟩,H⟩
 rintro t w ⟨k7,x5,t6,hk8,E,rfl,H⟩
 unfold jj.j0 at E
 refine rg (vm (iu a1) (vr (cD z Tryz.underlying5 Tryz.underlying3) (vr (az eJ z) (vr (av bf z (ak (H.Gt 1 z) z)) (vr (bV z z) ?_)))))
 obtain⟨g1,E⟩:=ar E
 refine vr (fg z z g1) (vr (aO z z) (vr (az jh z) (s_ (cQ gJ H 1 z z z z z (fun w H=>nl (rg (vr (bp (l:=[ii x5,ii (i64.wrap (1+Int.tmod (i64.wrap a1) (i64.wrap (x5-1)))),ii (Int.tmod (i64.wrap a2) 255)]) cv (H.Gt 1 z) z z z) (s_ (cy qj H 0 z z z z z z (fun w H=>nl (aj ?_)))))))))))
 cases E
 exact⟨.inl z,_,tk0 z ⟨aB z (dL z cv (eG (n:=3) (H.Gt 0 z) z) z ai),z,H.bs⟩⟩
def nU.f(a0 a1 a2:Int):Option (Int×Int×Int):=(jj.f (Int.tmod a0 31) a1 a2).bind fun x2=>some (x2.1,x2.2.1,x2.2.2)
theorem nU.calls{w0:World}{a0 a1 a2:Int}{r:(Int×Int×Int)}(E:nU.f a0 a1 a2=some r):
 Calls aa 5 #[iu a0,iu a1,iu a2] w0 fun e w'=>e= .returned (.agg #[ii r.1,ii r.2.1,ii r.2.2])∧St no w0 w' []:=by
 have H:=St.nil no w0
 unfold nU.f at E
 refine aP (N:=12) (args:=[iu a0,iu a1,iu a2]) Tryz.func5 z z (by simp) ?_
 refine rg (ye (cr rU H (fun b1 w H=>nl (rg (vm (iu a0) (vr (fg z z (by decide)) (vm (iu a1) (vm (iu a2) ?_))))))))
 obtain⟨x2,E3,E⟩:=ay E
 refine ye (au Ki z ((jj.calls E3).mono ?_))
 rintro _ w ⟨rfl,K⟩
 have H:=H.app K
 refine⟨_,z,s_ (cy qj H 0 z z z z z z (fun w H=>nl (aj ?_)))⟩
 cases E
 exact⟨.inl z,_,tk0 z ⟨aB z (dL z cv (eG (n:=3) (H.Gt 0 z) z) z ai),z,H.bs⟩⟩
def pP.f(k:Nat):Option (Bool):=(bg.f k Kv).bind fun x1=>bif decide (x1=vW)then((bg.f k Kw).bind fun x4=>some (decide (x4=vX)))else(some false)
theorem pP.calls{w0:World}{k:Nat}{r:Bool}(hf:(Rs.env).inv w0)(E:pP.f k=some r):
 Calls aa 12 #[] w0 fun e w'=>e= .returned (.bool r)∧St (Rs.env).fp w0 w' [.gt,.lv]:=by
 have H:=vD hf
 unfold pP.f at E
 refine aP (N:=7) (args:=[]) Tryz.func12 z z (by simp) ?_
 refine rg (va (.bool false) (nl (rg ?_)))
 obtain⟨x1,E2,E⟩:=ay E
 refine ye (au vS z ((bg.calls (sV (H.Gt 0 z) (H.Gt 1 z)) E2).mono ?_))
 rintro _ w ⟨rfl,K⟩
 have H:=H.sC 0 1 z z (by decide) K
 refine⟨_,z,vr (ov z z) (vm (.bool (decide (x1=vW))) ?_)⟩
 rcases bR (decide (x1=vW))with c3|c3
 ·have E:=iT c3 E
  obtain⟨x4,E5,E⟩:=ay E
  refine dP z c3 z (au vS z ((bg.calls (sV (H.Gt 0 z) (H.Gt 1 z)) E5).mono ?_))
  rintro _ w ⟨rfl,K⟩
  have H:=H.sC 0 1 z z (by decide) K
  refine⟨_,z,oo c3 z (ov z z) (vr (pT (.bool (decide (x4=vX))) z z c3) (va (.bool (decide (x4=vX))) (nl (aj ?_))))⟩
  cases E
  exact⟨.inl z,_,tk0 z ⟨aB z (ad ai),z,H.bN 0 1 z z z⟩⟩
 ·have E:=iF c3 E
  refine ow c3 z (ow c3 z (vr (pF (.bool false) z z c3) (va (.bool false) (nl (aj ?_)))))
  cases E
  exact⟨.inl z,_,tk0 z ⟨aB z (ad ai),z,H.bN 0 1 z z z⟩⟩
def kC.f(a0:Int×Int×Int):Option (Int):=bif decide (a0.2.1<1)then(some 10)else(bif decide (a0.1≤a0.2.1)then(some 10)else(bif decide (255<a0.1)then(some 10)else(bif decide (a0.2.2<0)then(some 10)else(bif decide (254<a0.2.2)then(some 10)else(some 0)))))
theorem kC.calls{w0:World}{a0:Int×Int×Int}{r:Int}(E:kC.f a0=some r):
 Calls aa 20 #[.agg #[ii a0.1,ii a0.2.1,ii a0.2.2]] w0 fun e w'=>e= .returned (ii r)∧St no w0 w' []:=by
 have H:=St.nil no w0
 unfold kC.f at E
 refine aP (N:=28) (args:=[.agg #[ii a0.1,ii a0.2.1,ii a0.2.2]]) Tryz.func20 z z (by simp) ?_
 refine rg (ye (bc (cs:=#[ii a0.1,ii a0.2.1,ii a0.2.2]) H z (fun b1 w H=>va (ii 0) (nl (ae (rg (vr (az jh z) (vr (av bf z (ak (H.Gt 0 z) z)) (vr (aZ z z) (vm (.bool (decide (a0.2.1<1))) ?_))))))))))
 rcases bR (decide (a0.2.1<1))with c2|c2
 ·have E:=iT c2 E
  refine ow c2 z (ow c2 z (ow c2 z (ow c2 z (ow c2 z (vr (pT (.bool true) z z c2) (vm (.bool true) (ow z z (ow z z (ow z z (vr (pT (.bool true) z z z) (vm (.bool true) (ow z z (ow z z (ow z z (vr (pT (.bool true) z z z) (vm (.bool true) (ow z z (ow z z (ow z z (vr (pT (.bool true) z z z) (nl (cl z (rg (va (ii 10) (nl (aj ?_))))))))))))))))))))))))))
  cases E
  exact(aL ⟨.inl z,_,tk0 z ⟨aB z (ad ai),z,H.bs⟩⟩)
 ·have E:=iF c2 E
  refine oo c2 z (az eJ z) (oo c2 z (av bf z (ak (H.Gt 0 z) z)) (oo c2 z (az jh z) (oo c2 z (av bf z (ak (H.Gt 0 z) z)) (oo c2 z (gS z z) (vr (pF (.bool (decide (a0.1≤a0.2.1))) z z c2) (vm (.bool (decide (a0.1≤a0.2.1))) ?_))))))
  rcases bR (decide (a0.1≤a0.2.1))with c3|c3
  ·have E:=iT c3 E
   refine ow c3 z (ow c3 z (ow c3 z (vr (pT (.bool true) z z c3) (vm (.bool true) (ow z z (ow z z (ow z z (vr (pT (.bool true) z z z) (vm (.bool true) (ow z z (ow z z (ow z z (vr (pT (.bool true) z z z) (nl (cl z (rg (va (ii 10) (nl (aj ?_)))))))))))))))))))
   cases E
   exact(aL ⟨.inl z,_,tk0 z ⟨aB z (ad ai),z,H.bs⟩⟩)
  ·have E:=iF c3 E
   refine oo c3 z (az eJ z) (oo c3 z (av bf z (ak (H.Gt 0 z) z)) (oo c3 z (dy z z) (vr (pF (.bool (decide (255<a0.1))) z z c3) (vm (.bool (decide (255<a0.1))) ?_))))
   rcases bR (decide (255<a0.1))with c4|c4
   ·have E:=iT c4 E
    refine ow c4 z (ow c4 z (ow c4 z (vr (pT (.bool true) z z c4) (vm (.bool true) (ow z z (ow z z (ow z z (vr (pT (.bool true) z z z) (nl (cl z (rg (va (ii 10) (nl (aj ?_))))))))))))))
    cases E
    exact(aL ⟨.inl z,_,tk0 z ⟨aB z (ad ai),z,H.bs⟩⟩)
   ·have E:=iF c4 E
    refine oo c4 z (az nE z) (oo c4 z (av bf z (ak (H.Gt 0 z) z)) (oo c4 z (aZ z z) (vr (pF (.bool (decide (a0.2.2<0))) z z c4) (vm (.bool (decide (a0.2.2<0))) ?_))))
    rcases bR (decide (a0.2.2<0))with c5|c5
    ·have E:=iT c5 E
     refine ow c5 z (ow c5 z (ow c5 z (vr (pT (.bool true) z z c5) (nl (cl z (rg (va (ii 10) (nl (aj ?_)))))))))
     cases E
     exact(aL ⟨.inl z,_,tk0 z ⟨aB z (ad ai),z,H.bs⟩⟩)
    ·have E:=iF c5 E
     refine oo c5 z (az nE z) (oo c5 z (av bf z (ak (H.Gt 0 z) z)) (oo c5 z (dy z z) (vr (pF (.bool (decide (254<a0.2.2))) z z c5) (nl ?_))))
     refine aE E z (fun c6 E=>?_) (fun c6 E=>?_)
     ·refine rg (va (ii 10) (nl (aj ?_)))
      cases E
      exact(aL ⟨.inl z,_,tk0 z ⟨aB z (ad ai),z,H.bs⟩⟩)
     ·refine aA (ab (rg (va (ii 0) (nl (aj ?_)))))
      cases E
      exact⟨.inl z,_,tk0 z ⟨aB z (ad ai),z,H.bs⟩⟩
def lR.f(a0:Int×Int×Int):Option (Int):=(kC.f (a0.1,a0.2.1,a0.2.2)).bind fun x2=>bif !decide (x2=0)then(some 0)else(some (i64.wrap (a0.1-a0.2.1)))
theorem lR.calls{w0:World}{a0:Int×Int×Int}{r:Int}(E:lR.f a0=some r):
 Calls aa 46 #[.agg #[ii a0.1,ii a0.2.1,ii a0.2.2]] w0 fun e w'=>e= .returned (ii r)∧St no w0 w' []:=by
 have H:=St.nil no w0
 unfold lR.f at E
 refine aP (N:=11) (args:=[.agg #[ii a0.1,ii a0.2.1,ii a0.2.2]]) Tryz.func46 z z (by simp) ?_
 refine rg (ye (bc (cs:=#[ii a0.1,ii a0.2.1,ii a0.2.2]) H z (fun b1 w H=>va (ii 0) (nl (ae (rg (vr (bp (l:=[ii a0.1,ii a0.2.1,ii a0.2.2]) cv (H.Gt 0 z) z z z) ?_)))))))
 obtain⟨x2,E3,E⟩:=ay E
 refine ye (au vT z ((kC.calls E3).mono ?_))
 rintro _ w ⟨rfl,K⟩
 have H:=H.app K
 refine⟨_,z,vr (cx z z) (nl ?_)⟩
 refine aE E z (fun c4 E=>?_) (fun c4 E=>?_)
 ·refine rg (va (ii 0) (nl (aj ?_)))
  cases E
  exact(aL ⟨.inl z,_,tk0 z ⟨aB z (ad ai),z,H.bs⟩⟩)
 ·refine aA (ab (rg (vr (az eJ z) (vr (av bf z (ak (H.Gt 0 z) z)) (vr (az jh z) (vr (av bf z (ak (H.Gt 0 z) z)) (vr (bV z z) (va (ii (i64.wrap (a0.1-a0.2.1))) (nl (aj ?_))))))))))
  cases E
  exact⟨.inl z,_,tk0 z ⟨aB z (ad ai),z,H.bs⟩⟩
def il.l0:Nat→Int→Int→Option (Int)
 |0,_,_=>none
 |k+1,x4,x5=>bif decide (8≤x5)then(an (decide (0≤u64.wrap x5)) (bif decide (Int.tmod (Int.fdiv x4 (2^min (u64.wrap x5).toNat 16)) 2=1)then(an (decide (0≤u64.wrap (i64.wrap (x5-8)))) (il.l0 k (bits .xor .u16 x4 (u16.wrap (285*2^min (u64.wrap (i64.wrap (x5-8))).toNat 16))) (i64.wrap (x5-1))))else(il.l0 k x4 (i64.wrap (x5-1)))))else(some (u8.wrap x4))
def il.f(k:Nat)(a0:Int):Option (Int):=il.l0 k a0 15
theorem il.calls{w0:World}{k:Nat}{a0 r:Int}(E:il.f k a0=some r):
 Calls aa 91 #[.int .u16 a0] w0 fun e w'=>e= .returned (iu r)∧St no w0 w' []:=by
 have H:=St.nil no w0
 unfold il.f at E
 refine aP (N:=22) (args:=[.int .u16 a0]) Tryz.func91 z z (by simp) ?_
 refine rg (va (iu 0) (nl (ae (rg (va (ii 15) (nl (aG ?_)))))))
 refine bx (fun kk t w=>∃(x4 x5:Int)(t1:Fr),kk≤k∧il.l0 kk x4 x5=some r∧t=aU t1 [(0,.int .u16 x4),(2,iu 0),(3,ii x5),(1000000,undef)]∧St no w0 w []) k ?_ ?_
 ·exact⟨_,_,_,aI _,E,aD ⟨z,z,z,z,trivial⟩,H⟩
 rintro kk t w ⟨x4,x5,t1,hk1,E,rfl,H⟩
 obtain⟨k11,rfl⟩|rfl:=ks kk
 rotate_left
 ·cases E
 rw[il.l0]at E
 refine ae (rg (vm (ii x5) (vr (dq z z) (nl ?_))))
 refine aE E z (fun c1 E=>?_) (fun c1 E=>?_)
 ·refine aA (ab (ae (aG (rg (vm (.int .u16 x4) (vm (ii x5) (vr (cD z Tryz.underlying3 Tryz.underlying167) ?_)))))))
  obtain⟨g1,E⟩:=ar E
  refine vr (fT z z g1) (vr (fg z z (by decide)) (vr (cg z z) (nl ?_)))
  refine aE E z (fun c2 E=>?_) (fun c2 E=>?_)
  ·refine aH (vm (.int .u16 x4) (vm (ii x5) (vr (bV z z) (vr (cD z Tryz.underlying3 Tryz.underlying167) ?_))))
   obtain⟨g2,E⟩:=ar E
   refine vr (ox z z g2) (vr (ij z z) (va (.int .u16 (bits .xor .u16 x4 (u16.wrap (285*2^min (u64.wrap (i64.wrap (x5-8))).toNat 16)))) (aK (aR (ab (aH (vm (ii x5) (vr (bV z z) (va (ii (i64.wrap (x5-1))) (aK ?_))))))))))
   exact⟨k11,bL _,_,_,_,bK hk1,E,aD ⟨z,z,z,z,trivial⟩,H⟩
  ·refine aA (aR (ab (aH (vm (ii x5) (vr (bV z z) (va (ii (i64.wrap (x5-1))) (aK ?_)))))))
   exact⟨k11,bL _,_,_,_,bK hk1,E,aD ⟨z,z,z,z,trivial⟩,H⟩
 ·refine bt (aM (aM (bu (ab (rg (vm (.int .u16 x4) (vr (cD z Tryz.underlying124 Tryz.underlying5) (va (iu (u8.wrap x4)) (nl (aj ?_))))))))))
  cases E
  exact⟨.inl z,_,tk0 z ⟨aB z (ad ai),z,H.bs⟩⟩
def im.l0:Nat→Int→Int→Int→Int→Option (Int)
 |0,_,_,_,_=>none
 |k+1,a0,a1,x4,x5=>bif decide (x5<8)then(an (decide (0≤u64.wrap x5)) (bif decide (Int.tmod (Int.fdiv a1 (2^min (u64.wrap x5).toNat 8)) 2=1)then(an (decide (0≤u64.wrap x5)) (im.l0 k a0 a1 (bits .xor .u16 x4 (u16.wrap (u16.wrap a0*2^min (u64.wrap x5).toNat 16))) (i64.wrap (x5+1))))else(im.l0 k a0 a1 x4 (i64.wrap (x5+1)))))else(some x4)
def im.f(k:Nat)(a0 a1:Int):Option (Int):=im.l0 k a0 a1 0 0
theorem im.calls{w0:World}{k:Nat}{a0 a1 r:Int}(E:im.f k a0 a1=some r):
 Calls aa 92 #[iu a0,iu a1] w0 fun e w'=>e= .returned (.int .u16 r)∧St no w0 w' []:=by
 have H:=St.nil no w0
 unfold im.f at E
 refine aP (N:=25) (args:=[iu a0,iu a1]) Tryz.func92 z z (by simp) ?_
 refine rg (va (.int .u16 0) (nl (rg (va (.int .u16 0) (nl (ae (rg (va (ii 0) (nl (aG ?_))))))))))
 refine bx (fun kk t w=>∃(x4 x5:Int)(t1:Fr),kk≤k∧im.l0 kk a0 a1 x4 x5=some r∧t=aU t1 [(0,iu a0),(1,iu a1),(4,.int .u16 0),(5,.int .u16 x4),(6,ii x5),(1000000,undef)]∧St no w0 w []) k ?_ ?_
 ·exact⟨_,_,_,aI _,E,aD ⟨z,z,z,z,z,z,trivial⟩,H⟩
 rintro kk t w ⟨x4,x5,t1,hk1,E,rfl,H⟩
 obtain⟨k11,rfl⟩|rfl:=ks kk
 rotate_left
 ·cases E
 rw[im.l0]at E
 refine ae (rg (vm (ii x5) (vr (aZ z z) (nl ?_))))
 refine aE E z (fun c1 E=>?_) (fun c1 E=>?_)
 ·refine aA (ab (ae (aG (rg (vm (iu a1) (vm (ii x5) (vr (cD z Tryz.underlying3 Tryz.underlying167) ?_)))))))
  obtain⟨g1,E⟩:=ar E
  refine vr (fT z z g1) (vr (fg z z (by decide)) (vr (cg z z) (nl ?_)))
  refine aE E z (fun c2 E=>?_) (fun c2 E=>?_)
  ·refine aH (vm (.int .u16 x4) (vm (iu a0) (vr (cD z Tryz.underlying5 Tryz.underlying124) (vm (ii x5) (vr (cD z Tryz.underlying3 Tryz.underlying167) ?_)))))
   obtain⟨g2,E⟩:=ar E
   refine vr (ox z z g2) (vr (ij z z) (va (.int .u16 (bits .xor .u16 x4 (u16.wrap (u16.wrap a0*2^min (u64.wrap x5).toNat 16)))) (aK (aR (ab (aH (vm (ii x5) (vr (aO z z) (va (ii (i64.wrap (x5+1))) (aK ?_))))))))))
   exact⟨k11,bL _,_,_,_,bK hk1,E,aD ⟨z,z,z,z,z,z,trivial⟩,H⟩
  ·refine aA (aR (ab (aH (vm (ii x5) (vr (aO z z) (va (ii (i64.wrap (x5+1))) (aK ?_)))))))
   exact⟨k11,bL _,_,_,_,bK hk1,E,aD ⟨z,z,z,z,z,z,trivial⟩,H⟩
 ·refine bt (aM (aM (bu (ab (rg (vm (.int .u16 x4) (va (.int .u16 x4) (nl (aj ?_)))))))))
  cases E
  exact⟨.inl z,_,tk0 z ⟨aB z (ad ai),z,H.bs⟩⟩
def ik.f(k:Nat)(a0 a1:Int):Option (Int):=(im.f k a0 a1).bind fun x1=>(il.f k x1).bind fun x3=>some x3
theorem ik.calls{w0:World}{k:Nat}{a0 a1 r:Int}(E:ik.f k a0 a1=some r):
 Calls aa 53 #[iu a0,iu a1] w0 fun e w'=>e= .returned (iu r)∧St no w0 w' []:=by
 have H:=St.nil no w0
 unfold ik.f at E
 refine aP (N:=9) (args:=[iu a0,iu a1]) Tryz.func53 z z (by simp) ?_
 refine rg (va (iu 0) (nl (rg (vm (iu a0) (vm (iu a1) ?_)))))
 obtain⟨x1,E2,E⟩:=ay E
 refine ye (au Ku z ((im.calls E2).mono ?_))
 rintro _ w ⟨rfl,K⟩
 have H:=H.app K
 refine⟨_,z,?_⟩
 obtain⟨x3,E4,E⟩:=ay E
 refine ye (au Kt z ((il.calls E4).mono ?_))
 rintro _ w ⟨rfl,K⟩
 have H:=H.app K
 refine⟨_,z,va (iu x3) (nl (aj ?_))⟩
 cases E
 exact⟨.inl z,_,tk0 z ⟨aB z (ad ai),z,H.bs⟩⟩
def iX.l0:Nat→Int→Int→Option (Int×Bool)
 |0,_,_=>none
 |k+1,a0,x4=>bif decide (x4<256)then((ik.f k a0 (u8.wrap x4)).bind fun x1=>bif decide (x1=1)then(some (u8.wrap x4,true))else(iX.l0 k a0 (i64.wrap (x4+1))))else(some (0,false))
def iX.f(k:Nat)(a0:Int):Option (Int×Bool):=iX.l0 k a0 0
theorem iX.calls{w0:World}{k:Nat}{a0:Int}{r:Int×Bool}(E:iX.f k a0=some r):
 Calls aa 54 #[iu a0] w0 fun e w'=>e= .returned (.tuple #[iu r.1,.bool r.2])∧St no w0 w' []:=by
 have H:=St.nil no w0
 unfold iX.f at E
 refine aP (N:=16) (args:=[iu a0]) Tryz.func54 z z (by simp) ?_
 refine rg (va (iu 0) (va (.bool false) (nl (ae (rg (va (ii 0) (nl (aG ?_))))))))
 refine bx (fun kk t w=>∃(x4:Int)(t1:Fr),kk≤k∧iX.l0 kk a0 x4=some r∧t=aU t1 [(0,iu a0),(2,iu 0),(3,.bool false),(4,ii x4),(1000000,undef)]∧St no w0 w []) k ?_ ?_
 ·exact⟨_,_,aI _,E,aD ⟨z,z,z,z,z,trivial⟩,H⟩
 rintro kk t w ⟨x4,t1,hk1,E,rfl,H⟩
 obtain⟨k10,rfl⟩|rfl:=ks kk
 rotate_left
 ·cases E
 rw[iX.l0]at E
 refine ae (rg (vm (ii x4) (vr (aZ z z) (nl ?_))))
 refine aE E z (fun c1 E=>?_) (fun c1 E=>?_)
 ·refine aA (ab (ae (aG (rg (vm (iu a0) (vm (ii x4) (vr (cD z Tryz.underlying3 Tryz.underlying5) ?_)))))))
  obtain⟨x1,E1,E⟩:=ay E
  refine ye (au rC z ((ik.calls E1).mono ?_))
  rintro _ w ⟨rfl,K⟩
  have H:=H.app K
  refine⟨_,z,vr (cg z z) (nl ?_)⟩
  refine aE E z (fun c2 E=>?_) (fun c2 E=>?_)
  ·refine rg (vm (ii x4) (vr (cD z Tryz.underlying3 Tryz.underlying5) (va (iu (u8.wrap x4)) (va (.bool true) (nl (aj ?_))))))
   cases E
   exact(bG (aL (aL (bG (aL ⟨.inl z,_,tk0 z ⟨aB z (ad (ad ai)),z,H.bs⟩⟩)))))
  ·refine aA (aR (ab (aH (vm (ii x4) (vr (aO z z) (va (ii (i64.wrap (x4+1))) (aK ?_)))))))
   exact⟨k10,bL _,_,_,bK hk1,E,aD ⟨z,z,z,z,z,trivial⟩,H⟩
 ·refine bt (aM (aM (bu (ab (rg (va (iu 0) (va (.bool false) (nl (aj ?_)))))))))
  cases E
  exact⟨.inl z,_,tk0 z ⟨aB z (ad (ad ai)),z,H.bs⟩⟩
def oz.f(k:Nat)(a0 a1:Int):Option (Int):=(iX.f k a1).bind fun x1=>(ik.f k a0 x1.1).bind fun x3=>some x3
theorem oz.calls{w0:World}{k:Nat}{a0 a1 r:Int}(E:oz.f k a0 a1=some r):
 Calls aa 24 #[iu a0,iu a1] w0 fun e w'=>e= .returned (iu r)∧St no w0 w' []:=by
 have H:=St.nil no w0
 unfold oz.f at E
 refine aP (N:=15) (args:=[iu a0,iu a1]) Tryz.func24 z z (by simp) ?_
 refine rg (va (iu 0) (nl (rg (vm (iu a1) ?_))))
 obtain⟨x1,E2,E⟩:=ay E
 refine ye (au Kp z ((iX.calls E2).mono ?_))
 rintro _ w ⟨rfl,K⟩
 have H:=H.app K
 refine⟨_,z,vr cz (vr (aX z z) (vr (aX z z) (va (iu x1.1) (va (.bool x1.2) (nl (rg (vm (iu a0) (vm (iu x1.1) ?_))))))))⟩
 obtain⟨x3,E4,E⟩:=ay E
 refine ye (au rC z ((ik.calls E4).mono ?_))
 rintro _ w ⟨rfl,K⟩
 have H:=H.app K
 refine⟨_,z,va (iu x3) (nl (aj ?_))⟩
 cases E
 exact⟨.inl z,_,tk0 z ⟨aB z (ad ai),z,H.bs⟩⟩
def fV.l0:Nat→List Int→Int→Option (Int)
 |0,_,_=>none
 |k+1,a0,x6=>bif decide (0≤x6)then(an (decide ((0:Int)≤x6∧x6<(a0.length:Int))) (bif !decide (at_ 0 a0 x6=0)then(some x6)else(fV.l0 k a0 (i64.wrap (x6-1)))))else(some (-1))
def fV.f(k:Nat)(a0:List Int):Option (Int):=fV.l0 k a0 (i64.wrap ((a0.length:Int)-1))
theorem fV.calls{w0:World}{k:Nat}{a0:List Int}{v0_:Value}{r:Int}(h0:Rd (.of (.int .u8)) w0 (Ol no w0) v0_ a0)(E:fV.f k a0=some r):
 Calls aa 59 #[v0_] w0 fun e w'=>e= .returned (ii r)∧St no w0 w' []:=by
 have H:=St.nil no w0
 unfold fV.f at E
 refine aP (N:=17) (args:=[v0_]) Tryz.func59 z z (by simp) ?_
 refine rg (va (ii 0) (nl (ae (rg (vm v0_ (vr (aY bI (H.rd h0) z) (vr (bV z z) (va (ii (i64.wrap ((a0.length:Int)-1))) (nl (aG ?_))))))))))
 refine bx (fun kk t w=>∃(x6:Int)(t1:Fr),kk≤k∧fV.l0 kk a0 x6=some r∧t=aU t1 [(0,v0_),(2,ii 0),(3,ii x6),(1000000,undef)]∧St no w0 w []) k ?_ ?_
 ·exact⟨_,_,aI _,E,aD ⟨z,z,z,z,trivial⟩,H⟩
 rintro kk t w ⟨x6,t1,hk1,E,rfl,H⟩
 obtain⟨k12,rfl⟩|rfl:=ks kk
 rotate_left
 ·cases E
 rw[fV.l0]at E
 refine ae (rg (vm (ii x6) (vr (dq z z) (nl ?_))))
 refine aE E z (fun c1 E=>?_) (fun c1 E=>?_)
 ·refine aA (ab (ae (aG (rg (vm v0_ (vm (ii x6) ?_))))))
  obtain⟨⟨g1,g2⟩,E⟩:=ar E
  refine vr (bo aN (H.rd h0) z z g1 g2) (vr (bq bC (H.rd h0) g1 g2 z) (vr (cx z z) (nl ?_)))
  refine aE E z (fun c2 E=>?_) (fun c2 E=>?_)
  ·refine rg (vm (ii x6) (va (ii x6) (nl (aj ?_))))
   cases E
   exact(bG (aL (aL (bG (aL ⟨.inl z,_,tk0 z ⟨aB z (ad ai),z,H.bs⟩⟩)))))
  ·refine aA (aR (ab (aH (vm (ii x6) (vr (bV z z) (va (ii (i64.wrap (x6-1))) (aK ?_)))))))
   exact⟨k12,bL _,_,_,bK hk1,E,aD ⟨z,z,z,z,trivial⟩,H⟩
 ·refine bt (aM (aM (bu (ab (rg (va (ii (-1)) (nl (aj ?_))))))))
  cases E
  exact⟨.inl z,_,tk0 z ⟨aB z (ad ai),z,H.bs⟩⟩
def gx.f(k:Nat)(a0:List Int):Option (List Int):=(fV.f k a0).bind fun x1=>an (decide ((0:Int)≤i64.wrap (x1+1)∧i64.wrap (x1+1)≤(a0.length:Int))) (an (decide ((([]:List Int).length+((a0.take ((i64.wrap (x1+1)).toNat)).drop 0).length)*1≤140737488355328)) (some (([]:List Int)++(a0.take ((i64.wrap (x1+1)).toNat)).drop 0)))
theorem gx.calls{w0:World}{k:Nat}{a0:List Int}{v0_:Value}{r:List Int}(h0:Rd (.of (.int .u8)) w0 (Ol no w0) v0_ a0)(E:gx.f k a0=some r):
 Calls aa 88 #[v0_] w0 fun e w'=>∃(u0:Value),e= .returned (u0)∧St no w0 w' [.own (.int .u8) 5 u0 r]:=by
 have H:=St.nil no w0
 unfold gx.f at E
 refine aP (N:=11) (args:=[v0_]) Tryz.func88 z z (by simp) ?_
 refine rg (va sn (nl (rg (va sn (nl (rg (vm sn (vm v0_ (vm v0_ ?_)))))))))
 obtain⟨x1,E2,E⟩:=ay E
 refine ye (au A8 z ((fV.calls (H.arg (H.rd h0)) E2).mono ?_))
 rintro _ w ⟨rfl,K⟩
 have H:=H.app K
 refine⟨_,z,(vr (aO z z) ?_)⟩
 obtain⟨⟨g3,g4⟩,E⟩:=ar E
 have p6:0≤(i64.wrap (x1+1)).toNat:=by omega
 have p7:(i64.wrap (x1+1)).toNat≤a0.length:=by omega
 refine vr (fU aN (H.rd h0) z z g3 g4) ?_
 have H:=H.bB (.int .u8) 5
 obtain⟨g9,E⟩:=ar E
 refine ye (dZ aN H 0 z (Rd.bz (H.rd h0) p6 p7) z z (by omega) (by unfold maxLen;omega) (fun v8 w H=>va v8 (nl (aj ?_))))
 cases E
 exact⟨.inl z,_,tk0 z ⟨aB z (ad ai),_,z,H.bA 0 z⟩⟩
def lQ.f(k:Nat)(a0:List Int)(a1:Int):Option (List Int):=an (decide ((0:Int)≤a1∧a1≤a1∧a1≤140737488355328)) (an (decide (((List.replicate a1.toNat (0:Int)).length+a0.length)*1≤140737488355328)) ((gx.f k (List.replicate a1.toNat (0:Int)++a0)).bind fun x7=>some x7))
theorem lQ.calls{w0:World}{k:Nat}{a0:List Int}{a1:Int}{v0_:Value}{r:List Int}(h0:Rd (.of (.int .u8)) w0 (Ol no w0) v0_ a0)(E:lQ.f k a0 a1=some r):
 Calls aa 48 #[v0_,ii a1] w0 fun e w'=>∃(u0:Value),e= .returned (u0)∧St no w0 w' [.own (.int .u8) 5 u0 r]:=by
 have H:=St.nil no w0
 unfold lQ.f at E
 refine aP (N:=13) (args:=[v0_,ii a1]) Tryz.func48 z z (by simp) ?_
 refine rg (va sn (nl (rg (vm (ii a1) ?_))))
 obtain⟨⟨g2,g3,g4⟩,E⟩:=ar E
 refine ye (ee (e:=(.int .u8)) (z0:=0) aN z H z z g2 g3 (by omega) (by omega) (fun v1 w H=>va v1 (nl (rg (vm v1 (vm v0_ ?_))))))
 obtain⟨g6,E⟩:=ar E
 refine ye (dZ aN H 0 z (H.rd h0) z z (by omega) (by unfold maxLen;omega) (fun v5 w H=>va v5 (nl (rg (vm v5 ?_)))))
 obtain⟨x7,E8,E⟩:=ay E
 refine ye (au pO z ((gx.calls (H.own 0 z (ao (H.Gt 0 z))) E8).mono ?_))
 rintro _ w ⟨v9,rfl,K⟩
 have H:=H.app K
 refine⟨_,z,va v9 (nl (aj ?_))⟩
 cases E
 exact⟨.inl z,_,tk0 z ⟨aB z (ad ai),_,z,H.bA 1 z⟩⟩
def jr.f(a0:List Int)(a1:Int):Option (Int):=bif decide (a1<0)then(some 0)else(bif decide ((a0.length:Int)≤a1)then(some 0)else(an (decide ((0:Int)≤a1∧a1<(a0.length:Int))) (some (at_ 0 a0 a1))))
theorem jr.calls{w0:World}{a0:List Int}{a1:Int}{v0_:Value}{r:Int}(h0:Rd (.of (.int .u8)) w0 (Ol no w0) v0_ a0)(E:jr.f a0 a1=some r):
 Calls aa 50 #[v0_,ii a1] w0 fun e w'=>e= .returned (iu r)∧St no w0 w' []:=by
 have H:=St.nil no w0
 unfold jr.f at E
 refine aP (N:=17) (args:=[v0_,ii a1]) Tryz.func50 z z (by simp) ?_
 refine rg (va (iu 0) (nl (ae (rg (vm (ii a1) (vr (aZ z z) (vm (.bool (decide (a1<0))) ?_)))))))
 rcases bR (decide (a1<0))with c1|c1
 ·have E:=iT c1 E
  refine ow c1 z (ow c1 z (ow c1 z (ow c1 z (vr (pT (.bool true) z z c1) (nl (cl z (rg (va (iu 0) (nl (aj ?_))))))))))
  cases E
  exact(aL ⟨.inl z,_,tk0 z ⟨aB z (ad ai),z,H.bs⟩⟩)
 ·have E:=iF c1 E
  refine oo c1 z (mv (ii a1) z) (oo c1 z (mv v0_ z) (oo c1 z (aY bI (H.rd h0) z) (oo c1 z (dq z z) (vr (pF (.bool (decide ((a0.length:Int)≤a1))) z z c1) (nl ?_)))))
  refine aE E z (fun c2 E=>?_) (fun c2 E=>?_)
  ·refine rg (va (iu 0) (nl (aj ?_)))
   cases E
   exact(aL ⟨.inl z,_,tk0 z ⟨aB z (ad ai),z,H.bs⟩⟩)
  ·refine aA (ab (rg (vm v0_ (vm (ii a1) ?_))))
   obtain⟨⟨g3,g4⟩,E⟩:=ar E
   refine vr (bo aN (H.rd h0) z z g3 g4) (vr (bq bC (H.rd h0) g3 g4 z) (va (iu (at_ 0 a0 a1)) (nl (aj ?_))))
   cases E
   exact⟨.inl z,_,tk0 z ⟨aB z (ad ai),z,H.bs⟩⟩
def iY.l0:Nat→List Int→List Int→List (Int)→Int→Option (List Int)
 |0,_,_,_,_=>none
 |k+1,a0,a1,l1,x1=>bif decide (x1<max2 (a0.length:Int) (a1.length:Int))then((jr.f a0 x1).bind fun x2=>(jr.f a1 x1).bind fun x3=>an (decide ((l1.length+([bits .xor .u8 x2 x3]).length)*1≤140737488355328)) (iY.l0 k a0 a1 (l1++([bits .xor .u8 x2 x3])) (i64.wrap (x1+1))))else((gx.f k l1).bind fun x4=>some x4)
def iY.f(k:Nat)(a0 a1:List Int):Option (List Int):=iY.l0 k a0 a1 ([]:List Int) 0
theorem iY.calls{w0:World}{k:Nat}{a0 a1:List Int}{v0_ v1_:Value}{r:List Int}(h0:Rd (.of (.int .u8)) w0 (Ol no w0) v0_ a0)(h1:Rd (.of (.int .u8)) w0 (Ol no w0) v1_ a1)(E:iY.f k a0 a1=some r):
 Calls aa 130 #[v0_,v1_] w0 fun e w'=>∃(u0:Value),e= .returned (u0)∧St no w0 w' [.own (.int .u8) 5 u0 r]:=by
 have H:=St.nil no w0
 unfold iY.f at E
 refine aP (N:=28) (args:=[v0_,v1_]) Tryz.func130 z z (by simp) ?_
 refine rg (va sn (nl (rg (va sn (nl (ae (rg (va (ii 0) (nl (aG ?_))))))))))
 have H:=H.bB (.int .u8) 5
 refine bx (fun kk t w=>∃(l1:List Int)(x1:Int)(v1:Value)(t1:Fr),kk≤k∧iY.l0 kk a0 a1 l1 x1=some r∧t=aU t1 [(0,v0_),(1,v1_),(4,sn),(5,v1),(6,ii x1),(1000000,undef)]∧St no w0 w [.own (.int .u8) 5 v1 l1]) k ?_ ?_
 ·exact⟨_,_,_,_,aI _,E,aD ⟨z,z,z,z,z,z,trivial⟩,H⟩
 rintro kk t w ⟨l1,x1,v1,t1,hk1,E,rfl,H⟩
 obtain⟨k31,rfl⟩|rfl:=ks kk
 rotate_left
 ·cases E
 rw[iY.l0]at E
 refine ae (rg (vm (ii x1) (vm v0_ (vr (aY bI (H.rd h0) z) (vm v1_ (vr (aY bI (H.rd h1) z) (vr (uj z z) (vr (aZ z z) (nl ?_)))))))))
 refine aE E z (fun c1 E=>?_) (fun c1 E=>?_)
 ·refine aA (ab (ae (aG (aH (vm v1 (vm v0_ (vm (ii x1) ?_)))))))
  obtain⟨x2,E1,E⟩:=ay E
  refine ye (au tD z ((jr.calls (H.arg (H.rd h0)) E1).mono ?_))
  rintro _ w ⟨rfl,K⟩
  have H:=H.app K
  refine⟨_,z,vm v1_ (vm (ii x1) ?_)⟩
  obtain⟨x3,E2,E⟩:=ay E
  refine ye (au tD z ((jr.calls (H.arg (H.rd h1)) E2).mono ?_))
  rintro _ w ⟨rfl,K⟩
  have H:=H.app K
  refine⟨_,z,vr (ij z z) (ye (cL (e:=(.int .u8)) (l:=[bits .xor .u8 x2 x3]) aN H z (by decide) ⟨z,z,trivial⟩ (by decide) (fun v2 w H=>?_)))⟩
  obtain⟨g1,E⟩:=ar E
  refine ye (dZ aN H 0 z (ao (H.Gt 1 z)) z z (by omega) (by unfold maxLen;omega) (fun v3 w H=>va v3 (aK (aR (ab (aH (vm (ii x1) (vr (aO z z) (va (ii (i64.wrap (x1+1))) (aK ?_))))))))))
  exact⟨k31,bL _,_,_,_,_,bK hk1,E,aD ⟨z,z,z,z,z,z,trivial⟩,H.ag [0] z z⟩
 ·refine bt (aM (aM (bu (ab (rg (vm v1 ?_))))))
  obtain⟨x4,E3,E⟩:=ay E
  refine ye (au pO z ((gx.calls (H.own 0 z (ao (H.Gt 0 z))) E3).mono ?_))
  rintro _ w ⟨v4,rfl,K⟩
  have H:=H.app K
  refine⟨_,z,va v4 (nl (aj ?_))⟩
  cases E
  exact⟨.inl z,_,tk0 z ⟨aB z (ad ai),_,z,H.bA 1 z⟩⟩
def iZ.l0:Nat→Int→List Int→List (Int)→Int→Option (List Int)
 |0,_,_,_,_=>none
 |k+1,a0,a1,l1,x1=>bif decide (x1<(a1.length:Int))then(an (decide ((0:Int)≤x1∧x1<(a1.length:Int))) ((ik.f k a0 (at_ 0 a1 x1)).bind fun x2=>an (decide ((l1.length+([x2]).length)*1≤140737488355328)) (iZ.l0 k a0 a1 (l1++([x2])) (i64.wrap (x1+1)))))else((gx.f k l1).bind fun x3=>some x3)
def iZ.f(k:Nat)(a0:Int)(a1:List Int):Option (List Int):=iZ.l0 k a0 a1 ([]:List Int) 0
theorem iZ.calls{w0:World}{k:Nat}{a0:Int}{a1:List Int}{v1_:Value}{r:List Int}(h1:Rd (.of (.int .u8)) w0 (Ol no w0) v1_ a1)(E:iZ.f k a0 a1=some r):
 Calls aa 131 #[iu a0,v1_] w0 fun e w'=>∃(u0:Value),e= .returned (u0)∧St no w0 w' [.own (.int .u8) 5 u0 r]:=by
 have H:=St.nil no w0
 unfold iZ.f at E
 refine aP (N:=24) (args:=[iu a0,v1_]) Tryz.func131 z z (by simp) ?_
 refine rg (va sn (nl (rg (va sn (nl (ae (rg (va (ii 0) (nl (aG ?_))))))))))
 have H:=H.bB (.int .u8) 5
 refine bx (fun kk t w=>∃(l1:List Int)(x1:Int)(v1:Value)(t1:Fr),kk≤k∧iZ.l0 kk a0 a1 l1 x1=some r∧t=aU t1 [(0,iu a0),(1,v1_),(4,sn),(5,v1),(6,ii x1),(1000000,undef)]∧St no w0 w [.own (.int .u8) 5 v1 l1]) k ?_ ?_
 ·exact⟨_,_,_,_,aI _,E,aD ⟨z,z,z,z,z,z,trivial⟩,H⟩
 rintro kk t w ⟨l1,x1,v1,t1,hk1,E,rfl,H⟩
 obtain⟨k31,rfl⟩|rfl:=ks kk
 rotate_left
 ·cases E
 rw[iZ.l0]at E
 refine ae (rg (vm (ii x1) (vm v1_ (vr (aY bI (H.rd h1) z) (vr (aZ z z) (nl ?_))))))
 refine aE E z (fun c1 E=>?_) (fun c1 E=>?_)
 ·refine aA (ab (ae (aG (aH (vm v1 (vm (iu a0) (vm v1_ (vm (ii x1) ?_))))))))
  obtain⟨⟨g1,g2⟩,E⟩:=ar E
  refine vr (bo aN (H.rd h1) z z g1 g2) (vr (bq bC (H.rd h1) g1 g2 z) ?_)
  obtain⟨x2,E1,E⟩:=ay E
  refine ye (au rC z ((ik.calls E1).mono ?_))
  rintro _ w ⟨rfl,K⟩
  have H:=H.app K
  refine⟨_,z,ye (cL (e:=(.int .u8)) (l:=[x2]) aN H z (by decide) ⟨z,z,trivial⟩ (by decide) (fun v2 w H=>?_))⟩
  obtain⟨g3,E⟩:=ar E
  refine ye (dZ aN H 0 z (ao (H.Gt 1 z)) z z (by omega) (by unfold maxLen;omega) (fun v3 w H=>va v3 (aK (aR (ab (aH (vm (ii x1) (vr (aO z z) (va (ii (i64.wrap (x1+1))) (aK ?_))))))))))
  exact⟨k31,bL _,_,_,_,_,bK hk1,E,aD ⟨z,z,z,z,z,z,trivial⟩,H.ag [0] z z⟩
 ·refine bt (aM (aM (bu (ab (rg (vm v1 ?_))))))
  obtain⟨x3,E2,E⟩:=ay E
  refine ye (au pO z ((gx.calls (H.own 0 z (ao (H.Gt 0 z))) E2).mono ?_))
  rintro _ w ⟨v4,rfl,K⟩
  have H:=H.app K
  refine⟨_,z,va v4 (nl (aj ?_))⟩
  cases E
  exact⟨.inl z,_,tk0 z ⟨aB z (ad ai),_,z,H.bA 1 z⟩⟩
def eC.j0(k:Nat)(l1 l2:List Int):Option (List Int×List Int×Bool):=(gx.f k l2).bind fun x1=>some (x1,l1,true)
def eC.l0:Nat→List Int→Int→List (Int)→List (Int)→Int→Option (List Int×List Int×Bool)
 |0,_,_,_,_,_=>none
 |k+1,a1,x1,l1,l2,x2=>bif decide (x1≤x2)then(an (decide ((0:Int)≤x1∧x1<(a1.length:Int))) ((jr.f l1 x2).bind fun x3=>(oz.f k x3 (at_ 0 a1 x1)).bind fun x4=>an (decide ((0:Int)≤i64.wrap (x2-x1)∧i64.wrap (x2-x1)<(l2.length:Int))) ((iZ.f k x4 a1).bind fun x5=>(lQ.f k x5 (i64.wrap (x2-x1))).bind fun x6=>(iY.f k l1 x6).bind fun x7=>eC.l0 k a1 x1 x7 (l2.set (i64.wrap (x2-x1)).toNat x4) (i64.wrap (x2-1)))))else(eC.j0 k l1 l2)
def eC.f(k:Nat)(a0 a1:List Int):Option (List Int×List Int×Bool):=(fV.f k a1).bind fun x1=>bif decide (x1<0)then(some (([]:List Int),([]:List Int),false))else((gx.f k a0).bind fun x5=>an (decide ((0:Int)≤i64.wrap ((a0.length:Int)+1)∧i64.wrap ((a0.length:Int)+1)≤i64.wrap ((a0.length:Int)+1)∧i64.wrap ((a0.length:Int)+1)≤140737488355328)) (eC.l0 k a1 x1 x5 (List.replicate (i64.wrap ((a0.length:Int)+1)).toNat (0:Int)) (a0.length:Int)))
theorem eC.calls{w0:World}{k:Nat}{a0 a1:List Int}{v0_ v1_:Value}{r:List Int×List Int×Bool}(h0:Rd (.of (.int .u8)) w0 (Ol no w0) v0_ a0)(h1:Rd (.of (.int .u8)) w0 (Ol no w0) v1_ a1)(E:eC.f k a0 a1=some r):
 Calls aa 87 #[v0_,v1_] w0 fun e w'=>∃(u0 u1:Value),e= .returned (.tuple #[u0,u1,.bool r.2.2])∧St no w0 w' [.own (.int .u8) 5 u0 r.1,.own (.int .u8) 5 u1 r.2.1]:=by
 have H:=St.nil no w0
 unfold eC.f at E
 refine aP (N:=55) (args:=[v0_,v1_]) Tryz.func87 z z (by simp) ?_
 refine rg (va sn (va sn (va (.bool false) (nl (rg (vm v1_ ?_))))))
 obtain⟨x1,E2,E⟩:=ay E
 refine ye (au A8 z ((fV.calls (H.arg (H.rd h1)) E2).mono ?_))
 rintro _ w ⟨rfl,K⟩
 have H:=H.app K
 refine⟨_,z,va (ii x1) (nl (ae (rg (vm (ii x1) (vr (aZ z z) (nl ?_))))))⟩
 refine aE E z (fun c4 E=>?_) (fun c4 E=>?_)
 ·refine rg (va sn (va sn (va (.bool false) (nl (aj ?_)))))
  have H:=H.bB (.int .u8) 5
  have H:=H.bB (.int .u8) 5
  cases E
  exact(aL ⟨.inl z,_,tk0 z ⟨aB z (ad (ad (ad ai))),_,_,z,H.bN 0 1 z z z⟩⟩)
 ·refine aA (ab (rg (vm v0_ ?_)))
  obtain⟨x5,E6,E⟩:=ay E
  refine ye (au pO z ((gx.calls (H.arg (H.rd h0)) E6).mono ?_))
  rintro _ w ⟨v7,rfl,K⟩
  have H:=H.app K
  refine⟨_,z,va v7 (nl (rg (vm v0_ (vr (aY bI (H.rd h0) z) (vr (aO z z) ?_)))))⟩
  obtain⟨⟨g9,g1,g2⟩,E⟩:=ar E
  refine ye (ee (e:=(.int .u8)) (z0:=0) aN z H z z g9 g1 (by omega) (by omega) (fun v8 w H=>va v8 (nl ?_)))
  refine cA (fun t w=>∃(k1:Nat)(l1 l2:List Int)(v1:Value)(t1:Fr),k1≤k∧eC.j0 k1 l1 l2=some r∧t=aU t1 [(4,sn),(5,sn),(6,.bool false),(8,v1),(9,v8),(1000000,undef)]∧St no w0 w [.own (.int .u8) 5 v1 l1,.own (.int .u8) 5 v8 l2]) ?_ ?_
  ·refine rg (vm v0_ (vr (aY bI (H.rd h0) z) (va (ii (a0.length:Int)) (nl (aG ?_)))))
   refine bx (fun kk t w=>∃(l3 l4:List Int)(x2:Int)(v2:Value)(t2:Fr),kk≤k∧eC.l0 kk a1 x1 l3 l4 x2=some r∧t=aU t2 [(1,v1_),(4,sn),(5,sn),(6,.bool false),(7,ii x1),(8,v2),(9,v8),(10,ii x2),(1000000,undef)]∧St no w0 w [.own (.int .u8) 5 v2 l3,.own (.int .u8) 5 v8 l4]) k ?_ ?_
   ·exact⟨_,_,_,_,_,aI _,E,aD ⟨z,z,z,z,z,z,z,z,z,trivial⟩,H⟩
   rintro kk t w ⟨l3,l4,x2,v2,t2,hk1,E,rfl,H⟩
   obtain⟨k2,rfl⟩|rfl:=ks kk
   rotate_left
   ·cases E
   rw[eC.l0]at E
   refine ae (rg (vm (ii x2) (vm (ii x1) (vr (dq z z) (nl ?_)))))
   refine aE E z (fun c1 E=>?_) (fun c1 E=>?_)
   ·refine aA (ab (ae (aG (ae (cd (ds:=[]) bZ H z z ?_)))))
    have H:=H.drew
    refine wm 0 z H v2 (wm 1 z H (ii x2) (wm 3 z H v1_ (wm 4 z H (ii x1) ?_)))
    obtain⟨⟨g3,g4⟩,E⟩:=ar E
    refine wz 5 z H (fun w H=>bo aN (H.rd h1) z z g3 g4) (wz 6 z H (fun w H=>bq bC (H.rd h1) g3 g4 z) ?_)
    obtain⟨x3,E1,E⟩:=ay E
    refine wo 2 z (au tD z ((jr.calls (H.own 0 z (ao (H.Gt 0 z))) E1).mono ?_))
    rintro _ w ⟨rfl,K⟩
    have H:=H.app K
    refine⟨_,z,⟨fun _=>H.ag [0,1] z z,?_⟩⟩
    obtain⟨x4,E3,E⟩:=ay E
    refine wo 7 z (au Kj z ((oz.calls E3).mono ?_))
    rintro _ w ⟨rfl,K⟩
    have H:=H.app K
    refine⟨_,z,⟨fun _=>H.ag [0,1] z z,wg 8 z (H.ag [0,1] z z) (sg (iu x4) z) (wd (ab (rg (vm v8 (vm (ii x2) (vm (ii x1) (vr (bV z z) (vm (iu x4) ?_))))))))⟩⟩
    obtain⟨⟨g5,g6⟩,E⟩:=ar E
    refine vr (bo aN (ao (H.Gt 1 z)) z z g5 g6) (s_ (dc dB H 1 z g5 g6 z z (fun w H=>nl (aH (vm v2 (vm (iu x4) (vm v1_ ?_)))))))
    obtain⟨x6,E4,E⟩:=ay E
    refine ye (au Kc z ((iZ.calls (H.arg (H.rd h1)) E4).mono ?_))
    rintro _ w ⟨v3,rfl,K⟩
    have H:=H.app K
    refine⟨_,z,vm (ii x2) (vm (ii x1) (vr (bV z z) ?_))⟩
    obtain⟨x7,E5,E⟩:=ay E
    refine ye (au A7 z ((lQ.calls (H.own 2 z (ao (H.Gt 2 z))) E5).mono ?_))
    rintro _ w ⟨v4,rfl,K⟩
    have H:=H.app K
    refine⟨_,z,?_⟩
    have H:St no w0 _ [.own (.int .u8) 5 v2 l3,.own (.int .u8) 5 v8 (l4.set (i64.wrap (x2-x1)).toNat x4),.own (.int .u8) 5 v3 x6,.own (.int .u8) 5 v4 x7]:=H
    obtain⟨x8,E7,E⟩:=ay E
    refine ye (au Kb z ((iY.calls (H.own 0 z (ao (H.Gt 0 z))) (H.own 3 z (ao (H.Gt 3 z))) E7).mono ?_))
    rintro _ w ⟨v5,rfl,K⟩
    have H:=H.app K
    refine⟨_,z,va v5 (aK (aR (ab (aH (vm (ii x2) (vr (bV z z) (va (ii (i64.wrap (x2-1))) (aK ?_))))))))⟩
    exact⟨k2,bL _,_,_,_,_,_,bK hk1,E,aD ⟨z,z,z,z,z,z,z,z,z,trivial⟩,H.ag [4,1] z z⟩
   ·refine bt (aM (aM (bu ?_)))
    exact⟨k2,_,_,_,_,by omega,E,aD ⟨z,z,z,z,z,z,trivial⟩,H⟩
  rintro t w ⟨k1,l1,l2,v1,t1,hk2,E,rfl,H⟩
  unfold eC.j0 at E
  refine rg (vm v8 ?_)
  obtain⟨x9,E8,E⟩:=ay E
  refine ye (au pO z ((gx.calls (H.own 1 z (ao (H.Gt 1 z))) E8).mono ?_))
  rintro _ w ⟨v6,rfl,K⟩
  have H:=H.app K
  refine⟨_,z,vm v1 (va v6 (va v1 (va (.bool true) (nl (aj ?_)))))⟩
  cases E
  exact⟨.inl z,_,tk0 z ⟨aB z (ad (ad (ad ai))),_,_,z,H.bN 2 0 z z z⟩⟩
def oA.f(k:Nat)(a0 a1:List Int):Option (List Int×Bool):=(eC.f k a0 a1).bind fun x1=>some (x1.2.1,x1.2.2)
theorem oA.calls{w0:World}{k:Nat}{a0 a1:List Int}{v0_ v1_:Value}{r:List Int×Bool}(h0:Rd (.of (.int .u8)) w0 (Ol no w0) v0_ a0)(h1:Rd (.of (.int .u8)) w0 (Ol no w0) v1_ a1)(E:oA.f k a0 a1=some r):
 Calls aa 47 #[v0_,v1_] w0 fun e w'=>∃(u0:Value),e= .returned (.tuple #[u0,.bool r.2])∧St no w0 w' [.own (.int .u8) 5 u0 r.1]:=by
 have H:=St.nil no w0
 unfold oA.f at E
 refine aP (N:=18) (args:=[v0_,v1_]) Tryz.func47 z z (by simp) ?_
 refine rg (va sn (va (.bool false) (nl (rg (vm v0_ (vm v1_ ?_))))))
 obtain⟨x1,E2,E⟩:=ay E
 refine ye (au Kq z ((eC.calls (H.arg (H.rd h0)) (H.arg (H.rd h1)) E2).mono ?_))
 rintro _ w ⟨v3,v4,rfl,K⟩
 have H:=H.app K
 refine⟨_,z,vr cz (vr (aX z z) (vr (aX z z) (vr (aX z z) (va v3 (va v4 (va (.bool x1.2.2) (nl (rg (vm v4 (vm (.bool x1.2.2) (va v4 (va (.bool x1.2.2) (nl (aj ?_))))))))))))))⟩
 cases E
 exact⟨.inl z,_,tk0 z ⟨aB z (ad (ad ai)),_,z,H.bA 1 z⟩⟩
mutual
def dX.l0:Nat→List Int→List Int→List (Int)→Int→Option (List Int)
 |0,_,_,_,_=>none
 |k+1,a0,a1,l1,x1=>bif decide (x1<(a0.length:Int))then(dX.l1 k a0 a1 x1 l1 0)else((gx.f k l1).bind fun x2=>some x2)
def dX.l1:Nat→List Int→List Int→Int→List (Int)→Int→Option (List Int)
 |0,_,_,_,_,_=>none
 |k+1,a0,a1,x1,l2,x3=>bif decide (x3<(a1.length:Int))then(an (decide ((0:Int)≤i64.wrap (x1+x3)∧i64.wrap (x1+x3)<(l2.length:Int))) (an (decide ((0:Int)≤x1∧x1<(a0.length:Int))) (an (decide ((0:Int)≤x3∧x3<(a1.length:Int))) ((ik.f k (at_ 0 a0 x1) (at_ 0 a1 x3)).bind fun x4=>an (decide ((0:Int)≤i64.wrap (x1+x3)∧i64.wrap (x1+x3)<(l2.length:Int))) (dX.l1 k a0 a1 x1 (l2.set (i64.wrap (x1+x3)).toNat (bits .xor .u8 (at_ 0 l2 (i64.wrap (x1+x3))) x4)) (i64.wrap (x3+1)))))))else(dX.l0 k a0 a1 l2 (i64.wrap (x1+1)))
end
def dX.f(k:Nat)(a0 a1:List Int):Option (List Int):=an (decide ((0:Int)≤i64.wrap ((a0.length:Int)+(a1.length:Int))∧i64.wrap ((a0.length:Int)+(a1.length:Int))≤i64.wrap ((a0.length:Int)+(a1.length:Int))∧i64.wrap ((a0.length:Int)+(a1.length:Int))≤140737488355328)) (dX.l0 k a0 a1 (List.replicate (i64.wrap ((a0.length:Int)+(a1.length:Int))).toNat (0:Int)) 0)
theorem dX.calls{w0:World}{k:Nat}{a0 a1:List Int}{v0_ v1_:Value}{r:List Int}(h0:Rd (.of (.int .u8)) w0 (Ol no w0) v0_ a0)(h1:Rd (.of (.int .u8)) w0 (Ol no w0) v1_ a1)(E:dX.f k a0 a1=some r):
 Calls aa 132 #[v0_,v1_] w0 fun e w'=>∃(u0:Value),e= .returned (u0)∧St no w0 w' [.own (.int .u8) 5 u0 r]:=by
 have H:=St.nil no w0
 unfold dX.f at E
 refine aP (N:=49) (args:=[v0_,v1_]) Tryz.func132 z z (by simp) ?_
 refine rg (va sn (nl (rg (vm v0_ (vr (aY bI (H.rd h0) z) (vm v1_ (vr (aY bI (H.rd h1) z) (vr (aO z z) ?_))))))))
 obtain⟨⟨g2,g3,g4⟩,E⟩:=ar E
 refine ye (ee (e:=(.int .u8)) (z0:=0) aN z H z z g2 g3 (by omega) (by omega) (fun v1 w H=>va v1 (nl (ae (rg (va (ii 0) (nl (aG ?_))))))))
 refine bx (fun kk t w=>∃(l1:List Int)(x1:Int)(t1:Fr),kk≤k∧dX.l0 kk a0 a1 l1 x1=some r∧t=aU t1 [(0,v0_),(1,v1_),(4,sn),(5,v1),(6,ii x1),(1000000,undef)]∧St no w0 w [.own (.int .u8) 5 v1 l1]) k ?_ ?_
 ·exact⟨_,_,_,aI _,E,aD ⟨z,z,z,z,z,z,trivial⟩,H⟩
 rintro kk t w ⟨l1,x1,t1,hk1,E,rfl,H⟩
 obtain⟨k1,rfl⟩|rfl:=ks kk
 rotate_left
 ·cases E
 rw[dX.l0]at E
 refine ae (rg (vm (ii x1) (vm v0_ (vr (aY bI (H.rd h0) z) (vr (aZ z z) (nl ?_))))))
 refine aE E z (fun c1 E=>?_) (fun c1 E=>?_)
 ·refine aA (ab (ae (aG (rg (va (ii 0) (nl (aG ?_)))))))
  refine bx (fun kk t w=>∃(l2:List Int)(x2:Int)(t2:Fr),kk≤k1∧dX.l1 kk a0 a1 x1 l2 x2=some r∧t=aU t2 [(0,v0_),(1,v1_),(4,sn),(5,v1),(6,ii x1),(7,ii x2),(1000000,undef)]∧St no w0 w [.own (.int .u8) 5 v1 l2]) k1 ?_ ?_
  ·exact⟨_,_,_,aI _,E,aD ⟨z,z,z,z,z,z,z,trivial⟩,H⟩
  rintro kk t w ⟨l2,x2,t2,hk2,E,rfl,H⟩
  obtain⟨k2,rfl⟩|rfl:=ks kk
  rotate_left
  ·cases E
  rw[dX.l1]at E
  refine ae (rg (vm (ii x2) (vm v1_ (vr (aY bI (H.rd h1) z) (vr (aZ z z) (nl ?_))))))
  refine aE E z (fun c2 E=>?_) (fun c2 E=>?_)
  ·refine aA (ab (ae (aG (cd (ds:=[21]) bZ H z z ?_))))
   have H:=H.drew
   refine wm 0 z H v1 (wm 1 z H (ii x1) (wm 2 z H (ii x2) (wg 3 z H (aO z z) (wm 4 z H v1 (wm 5 z H (ii x1) (wm 6 z H (ii x2) (wg 7 z H (aO z z) ?_)))))))
   obtain⟨⟨g1,g5⟩,E⟩:=ar E
   refine wz 8 z H (fun w H=>bo aN (ao (H.Gt 0 z)) z z g1 g5) (wz 9 z H (fun w H=>bq bC (ao (H.Gt 0 z)) g1 g5 z) (wm 10 z H v0_ (wm 11 z H (ii x1) ?_)))
   obtain⟨⟨g6,g7⟩,E⟩:=ar E
   refine wz 12 z H (fun w H=>bo aN (H.rd h0) z z g6 g7) (wz 13 z H (fun w H=>bq bC (H.rd h0) g6 g7 z) (wm 14 z H v1_ (wm 15 z H (ii x2) ?_)))
   obtain⟨⟨g8,g9⟩,E⟩:=ar E
   refine wz 16 z H (fun w H=>bo aN (H.rd h1) z z g8 g9) (wz 17 z H (fun w H=>bq bC (H.rd h1) g8 g9 z) ?_)
   obtain⟨x3,E1,E⟩:=ay E
   refine wo 18 z (au rC z ((ik.calls E1).mono ?_))
   rintro _ w ⟨rfl,K⟩
   have H:=H.app K
   refine⟨_,z,⟨fun _=>H.ag [0] z z,(wg 19 z (H.ag [0] z z) (ij z z) ?_)⟩⟩
   obtain⟨⟨g10,g11⟩,E⟩:=ar E
   refine wz 20 z (H.ag [0] z z) (fun w H=>bo aN (ao (H.Gt 0 z)) z z g10 g11) (wo 21 z (dc dB H 0 z g10 g11 z z (fun w H=>⟨fun h=>(h (by decide)).elim,wd (aR (ab (aH (vm (ii x2) (vr (aO z z) (va (ii (i64.wrap (x2+1))) (aK ?_)))))))⟩)))
   exact⟨k2,bL _,_,_,_,bK hk2,E,aD ⟨z,z,z,z,z,z,z,trivial⟩,H⟩
  ·refine bt (aM (aM (bu (aR (ab (aH (vm (ii x1) (vr (aO z z) (va (ii (i64.wrap (x1+1))) (aK ?_))))))))))
   exact⟨k2,by omega,_,_,_,by omega,E,aD ⟨z,z,z,z,z,z,trivial⟩,H⟩
 ·refine bt (aM (aM (bu (ab (rg (vm v1 ?_))))))
  obtain⟨x4,E2,E⟩:=ay E
  refine ye (au pO z ((gx.calls (H.own 0 z (ao (H.Gt 0 z))) E2).mono ?_))
  rintro _ w ⟨v2,rfl,K⟩
  have H:=H.app K
  refine⟨_,z,va v2 (nl (aj ?_))⟩
  cases E
  exact⟨.inl z,_,tk0 z ⟨aB z (ad ai),_,z,H.bA 1 z⟩⟩
def iq.l0:Nat→List Int→List (Int)→Int→Option (List Int)
 |0,_,_,_=>none
 |k+1,a0,l1,x1=>bif decide (x1<(a0.length:Int))then(an (decide ((0:Int)≤x1∧x1<(a0.length:Int))) ((dX.f k l1 ([at_ 0 a0 x1,1])).bind fun x2=>iq.l0 k a0 x2 (i64.wrap (x1+1))))else(some l1)
def iq.f(k:Nat)(a0:List Int):Option (List Int):=iq.l0 k a0 ([1]) 0
theorem iq.calls{w0:World}{k:Nat}{a0:List Int}{v0_:Value}{r:List Int}(h0:Rd (.of (.int .u8)) w0 (Ol no w0) v0_ a0)(E:iq.f k a0=some r):
 Calls aa 89 #[v0_] w0 fun e w'=>∃(u0:Value),e= .returned (u0)∧St no w0 w' [.own (.int .u8) 5 u0 r]:=by
 have H:=St.nil no w0
 unfold iq.f at E
 refine aP (N:=20) (args:=[v0_]) Tryz.func89 z z (by simp) ?_
 refine rg (va sn (nl (rg (ye (cL (e:=(.int .u8)) (l:=[1]) aN H z (by decide) ⟨z,z,trivial⟩ (by decide) (fun v1 w H=>va v1 (nl (ae (rg (va (ii 0) (nl (aG ?_))))))))))))
 refine bx (fun kk t w=>∃(l1:List Int)(x1:Int)(v2:Value)(t1:Fr),kk≤k∧iq.l0 kk a0 l1 x1=some r∧t=aU t1 [(0,v0_),(2,sn),(3,v2),(4,ii x1),(1000000,undef)]∧St no w0 w [.own (.int .u8) 5 v2 l1]) k ?_ ?_
 ·exact⟨_,_,_,_,aI _,E,aD ⟨z,z,z,z,z,trivial⟩,H⟩
 rintro kk t w ⟨l1,x1,v2,t1,hk1,E,rfl,H⟩
 obtain⟨k21,rfl⟩|rfl:=ks kk
 rotate_left
 ·cases E
 rw[iq.l0]at E
 refine ae (rg (vm (ii x1) (vm v0_ (vr (aY bI (H.rd h0) z) (vr (aZ z z) (nl ?_))))))
 refine aE E z (fun c1 E=>?_) (fun c1 E=>?_)
 ·refine aA (ab (ae (aG (aH (vm v2 (vm v0_ (vm (ii x1) ?_)))))))
  obtain⟨⟨g1,g2⟩,E⟩:=ar E
  refine vr (bo aN (H.rd h0) z z g1 g2) (vr (bq bC (H.rd h0) g1 g2 z) (ye (cL (e:=(.int .u8)) (l:=[at_ 0 a0 x1,1]) aN H z (by decide) ⟨z,z,z,z,trivial⟩ (by decide) (fun v3 w H=>?_))))
  obtain⟨x2,E1,E⟩:=ay E
  refine ye (au Ke z ((dX.calls (H.own 0 z (ao (H.Gt 0 z))) (H.own 1 z (ao (H.Gt 1 z))) E1).mono ?_))
  rintro _ w ⟨v4,rfl,K⟩
  have H:=H.app K
  refine⟨_,z,va v4 (aK (aR (ab (aH (vm (ii x1) (vr (aO z z) (va (ii (i64.wrap (x1+1))) (aK ?_))))))))⟩
  exact⟨k21,bL _,_,_,_,_,bK hk1,E,aD ⟨z,z,z,z,z,trivial⟩,H.ag [2] z z⟩
 ·refine bt (aM (aM (bu (ab (rg (vm v2 (va v2 (nl (aj ?_)))))))))
  cases E
  exact⟨.inl z,_,tk0 z ⟨aB z (ad ai),_,z,H.bA 0 z⟩⟩
def eX.j0(l0r:Int→Int→Int→Int→Option Int)(k:Nat)(a0 x7:Int):Option (Int):=l0r a0 x7 1 0
def eX.l0:Nat→Int→Int→Int→Int→Option (Int)
 |0,_,_,_,_=>none
 |k+1,a0,x7,x1,x2=>bif decide (x2<x7)then((ik.f k x1 a0).bind fun x3=>eX.l0 k a0 x7 x3 (i64.wrap (x2+1)))else(some x1)
def eX.f(k:Nat)(a0 a1:Int):Option (Int):=bif decide (a1=0)then(some 1)else(bif decide (a0=0)then(some 0)else(bif decide (Int.tmod a1 255<0)then(eX.j0 (eX.l0 k) k a0 (i64.wrap (Int.tmod a1 255+255)))else(eX.j0 (eX.l0 k) k a0 (Int.tmod a1 255))))
theorem eX.calls{w0:World}{k:Nat}{a0 a1 r:Int}(E:eX.f k a0 a1=some r):
 Calls aa 52 #[iu a0,ii a1] w0 fun e w'=>e= .returned (iu r)∧St no w0 w' []:=by
 have H:=St.nil no w0
 unfold eX.f at E
 refine aP (N:=27) (args:=[iu a0,ii a1]) Tryz.func52 z z (by simp) ?_
 refine rg (va (iu 0) (nl (ae (rg (vm (ii a1) (vr (cg z z) (nl ?_)))))))
 refine aE E z (fun c2 E=>?_) (fun c2 E=>?_)
 ·refine rg (va (iu 1) (nl (aj ?_)))
  cases E
  exact(aL ⟨.inl z,_,tk0 z ⟨aB z (ad ai),z,H.bs⟩⟩)
 ·refine aA (ab (ae (rg (vm (iu a0) (vr (cg z z) (nl ?_))))))
  refine aE E z (fun c4 E=>?_) (fun c4 E=>?_)
  ·refine rg (va (iu 0) (nl (aj ?_)))
   cases E
   exact(aL ⟨.inl z,_,tk0 z ⟨aB z (ad ai),z,H.bs⟩⟩)
  ·refine aA (ab (rg (vm (ii a1) (vr (fg z z (by decide)) (va (ii (Int.tmod a1 255)) (nl ?_))))))
   refine cA (fun t w=>∃(k9:Nat)(x7:Int)(t8:Fr),k9≤k∧eX.j0 (eX.l0 k9) k9 a0 x7=some r∧t=aU t8 [(0,iu a0),(4,iu 0),(5,ii x7),(1000000,undef)]∧St no w0 w []) ?_ ?_
   ·refine rg (vm (ii (Int.tmod a1 255)) (vr (aZ z z) (nl ?_)))
    refine aE E z (fun c1 E=>?_) (fun c1 E=>?_)
    ·refine aH (vm (ii (Int.tmod a1 255)) (vr (aO z z) (va (ii (i64.wrap (Int.tmod a1 255+255))) (aK ?_))))
     exact⟨k,_,_,aI _,E,aD ⟨z,z,z,z,trivial⟩,H⟩
    ·refine aA ?_
     exact⟨k,_,_,aI _,E,aD ⟨z,z,z,z,trivial⟩,H⟩
   rintro t w ⟨k9,x7,t8,hk1,E,rfl,H⟩
   unfold eX.j0 at E
   refine rg (va (iu 1) (nl (ae (rg (va (ii 0) (nl (aG ?_)))))))
   refine bx (fun kk t w=>∃(x1 x2:Int)(t1:Fr),kk≤k9∧eX.l0 kk a0 x7 x1 x2=some r∧t=aU t1 [(0,iu a0),(4,iu 0),(5,ii x7),(6,iu x1),(7,ii x2),(1000000,undef)]∧St no w0 w []) k9 ?_ ?_
   ·exact⟨_,_,_,aI _,E,aD ⟨z,z,z,z,z,z,trivial⟩,H⟩
   rintro kk t w ⟨x1,x2,t1,hk2,E,rfl,H⟩
   obtain⟨k22,rfl⟩|rfl:=ks kk
   rotate_left
   ·cases E
   rw[eX.l0]at E
   refine ae (rg (vm (ii x2) (vm (ii x7) (vr (aZ z z) (nl ?_)))))
   refine aE E z (fun c3 E=>?_) (fun c3 E=>?_)
   ·refine aA (ab (ae (aG (aH (vm (iu x1) (vm (iu a0) ?_))))))
    obtain⟨x3,E1,E⟩:=ay E
    refine ye (au rC z ((ik.calls E1).mono ?_))
    rintro _ w ⟨rfl,K⟩
    have H:=H.app K
    refine⟨_,z,va (iu x3) (aK (aR (ab (aH (vm (ii x2) (vr (aO z z) (va (ii (i64.wrap (x2+1))) (aK ?_))))))))⟩
    exact⟨k22,bL _,_,_,_,bK hk2,E,aD ⟨z,z,z,z,z,z,trivial⟩,H⟩
   ·refine bt (aM (aM (bu (ab (rg (vm (iu x1) (va (iu x1) (nl (aj ?_)))))))))
    cases E
    exact⟨.inl z,_,tk0 z ⟨aB z (ad ai),z,H.bs⟩⟩
def oC.f(k:Nat)(a0:Int):Option (Int):=(eX.f k 2 a0).bind fun x1=>some x1
theorem oC.calls{w0:World}{k:Nat}{a0 r:Int}(E:oC.f k a0=some r):
 Calls aa 51 #[ii a0] w0 fun e w'=>e= .returned (iu r)∧St no w0 w' []:=by
 have H:=St.nil no w0
 unfold oC.f at E
 refine aP (N:=5) (args:=[ii a0]) Tryz.func51 z z (by simp) ?_
 refine rg (va (iu 0) (nl (rg (vm (ii a0) ?_))))
 obtain⟨x1,E2,E⟩:=ay E
 refine ye (au Ko z ((eX.calls E2).mono ?_))
 rintro _ w ⟨rfl,K⟩
 have H:=H.app K
 refine⟨_,z,va (iu x1) (nl (aj ?_))⟩
 cases E
 exact⟨.inl z,_,tk0 z ⟨aB z (ad ai),z,H.bs⟩⟩
def js.l0:Nat→(Int×Int×Int)→List (Int)→Int→Option (List Int)
 |0,_,_,_=>none
 |k+1,a0,l1,x1=>(lR.f (a0.1,a0.2.1,a0.2.2)).bind fun x2=>bif decide (x1<x2)then((oC.f k (i64.wrap (a0.2.2+x1))).bind fun x3=>an (decide ((l1.length+([x3]).length)*1≤140737488355328)) (js.l0 k a0 (l1++([x3])) (i64.wrap (x1+1))))else(some l1)
def js.f(k:Nat)(a0:Int×Int×Int):Option (List Int):=js.l0 k a0 ([]:List Int) 0
theorem js.calls{w0:World}{k:Nat}{a0:Int×Int×Int}{r:List Int}(E:js.f k a0=some r):
 Calls aa 90 #[.agg #[ii a0.1,ii a0.2.1,ii a0.2.2]] w0 fun e w'=>∃(u0:Value),e= .returned (u0)∧St no w0 w' [.own (.int .u8) 5 u0 r]:=by
 have H:=St.nil no w0
 unfold js.f at E
 refine aP (N:=20) (args:=[.agg #[ii a0.1,ii a0.2.1,ii a0.2.2]]) Tryz.func90 z z (by simp) ?_
 refine rg (ye (bc (cs:=#[ii a0.1,ii a0.2.1,ii a0.2.2]) H z (fun b1 w H=>va sn (nl (rg (va sn (nl (ae (rg (va (ii 0) (nl (aG ?_))))))))))))
 have H:=H.bB (.int .u8) 5
 refine bx (fun kk t w=>∃(l1:List Int)(x1:Int)(v1:Value)(t1:Fr),kk≤k∧js.l0 kk a0 l1 x1=some r∧t=aU t1 [(1,pt b1),(2,sn),(3,v1),(4,ii x1),(1000000,undef)]∧St no w0 w [.blk b1 #[ii a0.1,ii a0.2.1,ii a0.2.2] 24,.own (.int .u8) 5 v1 l1]) k ?_ ?_
 ·exact⟨_,_,_,_,aI _,E,aD ⟨z,z,z,z,z,trivial⟩,H⟩
 rintro kk t w ⟨l1,x1,v1,t1,hk1,E,rfl,H⟩
 obtain⟨k1,rfl⟩|rfl:=ks kk
 rotate_left
 ·cases E
 rw[js.l0]at E
 refine ae (rg (vm (ii x1) (vr (bp (l:=[ii a0.1,ii a0.2.1,ii a0.2.2]) cv (H.Gt 0 z) z z z) ?_)))
 obtain⟨x2,E1,E⟩:=ay E
 refine ye (au A6 z ((lR.calls E1).mono ?_))
 rintro _ w ⟨rfl,K⟩
 have H:=H.app K
 refine⟨_,z,vr (aZ z z) (nl ?_)⟩
 refine aE E z (fun c1 E=>?_) (fun c1 E=>?_)
 ·refine aA (ab (ae (aG (aH (vm v1 (vr (az nE z) (vr (av bf z (ak (H.Gt 0 z) z)) (vm (ii x1) (vr (aO z z) ?_)))))))))
  obtain⟨x3,E2,E⟩:=ay E
  refine ye (au Kn z ((oC.calls E2).mono ?_))
  rintro _ w ⟨rfl,K⟩
  have H:=H.app K
  refine⟨_,z,ye (cL (e:=(.int .u8)) (l:=[x3]) aN H z (by decide) ⟨z,z,trivial⟩ (by decide) (fun v2 w H=>?_))⟩
  obtain⟨g1,E⟩:=ar E
  refine ye (dZ aN H 1 z (ao (H.Gt 2 z)) z z (by omega) (by unfold maxLen;omega) (fun v3 w H=>va v3 (aK (aR (ab (aH (vm (ii x1) (vr (aO z z) (va (ii (i64.wrap (x1+1))) (aK ?_))))))))))
  exact⟨k1,bL _,_,_,_,_,bK hk1,E,aD ⟨z,z,z,z,z,trivial⟩,H.ag [0,1] z z⟩
 ·refine bt (aM (aM (bu (ab (rg (vm v1 (va v1 (nl (aj ?_)))))))))
  cases E
  exact⟨.inl z,_,tk0 z ⟨aB z (ad ai),_,z,H.bA 1 z⟩⟩
def oB.f(k:Nat)(a0:Int×Int×Int):Option (List Int):=(kC.f (a0.1,a0.2.1,a0.2.2)).bind fun x5=>bif !decide (x5=0)then(some ([]:List Int))else((js.f k (a0.1,a0.2.1,a0.2.2)).bind fun x8=>(iq.f k x8).bind fun x1=>some x1)
theorem oB.calls{w0:World}{k:Nat}{a0:Int×Int×Int}{r:List Int}(E:oB.f k a0=some r):
 Calls aa 49 #[.agg #[ii a0.1,ii a0.2.1,ii a0.2.2]] w0 fun e w'=>∃(u0:Value),e= .returned (u0)∧St no w0 w' [.own (.int .u8) 5 u0 r]:=by
 have H:=St.nil no w0
 unfold oB.f at E
 refine aP (N:=9) (args:=[.agg #[ii a0.1,ii a0.2.1,ii a0.2.2]]) Tryz.func49 z z (by simp) ?_
 refine rg (ye (bc (cs:=#[ii a0.1,ii a0.2.1,ii a0.2.2]) H z (fun b1 w H=>va sn (nl (ae (rg (vr (bp (l:=[ii a0.1,ii a0.2.1,ii a0.2.2]) cv (H.Gt 0 z) z z z) ?_)))))))
 obtain⟨x5,E6,E⟩:=ay E
 refine ye (au vT z ((kC.calls E6).mono ?_))
 rintro _ w ⟨rfl,K⟩
 have H:=H.app K
 refine⟨_,z,vr (cx z z) (nl ?_)⟩
 refine aE E z (fun c7 E=>?_) (fun c7 E=>?_)
 ·refine rg (va sn (nl (aj ?_)))
  have H:=H.bB (.int .u8) 5
  cases E
  exact(aL ⟨.inl z,_,tk0 z ⟨aB z (ad ai),_,z,H.bA 1 z⟩⟩)
 ·refine aA (ab (rg (vr (bp (l:=[ii a0.1,ii a0.2.1,ii a0.2.2]) cv (H.Gt 0 z) z z z) ?_)))
  obtain⟨x8,E9,E⟩:=ay E
  refine ye (au Ks z ((js.calls E9).mono ?_))
  rintro _ w ⟨v1,rfl,K⟩
  have H:=H.app K
  refine⟨_,z,?_⟩
  obtain⟨x1,E1,E⟩:=ay E
  refine ye (au Kr z ((iq.calls (H.own 1 z (ao (H.Gt 1 z))) E1).mono ?_))
  rintro _ w ⟨v2,rfl,K⟩
  have H:=H.app K
  refine⟨_,z,va v2 (nl (aj ?_))⟩
  cases E
  exact⟨.inl z,_,tk0 z ⟨aB z (ad ai),_,z,H.bA 2 z⟩⟩
def ir.l0:Nat→List Int→Int→(List Int×Bool)→List (Int)→Int→Option (List Int×Int)
 |0,_,_,_,_,_=>none
 |k+1,a1,x1,x2,l1,x3=>bif decide (x3<x1)then((jr.f x2.1 x3).bind fun x4=>an (decide ((l1.length+([x4]).length)*1≤140737488355328)) (ir.l0 k a1 x1 x2 (l1++([x4])) (i64.wrap (x3+1))))else(an (decide ((l1.length+a1.length)*1≤140737488355328)) (some (l1++a1,0)))
def ir.f(k:Nat)(a0:Int×Int×Int)(a1:List Int):Option (List Int×Int):=(kC.f (a0.1,a0.2.1,a0.2.2)).bind fun x5=>bif !decide (x5=0)then(some (([]:List Int),10))else(bif !decide ((a1.length:Int)=a0.2.1)then(some (([]:List Int),12))else((lR.f (a0.1,a0.2.1,a0.2.2)).bind fun x1=>(lQ.f k a1 x1).bind fun x2=>(oB.f k (a0.1,a0.2.1,a0.2.2)).bind fun x3=>(oA.f k x2 x3).bind fun x4=>ir.l0 k a1 x1 x4 ([]:List Int) 0))
theorem ir.calls{w0:World}{k:Nat}{a0:Int×Int×Int}{a1:List Int}{v1_:Value}{r:List Int×Int}(h1:Rd (.of (.int .u8)) w0 (Ol no w0) v1_ a1)(E:ir.f k a0 a1=some r):
 Calls aa 16 #[.agg #[ii a0.1,ii a0.2.1,ii a0.2.2],v1_] w0 fun e w'=>∃(u0:Value),e= .returned (.tuple #[u0,ii r.2])∧St no w0 w' [.own (.int .u8) 5 u0 r.1]:=by
 have H:=St.nil no w0
 unfold ir.f at E
 refine aP (N:=44) (args:=[.agg #[ii a0.1,ii a0.2.1,ii a0.2.2],v1_]) Tryz.func16 z z (by simp) ?_
 refine rg (ye (bc (cs:=#[ii a0.1,ii a0.2.1,ii a0.2.2]) H z (fun b1 w H=>va sn (va (ii 0) (nl (ae (rg (vr (bp (l:=[ii a0.1,ii a0.2.1,ii a0.2.2]) cv (H.Gt 0 z) z z z) ?_))))))))
 obtain⟨x5,E6,E⟩:=ay E
 refine ye (au vT z ((kC.calls E6).mono ?_))
 rintro _ w ⟨rfl,K⟩
 have H:=H.app K
 refine⟨_,z,vr (cx z z) (nl ?_)⟩
 refine aE E z (fun c7 E=>?_) (fun c7 E=>?_)
 ·refine rg (va sn (va (ii 10) (nl (aj ?_))))
  have H:=H.bB (.int .u8) 5
  cases E
  exact(aL ⟨.inl z,_,tk0 z ⟨aB z (ad (ad ai)),_,z,H.bA 1 z⟩⟩)
 ·refine aA (ab (ae (rg (vm v1_ (vr (aY bI (H.rd h1) z) (vr (az jh z) (vr (av bf z (ak (H.Gt 0 z) z)) (vr (cx z z) (nl ?_)))))))))
  refine aE E z (fun c9 E=>?_) (fun c9 E=>?_)
  ·refine rg (va sn (va (ii 12) (nl (aj ?_))))
   have H:=H.bB (.int .u8) 5
   cases E
   exact(aL ⟨.inl z,_,tk0 z ⟨aB z (ad (ad ai)),_,z,H.bA 1 z⟩⟩)
  ·refine aA (ab (rg (vr (bp (l:=[ii a0.1,ii a0.2.1,ii a0.2.2]) cv (H.Gt 0 z) z z z) ?_)))
   obtain⟨x1,E1,E⟩:=ay E
   refine ye (au A6 z ((lR.calls E1).mono ?_))
   rintro _ w ⟨rfl,K⟩
   have H:=H.app K
   refine⟨_,z,va (ii x1) (nl (ae (cd (ds:=[]) bZ H z z ?_)))⟩
   have H:=H.drew
   refine wm 0 z H v1_ (wm 1 z H (ii x1) (wz 3 z H (fun w H=>bp (l:=[ii a0.1,ii a0.2.1,ii a0.2.2]) cv (H.Gt 0 z) z z z) ?_))
   obtain⟨x2,E2,E⟩:=ay E
   refine wo 2 z (au A7 z ((lQ.calls (H.arg (H.rd h1)) E2).mono ?_))
   rintro _ w ⟨v1,rfl,K⟩
   have H:=H.app K
   refine⟨_,z,⟨fun _=>H.ag [0] z z,?_⟩⟩
   obtain⟨x3,E3,E⟩:=ay E
   refine wo 4 z (au Kl z ((oB.calls E3).mono ?_))
   rintro _ w ⟨v2,rfl,K⟩
   have H:=H.app K
   refine⟨_,z,⟨fun _=>H.ag [0] z z,?_⟩⟩
   have H:St no w0 _ [.blk b1 #[ii a0.1,ii a0.2.1,ii a0.2.2] 24,.own (.int .u8) 5 v1 x2,.own (.int .u8) 5 v2 x3]:=H
   obtain⟨x4,E4,E⟩:=ay E
   refine wo 5 z (au Kk z ((oA.calls (H.own 1 z (ao (H.Gt 1 z))) (H.own 2 z (ao (H.Gt 2 z))) E4).mono ?_))
   rintro _ w ⟨v3,rfl,K⟩
   have H:=H.app K
   refine⟨_,z,⟨fun _=>H.ag [0] z z,wg 6 z (H.ag [0] z z) cz (wg 7 z (H.ag [0] z z) (aX z z) (wg 8 z (H.ag [0] z z) (aX z z) (wy 9 z (H.ag [0] z z) (sg v3 z) (wg 10 z (H.ag [0] z z) (sg (.bool x4.2) z) (wd (ab (rg (va sn (nl (ae (rg (va (ii 0) (nl (aG ?_))))))))))))))⟩⟩
   have H:=H.bB (.int .u8) 5
   refine bx (fun kk t w=>∃(l1:List Int)(x6:Int)(v4:Value)(t1:Fr),kk≤k∧ir.l0 kk a1 x1 x4 l1 x6=some r∧t=aU t1 [(1,v1_),(4,sn),(5,ii 0),(6,ii x1),(7,v3),(9,v4),(10,ii x6),(1000000,undef)]∧St no w0 w [.blk b1 #[ii a0.1,ii a0.2.1,ii a0.2.2] 24,.own (.int .u8) 5 v1 x2,.own (.int .u8) 5 v2 x3,.own (.int .u8) 5 v3 x4.1,.own (.int .u8) 5 v4 l1]) k ?_ ?_
   ·exact⟨_,_,_,_,aI _,E,aD ⟨z,z,z,z,z,z,z,z,trivial⟩,H⟩
   rintro kk t w ⟨l1,x6,v4,t1,hk1,E,rfl,H⟩
   obtain⟨k1,rfl⟩|rfl:=ks kk
   rotate_left
   ·cases E
   rw[ir.l0]at E
   refine ae (rg (vm (ii x6) (vm (ii x1) (vr (aZ z z) (nl ?_)))))
   refine aE E z (fun c1 E=>?_) (fun c1 E=>?_)
   ·refine aA (ab (ae (aG (aH (vm v4 (vm v3 (vm (ii x6) ?_)))))))
    obtain⟨x7,E5,E⟩:=ay E
    refine ye (au tD z ((jr.calls (H.own 3 z (ao (H.Gt 3 z))) E5).mono ?_))
    rintro _ w ⟨rfl,K⟩
    have H:=H.app K
    refine⟨_,z,ye (cL (e:=(.int .u8)) (l:=[x7]) aN H z (by decide) ⟨z,z,trivial⟩ (by decide) (fun v5 w H=>?_))⟩
    obtain⟨g1,E⟩:=ar E
    refine ye (dZ aN H 4 z (ao (H.Gt 5 z)) z z (by omega) (by unfold maxLen;omega) (fun v6 w H=>va v6 (aK (aR (ab (aH (vm (ii x6) (vr (aO z z) (va (ii (i64.wrap (x6+1))) (aK ?_))))))))))
    exact⟨k1,bL _,_,_,_,_,bK hk1,E,aD ⟨z,z,z,z,z,z,z,z,trivial⟩,H.ag [0,1,2,3,4] z z⟩
   ·refine bt (aM (aM (bu (ab (rg (vm v4 (vm v1_ ?_)))))))
    obtain⟨g2,E⟩:=ar E
    refine ye (dZ aN H 4 z (H.rd h1) z z (by omega) (by unfold maxLen;omega) (fun v7 w H=>va v7 (va (ii 0) (nl (aj ?_)))))
    cases E
    exact⟨.inl z,_,tk0 z ⟨aB z (ad (ad ai)),_,z,H.bA 4 z⟩⟩
def nT.f(a0:Int×Int×Int)(a1:List Int):Option (List Int):=an (decide ((0:Int)≤a0.2.1∧a0.2.1≤a0.2.1∧a0.2.1≤140737488355328)) (some (cB 0 (List.replicate a0.2.1.toNat (0:Int)).length a1 (List.replicate a0.2.1.toNat (0:Int))))
theorem nT.calls{w0:World}{a0:Int×Int×Int}{a1:List Int}{v1_:Value}{r:List Int}(h1:Rd (.of (.int .u8)) w0 (Ol no w0) v1_ a1)(E:nT.f a0 a1=some r):
 Calls aa 17 #[.agg #[ii a0.1,ii a0.2.1,ii a0.2.2],v1_] w0 fun e w'=>∃(u0:Value),e= .returned (u0)∧St no w0 w' [.own (.int .u8) 5 u0 r]:=by
 have H:=St.nil no w0
 unfold nT.f at E
 refine aP (N:=13) (args:=[.agg #[ii a0.1,ii a0.2.1,ii a0.2.2],v1_]) Tryz.func17 z z (by simp) ?_
 refine rg (ye (bc (cs:=#[ii a0.1,ii a0.2.1,ii a0.2.2]) H z (fun b1 w H=>va sn (nl (rg (vr (az jh z) (vr (av bf z (ak (H.Gt 0 z) z)) ?_)))))))
 obtain⟨⟨g3,g4,g5⟩,E⟩:=ar E
 refine ye (ee (e:=(.int .u8)) (z0:=0) aN z H z z g3 g4 (by omega) (by omega) (fun v2 w H=>va v2 (nl (rg (vm v2 (vm v1_ (ye (uL aN H 1 z (H.rd h1) z z (fun w H=>nl (rg (vm v2 (va v2 (nl (aj ?_))))))))))))))
 cases E
 exact⟨.inl z,_,tk0 z ⟨aB z (ad ai),_,z,H.bA 1 z⟩⟩
end Go.Proofs.YtmhkpafkadijgaaGreatDoor.Gw
