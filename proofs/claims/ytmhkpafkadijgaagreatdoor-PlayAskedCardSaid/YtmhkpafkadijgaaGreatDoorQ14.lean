/- A part of the proof of Rows.PlayAskedCardSaid; the conditions are that card's own. -/
import Derived.Test.YtmhkpafkadijgaaGreatDoorQ13
set_option linter.all false
set_option maxRecDepth 100000
set_option maxHeartbeats 4000000
namespace Go.Proofs.YtmhkpafkadijgaaGreatDoor.Gw
open Go Go.RowKit
variable[de]
open Go.IntKind (i8 i16 i32 i64 u8 u16 u32 u64)
open Tryz renaming prog → aa
def nJ.f(a1 a2:Int):Option (Int×Bool):=(fN.f a2).bind fun x1=>bif !x1.2 then(some (0,false))else((gp.f a1 x1.1).bind fun x5=>some (x5,true))
theorem nJ.calls{w0:World}{F_:FD}{a1 a2:Int}{r:Int×Bool}(hf:(Rs.ah F_).inv w0)(E:nJ.f a1 a2=some r):
 Calls aa 223 #[pt F_.p,iu a1,iu a2] w0 fun e w'=>e= .returned (.tuple #[iu r.1,.bool r.2])∧St (Rs.ah F_).fp w0 w' [.ah F_]:=by
 have H:=St.start hf
 unfold nJ.f at E
 refine aP (N:=22) (args:=[pt F_.p,iu a1,iu a2]) Tryz.func223 z z (by simp) ?_
 refine rg (va (iu 0) (va (.bool false) (nl (rg (vm (pt F_.p) (vm (iu a2) ?_))))))
 obtain⟨x1,E2,E⟩:=ay E
 refine ye (au qX z ((fN.calls (H.Gt 0 z) E2).mono ?_))
 rintro _ w ⟨rfl,K⟩
 have H:=H.aV 0 z K
 refine⟨_,z,vr cz (vr (aX z z) (vr (aX z z) (va (iu x1.1) (va (.bool x1.2) (nl (ae (rg (vm (.bool x1.2) (vr (cp z) (nl ?_))))))))))⟩
 refine aE E z (fun c4 E=>?_) (fun c4 E=>?_)
 ·refine rg (va (iu 0) (va (.bool false) (nl (aj ?_))))
  cases E
  exact(aL ⟨.inl z,_,tk0 z ⟨aB z (ad (ad ai)),z,H.bA 0 z⟩⟩)
 ·refine aA (ab (rg (vm (pt F_.p) (vm (iu a1) (vm (iu x1.1) ?_)))))
  obtain⟨x5,E6,E⟩:=ay E
  refine ye (au pg z ((gp.calls (H.Gt 0 z) E6).mono ?_))
  rintro _ w ⟨rfl,K⟩
  have H:=H.aV 0 z K
  refine⟨_,z,va (iu x5) (va (.bool true) (nl (aj ?_)))⟩
  cases E
  exact⟨.inl z,_,tk0 z ⟨aB z (ad (ad ai)),z,H.bA 0 z⟩⟩
def ky.f(k:Nat)(a1:Int)(a2:List Int):Option (List Int):=(gn.f k a1 a2).bind fun x1=>(cX.f k x1).bind fun x4=>some x4
theorem ky.calls{w0:World}{k:Nat}{F_:FD}{a1:Int}{a2:List Int}{v2_:Value}{r:List Int}(hf:(Rs.ah F_).inv w0)(h2:Rd (.of (.int .u8)) w0 (Ol (Rs.ah F_).fp w0) v2_ a2)(E:ky.f k a1 a2=some r):
 Calls aa 271 #[pt F_.p,iu a1,v2_] w0 fun e w'=>∃(u0:Value),e= .returned (u0)∧St (Rs.ah F_).fp w0 w' [.ah F_,.own (.int .u8) 5 u0 r]:=by
 have H:=St.start hf
 unfold ky.f at E
 refine aP (N:=12) (args:=[pt F_.p,iu a1,v2_]) Tryz.func271 z z (by simp) ?_
 refine rg (va sn (nl (rg (vm (pt F_.p) (vm (iu a1) (vm v2_ ?_))))))
 obtain⟨x1,E2,E⟩:=ay E
 refine ye (au ph z ((gn.calls (H.Gt 0 z) (H.cj 0 z (H.rd h2)) E2).mono ?_))
 rintro _ w ⟨v3,rfl,K⟩
 have H:=H.aV 0 z K
 refine⟨_,z,?_⟩
 obtain⟨x4,E5,E⟩:=ay E
 refine ye (au eS z ((cX.calls (H.own 1 z (ao (H.Gt 1 z))) E5).mono ?_))
 rintro _ w ⟨v6,rfl,K⟩
 have H:=H.app K
 refine⟨_,z,va v6 (nl (aj ?_))⟩
 cases E
 exact⟨.inl z,_,tk0 z ⟨aB z (ad ai),_,z,H.bN 0 2 z z z⟩⟩
def iR.l0:Nat→List Int→Int→Int→Option (List Int×Int)
 |0,_,_,_=>none
 |k+1,a1,x1,x2=>bif decide (x2<(a1.length:Int))then(an (decide ((0:Int)≤x2∧x2<(a1.length:Int))) ((jk.f k ([1]) 0 a1 x2).bind fun x3=>bif decide (bits .xor .u8 (at_ 0 a1 x2) x3=0)then(iR.l0 k a1 (i64.wrap (x1+1)) (i64.wrap (x2+1)))else(none)))else(some ([1],0))
def iR.f(k:Nat)(a1:List Int):Option (List Int×Int):=iR.l0 k a1 1 0
theorem iR.calls{w0:World}{k:Nat}{F_:FD}{a1:List Int}{v1_:Value}{r:List Int×Int}(hf:(Rs.ah F_).inv w0)(h1:Rd (.of (.int .u8)) w0 (Ol (Rs.ah F_).fp w0) v1_ a1)(E:iR.f k a1=some r):
 Calls aa 216 #[pt F_.p,v1_] w0 fun e w'=>∃(u0:Value),e= .returned (.tuple #[u0,ii r.2])∧St (Rs.ah F_).fp w0 w' [.ah F_,.own (.int .u8) 5 u0 r.1]:=by
 have H:=St.start hf
 unfold iR.f at E
 refine aP (N:=48) (args:=[pt F_.p,v1_]) Tryz.func216 z z (by simp) ?_
 refine rg (va sn (va (ii 0) (nl (ae (rg (vm (pt F_.p) (vr (cV Tryz.underlying111 z z) (nl (bS z (aA (ab (rg (ye (cL (e:=(.int .u8)) (l:=[1]) aN H z (by decide) ⟨z,z,trivial⟩ (by decide) (fun v1 w H=>ye (cL (e:=(.int .u8)) (l:=[1]) aN H z (by decide) ⟨z,z,trivial⟩ (by decide) (fun v2 w H=>?_)))))))))))))))))
 obtain⟨p3,n4,c5,rfl⟩:=bX (H.Gt 1 z)
 obtain⟨p6,n7,c8,rfl⟩:=bX (H.Gt 2 z)
 refine vr (cf (cs:=[(.slice p3 n4 c5),ii 0,(.slice p6 n7 c8),iu 1,ii 1]) GJ z) (ye (cr Io H (fun b9 w H=>s_ (cy Ij H 3 z z z z z z (fun w H=>nl (ae (rg (vm v1_ (vr (aY bI (H.rd h1) z) (vm (ii 0) (nl (aG ?_))))))))))))
 refine bx (fun kk t w=>∃(x1 x2:Int)(t1:Fr),kk≤k∧iR.l0 kk a1 x1 x2=some r∧t=aU t1 [(0,pt F_.p),(1,v1_),(4,sn),(5,ii 0),(6,pt b9),(15,ii (a1.length:Int)),(16,ii x2),(1000000,undef)]∧St (Rs.ah F_).fp w0 w [.ah F_,.own (.int .u8) 5 (.slice p3 n4 c5) ([1]),.own (.int .u8) 5 (.slice p6 n7 c8) ([1]),.blk b9 #[(.slice p3 n4 c5),ii 0,(.slice p6 n7 c8),iu 1,ii x1] 352]) k ?_ ?_
 ·exact⟨_,_,_,aI _,E,aD ⟨z,z,z,z,z,z,z,z,trivial⟩,H⟩
 rintro kk t w ⟨x1,x2,t1,hk1,E,rfl,H⟩
 obtain⟨k28,rfl⟩|rfl:=ks kk
 rotate_left
 ·cases E
 rw[iR.l0]at E
 refine rg (vr (aZ z z) (nl (ae ?_)))
 refine aE E z (fun c1 E=>?_) (fun c1 E=>?_)
 ·refine aA (ab (ae (aG (rg (vm (ii x2) (va (ii x2) (nl (ae (cd (ds:=[]) bZ H z z ?_)))))))))
  have H:=H.drew
  refine wm 0 z H v1_ (wm 1 z H (ii x2) ?_)
  obtain⟨⟨g1,g2⟩,E⟩:=ar E
  refine wz 2 z H (fun w H=>bo aN (H.rd h1) z z g1 g2) (wz 3 z H (fun w H=>bq bC (H.rd h1) g1 g2 z) (wm 4 z H (pt F_.p) (wg 5 z H (az zB z) (wz 6 z H (fun w H=>av bQ z (ak (H.Gt 3 z) z)) (wg 7 z H (az zC z) (wz 8 z H (fun w H=>av bf z (ak (H.Gt 3 z) z)) (wm 9 z H v1_ (wm 10 z H (ii x2) ?_))))))))
  obtain⟨x3,E1,E⟩:=ay E
  refine wo 11 z (au Hn z ((jk.calls (H.Gt 0 z) (H.cb 1 0 z z z (ao (H.Gt 1 z))) (H.cj 0 z (H.rd h1)) E1).mono ?_))
  rintro _ w ⟨rfl,K⟩
  have H:=H.aV 0 z K
  refine⟨_,z,⟨fun _=>H.ag [0,1,2,3] z z,wg 12 z (H.ag [0,1,2,3] z z) (ij z z) (wg 13 z (H.ag [0,1,2,3] z z) (sg (iu (bits .xor .u8 (at_ 0 a1 x2) x3)) z) (wd (ab (ae (rg (vm (iu (bits .xor .u8 (at_ 0 a1 x2) x3)) (vr (cg z z) (nl ?_))))))))⟩⟩
  refine aE E z (fun c2 E=>?_) (fun c2 E=>?_)
  ·refine rg (vr (az zD z) (vr (av bf z (ak (H.Gt 3 z) z)) (vr (aO z z) (vr (az zD z) (s_ (cQ gJ H 3 z z z z z (fun w H=>nl (bt (aM (bu (ab (aH (vr (aO z z) (vm (ii (i64.wrap (x2+1))) (aK ?_)))))))))))))))
   exact⟨k28,bL _,_,_,_,bK hk1,E,aD ⟨z,z,z,z,z,z,z,z,trivial⟩,H⟩
  ·cases E
 ·refine bt (aM (aM (bu (ab (ae (cd (ds:=[]) bZ H z z ?_))))))
  have H:=H.drew
  refine wg 0 z H (az zB z) (wz 1 z H (fun w H=>av bQ z (ak (H.Gt 3 z) z)) (wg 2 z H (az zC z) (wz 3 z H (fun w H=>av bf z (ak (H.Gt 3 z) z)) (wg 4 z H (sg (.slice p3 n4 c5) z) (wg 5 z H (sg (ii 0) z) (wd (ab (aj ?_))))))))
  cases E
  exact⟨.inl z,_,tk0 z ⟨aB z (ad (ad ai)),_,z,H.bN 0 1 z z z⟩⟩
def lV.l0:Nat→List Int→Option (Bool)
 |0,_=>none
 |k+1,a0=>bif decide (0<(a0.length:Int))then(none)else(some false)
def lV.f(k:Nat)(a0:List Int):Option (Bool):=lV.l0 k a0
theorem lV.calls{w0:World}{k:Nat}{a0:List Int}{v0_:Value}{r:Bool}(h0:Rd (.of (.int .i64)) w0 (Ol no w0) v0_ a0)(E:lV.f k a0=some r):
 Calls aa 167 #[v0_] w0 fun e w'=>e= .returned (.bool r)∧St no w0 w' []:=by
 have H:=St.nil no w0
 unfold lV.f at E
 refine aP (N:=26) (args:=[v0_]) Tryz.func167 z z (by simp) ?_
 refine rg (va (.bool false) (nl (rg (ye (Q6 H 3 (fun b1 w H=>va (.map (some b1)) (nl (ae (rg (vm v0_ (vr (aY gK (H.rd h0) z) (vm (ii 0) (nl (aG ?_))))))))))))))
 refine bx (fun kk t w=>∃(t8:Fr),kk≤k∧lV.l0 kk a0=some r∧t=aU t8 [(2,.bool false),(3,.map (some b1)),(9,v0_),(10,ii (a0.length:Int)),(11,ii 0),(1000000,undef)]∧St no w0 w [.mp aa 3 b1 ([]:List Int)]) k ?_ ?_
 ·exact⟨_,aI _,E,aD ⟨z,z,z,z,z,z,trivial⟩,H⟩
 rintro kk t w ⟨t8,hk7,E,rfl,H⟩
 obtain⟨k6,rfl⟩|rfl:=ks kk
 rotate_left
 ·cases E
 rw[lV.l0]at E
 refine rg (vr (aZ z z) (nl (ae ?_)))
 refine aE E z (fun c1 E=>?_) (fun c1 E=>?_)
 ·cases E
 ·refine bt (aM (aM (bu (ab (rg (va (.bool false) (nl (aj ?_))))))))
  cases E
  exact⟨.inl z,_,tk0 z ⟨aB z (ad ai),z,H.bs⟩⟩
def dA.j0(k:Nat)(a1:List Int)(x64:Int):Option (Int):=bif decide (0≤x64)then(some 13)else((lV.f k a1).bind fun x1=>bif x1 then(some 13)else(some 0))
def dA.j1(l0r:(Int×Int×Int)→List Int→Int→Option Int)(k:Nat)(a0:Int×Int×Int)(a1:List Int)(x1:Int)(x2:Bool):Option (Int):=bif x2 then(dA.j0 k a1 x1)else(l0r a0 a1 (i64.wrap (x1+1)))
def dA.l0:Nat→(Int×Int×Int)→List Int→Int→Option (Int)
 |0,_,_,_=>none
 |k+1,a0,a1,x1=>bif decide (x1<(a1.length:Int))then(an (decide ((0:Int)≤x1∧x1<(a1.length:Int))) (bif decide (at_ 0 a1 x1<0)then(dA.j1 (dA.l0 k) k a0 a1 x1 true)else(dA.j1 (dA.l0 k) k a0 a1 x1 (decide (a0.1≤at_ 0 a1 x1)))))else(dA.j0 k a1 (-1))
def dA.f(k:Nat)(a0:Int×Int×Int)(a1:List Int):Option (Int):=(dh.f (a0.1,a0.2.1,a0.2.2)).bind fun x2=>bif !decide (x2=0)then(some 10)else(dA.l0 k a0 a1 0)
theorem dA.calls{w0:World}{k:Nat}{a0:Int×Int×Int}{a1:List Int}{v1_:Value}{r:Int}(h1:Rd (.of (.int .i64)) w0 (Ol no w0) v1_ a1)(E:dA.f k a0 a1=some r):
 Calls aa 106 #[.agg #[ii a0.1,ii a0.2.1,ii a0.2.2],v1_] w0 fun e w'=>e= .returned (.int .u16 r)∧St no w0 w' []:=by
 have H:=St.nil no w0
 unfold dA.f at E
 refine aP (N:=17) (args:=[.agg #[ii a0.1,ii a0.2.1,ii a0.2.2],v1_]) Tryz.func106 z z (by simp) ?_
 refine rg (ye (bc (cs:=#[ii a0.1,ii a0.2.1,ii a0.2.2]) H z (fun b1 w H=>va (.int .u16 0) (nl (rg (vr (dt [pt b1] z) (va (.func (.func 165) #[] #[pt b1]) (nl (ae (aG (rg (vr (bp (l:=[ii a0.1,ii a0.2.1,ii a0.2.2]) cv (H.Gt 0 z) z z z) ?_))))))))))))
 obtain⟨x2,E3,E⟩:=ay E
 refine ye (au jF z ((dh.calls E3).mono ?_))
 rintro _ w ⟨rfl,K⟩
 have H:=H.app K
 refine⟨_,z,vr (cx z z) (va (.bool (!decide (x2=0))) (nl ?_))⟩
 refine aE E z (fun c4 E=>?_) (fun c4 E=>?_)
 ·refine rg (va (.int .u16 10) (nl (aj ?_)))
  cases E
  exact(bG (aL ⟨.inl z,_,tk0 z ⟨aB z (ad ai),z,H.bs⟩⟩))
 ·refine ae (rg (vm v1_ (vm (.func (.func 165) #[] #[pt b1]) (ye (cm 9 [v1_,.func (.func 165) #[] #[pt b1]] GZ Tryz.func166 z z z z (rg (va (.bool false) (nl (rg (vm v1_ (vm (.func (.func 165) #[] #[pt b1]) ?_)))))))))))
  refine ye (fZ (fun v w=>∃(k1:Nat)(x64:Int),k1≤k∧dA.j0 k1 a1 x64=some r∧v=ii x64∧St no w0 w [.blk b1 #[ii a0.1,ii a0.2.1,ii a0.2.2] 24]) ?_ ?_)
  ·refine(cm 19 [v1_,.func (.func 165) #[] #[pt b1]] G9 Tryz.func214 z z z z (rg (va (ii 0) (nl (ae (rg (vm v1_ (vr (aY gK (H.rd h1) z) (vm (ii 0) (nl (aG ?_)))))))))))
   refine bx (fun kk t w=>∃(x1:Int)(t1:Fr),kk≤k∧dA.l0 kk a0 a1 x1=some r∧t=aU t1 [(0,v1_),(1,.func (.func 165) #[] #[pt b1]),(4,ii 0),(7,ii (a1.length:Int)),(8,ii x1),(1000000,undef)]∧St no w0 w [.blk b1 #[ii a0.1,ii a0.2.1,ii a0.2.2] 24]) k ?_ ?_
   ·exact⟨_,_,aI _,E,aD ⟨z,z,z,z,z,z,trivial⟩,H⟩
   rintro kk t w ⟨x1,t1,hk1,E,rfl,H⟩
   obtain⟨k2,rfl⟩|rfl:=ks kk
   rotate_left
   ·cases E
   rw[dA.l0]at E
   refine rg (vr (aZ z z) (nl (ae ?_)))
   refine aE E z (fun c1 E=>?_) (fun c1 E=>?_)
   ·refine aA (ab (ae (aG (rg (vm (ii x1) (va (ii x1) (nl (rg (vm (.func (.func 165) #[] #[pt b1]) (vm v1_ (vm (ii x1) ?_)))))))))))
    obtain⟨⟨g1,g2⟩,E⟩:=ar E
    refine vr (bo gl (H.rd h1) z z g1 g2) (vr (bq bf (H.rd h1) g1 g2 z) ?_)
    refine ye (fZ (fun v w=>∃(k3:Nat)(x3:Bool),k3≤k2∧dA.j1 (dA.l0 k3) k3 a0 a1 x1 x3=some r∧v= .bool x3∧St no w0 w [.blk b1 #[ii a0.1,ii a0.2.1,ii a0.2.2] 24]) ?_ ?_)
    ·refine(kK 12 [ii (at_ 0 a1 x1),pt b1] z GY Tryz.func165 z z z z (rg (va (.bool false) (nl (rg (vm (ii (at_ 0 a1 x1)) (vr (aZ z z) (vm (.bool (decide (at_ 0 a1 x1<0))) ?_))))))))
     rcases bR (decide (at_ 0 a1 x1<0))with c2|c2
     ·have E:=iT c2 E
      refine ow c2 z (ow c2 z (ow c2 z (ow c2 z (vr (pT (.bool true) z z c2) (va (.bool true) (nl (aj ?_)))))))
      exact⟨.inl z,.bool true,tk0 z ⟨ba z (ad ai) z,k2,_,aI _,E,z,H⟩⟩
     ·have E:=iF c2 E
      refine oo c2 z (mv (ii (at_ 0 a1 x1)) z) (oo c2 z (az eJ z) (oo c2 z (av bf z (ak (H.Gt 0 z) z)) (oo c2 z (dq z z) (vr (pF (.bool (decide (a0.1≤at_ 0 a1 x1))) z z c2) (va (.bool (decide (a0.1≤at_ 0 a1 x1))) (nl (aj ?_)))))))
      exact⟨.inl z,.bool (decide (a0.1≤at_ 0 a1 x1)),tk0 z ⟨ba z (ad ai) z,k2,_,aI _,E,z,H⟩⟩
    rintro _ w ⟨k3,x3,hk2,E,hv_,H⟩
    have hv_:=hv_.symm
    subst hv_
    unfold dA.j1 at E
    refine nl ?_
    refine aE E z (fun c3 E=>?_) (fun c3 E=>?_)
    ·refine rg (vm (ii x1) (va (ii x1) (nl (aj ?_))))
     exact(bG (aL (aL (bG (aL ⟨.inl z,ii x1,tk0 z ⟨ba z (ad ai) z,k3,_,by omega,E,z,H⟩⟩)))))
    ·refine aA (aR (ab (aH (vr (aO z z) (vm (ii (i64.wrap (x1+1))) (aK ?_))))))
     exact⟨k3,by omega,_,_,by omega,E,aD ⟨z,z,z,z,z,z,trivial⟩,H⟩
   ·refine bt (aM (aM (bu (ab (rg (va (ii (-1)) (nl (aj ?_))))))))
    exact⟨.inl z,ii (-1),tk0 z ⟨ba z (ad ai) z,k2,_,by omega,E,z,H⟩⟩
  rintro _ w ⟨k1,x64,hk3,E,hv_,H⟩
  have hv_:=hv_.symm
  subst hv_
  unfold dA.j0 at E
  refine vr (dq z z) (va (.bool (decide (0≤x64))) (nl (aj (⟨.inl z,.bool (decide (0≤x64)),tk0 z ⟨ba z (ad ai) z,va (.bool (decide (0≤x64))) (nl ?_)⟩⟩))))
  refine aE E z (fun c5 E=>?_) (fun c5 E=>?_)
  ·refine aA (ab (qo z c5 (rg (va (.int .u16 13) (nl (aj ?_))))))
   cases E
   exact(bG (aL ⟨.inl z,_,tk0 z ⟨aB z (ad ai),z,H.bs⟩⟩))
  ·refine aH (vm v1_ ?_)
   obtain⟨x4,E1,E⟩:=ay E
   refine ye (au G0 z ((lV.calls (H.arg (H.rd h1)) E1).mono ?_))
   rintro _ w ⟨rfl,K⟩
   have H:=H.app K
   refine⟨_,z,va (.bool x4) (nl ?_)⟩
   refine aE E z (fun c6 E=>?_) (fun c6 E=>?_)
   ·refine rg (va (.int .u16 13) (nl (aj ?_)))
    cases E
    exact(bG (aL ⟨.inl z,_,tk0 z ⟨aB z (ad ai),z,H.bs⟩⟩))
   ·refine aA (aR (ab (rg (va (.int .u16 0) (nl (aj ?_))))))
    cases E
    exact⟨.inl z,_,tk0 z ⟨aB z (ad ai),z,H.bs⟩⟩
def qM.f(a0:Int):Option (Bool):=some (!decide (a0=0))
theorem qM.calls{w0:World}{a0:Int}{r:Bool}(E:qM.f a0=some r):
 Calls aa 350 #[iu a0] w0 fun e w'=>e= .returned (.bool r)∧St no w0 w' []:=by
 have H:=St.nil no w0
 unfold qM.f at E
 refine aP (N:=5) (args:=[iu a0]) Tryz.func350 z z (by simp) ?_
 refine rg (va (.bool false) (nl (rg (vm (iu a0) (vr (cx z z) (va (.bool (!decide (a0=0))) (nl (aj ?_))))))))
 cases E
 exact⟨.inl z,_,tk0 z ⟨aB z (ad ai),z,H.bs⟩⟩
def fo.j0(k:Nat)(x1:Int):Option (Bool):=some (!(decide (0≤x1)))
def fo.l0:Nat→List Int→Int→Option (Bool)
 |0,_,_=>none
 |k+1,x1,x2=>bif decide (x2<(x1.length:Int))then(an (decide ((0:Int)≤x2∧x2<(x1.length:Int))) ((qM.f (at_ 0 x1 x2)).bind fun x3=>bif x3 then(fo.j0 k x2)else(fo.l0 k x1 (i64.wrap (x2+1)))))else(fo.j0 k (-1))
def fo.f(k:Nat)(a1:Int×Int×Int)(a2:List Int):Option (Bool):=(dh.f (a1.1,a1.2.1,a1.2.2)).bind fun x6=>bif !decide (x6=0)then(some false)else(bif !decide ((a2.length:Int)=a1.1)then(some false)else((kl.f k (a1.1,a1.2.1,a1.2.2)).bind fun x1=>(eR.f k a2 x1).bind fun x2=>fo.l0 k x2 0))
theorem fo.calls{w0:World}{k:Nat}{F_:FD}{a1:Int×Int×Int}{a2:List Int}{v2_:Value}{r:Bool}(hf:(Rs.ah F_).inv w0)(h2:Rd (.of (.int .u8)) w0 (Ol (Rs.ah F_).fp w0) v2_ a2)(E:fo.f k a1 a2=some r):
 Calls aa 323 #[pt F_.p,.agg #[ii a1.1,ii a1.2.1,ii a1.2.2],v2_] w0 fun e w'=>e= .returned (.bool r)∧St (Rs.ah F_).fp w0 w' [.ah F_]:=by
 have H:=St.start hf
 unfold fo.f at E
 refine aP (N:=29) (args:=[pt F_.p,.agg #[ii a1.1,ii a1.2.1,ii a1.2.2],v2_]) Tryz.func323 z z (by simp) ?_
 refine rg (ye (bc (cs:=#[ii a1.1,ii a1.2.1,ii a1.2.2]) H z (fun b1 w H=>va (.bool false) (nl (ae (rg (vm (pt F_.p) (vr (cV Tryz.underlying111 z z) (vm (.bool false) (oo z z (bp (l:=[ii a1.1,ii a1.2.1,ii a1.2.2]) cv (H.Gt 1 z) z z z) ?_))))))))))
 obtain⟨x6,E7,E⟩:=ay E
 refine dP z z z (au jF z ((dh.calls E7).mono ?_))
 rintro _ w ⟨rfl,K⟩
 have H:=H.app K
 refine⟨_,z,oo z z (cx z z) (vr (pF (.bool (!decide (x6=0))) z z z) (vm (.bool (!decide (x6=0))) ?_))⟩
 rcases bR (!decide (x6=0))with c8|c8
 ·have E:=iT c8 E
  refine ow c8 z (ow c8 z (ow c8 z (ow c8 z (ow c8 z (vr (pT (.bool true) z z c8) (nl (cl z (rg (va (.bool false) (nl (aj ?_)))))))))))
  cases E
  exact(aL ⟨.inl z,_,tk0 z ⟨aB z (ad ai),z,H.bA 0 z⟩⟩)
 ·have E:=iF c8 E
  refine oo c8 z (mv v2_ z) (oo c8 z (aY bI (H.rd h2) z) (oo c8 z (az eJ z) (oo c8 z (av bf z (ak (H.Gt 1 z) z)) (oo c8 z (cx z z) (vr (pF (.bool (!decide ((a2.length:Int)=a1.1))) z z c8) (nl ?_))))))
  refine aE E z (fun c9 E=>?_) (fun c9 E=>?_)
  ·refine rg (va (.bool false) (nl (aj ?_)))
   cases E
   exact(aL ⟨.inl z,_,tk0 z ⟨aB z (ad ai),z,H.bA 0 z⟩⟩)
  ·refine aA (ab (rg (vm (pt F_.p) (vm v2_ (vm (pt F_.p) (vr (bp (l:=[ii a1.1,ii a1.2.1,ii a1.2.2]) cv (H.Gt 1 z) z z z) ?_))))))
   obtain⟨x1,E1,E⟩:=ay E
   refine ye (au ve z ((kl.calls (H.Gt 0 z) E1).mono ?_))
   rintro _ w ⟨v1,rfl,K⟩
   have H:=H.aV 0 z K
   refine⟨_,z,?_⟩
   obtain⟨x2,E2,E⟩:=ay E
   refine ye (au qU z ((eR.calls (H.Gt 0 z) (H.cj 0 z (H.rd h2)) (H.cb 2 0 z z z (ao (H.Gt 2 z))) E2).mono ?_))
   rintro _ w ⟨v2,rfl,K⟩
   have H:=H.aV 0 z K
   refine⟨_,z,ye (cm 9 [v2,.func (.func 350) #[] #[]] HU Tryz.func349 z z z z (rg (va (.bool false) (nl (rg (vm v2 (vm (.func (.func 350) #[] #[]) ?_)))))))⟩
   refine ye (fZ (fun v w=>∃(k1:Nat)(x3:Int),k1≤k∧fo.j0 k1 x3=some r∧v=ii x3∧St (Rs.ah F_).fp w0 w [.ah F_,.blk b1 #[ii a1.1,ii a1.2.1,ii a1.2.2] 24,.own (.int .u8) 5 v1 x1,.own (.int .u8) 5 v2 x2]) ?_ ?_)
   ·refine(cm 19 [v2,.func (.func 350) #[] #[]] H4 Tryz.func373 z z z z (rg (va (ii 0) (nl (ae (rg (vm v2 (vr (aY bI (ao (H.Gt 3 z)) z) (vm (ii 0) (nl (aG ?_)))))))))))
    refine bx (fun kk t w=>∃(x4:Int)(t1:Fr),kk≤k∧fo.l0 kk x2 x4=some r∧t=aU t1 [(0,v2),(1,.func (.func 350) #[] #[]),(4,ii 0),(7,ii (x2.length:Int)),(8,ii x4),(1000000,undef)]∧St (Rs.ah F_).fp w0 w [.ah F_,.blk b1 #[ii a1.1,ii a1.2.1,ii a1.2.2] 24,.own (.int .u8) 5 v1 x1,.own (.int .u8) 5 v2 x2]) k ?_ ?_
    ·exact⟨_,_,aI _,E,aD ⟨z,z,z,z,z,z,trivial⟩,H⟩
    rintro kk t w ⟨x4,t1,hk1,E,rfl,H⟩
    obtain⟨k2,rfl⟩|rfl:=ks kk
    rotate_left
    ·cases E
    rw[fo.l0]at E
    refine rg (vr (aZ z z) (nl (ae ?_)))
    refine aE E z (fun c1 E=>?_) (fun c1 E=>?_)
    ·refine aA (ab (ae (aG (rg (vm (ii x4) (va (ii x4) (nl (rg (vm (.func (.func 350) #[] #[]) (vm v2 (vm (ii x4) ?_)))))))))))
     obtain⟨⟨g1,g2⟩,E⟩:=ar E
     refine vr (bo aN (ao (H.Gt 3 z)) z z g1 g2) (vr (bq bC (ao (H.Gt 3 z)) g1 g2 z) ?_)
     obtain⟨x5,E3,E⟩:=ay E
     refine ye (kZ z HV z ((qM.calls E3).mono ?_))
     rintro _ w ⟨rfl,K⟩
     have H:=H.app K
     refine⟨_,z,(nl ?_)⟩
     refine aE E z (fun c2 E=>?_) (fun c2 E=>?_)
     ·refine rg (vm (ii x4) (va (ii x4) (nl (aj ?_))))
      exact(bG (aL (aL (bG (aL ⟨.inl z,ii x4,tk0 z ⟨ba z (ad ai) z,k2,_,by omega,E,z,H⟩⟩)))))
     ·refine aA (aR (ab (aH (vr (aO z z) (vm (ii (i64.wrap (x4+1))) (aK ?_))))))
      exact⟨k2,bL _,_,_,bK hk1,E,aD ⟨z,z,z,z,z,z,trivial⟩,H⟩
    ·refine bt (aM (aM (bu (ab (rg (va (ii (-1)) (nl (aj ?_))))))))
     exact⟨.inl z,ii (-1),tk0 z ⟨ba z (ad ai) z,k2,_,by omega,E,z,H⟩⟩
   rintro _ w ⟨k1,x3,hk2,E,hv_,H⟩
   have hv_:=hv_.symm
   subst hv_
   unfold fo.j0 at E
   refine vr (dq z z) (va (.bool (decide (0≤x3))) (nl (aj (⟨.inl z,.bool (decide (0≤x3)),tk0 z ⟨ba z (ad ai) z,vr (cp z) (va (.bool (!(decide (0≤x3)))) (nl (aj ?_)))⟩⟩))))
   cases E
   exact⟨.inl z,_,tk0 z ⟨aB z (ad ai),z,H.bA 0 z⟩⟩
def oZ.f(a0:Int×Int×Int)(a1 a2:Int):Option (Bool):=(gf.f (a0.1,a0.2.1,a0.2.2)).bind fun x2=>bif decide (x2=0)then(some false)else(bif decide (a1<0)then(some false)else(bif decide (a2<0)then(some false)else(bif decide (x2<a1)then(some false)else(bif decide (x2<a2)then(some false)else(some (decide (i64.wrap (i64.wrap (2*a1)+a2)≤x2)))))))
theorem oZ.calls{w0:World}{a0:Int×Int×Int}{a1 a2:Int}{r:Bool}(E:oZ.f a0 a1 a2=some r):
 Calls aa 325 #[.agg #[ii a0.1,ii a0.2.1,ii a0.2.2],ii a1,ii a2] w0 fun e w'=>e= .returned (.bool r)∧St no w0 w' []:=by
 have H:=St.nil no w0
 unfold oZ.f at E
 refine aP (N:=36) (args:=[.agg #[ii a0.1,ii a0.2.1,ii a0.2.2],ii a1,ii a2]) Tryz.func325 z z (by simp) ?_
 refine rg (ye (bc (cs:=#[ii a0.1,ii a0.2.1,ii a0.2.2]) H z (fun b1 w H=>va (.bool false) (nl (rg (vr (bp (l:=[ii a0.1,ii a0.2.1,ii a0.2.2]) cv (H.Gt 0 z) z z z) ?_))))))
 obtain⟨x2,E3,E⟩:=ay E
 refine ye (au pf z ((gf.calls E3).mono ?_))
 rintro _ w ⟨rfl,K⟩
 have H:=H.app K
 refine⟨_,z,va (ii x2) (nl (ae (rg (vm (ii x2) (vr (cg z z) (vm (.bool (decide (x2=0))) ?_))))))⟩
 rcases bR (decide (x2=0))with c4|c4
 ·have E:=iT c4 E
  refine ow c4 z (ow c4 z (vr (pT (.bool true) z z c4) (vm (.bool true) (ow z z (ow z z (vr (pT (.bool true) z z z) (vm (.bool true) (ow z z (ow z z (ow z z (vr (pT (.bool true) z z z) (vm (.bool true) (ow z z (ow z z (ow z z (vr (pT (.bool true) z z z) (nl (cl z (rg (va (.bool false) (nl (aj ?_))))))))))))))))))))))
  cases E
  exact(aL ⟨.inl z,_,tk0 z ⟨aB z (ad ai),z,H.bs⟩⟩)
 ·have E:=iF c4 E
  refine oo c4 z (mv (ii a1) z) (oo c4 z (aZ z z) (vr (pF (.bool (decide (a1<0))) z z c4) (vm (.bool (decide (a1<0))) ?_)))
  rcases bR (decide (a1<0))with c5|c5
  ·have E:=iT c5 E
   refine ow c5 z (ow c5 z (vr (pT (.bool true) z z c5) (vm (.bool true) (ow z z (ow z z (ow z z (vr (pT (.bool true) z z z) (vm (.bool true) (ow z z (ow z z (ow z z (vr (pT (.bool true) z z z) (nl (cl z (rg (va (.bool false) (nl (aj ?_))))))))))))))))))
   cases E
   exact(aL ⟨.inl z,_,tk0 z ⟨aB z (ad ai),z,H.bs⟩⟩)
  ·have E:=iF c5 E
   refine oo c5 z (mv (ii a2) z) (oo c5 z (aZ z z) (vr (pF (.bool (decide (a2<0))) z z c5) (vm (.bool (decide (a2<0))) ?_)))
   rcases bR (decide (a2<0))with c6|c6
   ·have E:=iT c6 E
    refine ow c6 z (ow c6 z (ow c6 z (vr (pT (.bool true) z z c6) (vm (.bool true) (ow z z (ow z z (ow z z (vr (pT (.bool true) z z z) (nl (cl z (rg (va (.bool false) (nl (aj ?_))))))))))))))
    cases E
    exact(aL ⟨.inl z,_,tk0 z ⟨aB z (ad ai),z,H.bs⟩⟩)
   ·have E:=iF c6 E
    refine oo c6 z (mv (ii a1) z) (oo c6 z (mv (ii x2) z) (oo c6 z (dy z z) (vr (pF (.bool (decide (x2<a1))) z z c6) (vm (.bool (decide (x2<a1))) ?_))))
    rcases bR (decide (x2<a1))with c7|c7
    ·have E:=iT c7 E
     refine ow c7 z (ow c7 z (ow c7 z (vr (pT (.bool true) z z c7) (nl (cl z (rg (va (.bool false) (nl (aj ?_)))))))))
     cases E
     exact(aL ⟨.inl z,_,tk0 z ⟨aB z (ad ai),z,H.bs⟩⟩)
    ·have E:=iF c7 E
     refine oo c7 z (mv (ii a2) z) (oo c7 z (mv (ii x2) z) (oo c7 z (dy z z) (vr (pF (.bool (decide (x2<a2))) z z c7) (nl ?_))))
     refine aE E z (fun c8 E=>?_) (fun c8 E=>?_)
     ·refine rg (va (.bool false) (nl (aj ?_)))
      cases E
      exact(aL ⟨.inl z,_,tk0 z ⟨aB z (ad ai),z,H.bs⟩⟩)
     ·refine aA (ab (rg (vm (ii a1) (vr (cF z z) (vm (ii a2) (vr (aO z z) (vm (ii x2) (vr (gS z z) (va (.bool (decide (i64.wrap (i64.wrap (2*a1)+a2)≤x2))) (nl (aj ?_)))))))))))
      cases E
      exact⟨.inl z,_,tk0 z ⟨aB z (ad ai),z,H.bs⟩⟩
def fW.l0:Nat→List Int→Int→Int→Option (Int)
 |0,_,_,_=>none
 |k+1,a0,a1,x6=>bif decide (x6<(a0.length:Int))then(an (decide ((0:Int)≤x6∧x6<(a0.length:Int))) (bif decide (a1=at_ 0 a0 x6)then(some x6)else(fW.l0 k a0 a1 (i64.wrap (x6+1)))))else(some (-1))
def fW.f(k:Nat)(a0:List Int)(a1:Int):Option (Int):=fW.l0 k a0 a1 0
theorem fW.calls{w0:World}{k:Nat}{a0:List Int}{a1:Int}{v0_:Value}{r:Int}(h0:Rd (.of (.int .i64)) w0 (Ol no w0) v0_ a0)(E:fW.f k a0 a1=some r):
 Calls aa 273 #[v0_,ii a1] w0 fun e w'=>e= .returned (ii r)∧St no w0 w' []:=by
 have H:=St.nil no w0
 unfold fW.f at E
 refine aP (N:=19) (args:=[v0_,ii a1]) Tryz.func273 z z (by simp) ?_
 refine rg (va (ii 0) (nl (ae (rg (vm v0_ (vr (aY gK (H.rd h0) z) (vm (ii 0) (nl (aG ?_)))))))))
 refine bx (fun kk t w=>∃(x6:Int)(t1:Fr),kk≤k∧fW.l0 kk a0 a1 x6=some r∧t=aU t1 [(0,v0_),(1,ii a1),(4,ii 0),(7,ii (a0.length:Int)),(8,ii x6),(1000000,undef)]∧St no w0 w []) k ?_ ?_
 ·exact⟨_,_,aI _,E,aD ⟨z,z,z,z,z,z,trivial⟩,H⟩
 rintro kk t w ⟨x6,t1,hk1,E,rfl,H⟩
 obtain⟨k12,rfl⟩|rfl:=ks kk
 rotate_left
 ·cases E
 rw[fW.l0]at E
 refine rg (vr (aZ z z) (nl (ae ?_)))
 refine aE E z (fun c1 E=>?_) (fun c1 E=>?_)
 ·refine aA (ab (ae (aG (rg (vm (ii x6) (va (ii x6) (nl (rg (vm (ii a1) (vm v0_ (vm (ii x6) ?_)))))))))))
  obtain⟨⟨g1,g2⟩,E⟩:=ar E
  refine vr (bo gl (H.rd h0) z z g1 g2) (vr (bq bf (H.rd h0) g1 g2 z) (vr (cg z z) (nl ?_)))
  refine aE E z (fun c2 E=>?_) (fun c2 E=>?_)
  ·refine rg (vm (ii x6) (va (ii x6) (nl (aj ?_))))
   cases E
   exact(bG (aL (aL (bG (aL ⟨.inl z,_,tk0 z ⟨aB z (ad ai),z,H.bs⟩⟩)))))
  ·refine aA (aR (ab (aH (vr (aO z z) (vm (ii (i64.wrap (x6+1))) (aK ?_))))))
   exact⟨k12,bL _,_,_,bK hk1,E,aD ⟨z,z,z,z,z,z,trivial⟩,H⟩
 ·refine bt (aM (aM (bu (ab (rg (va (ii (-1)) (nl (aj ?_))))))))
  cases E
  exact⟨.inl z,_,tk0 z ⟨aB z (ad ai),z,H.bs⟩⟩
def jb.f(k:Nat)(a0:List Int)(a1:Int):Option (Bool):=(fW.f k a0 a1).bind fun x1=>some (decide (0≤x1))
theorem jb.calls{w0:World}{k:Nat}{a0:List Int}{a1:Int}{v0_:Value}{r:Bool}(h0:Rd (.of (.int .i64)) w0 (Ol no w0) v0_ a0)(E:jb.f k a0 a1=some r):
 Calls aa 222 #[v0_,ii a1] w0 fun e w'=>e= .returned (.bool r)∧St no w0 w' []:=by
 have H:=St.nil no w0
 unfold jb.f at E
 refine aP (N:=9) (args:=[v0_,ii a1]) Tryz.func222 z z (by simp) ?_
 refine rg (va (.bool false) (nl (rg (vm v0_ (vm (ii a1) ?_)))))
 obtain⟨x1,E2,E⟩:=ay E
 refine ye (au Ht z ((fW.calls (H.arg (H.rd h0)) E2).mono ?_))
 rintro _ w ⟨rfl,K⟩
 have H:=H.app K
 refine⟨_,z,vr (dq z z) (va (.bool (decide (0≤x1))) (nl (aj ?_)))⟩
 cases E
 exact⟨.inl z,_,tk0 z ⟨aB z (ad ai),z,H.bs⟩⟩
def gG.l0:Nat→List Int→List Int→List Int→Int→Int→Option (Int)
 |0,_,_,_,_,_=>none
 |k+1,a0,a1,a2,x1,x2=>bif decide (x2<(((a1.take ((min2 (a0.length:Int) (a1.length:Int)).toNat)).drop 0).length:Int))then(an (decide ((0:Int)≤x2∧x2<(((a1.take ((min2 (a0.length:Int) (a1.length:Int)).toNat)).drop 0).length:Int))) (an (decide ((0:Int)≤x2∧x2<(a0.length:Int))) (bif !decide (at_ 0 a0 x2=at_ 0 ((a1.take ((min2 (a0.length:Int) (a1.length:Int)).toNat)).drop 0) x2)then((jb.f k a2 x2).bind fun x3=>bif !x3 then(gG.l0 k a0 a1 a2 (i64.wrap (x1+1)) (i64.wrap (x2+1)))else(gG.l0 k a0 a1 a2 x1 (i64.wrap (x2+1))))else(gG.l0 k a0 a1 a2 x1 (i64.wrap (x2+1))))))else(some x1)
def gG.f(k:Nat)(a0 a1 a2:List Int):Option (Int):=an (decide ((0:Int)≤min2 (a0.length:Int) (a1.length:Int)∧min2 (a0.length:Int) (a1.length:Int)≤(a1.length:Int))) (gG.l0 k a0 a1 a2 0 0)
theorem gG.calls{w0:World}{k:Nat}{a0 a1 a2:List Int}{v0_ v1_ v2_:Value}{r:Int}(h0:Rd (.of (.int .u8)) w0 (Ol no w0) v0_ a0)(h1:Rd (.of (.int .u8)) w0 (Ol no w0) v1_ a1)(h2:Rd (.of (.int .i64)) w0 (Ol no w0) v2_ a2)(E:gG.f k a0 a1 a2=some r):
 Calls aa 326 #[v0_,v1_,v2_] w0 fun e w'=>e= .returned (ii r)∧St no w0 w' []:=by
 have H:=St.nil no w0
 unfold gG.f at E
 refine aP (N:=21) (args:=[v0_,v1_,v2_]) Tryz.func326 z z (by simp) ?_
 have H:=H.mk0
 refine rg ?_
 obtain⟨p1,n2,c3,rfl⟩:=eO h2
 refine ye (bc (cs:=#[(.slice p1 n2 c3)]) H z (fun b4 w H=>va (ii 0) (nl (rg (ye (cr vA H (fun b5 w H=>s_ (cQ gJ H 2 z z z z z (fun w H=>nl (ae (rg (vm v0_ (vm v1_ (ye (cm 6 [v0_,v1_] zr Tryz.func229 z z z z (rg ?_))))))))))))))))
 obtain⟨p2,n1,c1,rfl⟩:=eO h0
 refine ye (bc (cs:=#[(.slice p2 n1 c1)]) H z (fun b1 w H=>?_))
 obtain⟨p3,n3,c2,rfl⟩:=eO h1
 refine ye (bc (cs:=#[(.slice p3 n3 c2)]) H z (fun b2 w H=>?_))
 have H:St no w0 _ [.bO undef,.blk b4 #[(.slice p1 n2 c3)] 28,.blk b5 #[ii 0] 3,.blk b1 #[(.slice p2 n1 c1)] 22,.blk b2 #[(.slice p3 n3 c2)] 22]:=H
 refine va (.nilFunc) (nl (rg (vr (dt [pt b2,pt b1] z) (va (.func (.func 281) #[] #[pt b2,pt b1]) (nl (aj (⟨.inl z,.func (.func 281) #[] #[pt b2,pt b1],tk0 z ⟨ba z (ad ai) z,nl (aG (je 33 [pt b2,pt b1] z Tryz.func281 z z z z z H 0 z z (fun v1 b3 o1 w hO1 H=>rg (vr (av bQ z (ak (H.Gt 4 z) z)) (vr (av bQ z (ak (H.Gt 3 z) z)) (vr (aY bI (H.rd h0) z) (vr (av bQ z (ak (H.Gt 4 z) z)) (vr (aY bI (H.rd h1) z) (vr (kA z z) ?_)))))))))⟩⟩)))))))
 obtain⟨⟨g1,g2⟩,E⟩:=ar E
 have p4:0≤(min2 (a0.length:Int) (a1.length:Int)).toNat:=by omega
 have p5:(min2 (a0.length:Int) (a1.length:Int)).toNat≤a1.length:=by omega
 refine vr (fU aN (H.rd h1) z z g1 g2) (vr (aY bI (Rd.bz (H.rd h1) p4 p5) z) (vm (ii 0) (nl (aG ?_))))
 refine bx (fun kk t w=>∃(x1 x2:Int)(t1:Fr),kk≤k∧gG.l0 kk a0 a1 a2 x1 x2=some r∧t=aU t1 [(0,.func (.yield b3) #[] #[]),(2,pt b1),(12,bz (.slice p3 n3 c2) 0 ((min2 (a0.length:Int) (a1.length:Int)).toNat) 1),(13,ii (((a1.take ((min2 (a0.length:Int) (a1.length:Int)).toNat)).drop 0).length:Int)),(14,ii x2),(1000000,undef)]∧St no w0 w [.bO v1,.blk b4 #[(.slice p1 n2 c3)] 28,.blk b5 #[ii x1] 3,.blk b1 #[(.slice p2 n1 c1)] 22,.blk b2 #[(.slice p3 n3 c2)] 22,.obj b3 (.loop o1)]) k ?_ ?_
 ·exact⟨_,_,_,aI _,E,aD ⟨z,z,z,z,z,z,trivial⟩,H⟩
 rintro kk t w ⟨x1,x2,t1,hk1,E,rfl,H⟩
 obtain⟨k1,rfl⟩|rfl:=ks kk
 rotate_left
 ·cases E
 rw[gG.l0]at E
 refine rg (vr (aZ z z) (nl (ae ?_)))
 refine aE E z (fun c4 E=>?_) (fun c4 E=>?_)
 ·refine aA (ab (ae (aG (rg (vm (ii x2) ?_)))))
  obtain⟨⟨g3,g4⟩,E⟩:=ar E
  refine vr (bo aN (Rd.bz (H.rd h1) p4 p5) z z g3 g4) (vr (bq bC (Rd.bz (H.rd h1) p4 p5) g3 g4 z) (va (ii x2) (va (iu (at_ 0 ((a1.take ((min2 (a0.length:Int) (a1.length:Int)).toNat)).drop 0) x2)) (nl (rg (vr (av bQ z (ak (H.Gt 3 z) z)) (vm (ii x2) ?_)))))))
  obtain⟨⟨g5,g6⟩,E⟩:=ar E
  refine vr (bo aN (H.rd h0) z z g5 g6) (vr (bq bC (H.rd h0) g5 g6 z) (vm (iu (at_ 0 ((a1.take ((min2 (a0.length:Int) (a1.length:Int)).toNat)).drop 0) x2)) (vr (cx z z) (vm (.bool (!decide (at_ 0 a0 x2=at_ 0 ((a1.take ((min2 (a0.length:Int) (a1.length:Int)).toNat)).drop 0) x2))) ?_))))
  rcases bR (!decide (at_ 0 a0 x2=at_ 0 ((a1.take ((min2 (a0.length:Int) (a1.length:Int)).toNat)).drop 0) x2))with c5|c5
  ·have E:=iT c5 E
   refine oo c5 z (mv (.func (.yield b3) #[] #[]) z) (oo c5 z (mv (ii x2) z) (oo c5 z (mv (iu (at_ 0 ((a1.take ((min2 (a0.length:Int) (a1.length:Int)).toNat)).drop 0) x2)) z) (dP z c5 z (jf [ii x2,iu (at_ 0 ((a1.take ((min2 (a0.length:Int) (a1.length:Int)).toNat)).drop 0) x2)] z z H 5 z hO1 z z (aH (va (ii x2) (aK (yB H 5 z hO1 (fun w H=>aG (rg (vr (av eU z (ak (H.Gt 1 z) z)) (vm (ii x2) ?_))))))))))))
   obtain⟨x3,E1,E⟩:=ay E
   refine ye (au vk z ((jb.calls (H.arg (H.rd h2)) E1).mono ?_))
   rintro _ w ⟨rfl,K⟩
   have H:=H.app K
   refine⟨_,z,vr (cp z) (nl ?_)⟩
   refine aE E z (fun c6 E=>?_) (fun c6 E=>?_)
   ·refine aH (vr (av bf z (ak (H.Gt 2 z) z)) (vr (aO z z) (s_ (cQ gJ H 2 z z z z z (fun w H=>aK (aR (yN H 5 z hO1 (fun w H=>oo c5 z (bJ (v':=.bool false) (cp z) z) (vr (pT (.bool false) z z c5) (nl (bS z (aA (aR (ab (aH (vr (aO z z) (vm (ii (i64.wrap (x2+1))) (aK ?_))))))))))))))))))
    exact⟨k1,bL _,_,_,_,bK hk1,E,aD ⟨z,z,z,z,z,z,trivial⟩,H⟩
   ·refine aA (aR (yN H 5 z hO1 (fun w H=>oo c5 z (bJ (v':=.bool false) (cp z) z) (vr (pT (.bool false) z z c5) (nl (bS z (aA (aR (ab (aH (vr (aO z z) (vm (ii (i64.wrap (x2+1))) (aK ?_)))))))))))))
    exact⟨k1,bL _,_,_,_,bK hk1,E,aD ⟨z,z,z,z,z,z,trivial⟩,H⟩
  ·have E:=iF c5 E
   refine ow c5 z (ow c5 z (ow c5 z (ow c5 z (ow c5 z (vr (pF (.bool false) z z c5) (nl (bS z (aA (aR (ab (aH (vr (aO z z) (vm (ii (i64.wrap (x2+1))) (aK ?_))))))))))))))
   exact⟨k1,bL _,_,_,_,bK hk1,E,aD ⟨z,z,z,z,z,z,trivial⟩,H⟩
 ·refine bt (aM (aM (bu (⟨.inr z,.tuple #[],tk0 z ⟨ba z ai z,ji H 5 z hO1 (fun w H=>aR (ab (rg (vr (av bf z (ak (H.Gt 2 z) z)) (va (ii x1) (nl (aj ?_)))))))⟩⟩))))
  cases E
  exact⟨.inl z,_,gT H 0 z z (fun w H=>⟨aB z (ad ai),z,H.bs⟩)⟩
def lr.f(k:Nat)(a1:Int×Int×Int)(a2 a3 a4:List Int):Option (Bool):=bif !(decide ((a2.length:Int)=a1.1))then(some false)else((dA.f k (a1.1,a1.2.1,a1.2.2) a3).bind fun x1=>bif !(decide (x1=0))then(some false)else((fo.f k (a1.1,a1.2.1,a1.2.2) a4).bind fun x2=>bif !x2 then(some false)else((gG.f k a2 a4 a3).bind fun x3=>(oZ.f (a1.1,a1.2.1,a1.2.2) x3 (a3.length:Int)).bind fun x4=>bif !x4 then(some false)else(some true))))
theorem lr.calls{w0:World}{k:Nat}{F_:FD}{a1:Int×Int×Int}{a2 a3 a4:List Int}{v2_ v3_ v4_:Value}{r:Bool}(hf:(Rs.ah F_).inv w0)(h2:Rd (.of (.int .u8)) w0 (Ol (Rs.ah F_).fp w0) v2_ a2)(h3:Rd (.of (.int .i64)) w0 (Ol (Rs.ah F_).fp w0) v3_ a3)(h4:Rd (.of (.int .u8)) w0 (Ol (Rs.ah F_).fp w0) v4_ a4)(E:lr.f k a1 a2 a3 a4=some r):
 Calls aa 279 #[pt F_.p,.agg #[ii a1.1,ii a1.2.1,ii a1.2.2],v2_,v3_,v4_] w0 fun e w'=>e= .returned (.bool r)∧St (Rs.ah F_).fp w0 w' [.ah F_]:=by
 have H:=St.start hf
 unfold lr.f at E
 refine aP (N:=25) (args:=[pt F_.p,.agg #[ii a1.1,ii a1.2.1,ii a1.2.2],v2_,v3_,v4_]) Tryz.func279 z z (by simp) ?_
 refine rg (ye (bc (cs:=#[pt F_.p]) H z (fun b1 w H=>ye (bc (cs:=#[ii a1.1,ii a1.2.1,ii a1.2.2]) H z (fun b2 w H=>?_)))))
 obtain⟨p3,n4,c5,rfl⟩:=eO h2
 refine ye (bc (cs:=#[(.slice p3 n4 c5)]) H z (fun b6 w H=>?_))
 obtain⟨p7,n8,c9,rfl⟩:=eO h3
 refine ye (bc (cs:=#[(.slice p7 n8 c9)]) H z (fun b3 w H=>?_))
 obtain⟨p1,n1,c1,rfl⟩:=eO h4
 refine ye (bc (cs:=#[(.slice p1 n1 c1)]) H z (fun b4 w H=>?_))
 have H:St (Rs.ah F_).fp w0 _ [.ah F_,.blk b1 #[pt F_.p] 111,.blk b2 #[ii a1.1,ii a1.2.1,ii a1.2.2] 24,.blk b6 #[(.slice p3 n4 c5)] 22,.blk b3 #[(.slice p7 n8 c9)] 28,.blk b4 #[(.slice p1 n1 c1)] 22]:=H
 refine va (.bool false) (nl (ae (rg (vr (dt [pt b1,pt b6,pt b2] z) (vr (dt [pt b2,pt b3] z) (vr (dt [pt b1,pt b2,pt b4] z) (vr (dt [pt b2,pt b6,pt b4,pt b3] z) (vr (ff (cs:=[.func (.func 320) #[] #[pt b1,pt b6,pt b2],.func (.func 321) #[] #[pt b2,pt b3],.func (.func 322) #[] #[pt b1,pt b2,pt b4],.func (.func 324) #[] #[pt b2,pt b6,pt b4,pt b3]]) qS z) (vm (ii 0) (nl (aG (se (wu (rg (vr (bJ (v':=.bool true) (aZ z z) z) (nl (ae (cl z (aA (ab (ae (aG (rg (vr (ug qS z z (by decide) (by decide) z) (va (.func (.func 320) #[] #[pt b1,pt b6,pt b2]) (nl (rg (vm (.func (.func 320) #[] #[pt b1,pt b6,pt b2]) (ye (kK 13 [pt b1,pt b6,pt b2] z HJ Tryz.func320 z z z z (rg (va (.bool false) (nl (rg (vr (av dk z (ak (H.Gt 1 z) z)) (vr (xk Tryz.underlying111 z z) (vm (.bool true) (oo z z (av bQ z (ak (H.Gt 3 z) z)) (oo z z (aY bI (H.rd h2) z) (oo z z (az eJ z) (oo z z (av bf z (ak (H.Gt 2 z) z)) (oo z z (cg z z) ?_))))))))))))))))))))))))))))))))))))))))))
 refine vr (pT (.bool (decide ((a2.length:Int)=a1.1))) z z z) (va (.bool (decide ((a2.length:Int)=a1.1))) (nl (aj (⟨.inl z,.bool (decide ((a2.length:Int)=a1.1)),tk0 z ⟨ba z (ad ai) z,vr (cp z) (nl ?_)⟩⟩))))
 refine aE E z (fun c2 E=>?_) (fun c2 E=>?_)
 ·refine rg (va (.bool false) (nl (aj ?_)))
  cases E
  exact(bG (aL (aL (bG (aL ⟨.inl z,_,tk0 z ⟨aB z (ad ai),z,H.bA 0 z⟩⟩)))))
 ·refine aA (aR (ab (aH (vr (bJ (v':=ii 1) (aO z z) z) (vm (ii 1) (aK (ab (wu (rg (vr (bJ (v':=.bool true) (aZ z z) z) (nl (ae (cl z (aA (ab (ae (aG (rg (vr (ug qS z z (by decide) (by decide) z) (va (.func (.func 321) #[] #[pt b2,pt b3]) (nl (rg (vm (.func (.func 321) #[] #[pt b2,pt b3]) (ye (kK 7 [pt b2,pt b3] z HK Tryz.func321 z z z z (rg (va (.bool false) (nl (rg (vr (bp (l:=[ii a1.1,ii a1.2.1,ii a1.2.2]) cv (H.Gt 2 z) z z z) (vr (av eU z (ak (H.Gt 4 z) z)) ?_)))))))))))))))))))))))))))))))
  obtain⟨x1,E1,E⟩:=ay E
  refine ye (au zi z ((dA.calls (H.arg (H.rd h3)) E1).mono ?_))
  rintro _ w ⟨rfl,K⟩
  have H:=H.app K
  refine⟨_,z,vr (cg z z) (va (.bool (decide (x1=0))) (nl (aj (⟨.inl z,.bool (decide (x1=0)),tk0 z ⟨ba z (ad ai) z,vr (cp z) (nl ?_)⟩⟩))))⟩
  refine aE E z (fun c3 E=>?_) (fun c3 E=>?_)
  ·refine rg (va (.bool false) (nl (aj ?_)))
   cases E
   exact(bG (aL (aL (bG (aL ⟨.inl z,_,tk0 z ⟨aB z (ad ai),z,H.bA 0 z⟩⟩)))))
  ·refine aA (aR (ab (aH (vr (bJ (v':=ii 2) (aO z z) z) (vm (ii 2) (aK (ab (wu (rg (vr (bJ (v':=.bool true) (aZ z z) z) (nl (ae (cl z (aA (ab (ae (aG (rg (vr (ug qS z z (by decide) (by decide) z) (va (.func (.func 322) #[] #[pt b1,pt b2,pt b4]) (nl (rg (vm (.func (.func 322) #[] #[pt b1,pt b2,pt b4]) (ye (kK 8 [pt b1,pt b2,pt b4] z HL Tryz.func322 z z z z (rg (va (.bool false) (nl (rg (vr (av dk z (ak (H.Gt 1 z) z)) (vr (bp (l:=[ii a1.1,ii a1.2.1,ii a1.2.2]) cv (H.Gt 2 z) z z z) (vr (av bQ z (ak (H.Gt 5 z) z)) ?_))))))))))))))))))))))))))))))))
   obtain⟨x2,E2,E⟩:=ay E
   refine ye (au HM z ((fo.calls (H.Gt 0 z) (H.cj 0 z (H.rd h4)) E2).mono ?_))
   rintro _ w ⟨rfl,K⟩
   have H:=H.aV 0 z K
   refine⟨_,z,va (.bool x2) (nl (aj (⟨.inl z,.bool x2,tk0 z ⟨ba z (ad ai) z,vr (cp z) (nl ?_)⟩⟩)))⟩
   refine aE E z (fun c4 E=>?_) (fun c4 E=>?_)
   ·refine rg (va (.bool false) (nl (aj ?_)))
    cases E
    exact(bG (aL (aL (bG (aL ⟨.inl z,_,tk0 z ⟨aB z (ad ai),z,H.bA 0 z⟩⟩)))))
   ·refine aA (aR (ab (aH (vr (bJ (v':=ii 3) (aO z z) z) (vm (ii 3) (aK (ab (wu (rg (vr (bJ (v':=.bool true) (aZ z z) z) (nl (ae (cl z (aA (ab (ae (aG (rg (vr (ug qS z z (by decide) (by decide) z) (va (.func (.func 324) #[] #[pt b2,pt b6,pt b4,pt b3]) (nl (rg (vm (.func (.func 324) #[] #[pt b2,pt b6,pt b4,pt b3]) (ye (kK 13 [pt b2,pt b6,pt b4,pt b3] z HN Tryz.func324 z z z z (rg (va (.bool false) (nl (ae (cd (ds:=[]) bZ H z z ?_))))))))))))))))))))))))))))))
    have H:=H.drew
    refine wz 0 z H (fun w H=>bp (l:=[ii a1.1,ii a1.2.1,ii a1.2.2]) cv (H.Gt 2 z) z z z) (wz 1 z H (fun w H=>av bQ z (ak (H.Gt 3 z) z)) (wz 2 z H (fun w H=>av bQ z (ak (H.Gt 5 z) z)) (wz 3 z H (fun w H=>av eU z (ak (H.Gt 4 z) z)) (wz 5 z H (fun w H=>av eU z (ak (H.Gt 4 z) z)) (wz 6 z H (fun w H=>aY gK (H.rd h3) z) ?_)))))
    obtain⟨x3,E3,E⟩:=ay E
    refine wo 4 z (au HP z ((gG.calls (H.arg (H.rd h2)) (H.arg (H.rd h4)) (H.arg (H.rd h3)) E3).mono ?_))
    rintro _ w ⟨rfl,K⟩
    have H:=H.app K
    refine⟨_,z,⟨fun _=>H.ag [0,1,2,3,4,5] z z,?_⟩⟩
    obtain⟨x4,E4,E⟩:=ay E
    refine wo 7 z (au HO z ((oZ.calls E4).mono ?_))
    rintro _ w ⟨rfl,K⟩
    have H:=H.app K
    refine⟨_,z,⟨fun _=>H.ag [0,1,2,3,4,5] z z,wg 8 z (H.ag [0,1,2,3,4,5] z z) (sg (.bool x4) z) (wd (ab (aj (⟨.inl z,.bool x4,tk0 z ⟨ba z (ad ai) z,vr (cp z) (nl ?_)⟩⟩))))⟩⟩
    refine aE E z (fun c6 E=>?_) (fun c6 E=>?_)
    ·refine rg (va (.bool false) (nl (aj ?_)))
     cases E
     exact(bG (aL (aL (bG (aL ⟨.inl z,_,tk0 z ⟨aB z (ad ai),z,H.bA 0 z⟩⟩)))))
    ·refine aA (aR (ab (aH (vr (bJ (v':=ii 4) (aO z z) z) (vm (ii 4) (aK (ab (wu (rg (vr (bJ (v':=.bool false) (aZ z z) z) (nl (ae (bS z (bt (aM (aM (bu (ab (rg (va (.bool true) (nl (aj ?_))))))))))))))))))))))
     cases E
     exact⟨.inl z,_,tk0 z ⟨aB z (ad ai),z,H.bA 0 z⟩⟩
def cE.j0(l1r:(Int×Int×Int)→List (Int)→List (Int)→List (Int)→Int→Option (List Int))(k:Nat)(a1:Int×Int×Int)(x1:List Int)(l1:List Int):Option (List Int):=l1r a1 l1 x1 ([]:List Int) 0
def cE.j2(l1r:(Int×Int×Int)→List (Int)→List (Int)→List (Int)→Int→Option (List Int))(k:Nat)(a1:Int×Int×Int)(l1 l2:List Int)(x1:Int)(l3:List Int):Option (List Int):=(jJ.f l2 l1).bind fun x2=>l1r a1 l1 x2 l3 (i64.wrap (x1+1))
def cE.j1(l1r:(Int×Int×Int)→List (Int)→List (Int)→List (Int)→Int→Option (List Int))(k:Nat)(a1:Int×Int×Int)(l1 l2 l3:List Int)(x1 x2:Int):Option (List Int):=bif decide (x2=0)then(an (decide ((l3.length+([x1]).length)*8≤140737488355328)) (cE.j2 l1r k a1 l1 l2 x1 (l3++([x1]))))else(cE.j2 l1r k a1 l1 l2 x1 l3)
mutual
def cE.l0:Nat→(Int×Int×Int)→List Int→List Int→List (Int)→Int→Option (List Int)
 |0,_,_,_,_,_=>none
 |k+1,a1,a2,x1,l1,x2=>bif decide (x2<((List.replicate (a2.length:Int).toNat (0:Int)).length:Int))then((kj.f (i64.wrap (-x2))).bind fun x3=>an (decide ((0:Int)≤x2∧x2<(l1.length:Int))) (cE.l0 k a1 a2 x1 (l1.set x2.toNat x3) (i64.wrap (x2+1))))else(cE.j0 (cE.l1 k) k a1 x1 l1)
def cE.l1:Nat→(Int×Int×Int)→List (Int)→List (Int)→List (Int)→Int→Option (List Int)
 |0,_,_,_,_,_=>none
 |k+1,a1,l2,l3,l4,x4=>bif decide (x4<a1.1)then(cE.l2 k a1 l2 l3 l4 x4 0 0)else(some l4)
def cE.l2:Nat→(Int×Int×Int)→List (Int)→List (Int)→List (Int)→Int→Int→Int→Option (List Int)
 |0,_,_,_,_,_,_,_=>none
 |k+1,a1,l2,l3,l4,x4,x5,x6=>bif decide (x6<(l3.length:Int))then(an (decide ((0:Int)≤x6∧x6<(l3.length:Int))) (cE.l2 k a1 l2 l3 l4 x4 (bits .xor .u8 x5 (at_ 0 l3 x6)) (i64.wrap (x6+1))))else(cE.j1 (cE.l1 k) k a1 l2 l3 l4 x4 x5)
end
def cE.f(k:Nat)(a1:Int×Int×Int)(a2:List Int):Option (List Int):=(dh.f (a1.1,a1.2.1,a1.2.2)).bind fun x5=>bif !decide (x5=0)then(some ([]:List Int))else((dM.f a2).bind fun x1=>an (decide ((0:Int)≤(a2.length:Int)∧(a2.length:Int)≤(a2.length:Int)∧(a2.length:Int)≤140737488355328)) (cE.l0 k a1 a2 x1 (List.replicate (a2.length:Int).toNat (0:Int)) 0))
theorem cE.calls{w0:World}{k:Nat}{F_:FD}{a1:Int×Int×Int}{a2:List Int}{v2_:Value}{r:List Int}(hf:(Rs.ah F_).inv w0)(h2:Rd (.of (.int .u8)) w0 (Ol (Rs.ah F_).fp w0) v2_ a2)(E:cE.f k a1 a2=some r):
 Calls aa 265 #[pt F_.p,.agg #[ii a1.1,ii a1.2.1,ii a1.2.2],v2_] w0 fun e w'=>∃(u0:Value),e= .returned (u0)∧St (Rs.ah F_).fp w0 w' [.ah F_,.own (.int .i64) 3 u0 r]:=by
 have H:=St.start hf
 unfold cE.f at E
 refine aP (N:=20) (args:=[pt F_.p,.agg #[ii a1.1,ii a1.2.1,ii a1.2.2],v2_]) Tryz.func265 z z (by simp) ?_
 refine rg (ye (bc (cs:=#[ii a1.1,ii a1.2.1,ii a1.2.2]) H z (fun b1 w H=>va sn (nl (ae (rg (vm (pt F_.p) (vr (cV Tryz.underlying111 z z) (vm (.bool false) (oo z z (bp (l:=[ii a1.1,ii a1.2.1,ii a1.2.2]) cv (H.Gt 1 z) z z z) ?_))))))))))
 obtain⟨x5,E6,E⟩:=ay E
 refine dP z z z (au jF z ((dh.calls E6).mono ?_))
 rintro _ w ⟨rfl,K⟩
 have H:=H.app K
 refine⟨_,z,oo z z (cx z z) (vr (pF (.bool (!decide (x5=0))) z z z) (nl ?_))⟩
 refine aE E z (fun c7 E=>?_) (fun c7 E=>?_)
 ·refine rg (va sn (nl (aj ?_)))
  have H:=H.bB (.int .i64) 3
  cases E
  exact(aL ⟨.inl z,_,tk0 z ⟨aB z (ad ai),_,z,H.bN 0 2 z z z⟩⟩)
 ·refine aA (ab (rg (vm (pt F_.p) (vr (az eJ z) (vr (av bf z (ak (H.Gt 1 z) z)) (vm v2_ (ye (cm 8 [pt F_.p,ii a1.1,v2_] HA Tryz.func309 z z z z (rg (ye (bc (cs:=#[pt F_.p]) H z (fun b2 w H=>ye (bc (cs:=#[ii a1.1]) H z (fun b3 w H=>?_))))))))))))))
  obtain⟨p1,n1,c1,rfl⟩:=eO h2
  refine ye (bc (cs:=#[(.slice p1 n1 c1)]) H z (fun b4 w H=>?_))
  have H:St (Rs.ah F_).fp w0 _ [.ah F_,.blk b1 #[ii a1.1,ii a1.2.1,ii a1.2.2] 24,.blk b2 #[pt F_.p] 111,.blk b3 #[ii a1.1] 3,.blk b4 #[(.slice p1 n1 c1)] 22]:=H
  refine va (.nilFunc) (nl (rg (vr (dt [pt b4,pt b2,pt b3] z) (va (.func (.func 342) #[] #[pt b4,pt b2,pt b3]) (nl (aj (⟨.inl z,.func (.func 342) #[] #[pt b4,pt b2,pt b3],tk0 z ⟨ba z (ad ai) z,ye (cm 5 [.func (.func 342) #[] #[pt b4,pt b2,pt b3]] G8 Tryz.func186 z z z z (rg (va sn (nl (rg (vm (.func (.func 342) #[] #[pt b4,pt b2,pt b3]) (ye (cm 13 [sn,.func (.func 342) #[] #[pt b4,pt b2,pt b3]] Hj Tryz.func237 z z z z ?_))))))))⟩⟩)))))))
  have H:=H.mk0
  refine rg (ye (bc (cs:=#[sn]) H z (fun b5 w H=>va sn (nl (ae (rg (vm (.func (.func 342) #[] #[pt b4,pt b2,pt b3]) (nl (aG (je 57 [pt b4,pt b2,pt b3] z Tryz.func342 z z z z z H 5 z z (fun v1 b6 o1 w hO1 H=>rg (vr (av bQ z (ak (H.Gt 4 z) z)) ?_))))))))))))
  obtain⟨x1,E1,E⟩:=ay E
  refine ye (au nD z ((dM.calls (H.arg (H.rd h2)) E1).mono ?_))
  rintro _ w ⟨v2,rfl,K⟩
  have H:=H.app K
  refine⟨_,z,va v2 (nl (rg (vr (av bQ z (ak (H.Gt 4 z) z)) (vr (aY bI (H.rd h2) z) ?_))))⟩
  obtain⟨⟨g1,g2,g3⟩,E⟩:=ar E
  refine ye (ee (e:=(.int .u8)) (z0:=0) aN z H z z g1 g2 (by omega) (by omega) (fun v3 w H=>va v3 (nl ?_)))
  refine cA (fun t w=>∃(k1:Nat)(l1:List Int)(t1:Fr),k1≤k∧cE.j0 (cE.l1 k1) k1 a1 x1 l1=some r∧t=aU t1 [(0,.func (.yield b6) #[] #[]),(2,pt b2),(3,pt b3),(5,v2),(6,v3),(1000000,undef)]∧St (Rs.ah F_).fp w0 w [.ah F_,.blk b1 #[ii a1.1,ii a1.2.1,ii a1.2.2] 24,.blk b2 #[pt F_.p] 111,.blk b3 #[ii a1.1] 3,.blk b4 #[(.slice p1 n1 c1)] 22,.bO v1,.blk b5 #[sn] 28,.obj b6 (.loop o1),.own (.int .u8) 5 v2 x1,.own (.int .u8) 5 v3 l1]) ?_ ?_
  ·refine rg (vm v3 (vr (aY bI (ao (H.Gt 9 z)) z) (vm (ii 0) (nl (aG ?_)))))
   refine bx (fun kk t w=>∃(l2:List Int)(x2:Int)(t2:Fr),kk≤k∧cE.l0 kk a1 a2 x1 l2 x2=some r∧t=aU t2 [(0,.func (.yield b6) #[] #[]),(2,pt b2),(3,pt b3),(5,v2),(6,v3),(18,ii ((List.replicate (a2.length:Int).toNat (0:Int)).length:Int)),(19,ii x2),(1000000,undef)]∧St (Rs.ah F_).fp w0 w [.ah F_,.blk b1 #[ii a1.1,ii a1.2.1,ii a1.2.2] 24,.blk b2 #[pt F_.p] 111,.blk b3 #[ii a1.1] 3,.blk b4 #[(.slice p1 n1 c1)] 22,.bO v1,.blk b5 #[sn] 28,.obj b6 (.loop o1),.own (.int .u8) 5 v2 x1,.own (.int .u8) 5 v3 l2]) k ?_ ?_
   ·exact⟨_,_,_,aI _,E,aD ⟨z,z,z,z,z,z,z,z,trivial⟩,H⟩
   rintro kk t w ⟨l2,x2,t2,hk1,E,rfl,H⟩
   obtain⟨k2,rfl⟩|rfl:=ks kk
   rotate_left
   ·cases E
   rw[cE.l0]at E
   refine rg (vr (aZ z z) (nl (ae ?_)))
   refine aE E z (fun c2 E=>?_) (fun c2 E=>?_)
   ·refine aA (ab (ae (aG (rg (vm (ii x2) (va (ii x2) (nl (aH (vm v3 (vm (ii x2) (vr (av dk z (ak (H.Gt 2 z) z)) (vm (ii x2) (vr (um z) ?_)))))))))))))
    obtain⟨x3,E2,E⟩:=ay E
    refine ye (au vh z ((kj.calls (H.Gt 0 z) E2).mono ?_))
    rintro _ w ⟨rfl,K⟩
    have H:=H.aV 0 z K
    refine⟨_,z,?_⟩
    obtain⟨⟨g4,g5⟩,E⟩:=ar E
    refine vr (bo aN (ao (H.Gt 9 z)) z z g4 g5) (s_ (dc dB H 9 z g4 g5 z z (fun w H=>aK (aR (ab (aH (vr (aO z z) (vm (ii (i64.wrap (x2+1))) (aK ?_)))))))))
    exact⟨k2,bL _,_,_,_,bK hk1,E,aD ⟨z,z,z,z,z,z,z,z,trivial⟩,H⟩
   ·refine bt (aM (aM (bu ?_)))
    exact⟨k2,_,_,by omega,E,aD ⟨z,z,z,z,z,z,trivial⟩,H⟩
  rintro t w ⟨k1,l1,t1,hk2,E,rfl,H⟩
  unfold cE.j0 at E
  refine rg (vr (av bf z (ak (H.Gt 3 z) z)) (vm (ii 0) (nl (aG ?_))))
  have H:=H.bB (.int .i64) 3
  refine bx (fun kk t w=>∃(l3 l4:List Int)(x4:Int)(v4 v5:Value)(t3:Fr),kk≤k1∧cE.l1 kk a1 l1 l3 l4 x4=some r∧t=aU t3 [(0,.func (.yield b6) #[] #[]),(2,pt b2),(5,v4),(6,v3),(30,ii a1.1),(31,ii x4),(1000000,undef)]∧St (Rs.ah F_).fp w0 w [.ah F_,.blk b1 #[ii a1.1,ii a1.2.1,ii a1.2.2] 24,.blk b2 #[pt F_.p] 111,.blk b3 #[ii a1.1] 3,.blk b4 #[(.slice p1 n1 c1)] 22,.bO v1,.blk b5 #[v5] 28,.obj b6 (.loop o1),.own (.int .u8) 5 v4 l3,.own (.int .u8) 5 v3 l1,.own (.int .i64) 3 v5 l4]) k1 ?_ ?_
  ·exact⟨_,_,_,_,_,_,aI _,E,aD ⟨z,z,z,z,z,z,z,trivial⟩,H⟩
  rintro kk t w ⟨l3,l4,x4,v4,v5,t3,hk3,E,rfl,H⟩
  obtain⟨k3,rfl⟩|rfl:=ks kk
  rotate_left
  ·cases E
  rw[cE.l1]at E
  refine rg (vr (aZ z z) (nl (ae ?_)))
  refine aE E z (fun c3 E=>?_) (fun c3 E=>?_)
  ·refine aA (ab (ae (aG (rg (vm (ii x4) (va (ii x4) (nl (rg (va (iu 0) (nl ?_))))))))))
   refine cA (fun t w=>∃(k4:Nat)(x6:Int)(t4:Fr),k4≤k3∧cE.j1 (cE.l1 k4) k4 a1 l1 l3 l4 x4 x6=some r∧t=aU t4 [(0,.func (.yield b6) #[] #[]),(2,pt b2),(5,v4),(6,v3),(8,ii x4),(9,iu x6),(30,ii a1.1),(31,ii x4),(1000000,undef)]∧St (Rs.ah F_).fp w0 w [.ah F_,.blk b1 #[ii a1.1,ii a1.2.1,ii a1.2.2] 24,.blk b2 #[pt F_.p] 111,.blk b3 #[ii a1.1] 3,.blk b4 #[(.slice p1 n1 c1)] 22,.bO v1,.blk b5 #[v5] 28,.obj b6 (.loop o1),.own (.int .u8) 5 v4 l3,.own (.int .u8) 5 v3 l1,.own (.int .i64) 3 v5 l4]) ?_ ?_
   ·refine rg (vm v4 (vr (aY bI (ao (H.Gt 8 z)) z) (vm (ii 0) (nl (aG ?_)))))
    refine bx (fun kk t w=>∃(x7 x8:Int)(t5:Fr),kk≤k3∧cE.l2 kk a1 l1 l3 l4 x4 x7 x8=some r∧t=aU t5 [(0,.func (.yield b6) #[] #[]),(2,pt b2),(5,v4),(6,v3),(8,ii x4),(9,iu x7),(30,ii a1.1),(31,ii x4),(34,v4),(35,ii (l3.length:Int)),(36,ii x8),(1000000,undef)]∧St (Rs.ah F_).fp w0 w [.ah F_,.blk b1 #[ii a1.1,ii a1.2.1,ii a1.2.2] 24,.blk b2 #[pt F_.p] 111,.blk b3 #[ii a1.1] 3,.blk b4 #[(.slice p1 n1 c1)] 22,.bO v1,.blk b5 #[v5] 28,.obj b6 (.loop o1),.own (.int .u8) 5 v4 l3,.own (.int .u8) 5 v3 l1,.own (.int .i64) 3 v5 l4]) k3 ?_ ?_
    ·exact⟨_,_,_,aI _,E,aD ⟨z,z,z,z,z,z,z,z,z,z,z,z,trivial⟩,H⟩
    rintro kk t w ⟨x7,x8,t5,hk4,E,rfl,H⟩
    obtain⟨k5,rfl⟩|rfl:=ks kk
    rotate_left
    ·cases E
    rw[cE.l2]at E
    refine rg (vr (aZ z z) (nl (ae ?_)))
    refine aE E z (fun c4 E=>?_) (fun c4 E=>?_)
    ·refine aA (ab (ae (aG (rg ?_))))
     obtain⟨⟨g6,g7⟩,E⟩:=ar E
     refine vr (bo aN (ao (H.Gt 8 z)) z z g6 g7) (vr (bq bC (ao (H.Gt 8 z)) g6 g7 z) (va (iu (at_ 0 l3 x8)) (nl (aH (vm (iu x7) (vm (iu (at_ 0 l3 x8)) (vr (ij z z) (va (iu (bits .xor .u8 x7 (at_ 0 l3 x8))) (aK (aR (ab (aH (vr (aO z z) (vm (ii (i64.wrap (x8+1))) (aK ?_)))))))))))))))
     exact⟨k5,bL _,_,_,_,bK hk4,E,aD ⟨z,z,z,z,z,z,z,z,z,z,z,z,trivial⟩,H⟩
    ·refine bt (aM (aM (bu ?_)))
     exact⟨k5,_,_,by omega,E,aD ⟨z,z,z,z,z,z,z,z,z,trivial⟩,H⟩
   rintro t w ⟨k4,x6,t4,hk5,E,rfl,H⟩
   unfold cE.j1 at E
   refine cA (fun t w=>∃(k6:Nat)(l5:List Int)(v6:Value)(t6:Fr),k6≤k4∧cE.j2 (cE.l1 k6) k6 a1 l1 l3 x4 l5=some r∧t=aU t6 [(0,.func (.yield b6) #[] #[]),(2,pt b2),(5,v4),(6,v3),(30,ii a1.1),(31,ii x4),(1000000,undef)]∧St (Rs.ah F_).fp w0 w [.ah F_,.blk b1 #[ii a1.1,ii a1.2.1,ii a1.2.2] 24,.blk b2 #[pt F_.p] 111,.blk b3 #[ii a1.1] 3,.blk b4 #[(.slice p1 n1 c1)] 22,.bO v1,.blk b5 #[v6] 28,.obj b6 (.loop o1),.own (.int .u8) 5 v4 l3,.own (.int .u8) 5 v3 l1,.own (.int .i64) 3 v6 l5]) ?_ ?_
   ·refine rg (vm (iu x6) (vr (cg z z) (vm (.bool (decide (x6=0))) ?_)))
    rcases bR (decide (x6=0))with c5|c5
    ·have E:=iT c5 E
     refine oo c5 z (mv (.func (.yield b6) #[] #[]) z) (oo c5 z (mv (ii x4) z) (dP z c5 z (jf [ii x4] z z H 7 z hO1 z z (aH (va (ii x4) (aK (yB H 7 z hO1 (fun w H=>aG (aH (vr (av eU z (ak (H.Gt 6 z) z)) (vm (ii x4) (ye (cL (e:=(.int .i64)) (l:=[x4]) gl H z (by decide) ⟨z,z,trivial⟩ (by decide) (fun v7 w H=>?_))))))))))))))
     obtain⟨g8,E⟩:=ar E
     refine ye (dZ gl H 10 z (ao (H.Gt 11 z)) z z (by omega) (by unfold maxLen;omega) (fun v8 w H=>?_))
     obtain⟨p2,n2,c6,rfl⟩:=bX (H.Gt 10 z)
     refine s_ (cQ vy H 6 z z z z z (fun w H=>aK (aR (yN H 7 z hO1 (fun w H=>oo c5 z (bJ (v':=.bool false) (cp z) z) (vr (pT (.bool false) z z c5) (nl (bS z (aA ?_)))))))))
     exact⟨k4,_,_,_,aI _,E,aD ⟨z,z,z,z,z,z,z,trivial⟩,H.ag [0,1,2,3,4,5,6,7,8,9,10] z z⟩
    ·have E:=iF c5 E
     refine ow c5 z (ow c5 z (ow c5 z (ow c5 z (vr (pF (.bool false) z z c5) (nl (bS z (aA ?_)))))))
     exact⟨k4,_,_,_,aI _,E,aD ⟨z,z,z,z,z,z,z,trivial⟩,H⟩
   rintro t w ⟨k6,l5,v6,t6,hk6,E,rfl,H⟩
   unfold cE.j2 at E
   refine aH (vr (av dk z (ak (H.Gt 2 z) z)) (vm v4 (vm v3 ?_)))
   obtain⟨x9,E3,E⟩:=ay E
   refine ye (au vp z ((jJ.calls (H.Gt 0 z) (H.cb 8 0 z z z (ao (H.Gt 8 z))) (H.cb 9 0 z z z (ao (H.Gt 9 z))) E3).mono ?_))
   rintro _ w ⟨v9,rfl,K⟩
   have H:=H.aV 0 z K
   refine⟨_,z,va v9 (aK (aR (ab (aH (vr (aO z z) (vm (ii (i64.wrap (x4+1))) (aK ?_)))))))⟩
   exact⟨k6,by omega,_,_,_,_,_,_,by omega,E,aD ⟨z,z,z,z,z,z,z,trivial⟩,H.ag [0,1,2,3,4,5,6,7,11,9,10] z z⟩
  ·refine bt (aM (aM (bu (⟨.inr z,.tuple #[],tk0 z ⟨ba z ai z,ji H 7 z hO1 (fun w H=>aR (ab (rg (vr (av eU z (ak (H.Gt 6 z) z)) (va v5 (nl (aj (⟨.inl z,v5,gT H 5 z z (fun w H=>⟨ba z (ad ai) z,va v5 (nl (aj (⟨.inl z,v5,tk0 z ⟨ba z (ad ai) z,va v5 (nl (aj ?_))⟩⟩)))⟩)⟩))))))))⟩⟩))))
   cases E
   exact⟨.inl z,_,tk0 z ⟨aB z (ad ai),_,z,H.bN 0 10 z z z⟩⟩
def fY.l0:Nat→List Int→List (Int)→Int→Option (List Int)
 |0,_,_,_=>none
 |k+1,x8,l1,x1=>bif decide (x1<(x8.length:Int))then(bif decide (Int.tmod x1 2=1)then(an (decide ((0:Int)≤x1∧x1<(l1.length:Int))) (fY.l0 k x8 (l1.set x1.toNat 0) (i64.wrap (x1+1))))else(fY.l0 k x8 l1 (i64.wrap (x1+1))))else((cX.f k l1).bind fun x2=>some x2)
def fY.f(k:Nat)(a0:List Int):Option (List Int):=bif decide ((a0.length:Int)=0)then(some ([]:List Int))else(an (decide ((0:Int)≤1∧1≤(a0.length:Int))) ((dM.f ((a0.take a0.length).drop ((1:Int).toNat))).bind fun x8=>fY.l0 k x8 x8 0))
theorem fY.calls{w0:World}{k:Nat}{a0:List Int}{v0_:Value}{r:List Int}(h0:Rd (.of (.int .u8)) w0 (Ol no w0) v0_ a0)(E:fY.f k a0=some r):
 Calls aa 272 #[v0_] w0 fun e w'=>∃(u0:Value),e= .returned (u0)∧St no w0 w' [.own (.int .u8) 5 u0 r]:=by
 have H:=St.nil no w0
 unfold fY.f at E
 refine aP (N:=25) (args:=[v0_]) Tryz.func272 z z (by simp) ?_
 refine rg (va sn (nl (ae (rg (vm v0_ (vr (aY bI (H.rd h0) z) (vr (cg z z) (nl ?_))))))))
 refine aE E z (fun c2 E=>?_) (fun c2 E=>?_)
 ·refine rg (va sn (nl (aj ?_)))
  have H:=H.bB (.int .u8) 5
  cases E
  exact(aL ⟨.inl z,_,tk0 z ⟨aB z (ad ai),_,z,H.bA 0 z⟩⟩)
 ·refine aA (ab (rg (vm v0_ ?_)))
  obtain⟨⟨g3,g4⟩,E⟩:=ar E
  have p6:(1:Int).toNat≤a0.length:=by omega
  have p7:a0.length≤a0.length:=by omega
  refine vr (iW aN (H.rd h0) z z g3 g4) ?_
  obtain⟨x8,E9,E⟩:=ay E
  refine ye (au nD z ((dM.calls (H.arg (Rd.bz (H.rd h0) p6 p7)) E9).mono ?_))
  rintro _ w ⟨v1,rfl,K⟩
  have H:=H.app K
  refine⟨_,z,va v1 (nl (ae (rg (vm v1 (vr (aY bI (ao (H.Gt 0 z)) z) (vm (ii 0) (nl (aG ?_))))))))⟩
  refine bx (fun kk t w=>∃(l1:List Int)(x1:Int)(t1:Fr),kk≤k∧fY.l0 kk x8 l1 x1=some r∧t=aU t1 [(2,sn),(3,v1),(12,ii (x8.length:Int)),(13,ii x1),(1000000,undef)]∧St no w0 w [.own (.int .u8) 5 v1 l1]) k ?_ ?_
  ·exact⟨_,_,_,aI _,E,aD ⟨z,z,z,z,z,trivial⟩,H⟩
  rintro kk t w ⟨l1,x1,t1,hk1,E,rfl,H⟩
  obtain⟨k23,rfl⟩|rfl:=ks kk
  rotate_left
  ·cases E
  rw[fY.l0]at E
  refine rg (vr (aZ z z) (nl (ae ?_)))
  refine aE E z (fun c1 E=>?_) (fun c1 E=>?_)
  ·refine aA (ab (ae (aG (rg (vm (ii x1) (va (ii x1) (nl (rg (vm (ii x1) (vr (fg z z (by decide)) (vr (cg z z) (nl ?_))))))))))))
   refine aE E z (fun c3 E=>?_) (fun c3 E=>?_)
   ·refine aH (vm v1 (vm (ii x1) ?_))
    obtain⟨⟨g1,g2⟩,E⟩:=ar E
    refine vr (bo aN (ao (H.Gt 0 z)) z z g1 g2) (s_ (dc dB H 0 z g1 g2 z z (fun w H=>aK (aR (ab (aH (vr (aO z z) (vm (ii (i64.wrap (x1+1))) (aK ?_)))))))))
    exact⟨k23,bL _,_,_,_,bK hk1,E,aD ⟨z,z,z,z,z,trivial⟩,H⟩
   ·refine aA (aR (ab (aH (vr (aO z z) (vm (ii (i64.wrap (x1+1))) (aK ?_))))))
    exact⟨k23,bL _,_,_,_,bK hk1,E,aD ⟨z,z,z,z,z,trivial⟩,H⟩
  ·refine bt (aM (aM (bu (ab (rg (vm v1 ?_))))))
   obtain⟨x2,E1,E⟩:=ay E
   refine ye (au eS z ((cX.calls (H.own 0 z (ao (H.Gt 0 z))) E1).mono ?_))
   rintro _ w ⟨v2,rfl,K⟩
   have H:=H.app K
   refine⟨_,z,va v2 (nl (aj ?_))⟩
   cases E
   exact⟨.inl z,_,tk0 z ⟨aB z (ad ai),_,z,H.bA 1 z⟩⟩
def eu.j0(l1r:List Int→List Int→List Int→Option (List Int×Bool))(k:Nat)(a2 a3 a4:List Int):Option (List Int×Bool):=(eR.f k a2 (List.replicate (a4.length:Int).toNat (0:Int))).bind fun x1=>(fY.f k a3).bind fun x2=>(eR.f k x2 (List.replicate (a4.length:Int).toNat (0:Int))).bind fun x3=>l1r a4 x1 x3
mutual
def eu.l0:Nat→List Int→List Int→List Int→Option (List Int×Bool)
 |0,_,_,_=>none
 |k+1,a2,a3,a4=>bif decide (0<(a4.length:Int))then(none)else(eu.j0 (eu.l1 k) k a2 a3 a4)
def eu.l1:Nat→List Int→List Int→List Int→Option (List Int×Bool)
 |0,_,_,_=>none
 |k+1,a4,x1,x2=>bif decide (0<min2 (x1.length:Int) (x2.length:Int))then(none)else(eu.l2 k a4)
def eu.l2:Nat→List Int→Option (List Int×Bool)
 |0,_=>none
 |k+1,a4=>bif decide (0<((List.replicate (a4.length:Int).toNat (0:Int)).length:Int))then(none)else(some (([]:List Int),true))
end
def eu.f(k:Nat)(a1:Int×Int×Int)(a2 a3 a4:List Int):Option (List Int×Bool):=(dh.f (a1.1,a1.2.1,a1.2.2)).bind fun x5=>bif !decide (x5=0)then(some (([]:List Int),false))else(an (decide ((0:Int)≤(a4.length:Int)∧(a4.length:Int)≤(a4.length:Int)∧(a4.length:Int)≤140737488355328)) (eu.l0 k a2 a3 a4))
theorem eu.calls{w0:World}{k:Nat}{F_:FD}{a1:Int×Int×Int}{a2 a3 a4:List Int}{v2_ v3_ v4_:Value}{r:List Int×Bool}(hf:(Rs.ah F_).inv w0)(h2:Rd (.of (.int .u8)) w0 (Ol (Rs.ah F_).fp w0) v2_ a2)(h3:Rd (.of (.int .u8)) w0 (Ol (Rs.ah F_).fp w0) v3_ a3)(h4:Rd (.of (.int .i64)) w0 (Ol (Rs.ah F_).fp w0) v4_ a4)(E:eu.f k a1 a2 a3 a4=some r):
 Calls aa 266 #[pt F_.p,.agg #[ii a1.1,ii a1.2.1,ii a1.2.2],v2_,v3_,v4_] w0 fun e w'=>∃(u0:Value),e= .returned (.tuple #[u0,.bool r.2])∧St (Rs.ah F_).fp w0 w' [.ah F_,.own (.int .u8) 5 u0 r.1]:=by
 have H:=St.start hf
 unfold eu.f at E
 refine aP (N:=90) (args:=[pt F_.p,.agg #[ii a1.1,ii a1.2.1,ii a1.2.2],v2_,v3_,v4_]) Tryz.func266 z z (by simp) ?_
 refine rg (ye (bc (cs:=#[ii a1.1,ii a1.2.1,ii a1.2.2]) H z (fun b1 w H=>va sn (va (.bool false) (nl (ae (rg (vm (pt F_.p) (vr (cV Tryz.underlying111 z z) (vm (.bool false) (oo z z (bp (l:=[ii a1.1,ii a1.2.1,ii a1.2.2]) cv (H.Gt 1 z) z z z) ?_)))))))))))
 obtain⟨x5,E6,E⟩:=ay E
 refine dP z z z (au jF z ((dh.calls E6).mono ?_))
 rintro _ w ⟨rfl,K⟩
 have H:=H.app K
 refine⟨_,z,oo z z (cx z z) (vr (pF (.bool (!decide (x5=0))) z z z) (nl ?_))⟩
 refine aE E z (fun c7 E=>?_) (fun c7 E=>?_)
 ·refine rg (va sn (va (.bool false) (nl (aj ?_))))
  have H:=H.bB (.int .u8) 5
  cases E
  exact(aL ⟨.inl z,_,tk0 z ⟨aB z (ad (ad ai)),_,z,H.bN 0 2 z z z⟩⟩)
 ·refine aA (ab (rg (vm v4_ (vr (aY gK (H.rd h4) z) ?_))))
  obtain⟨⟨g9,g1,g2⟩,E⟩:=ar E
  refine ye (ee (e:=(.int .u8)) (z0:=0) aN z H z z g9 g1 (by omega) (by omega) (fun v8 w H=>va v8 (nl ?_)))
  refine cA (fun t w=>∃(k24:Nat)(t1:Fr),k24≤k∧eu.j0 (eu.l1 k24) k24 a2 a3 a4=some r∧t=aU t1 [(0,pt F_.p),(2,v2_),(3,v3_),(6,pt b1),(10,sn),(11,.bool false),(12,v8),(1000000,undef)]∧St (Rs.ah F_).fp w0 w [.ah F_,.blk b1 #[ii a1.1,ii a1.2.1,ii a1.2.2] 24,.own (.int .u8) 5 v8 (List.replicate (a4.length:Int).toNat (0:Int))]) ?_ ?_
  ·refine rg (vm v4_ (vr (aY gK (H.rd h4) z) (vm (ii 0) (nl (aG ?_)))))
   refine bx (fun kk t w=>∃(t2:Fr),kk≤k∧eu.l0 kk a2 a3 a4=some r∧t=aU t2 [(0,pt F_.p),(2,v2_),(3,v3_),(6,pt b1),(10,sn),(11,.bool false),(12,v8),(31,v4_),(32,ii (a4.length:Int)),(33,ii 0),(1000000,undef)]∧St (Rs.ah F_).fp w0 w [.ah F_,.blk b1 #[ii a1.1,ii a1.2.1,ii a1.2.2] 24,.own (.int .u8) 5 v8 (List.replicate (a4.length:Int).toNat (0:Int))]) k ?_ ?_
   ·exact⟨_,aI _,E,aD ⟨z,z,z,z,z,z,z,z,z,z,z,trivial⟩,H⟩
   rintro kk t w ⟨t2,hk1,E,rfl,H⟩
   obtain⟨k30,rfl⟩|rfl:=ks kk
   rotate_left
   ·cases E
   rw[eu.l0]at E
   refine rg (vr (aZ z z) (nl (ae ?_)))
   refine aE E z (fun c1 E=>?_) (fun c1 E=>?_)
   ·cases E
   ·refine bt (aM (aM (bu ?_)))
    exact⟨k30,_,by omega,E,aD ⟨z,z,z,z,z,z,z,z,trivial⟩,H⟩
  rintro t w ⟨k24,t1,hk2,E,rfl,H⟩
  unfold eu.j0 at E
  refine rg (vm (pt F_.p) (vm v2_ (vm v8 ?_)))
  obtain⟨x1,E1,E⟩:=ay E
  refine ye (au qU z ((eR.calls (H.Gt 0 z) (H.cj 0 z (H.rd h2)) (H.cb 2 0 z z z (ao (H.Gt 2 z))) E1).mono ?_))
  rintro _ w ⟨v1,rfl,K⟩
  have H:=H.aV 0 z K
  refine⟨_,z,vm (pt F_.p) (vm v3_ ?_)⟩
  obtain⟨x2,E2,E⟩:=ay E
  refine ye (au zv z ((fY.calls (H.arg (H.rd h3)) E2).mono ?_))
  rintro _ w ⟨v2,rfl,K⟩
  have H:=H.app K
  refine⟨_,z,(vm v8 ?_)⟩
  obtain⟨x3,E3,E⟩:=ay E
  refine ye (au qU z ((eR.calls (H.Gt 0 z) (H.cb 4 0 z z z (ao (H.Gt 4 z))) (H.cb 2 0 z z z (ao (H.Gt 2 z))) E3).mono ?_))
  rintro _ w ⟨v3,rfl,K⟩
  have H:=H.aV 0 z K
  refine⟨_,z,va v1 (va v3 (nl (rg (vm v1 (vm v3 (vm (pt F_.p) (vr (gw [pt F_.p] [] z z) (ye (cm 41 [v1,v3,.func (.func 223) #[pt F_.p] #[]] HB Tryz.func310 z z z z (rg (va sn (va (.bool false) (nl (rg (va sn (nl (ae (rg (vm v1 (vr (aY bI (ao (H.Gt 3 z)) z) (vm v3 (vr (aY bI (ao (H.Gt 5 z)) z) (vr (kA z z) (vm (ii 0) (nl (aG ?_))))))))))))))))))))))))))⟩
  refine bx (fun kk t w=>∃(t3:Fr),kk≤k24∧eu.l1 kk a4 x1 x3=some r∧t=aU t3 [(0,v1),(1,v3),(2,.func (.func 223) #[pt F_.p] #[]),(6,sn),(7,.bool false),(8,sn),(16,ii (min2 (x1.length:Int) (x3.length:Int))),(17,ii 0),(1000000,undef)]∧St (Rs.ah F_).fp w0 w [.ah F_,.blk b1 #[ii a1.1,ii a1.2.1,ii a1.2.2] 24,.own (.int .u8) 5 v8 (List.replicate (a4.length:Int).toNat (0:Int)),.own (.int .u8) 5 v1 x1,.own (.int .u8) 5 v2 x2,.own (.int .u8) 5 v3 x3]) k24 ?_ ?_
  ·exact⟨_,aI _,E,aD ⟨z,z,z,z,z,z,z,z,z,trivial⟩,H⟩
  rintro kk t w ⟨t3,hk3,E,rfl,H⟩
  obtain⟨k1,rfl⟩|rfl:=ks kk
  rotate_left
  ·cases E
  rw[eu.l1]at E
  refine rg (vr (aZ z z) (nl (ae ?_)))
  refine aE E z (fun c2 E=>?_) (fun c2 E=>?_)
  ·cases E
  ·refine bt (aM (aM (bu (ab (rg (vm sn (va sn (va (.bool true) (nl (aj (⟨.inl z,.tuple #[sn,.bool true],tk0 z ⟨ba z (ad (ad ai)) z,vr cz (vr (aX z z) (vr (aX z z) (va sn (va (.bool true) (nl (ae (rg (vm (.bool true) (vr (bJ (v':=.bool false) (cp z) z) (nl (bS z (aA (ab (ae (rg (vm v8 (vr (aY bI (ao (H.Gt 2 z)) z) (vm (ii 0) (nl (aG ?_))))))))))))))))))))⟩⟩)))))))))))
   refine bx (fun kk t w=>∃(t4:Fr),kk≤k1∧eu.l2 kk a4=some r∧t=aU t4 [(0,pt F_.p),(6,pt b1),(10,sn),(11,.bool false),(17,sn),(66,v8),(67,ii ((List.replicate (a4.length:Int).toNat (0:Int)).length:Int)),(68,ii 0),(1000000,undef)]∧St (Rs.ah F_).fp w0 w [.ah F_,.blk b1 #[ii a1.1,ii a1.2.1,ii a1.2.2] 24,.own (.int .u8) 5 v8 (List.replicate (a4.length:Int).toNat (0:Int)),.own (.int .u8) 5 v1 x1,.own (.int .u8) 5 v2 x2,.own (.int .u8) 5 v3 x3]) k1 ?_ ?_
   ·exact⟨_,aI _,E,aD ⟨z,z,z,z,z,z,z,z,z,trivial⟩,H⟩
   rintro kk t w ⟨t4,hk4,E,rfl,H⟩
   obtain⟨k2,rfl⟩|rfl:=ks kk
   rotate_left
   ·cases E
   rw[eu.l2]at E
   refine rg (vr (aZ z z) (nl (ae ?_)))
   refine aE E z (fun c3 E=>?_) (fun c3 E=>?_)
   ·cases E
   ·refine bt (aM (aM (bu (ab (rg (vm sn (va sn (va (.bool true) (nl (aj ?_))))))))))
    have H:=H.bB (.int .u8) 5
    cases E
    exact⟨.inl z,_,tk0 z ⟨aB z (ad (ad ai)),_,z,H.bN 0 6 z z z⟩⟩
def fD.j0(l0r:List Int→List Int→List Int→Int→Option (List Int))(k:Nat)(a1 a2 x1:List Int)(x2:Int)(x3:Bool):Option (List Int):=bif x3 then(none)else(l0r a1 a2 x1 (i64.wrap (x2+1)))
def fD.l0:Nat→List Int→List Int→List Int→Int→Option (List Int)
 |0,_,_,_,_=>none
 |k+1,a1,a2,x1,x2=>bif decide (x2<min2 (a1.length:Int) (a2.length:Int))then(an (decide ((0:Int)≤x2∧x2<(a1.length:Int))) (bif decide (0≤at_ 0 a1 x2)then(fD.j0 (fD.l0 k) k a1 a2 x1 x2 (decide (at_ 0 a1 x2<(x1.length:Int))))else(fD.j0 (fD.l0 k) k a1 a2 x1 x2 false)))else(some x1)
def fD.f(k:Nat)(a0 a1 a2:List Int):Option (List Int):=(dM.f a0).bind fun x1=>fD.l0 k a1 a2 x1 0
theorem fD.calls{w0:World}{k:Nat}{a0 a1 a2:List Int}{v0_ v1_ v2_:Value}{r:List Int}(h0:Rd (.of (.int .u8)) w0 (Ol no w0) v0_ a0)(h1:Rd (.of (.int .i64)) w0 (Ol no w0) v1_ a1)(h2:Rd (.of (.int .u8)) w0 (Ol no w0) v2_ a2)(E:fD.f k a0 a1 a2=some r):
 Calls aa 267 #[v0_,v1_,v2_] w0 fun e w'=>∃(u0:Value),e= .returned (u0)∧St no w0 w' [.own (.int .u8) 5 u0 r]:=by
 have H:=St.nil no w0
 unfold fD.f at E
 refine aP (N:=44) (args:=[v0_,v1_,v2_]) Tryz.func267 z z (by simp) ?_
 refine rg (va sn (nl (rg (vm v0_ ?_))))
 obtain⟨x1,E2,E⟩:=ay E
 refine ye (au nD z ((dM.calls (H.arg (H.rd h0)) E2).mono ?_))
 rintro _ w ⟨v3,rfl,K⟩
 have H:=H.app K
 refine⟨_,z,va v3 (nl (ae (rg (vm v1_ (vr (aY gK (H.rd h1) z) (vm v2_ (vr (aY bI (H.rd h2) z) (vr (kA z z) (vm (ii 0) (nl (aG ?_)))))))))))⟩
 refine bx (fun kk t w=>∃(x2:Int)(t1:Fr),kk≤k∧fD.l0 kk a1 a2 x1 x2=some r∧t=aU t1 [(1,v1_),(2,v2_),(6,sn),(7,v3),(16,ii (min2 (a1.length:Int) (a2.length:Int))),(17,ii x2),(1000000,undef)]∧St no w0 w [.own (.int .u8) 5 v3 x1]) k ?_ ?_
 ·exact⟨_,_,aI _,E,aD ⟨z,z,z,z,z,z,z,trivial⟩,H⟩
 rintro kk t w ⟨x2,t1,hk1,E,rfl,H⟩
 obtain⟨k1,rfl⟩|rfl:=ks kk
 rotate_left
 ·cases E
 rw[fD.l0]at E
 refine rg (vr (aZ z z) (nl (ae ?_)))
 refine aE E z (fun c1 E=>?_) (fun c1 E=>?_)
 ·refine aA (ab (ae (aG (rg (vm (ii x2) (va (ii x2) (nl (rg (vm v1_ (vm (ii x2) ?_))))))))))
  obtain⟨⟨g1,g2⟩,E⟩:=ar E
  refine vr (bo gl (H.rd h1) z z g1 g2) (vr (bq bf (H.rd h1) g1 g2 z) (va (ii (at_ 0 a1 x2)) (nl ?_)))
  refine cA (fun t w=>∃(k2:Nat)(x3:Bool)(t2:Fr),k2≤k1∧fD.j0 (fD.l0 k2) k2 a1 a2 x1 x2 x3=some r∧t=aU t2 [(1,v1_),(2,v2_),(6,sn),(7,v3),(8,ii x2),(9,ii (at_ 0 a1 x2)),(16,ii (min2 (a1.length:Int) (a2.length:Int))),(17,ii x2),(31,.bool x3),(1000000,undef)]∧St no w0 w [.own (.int .u8) 5 v3 x1]) ?_ ?_
  ·refine aH (vm (ii (at_ 0 a1 x2)) (vr (dq z z) (vm (.bool (decide (0≤at_ 0 a1 x2))) ?_)))
   rcases bR (decide (0≤at_ 0 a1 x2))with c2|c2
   ·have E:=iT c2 E
    refine oo c2 z (mv (ii (at_ 0 a1 x2)) z) (oo c2 z (mv v3 z) (oo c2 z (aY bI (ao (H.Gt 0 z)) z) (oo c2 z (aZ z z) (vr (pT (.bool (decide (at_ 0 a1 x2<(x1.length:Int)))) z z c2) (aK ?_)))))
    exact⟨k1,_,_,aI _,E,aD ⟨z,z,z,z,z,z,z,z,z,z,trivial⟩,H⟩
   ·have E:=iF c2 E
    refine ow c2 z (ow c2 z (ow c2 z (ow c2 z (vr (pF (.bool false) z z c2) (aK ?_)))))
    exact⟨k1,_,_,aI _,E,aD ⟨z,z,z,z,z,z,z,z,z,z,trivial⟩,H⟩
  rintro t w ⟨k2,x3,t2,hk2,E,rfl,H⟩
  unfold fD.j0 at E
  refine aE E z (fun c3 E=>?_) (fun c3 E=>?_)
  ·cases E
  ·refine aA (aR (ab (aH (vr (aO z z) (vm (ii (i64.wrap (x2+1))) (aK ?_))))))
   exact⟨k2,by omega,_,_,by omega,E,aD ⟨z,z,z,z,z,z,z,trivial⟩,H⟩
 ·refine bt (aM (aM (bu (ab (rg (vm v3 (va v3 (nl (aj ?_)))))))))
  cases E
  exact⟨.inl z,_,tk0 z ⟨aB z (ad ai),_,z,H.bA 0 z⟩⟩
end Go.Proofs.YtmhkpafkadijgaaGreatDoor.Gw
