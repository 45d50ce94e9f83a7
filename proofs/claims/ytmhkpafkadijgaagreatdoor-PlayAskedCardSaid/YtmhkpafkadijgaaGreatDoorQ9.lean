/- A part of the proof of Rows.PlayAskedCardSaid; the conditions are that card's own. -/
import Derived.Test.YtmhkpafkadijgaaGreatDoorQ7
import Derived.Test.YtmhkpafkadijgaaGreatDoorQ8
set_option linter.all false
set_option maxRecDepth 100000
set_option maxHeartbeats 4000000
namespace Go.Proofs.YtmhkpafkadijgaaGreatDoor.Gw
open Go Go.RowKit
variable[de]
open Go.IntKind (i8 i16 i32 i64 u8 u16 u32 u64)
open Tryz renaming prog → aa
def jd.f(a1:Int):Option (Int×Bool):=bif decide (a1=0)then(some (0,false))else(an (decide ((0:Int)≤a1∧a1<256)) (some (i64.wrap (at_ 0 gM a1),true)))
theorem jd.calls{w0:World}{t0_:Nat}{m0_:Bool}{a1:Int}{r:Int×Bool}(hf:(Rs.cn t0_ m0_).inv w0)(E:jd.f a1=some r):
 Calls aa 407 #[pt t0_,iu a1] w0 fun e w'=>e= .returned (.tuple #[ii r.1,.bool r.2])∧St (Rs.cn t0_ m0_).fp w0 w' [.cn t0_ true]:=by
 have H:=St.start hf
 unfold jd.f at E
 refine aP (N:=20) (args:=[pt t0_,iu a1]) Tryz.func407 z z (by simp) ?_
 refine rg (va (ii 0) (va (.bool false) (nl (ae (rg (vm (pt t0_) (vr (cV Tryz.underlying179 z z) (nl (bS z (aA (ab (rg (vm (pt t0_) (ye (au vQ z ((xL.calls (H.Gt 0 z)).mono ?_))))))))))))))))
 rintro _ w ⟨rfl,K⟩
 have H:=H.aV 0 z K
 refine⟨_,z,va (.pointer (some ⟨t0_,4,none⟩)) (nl (ae (rg (vm (iu a1) (vr (cg z z) (nl ?_))))))⟩
 refine aE E z (fun c1 E=>?_) (fun c1 E=>?_)
 ·refine rg (va (ii 0) (va (.bool false) (nl (aj ?_))))
  cases E
  exact(aL ⟨.inl z,_,tk0 z ⟨aB z (ad (ad ai)),z,H.bA 0 z⟩⟩)
 ·refine aA (ab (rg (vm (.pointer (some ⟨t0_,4,none⟩)) (vm (iu a1) (vr (bw z) (vr (az JN z) ?_))))))
  obtain⟨⟨g2,g3⟩,E⟩:=ar E
  refine vr (dm JD z z g2 g3) (vr (av rA z (Qf (H.Gt 0 z) g2 g3)) (vr (cD z Tryz.underlying5 Tryz.underlying3) (va (ii (i64.wrap (at_ 0 gM a1))) (va (.bool true) (nl (aj ?_))))))
  cases E
  exact⟨.inl z,_,tk0 z ⟨aB z (ad (ad ai)),z,H.bA 0 z⟩⟩
def lX.f(a1 a2:Int):Option (Int):=(jd.f a1).bind fun x1=>(jd.f a2).bind fun x3=>bif !x1.2 then(some 0)else(bif !x3.2 then(some 0)else(an (decide ((0:Int)≤i64.wrap (x1.1+x3.1)∧i64.wrap (x1.1+x3.1)<510)) (some (at_ 0 eV (i64.wrap (x1.1+x3.1))))))
theorem lX.calls{w0:World}{t0_:Nat}{m0_:Bool}{a1 a2 r:Int}(hf:(Rs.cn t0_ m0_).inv w0)(E:lX.f a1 a2=some r):
 Calls aa 404 #[pt t0_,iu a1,iu a2] w0 fun e w'=>e= .returned (iu r)∧St (Rs.cn t0_ m0_).fp w0 w' [.cn t0_ true]:=by
 have H:=St.start hf
 unfold lX.f at E
 refine aP (N:=38) (args:=[pt t0_,iu a1,iu a2]) Tryz.func404 z z (by simp) ?_
 refine rg (va (iu 0) (nl (rg (vm (pt t0_) (vm (iu a1) ?_)))))
 obtain⟨x1,E2,E⟩:=ay E
 refine ye (au tz z ((jd.calls (H.Gt 0 z) E2).mono ?_))
 rintro _ w ⟨rfl,K⟩
 have H:=H.aV 0 z K
 refine⟨_,z,vr cz (vr (aX z z) (vr (aX z z) (va (ii x1.1) (va (.bool x1.2) (nl (rg (vm (pt t0_) (vm (iu a2) ?_))))))))⟩
 obtain⟨x3,E4,E⟩:=ay E
 refine ye (au tz z ((jd.calls (H.Gt 0 z) E4).mono ?_))
 rintro _ w ⟨rfl,K⟩
 have H:=H.aV 0 z K
 refine⟨_,z,vr cz (vr (aX z z) (vr (aX z z) (va (ii x3.1) (va (.bool x3.2) (nl (ae (rg (vm (.bool x1.2) (vr (cp z) (vm (.bool (!x1.2)) ?_))))))))))⟩
 rcases bR (!x1.2)with c7|c7
 ·have E:=iT c7 E
  refine ow c7 z (ow c7 z (vr (pT (.bool true) z z c7) (nl (cl z (rg (va (iu 0) (nl (aj ?_))))))))
  cases E
  exact(aL ⟨.inl z,_,tk0 z ⟨aB z (ad ai),z,H.bA 0 z⟩⟩)
 ·have E:=iF c7 E
  refine oo c7 z (mv (.bool x3.2) z) (oo c7 z (cp z) (vr (pF (.bool (!x3.2)) z z c7) (nl ?_)))
  refine aE E z (fun c8 E=>?_) (fun c8 E=>?_)
  ·refine rg (va (iu 0) (nl (aj ?_)))
   cases E
   exact(aL ⟨.inl z,_,tk0 z ⟨aB z (ad ai),z,H.bA 0 z⟩⟩)
  ·refine aA (ab (rg (vm (pt t0_) (ye (au vQ z ((xL.calls (H.Gt 0 z)).mono ?_))))))
   rintro _ w ⟨rfl,K⟩
   have H:=H.aV 0 z K
   refine⟨_,z,vm (ii x1.1) (vm (ii x3.1) (vr (aO z z) (vr (bw z) (vr (az A5 z) ?_))))⟩
   obtain⟨⟨g9,g1⟩,E⟩:=ar E
   refine vr (dm AZ z z g9 g1) (vr (av rA z (Dv (H.Gt 0 z) g9 g1)) (va (iu (at_ 0 eV (i64.wrap (x1.1+x3.1)))) (nl (aj ?_))))
   cases E
   exact⟨.inl z,_,tk0 z ⟨aB z (ad ai),z,H.bA 0 z⟩⟩
def kE.f(a0:Int):Option (Int):=bif decide (Int.tmod a0 255<0)then(some (i64.wrap (Int.tmod a0 255+255)))else(some (Int.tmod a0 255))
theorem kE.calls{w0:World}{a0 r:Int}(E:kE.f a0=some r):
 Calls aa 410 #[ii a0] w0 fun e w'=>e= .returned (ii r)∧St no w0 w' []:=by
 have H:=St.nil no w0
 unfold kE.f at E
 refine aP (N:=10) (args:=[ii a0]) Tryz.func410 z z (by simp) ?_
 refine rg (va (ii 0) (nl (ae (rg (vm (ii a0) (vr (fg z z (by decide)) (va (ii (Int.tmod a0 255)) (nl (rg (vm (ii (Int.tmod a0 255)) (vr (aZ z z) (nl ?_))))))))))))
 refine aE E z (fun c1 E=>?_) (fun c1 E=>?_)
 ·refine aH (vm (ii (Int.tmod a0 255)) (vr (aO z z) (va (ii (i64.wrap (Int.tmod a0 255+255))) (nl (rg (vm (ii (i64.wrap (Int.tmod a0 255+255))) (va (ii (i64.wrap (Int.tmod a0 255+255))) (nl (aj ?_)))))))))
  cases E
  exact⟨.inl z,_,tk0 z ⟨aB z (ad ai),z,H.bs⟩⟩
 ·refine aA (ab (rg (vm (ii (Int.tmod a0 255)) (va (ii (Int.tmod a0 255)) (nl (aj ?_))))))
  cases E
  exact⟨.inl z,_,tk0 z ⟨aB z (ad ai),z,H.bs⟩⟩
def lW.f(a1:Int):Option (Int):=(kE.f a1).bind fun x5=>an (decide ((0:Int)≤x5∧x5<510)) (some (at_ 0 eV x5))
theorem lW.calls{w0:World}{t0_:Nat}{m0_:Bool}{a1 r:Int}(hf:(Rs.cn t0_ m0_).inv w0)(E:lW.f a1=some r):
 Calls aa 408 #[pt t0_,ii a1] w0 fun e w'=>e= .returned (iu r)∧St (Rs.cn t0_ m0_).fp w0 w' [.cn t0_ true]:=by
 have H:=St.start hf
 unfold lW.f at E
 refine aP (N:=15) (args:=[pt t0_,ii a1]) Tryz.func408 z z (by simp) ?_
 refine rg (va (iu 0) (nl (ae (rg (vm (pt t0_) (vr (cV Tryz.underlying179 z z) (nl (bS z (aA (ab (ae (eZ (ds:=[]) (fun w=>∃m':Bool,St (Rs.cn t0_ m0_).fp w0 w [.cn t0_ m']) tA H z z ?_))))))))))))
 have H:=H.drew
 refine wm 0 z ⟨_,H⟩ (pt t0_) (wm 2 z ⟨_,H⟩ (ii a1) (wo 1 z (au vQ z ((xL.calls (H.Gt 0 z)).mono ?_))))
 rintro _ w ⟨rfl,K⟩
 have H:=H.aV 0 z K
 refine⟨_,z,⟨fun _=>⟨_,H.ag [0] z z⟩,wg 4 z ⟨_,H.ag [0] z z⟩ (bw z) (wg 5 z ⟨_,H.ag [0] z z⟩ (az A5 z) ?_)⟩⟩
 obtain⟨x5,E6,E⟩:=ay E
 refine wo 3 z (au A4 z ((kE.calls E6).mono ?_))
 rintro _ w ⟨rfl,K⟩
 have H:=H.app K
 refine⟨_,z,⟨fun _=>⟨_,H.ag [0] z z⟩,?_⟩⟩
 obtain⟨⟨g7,g8⟩,E⟩:=ar E
 refine wg 6 z ⟨_,H.ag [0] z z⟩ (dm AZ z z g7 g8) (wy 7 z (⟨_,H.ag [0] z z⟩) (av rA z (Dv (H.Gt 0 z) g7 g8)) (wg 8 z ⟨_,H.ag [0] z z⟩ (sg (iu (at_ 0 eV x5)) z) (wd (ab (aj ?_)))))
 cases E
 exact⟨.inl z,_,tk0 z ⟨aB z (ad ai),z,H.bA 0 z⟩⟩
def oH.f(a1:Int):Option (Int×Bool):=(jd.f a1).bind fun x1=>bif !x1.2 then(some (0,false))else((lW.f (i64.wrap (-x1.1))).bind fun x5=>some (x5,true))
theorem oH.calls{w0:World}{t0_:Nat}{m0_:Bool}{a1:Int}{r:Int×Bool}(hf:(Rs.cn t0_ m0_).inv w0)(E:oH.f a1=some r):
 Calls aa 403 #[pt t0_,iu a1] w0 fun e w'=>e= .returned (.tuple #[iu r.1,.bool r.2])∧St (Rs.cn t0_ m0_).fp w0 w' [.cn t0_ true]:=by
 have H:=St.start hf
 unfold oH.f at E
 refine aP (N:=20) (args:=[pt t0_,iu a1]) Tryz.func403 z z (by simp) ?_
 refine rg (va (iu 0) (va (.bool false) (nl (rg (vm (pt t0_) (vm (iu a1) ?_))))))
 obtain⟨x1,E2,E⟩:=ay E
 refine ye (au tz z ((jd.calls (H.Gt 0 z) E2).mono ?_))
 rintro _ w ⟨rfl,K⟩
 have H:=H.aV 0 z K
 refine⟨_,z,vr cz (vr (aX z z) (vr (aX z z) (va (ii x1.1) (va (.bool x1.2) (nl (ae (rg (vm (.bool x1.2) (vr (cp z) (nl ?_))))))))))⟩
 refine aE E z (fun c4 E=>?_) (fun c4 E=>?_)
 ·refine rg (va (iu 0) (va (.bool false) (nl (aj ?_))))
  cases E
  exact(aL ⟨.inl z,_,tk0 z ⟨aB z (ad (ad ai)),z,H.bA 0 z⟩⟩)
 ·refine aA (ab (rg (vm (pt t0_) (vm (ii x1.1) (vr (um z) ?_)))))
  obtain⟨x5,E6,E⟩:=ay E
  refine ye (au A3 z ((lW.calls (H.Gt 0 z) E6).mono ?_))
  rintro _ w ⟨rfl,K⟩
  have H:=H.aV 0 z K
  refine⟨_,z,va (iu x5) (va (.bool true) (nl (aj ?_)))⟩
  cases E
  exact⟨.inl z,_,tk0 z ⟨aB z (ad (ad ai)),z,H.bA 0 z⟩⟩
def jv.j0(a2:Int)(x1:Int×Bool):Option (Int):=(kE.f a2).bind fun x2=>(lW.f (i64.wrap (x1.1*x2))).bind fun x3=>some x3
def jv.f(a1 a2:Int):Option (Int):=(jd.f a1).bind fun x1=>bif !x1.2 then(bif !decide (a2=0)then(some 0)else(bif decide (a2=0)then(some 1)else(jv.j0 a2 x1)))else(bif decide (a2=0)then(some 1)else(jv.j0 a2 x1))
theorem jv.calls{w0:World}{t0_:Nat}{m0_:Bool}{a1 a2 r:Int}(hf:(Rs.cn t0_ m0_).inv w0)(E:jv.f a1 a2=some r):
 Calls aa 405 #[pt t0_,iu a1,ii a2] w0 fun e w'=>e= .returned (iu r)∧St (Rs.cn t0_ m0_).fp w0 w' [.cn t0_ true]:=by
 have H:=St.start hf
 unfold jv.f at E
 refine aP (N:=35) (args:=[pt t0_,iu a1,ii a2]) Tryz.func405 z z (by simp) ?_
 obtain⟨k,_⟩:∃k:Nat,k=0:=⟨0,rfl⟩
 refine rg (va (iu 0) (nl (rg (vm (pt t0_) (vm (iu a1) ?_)))))
 obtain⟨x1,E2,E⟩:=ay E
 refine ye (au tz z ((jd.calls (H.Gt 0 z) E2).mono ?_))
 rintro _ w ⟨rfl,K⟩
 have H:=H.aV 0 z K
 refine⟨_,z,vr cz (vr (aX z z) (vr (aX z z) (va (ii x1.1) (va (.bool x1.2) (nl ?_)))))⟩
 refine cA (fun t w=>∃(k8:Nat)(t7:Fr),k8≤k∧jv.j0 a2 x1=some r∧t=aU t7 [(0,pt t0_),(2,ii a2),(6,iu 0),(7,ii x1.1),(1000000,undef)]∧St (Rs.cn t0_ m0_).fp w0 w [.cn t0_ true]) ?_ ?_
 ·refine aG (rg (vm (pt t0_) (vr (cV Tryz.underlying179 z z) (vm (.bool false) (oo z z (mv (.bool x1.2) z) (oo z z (cp z) (oo z z (mv (.bool (!x1.2)) z) ?_)))))))
  rcases bR (!x1.2)with c1|c1
  ·have E:=iT c1 E
   refine oo c1 z (mv (ii a2) z) (oo c1 z (cx z z) (oo z z (pT (.bool (!decide (a2=0))) z z c1) (vr (pF (.bool (!decide (a2=0))) z z z) (va (.bool (!decide (a2=0))) (nl ?_)))))
   refine aE E z (fun c2 E=>?_) (fun c2 E=>?_)
   ·refine rg (va (iu 0) (nl (aj ?_)))
    cases E
    exact(bG (aL ⟨.inl z,_,tk0 z ⟨aB z (ad ai),z,H.bA 0 z⟩⟩))
   ·refine rg (vm (ii a2) (vr (cg z z) (va (.bool (decide (a2=0))) (nl ?_))))
    refine aE E z (fun c3 E=>?_) (fun c3 E=>?_)
    ·refine rg (va (iu 1) (nl (aj ?_)))
     cases E
     exact(bG (aL ⟨.inl z,_,tk0 z ⟨aB z (ad ai),z,H.bA 0 z⟩⟩))
    ·refine aA (aR ?_)
     exact⟨k,_,aI _,E,aD ⟨z,z,z,z,z,trivial⟩,H⟩
  ·have E:=iF c1 E
   refine ow c1 z (ow c1 z (oo z z (pF (.bool false) z z c1) (vr (pF (.bool false) z z z) (va (.bool false) (nl (bS z (rg (vm (ii a2) (vr (cg z z) (va (.bool (decide (a2=0))) (nl ?_)))))))))))
   refine aE E z (fun c4 E=>?_) (fun c4 E=>?_)
   ·refine rg (va (iu 1) (nl (aj ?_)))
    cases E
    exact(bG (aL ⟨.inl z,_,tk0 z ⟨aB z (ad ai),z,H.bA 0 z⟩⟩))
   ·refine aA (aR ?_)
    exact⟨k,_,aI _,E,aD ⟨z,z,z,z,z,trivial⟩,H⟩
 rintro t w ⟨k8,t7,hk9,E,rfl,H⟩
 unfold jv.j0 at E
 refine rg (vm (pt t0_) (vm (ii x1.1) (vm (ii a2) ?_)))
 obtain⟨x2,E1,E⟩:=ay E
 refine ye (au A4 z ((kE.calls E1).mono ?_))
 rintro _ w ⟨rfl,K⟩
 have H:=H.app K
 refine⟨_,z,(vr (cF z z) ?_)⟩
 obtain⟨x3,E3,E⟩:=ay E
 refine ye (au A3 z ((lW.calls (H.Gt 0 z) E3).mono ?_))
 rintro _ w ⟨rfl,K⟩
 have H:=H.aV 0 z K
 refine⟨_,z,va (iu x3) (nl (aj ?_))⟩
 cases E
 exact⟨.inl z,_,tk0 z ⟨aB z (ad ai),z,H.bA 0 z⟩⟩
def iM.l0:Nat→List Int→List Int→List (Int)→Int→Option (List Int)
 |0,_,_,_,_=>none
 |k+1,a1,a2,l1,x1=>bif decide (x1<(a1.length:Int))then(an (decide ((0:Int)≤x1∧x1<(a1.length:Int))) (an (decide ((0:Int)≤x1∧x1<(a2.length:Int))) ((lX.f (at_ 0 a1 x1) (at_ 0 a2 x1)).bind fun x2=>an (decide ((0:Int)≤x1∧x1<(l1.length:Int))) (iM.l0 k a1 a2 (l1.set x1.toNat x2) (i64.wrap (x1+1))))))else(some l1)
def iM.f(k:Nat)(a1 a2:List Int):Option (List Int):=an (decide ((0:Int)≤(a1.length:Int)∧(a1.length:Int)≤(a1.length:Int)∧(a1.length:Int)≤140737488355328)) (iM.l0 k a1 a2 (List.replicate (a1.length:Int).toNat (0:Int)) 0)
theorem iM.calls{w0:World}{k t0_:Nat}{m0_:Bool}{a1 a2:List Int}{v1_ v2_:Value}{r:List Int}(hf:(Rs.cn t0_ m0_).inv w0)(h1:Rd (.of (.int .u8)) w0 (Ol (Rs.cn t0_ m0_).fp w0) v1_ a1)(h2:Rd (.of (.int .u8)) w0 (Ol (Rs.cn t0_ m0_).fp w0) v2_ a2)(E:iM.f k a1 a2=some r):
 Calls aa 417 #[.agg #[pt t0_],v1_,v2_] w0 fun e w'=>∃(m_:Bool)(u0:Value),e= .returned (u0)∧St (Rs.cn t0_ m0_).fp w0 w' [.cn t0_ m_,.own (.int .u8) 5 u0 r]:=by
 have H:=St.start hf
 unfold iM.f at E
 refine aP (N:=13) (args:=[.agg #[pt t0_],v1_,v2_]) Tryz.func417 z z (by simp) ?_
 refine rg (ye (bc (cs:=#[pt t0_]) H z (fun b1 w H=>va sn (nl (rg (vr (az JM z) (vr (av JY z (ak (H.Gt 1 z) z)) (vr (gw [pt t0_] [] z z) (vm v1_ (vm v2_ (ye (cm 32 [.func (.func 404) #[pt t0_] #[],v1_,v2_] JH Tryz.func418 z z z z (rg (va sn (nl (rg (vm v1_ (vr (aY pN (H.rd h1) z) ?_))))))))))))))))))
 obtain⟨⟨g1,g2,g3⟩,E⟩:=ar E
 refine ye (ee (e:=(.int .u8)) (z0:=0) mG z H z z g1 g2 (by omega) (by omega) (fun v1 w H=>va v1 (nl (ae (rg (vm v1_ (vr (aY pN (H.rd h1) z) (vm (ii 0) (nl (aG ?_))))))))))
 refine bx (fun kk t w=>∃(l1:List Int)(x1:Int)(m1:Bool)(t1:Fr),kk≤k∧iM.l0 kk a1 a2 l1 x1=some r∧t=aU t1 [(0,.func (.func 404) #[pt t0_] #[]),(1,v1_),(2,v2_),(6,sn),(7,v1),(13,ii (a1.length:Int)),(14,ii x1),(1000000,undef)]∧St (Rs.cn t0_ m0_).fp w0 w [.cn t0_ m1,.blk b1 #[pt t0_] 182,.own (.int .u8) 5 v1 l1]) k ?_ ?_
 ·exact⟨_,_,_,_,aI _,E,aD ⟨z,z,z,z,z,z,z,z,trivial⟩,H⟩
 rintro kk t w ⟨l1,x1,m1,t1,hk1,E,rfl,H⟩
 obtain⟨k1,rfl⟩|rfl:=ks kk
 rotate_left
 ·cases E
 rw[iM.l0]at E
 refine rg (vr (aZ z z) (nl (ae ?_)))
 refine aE E z (fun c1 E=>?_) (fun c1 E=>?_)
 ·refine aA (ab (ae (aG (rg (vm (ii x1) (va (ii x1) (nl (eZ (ds:=[13]) (fun w=>∃m':Bool,St (Rs.cn t0_ m0_).fp w0 w [.cn t0_ m',.blk b1 #[pt t0_] 182,.own (.int .u8) 5 v1 l1]) tA H z z ?_))))))))
  have H:=H.drew
  refine wm 0 z ⟨_,H⟩ v1 (wm 1 z ⟨_,H⟩ (ii x1) (wm 2 z ⟨_,H⟩ (.func (.func 404) #[pt t0_] #[]) (wm 3 z ⟨_,H⟩ v1_ (wm 4 z ⟨_,H⟩ (ii x1) ?_))))
  obtain⟨⟨g4,g5⟩,E⟩:=ar E
  refine wz 5 z ⟨_,H⟩ (fun w ⟨m',H⟩=>bo mG (H.rd h1) z z g4 g5) (wz 6 z ⟨_,H⟩ (fun w ⟨m',H⟩=>bq rA (H.rd h1) g4 g5 z) (wm 7 z ⟨_,H⟩ v2_ (wm 8 z ⟨_,H⟩ (ii x1) ?_)))
  obtain⟨⟨g6,g7⟩,E⟩:=ar E
  refine wz 9 z ⟨_,H⟩ (fun w ⟨m',H⟩=>bo mG (H.rd h2) z z g6 g7) (wz 10 z ⟨_,H⟩ (fun w ⟨m',H⟩=>bq rA (H.rd h2) g6 g7 z) ?_)
  obtain⟨x2,E1,E⟩:=ay E
  refine wo 11 z (qv z A0 z ((lX.calls (H.Gt 0 z) E1).mono ?_))
  rintro _ w ⟨rfl,K⟩
  have H:=H.aV 0 z K
  refine⟨_,z,⟨fun _=>⟨_,H.ag [0,1,2] z z⟩,?_⟩⟩
  obtain⟨⟨g8,g9⟩,E⟩:=ar E
  refine wz 12 z ⟨_,H.ag [0,1,2] z z⟩ (fun w ⟨m',H⟩=>bo mG (ao (H.Gt 2 z)) z z g8 g9) (wo 13 z (dc JZ H 2 z g8 g9 z z (fun w H=>⟨fun h=>(h (by decide)).elim,wd (aR (ab (aH (vr (aO z z) (vm (ii (i64.wrap (x1+1))) (aK ?_))))))⟩)))
  exact⟨k1,bL _,_,_,_,_,bK hk1,E,aD ⟨z,z,z,z,z,z,z,z,trivial⟩,H⟩
 ·refine bt (aM (aM (bu (ab (rg (vm v1 (va v1 (nl (aj (⟨.inl z,v1,tk0 z ⟨ba z (ad ai) z,va v1 (nl (aj ?_))⟩⟩))))))))))
  cases E
  exact⟨.inl z,_,tk0 z ⟨aB z (ad ai),_,_,z,H.bN 0 2 z z z⟩⟩
def rm.f(a1 a2:Int):Option (Int):=(lX.f a1 a2).bind fun x1=>some x1
theorem rm.calls{w0:World}{F_:FD}{m0_:Bool}{a1 a2 r:Int}(hf:St (Rs.ah F_).fp w0 w0 [.blk F_.p #[.iface 182 (.agg #[pt F_.t]),ii 1] 186,.cn F_.t m0_])(E:rm.f a1 a2=some r):
 Calls aa 232 #[pt F_.p,iu a1,iu a2] w0 fun e w'=>∃(m_:Bool),e= .returned (iu r)∧St (Rs.ah F_).fp w0 w' [.blk F_.p #[.iface 182 (.agg #[pt F_.t]),ii 1] 186,.cn F_.t m_]:=by
 have H:=hf
 unfold rm.f at E
 refine aP (N:=16) (args:=[pt F_.p,iu a1,iu a2]) Tryz.func232 z z (by simp) ?_
 refine rg (va (iu 0) (nl (ae (rg (vm (pt F_.p) (vr (cV Tryz.underlying111 z z) (nl (bS z (aA (ab (rg (vm (pt F_.p) (vr (bw z) (vr (az mE z) (vr (av mF z (ak (H.Gt 0 z) z)) (vm (iu a1) (vm (iu a2) ?_)))))))))))))))))
 obtain⟨x1,E2,E⟩:=ay E
 refine ye (jZ (JP _) A0 z z ((lX.calls (H.Gt 1 z) E2).mono ?_))
 rintro _ w ⟨rfl,K⟩
 have H:=H.aV 1 z K
 refine⟨_,z,va (iu x1) (nl (aj ?_))⟩
 cases E
 exact⟨.inl z,_,tk0 z ⟨aB z (ad ai),_,z,H.bN 0 1 z z z⟩⟩
def rl.f(k:Nat)(a1 a2:Int):Option (Int):=(kP.f k a1 a2).bind fun x1=>some x1
theorem rl.calls{w0:World}{k:Nat}{F_:FD}{a1 a2 r:Int}(hf:St (Rs.ah F_).fp w0 w0 [.blk F_.p #[.iface 187 (.agg #[]),ii 2] 186,.gt])(E:rl.f k a1 a2=some r):
 Calls aa 232 #[pt F_.p,iu a1,iu a2] w0 fun e w'=>e= .returned (iu r)∧St (Rs.ah F_).fp w0 w' [.blk F_.p #[.iface 187 (.agg #[]),ii 2] 186,.gt]:=by
 have H:=hf
 unfold rl.f at E
 refine aP (N:=16) (args:=[pt F_.p,iu a1,iu a2]) Tryz.func232 z z (by simp) ?_
 refine rg (va (iu 0) (nl (ae (rg (vm (pt F_.p) (vr (cV Tryz.underlying111 z z) (nl (bS z (aA (ab (rg (vm (pt F_.p) (vr (bw z) (vr (az mE z) (vr (av mF z (ak (H.Gt 0 z) z)) (vm (iu a1) (vm (iu a2) ?_)))))))))))))))))
 obtain⟨x1,E2,E⟩:=ay E
 refine ye (jZ JU JJ z z ((kP.calls (H.Gt 1 z) E2).mono ?_))
 rintro _ w ⟨rfl,K⟩
 have H:=H.aV 1 z K
 refine⟨_,z,va (iu x1) (nl (aj ?_))⟩
 cases E
 exact⟨.inl z,_,tk0 z ⟨aB z (ad ai),z,H.bN 0 1 z z z⟩⟩
def rh.f(a1:Int):Option (Int×Bool):=(oH.f a1).bind fun x1=>some (x1.1,x1.2)
theorem rh.calls{w0:World}{F_:FD}{m0_:Bool}{a1:Int}{r:Int×Bool}(hf:St (Rs.ah F_).fp w0 w0 [.blk F_.p #[.iface 182 (.agg #[pt F_.t]),ii 1] 186,.cn F_.t m0_])(E:rh.f a1=some r):
 Calls aa 253 #[pt F_.p,iu a1] w0 fun e w'=>∃(m_:Bool),e= .returned (.tuple #[iu r.1,.bool r.2])∧St (Rs.ah F_).fp w0 w' [.blk F_.p #[.iface 182 (.agg #[pt F_.t]),ii 1] 186,.cn F_.t m_]:=by
 have H:=hf
 unfold rh.f at E
 refine aP (N:=16) (args:=[pt F_.p,iu a1]) Tryz.func253 z z (by simp) ?_
 refine rg (va (iu 0) (va (.bool false) (nl (ae (rg (vm (pt F_.p) (vr (cV Tryz.underlying111 z z) (nl (bS z (aA (ab (rg (vm (pt F_.p) (vr (bw z) (vr (az mE z) (vr (av mF z (ak (H.Gt 0 z) z)) (vm (iu a1) ?_)))))))))))))))))
 obtain⟨x1,E2,E⟩:=ay E
 refine ye (jZ (JO _) JE z z ((oH.calls (H.Gt 1 z) E2).mono ?_))
 rintro _ w ⟨rfl,K⟩
 have H:=H.aV 1 z K
 refine⟨_,z,vr (aX z z) (vr (aX z z) (va (iu x1.1) (va (.bool x1.2) (nl (aj ?_)))))⟩
 cases E
 exact⟨.inl z,_,tk0 z ⟨aB z (ad (ad ai)),_,z,H.bN 0 1 z z z⟩⟩
def rf.f(k:Nat)(a1:Int):Option (Int×Bool):=(nL.f k a1).bind fun x1=>some (x1.1,x1.2)
theorem rf.calls{w0:World}{k:Nat}{F_:FD}{a1:Int}{r:Int×Bool}(hf:St (Rs.ah F_).fp w0 w0 [.blk F_.p #[.iface 187 (.agg #[]),ii 2] 186,.gt])(E:rf.f k a1=some r):
 Calls aa 253 #[pt F_.p,iu a1] w0 fun e w'=>e= .returned (.tuple #[iu r.1,.bool r.2])∧St (Rs.ah F_).fp w0 w' [.blk F_.p #[.iface 187 (.agg #[]),ii 2] 186,.gt]:=by
 have H:=hf
 unfold rf.f at E
 refine aP (N:=16) (args:=[pt F_.p,iu a1]) Tryz.func253 z z (by simp) ?_
 refine rg (va (iu 0) (va (.bool false) (nl (ae (rg (vm (pt F_.p) (vr (cV Tryz.underlying111 z z) (nl (bS z (aA (ab (rg (vm (pt F_.p) (vr (bw z) (vr (az mE z) (vr (av mF z (ak (H.Gt 0 z) z)) (vm (iu a1) ?_)))))))))))))))))
 obtain⟨x1,E2,E⟩:=ay E
 refine ye (jZ JS JI z z ((nL.calls (H.Gt 1 z) E2).mono ?_))
 rintro _ w ⟨rfl,K⟩
 have H:=H.aV 1 z K
 refine⟨_,z,vr (aX z z) (vr (aX z z) (va (iu x1.1) (va (.bool x1.2) (nl (aj ?_)))))⟩
 cases E
 exact⟨.inl z,_,tk0 z ⟨aB z (ad (ad ai)),z,H.bN 0 1 z z z⟩⟩
def rr.f(a1 a2:Int):Option (Int):=(jv.f a1 a2).bind fun x1=>some x1
theorem rr.calls{w0:World}{F_:FD}{m0_:Bool}{a1 a2 r:Int}(hf:St (Rs.ah F_).fp w0 w0 [.blk F_.p #[.iface 182 (.agg #[pt F_.t]),ii 1] 186,.cn F_.t m0_])(E:rr.f a1 a2=some r):
 Calls aa 234 #[pt F_.p,iu a1,ii a2] w0 fun e w'=>∃(m_:Bool),e= .returned (iu r)∧St (Rs.ah F_).fp w0 w' [.blk F_.p #[.iface 182 (.agg #[pt F_.t]),ii 1] 186,.cn F_.t m_]:=by
 have H:=hf
 unfold rr.f at E
 refine aP (N:=16) (args:=[pt F_.p,iu a1,ii a2]) Tryz.func234 z z (by simp) ?_
 refine rg (va (iu 0) (nl (ae (rg (vm (pt F_.p) (vr (cV Tryz.underlying111 z z) (nl (bS z (aA (ab (rg (vm (pt F_.p) (vr (bw z) (vr (az mE z) (vr (av mF z (ak (H.Gt 0 z) z)) (vm (iu a1) (vm (ii a2) ?_)))))))))))))))))
 obtain⟨x1,E2,E⟩:=ay E
 refine ye (jZ (JQ _) JF z z ((jv.calls (H.Gt 1 z) E2).mono ?_))
 rintro _ w ⟨rfl,K⟩
 have H:=H.aV 1 z K
 refine⟨_,z,va (iu x1) (nl (aj ?_))⟩
 cases E
 exact⟨.inl z,_,tk0 z ⟨aB z (ad ai),_,z,H.bN 0 1 z z z⟩⟩
def rq.f(k:Nat)(a1 a2:Int):Option (Int):=(nM.f k a1 a2).bind fun x1=>some x1
theorem rq.calls{w0:World}{k:Nat}{F_:FD}{a1 a2 r:Int}(hf:St (Rs.ah F_).fp w0 w0 [.blk F_.p #[.iface 187 (.agg #[]),ii 2] 186,.gt])(E:rq.f k a1 a2=some r):
 Calls aa 234 #[pt F_.p,iu a1,ii a2] w0 fun e w'=>e= .returned (iu r)∧St (Rs.ah F_).fp w0 w' [.blk F_.p #[.iface 187 (.agg #[]),ii 2] 186,.gt]:=by
 have H:=hf
 unfold rq.f at E
 refine aP (N:=16) (args:=[pt F_.p,iu a1,ii a2]) Tryz.func234 z z (by simp) ?_
 refine rg (va (iu 0) (nl (ae (rg (vm (pt F_.p) (vr (cV Tryz.underlying111 z z) (nl (bS z (aA (ab (rg (vm (pt F_.p) (vr (bw z) (vr (az mE z) (vr (av mF z (ak (H.Gt 0 z) z)) (vm (iu a1) (vm (ii a2) ?_)))))))))))))))))
 obtain⟨x1,E2,E⟩:=ay E
 refine ye (jZ JV JK z z ((nM.calls (H.Gt 1 z) E2).mono ?_))
 rintro _ w ⟨rfl,K⟩
 have H:=H.aV 1 z K
 refine⟨_,z,va (iu x1) (nl (aj ?_))⟩
 cases E
 exact⟨.inl z,_,tk0 z ⟨aB z (ad ai),z,H.bN 0 1 z z z⟩⟩
def pG.f(k:Nat)(a1 a2:List Int):Option (List Int):=bif decide (min2 (a1.length:Int) (a2.length:Int)=0)then(some ([]:List Int))else(an (decide ((0:Int)≤min2 (a1.length:Int) (a2.length:Int)∧min2 (a1.length:Int) (a2.length:Int)≤(a1.length:Int))) (an (decide ((0:Int)≤min2 (a1.length:Int) (a2.length:Int)∧min2 (a1.length:Int) (a2.length:Int)≤(a2.length:Int))) ((iM.f k ((a1.take ((min2 (a1.length:Int) (a2.length:Int)).toNat)).drop 0) ((a2.take ((min2 (a1.length:Int) (a2.length:Int)).toNat)).drop 0)).bind fun x1=>some x1)))
theorem pG.calls{w0:World}{k:Nat}{F_:FD}{m0_:Bool}{a1 a2:List Int}{v1_ v2_:Value}{r:List Int}(hf:St (Rs.ah F_).fp w0 w0 [.blk F_.p #[.iface 182 (.agg #[pt F_.t]),ii 1] 186,.cn F_.t m0_])(h1:Rd (.of (.int .u8)) w0 (Ol (Rs.ah F_).fp w0) v1_ a1)(h2:Rd (.of (.int .u8)) w0 (Ol (Rs.ah F_).fp w0) v2_ a2)(E:pG.f k a1 a2=some r):
 Calls aa 280 #[pt F_.p,v1_,v2_] w0 fun e w'=>∃(m_:Bool)(u0:Value),e= .returned (u0)∧St (Rs.ah F_).fp w0 w' [.blk F_.p #[.iface 182 (.agg #[pt F_.t]),ii 1] 186,.cn F_.t m_,.own (.int .u8) 5 u0 r]:=by
 have H:=hf
 unfold pG.f at E
 refine aP (N:=32) (args:=[pt F_.p,v1_,v2_]) Tryz.func280 z z (by simp) ?_
 refine rg (va sn (nl (rg (vm v1_ (vr (aY pN (H.rd h1) z) (vm v2_ (vr (aY pN (H.rd h2) z) (vr (kA z z) (va (ii (min2 (a1.length:Int) (a2.length:Int))) (nl (ae (rg (vm (pt F_.p) (vr (cV Tryz.underlying111 z z) (vm (.bool false) (oo z z (mv (ii (min2 (a1.length:Int) (a2.length:Int))) z) (oo z z (cg z z) (vr (pF (.bool (decide (min2 (a1.length:Int) (a2.length:Int)=0))) z z z) (nl ?_)))))))))))))))))))
 refine aE E z (fun c2 E=>?_) (fun c2 E=>?_)
 ·refine rg (va sn (nl (aj ?_)))
  have H:=H.bB (.int .u8) 5
  cases E
  exact(aL ⟨.inl z,_,tk0 z ⟨aB z (ad ai),_,_,z,H.fJ 0 1 2 z z z z z z⟩⟩)
 ·refine aA (ab (ae (eZ (ds:=[]) (fun w=>∃m':Bool,St (Rs.ah F_).fp w0 w [.blk F_.p #[.iface 182 (.agg #[pt F_.t]),ii 1] 186,.cn F_.t m']) tA H z z ?_)))
  have H:=H.drew
  refine wm 0 z ⟨_,H⟩ (pt F_.p) (wg 1 z ⟨_,H⟩ (bw z) (wg 2 z ⟨_,H⟩ (az mE z) (wz 3 z ⟨_,H⟩ (fun w ⟨m',H⟩=>av mF z (ak (H.Gt 0 z) z)) (wm 4 z ⟨_,H⟩ v1_ (wm 5 z ⟨_,H⟩ (ii (min2 (a1.length:Int) (a2.length:Int))) ?_)))))
  obtain⟨⟨g1,g2⟩,E⟩:=ar E
  have p1:0≤(min2 (a1.length:Int) (a2.length:Int)).toNat:=by omega
  have p2:(min2 (a1.length:Int) (a2.length:Int)).toNat≤a1.length:=by omega
  refine wz 6 z ⟨_,H⟩ (fun w ⟨m',H⟩=>fU mG (H.rd h1) z z g1 g2) (wm 7 z ⟨_,H⟩ v2_ (wm 8 z ⟨_,H⟩ (ii (min2 (a1.length:Int) (a2.length:Int))) ?_))
  obtain⟨⟨g3,g4⟩,E⟩:=ar E
  have p3:0≤(min2 (a1.length:Int) (a2.length:Int)).toNat:=by omega
  have p4:(min2 (a1.length:Int) (a2.length:Int)).toNat≤a2.length:=by omega
  refine wz 9 z ⟨_,H⟩ (fun w ⟨m',H⟩=>fU mG (H.rd h2) z z g3 g4) (wg 10 z ⟨_,H⟩ (xi z) (wm 11 z ⟨_,H⟩ (.iface 182 (.agg #[pt F_.t])) ?_))
  obtain⟨x1,E1,E⟩:=ay E
  refine wo 12 z (jZ (JR _) JG z z ((iM.calls (H.Gt 1 z) (H.cj 1 z (Rd.bz (H.rd h1) p1 p2)) (H.cj 1 z (Rd.bz (H.rd h2) p3 p4)) E1).mono ?_))
  rintro _ w ⟨m1,v1,rfl,K⟩
  have H:=H.aV 1 z K
  refine⟨_,z,⟨fun _=>⟨_,H.ag [0,1] z z⟩,wy 13 z (⟨_,H.ag [0,1] z z⟩) (sg v1 z) (wd (ab (aj ?_)))⟩⟩
  cases E
  exact⟨.inl z,_,tk0 z ⟨aB z (ad ai),_,_,z,H.fJ 0 1 2 z z z z z z⟩⟩
def pE.f(k:Nat)(a1 a2:List Int):Option (List Int):=bif decide (min2 (a1.length:Int) (a2.length:Int)=0)then(some ([]:List Int))else(an (decide ((0:Int)≤min2 (a1.length:Int) (a2.length:Int)∧min2 (a1.length:Int) (a2.length:Int)≤(a1.length:Int))) (an (decide ((0:Int)≤min2 (a1.length:Int) (a2.length:Int)∧min2 (a1.length:Int) (a2.length:Int)≤(a2.length:Int))) ((iL.f k ((a1.take ((min2 (a1.length:Int) (a2.length:Int)).toNat)).drop 0) ((a2.take ((min2 (a1.length:Int) (a2.length:Int)).toNat)).drop 0)).bind fun x1=>some x1)))
theorem pE.calls{w0:World}{k:Nat}{F_:FD}{a1 a2:List Int}{v1_ v2_:Value}{r:List Int}(hf:St (Rs.ah F_).fp w0 w0 [.blk F_.p #[.iface 187 (.agg #[]),ii 2] 186,.gt])(h1:Rd (.of (.int .u8)) w0 (Ol (Rs.ah F_).fp w0) v1_ a1)(h2:Rd (.of (.int .u8)) w0 (Ol (Rs.ah F_).fp w0) v2_ a2)(E:pE.f k a1 a2=some r):
 Calls aa 280 #[pt F_.p,v1_,v2_] w0 fun e w'=>∃(u0:Value),e= .returned (u0)∧St (Rs.ah F_).fp w0 w' [.blk F_.p #[.iface 187 (.agg #[]),ii 2] 186,.gt,.own (.int .u8) 5 u0 r]:=by
 have H:=hf
 unfold pE.f at E
 refine aP (N:=32) (args:=[pt F_.p,v1_,v2_]) Tryz.func280 z z (by simp) ?_
 refine rg (va sn (nl (rg (vm v1_ (vr (aY pN (H.rd h1) z) (vm v2_ (vr (aY pN (H.rd h2) z) (vr (kA z z) (va (ii (min2 (a1.length:Int) (a2.length:Int))) (nl (ae (rg (vm (pt F_.p) (vr (cV Tryz.underlying111 z z) (vm (.bool false) (oo z z (mv (ii (min2 (a1.length:Int) (a2.length:Int))) z) (oo z z (cg z z) (vr (pF (.bool (decide (min2 (a1.length:Int) (a2.length:Int)=0))) z z z) (nl ?_)))))))))))))))))))
 refine aE E z (fun c2 E=>?_) (fun c2 E=>?_)
 ·refine rg (va sn (nl (aj ?_)))
  have H:=H.bB (.int .u8) 5
  cases E
  exact(aL ⟨.inl z,_,tk0 z ⟨aB z (ad ai),_,z,H.fJ 0 1 2 z z z z z z⟩⟩)
 ·refine aA (ab (ae (cd (ds:=[]) tA H z z ?_)))
  have H:=H.drew
  refine wm 0 z H (pt F_.p) (wg 1 z H (bw z) (wg 2 z H (az mE z) (wz 3 z H (fun w H=>av mF z (ak (H.Gt 0 z) z)) (wm 4 z H v1_ (wm 5 z H (ii (min2 (a1.length:Int) (a2.length:Int))) ?_)))))
  obtain⟨⟨g3,g4⟩,E⟩:=ar E
  have p6:0≤(min2 (a1.length:Int) (a2.length:Int)).toNat:=by omega
  have p7:(min2 (a1.length:Int) (a2.length:Int)).toNat≤a1.length:=by omega
  refine wz 6 z H (fun w H=>fU mG (H.rd h1) z z g3 g4) (wm 7 z H v2_ (wm 8 z H (ii (min2 (a1.length:Int) (a2.length:Int))) ?_))
  obtain⟨⟨g8,g9⟩,E⟩:=ar E
  have p1:0≤(min2 (a1.length:Int) (a2.length:Int)).toNat:=by omega
  have p2:(min2 (a1.length:Int) (a2.length:Int)).toNat≤a2.length:=by omega
  refine wz 9 z H (fun w H=>fU mG (H.rd h2) z z g8 g9) (wg 10 z H (xi z) (wm 11 z H (.iface 187 (.agg #[])) ?_))
  obtain⟨x1,E1,E⟩:=ay E
  refine wo 12 z (jZ JX JL z z ((iL.calls (H.Gt 1 z) (H.cj 1 z (Rd.bz (H.rd h1) p6 p7)) (H.cj 1 z (Rd.bz (H.rd h2) p1 p2)) E1).mono ?_))
  rintro _ w ⟨v1,rfl,K⟩
  have H:=H.aV 1 z K
  refine⟨_,z,⟨fun _=>H.ag [0,1] z z,wy 13 z (H.ag [0,1] z z) (sg v1 z) (wd (ab (aj ?_)))⟩⟩
  cases E
  exact⟨.inl z,_,tk0 z ⟨aB z (ad ai),_,z,H.fJ 0 1 2 z z z z z z⟩⟩
end Go.Proofs.YtmhkpafkadijgaaGreatDoor.Gw
