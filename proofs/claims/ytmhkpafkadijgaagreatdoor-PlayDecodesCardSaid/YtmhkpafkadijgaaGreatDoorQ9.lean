/- A part of the proof of Rows.PlayDecodesCardSaid; the conditions are that card's own. -/
import Derived.Test.YtmhkpafkadijgaaGreatDoorQ7
import Derived.Test.YtmhkpafkadijgaaGreatDoorQ8
set_option linter.all false
set_option maxRecDepth 100000
set_option maxHeartbeats 4000000
namespace Go.Proofs.YtmhkpafkadijgaaGreatDoor.Gw
open Go.IntKind renaming wrap→I,i64→W
open Go Go.RowKit
variable[de]
open Go.IntKind (i8 i16 i32 i64 u8 u16 u32 u64)
open Tryz hiding prog
open Tryz renaming prog → aa
variable{w0:World}{F_:FD}{k:Nat}{v1_ v2_:Value}
def jd.f(a1:Int):Option (Int×Bool):=bif decide (a1=0)then(some (0,false))else(an (decide ((0:Int)≤a1∧a1<256)) (some (I W (at_ 0 gM a1),true)))
theorem jd.calls{t0_:Nat}{m0_:Bool}{a1:Int}{r:Int×Bool}(hf:(Rs.cn t0_ m0_).inv w0)(E:jd.f a1=some r):
 Calls aa 407 #[pt t0_,iu a1] w0 fun e w'=>e= .returned (.tuple #[ii r.1,.bool r.2])∧St (Rs.cn t0_ m0_).fp w0 w' [.cn t0_ true]:=by
 have H:=St.start hf
 unfold jd.f at E
 refine Zb func407 ?_
 refine A_ ?_
 refine ye (au vQ z ((xL.calls (H.Gt 0 z)).mono ?_))
 rintro _ w ⟨rfl,K⟩
 have H:=H.aV 0 z K
 refine⟨_,z,A_ ?_⟩
 refine aE E z ?_ ?_<;>intro c1 E<;>refine A_ ?_
 ·cases E
  exact(aL ⟨.inl z,_,tk0 z ⟨aB z (ad (ad ai)),z,H.bA 0 z⟩⟩)
 obtain⟨⟨g2,g3⟩,E⟩:=ar E
 refine vr (dm JD z z g2 g3) (vr (av rA z (Qf (H.Gt 0 z) g2 g3)) (A_ ?_))
 cases E
 exact⟨.inl z,_,tk0 z ⟨aB z (ad (ad ai)),z,H.bA 0 z⟩⟩
def lX.f(a1 a2:Int):Option (Int):=(jd.f a1).bind fun x1=>(jd.f a2).bind fun x3=>bif !x1.2 then(some 0)else(bif !x3.2 then(some 0)else(an (decide ((0:Int)≤I W (x1.1+x3.1)∧I W (x1.1+x3.1)<510)) (some (at_ 0 eV (I W (x1.1+x3.1))))))
theorem lX.calls{t0_:Nat}{m0_:Bool}{a1 a2 r:Int}(hf:(Rs.cn t0_ m0_).inv w0)(E:lX.f a1 a2=some r):
 Calls aa 404 #[pt t0_,iu a1,iu a2] w0 fun e w'=>e= .returned (iu r)∧St (Rs.cn t0_ m0_).fp w0 w' [.cn t0_ true]:=by
 have H:=St.start hf
 unfold lX.f at E
 refine Zb func404 ?_
 refine A_ ?_
 refine ye (YL tz H 0 E z (fun _=>jd.calls (H.Gt 0 z)) (fun x1 E w H=>A_ ?_))
 refine ye (YL tz H 0 E z (fun _=>jd.calls (H.Gt 0 z)) (fun x3 E w H=>A_ ?_))
 rcases bR (!x1.2)with c7|c7
 ·have E:=iT c7 E
  refine A_ ?_
  cases E
  exact(aL ⟨.inl z,_,tk0 z ⟨aB z (ad ai),z,H.bA 0 z⟩⟩)
 have E:=iF c7 E
 refine A_ ?_
 refine aE E z ?_ ?_<;>intro c8 E<;>refine A_ ?_
 ·cases E
  exact(aL ⟨.inl z,_,tk0 z ⟨aB z (ad ai),z,H.bA 0 z⟩⟩)
 refine ye (au vQ z ((xL.calls (H.Gt 0 z)).mono ?_))
 rintro _ w ⟨rfl,K⟩
 have H:=H.aV 0 z K
 refine⟨_,z,A_ ?_⟩
 obtain⟨⟨g9,g1⟩,E⟩:=ar E
 refine vr (dm AZ z z g9 g1) (vr (av rA z (Dv (H.Gt 0 z) g9 g1)) (A_ ?_))
 cases E
 exact⟨.inl z,_,tk0 z ⟨aB z (ad ai),z,H.bA 0 z⟩⟩
def kE.f(a0:Int):Option (Int):=bif decide (Int.tmod a0 255<0)then(some (I W (Int.tmod a0 255+255)))else(some (Int.tmod a0 255))
theorem kE.calls{a0 r:Int}(E:kE.f a0=some r):
 Calls aa 410 #[ii a0] w0 fun e w'=>e= .returned (ii r)∧St no w0 w' []:=by
 have H:=St.nil no w0
 unfold kE.f at E
 refine Zb func410 ?_
 refine A_ ?_
 refine aE E z ?_ ?_<;>intro c1 E<;>refine A_ ?_
 ·cases E
  exact⟨.inl z,_,tk0 z ⟨aB z (ad ai),z,H.bs⟩⟩
 cases E
 exact⟨.inl z,_,tk0 z ⟨aB z (ad ai),z,H.bs⟩⟩
def lW.f(a1:Int):Option (Int):=(kE.f a1).bind fun x5=>an (decide ((0:Int)≤x5∧x5<510)) (some (at_ 0 eV x5))
theorem lW.calls{t0_:Nat}{m0_:Bool}{a1 r:Int}(hf:(Rs.cn t0_ m0_).inv w0)(E:lW.f a1=some r):
 Calls aa 408 #[pt t0_,ii a1] w0 fun e w'=>e= .returned (iu r)∧St (Rs.cn t0_ m0_).fp w0 w' [.cn t0_ true]:=by
 have H:=St.start hf
 unfold lW.f at E
 refine Zb func408 ?_
 refine A_ ?_
 refine eZ (ds:=[]) (fun w=>∃m':Bool,St (Rs.cn t0_ m0_).fp w0 w [.cn t0_ m']) tA H z z ?_
 have H:=H.drew
 refine B_ [0,2] ⟨_,H⟩ ?_
 refine wo 1 z (au vQ z ((xL.calls (H.Gt 0 z)).mono ?_))
 rintro _ w ⟨rfl,K⟩
 have H:=H.aV 0 z K
 refine⟨_,z,⟨fun _=>⟨_,H.Y8 [0]⟩,B_ [4,5] ⟨_,H.Y8 [0]⟩ ?_⟩⟩
 refine wo 3 z (E9 A4 H E (fun _=>kE.calls) (fun x5 E w H=>⟨fun _=>⟨_,H.Y8 [0]⟩,?_⟩))
 obtain⟨⟨g7,g8⟩,E⟩:=ar E
 refine wg 6 z ⟨_,H.Y8 [0]⟩ (dm AZ z z g7 g8) (wy 7 z (⟨_,H.Y8 [0]⟩) (av rA z (Dv (H.Gt 0 z) g7 g8)) (B_ [8] ⟨_,H.Y8 [0]⟩ ?_))
 cases E
 exact⟨.inl z,_,tk0 z ⟨aB z (ad ai),z,H.bA 0 z⟩⟩
def oH.f(a1:Int):Option (Int×Bool):=(jd.f a1).bind fun x1=>bif !x1.2 then(some (0,false))else((lW.f (I W (-x1.1))).bind fun x5=>some (x5,true))
theorem oH.calls{t0_:Nat}{m0_:Bool}{a1:Int}{r:Int×Bool}(hf:(Rs.cn t0_ m0_).inv w0)(E:oH.f a1=some r):
 Calls aa 403 #[pt t0_,iu a1] w0 fun e w'=>e= .returned (.tuple #[iu r.1,.bool r.2])∧St (Rs.cn t0_ m0_).fp w0 w' [.cn t0_ true]:=by
 have H:=St.start hf
 unfold oH.f at E
 refine Zb func403 ?_
 refine A_ ?_
 refine ye (YL tz H 0 E z (fun _=>jd.calls (H.Gt 0 z)) (fun x1 E w H=>A_ ?_))
 refine aE E z ?_ ?_<;>intro c4 E<;>refine A_ ?_
 ·cases E
  exact(aL ⟨.inl z,_,tk0 z ⟨aB z (ad (ad ai)),z,H.bA 0 z⟩⟩)
 refine ye (YL A3 H 0 E z (fun _=>lW.calls (H.Gt 0 z)) (fun x5 E w H=>A_ ?_))
 cases E
 exact⟨.inl z,_,tk0 z ⟨aB z (ad (ad ai)),z,H.bA 0 z⟩⟩
def jv.j0(a2:Int)(x1:Int×Bool):Option (Int):=(kE.f a2).bind fun x2=>(lW.f (I W (x1.1*x2))).bind fun x3=>some x3
def jv.f(a1 a2:Int):Option (Int):=(jd.f a1).bind fun x1=>bif !x1.2 then(bif !decide (a2=0)then(some 0)else(bif decide (a2=0)then(some 1)else(jv.j0 a2 x1)))else(bif decide (a2=0)then(some 1)else(jv.j0 a2 x1))
theorem jv.calls{t0_:Nat}{m0_:Bool}{a1 a2 r:Int}(hf:(Rs.cn t0_ m0_).inv w0)(E:jv.f a1 a2=some r):
 Calls aa 405 #[pt t0_,iu a1,ii a2] w0 fun e w'=>e= .returned (iu r)∧St (Rs.cn t0_ m0_).fp w0 w' [.cn t0_ true]:=by
 have H:=St.start hf
 unfold jv.f at E
 refine Zb func405 ?_
 obtain⟨k,_⟩:∃k:Nat,k=0:=⟨0,rfl⟩
 refine A_ ?_
 refine ye (YL tz H 0 E z (fun _=>jd.calls (H.Gt 0 z)) (fun x1 E w H=>J_ ?_))
 refine cA (fun t w=>∃(k8:Nat)(t7:Fr),k8≤k∧jv.j0 a2 x1=some r∧t=aU t7 [(0,pt t0_),(2,ii a2),(6,iu 0),(7,ii x1.1),Zc]∧St (Rs.cn t0_ m0_).fp w0 w [.cn t0_ true]) ?_ ?_
 ·refine A_ ?_
  rcases bR (!x1.2)with c1|c1
  ·have E:=iT c1 E
   refine A_ ?_
   refine aE E z ?_ ?_<;>intro c2 E<;>refine A_ ?_
   ·cases E
    exact(bG (aL ⟨.inl z,_,tk0 z ⟨aB z (ad ai),z,H.bA 0 z⟩⟩))
   refine aE E z ?_ ?_<;>intro c3 E<;>refine A_ ?_
   ·cases E
    exact(bG (aL ⟨.inl z,_,tk0 z ⟨aB z (ad ai),z,H.bA 0 z⟩⟩))
   exact⟨k,_,aI _,E,Za,H⟩
  have E:=iF c1 E
  refine A_ ?_
  refine aE E z ?_ ?_<;>intro c4 E<;>refine A_ ?_
  ·cases E
   exact(bG (aL ⟨.inl z,_,tk0 z ⟨aB z (ad ai),z,H.bA 0 z⟩⟩))
  exact⟨k,_,aI _,E,Za,H⟩
 rintro t w ⟨k8,t7,hk9,E,rfl,H⟩
 unfold jv.j0 at E
 refine A_ ?_
 refine ye (E9 A4 H E (fun _=>kE.calls) (fun x2 E w H=>A_ ?_))
 refine ye (YL A3 H 0 E z (fun _=>lW.calls (H.Gt 0 z)) (fun x3 E w H=>A_ ?_))
 cases E
 exact⟨.inl z,_,tk0 z ⟨aB z (ad ai),z,H.bA 0 z⟩⟩
def iM.l0:Nat→List Int→List Int→List (Int)→Int→Option (List Int)
 |0,_,_,_,_=>none
 |k+1,a1,a2,l1,x1=>bif decide (x1<(a1.length:Int))then(an (decide ((0:Int)≤x1∧x1<(a1.length:Int))) (an (decide ((0:Int)≤x1∧x1<(a2.length:Int))) ((lX.f (at_ 0 a1 x1) (at_ 0 a2 x1)).bind fun x2=>an (decide ((0:Int)≤x1∧x1<(l1.length:Int))) (iM.l0 k a1 a2 (l1.set x1.toNat x2) (I W (x1+1))))))else(some l1)
def iM.f(k:Nat)(a1 a2:List Int):Option (List Int):=an (decide ((0:Int)≤(a1.length:Int)∧(a1.length:Int)≤(a1.length:Int)∧(a1.length:Int)≤140737488355328)) (iM.l0 k a1 a2 (List.replicate (a1.length:Int).toNat (0:Int)) 0)
theorem iM.calls{k t0_:Nat}{m0_:Bool}{a1 a2:List Int}{r:List Int}(hf:(Rs.cn t0_ m0_).inv w0)(h1:Zf (Rs.cn t0_ m0_).fp w0 v1_ a1)(h2:Zf (Rs.cn t0_ m0_).fp w0 v2_ a2)(E:iM.f k a1 a2=some r):
 Calls aa 417 #[.agg #[pt t0_],v1_,v2_] w0 fun e w'=>∃(m_:Bool)(u0:Value),e= .returned (u0)∧St (Rs.cn t0_ m0_).fp w0 w' [.cn t0_ m_,Y9 u0 r]:=by
 have H:=St.start hf
 unfold iM.f at E
 refine Zb func417 ?_
 refine rg (ye (bc (cs:=#[pt t0_]) H z (fun b1 w H=>A_ ?_)))
 refine vr (gw [pt t0_] [] z z) (A_ ?_)
 refine ye (cm 32 [.func (.func 404) #[pt t0_] #[],v1_,v2_] JH func418 z z z z (A_ ?_))
 obtain⟨⟨g1,g2,g3⟩,E⟩:=ar E
 refine ye (ee (e:=(.int .u8)) (z0:=0) mG z H z z g1 g2 a_ a_ (fun v1 w H=>A_ ?_))
 refine bx (fun kk t w=>∃(l1:List Int)(x1:Int)(m1:Bool)(t1:Fr),kk≤k∧iM.l0 kk a1 a2 l1 x1=some r∧t=aU t1 [(0,.func (.func 404) #[pt t0_] #[]),(1,v1_),(2,v2_),(6,sn),(7,v1),(13,ii (a1.length:Int)),(14,ii x1),Zc]∧St (Rs.cn t0_ m0_).fp w0 w [.cn t0_ m1,.blk b1 #[pt t0_] 182,Y9 v1 l1]) k Ze ?_
 rintro kk t w ⟨l1,x1,m1,t1,hk1,E,rfl,H⟩
 obtain⟨k1,rfl⟩:=Zd kk
 rw[iM.l0]at E
 refine A_ ?_
 refine aE E z ?_ ?_<;>intro c1 E<;>refine A_ ?_
 ·refine eZ (ds:=[13]) (fun w=>∃m':Bool,St (Rs.cn t0_ m0_).fp w0 w [.cn t0_ m',.blk b1 #[pt t0_] 182,Y9 v1 l1]) tA H z z ?_
  have H:=H.drew
  refine B_ [0,1,2,3,4] ⟨_,H⟩ ?_
  obtain⟨⟨g4,g5⟩,E⟩:=ar E
  refine B_ [5,6,7,8] ⟨_,H⟩ ?_
  obtain⟨⟨g6,g7⟩,E⟩:=ar E
  refine B_ [9,10] ⟨_,H⟩ ?_
  obtain⟨x2,E1,E⟩:=ay E
  refine wo 11 z (qv z A0 z ((lX.calls (H.Gt 0 z) E1).mono ?_))
  rintro _ w ⟨rfl,K⟩
  have H:=H.aV 0 z K
  refine⟨_,z,⟨fun _=>⟨_,H.Y8 [0,1,2]⟩,?_⟩⟩
  obtain⟨⟨g8,g9⟩,E⟩:=ar E
  refine B_ [12] ⟨_,H.Y8 [0,1,2]⟩ ?_
  refine wo 13 z (dc JZ H 2 z g8 g9 z z (fun w H=>⟨fun h=>(h f_).elim,wd (A_ ?_)⟩))
  exact⟨k1,bL _,_,_,_,_,bK hk1,E,Za,H⟩
 refine⟨.inl z,v1,tk0 z ⟨ba z (ad ai) z,va v1 (nl (aj ?_))⟩⟩
 cases E
 exact⟨.inl z,_,tk0 z ⟨aB z (ad ai),_,_,z,H.bN 0 2 z z z⟩⟩
def rm.f(a1 a2:Int):Option (Int):=(lX.f a1 a2).bind fun x1=>some x1
theorem rm.calls{m0_:Bool}{a1 a2 r:Int}(hf:St (Rs.ah F_).fp w0 w0 [.blk F_.p #[.iface 182 (.agg #[pt F_.t]),ii 1] 186,.cn F_.t m0_])(E:rm.f a1 a2=some r):
 Calls aa 232 #[pt F_.p,iu a1,iu a2] w0 fun e w'=>∃(m_:Bool),e= .returned (iu r)∧St (Rs.ah F_).fp w0 w' [.blk F_.p #[.iface 182 (.agg #[pt F_.t]),ii 1] 186,.cn F_.t m_]:=by
 have H:=hf
 unfold rm.f at E
 refine Zb func232 ?_
 refine A_ ?_
 obtain⟨x1,E2,E⟩:=ay E
 refine ye (jZ (JP _) A0 z z ((lX.calls (H.Gt 1 z) E2).mono ?_))
 rintro _ w ⟨rfl,K⟩
 have H:=H.aV 1 z K
 refine⟨_,z,A_ ?_⟩
 cases E
 exact⟨.inl z,_,tk0 z ⟨aB z (ad ai),_,z,H.bN 0 1 z z z⟩⟩
def rl.f(k:Nat)(a1 a2:Int):Option (Int):=(kP.f k a1 a2).bind fun x1=>some x1
theorem rl.calls{a1 a2 r:Int}(hf:St (Rs.ah F_).fp w0 w0 [.blk F_.p #[.iface 187 (.agg #[]),ii 2] 186,.gt])(E:rl.f k a1 a2=some r):
 Calls aa 232 #[pt F_.p,iu a1,iu a2] w0 fun e w'=>e= .returned (iu r)∧St (Rs.ah F_).fp w0 w' [.blk F_.p #[.iface 187 (.agg #[]),ii 2] 186,.gt]:=by
 have H:=hf
 unfold rl.f at E
 refine Zb func232 ?_
 refine A_ ?_
 obtain⟨x1,E2,E⟩:=ay E
 refine ye (jZ JU JJ z z ((kP.calls (H.Gt 1 z) E2).mono ?_))
 rintro _ w ⟨rfl,K⟩
 have H:=H.aV 1 z K
 refine⟨_,z,A_ ?_⟩
 cases E
 exact⟨.inl z,_,tk0 z ⟨aB z (ad ai),z,H.bN 0 1 z z z⟩⟩
def rh.f(a1:Int):Option (Int×Bool):=(oH.f a1).bind fun x1=>some (x1.1,x1.2)
theorem rh.calls{m0_:Bool}{a1:Int}{r:Int×Bool}(hf:St (Rs.ah F_).fp w0 w0 [.blk F_.p #[.iface 182 (.agg #[pt F_.t]),ii 1] 186,.cn F_.t m0_])(E:rh.f a1=some r):
 Calls aa 253 #[pt F_.p,iu a1] w0 fun e w'=>∃(m_:Bool),e= .returned (.tuple #[iu r.1,.bool r.2])∧St (Rs.ah F_).fp w0 w' [.blk F_.p #[.iface 182 (.agg #[pt F_.t]),ii 1] 186,.cn F_.t m_]:=by
 have H:=hf
 unfold rh.f at E
 refine Zb func253 ?_
 refine A_ ?_
 obtain⟨x1,E2,E⟩:=ay E
 refine ye (jZ (JO _) JE z z ((oH.calls (H.Gt 1 z) E2).mono ?_))
 rintro _ w ⟨rfl,K⟩
 have H:=H.aV 1 z K
 refine⟨_,z,A_ ?_⟩
 cases E
 exact⟨.inl z,_,tk0 z ⟨aB z (ad (ad ai)),_,z,H.bN 0 1 z z z⟩⟩
def rf.f(k:Nat)(a1:Int):Option (Int×Bool):=(nL.f k a1).bind fun x1=>some (x1.1,x1.2)
theorem rf.calls{a1:Int}{r:Int×Bool}(hf:St (Rs.ah F_).fp w0 w0 [.blk F_.p #[.iface 187 (.agg #[]),ii 2] 186,.gt])(E:rf.f k a1=some r):
 Calls aa 253 #[pt F_.p,iu a1] w0 fun e w'=>e= .returned (.tuple #[iu r.1,.bool r.2])∧St (Rs.ah F_).fp w0 w' [.blk F_.p #[.iface 187 (.agg #[]),ii 2] 186,.gt]:=by
 have H:=hf
 unfold rf.f at E
 refine Zb func253 ?_
 refine A_ ?_
 obtain⟨x1,E2,E⟩:=ay E
 refine ye (jZ JS JI z z ((nL.calls (H.Gt 1 z) E2).mono ?_))
 rintro _ w ⟨rfl,K⟩
 have H:=H.aV 1 z K
 refine⟨_,z,A_ ?_⟩
 cases E
 exact⟨.inl z,_,tk0 z ⟨aB z (ad (ad ai)),z,H.bN 0 1 z z z⟩⟩
def rr.f(a1 a2:Int):Option (Int):=(jv.f a1 a2).bind fun x1=>some x1
theorem rr.calls{m0_:Bool}{a1 a2 r:Int}(hf:St (Rs.ah F_).fp w0 w0 [.blk F_.p #[.iface 182 (.agg #[pt F_.t]),ii 1] 186,.cn F_.t m0_])(E:rr.f a1 a2=some r):
 Calls aa 234 #[pt F_.p,iu a1,ii a2] w0 fun e w'=>∃(m_:Bool),e= .returned (iu r)∧St (Rs.ah F_).fp w0 w' [.blk F_.p #[.iface 182 (.agg #[pt F_.t]),ii 1] 186,.cn F_.t m_]:=by
 have H:=hf
 unfold rr.f at E
 refine Zb func234 ?_
 refine A_ ?_
 obtain⟨x1,E2,E⟩:=ay E
 refine ye (jZ (JQ _) JF z z ((jv.calls (H.Gt 1 z) E2).mono ?_))
 rintro _ w ⟨rfl,K⟩
 have H:=H.aV 1 z K
 refine⟨_,z,A_ ?_⟩
 cases E
 exact⟨.inl z,_,tk0 z ⟨aB z (ad ai),_,z,H.bN 0 1 z z z⟩⟩
def rq.f(k:Nat)(a1 a2:Int):Option (Int):=(nM.f k a1 a2).bind fun x1=>some x1
theorem rq.calls{a1 a2 r:Int}(hf:St (Rs.ah F_).fp w0 w0 [.blk F_.p #[.iface 187 (.agg #[]),ii 2] 186,.gt])(E:rq.f k a1 a2=some r):
 Calls aa 234 #[pt F_.p,iu a1,ii a2] w0 fun e w'=>e= .returned (iu r)∧St (Rs.ah F_).fp w0 w' [.blk F_.p #[.iface 187 (.agg #[]),ii 2] 186,.gt]:=by
 have H:=hf
 unfold rq.f at E
 refine Zb func234 ?_
 refine A_ ?_
 obtain⟨x1,E2,E⟩:=ay E
 refine ye (jZ JV JK z z ((nM.calls (H.Gt 1 z) E2).mono ?_))
 rintro _ w ⟨rfl,K⟩
 have H:=H.aV 1 z K
 refine⟨_,z,A_ ?_⟩
 cases E
 exact⟨.inl z,_,tk0 z ⟨aB z (ad ai),z,H.bN 0 1 z z z⟩⟩
def pG.f(k:Nat)(a1 a2:List Int):Option (List Int):=bif decide (min2 (a1.length:Int) (a2.length:Int)=0)then(some ([]:List Int))else(an (decide ((0:Int)≤min2 (a1.length:Int) (a2.length:Int)∧min2 (a1.length:Int) (a2.length:Int)≤(a1.length:Int))) (an (decide ((0:Int)≤min2 (a1.length:Int) (a2.length:Int)∧min2 (a1.length:Int) (a2.length:Int)≤(a2.length:Int))) ((iM.f k ((a1.take ((min2 (a1.length:Int) (a2.length:Int)).toNat)).drop 0) ((a2.take ((min2 (a1.length:Int) (a2.length:Int)).toNat)).drop 0)).bind fun x1=>some x1)))
theorem pG.calls{m0_:Bool}{a1 a2:List Int}{r:List Int}(hf:St (Rs.ah F_).fp w0 w0 [.blk F_.p #[.iface 182 (.agg #[pt F_.t]),ii 1] 186,.cn F_.t m0_])(h1:Zg F_ w0 v1_ a1)(h2:Zg F_ w0 v2_ a2)(E:pG.f k a1 a2=some r):
 Calls aa 280 #[pt F_.p,v1_,v2_] w0 fun e w'=>∃(m_:Bool)(u0:Value),e= .returned (u0)∧St (Rs.ah F_).fp w0 w' [.blk F_.p #[.iface 182 (.agg #[pt F_.t]),ii 1] 186,.cn F_.t m_,Y9 u0 r]:=by
 have H:=hf
 unfold pG.f at E
 refine Zb func280 ?_
 refine A_ ?_
 refine aE E z ?_ ?_<;>intro c2 E
 ·refine A_ ?_
  have H:=H.bB (.int .u8) 5
  cases E
  exact(aL ⟨.inl z,_,tk0 z ⟨aB z (ad ai),_,_,z,H.fJ 0 1 2 z z z z z z⟩⟩)
 refine aA (ab (ae (eZ (ds:=[]) (fun w=>∃m':Bool,St (Rs.ah F_).fp w0 w [.blk F_.p #[.iface 182 (.agg #[pt F_.t]),ii 1] 186,.cn F_.t m']) tA H z z ?_)))
 have H:=H.drew
 refine B_ [0,1,2,3,4,5] ⟨_,H⟩ ?_
 obtain⟨⟨g1,g2⟩,E⟩:=ar E
 have p1:0≤(min2 (a1.length:Int) (a2.length:Int)).toNat:=a_
 have p2:(min2 (a1.length:Int) (a2.length:Int)).toNat≤a1.length:=a_
 refine wz 6 z ⟨_,H⟩ (fun w ⟨m',H⟩=>fU mG (H.rd h1) z z g1 g2) (B_ [7,8] ⟨_,H⟩ ?_)
 obtain⟨⟨g3,g4⟩,E⟩:=ar E
 have p3:0≤(min2 (a1.length:Int) (a2.length:Int)).toNat:=a_
 have p4:(min2 (a1.length:Int) (a2.length:Int)).toNat≤a2.length:=a_
 refine wz 9 z ⟨_,H⟩ (fun w ⟨m',H⟩=>fU mG (H.rd h2) z z g3 g4) (B_ [10,11] ⟨_,H⟩ ?_)
 obtain⟨x1,E1,E⟩:=ay E
 refine wo 12 z (jZ (JR _) JG z z ((iM.calls (H.Gt 1 z) (H.cj 1 z (Rd.bz (H.rd h1) p1 p2)) (H.cj 1 z (Rd.bz (H.rd h2) p3 p4)) E1).mono ?_))
 rintro _ w ⟨m1,v1,rfl,K⟩
 have H:=H.aV 1 z K
 refine⟨_,z,⟨fun _=>⟨_,H.Y8 [0,1]⟩,B_ [13] ⟨_,H.Y8 [0,1]⟩ ?_⟩⟩
 cases E
 exact⟨.inl z,_,tk0 z ⟨aB z (ad ai),_,_,z,H.fJ 0 1 2 z z z z z z⟩⟩
def pE.f(k:Nat)(a1 a2:List Int):Option (List Int):=bif decide (min2 (a1.length:Int) (a2.length:Int)=0)then(some ([]:List Int))else(an (decide ((0:Int)≤min2 (a1.length:Int) (a2.length:Int)∧min2 (a1.length:Int) (a2.length:Int)≤(a1.length:Int))) (an (decide ((0:Int)≤min2 (a1.length:Int) (a2.length:Int)∧min2 (a1.length:Int) (a2.length:Int)≤(a2.length:Int))) ((iL.f k ((a1.take ((min2 (a1.length:Int) (a2.length:Int)).toNat)).drop 0) ((a2.take ((min2 (a1.length:Int) (a2.length:Int)).toNat)).drop 0)).bind fun x1=>some x1)))
theorem pE.calls{a1 a2:List Int}{r:List Int}(hf:St (Rs.ah F_).fp w0 w0 [.blk F_.p #[.iface 187 (.agg #[]),ii 2] 186,.gt])(h1:Zg F_ w0 v1_ a1)(h2:Zg F_ w0 v2_ a2)(E:pE.f k a1 a2=some r):
 Calls aa 280 #[pt F_.p,v1_,v2_] w0 fun e w'=>∃(u0:Value),e= .returned (u0)∧St (Rs.ah F_).fp w0 w' [.blk F_.p #[.iface 187 (.agg #[]),ii 2] 186,.gt,Y9 u0 r]:=by
 have H:=hf
 unfold pE.f at E
 refine Zb func280 ?_
 refine A_ ?_
 refine aE E z ?_ ?_<;>intro c2 E
 ·refine A_ ?_
  have H:=H.bB (.int .u8) 5
  cases E
  exact(aL ⟨.inl z,_,tk0 z ⟨aB z (ad ai),_,z,H.fJ 0 1 2 z z z z z z⟩⟩)
 refine aA (ab (ae (cd (ds:=[]) tA H z z ?_)))
 have H:=H.drew
 refine B_ [0,1,2,3,4,5] H ?_
 obtain⟨⟨g3,g4⟩,E⟩:=ar E
 have p6:0≤(min2 (a1.length:Int) (a2.length:Int)).toNat:=a_
 have p7:(min2 (a1.length:Int) (a2.length:Int)).toNat≤a1.length:=a_
 refine wz 6 z H (fun w H=>fU mG (H.rd h1) z z g3 g4) (B_ [7,8] H ?_)
 obtain⟨⟨g8,g9⟩,E⟩:=ar E
 have p1:0≤(min2 (a1.length:Int) (a2.length:Int)).toNat:=a_
 have p2:(min2 (a1.length:Int) (a2.length:Int)).toNat≤a2.length:=a_
 refine wz 9 z H (fun w H=>fU mG (H.rd h2) z z g8 g9) (B_ [10,11] H ?_)
 obtain⟨x1,E1,E⟩:=ay E
 refine wo 12 z (jZ JX JL z z ((iL.calls (H.Gt 1 z) (H.cj 1 z (Rd.bz (H.rd h1) p6 p7)) (H.cj 1 z (Rd.bz (H.rd h2) p1 p2)) E1).mono ?_))
 rintro _ w ⟨v1,rfl,K⟩
 have H:=H.aV 1 z K
 refine⟨_,z,⟨fun _=>H.Y8 [0,1],B_ [13] (H.Y8 [0,1]) ?_⟩⟩
 cases E
 exact⟨.inl z,_,tk0 z ⟨aB z (ad ai),_,z,H.fJ 0 1 2 z z z z z z⟩⟩
end Go.Proofs.YtmhkpafkadijgaaGreatDoor.Gw
