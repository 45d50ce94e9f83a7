/- A part of the proof of Rows.PlayAskedCardSaid; the conditions are that card's own. -/
import Derived.Test.YtmhkpafkadijgaaGreatDoorQ14
set_option linter.all false
set_option maxRecDepth 100000
set_option maxHeartbeats 4000000
namespace Go.Proofs.YtmhkpafkadijgaaGreatDoor.Gw
open Go Go.RowKit
variable[de]
open Go.IntKind (i8 i16 i32 i64 u8 u16 u32 u64)
open Tryz renaming prog → aa
def dn.j0(l1r:(Int×Int×Int)→List (Int)→List Int→List (Int)→Int→Option (List Int×List Int))(k:Nat)(a1:Int×Int×Int)(l1:List Int):Option (List Int×List Int):=(gz.f k l1).bind fun x1=>(fY.f k x1).bind fun x2=>an (decide ((0:Int)≤a1.1∧a1.1≤a1.1∧a1.1≤140737488355328)) (l1r a1 l1 x2 (List.replicate a1.1.toNat (0:Int)) 0)
mutual
def dn.l0:Nat→(Int×Int×Int)→List (Int)→Int→Option (List Int×List Int)
 |0,_,_,_=>none
 |k+1,a1,l1,x1=>bif decide (x1<((List.replicate a1.1.toNat (0:Int)).length:Int))then((kj.f x1).bind fun x2=>an (decide ((0:Int)≤x1∧x1<(l1.length:Int))) (dn.l0 k a1 (l1.set x1.toNat x2) (i64.wrap (x1+1))))else(dn.j0 (dn.l1 k) k a1 l1)
def dn.l1:Nat→(Int×Int×Int)→List (Int)→List Int→List (Int)→Int→Option (List Int×List Int)
 |0,_,_,_,_,_=>none
 |k+1,a1,l2,x3,l3,x4=>bif decide (x4<(l2.length:Int))then(an (decide ((0:Int)≤x4∧x4<(l2.length:Int))) ((jK.f (at_ 0 l2 x4) a1.2.2).bind fun x5=>(fK.f k x3 (at_ 0 l2 x4)).bind fun x6=>(gp.f x5 x6).bind fun x7=>(fN.f x7).bind fun x8=>an (decide ((0:Int)≤x4∧x4<(l3.length:Int))) (dn.l1 k a1 l2 x3 (l3.set x4.toNat x8.1) (i64.wrap (x4+1)))))else(some (l2,l3))
end
def dn.f(k:Nat)(a1:Int×Int×Int):Option (List Int×List Int):=(dh.f (a1.1,a1.2.1,a1.2.2)).bind fun x5=>bif !decide (x5=0)then(some (([]:List Int),([]:List Int)))else(an (decide ((0:Int)≤a1.1∧a1.1≤a1.1∧a1.1≤140737488355328)) (dn.l0 k a1 (List.replicate a1.1.toNat (0:Int)) 0))
theorem dn.calls{w0:World}{k:Nat}{F_:FD}{a1:Int×Int×Int}{r:List Int×List Int}(hf:(Rs.ah F_).inv w0)(E:dn.f k a1=some r):
 Calls aa 221 #[pt F_.p,.agg #[ii a1.1,ii a1.2.1,ii a1.2.2]] w0 fun e w'=>∃(u0 u1:Value),e= .returned (.tuple #[u0,u1])∧St (Rs.ah F_).fp w0 w' [.ah F_,.own (.int .u8) 5 u0 r.1,.own (.int .u8) 5 u1 r.2]:=by
 have H:=St.start hf
 unfold dn.f at E
 refine aP (N:=70) (args:=[pt F_.p,.agg #[ii a1.1,ii a1.2.1,ii a1.2.2]]) Tryz.func221 z z (by simp) ?_
 refine rg (ye (bc (cs:=#[ii a1.1,ii a1.2.1,ii a1.2.2]) H z (fun b1 w H=>va sn (va sn (nl (ae (rg (vm (pt F_.p) (vr (cV Tryz.underlying111 z z) (vm (.bool false) (oo z z (bp (l:=[ii a1.1,ii a1.2.1,ii a1.2.2]) cv (H.Gt 1 z) z z z) ?_)))))))))))
 obtain⟨x5,E6,E⟩:=ay E
 refine dP z z z (au jF z ((dh.calls E6).mono ?_))
 rintro _ w ⟨rfl,K⟩
 have H:=H.app K
 refine⟨_,z,oo z z (cx z z) (vr (pF (.bool (!decide (x5=0))) z z z) (nl ?_))⟩
 refine aE E z (fun c7 E=>?_) (fun c7 E=>?_)
 ·refine rg (va sn (va sn (nl (aj ?_))))
  have H:=H.bB (.int .u8) 5
  have H:=H.bB (.int .u8) 5
  cases E
  exact(aL ⟨.inl z,_,tk0 z ⟨aB z (ad (ad ai)),_,_,z,H.fJ 0 2 3 z z z z z z⟩⟩)
 ·refine aA (ab (rg (vr (az eJ z) (vr (av bf z (ak (H.Gt 1 z) z)) ?_))))
  obtain⟨⟨g9,g1,g2⟩,E⟩:=ar E
  refine ye (ee (e:=(.int .u8)) (z0:=0) aN z H z z g9 g1 (by omega) (by omega) (fun v8 w H=>va v8 (nl ?_)))
  refine cA (fun t w=>∃(k1:Nat)(l1:List Int)(t1:Fr),k1≤k∧dn.j0 (dn.l1 k1) k1 a1 l1=some r∧t=aU t1 [(0,pt F_.p),(3,pt b1),(4,sn),(5,sn),(6,v8),(1000000,undef)]∧St (Rs.ah F_).fp w0 w [.ah F_,.blk b1 #[ii a1.1,ii a1.2.1,ii a1.2.2] 24,.own (.int .u8) 5 v8 l1]) ?_ ?_
  ·refine rg (vm v8 (vr (aY bI (ao (H.Gt 2 z)) z) (vm (ii 0) (nl (aG ?_)))))
   refine bx (fun kk t w=>∃(l2:List Int)(x1:Int)(t2:Fr),kk≤k∧dn.l0 kk a1 l2 x1=some r∧t=aU t2 [(0,pt F_.p),(3,pt b1),(4,sn),(5,sn),(6,v8),(23,ii ((List.replicate a1.1.toNat (0:Int)).length:Int)),(24,ii x1),(1000000,undef)]∧St (Rs.ah F_).fp w0 w [.ah F_,.blk b1 #[ii a1.1,ii a1.2.1,ii a1.2.2] 24,.own (.int .u8) 5 v8 l2]) k ?_ ?_
   ·exact⟨_,_,_,aI _,E,aD ⟨z,z,z,z,z,z,z,z,trivial⟩,H⟩
   rintro kk t w ⟨l2,x1,t2,hk1,E,rfl,H⟩
   obtain⟨k2,rfl⟩|rfl:=ks kk
   rotate_left
   ·cases E
   rw[dn.l0]at E
   refine rg (vr (aZ z z) (nl (ae ?_)))
   refine aE E z (fun c1 E=>?_) (fun c1 E=>?_)
   ·refine aA (ab (ae (aG (rg (vm (ii x1) (va (ii x1) (nl (aH (vm v8 (vm (ii x1) (vm (pt F_.p) (vm (ii x1) ?_))))))))))))
    obtain⟨x2,E1,E⟩:=ay E
    refine ye (au vh z ((kj.calls (H.Gt 0 z) E1).mono ?_))
    rintro _ w ⟨rfl,K⟩
    have H:=H.aV 0 z K
    refine⟨_,z,?_⟩
    obtain⟨⟨g3,g4⟩,E⟩:=ar E
    refine vr (bo aN (ao (H.Gt 2 z)) z z g3 g4) (s_ (dc dB H 2 z g3 g4 z z (fun w H=>aK (aR (ab (aH (vr (aO z z) (vm (ii (i64.wrap (x1+1))) (aK ?_)))))))))
    exact⟨k2,bL _,_,_,_,bK hk1,E,aD ⟨z,z,z,z,z,z,z,z,trivial⟩,H⟩
   ·refine bt (aM (aM (bu ?_)))
    exact⟨k2,_,_,by omega,E,aD ⟨z,z,z,z,z,z,trivial⟩,H⟩
  rintro t w ⟨k1,l1,t1,hk2,E,rfl,H⟩
  unfold dn.j0 at E
  refine rg (vm (pt F_.p) (vm v8 ?_))
  obtain⟨x3,E2,E⟩:=ay E
  refine ye (au zm z ((gz.calls (H.Gt 0 z) (H.cb 2 0 z z z (ao (H.Gt 2 z))) E2).mono ?_))
  rintro _ w ⟨v1,rfl,K⟩
  have H:=H.aV 0 z K
  refine⟨_,z,?_⟩
  obtain⟨x4,E3,E⟩:=ay E
  refine ye (au zv z ((fY.calls (H.own 3 z (ao (H.Gt 3 z))) E3).mono ?_))
  rintro _ w ⟨v2,rfl,K⟩
  have H:=H.app K
  refine⟨_,z,va v2 (nl (rg (vr (az eJ z) (vr (av bf z (ak (H.Gt 1 z) z)) ?_))))⟩
  obtain⟨⟨g5,g6,g7⟩,E⟩:=ar E
  refine ye (ee (e:=(.int .u8)) (z0:=0) aN z H z z g5 g6 (by omega) (by omega) (fun v3 w H=>va v3 (nl (ae (rg (vm v8 (vr (aY bI (ao (H.Gt 2 z)) z) (vm (ii 0) (nl (aG ?_))))))))))
  refine bx (fun kk t w=>∃(l3:List Int)(x6:Int)(t3:Fr),kk≤k1∧dn.l1 kk a1 l1 x4 l3 x6=some r∧t=aU t3 [(0,pt F_.p),(3,pt b1),(4,sn),(5,sn),(6,v8),(8,v2),(9,v3),(41,v8),(42,ii (l1.length:Int)),(43,ii x6),(1000000,undef)]∧St (Rs.ah F_).fp w0 w [.ah F_,.blk b1 #[ii a1.1,ii a1.2.1,ii a1.2.2] 24,.own (.int .u8) 5 v8 l1,.own (.int .u8) 5 v1 x3,.own (.int .u8) 5 v2 x4,.own (.int .u8) 5 v3 l3]) k1 ?_ ?_
  ·exact⟨_,_,_,aI _,E,aD ⟨z,z,z,z,z,z,z,z,z,z,z,trivial⟩,H⟩
  rintro kk t w ⟨l3,x6,t3,hk3,E,rfl,H⟩
  obtain⟨k3,rfl⟩|rfl:=ks kk
  rotate_left
  ·cases E
  rw[dn.l1]at E
  refine rg (vr (aZ z z) (nl (ae ?_)))
  refine aE E z (fun c2 E=>?_) (fun c2 E=>?_)
  ·refine aA (ab (ae (aG (rg (vm (ii x6) ?_)))))
   obtain⟨⟨g8,g12⟩,E⟩:=ar E
   refine vr (bo aN (ao (H.Gt 2 z)) z z g8 g12) (vr (bq bC (ao (H.Gt 2 z)) g8 g12 z) (va (ii x6) (va (iu (at_ 0 l1 x6)) (nl (aH (vm v3 (vm (ii x6) (vm (pt F_.p) (vm (pt F_.p) (vm (pt F_.p) (vm (iu (at_ 0 l1 x6)) (vr (az nE z) (vr (av bf z (ak (H.Gt 1 z) z)) ?_)))))))))))))
   obtain⟨x7,E4,E⟩:=ay E
   refine ye (au vn z ((jK.calls (H.Gt 0 z) E4).mono ?_))
   rintro _ w ⟨rfl,K⟩
   have H:=H.aV 0 z K
   refine⟨_,z,vm (pt F_.p) (vm v2 (vm (iu (at_ 0 l1 x6)) ?_))⟩
   obtain⟨x8,E5,E⟩:=ay E
   refine ye (au vg z ((fK.calls (H.Gt 0 z) (H.cb 4 0 z z z (ao (H.Gt 4 z))) E5).mono ?_))
   rintro _ w ⟨rfl,K⟩
   have H:=H.aV 0 z K
   refine⟨_,z,?_⟩
   obtain⟨x9,E7,E⟩:=ay E
   refine ye (au pg z ((gp.calls (H.Gt 0 z) E7).mono ?_))
   rintro _ w ⟨rfl,K⟩
   have H:=H.aV 0 z K
   refine⟨_,z,?_⟩
   obtain⟨x10,E8,E⟩:=ay E
   refine ye (au qX z ((fN.calls (H.Gt 0 z) E8).mono ?_))
   rintro _ w ⟨rfl,K⟩
   have H:=H.aV 0 z K
   refine⟨_,z,vr cz (vr (aX z z) (vr (aX z z) ?_))⟩
   obtain⟨⟨g13,g14⟩,E⟩:=ar E
   refine vr (bo aN (ao (H.Gt 5 z)) z z g13 g14) (s_ (dc dB H 5 z g13 g14 z z (fun w H=>aK (aR (ab (aH ?_))))))
   have H:St (Rs.ah F_).fp w0 _ [.ah F_,.blk b1 #[ii a1.1,ii a1.2.1,ii a1.2.2] 24,.own (.int .u8) 5 v8 l1,.own (.int .u8) 5 v1 x3,.own (.int .u8) 5 v2 x4,.own (.int .u8) 5 v3 (l3.set x6.toNat x10.1)]:=H
   refine vr (aO z z) (vm (ii (i64.wrap (x6+1))) (aK ?_))
   exact⟨k3,bL _,_,_,_,bK hk3,E,aD ⟨z,z,z,z,z,z,z,z,z,z,z,trivial⟩,H⟩
  ·refine bt (aM (aM (bu (ab (rg (vm v8 (vm v3 (va v8 (va v3 (nl (aj ?_)))))))))))
   cases E
   exact⟨.inl z,_,tk0 z ⟨aB z (ad (ad ai)),_,_,z,H.fJ 0 2 5 z z z z z z⟩⟩
def ib.j1(x1 x2:Int):Option (Int):=bif decide (256≤x1)then(an (decide ((0:Int)≤u8.wrap (Int.fdiv x1 (2^min (8:Int).toNat 64))∧u8.wrap (Int.fdiv x1 (2^min (8:Int).toNat 64))<(pz.size:Int))) (some (i64.wrap (i64.wrap (x2+8)+i64.wrap (sat pz (u8.wrap (Int.fdiv x1 (2^min (8:Int).toNat 64))))))))else(an (decide ((0:Int)≤u8.wrap x1∧u8.wrap x1<(pz.size:Int))) (some (i64.wrap (x2+i64.wrap (sat pz (u8.wrap x1))))))
def ib.j0(x4 x5:Int):Option (Int):=bif decide (65536≤x4)then(ib.j1 (Int.fdiv x4 (2^min (16:Int).toNat 64)) (i64.wrap (x5+16)))else(ib.j1 x4 x5)
def ib.f(a0:Int):Option (Int):=bif decide (4294967296≤a0)then(ib.j0 (Int.fdiv a0 (2^min (32:Int).toNat 64)) 32)else(ib.j0 a0 0)
theorem ib.calls{w0:World}{a0 r:Int}(E:ib.f a0=some r):
 Calls aa 136 #[.int .u64 a0] w0 fun e w'=>e= .returned (ii r)∧St no w0 w' []:=by
 have H:=St.nil no w0
 unfold ib.f at E
 refine aP (N:=25) (args:=[.int .u64 a0]) Tryz.func136 z z (by simp) ?_
 obtain⟨k,_⟩:∃k:Nat,k=0:=⟨0,rfl⟩
 refine rg (va (ii 0) (nl ?_))
 refine cA (fun t w=>∃(k7:Nat)(x4 x5:Int)(t6:Fr),k7≤k∧ib.j0 x4 x5=some r∧t=aU t6 [(0,.int .u64 x4),(2,ii x5),(1000000,undef)]∧St no w0 w []) ?_ ?_
 ·refine rg (vm (.int .u64 a0) (vr (dq z z) (nl ?_)))
  refine aE E z (fun c9 E=>?_) (fun c9 E=>?_)
  ·refine rg (vm (.int .u64 a0) (vr (fT z z (by decide)) (va (.int .u64 (Int.fdiv a0 (2^min (32:Int).toNat 64))) (nl (aH (va (ii 32) (aK ?_)))))))
   exact⟨k,_,_,_,aI _,E,aD ⟨z,z,z,trivial⟩,H⟩
  ·refine aA ?_
   exact⟨k,_,_,_,aI _,E,aD ⟨z,z,z,trivial⟩,H⟩
 rintro t w ⟨k7,x4,x5,t6,hk8,E,rfl,H⟩
 unfold ib.j0 at E
 refine cA (fun t w=>∃(k16:Nat)(x1 x2:Int)(t1:Fr),k16≤k7∧ib.j1 x1 x2=some r∧t=aU t1 [(0,.int .u64 x1),(2,ii x2),(1000000,undef)]∧St no w0 w []) ?_ ?_
 ·refine rg (vm (.int .u64 x4) (vr (dq z z) (nl ?_)))
  refine aE E z (fun c1 E=>?_) (fun c1 E=>?_)
  ·refine rg (vm (.int .u64 x4) (vr (fT z z (by decide)) (va (.int .u64 (Int.fdiv x4 (2^min (16:Int).toNat 64))) (nl (aH (vm (ii x5) (vr (aO z z) (va (ii (i64.wrap (x5+16))) (aK ?_)))))))))
   exact⟨k7,_,_,_,aI _,E,aD ⟨z,z,z,trivial⟩,H⟩
  ·refine aA ?_
   exact⟨k7,_,_,_,aI _,E,aD ⟨z,z,z,trivial⟩,H⟩
 rintro t w ⟨k16,x1,x2,t1,hk1,E,rfl,H⟩
 unfold ib.j1 at E
 refine ae (rg (vm (.int .u64 x1) (vr (dq z z) (nl ?_))))
 refine aE E z (fun c2 E=>?_) (fun c2 E=>?_)
 ·refine rg (vm (.int .u64 x1) (vr (fT z z (by decide)) (va (.int .u64 (Int.fdiv x1 (2^min (8:Int).toNat 64))) (nl (aH (vm (ii x2) (vr (aO z z) (va (ii (i64.wrap (x2+8))) (nl (rg (vm (ii (i64.wrap (x2+8))) (vm (.int .u64 (Int.fdiv x1 (2^min (8:Int).toNat 64))) (vr (cD z Tryz.underlying160 Tryz.underlying5) ?_)))))))))))))
  obtain⟨⟨g1,g2⟩,E⟩:=ar E
  refine vr (mY Tryz.underlying9 z z g1 g2) (vr (cD z Tryz.underlying5 Tryz.underlying3) (vr (aO z z) (va (ii (i64.wrap (i64.wrap (x2+8)+i64.wrap (sat pz (u8.wrap (Int.fdiv x1 (2^min (8:Int).toNat 64))))))) (nl (aj ?_)))))
  cases E
  exact⟨.inl z,_,tk0 z ⟨aB z (ad ai),z,H.bs⟩⟩
 ·refine aA (ab (rg (vm (ii x2) (vm (.int .u64 x1) (vr (cD z Tryz.underlying160 Tryz.underlying5) ?_)))))
  obtain⟨⟨g3,g4⟩,E⟩:=ar E
  refine vr (mY Tryz.underlying9 z z g3 g4) (vr (cD z Tryz.underlying5 Tryz.underlying3) (vr (aO z z) (va (ii (i64.wrap (x2+i64.wrap (sat pz (u8.wrap x1))))) (nl (aj ?_)))))
  cases E
  exact⟨.inl z,_,tk0 z ⟨aB z (ad ai),z,H.bs⟩⟩
def dx.f(a0:Int):Option (Int):=(ib.f a0).bind fun x1=>some x1
theorem dx.calls{w0:World}{a0 r:Int}(E:dx.f a0=some r):
 Calls aa 239 #[.int .u64 a0] w0 fun e w'=>e= .returned (ii r)∧St no w0 w' []:=by
 have H:=St.nil no w0
 unfold dx.f at E
 refine aP (N:=8) (args:=[.int .u64 a0]) Tryz.func239 z z (by simp) ?_
 refine rg (va (ii 0) (nl (ae (bS z (aA (ab (rg (vm (.int .u64 a0) ?_))))))))
 obtain⟨x1,E2,E⟩:=ay E
 refine ye (au GL z ((ib.calls E2).mono ?_))
 rintro _ w ⟨rfl,K⟩
 have H:=H.app K
 refine⟨_,z,va (ii x1) (nl (aj ?_))⟩
 cases E
 exact⟨.inl z,_,tk0 z ⟨aB z (ad ai),z,H.bs⟩⟩
def nB.f(a0:Int):Option (Bool):=some (!decide (a0=a0))
theorem nB.calls{w0:World}{a0:Int}{r:Bool}(E:nB.f a0=some r):
 Calls aa 377 #[iu a0] w0 fun e w'=>e= .returned (.bool r)∧St no w0 w' []:=by
 have H:=St.nil no w0
 unfold nB.f at E
 refine aP (N:=6) (args:=[iu a0]) Tryz.func377 z z (by simp) ?_
 refine rg (va (.bool false) (nl (rg (vm (iu a0) (vm (iu a0) (vr (cx z z) (va (.bool (!decide (a0=a0))) (nl (aj ?_)))))))))
 cases E
 exact⟨.inl z,_,tk0 z ⟨aB z (ad ai),z,H.bs⟩⟩
def eI.f(a0 a1:Int):Option (Bool):=(nB.f a0).bind fun x1=>bif x1 then((nB.f a1).bind fun x4=>bif !x4 then(some true)else(some (decide (a0<a1))))else(some (decide (a0<a1)))
theorem eI.calls{w0:World}{a0 a1:Int}{r:Bool}(E:eI.f a0 a1=some r):
 Calls aa 367 #[iu a0,iu a1] w0 fun e w'=>e= .returned (.bool r)∧St no w0 w' []:=by
 have H:=St.nil no w0
 unfold eI.f at E
 refine aP (N:=17) (args:=[iu a0,iu a1]) Tryz.func367 z z (by simp) ?_
 refine rg (va (.bool false) (nl (rg (vm (iu a0) ?_))))
 obtain⟨x1,E2,E⟩:=ay E
 refine ye (au zy z ((nB.calls E2).mono ?_))
 rintro _ w ⟨rfl,K⟩
 have H:=H.app K
 refine⟨_,z,(vm (.bool x1) ?_)⟩
 rcases bR (x1)with c3|c3
 ·have E:=iT c3 E
  refine oo c3 z (mv (iu a1) z) ?_
  obtain⟨x4,E5,E⟩:=ay E
  refine dP z c3 z (au zy z ((nB.calls E5).mono ?_))
  rintro _ w ⟨rfl,K⟩
  have H:=H.app K
  refine⟨_,z,oo c3 z (cp z) (vr (pT (.bool (!x4)) z z c3) (vm (.bool (!x4)) ?_))⟩
  rcases bR (!x4)with c6|c6
  ·have E:=iT c6 E
   refine ow c6 z (ow c6 z (ow c6 z (vr (pT (.bool true) z z c6) (va (.bool true) (nl (aj ?_))))))
   cases E
   exact⟨.inl z,_,tk0 z ⟨aB z (ad ai),z,H.bs⟩⟩
  ·have E:=iF c6 E
   refine oo c6 z (mv (iu a0) z) (oo c6 z (mv (iu a1) z) (oo c6 z (aZ z z) (vr (pF (.bool (decide (a0<a1))) z z c6) (va (.bool (decide (a0<a1))) (nl (aj ?_))))))
   cases E
   exact⟨.inl z,_,tk0 z ⟨aB z (ad ai),z,H.bs⟩⟩
 ·have E:=iF c3 E
  refine ow c3 z (ow c3 z (ow c3 z (vr (pF (.bool false) z z c3) (vm (.bool false) (oo z z (mv (iu a0) z) (oo z z (mv (iu a1) z) (oo z z (aZ z z) (vr (pF (.bool (decide (a0<a1))) z z z) (va (.bool (decide (a0<a1))) (nl (aj ?_)))))))))))
  cases E
  exact⟨.inl z,_,tk0 z ⟨aB z (ad ai),z,H.bs⟩⟩
mutual
def fA.l0:Nat→Int→Int→List (Int)→Int→Option ((Unit)×List Int)
 |0,_,_,_,_=>none
 |k+1,a1,a2,l1,x1=>bif decide (x1<a2)then(fA.l1 k a1 a2 x1 l1 x1)else(some ((),l1))
def fA.l1:Nat→Int→Int→Int→List (Int)→Int→Option ((Unit)×List Int)
 |0,_,_,_,_,_=>none
 |k+1,a1,a2,x1,l2,x2=>bif decide (a1<x2)then(an (decide ((0:Int)≤x2∧x2<(l2.length:Int))) (an (decide ((0:Int)≤i64.wrap (x2-1)∧i64.wrap (x2-1)<(l2.length:Int))) ((eI.f (at_ 0 l2 x2) (at_ 0 l2 (i64.wrap (x2-1)))).bind fun x3=>bif x3 then(an (decide ((0:Int)≤i64.wrap (x2-1)∧i64.wrap (x2-1)<(l2.length:Int))) (an (decide ((0:Int)≤x2∧x2<(l2.length:Int))) (an (decide ((0:Int)≤x2∧x2<(l2.length:Int))) (an (decide ((0:Int)≤i64.wrap (x2-1)∧i64.wrap (x2-1)<((l2.set x2.toNat (at_ 0 l2 (i64.wrap (x2-1)))).length:Int))) (fA.l1 k a1 a2 x1 ((l2.set x2.toNat (at_ 0 l2 (i64.wrap (x2-1)))).set (i64.wrap (x2-1)).toNat (at_ 0 l2 x2)) (i64.wrap (x2-1)))))))else(fA.l0 k a1 a2 l2 (i64.wrap (x1+1))))))else(fA.l0 k a1 a2 l2 (i64.wrap (x1+1)))
end
def fA.f(k:Nat)(l0_:List Int)(a1 a2:Int):Option ((Unit)×List Int):=fA.l0 k a1 a2 l0_ (i64.wrap (a1+1))
theorem fA.calls{w0:World}{k:Nat}{v0_:Value}{l0_:List Int}{a1 a2:Int}{r:(Unit)×List Int}(hf:(Rs.own (.int .u8) 5 v0_ l0_).inv w0)(E:fA.f k l0_ a1 a2=some r):
 Calls aa 361 #[v0_,ii a1,ii a2] w0 fun e w'=>e= .returned (.tuple #[])∧St (Rs.own (.int .u8) 5 v0_ l0_).fp w0 w' [.own (.int .u8) 5 v0_ r.2]:=by
 have H:=St.start hf
 unfold fA.f at E
 refine aP (N:=49) (args:=[v0_,ii a1,ii a2]) Tryz.func361 z z (by simp) ?_
 refine rg (vm (ii a1) (vr (aO z z) (va (ii (i64.wrap (a1+1))) (nl (aG ?_)))))
 refine bx (fun kk t w=>∃(l1:List Int)(x1:Int)(t1:Fr),kk≤k∧fA.l0 kk a1 a2 l1 x1=some r∧t=aU t1 [(0,v0_),(1,ii a1),(2,ii a2),(6,ii x1),(1000000,undef)]∧St (Rs.own (.int .u8) 5 v0_ l0_).fp w0 w [.own (.int .u8) 5 v0_ l1]) k ?_ ?_
 ·exact⟨_,_,_,aI _,E,aD ⟨z,z,z,z,z,trivial⟩,H⟩
 rintro kk t w ⟨l1,x1,t1,hk1,E,rfl,H⟩
 obtain⟨k1,rfl⟩|rfl:=ks kk
 rotate_left
 ·cases E
 rw[fA.l0]at E
 refine ae (rg (vm (ii x1) (vm (ii a2) (vr (aZ z z) (nl ?_)))))
 refine aE E z (fun c1 E=>?_) (fun c1 E=>?_)
 ·refine aA (ab (ae (aG (rg (vm (ii x1) (va (ii x1) (nl (aG ?_))))))))
  refine bx (fun kk t w=>∃(l2:List Int)(x2:Int)(t2:Fr),kk≤k1∧fA.l1 kk a1 a2 x1 l2 x2=some r∧t=aU t2 [(0,v0_),(1,ii a1),(2,ii a2),(6,ii x1),(7,ii x2),(1000000,undef)]∧St (Rs.own (.int .u8) 5 v0_ l0_).fp w0 w [.own (.int .u8) 5 v0_ l2]) k1 ?_ ?_
  ·exact⟨_,_,_,aI _,E,aD ⟨z,z,z,z,z,z,trivial⟩,H⟩
  rintro kk t w ⟨l2,x2,t2,hk2,E,rfl,H⟩
  obtain⟨k2,rfl⟩|rfl:=ks kk
  rotate_left
  ·cases E
  rw[fA.l1]at E
  refine ae (ae (cd (ds:=[]) bZ H z z ?_))
  have H:=H.drew
  refine wm 0 z H (ii x2) (wm 1 z H (ii a1) (wg 2 z H (dy z z) (wm 3 z H (.bool (decide (a1<x2))) ?_)))
  rcases bR (decide (a1<x2))with c2|c2
  ·have E:=iT c2 E
   refine wn 4 z z z c2 H (fun w H=>mv v0_ z) (wn 5 z z z c2 H (fun w H=>mv (ii x2) z) ?_)
   obtain⟨⟨g1,g2⟩,E⟩:=ar E
   refine wn 6 z z z c2 H (fun w H=>bo aN (ao (H.Gt 0 z)) z z g1 g2) (wn 7 z z z c2 H (fun w H=>bq bC (ao (H.Gt 0 z)) g1 g2 z) (wn 8 z z z c2 H (fun w H=>mv v0_ z) (wn 9 z z z c2 H (fun w H=>mv (ii x2) z) (wn 10 z z z c2 H (fun w H=>bV z z) ?_))))
   obtain⟨⟨g3,g4⟩,E⟩:=ar E
   refine wn 11 z z z c2 H (fun w H=>bo aN (ao (H.Gt 0 z)) z z g3 g4) (wn 12 z z z c2 H (fun w H=>bq bC (ao (H.Gt 0 z)) g3 g4 z) ?_)
   obtain⟨x3,E1,E⟩:=ay E
   refine wp 13 z z z c2 (au kN z ((eI.calls E1).mono ?_))
   rintro _ w ⟨rfl,K⟩
   have H:=H.app K
   refine⟨_,z,⟨fun _=>H.ag [0] z z,wg 14 z (H.ag [0] z z) (pT (.bool x3) z z c2) (wd (ab ?_))⟩⟩
   refine aE E z (fun c3 E=>?_) (fun c3 E=>?_)
   ·refine aA (ab (ae (aG (eZ (ds:=[17]) (fun w=>∃l':List Int,l'.length=l2.length∧St (Rs.own (.int .u8) 5 v0_ l0_).fp w0 w [.own (.int .u8) 5 v0_ l']) bZ H z z ?_))))
    have H:=H.drew
    refine wm 0 z ⟨_,by simp,H⟩ v0_ (wm 1 z ⟨_,by simp,H⟩ (ii x2) (wm 2 z ⟨_,by simp,H⟩ v0_ (wm 3 z ⟨_,by simp,H⟩ (ii x2) (wg 4 z ⟨_,by simp,H⟩ (bV z z) (wm 5 z ⟨_,by simp,H⟩ v0_ (wm 6 z ⟨_,by simp,H⟩ (ii x2) (wg 7 z ⟨_,by simp,H⟩ (bV z z) ?_)))))))
    obtain⟨⟨g5,g6⟩,E⟩:=ar E
    refine wz 8 z ⟨_,by simp,H⟩ (fun w ⟨l',e',H⟩=>ey e' aN (ao (H.Gt 0 z)) z z g5 (by simpa using g6)) (wm 10 z ⟨_,by simp,H⟩ v0_ (wm 11 z ⟨_,by simp,H⟩ (ii x2) ?_))
    obtain⟨⟨g7,g8⟩,E⟩:=ar E
    refine wz 12 z ⟨_,by simp,H⟩ (fun w ⟨l',e',H⟩=>ey e' aN (ao (H.Gt 0 z)) z z g7 (by simpa using g8)) (qn (i:=9) (j:=13) (li:=tf 13 18) (lj:=#[true,true,true,true,true,true,true,true,true,false,true,true,true,true,false,false,false,false]) (l':=tf 14 18) z z z z z z z z z (by kernel_rfl) (by kernel_rfl) (by kernel_rfl) ⟨_,by simp,H⟩ (bq bC (ao (H.Gt 0 z)) g5 g6 z) (bq bC (ao (H.Gt 0 z)) g5 g6 z) (bq bC (ao (H.Gt 0 z)) g7 g8 z) (bq bC (ao (H.Gt 0 z)) g7 g8 z) ?_)
    obtain⟨⟨g9,g10⟩,E⟩:=ar E
    refine wz 14 z ⟨_,by simp,H⟩ (fun w ⟨l',e',H⟩=>ey e' aN (ao (H.Gt 0 z)) z z g9 (by simpa using g10)) (wo 15 z (dc dB H 0 z g9 g10 z z (fun w H=>⟨fun _=>⟨_,by simp,H.ag [0] z z⟩,?_⟩)))
    obtain⟨⟨g11,g12⟩,E⟩:=ar E
    refine wz 16 z ⟨_,by simp,H.ag [0] z z⟩ (fun w ⟨l',e',H⟩=>ey e' aN (ao (H.Gt 0 z)) z z g11 (by simpa using g12)) (wo 17 z (dc dB H 0 z g11 g12 z z (fun w H=>⟨fun h=>(h (by decide)).elim,wd (aR (ab (aH (vm (ii x2) (vr (bV z z) (va (ii (i64.wrap (x2-1))) (aK ?_)))))))⟩)))
    exact⟨k2,bL _,_,_,_,bK hk2,E,aD ⟨z,z,z,z,z,z,trivial⟩,H⟩
   ·refine bt (aM (aM (bu (aR (ab (aH (vm (ii x1) (vr (aO z z) (va (ii (i64.wrap (x1+1))) (aK ?_))))))))))
    exact⟨k2,by omega,_,_,_,by omega,E,aD ⟨z,z,z,z,z,trivial⟩,H⟩
  ·have E:=iF c2 E
   refine wf 4 z z z c2 H (wf 5 z z z c2 H (wf 6 z z z c2 H (wf 7 z z z c2 H (wf 8 z z z c2 H (wf 9 z z z c2 H (wf 10 z z z c2 H (wf 11 z z z c2 H (wf 12 z z z c2 H (wf 13 z z z c2 H (wg 14 z H (pF (.bool false) z z c2) (wd (ab (bS z (bt (aM (aM (bu (aR (ab (aH (vm (ii x1) (vr (aO z z) (va (ii (i64.wrap (x1+1))) (aK ?_))))))))))))))))))))))))
   exact⟨k2,by omega,_,_,_,by omega,E,aD ⟨z,z,z,z,z,trivial⟩,H⟩
 ·refine bt (aM (aM (bu ?_)))
  cases E
  exact⟨.inr z,_,tk0 z ⟨aB z ai,z,H.bA 0 z⟩⟩
def dY.j0(x1 x2:Int):Option (Int×Int):=bif decide (x1=0)then(some (x2,1))else(bif decide (x1=12)then(some (x2,2))else(some (x2,0)))
def dY.j3(x1 x2 x3:Int):Option (Int×Int):=dY.j0 x1 x3
def dY.j2(a0:List Int)(x1 x2 x3 x4:Int):Option (Int×Int):=an (decide ((0:Int)≤x3∧x3<(a0.length:Int))) (an (decide ((0:Int)≤x1∧x1<(a0.length:Int))) ((eI.f (at_ 0 a0 x3) (at_ 0 a0 x1)).bind fun x5=>bif x5 then(dY.j3 (i64.wrap (x2+1)) x3 x1)else(dY.j3 x2 x1 x3)))
def dY.j1(a0:List Int)(a1 a2 x1 x2 x3:Int):Option (Int×Int):=an (decide ((0:Int)≤i64.wrap (a1+i64.wrap (i64.wrap (Int.tdiv (i64.wrap (a2-a1)) 4)*3))∧i64.wrap (a1+i64.wrap (i64.wrap (Int.tdiv (i64.wrap (a2-a1)) 4)*3))<(a0.length:Int))) (an (decide ((0:Int)≤x3∧x3<(a0.length:Int))) ((eI.f (at_ 0 a0 (i64.wrap (a1+i64.wrap (i64.wrap (Int.tdiv (i64.wrap (a2-a1)) 4)*3)))) (at_ 0 a0 x3)).bind fun x4=>bif x4 then(dY.j2 a0 x2 (i64.wrap (x1+1)) (i64.wrap (a1+i64.wrap (i64.wrap (Int.tdiv (i64.wrap (a2-a1)) 4)*3))) x3)else(dY.j2 a0 x2 x1 x3 (i64.wrap (a1+i64.wrap (i64.wrap (Int.tdiv (i64.wrap (a2-a1)) 4)*3))))))
def dY.f(a0:List Int)(a1 a2:Int):Option (Int×Int):=bif decide (8≤i64.wrap (a2-a1))then(bif decide (50≤i64.wrap (a2-a1))then(none)else(an (decide ((0:Int)≤i64.wrap (a1+i64.wrap (i64.wrap (Int.tdiv (i64.wrap (a2-a1)) 4)*2))∧i64.wrap (a1+i64.wrap (i64.wrap (Int.tdiv (i64.wrap (a2-a1)) 4)*2))<(a0.length:Int))) (an (decide ((0:Int)≤i64.wrap (a1+i64.wrap (i64.wrap (Int.tdiv (i64.wrap (a2-a1)) 4)*1))∧i64.wrap (a1+i64.wrap (i64.wrap (Int.tdiv (i64.wrap (a2-a1)) 4)*1))<(a0.length:Int))) ((eI.f (at_ 0 a0 (i64.wrap (a1+i64.wrap (i64.wrap (Int.tdiv (i64.wrap (a2-a1)) 4)*2)))) (at_ 0 a0 (i64.wrap (a1+i64.wrap (i64.wrap (Int.tdiv (i64.wrap (a2-a1)) 4)*1))))).bind fun x1=>bif x1 then(dY.j1 a0 a1 a2 1 (i64.wrap (a1+i64.wrap (i64.wrap (Int.tdiv (i64.wrap (a2-a1)) 4)*2))) (i64.wrap (a1+i64.wrap (i64.wrap (Int.tdiv (i64.wrap (a2-a1)) 4)*1))))else(dY.j1 a0 a1 a2 0 (i64.wrap (a1+i64.wrap (i64.wrap (Int.tdiv (i64.wrap (a2-a1)) 4)*1))) (i64.wrap (a1+i64.wrap (i64.wrap (Int.tdiv (i64.wrap (a2-a1)) 4)*2))))))))else(dY.j0 0 (i64.wrap (a1+i64.wrap (i64.wrap (Int.tdiv (i64.wrap (a2-a1)) 4)*2))))
theorem dY.calls{w0:World}{a0:List Int}{a1 a2:Int}{v0_:Value}{r:Int×Int}(h0:Rd (.of (.int .u8)) w0 (Ol no w0) v0_ a0)(E:dY.f a0 a1 a2=some r):
 Calls aa 364 #[v0_,ii a1,ii a2] w0 fun e w'=>e= .returned (.tuple #[ii r.1,ii r.2])∧St no w0 w' []:=by
 have H:=St.nil no w0
 unfold dY.f at E
 refine aP (N:=57) (args:=[v0_,ii a1,ii a2]) Tryz.func364 z z (by simp) ?_
 obtain⟨k,_⟩:∃k:Nat,k=0:=⟨0,rfl⟩
 refine rg (va (ii 0) (va (ii 0) (nl (rg (vm (ii a2) (vm (ii a1) (vr (bV z z) (va (ii (i64.wrap (a2-a1))) (nl (rg (ye (cr vA H (fun b1 w H=>nl (rg (vm (ii a1) (vm (ii (i64.wrap (a2-a1))) (vr (ie z z (by decide)) (vr (cF z z) (vr (aO z z) (va (ii (i64.wrap (a1+i64.wrap (i64.wrap (Int.tdiv (i64.wrap (a2-a1)) 4)*1)))) (nl (rg (vm (ii a1) (vm (ii (i64.wrap (a2-a1))) (vr (ie z z (by decide)) (vr (cF z z) (vr (aO z z) (va (ii (i64.wrap (a1+i64.wrap (i64.wrap (Int.tdiv (i64.wrap (a2-a1)) 4)*2)))) (nl (rg (vm (ii a1) (vm (ii (i64.wrap (a2-a1))) (vr (ie z z (by decide)) (vr (cF z z) (vr (aO z z) (va (ii (i64.wrap (a1+i64.wrap (i64.wrap (Int.tdiv (i64.wrap (a2-a1)) 4)*3)))) (nl ?_)))))))))))))))))))))))))))))))))))))
 refine cA (fun t w=>∃(k1:Nat)(x1 x2:Int)(t1:Fr),k1≤k∧dY.j0 x1 x2=some r∧t=aU t1 [(6,ii 0),(7,ii 0),(9,pt b1),(11,ii x2),(1000000,undef)]∧St no w0 w [.blk b1 #[ii x1] 3]) ?_ ?_
 ·refine rg (vm (ii (i64.wrap (a2-a1))) (vr (dq z z) (nl ?_)))
  refine aE E z (fun c1 E=>?_) (fun c1 E=>?_)
  ·refine ae (rg (vm (ii (i64.wrap (a2-a1))) (vr (dq z z) (nl ?_))))
   refine aE E z (fun c2 E=>?_) (fun c2 E=>?_)
   ·cases E
   ·refine aA (ab (aH (vm v0_ (vm (ii (i64.wrap (a1+i64.wrap (i64.wrap (Int.tdiv (i64.wrap (a2-a1)) 4)*1)))) (vm (ii (i64.wrap (a1+i64.wrap (i64.wrap (Int.tdiv (i64.wrap (a2-a1)) 4)*2)))) (vm (ii (i64.wrap (a1+i64.wrap (i64.wrap (Int.tdiv (i64.wrap (a2-a1)) 4)*3)))) (ye (cm 36 [v0_,ii (i64.wrap (a1+i64.wrap (i64.wrap (Int.tdiv (i64.wrap (a2-a1)) 4)*1))),ii (i64.wrap (a1+i64.wrap (i64.wrap (Int.tdiv (i64.wrap (a2-a1)) 4)*2))),ii (i64.wrap (a1+i64.wrap (i64.wrap (Int.tdiv (i64.wrap (a2-a1)) 4)*3))),pt b1] H5 Tryz.func376 z z z z (rg (va (ii 0) (nl (rg (vm v0_ (vm (ii (i64.wrap (a1+i64.wrap (i64.wrap (Int.tdiv (i64.wrap (a2-a1)) 4)*1)))) (vm (ii (i64.wrap (a1+i64.wrap (i64.wrap (Int.tdiv (i64.wrap (a2-a1)) 4)*2)))) (vm (pt b1) ?_))))))))))))))))
    refine ye (fZ (fun v w=>∃(k2:Nat)(x3 x4 x5:Int),k2≤k∧dY.j1 a0 a1 a2 x3 x4 x5=some r∧v= .tuple #[ii x4,ii x5]∧St no w0 w [.blk b1 #[ii x3] 3]) ?_ ?_)
    ·refine(cm 28 [v0_,ii (i64.wrap (a1+i64.wrap (i64.wrap (Int.tdiv (i64.wrap (a2-a1)) 4)*1))),ii (i64.wrap (a1+i64.wrap (i64.wrap (Int.tdiv (i64.wrap (a2-a1)) 4)*2))),pt b1] vu Tryz.func380 z z z z (rg (va (ii 0) (va (ii 0) (nl (ae (ae (cd (ds:=[]) bZ H z z ?_))))))))
     have H:=H.drew
     refine wm 0 z H v0_ (wm 1 z H (ii (i64.wrap (a1+i64.wrap (i64.wrap (Int.tdiv (i64.wrap (a2-a1)) 4)*2)))) ?_)
     obtain⟨⟨g1,g2⟩,E⟩:=ar E
     refine wz 2 z H (fun w H=>bo aN (H.rd h0) z z g1 g2) (wz 3 z H (fun w H=>bq bC (H.rd h0) g1 g2 z) (wm 4 z H v0_ (wm 5 z H (ii (i64.wrap (a1+i64.wrap (i64.wrap (Int.tdiv (i64.wrap (a2-a1)) 4)*1)))) ?_)))
     obtain⟨⟨g3,g4⟩,E⟩:=ar E
     refine wz 6 z H (fun w H=>bo aN (H.rd h0) z z g3 g4) (wz 7 z H (fun w H=>bq bC (H.rd h0) g3 g4 z) ?_)
     obtain⟨x6,E1,E⟩:=ay E
     refine wo 8 z (au kN z ((eI.calls E1).mono ?_))
     rintro _ w ⟨rfl,K⟩
     have H:=H.app K
     refine⟨_,z,⟨fun _=>H.ag [0] z z,wd (ab ?_)⟩⟩
     refine aE E z (fun c3 E=>?_) (fun c3 E=>?_)
     ·refine rg (vm (pt b1) (vr (bw z) (vr (av bf z (ak (H.Gt 0 z) z)) (vr (bJ (v':=ii 1) (aO z z) z) (vr (bw z) (s_ (cQ gJ H 0 z z z z z (fun w H=>nl (rg (vm (ii (i64.wrap (a1+i64.wrap (i64.wrap (Int.tdiv (i64.wrap (a2-a1)) 4)*2)))) (vm (ii (i64.wrap (a1+i64.wrap (i64.wrap (Int.tdiv (i64.wrap (a2-a1)) 4)*1)))) (va (ii (i64.wrap (a1+i64.wrap (i64.wrap (Int.tdiv (i64.wrap (a2-a1)) 4)*2)))) (va (ii (i64.wrap (a1+i64.wrap (i64.wrap (Int.tdiv (i64.wrap (a2-a1)) 4)*1)))) (nl (aj ?_)))))))))))))))
      exact(aL ⟨.inl z,.tuple #[ii (i64.wrap (a1+i64.wrap (i64.wrap (Int.tdiv (i64.wrap (a2-a1)) 4)*2))),ii (i64.wrap (a1+i64.wrap (i64.wrap (Int.tdiv (i64.wrap (a2-a1)) 4)*1)))],tk0 z ⟨ba z (ad (ad ai)) z,k,_,_,_,aI _,E,z,H⟩⟩)
     ·refine aA (ab (rg (vm (ii (i64.wrap (a1+i64.wrap (i64.wrap (Int.tdiv (i64.wrap (a2-a1)) 4)*1)))) (vm (ii (i64.wrap (a1+i64.wrap (i64.wrap (Int.tdiv (i64.wrap (a2-a1)) 4)*2)))) (va (ii (i64.wrap (a1+i64.wrap (i64.wrap (Int.tdiv (i64.wrap (a2-a1)) 4)*1)))) (va (ii (i64.wrap (a1+i64.wrap (i64.wrap (Int.tdiv (i64.wrap (a2-a1)) 4)*2)))) (nl (aj ?_))))))))
      exact⟨.inl z,.tuple #[ii (i64.wrap (a1+i64.wrap (i64.wrap (Int.tdiv (i64.wrap (a2-a1)) 4)*1))),ii (i64.wrap (a1+i64.wrap (i64.wrap (Int.tdiv (i64.wrap (a2-a1)) 4)*2)))],tk0 z ⟨ba z (ad (ad ai)) z,k,_,_,_,aI _,E,z,H⟩⟩
    rintro _ w ⟨k2,x3,x4,x5,hk1,E,hv_,H⟩
    have hv_:=hv_.symm
    subst hv_
    unfold dY.j1 at E
    refine vr cz (vr (aX z z) (vr (aX z z) (va (ii x4) (va (ii x5) (nl (rg (vm v0_ (vm (ii x5) (vm (ii (i64.wrap (a1+i64.wrap (i64.wrap (Int.tdiv (i64.wrap (a2-a1)) 4)*3)))) (vm (pt b1) ?_))))))))))
    refine ye (fZ (fun v w=>∃(k3:Nat)(x7 x8 x9:Int),k3≤k2∧dY.j2 a0 x4 x7 x8 x9=some r∧v= .tuple #[ii x8,ii x9]∧St no w0 w [.blk b1 #[ii x7] 3]) ?_ ?_)
    ·refine(cm 28 [v0_,ii x5,ii (i64.wrap (a1+i64.wrap (i64.wrap (Int.tdiv (i64.wrap (a2-a1)) 4)*3))),pt b1] vu Tryz.func380 z z z z (rg (va (ii 0) (va (ii 0) (nl (ae (ae (cd (ds:=[]) bZ H z z ?_))))))))
     have H:=H.drew
     refine wm 0 z H v0_ (wm 1 z H (ii (i64.wrap (a1+i64.wrap (i64.wrap (Int.tdiv (i64.wrap (a2-a1)) 4)*3)))) ?_)
     obtain⟨⟨g5,g6⟩,E⟩:=ar E
     refine wz 2 z H (fun w H=>bo aN (H.rd h0) z z g5 g6) (wz 3 z H (fun w H=>bq bC (H.rd h0) g5 g6 z) (wm 4 z H v0_ (wm 5 z H (ii x5) ?_)))
     obtain⟨⟨g7,g8⟩,E⟩:=ar E
     refine wz 6 z H (fun w H=>bo aN (H.rd h0) z z g7 g8) (wz 7 z H (fun w H=>bq bC (H.rd h0) g7 g8 z) ?_)
     obtain⟨x10,E2,E⟩:=ay E
     refine wo 8 z (au kN z ((eI.calls E2).mono ?_))
     rintro _ w ⟨rfl,K⟩
     have H:=H.app K
     refine⟨_,z,⟨fun _=>H.ag [0] z z,wd (ab ?_)⟩⟩
     refine aE E z (fun c4 E=>?_) (fun c4 E=>?_)
     ·refine rg (vm (pt b1) (vr (bw z) (vr (av bf z (ak (H.Gt 0 z) z)) (vr (aO z z) (vr (bw z) (s_ (cQ gJ H 0 z z z z z (fun w H=>nl (rg (vm (ii (i64.wrap (a1+i64.wrap (i64.wrap (Int.tdiv (i64.wrap (a2-a1)) 4)*3)))) (vm (ii x5) (va (ii (i64.wrap (a1+i64.wrap (i64.wrap (Int.tdiv (i64.wrap (a2-a1)) 4)*3)))) (va (ii x5) (nl (aj ?_)))))))))))))))
      exact(aL ⟨.inl z,.tuple #[ii (i64.wrap (a1+i64.wrap (i64.wrap (Int.tdiv (i64.wrap (a2-a1)) 4)*3))),ii x5],tk0 z ⟨ba z (ad (ad ai)) z,k2,_,_,_,aI _,E,z,H⟩⟩)
     ·refine aA (ab (rg (vm (ii x5) (vm (ii (i64.wrap (a1+i64.wrap (i64.wrap (Int.tdiv (i64.wrap (a2-a1)) 4)*3)))) (va (ii x5) (va (ii (i64.wrap (a1+i64.wrap (i64.wrap (Int.tdiv (i64.wrap (a2-a1)) 4)*3)))) (nl (aj ?_))))))))
      exact⟨.inl z,.tuple #[ii x5,ii (i64.wrap (a1+i64.wrap (i64.wrap (Int.tdiv (i64.wrap (a2-a1)) 4)*3)))],tk0 z ⟨ba z (ad (ad ai)) z,k2,_,_,_,aI _,E,z,H⟩⟩
    rintro _ w ⟨k3,x7,x8,x9,hk2,E,hv_,H⟩
    have hv_:=hv_.symm
    subst hv_
    unfold dY.j2 at E
    refine vr cz (vr (aX z z) (vr (aX z z) (va (ii x8) (va (ii x9) (nl (rg (vm v0_ (vm (ii x4) (vm (ii x8) (vm (pt b1) ?_))))))))))
    refine ye (fZ (fun v w=>∃(k4:Nat)(x11 x12 x13:Int),k4≤k3∧dY.j3 x11 x12 x13=some r∧v= .tuple #[ii x12,ii x13]∧St no w0 w [.blk b1 #[ii x11] 3]) ?_ ?_)
    ·refine(cm 28 [v0_,ii x4,ii x8,pt b1] vu Tryz.func380 z z z z (rg (va (ii 0) (va (ii 0) (nl (ae (ae (cd (ds:=[]) bZ H z z ?_))))))))
     have H:=H.drew
     refine wm 0 z H v0_ (wm 1 z H (ii x8) ?_)
     obtain⟨⟨g9,g10⟩,E⟩:=ar E
     refine wz 2 z H (fun w H=>bo aN (H.rd h0) z z g9 g10) (wz 3 z H (fun w H=>bq bC (H.rd h0) g9 g10 z) (wm 4 z H v0_ (wm 5 z H (ii x4) ?_)))
     obtain⟨⟨g11,g12⟩,E⟩:=ar E
     refine wz 6 z H (fun w H=>bo aN (H.rd h0) z z g11 g12) (wz 7 z H (fun w H=>bq bC (H.rd h0) g11 g12 z) ?_)
     obtain⟨x14,E3,E⟩:=ay E
     refine wo 8 z (au kN z ((eI.calls E3).mono ?_))
     rintro _ w ⟨rfl,K⟩
     have H:=H.app K
     refine⟨_,z,⟨fun _=>H.ag [0] z z,wd (ab ?_)⟩⟩
     refine aE E z (fun c5 E=>?_) (fun c5 E=>?_)
     ·refine rg (vm (pt b1) (vr (bw z) (vr (av bf z (ak (H.Gt 0 z) z)) (vr (aO z z) (vr (bw z) (s_ (cQ gJ H 0 z z z z z (fun w H=>nl (rg (vm (ii x8) (vm (ii x4) (va (ii x8) (va (ii x4) (nl (aj ?_)))))))))))))))
      exact(aL ⟨.inl z,.tuple #[ii x8,ii x4],tk0 z ⟨ba z (ad (ad ai)) z,k3,_,_,_,aI _,E,z,H⟩⟩)
     ·refine aA (ab (rg (vm (ii x4) (vm (ii x8) (va (ii x4) (va (ii x8) (nl (aj ?_))))))))
      exact⟨.inl z,.tuple #[ii x4,ii x8],tk0 z ⟨ba z (ad (ad ai)) z,k3,_,_,_,aI _,E,z,H⟩⟩
    rintro _ w ⟨k4,x11,x12,x13,hk3,E,hv_,H⟩
    have hv_:=hv_.symm
    subst hv_
    unfold dY.j3 at E
    refine vr cz (vr (aX z z) (vr (aX z z) (va (ii x12) (va (ii x13) (nl (rg (vm (ii x13) (va (ii x13) (nl (aj (⟨.inl z,ii x13,tk0 z ⟨ba z (ad ai) z,va (ii x13) (aK ?_)⟩⟩)))))))))))
    exact⟨k4,_,_,_,by omega,E,aD ⟨z,z,z,z,z,trivial⟩,H⟩
  ·refine aA ?_
   exact⟨k,_,_,_,aI _,E,aD ⟨z,z,z,z,z,trivial⟩,H⟩
 rintro t w ⟨k1,x1,x2,t1,hk4,E,rfl,H⟩
 unfold dY.j0 at E
 refine rg (vr (av bf z (ak (H.Gt 0 z) z)) (nl (aG (rg (vr (cg z z) (va (.bool (decide (x1=0))) (nl ?_)))))))
 refine aE E z (fun c6 E=>?_) (fun c6 E=>?_)
 ·refine rg (vm (ii x2) (va (ii x2) (va (ii 1) (nl (aj ?_)))))
  cases E
  exact(bG ⟨.inl z,_,tk0 z ⟨aB z (ad (ad ai)),z,H.bs⟩⟩)
 ·refine rg (vr (cg z z) (va (.bool (decide (x1=12))) (nl ?_)))
  refine aE E z (fun c7 E=>?_) (fun c7 E=>?_)
  ·refine rg (vm (ii x2) (va (ii x2) (va (ii 2) (nl (aj ?_)))))
   cases E
   exact(bG ⟨.inl z,_,tk0 z ⟨aB z (ad (ad ai)),z,H.bs⟩⟩)
  ·refine rg (vm (ii x2) (va (ii x2) (va (ii 0) (nl (aj ?_)))))
   cases E
   exact(bG ⟨.inl z,_,tk0 z ⟨aB z (ad (ad ai)),z,H.bs⟩⟩)
def fI.j0(k:Nat)(l0_:List Int)(a1 a2 x1:Int):Option ((Bool)×List Int):=bif decide (x1=a2)then(some (true,l0_))else(bif decide (i64.wrap (a2-a1)<50)then(some (false,l0_))else(none))
mutual
def fI.l0:Nat→List Int→Int→Int→Option ((Bool)×List Int)
 |0,_,_,_=>none
 |k+1,l0_,a1,a2=>fI.l1 k l0_ a1 a2 (i64.wrap (a1+1))
def fI.l1:Nat→List Int→Int→Int→Int→Option ((Bool)×List Int)
 |0,_,_,_,_=>none
 |k+1,l0_,a1,a2,x1=>bif decide (x1<a2)then(an (decide ((0:Int)≤x1∧x1<(l0_.length:Int))) (an (decide ((0:Int)≤i64.wrap (x1-1)∧i64.wrap (x1-1)<(l0_.length:Int))) ((eI.f (at_ 0 l0_ x1) (at_ 0 l0_ (i64.wrap (x1-1)))).bind fun x2=>bif !x2 then(fI.l1 k l0_ a1 a2 (i64.wrap (x1+1)))else(fI.j0 k l0_ a1 a2 x1))))else(fI.j0 k l0_ a1 a2 x1)
end
def fI.f(k:Nat)(l0_:List Int)(a1 a2:Int):Option ((Bool)×List Int):=fI.l0 k l0_ a1 a2
theorem fI.calls{w0:World}{k:Nat}{v0_:Value}{l0_:List Int}{a1 a2:Int}{r:(Bool)×List Int}(hf:(Rs.own (.int .u8) 5 v0_ l0_).inv w0)(E:fI.f k l0_ a1 a2=some r):
 Calls aa 366 #[v0_,ii a1,ii a2] w0 fun e w'=>e= .returned (.bool r.1)∧St (Rs.own (.int .u8) 5 v0_ l0_).fp w0 w' [.own (.int .u8) 5 v0_ r.2]:=by
 have H:=St.start hf
 unfold fI.f at E
 refine aP (N:=133) (args:=[v0_,ii a1,ii a2]) Tryz.func366 z z (by simp) ?_
 refine rg (va (.bool false) (nl (rg (vm (ii a1) (vr (aO z z) (va (ii (i64.wrap (a1+1))) (nl (ae (rg (va (ii 0) (nl (aG ?_))))))))))))
 refine bx (fun kk t w=>∃(t1:Fr),kk≤k∧fI.l0 kk l0_ a1 a2=some r∧t=aU t1 [(0,v0_),(1,ii a1),(2,ii a2),(6,.bool false),(7,ii (i64.wrap (a1+1))),(8,ii 0),(1000000,undef)]∧St (Rs.own (.int .u8) 5 v0_ l0_).fp w0 w [.own (.int .u8) 5 v0_ l0_]) k ?_ ?_
 ·exact⟨_,aI _,E,aD ⟨z,z,z,z,z,z,z,trivial⟩,H⟩
 rintro kk t w ⟨t1,hk1,E,rfl,H⟩
 obtain⟨k1,rfl⟩|rfl:=ks kk
 rotate_left
 ·cases E
 rw[fI.l0]at E
 refine ae (rg (vm (ii 0) (vr (bJ (v':=.bool true) (aZ z z) z) (nl (cl z (aA (ab (ae (aG ?_)))))))))
 refine cA (fun t w=>∃(k2:Nat)(x1:Int)(t2:Fr),k2≤k1∧fI.j0 k2 l0_ a1 a2 x1=some r∧t=aU t2 [(0,v0_),(1,ii a1),(2,ii a2),(6,.bool false),(7,ii x1),(8,ii 0),(1000000,undef)]∧St (Rs.own (.int .u8) 5 v0_ l0_).fp w0 w [.own (.int .u8) 5 v0_ l0_]) ?_ ?_
 ·refine aG ?_
  refine bx (fun kk t w=>∃(x2:Int)(t3:Fr),kk≤k1∧fI.l1 kk l0_ a1 a2 x2=some r∧t=aU t3 [(0,v0_),(1,ii a1),(2,ii a2),(6,.bool false),(7,ii x2),(8,ii 0),(1000000,undef)]∧St (Rs.own (.int .u8) 5 v0_ l0_).fp w0 w [.own (.int .u8) 5 v0_ l0_]) k1 ?_ ?_
  ·exact⟨_,_,aI _,E,aD ⟨z,z,z,z,z,z,z,trivial⟩,H⟩
  rintro kk t w ⟨x2,t3,hk2,E,rfl,H⟩
  obtain⟨k3,rfl⟩|rfl:=ks kk
  rotate_left
  ·cases E
  rw[fI.l1]at E
  refine ae (ae (cd (ds:=[]) bZ H z z ?_))
  have H:=H.drew
  refine wm 0 z H (ii x2) (wm 1 z H (ii a2) (wg 2 z H (aZ z z) (wm 3 z H (.bool (decide (x2<a2))) ?_)))
  rcases bR (decide (x2<a2))with c1|c1
  ·have E:=iT c1 E
   refine wn 4 z z z c1 H (fun w H=>mv v0_ z) (wn 5 z z z c1 H (fun w H=>mv (ii x2) z) ?_)
   obtain⟨⟨g1,g2⟩,E⟩:=ar E
   refine wn 6 z z z c1 H (fun w H=>bo aN (ao (H.Gt 0 z)) z z g1 g2) (wn 7 z z z c1 H (fun w H=>bq bC (ao (H.Gt 0 z)) g1 g2 z) (wn 8 z z z c1 H (fun w H=>mv v0_ z) (wn 9 z z z c1 H (fun w H=>mv (ii x2) z) (wn 10 z z z c1 H (fun w H=>bV z z) ?_))))
   obtain⟨⟨g3,g4⟩,E⟩:=ar E
   refine wn 11 z z z c1 H (fun w H=>bo aN (ao (H.Gt 0 z)) z z g3 g4) (wn 12 z z z c1 H (fun w H=>bq bC (ao (H.Gt 0 z)) g3 g4 z) ?_)
   obtain⟨x3,E1,E⟩:=ay E
   refine wp 13 z z z c1 (au kN z ((eI.calls E1).mono ?_))
   rintro _ w ⟨rfl,K⟩
   have H:=H.app K
   refine⟨_,z,⟨fun _=>H.ag [0] z z,wn 14 z z z c1 (H.ag [0] z z) (fun w H=>cp z) (wg 15 z (H.ag [0] z z) (pT (.bool (!x3)) z z c1) (wd (ab ?_)))⟩⟩
   refine aE E z (fun c2 E=>?_) (fun c2 E=>?_)
   ·refine aA (ab (aG (aH (vm (ii x2) (vr (aO z z) (va (ii (i64.wrap (x2+1))) (aK (aR ?_))))))))
    exact⟨k3,bL _,_,_,bK hk2,E,aD ⟨z,z,z,z,z,z,z,trivial⟩,H⟩
   ·refine bt (aM (aM (bu ?_)))
    exact⟨k3,_,_,by omega,E,aD ⟨z,z,z,z,z,z,z,trivial⟩,H⟩
  ·have E:=iF c1 E
   refine wf 4 z z z c1 H (wf 5 z z z c1 H (wf 6 z z z c1 H (wf 7 z z z c1 H (wf 8 z z z c1 H (wf 9 z z z c1 H (wf 10 z z z c1 H (wf 11 z z z c1 H (wf 12 z z z c1 H (wf 13 z z z c1 H (wf 14 z z z c1 H (wg 15 z H (pF (.bool false) z z c1) (wd (ab (bS z (bt (aM (aM (bu ?_))))))))))))))))))
   exact⟨k3,_,_,by omega,E,aD ⟨z,z,z,z,z,z,z,trivial⟩,H⟩
 rintro t w ⟨k2,x1,t2,hk3,E,rfl,H⟩
 unfold fI.j0 at E
 refine ae (rg (vm (ii x1) (vm (ii a2) (vr (cg z z) (nl ?_)))))
 refine aE E z (fun c3 E=>?_) (fun c3 E=>?_)
 ·refine rg (va (.bool true) (nl (aj ?_)))
  cases E
  exact(aL (bG (aL (aL (bG (aL ⟨.inl z,_,tk0 z ⟨aB z (ad ai),z,H.bA 0 z⟩⟩))))))
 ·refine aA (ab (ae (rg (vm (ii a2) (vm (ii a1) (vr (bV z z) (vr (aZ z z) (nl ?_))))))))
  refine aE E z (fun c4 E=>?_) (fun c4 E=>?_)
  ·refine rg (va (.bool false) (nl (aj ?_)))
   cases E
   exact(aL (bG (aL (aL (bG (aL ⟨.inl z,_,tk0 z ⟨aB z (ad ai),z,H.bA 0 z⟩⟩))))))
  ·cases E
end Go.Proofs.YtmhkpafkadijgaaGreatDoor.Gw
