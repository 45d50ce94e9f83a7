/- A part of the proof of Rows.PlayDecodesCardSaid; the conditions are that card's own. -/
import Derived.Test.YtmhkpafkadijgaaGreatDoorQ30
set_option linter.all false
set_option maxRecDepth 100000
set_option maxHeartbeats 4000000
namespace Go.Proofs.YtmhkpafkadijgaaGreatDoor.Gw
open Go.IntKind renaming wrap→I,i64→W
open Go Go.RowKit
variable[de]
open Go.IntKind (i8 i16 i32 i64 u8 u16 u32 u64)
open Tryz hiding prog
open Tryz renaming prog → aa
def bj.j1(k:Nat)(a3:Int)(x1:(Int×Int×Int))(x4:List Int×List Int)(l1:List Int)(x2:ByteArray):Option (Bool):=(strconv_Itoa.f (I W (Int.tmod a3 4))).bind fun x3=>an (decide ((nS.size+x3.size:Nat)≤140737488355328)) (an (decide (((cat nS x3).size+mI.size:Nat)≤140737488355328)) ((strconv_Itoa.f (I W (Int.tmod (u8.wrap (Int.tdiv a3 4)) 4))).bind fun x5=>an (decide (((cat (cat nS x3) mI).size+x5.size:Nat)≤140737488355328)) (an (decide (((cat (cat (cat nS x3) mI) x5).size+mH.size:Nat)≤140737488355328)) ((pP.f k).bind fun x6=>bif x6 then((nV.f (x1.1,x1.2.1,x1.2.2)).bind fun x7=>an (decide ((x7.size+(cat (cat (cat (cat nS x3) mI) x5) mH).size:Nat)≤140737488355328)) (an (decide (((cat x7 (cat (cat (cat (cat nS x3) mI) x5) mH)).size+vV.size:Nat)≤140737488355328)) ((fh.f k x4.2).bind fun x8=>an (decide (((cat (cat x7 (cat (cat (cat (cat nS x3) mI) x5) mH)) vV).size+x8.size:Nat)≤140737488355328)) ((R2.f k l1).bind fun x9=>an (decide (((cat (cat (cat x7 (cat (cat (cat (cat nS x3) mI) x5) mH)) vV) x8).size+x9.size:Nat)≤140737488355328)) (an (decide (((cat (cat (cat (cat x7 (cat (cat (cat (cat nS x3) mI) x5) mH)) vV) x8) x9).size+mH.size:Nat)≤140737488355328)) ((bg.f k (cat (cat (cat (cat (cat x7 (cat (cat (cat (cat nS x3) mI) x5) mH)) vV) x8) x9) mH)).bind fun x10=>an (decide ((SK.size+x2.size:Nat)≤140737488355328)) (an (decide (((cat SK x2).size+mH.size:Nat)≤140737488355328)) (some (decide (x10=cat (cat SK x2) mH))))))))))else(some false)))))
def bj.j0(l1r:Int→(Int×Int×Int)→(List Int×List Int)→List (Int)→(List Int×Bool)→((List Int×List Int×List Int)×Int)→ByteArray→Int→Option Bool)(k:Nat)(a3:Int)(x1:(Int×Int×Int))(x4:List Int×List Int)(l1:List Int):Option (Bool):=(Rp.f k (x1.1,x1.2.1,x1.2.2) x4.2 l1).bind fun x2=>(Rr.f k l1).bind fun x3=>bif x3 then(bj.j1 k a3 x1 x4 l1 fu)else(bif !x2.2 then(bj.j1 k a3 x1 x4 l1 fE)else((SE.f k (x1.1,x1.2.1,x1.2.2) x4.2 x2.1).bind fun x5=>l1r a3 x1 x4 l1 x2 x5 vU 0))
def bj.j2(k:Nat)(a3:Int)(x1:(Int×Int×Int))(x4:List Int×List Int)(l1:List Int)(x2:List Int×Bool)(x3:(List Int×List Int×List Int)×Int)(x5:ByteArray):Option (Bool):=(fh.f k x3.1.2.1).bind fun x6=>an (decide ((x6.size+mI.size:Nat)≤140737488355328)) ((fh.f k x2.1).bind fun x7=>an (decide (((cat x6 mI).size+x7.size:Nat)≤140737488355328)) (an (decide (((cat (cat x6 mI) x7).size+mI.size:Nat)≤140737488355328)) (an (decide (((cat (cat (cat x6 mI) x7) mI).size+x5.size:Nat)≤140737488355328)) (bj.j1 k a3 x1 x4 l1 (cat (cat (cat (cat x6 mI) x7) mI) x5)))))
mutual
def bj.l0:Nat→Int→List Int→(Int×Int×Int)→(List Int×List Int)→List (Int)→Int→Option (Bool)
 |0,_,_,_,_,_,_=>none
 |k+1,a3,a7,x1,x4,l1,x2=>bif decide (x2<(a7.length:Int))then(bif decide (x2<4)then(an (decide ((0:Int)≤x2∧x2<(a7.length:Int))) (an (decide (x1.1≠0)) (an (decide ((l1.length+([Int.tmod (I W (at_ 0 a7 x2)) x1.1]).length)*8≤140737488355328)) (bj.l0 k a3 a7 x1 x4 (l1++([Int.tmod (I W (at_ 0 a7 x2)) x1.1])) (I W (x2+1))))))else(bj.j0 (bj.l1 k) k a3 x1 x4 l1))else(bj.j0 (bj.l1 k) k a3 x1 x4 l1)
def bj.l1:Nat→Int→(Int×Int×Int)→(List Int×List Int)→List (Int)→(List Int×Bool)→((List Int×List Int×List Int)×Int)→ByteArray→Int→Option (Bool)
 |0,_,_,_,_,_,_,_,_=>none
 |k+1,a3,x1,x4,l2,x3,x5,x6,x7=>bif decide (x7<(x5.1.2.2.length:Int))then(bif decide (x7=0)then(an (decide ((0:Int)≤0∧0<(x5.1.2.2.length:Int))) ((strconv_Itoa.f (at_ 0 x5.1.2.2 0)).bind fun x8=>bj.l1 k a3 x1 x4 l2 x3 x5 x8 (I W (x7+1))))else(an (decide ((x6.size+lG.size:Nat)≤140737488355328)) (an (decide ((0:Int)≤x7∧x7<(x5.1.2.2.length:Int))) ((strconv_Itoa.f (at_ 0 x5.1.2.2 x7)).bind fun x9=>an (decide (((cat x6 lG).size+x9.size:Nat)≤140737488355328)) (bj.l1 k a3 x1 x4 l2 x3 x5 (cat (cat x6 lG) x9) (I W (x7+1)))))))else(bj.j2 k a3 x1 x4 l2 x3 x5 x6)
end
def bj.f(k:Nat)(a0 a1 a2 a3:Int)(a4 a5 a6 a7:List Int):Option (Bool):=(nU.f a0 a1 a2).bind fun x1=>(Rq.f k (x1.1,x1.2.1,x1.2.2) a4 a5 a6 x1.1).bind fun x4=>bj.l0 k a3 a7 x1 x4 ([]:List Int) 0
theorem bj.calls{w0:World}{k:Nat}{a0 a1 a2 a3:Int}{a4 a5 a6 a7:List Int}{v4_ v5_ v6_ v7_:Value}{r:Bool}(hf:(Rs.env).inv w0)(h4:Zf no w0 v4_ a4)(h5:Zf no w0 v5_ a5)(h6:Zf no w0 v6_ a6)(h7:Zf no w0 v7_ a7)(E:bj.f k a0 a1 a2 a3 a4 a5 a6 a7=some r):
 Calls aa 3 #[iu a0,iu a1,iu a2,iu a3,v4_,v5_,v6_,v7_] w0 fun e w'=>e= .returned (.bool r)∧St (Rs.env).fp w0 w' [.gt,.lv]:=by
 have H:=vD hf
 unfold bj.f at E
 refine Zb func3 ?_
 refine A_ ?_
 refine ye (E9 Km H E (fun _=>nU.calls) (fun x1 E w H=>ye (cr rU H (fun b3 w H=>s_ (cy qj H 2 z z z z z z (fun w H=>nl (rg (vr (bp (l:=[ii x1.1,ii x1.2.1,ii x1.2.2]) cv (H.Gt 2 z) z z z) (A_ ?_)))))))))
 obtain⟨x4,E5,E⟩:=ay E
 refine ye (au WZ z ((Rq.calls (Iz H (IB H z z hf h4)) (Iz H (IB H z z hf h5)) (Iz H (IB H z z hf h6)) E5).mono ?_))
 rintro _ w ⟨v6,v7,rfl,K⟩
 have H:=H.app K
 refine⟨_,z,J_ ?_⟩
 refine cA (fun t w=>∃(k1:Nat)(l1:List Int)(v1:Value)(t1:Fr),k1≤k∧bj.j0 (bj.l1 k1) k1 a3 x1 x4 l1=some r∧t=aU t1 [(3,iu a3),(16,.bool false),(17,pt b3),(19,v7),(20,v1),Zc]∧St (Rs.env).fp w0 w [.gt,.lv,.blk b3 #[ii x1.1,ii x1.2.1,ii x1.2.2] 24,Y9 v6 x4.1,Y9 v7 x4.2,Zh v1 l1]) ?_ ?_
 ·refine A_ ?_
  have H:=H.bB (.int .i64) 3
  refine bx (fun kk t w=>∃(l2:List Int)(x2:Int)(v2:Value)(t2:Fr),kk≤k∧bj.l0 kk a3 a7 x1 x4 l2 x2=some r∧t=aU t2 [(3,iu a3),(7,v7_),(16,.bool false),(17,pt b3),(19,v7),(20,v2),(21,ii x2),Zc]∧St (Rs.env).fp w0 w [.gt,.lv,.blk b3 #[ii x1.1,ii x1.2.1,ii x1.2.2] 24,Y9 v6 x4.1,Y9 v7 x4.2,Zh v2 l2]) k Ze ?_
  rintro kk t w ⟨l2,x2,v2,t2,hk1,E,rfl,H⟩
  obtain⟨k2,rfl⟩:=Zd kk
  rw[bj.l0]at E
  refine A_ ?_
  refine vr (aY bI (IB H z z hf h7) z) (A_ ?_)
  rcases bR (decide (x2<(a7.length:Int)))with c1|c1
  ·have E:=iT c1 E
   refine A_ ?_
   refine aE E z ?_ ?_<;>intro c2 E<;>refine A_ ?_
   ·refine eZ (ds:=[]) (fun w=>∃(v':Value)(l':List Int),St (Rs.env).fp w0 w [.gt,.lv,.blk b3 #[ii x1.1,ii x1.2.1,ii x1.2.2] 24,Y9 v6 x4.1,Y9 v7 x4.2,Zh v' l']) bZ H z z ?_
    have H:=H.drew
    refine B_ [0,1,2] ⟨_,_,H⟩ ?_
    obtain⟨⟨g1,g2⟩,E⟩:=ar E
    refine wz 3 z ⟨_,_,H⟩ (fun w ⟨v',l',H⟩=>bo aN (IB H z z hf h7) z z g1 g2) (wz 4 z ⟨_,_,H⟩ (fun w ⟨v',l',H⟩=>bq bC (IB H z z hf h7) g1 g2 z) (B_ [5,6,7] ⟨_,_,H⟩ ?_))
    obtain⟨g3,E⟩:=ar E
    refine B_ [8] ⟨_,_,H⟩ ?_
    refine wo 9 z (cL (e:=(.int .i64)) (l:=[Int.tmod (I W (at_ 0 a7 x2)) x1.1]) gl H z f_ ⟨z,z,acu⟩ f_ (fun v3 w H=>⟨fun _=>⟨_,_,H.Y8 [0,1,2,3,4,5]⟩,?_⟩))
    obtain⟨g4,E⟩:=ar E
    refine wo 10 z (dZ gl H 5 z (ao (H.Gt 6 z)) z z a_ u_ (fun v4 w H=>⟨fun _=>⟨_,_,H.Y8 [0,1,2,3,4,5]⟩,B_ [11] ⟨_,_,H.Y8 [0,1,2,3,4,5]⟩ ?_⟩))
    exact⟨k2,bL _,_,_,_,_,bK hk1,E,Za,H.Y8 [0,1,2,3,4,5]⟩
   exact⟨k2,_,_,_,a_,E,Za,H⟩
  have E:=iF c1 E
  refine A_ ?_
  exact⟨k2,_,_,_,a_,E,Za,H⟩
 rintro t w ⟨k1,l1,v1,t1,hk2,E,rfl,H⟩
 unfold bj.j0 at E
 refine A_ ?_
 refine vr (bp (l:=[ii x1.1,ii x1.2.1,ii x1.2.2]) cv (H.Gt 2 z) z z z) (A_ ?_)
 refine ye (YM W4 H E (fun _=>Rp.calls (H.own 4 z (ao (H.Gt 4 z))) (H.own 5 z (ao (H.Gt 5 z)))) (fun x3 E v5 w H=>J_ ?_))
 refine cA (fun t w=>∃(k3:Nat)(x5:ByteArray)(t3:Fr),k3≤k1∧bj.j1 k3 a3 x1 x4 l1 x5=some r∧t=aU t3 [(3,iu a3),(16,.bool false),(17,pt b3),(19,v7),(20,v1),(22,.string x5),Zc]∧St (Rs.env).fp w0 w [.gt,.lv,.blk b3 #[ii x1.1,ii x1.2.1,ii x1.2.2] 24,Y9 v6 x4.1,Y9 v7 x4.2,Zh v1 l1,Y9 v5 x3.1]) ?_ ?_
 ·refine A_ ?_
  refine ye (E9 W5 H E (fun _=>Rr.calls (H.own 5 z (ao (H.Gt 5 z)))) (fun x6 E w H=>A_ ?_))
  refine aE E z ?_ ?_<;>intro c3 E<;>refine A_ ?_
  ·exact⟨k1,_,_,aI _,E,Za,H⟩
  refine aE E z ?_ ?_<;>intro c4 E
  ·refine A_ ?_
   exact⟨k1,_,_,aI _,E,Za,H⟩
  refine rg (vr (bp (l:=[ii x1.1,ii x1.2.1,ii x1.2.2]) cv (H.Gt 2 z) z z z) (A_ ?_))
  obtain⟨x7,E4,E⟩:=ay E
  refine ye (au W6 z ((SE.calls (H.own 4 z (ao (H.Gt 4 z))) (H.own 6 z (ao (H.Gt 6 z))) E4).mono ?_))
  rintro _ w ⟨v8,v9,v10,rfl,K⟩
  have H:=H.app K
  refine⟨_,z,A_ ?_⟩
  refine ye (cr vB H (fun b1 w H=>?_))
  obtain⟨p1,n1,c5,rfl⟩:=bX (H.Gt 7 z)
  obtain⟨p2,n2,c6,rfl⟩:=bX (H.Gt 8 z)
  obtain⟨p3,n3,c7,rfl⟩:=bX (H.Gt 9 z)
  refine s_ (cy sR H 10 z z z z z z (fun w H=>?_))
  have H:St _ _ _ [_,_,_,_,_,_,_,_,_,_,_]:=H
  refine J_ ?_
  refine cA (fun t w=>∃(k4:Nat)(x8:ByteArray)(t4:Fr),k4≤k1∧bj.j2 k4 a3 x1 x4 l1 x3 x7 x8=some r∧t=aU t4 [(3,iu a3),(16,.bool false),(17,pt b3),(19,v7),(20,v1),(22,.string A9),(23,v5),(25,pt b1),(27,.string x8),Zc]∧St (Rs.env).fp w0 w [.gt,.lv,.blk b3 #[ii x1.1,ii x1.2.1,ii x1.2.2] 24,Y9 v6 x4.1,Y9 v7 x4.2,Zh v1 l1,Y9 v5 x3.1,Y9 (.slice p1 n1 c5) x7.1.1,Y9 (.slice p2 n2 c6) x7.1.2.1,Zh (.slice p3 n3 c7) x7.1.2.2,.blk b1 #[(.slice p1 n1 c5),(.slice p2 n2 c6),(.slice p3 n3 c7)] 33]) ?_ ?_
  ·refine A_ ?_
   refine bx (fun kk t w=>∃(x9:ByteArray)(x10:Int)(t5:Fr),kk≤k1∧bj.l1 kk a3 x1 x4 l1 x3 x7 x9 x10=some r∧t=aU t5 [(3,iu a3),(16,.bool false),(17,pt b3),(19,v7),(20,v1),(22,.string A9),(23,v5),(25,pt b1),(27,.string x9),(28,ii x10),Zc]∧St (Rs.env).fp w0 w [.gt,.lv,.blk b3 #[ii x1.1,ii x1.2.1,ii x1.2.2] 24,Y9 v6 x4.1,Y9 v7 x4.2,Zh v1 l1,Y9 v5 x3.1,Y9 (.slice p1 n1 c5) x7.1.1,Y9 (.slice p2 n2 c6) x7.1.2.1,Zh (.slice p3 n3 c7) x7.1.2.2,.blk b1 #[(.slice p1 n1 c5),(.slice p2 n2 c6),(.slice p3 n3 c7)] 33]) k1 Ze ?_
   rintro kk t w ⟨x9,x10,t5,hk3,E,rfl,H⟩
   obtain⟨k5,rfl⟩:=Zd kk
   rw[bj.l1]at E
   refine A_ ?_
   refine aE E z ?_ ?_<;>intro c8 E<;>refine A_ ?_
   ·refine aE E z ?_ ?_<;>intro c9 E<;>refine A_ ?_
    ·obtain⟨⟨g5,g6⟩,E⟩:=ar E
     refine A_ ?_
     refine ye (YL vR H 1 E z (fun _=>strconv_Itoa.calls (H.Gt 1 z)) (fun x11 E w H=>A_ ?_))
     exact⟨k5,bL _,_,_,_,bK hk3,E,Za,H⟩
    obtain⟨g7,E⟩:=ar E
    refine vr (cJ z z g7) (A_ ?_)
    obtain⟨⟨g8,g9⟩,E⟩:=ar E
    refine A_ ?_
    refine ye (YL vR H 1 E z (fun _=>strconv_Itoa.calls (H.Gt 1 z)) (fun x12 E w H=>?_))
    obtain⟨g10,E⟩:=ar E
    refine vr (cJ z z g10) (A_ ?_)
    exact⟨k5,bL _,_,_,_,bK hk3,E,Za,H⟩
   exact⟨k5,_,_,a_,E,Za,H⟩
  rintro t w ⟨k4,x8,t4,hk4,E,rfl,H⟩
  unfold bj.j2 at E
  refine A_ ?_
  refine ye (E9 rB H E (fun _=>fh.calls (H.own 8 z (ao (H.Gt 8 z)))) (fun x13 E w H=>?_))
  obtain⟨g11,E⟩:=ar E
  refine vr (cJ z z g11) (A_ ?_)
  refine ye (E9 rB H E (fun _=>fh.calls (H.own 6 z (ao (H.Gt 6 z)))) (fun x14 E w H=>?_))
  obtain⟨g12,E⟩:=ar E
  refine vr (cJ z z g12) ?_
  obtain⟨g13,E⟩:=ar E
  refine vr (cJ z z g13) (A_ ?_)
  obtain⟨g14,E⟩:=ar E
  refine vr (cJ z z g14) (A_ ?_)
  exact⟨k4,_,_,a_,E,Za,H.Y8 [0,1,2,3,4,5,6]⟩
 rintro t w ⟨k3,x5,t3,hk5,E,rfl,H⟩
 unfold bj.j1 at E
 refine A_ ?_
 refine ye (YL vR H 1 E z (fun _=>strconv_Itoa.calls (H.Gt 1 z)) (fun x15 E w H=>?_))
 obtain⟨g15,E⟩:=ar E
 refine vr (cJ z z g15) ?_
 obtain⟨g16,E⟩:=ar E
 refine vr (cJ z z g16) (A_ ?_)
 refine ye (YL vR H 1 E z (fun _=>strconv_Itoa.calls (H.Gt 1 z)) (fun x16 E w H=>?_))
 obtain⟨g17,E⟩:=ar E
 refine vr (cJ z z g17) ?_
 obtain⟨g18,E⟩:=ar E
 refine vr (cJ z z g18) (A_ ?_)
 obtain⟨x17,E12,E⟩:=ay E
 refine ye (au Ka z ((pP.calls (sV (H.Gt 0 z) (H.Gt 1 z)) E12).mono ?_))
 rintro _ w ⟨rfl,K⟩
 have H:=H.sC 0 1 z z f_ K
 refine⟨_,z,A_ ?_⟩
 rcases bR (x17)with c10|c10
 ·have E:=iT c10 E
  refine oo c10 z (bp (l:=[ii x1.1,ii x1.2.1,ii x1.2.2]) cv (H.Gt 2 z) z z z) ?_
  refine dP z c10 z (YL Kf H 1 E z (fun _=>nV.calls (H.Gt 1 z)) (fun x18 E w H=>A_ ?_))
  obtain⟨g19,E⟩:=ar E
  refine oo c10 z (cJ z z g19) ?_
  obtain⟨g20,E⟩:=ar E
  refine oo c10 z (cJ z z g20) (A_ ?_)
  refine dP z c10 z (E9 rB H E (fun _=>fh.calls (H.own 4 z (ao (H.Gt 4 z)))) (fun x19 E w H=>?_))
  have H:St _ _ _ [_,_,_,_,_,_,_]:=H
  obtain⟨g21,E⟩:=ar E
  refine oo c10 z (cJ z z g21) (A_ ?_)
  refine dP z c10 z (YL WM H 1 E z (fun _=>R2.calls (H.Gt 1 z) (H.cb 5 1 z z z (ao (H.Gt 5 z)))) (fun x20 E w H=>?_))
  obtain⟨g22,E⟩:=ar E
  refine oo c10 z (cJ z z g22) ?_
  obtain⟨g23,E⟩:=ar E
  refine oo c10 z (cJ z z g23) ?_
  obtain⟨x21,E16,E⟩:=ay E
  refine dP z c10 z (au vS z ((bg.calls (sV (H.Gt 0 z) (H.Gt 1 z)) E16).mono ?_))
  rintro _ w ⟨rfl,K⟩
  have H:=H.sC 0 1 z z f_ K
  refine⟨_,z,A_ ?_⟩
  obtain⟨g24,E⟩:=ar E
  refine oo c10 z (cJ z z g24) ?_
  obtain⟨g25,E⟩:=ar E
  refine oo c10 z (cJ z z g25) (oo c10 z (ov z z) (A_ ?_))
  cases E
  exact⟨.inl z,_,tk0 z ⟨aB z (ad ai),z,H.bN 0 1 z z z⟩⟩
 have E:=iF c10 E
 refine A_ ?_
 cases E
 exact⟨.inl z,_,tk0 z ⟨aB z (ad ai),z,H.bN 0 1 z z z⟩⟩
end Go.Proofs.YtmhkpafkadijgaaGreatDoor.Gw
