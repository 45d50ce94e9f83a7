/- A part of the proof of Rows.PlayDecodesCardSaid; the conditions are that card's own. -/
import Derived.Test.YtmhkpafkadijgaaGreatDoorQ27
set_option linter.all false
set_option maxRecDepth 100000
set_option maxHeartbeats 4000000
namespace Go.Proofs.YtmhkpafkadijgaaGreatDoor.Gw
open Go.IntKind renaming wrap→I,i64→W
open Go Go.RowKit
variable[de]
open Go.IntKind (i8 i16 i32 i64 u8 u16 u32 u64)
open Tryz hiding prog
open Tryz renaming prog → aa
variable{w0:World}{k:Nat}{v0_ v0_2_ v1_ v2_ v3_:Value}
def ir.l0:Nat→List Int→Int→(List Int×Bool)→List (Int)→Int→Option (List Int×Int)
 |0,_,_,_,_,_=>none
 |k+1,a1,x1,x2,l1,x3=>bif decide (x3<x1)then((jr.f x2.1 x3).bind fun x4=>an (decide ((l1.length+([x4]).length)*1≤140737488355328)) (ir.l0 k a1 x1 x2 (l1++([x4])) (I W (x3+1))))else(an (decide ((l1.length+a1.length)*1≤140737488355328)) (some (l1++a1,0)))
def ir.f(k:Nat)(a0:Int×Int×Int)(a1:List Int):Option (List Int×Int):=(kC.f (a0.1,a0.2.1,a0.2.2)).bind fun x5=>bif !decide (x5=0)then(some (([]:List Int),10))else(bif !decide ((a1.length:Int)=a0.2.1)then(some (([]:List Int),12))else((lR.f (a0.1,a0.2.1,a0.2.2)).bind fun x1=>(lQ.f k a1 x1).bind fun x2=>(oB.f k (a0.1,a0.2.1,a0.2.2)).bind fun x3=>(oA.f k x2 x3).bind fun x4=>ir.l0 k a1 x1 x4 ([]:List Int) 0))
theorem ir.calls{a0:Int×Int×Int}{a1:List Int}{r:List Int×Int}(h1:Zf no w0 v1_ a1)(E:ir.f k a0 a1=some r):
 Calls aa 16 #[.agg #[ii a0.1,ii a0.2.1,ii a0.2.2],v1_] w0 fun e w'=>∃(u0:Value),e= .returned (.tuple #[u0,ii r.2])∧St no w0 w' [Y9 u0 r.1]:=by
 have H:=St.nil no w0
 unfold ir.f at E
 refine Zb func16 ?_
 refine rg (ye (bc (cs:=#[ii a0.1,ii a0.2.1,ii a0.2.2]) H z (fun b1 w H=>A_ ?_)))
 refine vr (bp (l:=[ii a0.1,ii a0.2.1,ii a0.2.2]) cv (H.Gt 0 z) z z z) ?_
 refine ye (E9 vT H E (fun _=>kC.calls) (fun x5 E w H=>A_ ?_))
 refine aE E z ?_ ?_<;>intro c7 E<;>refine A_ ?_
 ·have H:=H.bB (.int .u8) 5
  cases E
  exact(aL ⟨.inl z,_,tk0 z ⟨aB z (ad (ad ai)),_,z,H.bA 1 z⟩⟩)
 refine aE E z ?_ ?_<;>intro c9 E
 ·refine A_ ?_
  have H:=H.bB (.int .u8) 5
  cases E
  exact(aL ⟨.inl z,_,tk0 z ⟨aB z (ad (ad ai)),_,z,H.bA 1 z⟩⟩)
 refine aA (ab (rg (vr (bp (l:=[ii a0.1,ii a0.2.1,ii a0.2.2]) cv (H.Gt 0 z) z z z) ?_)))
 refine ye (E9 A6 H E (fun _=>lR.calls) (fun x1 E w H=>A_ ?_))
 refine cd (ds:=[]) bZ H z z ?_
 have H:=H.drew
 refine B_ [0,1] H ?_
 refine wz 3 z H (fun w H=>bp (l:=[ii a0.1,ii a0.2.1,ii a0.2.2]) cv (H.Gt 0 z) z z z) ?_
 refine wo 2 z (YM A7 H E (fun _=>lQ.calls (H.arg (H.rd h1))) (fun x2 E v1 w H=>⟨fun _=>H.Y8 [0],?_⟩))
 refine wo 4 z (YM Kl H E (fun _=>oB.calls) (fun x3 E v2 w H=>⟨fun _=>H.Y8 [0],?_⟩))
 have H:St _ _ _ [_,_,_]:=H
 refine wo 5 z (YM Kk H E (fun _=>oA.calls (H.own 1 z (ao (H.Gt 1 z))) (H.own 2 z (ao (H.Gt 2 z)))) (fun x4 E v3 w H=>⟨fun _=>H.Y8 [0],B_ [6,7,8,9,10] (H.Y8 [0]) ?_⟩))
 have H:=H.bB (.int .u8) 5
 refine bx (fun kk t w=>∃(l1:List Int)(x6:Int)(v4:Value)(t1:Fr),kk≤k∧ir.l0 kk a1 x1 x4 l1 x6=some r∧t=aU t1 [(1,v1_),(4,sn),(5,ii 0),(6,ii x1),(7,v3),(9,v4),(10,ii x6),Zc]∧St no w0 w [.blk b1 #[ii a0.1,ii a0.2.1,ii a0.2.2] 24,Y9 v1 x2,Y9 v2 x3,Y9 v3 x4.1,Y9 v4 l1]) k Ze ?_
 rintro kk t w ⟨l1,x6,v4,t1,hk1,E,rfl,H⟩
 obtain⟨k1,rfl⟩:=Zd kk
 rw[ir.l0]at E
 refine A_ ?_
 refine aE E z ?_ ?_<;>intro c1 E<;>refine A_ ?_
 ·refine ye (E9 tD H E (fun _=>jr.calls (H.own 3 z (ao (H.Gt 3 z)))) (fun x7 E w H=>ye (cL (e:=(.int .u8)) (l:=[x7]) aN H z f_ ⟨z,z,acu⟩ f_ (fun v5 w H=>?_))))
  obtain⟨g1,E⟩:=ar E
  refine ye (dZ aN H 4 z (ao (H.Gt 5 z)) z z a_ u_ (fun v6 w H=>A_ ?_))
  exact⟨k1,bL _,_,_,_,_,bK hk1,E,Za,H.Y8 [0,1,2,3,4]⟩
 obtain⟨g2,E⟩:=ar E
 refine ye (dZ aN H 4 z (H.rd h1) z z a_ u_ (fun v7 w H=>A_ ?_))
 cases E
 exact⟨.inl z,_,tk0 z ⟨aB z (ad (ad ai)),_,z,H.bA 4 z⟩⟩
def nT.f(a0:Int×Int×Int)(a1:List Int):Option (List Int):=an (decide ((0:Int)≤a0.2.1∧a0.2.1≤a0.2.1∧a0.2.1≤140737488355328)) (some (cB 0 (List.replicate a0.2.1.toNat (0:Int)).length a1 (List.replicate a0.2.1.toNat (0:Int))))
theorem nT.calls{a0:Int×Int×Int}{a1:List Int}{r:List Int}(h1:Zf no w0 v1_ a1)(E:nT.f a0 a1=some r):
 Calls aa 17 #[.agg #[ii a0.1,ii a0.2.1,ii a0.2.2],v1_] w0 fun e w'=>∃(u0:Value),e= .returned (u0)∧St no w0 w' [Y9 u0 r]:=by
 have H:=St.nil no w0
 unfold nT.f at E
 refine Zb func17 ?_
 refine rg (ye (bc (cs:=#[ii a0.1,ii a0.2.1,ii a0.2.2]) H z (fun b1 w H=>A_ ?_)))
 obtain⟨⟨g3,g4,g5⟩,E⟩:=ar E
 refine ye (ee (e:=(.int .u8)) (z0:=0) aN z H z z g3 g4 a_ a_ (fun v2 w H=>A_ ?_))
 refine ye (uL aN H 1 z (H.rd h1) z z (fun w H=>A_ ?_))
 cases E
 exact⟨.inl z,_,tk0 z ⟨aB z (ad ai),_,z,H.bA 1 z⟩⟩
def Ry.l0:Nat→List Int→Int→Int→Option (Int)
 |0,_,_,_=>none
 |k+1,a0,a1,x6=>bif decide (x6<(a0.length:Int))then(an (decide ((0:Int)≤x6∧x6<(a0.length:Int))) (bif decide (at_ 0 a0 x6=a1)then(some x6)else(Ry.l0 k a0 a1 (I W (x6+1)))))else(some (-1))
def Ry.f(k:Nat)(a0:List Int)(a1:Int):Option (Int):=Ry.l0 k a0 a1 0
theorem Ry.calls{a0:List Int}{a1:Int}{r:Int}(h0:Rd (.of (.int .i64)) w0 (Ol no w0) v0_ a0)(E:Ry.f k a0 a1=some r):
 Calls aa 23 #[v0_,ii a1] w0 fun e w'=>e= .returned (ii r)∧St no w0 w' []:=by
 have H:=St.nil no w0
 unfold Ry.f at E
 refine Zb func23 ?_
 refine A_ ?_
 refine bx (fun kk t w=>∃(x6:Int)(t1:Fr),kk≤k∧Ry.l0 kk a0 a1 x6=some r∧t=aU t1 [(0,v0_),(1,ii a1),(4,ii 0),(5,ii x6),Zc]∧St no w0 w []) k Ze ?_
 rintro kk t w ⟨x6,t1,hk1,E,rfl,H⟩
 obtain⟨k12,rfl⟩:=Zd kk
 rw[Ry.l0]at E
 refine A_ ?_
 refine aE E z ?_ ?_<;>intro c1 E<;>refine A_ ?_
 ·obtain⟨⟨g1,g2⟩,E⟩:=ar E
  refine A_ ?_
  refine aE E z ?_ ?_<;>intro c2 E<;>refine A_ ?_
  ·cases E
   exact(bG (aL (aL (bG (aL ⟨.inl z,_,tk0 z ⟨aB z (ad ai),z,H.bs⟩⟩)))))
  exact⟨k12,bL _,_,_,bK hk1,E,Za,H⟩
 cases E
 exact⟨.inl z,_,tk0 z ⟨aB z (ad ai),z,H.bs⟩⟩
def RD.l0:Nat→(Int×Int×Int)→List Int→Int→List (Int)→Int→Option (List Int)
 |0,_,_,_,_,_=>none
 |k+1,a0,a1,a2,l1,x1=>bif decide (x1<(a1.length:Int))then(bif decide ((l1.length:Int)<a2)then(an (decide ((0:Int)≤x1∧x1<(a1.length:Int))) (an (decide (a0.1≠0)) ((Ry.f k l1 (Int.tmod (I W (at_ 0 a1 x1)) a0.1)).bind fun x2=>bif decide (x2<0)then(an (decide ((l1.length+([Int.tmod (I W (at_ 0 a1 x1)) a0.1]).length)*8≤140737488355328)) (RD.l0 k a0 a1 a2 (l1++([Int.tmod (I W (at_ 0 a1 x1)) a0.1])) (I W (x1+1))))else(RD.l0 k a0 a1 a2 l1 (I W (x1+1))))))else(some l1))else(some l1)
def RD.f(k:Nat)(a0:Int×Int×Int)(a1:List Int)(a2:Int):Option (List Int):=RD.l0 k a0 a1 a2 ([]:List Int) 0
theorem RD.calls{a0:Int×Int×Int}{a1:List Int}{a2:Int}{r:List Int}(h1:Zf no w0 v1_ a1)(E:RD.f k a0 a1 a2=some r):
 Calls aa 19 #[.agg #[ii a0.1,ii a0.2.1,ii a0.2.2],v1_,ii a2] w0 fun e w'=>∃(u0:Value),e= .returned (u0)∧St no w0 w' [Zh u0 r]:=by
 have H:=St.nil no w0
 unfold RD.f at E
 refine Zb func19 ?_
 refine rg (ye (bc (cs:=#[ii a0.1,ii a0.2.1,ii a0.2.2]) H z (fun b1 w H=>A_ ?_)))
 have H:=H.bB (.int .i64) 3
 refine bx (fun kk t w=>∃(l1:List Int)(x1:Int)(v1:Value)(t1:Fr),kk≤k∧RD.l0 kk a0 a1 a2 l1 x1=some r∧t=aU t1 [(1,v1_),(2,ii a2),(3,pt b1),(6,sn),(7,v1),(8,ii x1),Zc]∧St no w0 w [.blk b1 #[ii a0.1,ii a0.2.1,ii a0.2.2] 24,Zh v1 l1]) k Ze ?_
 rintro kk t w ⟨l1,x1,v1,t1,hk1,E,rfl,H⟩
 obtain⟨k1,rfl⟩:=Zd kk
 rw[RD.l0]at E
 refine A_ ?_
 rcases bR (decide (x1<(a1.length:Int)))with c1|c1
 ·have E:=iT c1 E
  refine A_ ?_
  refine aE E z ?_ ?_<;>intro c2 E<;>refine A_ ?_
  ·refine cd (ds:=[]) bZ H z z ?_
   have H:=H.drew
   refine B_ [0,1] H ?_
   obtain⟨⟨g1,g2⟩,E⟩:=ar E
   refine B_ [2,3,4,5,6] H ?_
   obtain⟨g3,E⟩:=ar E
   refine B_ [7,8] H ?_
   refine ye (E9 S7 H E (fun _=>Ry.calls (H.own 1 z (ao (H.Gt 1 z)))) (fun x2 E w H=>A_ ?_))
   refine aE E z ?_ ?_<;>intro c3 E<;>refine A_ ?_
   ·refine ye (cL (e:=(.int .i64)) (l:=[Int.tmod (I W (at_ 0 a1 x1)) a0.1]) gl H z f_ ⟨z,z,acu⟩ f_ (fun v2 w H=>?_))
    obtain⟨g4,E⟩:=ar E
    refine ye (dZ gl H 1 z (ao (H.Gt 2 z)) z z a_ u_ (fun v3 w H=>A_ ?_))
    exact⟨k1,bL _,_,_,_,_,bK hk1,E,Za,H.Y8 [0,1]⟩
   exact⟨k1,bL _,_,_,_,_,bK hk1,E,Za,H⟩
  cases E
  exact⟨.inl z,_,tk0 z ⟨aB z (ad ai),_,z,H.bA 1 z⟩⟩
 have E:=iF c1 E
 refine A_ ?_
 cases E
 exact⟨.inl z,_,tk0 z ⟨aB z (ad ai),_,z,H.bA 1 z⟩⟩
def Rq.j0(l0r:List Int→(List Int×Int)→List Int→List (Int)→Int→Option (List Int×List Int))(k:Nat)(a3:List Int)(x5:List Int×Int)(x1:List Int)(l1:List Int)(x2 x3:Int):Option (List Int×List Int):=an (decide ((0:Int)≤x2∧x2<(x1.length:Int))) (an (decide ((0:Int)≤x2∧x2<(x1.length:Int))) (an (decide ((0:Int)≤at_ 0 x1 x2∧at_ 0 x1 x2<(l1.length:Int))) (an (decide ((0:Int)≤at_ 0 x1 x2∧at_ 0 x1 x2<(l1.length:Int))) (l0r a3 x5 x1 (l1.set (at_ 0 x1 x2).toNat (bits .xor .u8 (at_ 0 l1 (at_ 0 x1 x2)) x3)) (I W (x2+1))))))
def Rq.l0:Nat→List Int→(List Int×Int)→List Int→List (Int)→Int→Option (List Int×List Int)
 |0,_,_,_,_,_=>none
 |k+1,a3,x5,x1,l1,x2=>bif decide (x2<(x1.length:Int))then(bif decide (x2<(a3.length:Int))then(an (decide ((0:Int)≤x2∧x2<(a3.length:Int))) (Rq.j0 (Rq.l0 k) k a3 x5 x1 l1 x2 (at_ 0 a3 x2)))else(Rq.j0 (Rq.l0 k) k a3 x5 x1 l1 x2 (u8.wrap (I W (1+x2)))))else(some (x5.1,l1))
def Rq.f(k:Nat)(a0:Int×Int×Int)(a1 a2 a3:List Int)(a4:Int):Option (List Int×List Int):=(nT.f (a0.1,a0.2.1,a0.2.2) a1).bind fun x2=>(ir.f k (a0.1,a0.2.1,a0.2.2) x2).bind fun x5=>an (decide ((([]:List Int).length+x5.1.length)*1≤140737488355328)) ((RD.f k (a0.1,a0.2.1,a0.2.2) a2 a4).bind fun x1=>Rq.l0 k a3 x5 x1 (([]:List Int)++x5.1) 0)
theorem Rq.calls{a0:Int×Int×Int}{a1 a2 a3:List Int}{a4:Int}{r:List Int×List Int}(h1:Zf no w0 v1_ a1)(h2:Zf no w0 v2_ a2)(h3:Zf no w0 v3_ a3)(E:Rq.f k a0 a1 a2 a3 a4=some r):
 Calls aa 6 #[.agg #[ii a0.1,ii a0.2.1,ii a0.2.2],v1_,v2_,v3_,ii a4] w0 fun e w'=>∃(u0 u1:Value),e= .returned (.tuple #[u0,u1])∧St no w0 w' [Y9 u0 r.1,Y9 u1 r.2]:=by
 have H:=St.nil no w0
 unfold Rq.f at E
 refine Zb func6 ?_
 refine rg (ye (bc (cs:=#[ii a0.1,ii a0.2.1,ii a0.2.2]) H z (fun b1 w H=>A_ ?_)))
 refine cd (ds:=[]) bZ H z z ?_
 have H:=H.drew
 refine wz 0 z H (fun w H=>bp (l:=[ii a0.1,ii a0.2.1,ii a0.2.2]) cv (H.Gt 0 z) z z z) (wz 1 z H (fun w H=>bp (l:=[ii a0.1,ii a0.2.1,ii a0.2.2]) cv (H.Gt 0 z) z z z) (B_ [2] H ?_))
 refine wo 3 z (YM Kh H E (fun _=>nT.calls (H.arg (H.rd h1))) (fun x2 E v4 w H=>⟨fun _=>H.Y8 [0],?_⟩))
 refine wo 4 z (YM Kg H E (fun _=>ir.calls (H.own 1 z (ao (H.Gt 1 z)))) (fun x5 E v7 w H=>⟨fun _=>H.Y8 [0],B_ [5,6,7,8,9] (H.Y8 [0]) ?_⟩))
 have H:=H.bB (.int .u8) 5
 obtain⟨g9,E⟩:=ar E
 refine ye (dZ aN H 3 z (ao (H.Gt 2 z)) z z a_ u_ (fun v8 w H=>A_ ?_))
 refine vr (bp (l:=[ii a0.1,ii a0.2.1,ii a0.2.2]) cv (H.Gt 0 z) z z z) (A_ ?_)
 refine ye (YM WN H E (fun _=>RD.calls (H.arg (H.rd h2))) (fun x1 E v1 w H=>?_))
 have H:St _ _ _ [_,_,_,_,_]:=H
 refine A_ ?_
 refine bx (fun kk t w=>∃(l1:List Int)(x3:Int)(t1:Fr),kk≤k∧Rq.l0 kk a3 x5 x1 l1 x3=some r∧t=aU t1 [(3,v3_),(10,sn),(11,sn),(12,v7),(14,v8),(15,v1),(16,ii x3),Zc]∧St no w0 w [.blk b1 #[ii a0.1,ii a0.2.1,ii a0.2.2] 24,Y9 v4 x2,Y9 v7 x5.1,Y9 v8 l1,Zh v1 x1]) k Ze ?_
 rintro kk t w ⟨l1,x3,t1,hk1,E,rfl,H⟩
 obtain⟨k1,rfl⟩:=Zd kk
 rw[Rq.l0]at E
 refine A_ ?_
 refine aE E z ?_ ?_<;>intro c1 E
 ·refine aA (ab (ae (J_ ?_)))
  refine cA (fun t w=>∃(k2:Nat)(x4:Int)(t2:Fr),k2≤k1∧Rq.j0 (Rq.l0 k2) k2 a3 x5 x1 l1 x3 x4=some r∧t=aU t2 [(3,v3_),(10,sn),(11,sn),(12,v7),(14,v8),(15,v1),(16,ii x3),(17,iu x4),Zc]∧St no w0 w [.blk b1 #[ii a0.1,ii a0.2.1,ii a0.2.2] 24,Y9 v4 x2,Y9 v7 x5.1,Y9 v8 l1,Zh v1 x1]) ?_ ?_
  ·refine A_ ?_
   refine aE E z ?_ ?_<;>intro c2 E
   ·refine A_ ?_
    obtain⟨⟨g1,g2⟩,E⟩:=ar E
    refine A_ ?_
    exact⟨k1,_,_,aI _,E,Za,H⟩
   refine aA ?_
   exact⟨k1,_,_,aI _,E,Za,H⟩
  rintro t w ⟨k2,x4,t2,hk2,E,rfl,H⟩
  unfold Rq.j0 at E
  refine cd (ds:=[15]) bZ H z z ?_
  have H:=H.drew
  refine B_ [0,1,2] H ?_
  obtain⟨⟨g3,g4⟩,E⟩:=ar E
  refine B_ [3,4,5,6,7] H ?_
  obtain⟨⟨g5,g6⟩,E⟩:=ar E
  refine B_ [8,9] H ?_
  obtain⟨⟨g7,g8⟩,E⟩:=ar E
  refine B_ [10,11,12,13] H ?_
  obtain⟨⟨g10,g11⟩,E⟩:=ar E
  refine B_ [14] H ?_
  refine wo 15 z (dc dB H 3 z g10 g11 z z (fun w H=>⟨fun h=>(h f_).elim,wd (A_ ?_)⟩))
  exact⟨k2,a_,_,_,_,a_,E,Za,H⟩
 refine A_ ?_
 cases E
 exact⟨.inl z,_,tk0 z ⟨aB z (ad (ad ai)),_,_,z,H.bN 2 3 z z z⟩⟩
def RO.l0:Nat→(Int×Int×Int)→List Int→Int→Option (Int)
 |0,_,_,_=>none
 |k+1,a0,a1,x1=>bif decide (x1<(a1.length:Int))then(an (decide ((0:Int)≤x1∧x1<(a1.length:Int))) (bif decide (at_ 0 a1 x1<0)then(some 13)else(an (decide ((0:Int)≤x1∧x1<(a1.length:Int))) (bif decide (a0.1≤at_ 0 a1 x1)then(some 13)else(an (decide ((0:Int)≤x1∧x1<(a1.length:Int))) ((Ry.f k a1 (at_ 0 a1 x1)).bind fun x2=>bif decide (x2<x1)then(some 13)else(RO.l0 k a0 a1 (I W (x1+1)))))))))else(some 0)
def RO.f(k:Nat)(a0:Int×Int×Int)(a1:List Int):Option (Int):=(kC.f (a0.1,a0.2.1,a0.2.2)).bind fun x5=>bif !decide (x5=0)then(some 10)else(RO.l0 k a0 a1 0)
theorem RO.calls{a0:Int×Int×Int}{a1:List Int}{r:Int}(h1:Rd (.of (.int .i64)) w0 (Ol no w0) v1_ a1)(E:RO.f k a0 a1=some r):
 Calls aa 21 #[.agg #[ii a0.1,ii a0.2.1,ii a0.2.2],v1_] w0 fun e w'=>e= .returned (ii r)∧St no w0 w' []:=by
 have H:=St.nil no w0
 unfold RO.f at E
 refine Zb func21 ?_
 refine rg (ye (bc (cs:=#[ii a0.1,ii a0.2.1,ii a0.2.2]) H z (fun b1 w H=>A_ ?_)))
 refine vr (bp (l:=[ii a0.1,ii a0.2.1,ii a0.2.2]) cv (H.Gt 0 z) z z z) ?_
 refine ye (E9 vT H E (fun _=>kC.calls) (fun x5 E w H=>A_ ?_))
 refine aE E z ?_ ?_<;>intro c7 E<;>refine A_ ?_
 ·cases E
  exact(aL ⟨.inl z,_,tk0 z ⟨aB z (ad ai),z,H.bs⟩⟩)
 refine bx (fun kk t w=>∃(x1:Int)(t1:Fr),kk≤k∧RO.l0 kk a0 a1 x1=some r∧t=aU t1 [(1,v1_),(2,pt b1),(4,ii 0),(5,ii x1),Zc]∧St no w0 w [.blk b1 #[ii a0.1,ii a0.2.1,ii a0.2.2] 24]) k Ze ?_
 rintro kk t w ⟨x1,t1,hk1,E,rfl,H⟩
 obtain⟨k1,rfl⟩:=Zd kk
 rw[RO.l0]at E
 refine A_ ?_
 refine aE E z ?_ ?_<;>intro c1 E<;>refine A_ ?_
 ·refine cd (ds:=[]) bZ H z z ?_
  have H:=H.drew
  refine B_ [0,1] H ?_
  obtain⟨⟨g1,g2⟩,E⟩:=ar E
  refine B_ [2,3,4,5] H ?_
  rcases bR (decide (at_ 0 a1 x1<0))with c2|c2
  ·have E:=iT c2 E
   refine B_ [6,7,8,9,10,11,12,13,14,15,16,17,18,19,20,21,22,23] H ?_
   cases E
   exact(bG (aL (aL (bG (aL ⟨.inl z,_,tk0 z ⟨aB z (ad ai),z,H.bs⟩⟩)))))
  have E:=iF c2 E
  refine B_ [6,7] H ?_
  obtain⟨⟨g3,g4⟩,E⟩:=ar E
  refine B_ [8,9,10,11,12,13,14] H ?_
  rcases bR (decide (a0.1≤at_ 0 a1 x1))with c3|c3
  ·have E:=iT c3 E
   refine B_ [15,16,17,18,19,20,21,22,23] H ?_
   cases E
   exact(bG (aL (aL (bG (aL ⟨.inl z,_,tk0 z ⟨aB z (ad ai),z,H.bs⟩⟩)))))
  have E:=iF c3 E
  refine B_ [15,16,17] H ?_
  obtain⟨⟨g5,g6⟩,E⟩:=ar E
  refine B_ [18,19,21] H ?_
  refine wp 20 z z z c3 (E9 S7 H E (fun _=>Ry.calls (H.arg (H.rd h1))) (fun x2 E w H=>⟨fun _=>H.Y8 [0],B_ [22,23] (H.Y8 [0]) ?_⟩))
  refine aE E z ?_ ?_<;>intro c4 E<;>refine A_ ?_
  ·cases E
   exact(bG (aL (aL (bG (aL ⟨.inl z,_,tk0 z ⟨aB z (ad ai),z,H.bs⟩⟩)))))
  exact⟨k1,bL _,_,_,bK hk1,E,Za,H⟩
 cases E
 exact⟨.inl z,_,tk0 z ⟨aB z (ad ai),z,H.bs⟩⟩
def j6.j0(l0r:(Int×Int×Int)→List (Int)→List (Int)→Int→Option (List Int×List Int))(k:Nat)(a0:Int×Int×Int)(l1 l2:List Int)(x1 x2 x3:Int):Option (List Int×List Int):=an (decide ((l1.length+([x2]).length)*1≤140737488355328)) ((oz.f k 1 x3).bind fun x4=>an (decide ((l2.length+([x4]).length)*1≤140737488355328)) (l0r a0 (l1++([x2])) (l2++([x4])) (I W (x1+1))))
mutual
def j6.l0:Nat→(Int×Int×Int)→List (Int)→List (Int)→Int→Option (List Int×List Int)
 |0,_,_,_,_=>none
 |k+1,a0,l1,l2,x1=>bif decide (x1<a0.1)then((kC.f (a0.1,a0.2.1,a0.2.2)).bind fun x2=>bif decide (x2=0)then((oC.f k x1).bind fun x3=>(eX.f k x3 a0.2.2).bind fun x4=>j6.l1 k a0 l1 l2 x1 x3 x4 0)else(some (l1,l2)))else(some (l1,l2))
def j6.l1:Nat→(Int×Int×Int)→List (Int)→List (Int)→Int→Int→Int→Int→Option (List Int×List Int)
 |0,_,_,_,_,_,_,_=>none
 |k+1,a0,l1,l2,x1,x3,x5,x6=>bif decide (x6<a0.1)then(bif !decide (x6=x1)then((oC.f k x6).bind fun x7=>(ik.f k x5 (bits .xor .u8 x3 x7)).bind fun x8=>j6.l1 k a0 l1 l2 x1 x3 x8 (I W (x6+1)))else(j6.l1 k a0 l1 l2 x1 x3 x5 (I W (x6+1))))else(j6.j0 (j6.l0 k) k a0 l1 l2 x1 x3 x5)
end
def j6.f(k:Nat)(a0:Int×Int×Int):Option (List Int×List Int):=j6.l0 k a0 ([]:List Int) ([]:List Int) 0
theorem j6.calls{a0:Int×Int×Int}{r:List Int×List Int}(E:j6.f k a0=some r):
 Calls aa 22 #[.agg #[ii a0.1,ii a0.2.1,ii a0.2.2]] w0 fun e w'=>∃(u0 u1:Value),e= .returned (.tuple #[u0,u1])∧St no w0 w' [Y9 u0 r.1,Y9 u1 r.2]:=by
 have H:=St.nil no w0
 unfold j6.f at E
 refine Zb func22 ?_
 refine rg (ye (bc (cs:=#[ii a0.1,ii a0.2.1,ii a0.2.2]) H z (fun b1 w H=>A_ ?_)))
 have H:=H.bB (.int .u8) 5
 have H:=H.bB (.int .u8) 5
 refine bx (fun kk t w=>∃(l1 l2:List Int)(x1:Int)(v1 v2:Value)(t1:Fr),kk≤k∧j6.l0 kk a0 l1 l2 x1=some r∧t=aU t1 [(1,pt b1),(2,sn),(3,sn),(4,v1),(5,v2),(6,ii x1),Zc]∧St no w0 w [.blk b1 #[ii a0.1,ii a0.2.1,ii a0.2.2] 24,Y9 v1 l1,Y9 v2 l2]) k Ze ?_
 rintro kk t w ⟨l1,l2,x1,v1,v2,t1,hk1,E,rfl,H⟩
 obtain⟨k1,rfl⟩:=Zd kk
 rw[j6.l0]at E
 refine A_ ?_
 rcases bR (decide (x1<a0.1))with c1|c1
 ·have E:=iT c1 E
  refine oo c1 z (bp (l:=[ii a0.1,ii a0.2.1,ii a0.2.2]) cv (H.Gt 0 z) z z z) ?_
  refine dP z c1 z (E9 vT H E (fun _=>kC.calls) (fun x2 E w H=>A_ ?_))
  refine aE E z ?_ ?_<;>intro c2 E<;>refine A_ ?_
  ·refine ye (E9 Kn H E (fun _=>oC.calls) (fun x3 E w H=>A_ ?_))
   refine ye (E9 Ko H E (fun _=>eX.calls) (fun x4 E w H=>J_ ?_))
   refine cA (fun t w=>∃(k2:Nat)(x5:Int)(t2:Fr),k2≤k1∧j6.j0 (j6.l0 k2) k2 a0 l1 l2 x1 x3 x5=some r∧t=aU t2 [(1,pt b1),(2,sn),(3,sn),(4,v1),(5,v2),(6,ii x1),(7,iu x3),(8,iu x5),Zc]∧St no w0 w [.blk b1 #[ii a0.1,ii a0.2.1,ii a0.2.2] 24,Y9 v1 l1,Y9 v2 l2]) ?_ ?_
   ·refine A_ ?_
    refine bx (fun kk t w=>∃(x6 x7:Int)(t3:Fr),kk≤k1∧j6.l1 kk a0 l1 l2 x1 x3 x6 x7=some r∧t=aU t3 [(1,pt b1),(2,sn),(3,sn),(4,v1),(5,v2),(6,ii x1),(7,iu x3),(8,iu x6),(9,ii x7),Zc]∧St no w0 w [.blk b1 #[ii a0.1,ii a0.2.1,ii a0.2.2] 24,Y9 v1 l1,Y9 v2 l2]) k1 Ze ?_
    rintro kk t w ⟨x6,x7,t3,hk2,E,rfl,H⟩
    obtain⟨k3,rfl⟩:=Zd kk
    rw[j6.l1]at E
    refine A_ ?_
    refine aE E z ?_ ?_<;>intro c3 E<;>refine A_ ?_
    ·refine aE E z ?_ ?_<;>intro c4 E<;>refine A_ ?_
     ·refine ye (E9 Kn H E (fun _=>oC.calls) (fun x8 E w H=>A_ ?_))
      refine ye (E9 rC H E (fun _=>ik.calls) (fun x9 E w H=>A_ ?_))
      exact⟨k3,bL _,_,_,_,bK hk2,E,Za,H⟩
     exact⟨k3,bL _,_,_,_,bK hk2,E,Za,H⟩
    exact⟨k3,_,_,a_,E,Za,H⟩
   rintro t w ⟨k2,x5,t2,hk3,E,rfl,H⟩
   unfold j6.j0 at E
   refine A_ ?_
   refine ye (cL (e:=(.int .u8)) (l:=[x3]) aN H z f_ ⟨z,z,acu⟩ f_ (fun v3 w H=>?_))
   obtain⟨g1,E⟩:=ar E
   refine ye (dZ aN H 1 z (ao (H.Gt 3 z)) z z a_ u_ (fun v4 w H=>A_ ?_))
   refine ye (E9 Kj H E (fun _=>oz.calls) (fun x10 E w H=>ye (cL (e:=(.int .u8)) (l:=[x10]) aN H z f_ ⟨z,z,acu⟩ f_ (fun v5 w H=>?_))))
   obtain⟨g2,E⟩:=ar E
   refine ye (dZ aN H 2 z (ao (H.Gt 4 z)) z z a_ u_ (fun v6 w H=>?_))
   have H:St _ _ _ [_,_,_,_,_]:=H
   refine A_ ?_
   exact⟨k2,a_,_,_,_,_,_,_,a_,E,Za,H.Y8 [0,1,2]⟩
  cases E
  exact⟨.inl z,_,tk0 z ⟨aB z (ad (ad ai)),_,_,z,H.bN 1 2 z z z⟩⟩
 have E:=iF c1 E
 refine A_ ?_
 cases E
 exact⟨.inl z,_,tk0 z ⟨aB z (ad (ad ai)),_,_,z,H.bN 1 2 z z z⟩⟩
mutual
def Rt.l0:Nat→List Int→Int→Option (Bool)
 |0,_,_=>none
 |k+1,a0,x1=>bif decide (x1<(a0.length:Int))then(Rt.l1 k a0 x1 0)else(some true)
def Rt.l1:Nat→List Int→Int→Int→Option (Bool)
 |0,_,_,_=>none
 |k+1,a0,x1,x2=>bif decide (x2<x1)then(an (decide ((0:Int)≤x1∧x1<(a0.length:Int))) (an (decide ((0:Int)≤x2∧x2<(a0.length:Int))) (bif decide (at_ 0 a0 x1=at_ 0 a0 x2)then(some false)else(Rt.l1 k a0 x1 (I W (x2+1))))))else(Rt.l0 k a0 (I W (x1+1)))
end
def Rt.f(k:Nat)(a0 a1:List Int)(a2:Int):Option (Bool):=bif decide (a2<1)then(some false)else(bif decide ((a0.length:Int)<a2)then(some false)else(bif !decide ((a1.length:Int)=(a0.length:Int))then(some false)else(bif decide (255<(a0.length:Int))then(some false)else(Rt.l0 k a0 0))))
theorem Rt.calls{a0 a1:List Int}{a2:Int}{r:Bool}(h0:Zf no w0 v0_ a0)(h1:Zf no w0 v1_ a1)(E:Rt.f k a0 a1 a2=some r):
 Calls aa 55 #[v0_,v1_,ii a2] w0 fun e w'=>e= .returned (.bool r)∧St no w0 w' []:=by
 have H:=St.nil no w0
 unfold Rt.f at E
 refine Zb func55 ?_
 refine A_ ?_
 rcases bR (decide (a2<1))with c5|c5
 ·have E:=iT c5 E
  refine A_ ?_
  cases E
  exact(aL ⟨.inl z,_,tk0 z ⟨aB z (ad ai),z,H.bs⟩⟩)
 have E:=iF c5 E
 refine A_ ?_
 rcases bR (decide ((a0.length:Int)<a2))with c6|c6
 ·have E:=iT c6 E
  refine A_ ?_
  cases E
  exact(aL ⟨.inl z,_,tk0 z ⟨aB z (ad ai),z,H.bs⟩⟩)
 have E:=iF c6 E
 refine A_ ?_
 rcases bR (!decide ((a1.length:Int)=(a0.length:Int)))with c7|c7
 ·have E:=iT c7 E
  refine A_ ?_
  cases E
  exact(aL ⟨.inl z,_,tk0 z ⟨aB z (ad ai),z,H.bs⟩⟩)
 have E:=iF c7 E
 refine A_ ?_
 refine aE E z ?_ ?_<;>intro c8 E<;>refine A_ ?_
 ·cases E
  exact(aL ⟨.inl z,_,tk0 z ⟨aB z (ad ai),z,H.bs⟩⟩)
 refine bx (fun kk t w=>∃(x1:Int)(t1:Fr),kk≤k∧Rt.l0 kk a0 x1=some r∧t=aU t1 [(0,v0_),(6,.bool false),(7,ii x1),Zc]∧St no w0 w []) k Ze ?_
 rintro kk t w ⟨x1,t1,hk1,E,rfl,H⟩
 obtain⟨k1,rfl⟩:=Zd kk
 rw[Rt.l0]at E
 refine A_ ?_
 refine aE E z ?_ ?_<;>intro c1 E<;>refine A_ ?_
 ·refine bx (fun kk t w=>∃(x2:Int)(t2:Fr),kk≤k1∧Rt.l1 kk a0 x1 x2=some r∧t=aU t2 [(0,v0_),(6,.bool false),(7,ii x1),(8,ii x2),Zc]∧St no w0 w []) k1 Ze ?_
  rintro kk t w ⟨x2,t2,hk2,E,rfl,H⟩
  obtain⟨k2,rfl⟩:=Zd kk
  rw[Rt.l1]at E
  refine A_ ?_
  refine aE E z ?_ ?_<;>intro c2 E<;>refine A_ ?_
  ·refine cd (ds:=[]) bZ H z z ?_
   have H:=H.drew
   refine B_ [0,1] H ?_
   obtain⟨⟨g1,g2⟩,E⟩:=ar E
   refine B_ [2,3,4,5] H ?_
   obtain⟨⟨g3,g4⟩,E⟩:=ar E
   refine B_ [6,7,8] H ?_
   refine aE E z ?_ ?_<;>intro c3 E<;>refine A_ ?_
   ·cases E
    exact(bG (aL (aL (bG (bG (aL (aL (bG (aL ⟨.inl z,_,tk0 z ⟨aB z (ad ai),z,H.bs⟩⟩)))))))))
   exact⟨k2,bL _,_,_,bK hk2,E,Za,H⟩
  exact⟨k2,a_,_,_,a_,E,Za,H⟩
 cases E
 exact⟨.inl z,_,tk0 z ⟨aB z (ad ai),z,H.bs⟩⟩
def SB.f(a0:Int×Int×List Int):Option (Bool):=bif decide (0≤a0.1)then(bif decide (a0.1≤300)then(bif decide (0≤a0.2.1)then(bif decide (a0.2.1≤300)then(some (decide ((a0.2.2.length:Int)=I W (a0.1*a0.2.1))))else(some false))else(some false))else(some false))else(some false)
theorem SB.calls{a0:Int×Int×List Int}{r:Bool}(h0_2:Zf no w0 v0_2_ a0.2.2)(E:SB.f a0=some r):
 Calls aa 133 #[.agg #[ii a0.1,ii a0.2.1,v0_2_]] w0 fun e w'=>e= .returned (.bool r)∧St no w0 w' []:=by
 have H:=St.nil no w0
 unfold SB.f at E
 refine Zb func133 ?_
 refine rg (ye (bc (cs:=#[ii a0.1,ii a0.2.1,v0_2_]) H z (fun b1 w H=>A_ ?_)))
 rcases bR (decide (0≤a0.1))with c2|c2
 ·have E:=iT c2 E
  refine A_ ?_
  rcases bR (decide (a0.1≤300))with c3|c3
  ·have E:=iT c3 E
   refine A_ ?_
   rcases bR (decide (0≤a0.2.1))with c4|c4
   ·have E:=iT c4 E
    refine A_ ?_
    rcases bR (decide (a0.2.1≤300))with c5|c5
    ·have E:=iT c5 E
     refine A_ ?_
     cases E
     exact⟨.inl z,_,tk0 z ⟨aB z (ad ai),z,H.bs⟩⟩
    have E:=iF c5 E
    refine A_ ?_
    cases E
    exact⟨.inl z,_,tk0 z ⟨aB z (ad ai),z,H.bs⟩⟩
   have E:=iF c4 E
   refine A_ ?_
   cases E
   exact⟨.inl z,_,tk0 z ⟨aB z (ad ai),z,H.bs⟩⟩
  have E:=iF c3 E
  refine A_ ?_
  cases E
  exact⟨.inl z,_,tk0 z ⟨aB z (ad ai),z,H.bs⟩⟩
 have E:=iF c2 E
 refine A_ ?_
 cases E
 exact⟨.inl z,_,tk0 z ⟨aB z (ad ai),z,H.bs⟩⟩
def R3.l0:Nat→Int→List Int→List (Int)→Int→Option (List Int)
 |0,_,_,_,_=>none
 |k+1,a0,a1,l1,x1=>bif decide (x1<(a1.length:Int))then(an (decide ((0:Int)≤x1∧x1<(a1.length:Int))) ((ik.f k a0 (at_ 0 a1 x1)).bind fun x2=>an (decide ((l1.length+([x2]).length)*1≤140737488355328)) (R3.l0 k a0 a1 (l1++([x2])) (I W (x1+1)))))else(some l1)
def R3.f(k:Nat)(a0:Int)(a1:List Int):Option (List Int):=R3.l0 k a0 a1 ([]:List Int) 0
theorem R3.calls{a0:Int}{a1:List Int}{r:List Int}(h1:Zf no w0 v1_ a1)(E:R3.f k a0 a1=some r):
 Calls aa 197 #[iu a0,v1_] w0 fun e w'=>∃(u0:Value),e= .returned (u0)∧St no w0 w' [Y9 u0 r]:=by
 have H:=St.nil no w0
 unfold R3.f at E
 refine Zb func197 ?_
 refine A_ ?_
 have H:=H.bB (.int .u8) 5
 refine bx (fun kk t w=>∃(l1:List Int)(x1:Int)(v1:Value)(t1:Fr),kk≤k∧R3.l0 kk a0 a1 l1 x1=some r∧t=aU t1 [(0,iu a0),(1,v1_),(4,sn),(5,v1),(6,ii x1),Zc]∧St no w0 w [Y9 v1 l1]) k Ze ?_
 rintro kk t w ⟨l1,x1,v1,t1,hk1,E,rfl,H⟩
 obtain⟨k31,rfl⟩:=Zd kk
 rw[R3.l0]at E
 refine A_ ?_
 refine aE E z ?_ ?_<;>intro c1 E<;>refine A_ ?_
 ·obtain⟨⟨g1,g2⟩,E⟩:=ar E
  refine A_ ?_
  refine ye (E9 rC H E (fun _=>ik.calls) (fun x2 E w H=>ye (cL (e:=(.int .u8)) (l:=[x2]) aN H z f_ ⟨z,z,acu⟩ f_ (fun v2 w H=>?_))))
  obtain⟨g3,E⟩:=ar E
  refine ye (dZ aN H 0 z (ao (H.Gt 1 z)) z z a_ u_ (fun v3 w H=>A_ ?_))
  exact⟨k31,bL _,_,_,_,_,bK hk1,E,Za,H.Y8 [0]⟩
 cases E
 exact⟨.inl z,_,tk0 z ⟨aB z (ad ai),_,z,H.bA 0 z⟩⟩
def R8.l0:Nat→List Int→Int→List Int→List (Int)→Int→Option (List Int)
 |0,_,_,_,_,_=>none
 |k+1,a0,a1,a2,l1,x1=>bif decide (x1<(a0.length:Int))then(an (decide ((0:Int)≤x1∧x1<(a0.length:Int))) (an (decide ((0:Int)≤x1∧x1<(a2.length:Int))) ((ik.f k a1 (at_ 0 a2 x1)).bind fun x2=>an (decide ((l1.length+([bits .xor .u8 (at_ 0 a0 x1) x2]).length)*1≤140737488355328)) (R8.l0 k a0 a1 a2 (l1++([bits .xor .u8 (at_ 0 a0 x1) x2])) (I W (x1+1))))))else(some l1)
def R8.f(k:Nat)(a0:List Int)(a1:Int)(a2:List Int):Option (List Int):=R8.l0 k a0 a1 a2 ([]:List Int) 0
theorem R8.calls{a0:List Int}{a1:Int}{a2:List Int}{r:List Int}(h0:Zf no w0 v0_ a0)(h2:Zf no w0 v2_ a2)(E:R8.f k a0 a1 a2=some r):
 Calls aa 198 #[v0_,iu a1,v2_] w0 fun e w'=>∃(u0:Value),e= .returned (u0)∧St no w0 w' [Y9 u0 r]:=by
 have H:=St.nil no w0
 unfold R8.f at E
 refine Zb func198 ?_
 refine A_ ?_
 have H:=H.bB (.int .u8) 5
 refine bx (fun kk t w=>∃(l1:List Int)(x1:Int)(v1:Value)(t1:Fr),kk≤k∧R8.l0 kk a0 a1 a2 l1 x1=some r∧t=aU t1 [(0,v0_),(1,iu a1),(2,v2_),(6,sn),(7,v1),(8,ii x1),Zc]∧St no w0 w [Y9 v1 l1]) k Ze ?_
 rintro kk t w ⟨l1,x1,v1,t1,hk1,E,rfl,H⟩
 obtain⟨k1,rfl⟩:=Zd kk
 rw[R8.l0]at E
 refine A_ ?_
 refine aE E z ?_ ?_<;>intro c1 E<;>refine A_ ?_
 ·refine eZ (ds:=[]) (fun w=>∃(v':Value)(l':List Int),St no w0 w [Y9 v' l']) bZ H z z ?_
  have H:=H.drew
  refine B_ [0,1,2] ⟨_,_,H⟩ ?_
  obtain⟨⟨g1,g2⟩,E⟩:=ar E
  refine B_ [3,4,5,6,7] ⟨_,_,H⟩ ?_
  obtain⟨⟨g3,g4⟩,E⟩:=ar E
  refine B_ [8,9] ⟨_,_,H⟩ ?_
  refine wo 10 z (E9 rC H E (fun _=>ik.calls) (fun x2 E w H=>⟨fun _=>⟨_,_,H.Y8 [0]⟩,wg 11 z ⟨_,_,H.Y8 [0]⟩ (ij z z) (wo 12 z (cL (e:=(.int .u8)) (l:=[bits .xor .u8 (at_ 0 a0 x1) x2]) aN H z f_ ⟨z,z,acu⟩ f_ (fun v2 w H=>⟨fun _=>⟨_,_,H.Y8 [0]⟩,?_⟩)))⟩))
  obtain⟨g5,E⟩:=ar E
  refine wo 13 z (dZ aN H 0 z (ao (H.Gt 1 z)) z z a_ u_ (fun v3 w H=>⟨fun _=>⟨_,_,H.Y8 [0]⟩,B_ [14] ⟨_,_,H.Y8 [0]⟩ ?_⟩))
  exact⟨k1,bL _,_,_,_,_,bK hk1,E,Za,H.Y8 [0]⟩
 cases E
 exact⟨.inl z,_,tk0 z ⟨aB z (ad ai),_,z,H.bA 0 z⟩⟩
end Go.Proofs.YtmhkpafkadijgaaGreatDoor.Gw
